/- ActRight: the walk. -/
import Derived.Test.YtjecfilbdabheaaAct0
namespace Go.Proofs.Ytjecfilbdabheaa
open Go.RowKit
set_option linter.unusedSimpArgs false
set_option linter.unusedVariables false

namespace Px
theorem step_info {n : Int} {x : Node} {g h : Frame} (hx : nodeRight n x = true) (hm : x.mode ≠ 0) (hg : heardOk n g = true) (h2 : g.kind = 2) (hh : h.kind = 0) :
    (step n x g h).mode = 1 ∨ ((step n x g h).mode = 3 ∧ (step n x g h).pos = (g.id + 1) % n) := by
  obtain ⟨h3, h8, h0, h1, h4, h5, h6, h7, _, _, h10, h11⟩ := nodeRight_iff.1 hx
  have hg' := heardOk_iff.1 hg
  have hn := next_mod (n := n) (p := g.id) (by omega) (by omega)
  have ho : otherOf g h x.id = none := by simp [otherOf, h2, hh]
  have hi : infoOf g h = some g.id := by simp [infoOf, h2]
  unfold step
  split
  · split
    · left; rfl
    · rename_i _ hw
      have hp : g.id = x.pos := by omega
      have hc : countOf x g h = 0 := by simp [countOf, h2, hp]
      rw [ho, hc, ← hp]
      simp [hn]
      rw [if_neg (by omega)]
      simp
  · rw [hi]; right; exact ⟨rfl, hn⟩
theorem step_info' {n : Int} {x : Node} {g h : Frame} (hx : nodeRight n x = true) (hm : x.mode ≠ 0) (hg : heardOk n h = true) (h2 : h.kind = 2) (hh : g.kind = 0) :
    (step n x g h).mode = 1 ∨ ((step n x g h).mode = 3 ∧ (step n x g h).pos = (h.id + 1) % n) := by
  obtain ⟨h3, h8, h0, h1, h4, h5, h6, h7, _, _, h10, h11⟩ := nodeRight_iff.1 hx
  have hg' := heardOk_iff.1 hg
  have hn := next_mod (n := n) (p := h.id) (by omega) (by omega)
  have ho : otherOf g h x.id = none := by simp [otherOf, h2, hh]
  have hi : infoOf g h = some h.id := by simp [infoOf, h2, hh]
  unfold step
  split
  · split
    · left; rfl
    · rename_i _ hw
      have hp : h.id = x.pos := by omega
      have hc : countOf x g h = 0 := by simp [countOf, h2, hp]
      rw [ho, hc, ← hp]
      simp [hn]
      rw [if_neg (by omega)]
      simp
  · rw [hi]; right; exact ⟨rfl, hn⟩
end Px

/-- the number of nodes that a byte tells -/
theorem six {n : Int} (h0 : 0 ≤ n) (h1 : n ≤ 255) : ∃ r, n.tmod 6 = r ∧ 0 ≤ r ∧ r ≤ 5 ∧ n % 6 = r := by
  refine ⟨n % 6, ?_, by omega, by omega, rfl⟩
  rw [Int.tmod_eq_emod_of_nonneg h0]

set_option maxRecDepth 100000 in
set_option maxHeartbeats 2000000 in
theorem ActRight_bad (n id m c p a b d e r : Int) (hn0 : 0 ≤ n) (hn1 : n ≤ 255) (hr : n.tmod 6 = r) (hr' : n % 6 = r) (hr0 : 0 ≤ r) (hr1 : r ≤ 5) (h : (Px.heardOk (3 + r) ⟨a, b⟩ && Px.heardOk (3 + r) ⟨d, e⟩) = false) (w : World) :
    Calls Try.prog 5 #[.int .u8 n, .agg #[.int .i64 id, .int .i64 m, .int .i64 c, .int .i64 p], .agg #[.int .i64 a, .int .i64 b, .int .i64 d, .int .i64 e]] w (Ret (.bool (true)) w) := by
  go_enter Try.func5, Try.ntmps5
  go_wp2_with (first | (go_at_call 34; (with_reducible refine ((ref09_Heard (3 + r) a b d e _).g).mono ?_); rintro _ _ ⟨rfl, z, rfl⟩) | (go_at_call 35; (with_reducible refine ((awake09 _).g).mono ?_); rintro _ _ ⟨rfl, z, rfl⟩))
  go_ret
  exact Ret.mk rfl (by repeat (first | exact Below.refl _ _ | assumption | refine Below.grow ?_ (by first | omega | (simp [go_sem]; done) | (simp [go_sem]; omega)) _ | refine Below.alloc ?_ (by first | omega | (simp [go_sem]; done) | (simp [go_sem]; omega)) _ | refine Below.drew ?_ | refine below_drewN ?_ _ | refine Below.setCell ?_ (by first | omega | (simp [go_sem]; done) | (simp [go_sem]; omega)) _))
set_option maxRecDepth 100000 in
set_option maxHeartbeats 2000000 in
theorem ActRight_err (n id m c p a b d e r : Int) (hn0 : 0 ≤ n) (hn1 : n ≤ 255) (hr : n.tmod 6 = r) (hr' : n % 6 = r) (hr0 : 0 ≤ r) (hr1 : r ≤ 5) (hg : Px.heardOk (3 + r) ⟨a, b⟩ = true) (hh : Px.heardOk (3 + r) ⟨d, e⟩ = true)
    (hs : Px.nodeRight (3 + r) ⟨id, m, c, p⟩ = false ∨ (Px.nodeRight (3 + r) ⟨id, m, c, p⟩ = true ∧ m = 0)) (w : World) :
    Calls Try.prog 5 #[.int .u8 n, .agg #[.int .i64 id, .int .i64 m, .int .i64 c, .int .i64 p], .agg #[.int .i64 a, .int .i64 b, .int .i64 d, .int .i64 e]] w (Ret (.bool (true)) w) := by
  have hst : Px.stepped (3 + r) ⟨id, m, c, p⟩ ⟨a, b⟩ ⟨d, e⟩ = (⟨0, 0, 0, 0⟩, 1) := by
    rcases hs with h | ⟨_, h⟩
    · exact Px.stepped_bad h
    · exact Px.stepped_init h
  have hS : ∀ W, Calls Try.prog 36 #[.int .i64 (3 + r), .agg #[.int .i64 id, .int .i64 m, .int .i64 c, .int .i64 p], .agg #[.int .i64 a, .int .i64 b, .int .i64 d, .int .i64 e]] W (Ret (.tuple #[.agg #[.int .i64 0, .int .i64 0, .int .i64 0, .int .i64 0], .int .i64 1]) W) := fun W => by
    have h := act_Step' (3 + r) id m c p a b d e hg hh W
    rw [hst] at h
    exact h
  clear hst
  rcases hs with h | ⟨h, rfl⟩
  all_goals
    go_enter Try.func5, Try.ntmps5
    go_wp2_with (first | (go_at_call 34; (with_reducible refine ((ref09_Heard (3 + r) a b d e _).g).mono ?_); rintro _ _ ⟨rfl, z, rfl⟩) | (go_at_call 35; (with_reducible refine ((awake09 _).g).mono ?_); rintro _ _ ⟨rfl, z, rfl⟩) | (go_at_call 36; (with_reducible refine ((hS _).g).mono ?_); rintro _ _ ⟨rfl, z, rfl⟩) | (go_at_call 37; (with_reducible refine ((ref06_Right' (3 + r) id _ c p _).g).mono ?_); rintro _ _ ⟨rfl, z, rfl⟩))
    go_ret
    exact Ret.mk rfl (by repeat (first | exact Below.refl _ _ | assumption | refine Below.grow ?_ (by first | omega | (simp [go_sem]; done) | (simp [go_sem]; omega)) _ | refine Below.alloc ?_ (by first | omega | (simp [go_sem]; done) | (simp [go_sem]; omega)) _ | refine Below.drew ?_ | refine below_drewN ?_ _ | refine Below.setCell ?_ (by first | omega | (simp [go_sem]; done) | (simp [go_sem]; omega)) _))
/-- what is known of the answer -/
def RightOk (M a b d e ym yp : Int) : Prop := (a = 2 → d = 0 → (ym = 1 ∨ (ym = 3 ∧ yp = (b + 1).tmod M))) ∧ (d = 2 → a = 0 → (ym = 1 ∨ (ym = 3 ∧ yp = (e + 1).tmod M)))
theorem rightOk_of {M id m c p a b d e : Int} (hx : Px.nodeRight M ⟨id, m, c, p⟩ = true) (hm : m ≠ 0) (hg : Px.heardOk M ⟨a, b⟩ = true) (hh : Px.heardOk M ⟨d, e⟩ = true) :
    RightOk M a b d e (Px.step M ⟨id, m, c, p⟩ ⟨a, b⟩ ⟨d, e⟩).mode (Px.step M ⟨id, m, c, p⟩ ⟨a, b⟩ ⟨d, e⟩).pos := by
  have hb := Px.heardOk_iff.1 hg
  have he := Px.heardOk_iff.1 hh
  simp only at hb he
  refine ⟨fun h1 h2 => ?_, fun h1 h2 => ?_⟩
  · rw [Int.tmod_eq_emod_of_nonneg (by omega)]
    exact Px.step_info hx hm hg h1 h2
  · rw [Int.tmod_eq_emod_of_nonneg (by omega)]
    exact Px.step_info' hx hm hh h1 h2
set_option maxRecDepth 100000 in
set_option maxHeartbeats 2000000 in
theorem ActRight_ok (n id m c p a b d e r ym yc yp : Int) (hn0 : 0 ≤ n) (hn1 : n ≤ 255) (hr : n.tmod 6 = r) (hr' : n % 6 = r) (hr0 : 0 ≤ r) (hr1 : r ≤ 5)
    (hg : (Px.heardOk (3 + r) ⟨a, b⟩ && Px.heardOk (3 + r) ⟨d, e⟩) = true) (hR : Px.nodeRight (3 + r) ⟨id, m, c, p⟩ = true) (hm : m ≠ 0)
    (hS : ∀ W, Calls Try.prog 36 #[.int .i64 (3 + r), .agg #[.int .i64 id, .int .i64 m, .int .i64 c, .int .i64 p], .agg #[.int .i64 a, .int .i64 b, .int .i64 d, .int .i64 e]] W (Ret (.tuple #[.agg #[.int .i64 id, .int .i64 ym, .int .i64 yc, .int .i64 yp], .int .i64 0]) W)) (hY : Px.nodeRight (3 + r) ⟨id, ym, yc, yp⟩ = true) (hym : ym ≠ 0)
    (hk : Hid (RightOk (3 + r) a b d e ym yp)) (w : World) :
    Calls Try.prog 5 #[.int .u8 n, .agg #[.int .i64 id, .int .i64 m, .int .i64 c, .int .i64 p], .agg #[.int .i64 a, .int .i64 b, .int .i64 d, .int .i64 e]] w (Ret (.bool (true)) w) := by
  obtain ⟨T, hT⟩ : ∃ T, (b + 1).tmod (3 + r) = T := ⟨_, rfl⟩
  obtain ⟨U, hU⟩ : ∃ U, (e + 1).tmod (3 + r) = U := ⟨_, rfl⟩
  have hbw : Hid (a = 2 → wrap64 (b + 1) = b + 1) := fun h => by
    simp only [Bool.and_eq_true, Px.heardOk_iff] at hg
    exact wrap64_of (by omega)
  have hew : Hid (d = 2 → wrap64 (e + 1) = e + 1) := fun h => by
    simp only [Bool.and_eq_true, Px.heardOk_iff] at hg
    exact wrap64_of (by omega)
  have hK := hk.out
  unfold RightOk at hK
  rw [hT, hU] at hK
  clear hk
  have hc : (a = 2 ∧ d = 2) ∨ (a = 2 ∧ ¬ d = 2 ∧ ¬ d = 0) ∨ (a = 2 ∧ d = 0 ∧ ¬ e = 0) ∨ (a = 2 ∧ d = 0 ∧ e = 0 ∧ ym = 1) ∨ (a = 2 ∧ d = 0 ∧ e = 0 ∧ ym = 3 ∧ yp = T) ∨
      (¬ a = 2 ∧ ¬ d = 2) ∨ (¬ a = 2 ∧ d = 2 ∧ ¬ a = 0) ∨ (a = 0 ∧ d = 2 ∧ ¬ b = 0) ∨ (a = 0 ∧ d = 2 ∧ b = 0 ∧ ym = 1) ∨ (a = 0 ∧ d = 2 ∧ b = 0 ∧ ym = 3 ∧ yp = U) := by
    by_cases h1 : a = 2
    · by_cases h2 : d = 2
      · exact .inl ⟨h1, h2⟩
      · by_cases h3 : d = 0
        · by_cases h4 : e = 0
          · rcases hK.1 h1 h3 with h | ⟨h, h'⟩
            · exact .inr (.inr (.inr (.inl ⟨h1, h3, h4, h⟩)))
            · exact .inr (.inr (.inr (.inr (.inl ⟨h1, h3, h4, h, h'⟩))))
          · exact .inr (.inr (.inl ⟨h1, h3, h4⟩))
        · exact .inr (.inl ⟨h1, h2, h3⟩)
    · by_cases h2 : d = 2
      · by_cases h3 : a = 0
        · by_cases h4 : b = 0
          · rcases hK.2 h2 h3 with h | ⟨h, h'⟩
            · exact .inr (.inr (.inr (.inr (.inr (.inr (.inr (.inr (.inl ⟨h3, h2, h4, h⟩))))))))
            · exact .inr (.inr (.inr (.inr (.inr (.inr (.inr (.inr (.inr ⟨h3, h2, h4, h, h'⟩))))))))
          · exact .inr (.inr (.inr (.inr (.inr (.inr (.inr (.inl ⟨h3, h2, h4⟩)))))))
        · exact .inr (.inr (.inr (.inr (.inr (.inr (.inl ⟨h1, h2, h3⟩))))))
      · exact .inr (.inr (.inr (.inr (.inr (.inl ⟨h1, h2⟩)))))
  clear hK
  rcases hc with ⟨h1, h2⟩ | ⟨h1, h2, h3⟩ | ⟨h1, h2, h3⟩ | ⟨h1, h2, h3, h4⟩ | ⟨h1, h2, h3, h4, h5⟩ | ⟨h1, h2⟩ | ⟨h1, h2, h3⟩ | ⟨h1, h2, h3⟩ | ⟨h1, h2, h3, h4⟩ | ⟨h1, h2, h3, h4, h5⟩
  · subst h1 h2
    go_enter Try.func5, Try.ntmps5
    go_wp2_with (first | (go_at_call 34; (with_reducible refine ((ref09_Heard (3 + r) _ _ _ _ _).g).mono ?_); rintro _ _ ⟨rfl, z, rfl⟩) | (go_at_call 35; (with_reducible refine ((awake09 _).g).mono ?_); rintro _ _ ⟨rfl, z, rfl⟩) | (go_at_call 36; (with_reducible refine ((hS _).g).mono ?_); rintro _ _ ⟨rfl, z, rfl⟩) | (go_at_call 37; (with_reducible refine ((ref06_Right' (3 + r) id _ _ _ _).g).mono ?_); rintro _ _ ⟨rfl, z, rfl⟩))
    refine wp_loop_rounds 3 ?_
    rw [rounds_succ]
    go_wp2_with (first | (refine wp_region_calm (by kernel_rfl) (by kernel_rfl) ?_; (repeat (first | go_big_quiet_step (fail) | quiet_step (fail))); refine wpQuiet_nil ?_; rintro _ ⟨z, rfl⟩))
    rw [rounds_succ]
    go_wp2_with (first | (refine wp_region_calm (by kernel_rfl) (by kernel_rfl) ?_; (repeat (first | go_big_quiet_step (fail) | quiet_step (fail))); refine wpQuiet_nil ?_; rintro _ ⟨z, rfl⟩))
    rw [rounds_succ]
    go_wp2_with (first | (refine wp_region_calm (by kernel_rfl) (by kernel_rfl) ?_; (repeat (first | go_big_quiet_step (fail) | quiet_step (fail))); refine wpQuiet_nil ?_; rintro _ ⟨z, rfl⟩) | (go_at_call 35; (with_reducible refine ((awake09 _).g).mono ?_); rintro _ _ ⟨rfl, z, rfl⟩))
    go_ret
    exact Ret.mk rfl (by repeat (first | exact Below.refl _ _ | assumption | refine Below.grow ?_ (by first | omega | (simp [go_sem]; done) | (simp [go_sem]; omega)) _ | refine Below.alloc ?_ (by first | omega | (simp [go_sem]; done) | (simp [go_sem]; omega)) _ | refine Below.drew ?_ | refine below_drewN ?_ _ | refine Below.setCell ?_ (by first | omega | (simp [go_sem]; done) | (simp [go_sem]; omega)) _))
  · subst h1
    go_enter Try.func5, Try.ntmps5
    go_wp2_with (first | (go_at_call 34; (with_reducible refine ((ref09_Heard (3 + r) _ _ _ _ _).g).mono ?_); rintro _ _ ⟨rfl, z, rfl⟩) | (go_at_call 35; (with_reducible refine ((awake09 _).g).mono ?_); rintro _ _ ⟨rfl, z, rfl⟩) | (go_at_call 36; (with_reducible refine ((hS _).g).mono ?_); rintro _ _ ⟨rfl, z, rfl⟩) | (go_at_call 37; (with_reducible refine ((ref06_Right' (3 + r) id _ _ _ _).g).mono ?_); rintro _ _ ⟨rfl, z, rfl⟩))
    refine wp_loop_rounds 3 ?_
    rw [rounds_succ]
    go_wp2_with (first | (refine wp_region_calm (by kernel_rfl) (by kernel_rfl) ?_; (repeat (first | go_big_quiet_step (fail) | quiet_step (fail))); refine wpQuiet_nil ?_; rintro _ ⟨z, rfl⟩))
    rw [rounds_succ]
    go_wp2_with (first | (refine wp_region_calm (by kernel_rfl) (by kernel_rfl) ?_; (repeat (first | go_big_quiet_step (fail) | quiet_step (fail))); refine wpQuiet_nil ?_; rintro _ ⟨z, rfl⟩))
    rw [rounds_succ]
    go_wp2_with (first | (refine wp_region_calm (by kernel_rfl) (by kernel_rfl) ?_; (repeat (first | go_big_quiet_step (fail) | quiet_step (fail))); refine wpQuiet_nil ?_; rintro _ ⟨z, rfl⟩) | (go_at_call 35; (with_reducible refine ((awake09 _).g).mono ?_); rintro _ _ ⟨rfl, z, rfl⟩))
    go_ret
    exact Ret.mk rfl (by repeat (first | exact Below.refl _ _ | assumption | refine Below.grow ?_ (by first | omega | (simp [go_sem]; done) | (simp [go_sem]; omega)) _ | refine Below.alloc ?_ (by first | omega | (simp [go_sem]; done) | (simp [go_sem]; omega)) _ | refine Below.drew ?_ | refine below_drewN ?_ _ | refine Below.setCell ?_ (by first | omega | (simp [go_sem]; done) | (simp [go_sem]; omega)) _))
  · subst h1 h2
    go_enter Try.func5, Try.ntmps5
    go_wp2_with (first | (go_at_call 34; (with_reducible refine ((ref09_Heard (3 + r) _ _ _ _ _).g).mono ?_); rintro _ _ ⟨rfl, z, rfl⟩) | (go_at_call 35; (with_reducible refine ((awake09 _).g).mono ?_); rintro _ _ ⟨rfl, z, rfl⟩) | (go_at_call 36; (with_reducible refine ((hS _).g).mono ?_); rintro _ _ ⟨rfl, z, rfl⟩) | (go_at_call 37; (with_reducible refine ((ref06_Right' (3 + r) id _ _ _ _).g).mono ?_); rintro _ _ ⟨rfl, z, rfl⟩))
    refine wp_loop_rounds 3 ?_
    rw [rounds_succ]
    go_wp2_with (first | (refine wp_region_calm (by kernel_rfl) (by kernel_rfl) ?_; (repeat (first | go_big_quiet_step (fail) | quiet_step (fail))); refine wpQuiet_nil ?_; rintro _ ⟨z, rfl⟩))
    rw [rounds_succ]
    go_wp2_with (first | (refine wp_region_calm (by kernel_rfl) (by kernel_rfl) ?_; (repeat (first | go_big_quiet_step (fail) | quiet_step (fail))); refine wpQuiet_nil ?_; rintro _ ⟨z, rfl⟩))
    rw [rounds_succ]
    go_wp2_with (first | (refine wp_region_calm (by kernel_rfl) (by kernel_rfl) ?_; (repeat (first | go_big_quiet_step (fail) | quiet_step (fail))); refine wpQuiet_nil ?_; rintro _ ⟨z, rfl⟩) | (go_at_call 35; (with_reducible refine ((awake09 _).g).mono ?_); rintro _ _ ⟨rfl, z, rfl⟩))
    go_ret
    exact Ret.mk rfl (by repeat (first | exact Below.refl _ _ | assumption | refine Below.grow ?_ (by first | omega | (simp [go_sem]; done) | (simp [go_sem]; omega)) _ | refine Below.alloc ?_ (by first | omega | (simp [go_sem]; done) | (simp [go_sem]; omega)) _ | refine Below.drew ?_ | refine below_drewN ?_ _ | refine Below.setCell ?_ (by first | omega | (simp [go_sem]; done) | (simp [go_sem]; omega)) _))
  · subst h1 h2 h3 h4
    go_enter Try.func5, Try.ntmps5
    go_wp2_with (first | (go_at_call 34; (with_reducible refine ((ref09_Heard (3 + r) _ _ _ _ _).g).mono ?_); rintro _ _ ⟨rfl, z, rfl⟩) | (go_at_call 35; (with_reducible refine ((awake09 _).g).mono ?_); rintro _ _ ⟨rfl, z, rfl⟩) | (go_at_call 36; (with_reducible refine ((hS _).g).mono ?_); rintro _ _ ⟨rfl, z, rfl⟩) | (go_at_call 37; (with_reducible refine ((ref06_Right' (3 + r) id _ _ _ _).g).mono ?_); rintro _ _ ⟨rfl, z, rfl⟩))
    refine wp_loop_rounds 3 ?_
    rw [rounds_succ]
    go_wp2_with (first | (refine wp_region_calm (by kernel_rfl) (by kernel_rfl) ?_; (repeat (first | go_big_quiet_step (fail) | quiet_step (fail))); refine wpQuiet_nil ?_; rintro _ ⟨z, rfl⟩))
    rw [rounds_succ]
    go_wp2_with (first | (refine wp_region_calm (by kernel_rfl) (by kernel_rfl) ?_; (repeat (first | go_big_quiet_step (fail) | quiet_step (fail))); refine wpQuiet_nil ?_; rintro _ ⟨z, rfl⟩))
    rw [rounds_succ]
    go_wp2_with (first | (refine wp_region_calm (by kernel_rfl) (by kernel_rfl) ?_; (repeat (first | go_big_quiet_step (fail) | quiet_step (fail))); refine wpQuiet_nil ?_; rintro _ ⟨z, rfl⟩) | (go_at_call 35; (with_reducible refine ((awake09 _).g).mono ?_); rintro _ _ ⟨rfl, z, rfl⟩))
    go_ret
    exact Ret.mk rfl (by repeat (first | exact Below.refl _ _ | assumption | refine Below.grow ?_ (by first | omega | (simp [go_sem]; done) | (simp [go_sem]; omega)) _ | refine Below.alloc ?_ (by first | omega | (simp [go_sem]; done) | (simp [go_sem]; omega)) _ | refine Below.drew ?_ | refine below_drewN ?_ _ | refine Below.setCell ?_ (by first | omega | (simp [go_sem]; done) | (simp [go_sem]; omega)) _))
  · subst h1 h2 h3 h4 h5
    have hw := hbw.out rfl
    go_enter Try.func5, Try.ntmps5
    go_wp2_with (first | (go_at_call 34; (with_reducible refine ((ref09_Heard (3 + r) _ _ _ _ _).g).mono ?_); rintro _ _ ⟨rfl, z, rfl⟩) | (go_at_call 35; (with_reducible refine ((awake09 _).g).mono ?_); rintro _ _ ⟨rfl, z, rfl⟩) | (go_at_call 36; (with_reducible refine ((hS _).g).mono ?_); rintro _ _ ⟨rfl, z, rfl⟩) | (go_at_call 37; (with_reducible refine ((ref06_Right' (3 + r) id _ _ _ _).g).mono ?_); rintro _ _ ⟨rfl, z, rfl⟩))
    refine wp_loop_rounds 3 ?_
    rw [rounds_succ]
    go_wp2_with (first | (refine wp_region_calm (by kernel_rfl) (by kernel_rfl) ?_; (repeat (first | go_big_quiet_step (fail) | quiet_step (fail))); refine wpQuiet_nil ?_; rintro _ ⟨z, rfl⟩))
    rw [rounds_succ]
    go_wp2_with (first | (refine wp_region_calm (by kernel_rfl) (by kernel_rfl) ?_; (repeat (first | go_big_quiet_step (fail) | quiet_step (fail))); refine wpQuiet_nil ?_; rintro _ ⟨z, rfl⟩))
    rw [rounds_succ]
    go_wp2_with (first | (refine wp_region_calm (by kernel_rfl) (by kernel_rfl) ?_; (repeat (first | go_big_quiet_step (fail) | quiet_step (fail))); refine wpQuiet_nil ?_; rintro _ ⟨z, rfl⟩) | (go_at_call 35; (with_reducible refine ((awake09 _).g).mono ?_); rintro _ _ ⟨rfl, z, rfl⟩))
    go_ret
    exact Ret.mk rfl (by repeat (first | exact Below.refl _ _ | assumption | refine Below.grow ?_ (by first | omega | (simp [go_sem]; done) | (simp [go_sem]; omega)) _ | refine Below.alloc ?_ (by first | omega | (simp [go_sem]; done) | (simp [go_sem]; omega)) _ | refine Below.drew ?_ | refine below_drewN ?_ _ | refine Below.setCell ?_ (by first | omega | (simp [go_sem]; done) | (simp [go_sem]; omega)) _))
  · skip
    go_enter Try.func5, Try.ntmps5
    go_wp2_with (first | (go_at_call 34; (with_reducible refine ((ref09_Heard (3 + r) _ _ _ _ _).g).mono ?_); rintro _ _ ⟨rfl, z, rfl⟩) | (go_at_call 35; (with_reducible refine ((awake09 _).g).mono ?_); rintro _ _ ⟨rfl, z, rfl⟩) | (go_at_call 36; (with_reducible refine ((hS _).g).mono ?_); rintro _ _ ⟨rfl, z, rfl⟩) | (go_at_call 37; (with_reducible refine ((ref06_Right' (3 + r) id _ _ _ _).g).mono ?_); rintro _ _ ⟨rfl, z, rfl⟩))
    refine wp_loop_rounds 3 ?_
    rw [rounds_succ]
    go_wp2_with (first | (refine wp_region_calm (by kernel_rfl) (by kernel_rfl) ?_; (repeat (first | go_big_quiet_step (fail) | quiet_step (fail))); refine wpQuiet_nil ?_; rintro _ ⟨z, rfl⟩))
    rw [rounds_succ]
    go_wp2_with (first | (refine wp_region_calm (by kernel_rfl) (by kernel_rfl) ?_; (repeat (first | go_big_quiet_step (fail) | quiet_step (fail))); refine wpQuiet_nil ?_; rintro _ ⟨z, rfl⟩))
    rw [rounds_succ]
    go_wp2_with (first | (refine wp_region_calm (by kernel_rfl) (by kernel_rfl) ?_; (repeat (first | go_big_quiet_step (fail) | quiet_step (fail))); refine wpQuiet_nil ?_; rintro _ ⟨z, rfl⟩) | (go_at_call 35; (with_reducible refine ((awake09 _).g).mono ?_); rintro _ _ ⟨rfl, z, rfl⟩))
    go_ret
    exact Ret.mk rfl (by repeat (first | exact Below.refl _ _ | assumption | refine Below.grow ?_ (by first | omega | (simp [go_sem]; done) | (simp [go_sem]; omega)) _ | refine Below.alloc ?_ (by first | omega | (simp [go_sem]; done) | (simp [go_sem]; omega)) _ | refine Below.drew ?_ | refine below_drewN ?_ _ | refine Below.setCell ?_ (by first | omega | (simp [go_sem]; done) | (simp [go_sem]; omega)) _))
  · subst h2
    go_enter Try.func5, Try.ntmps5
    go_wp2_with (first | (go_at_call 34; (with_reducible refine ((ref09_Heard (3 + r) _ _ _ _ _).g).mono ?_); rintro _ _ ⟨rfl, z, rfl⟩) | (go_at_call 35; (with_reducible refine ((awake09 _).g).mono ?_); rintro _ _ ⟨rfl, z, rfl⟩) | (go_at_call 36; (with_reducible refine ((hS _).g).mono ?_); rintro _ _ ⟨rfl, z, rfl⟩) | (go_at_call 37; (with_reducible refine ((ref06_Right' (3 + r) id _ _ _ _).g).mono ?_); rintro _ _ ⟨rfl, z, rfl⟩))
    refine wp_loop_rounds 3 ?_
    rw [rounds_succ]
    go_wp2_with (first | (refine wp_region_calm (by kernel_rfl) (by kernel_rfl) ?_; (repeat (first | go_big_quiet_step (fail) | quiet_step (fail))); refine wpQuiet_nil ?_; rintro _ ⟨z, rfl⟩))
    rw [rounds_succ]
    go_wp2_with (first | (refine wp_region_calm (by kernel_rfl) (by kernel_rfl) ?_; (repeat (first | go_big_quiet_step (fail) | quiet_step (fail))); refine wpQuiet_nil ?_; rintro _ ⟨z, rfl⟩))
    rw [rounds_succ]
    go_wp2_with (first | (refine wp_region_calm (by kernel_rfl) (by kernel_rfl) ?_; (repeat (first | go_big_quiet_step (fail) | quiet_step (fail))); refine wpQuiet_nil ?_; rintro _ ⟨z, rfl⟩) | (go_at_call 35; (with_reducible refine ((awake09 _).g).mono ?_); rintro _ _ ⟨rfl, z, rfl⟩))
    go_ret
    exact Ret.mk rfl (by repeat (first | exact Below.refl _ _ | assumption | refine Below.grow ?_ (by first | omega | (simp [go_sem]; done) | (simp [go_sem]; omega)) _ | refine Below.alloc ?_ (by first | omega | (simp [go_sem]; done) | (simp [go_sem]; omega)) _ | refine Below.drew ?_ | refine below_drewN ?_ _ | refine Below.setCell ?_ (by first | omega | (simp [go_sem]; done) | (simp [go_sem]; omega)) _))
  · subst h1 h2
    go_enter Try.func5, Try.ntmps5
    go_wp2_with (first | (go_at_call 34; (with_reducible refine ((ref09_Heard (3 + r) _ _ _ _ _).g).mono ?_); rintro _ _ ⟨rfl, z, rfl⟩) | (go_at_call 35; (with_reducible refine ((awake09 _).g).mono ?_); rintro _ _ ⟨rfl, z, rfl⟩) | (go_at_call 36; (with_reducible refine ((hS _).g).mono ?_); rintro _ _ ⟨rfl, z, rfl⟩) | (go_at_call 37; (with_reducible refine ((ref06_Right' (3 + r) id _ _ _ _).g).mono ?_); rintro _ _ ⟨rfl, z, rfl⟩))
    refine wp_loop_rounds 3 ?_
    rw [rounds_succ]
    go_wp2_with (first | (refine wp_region_calm (by kernel_rfl) (by kernel_rfl) ?_; (repeat (first | go_big_quiet_step (fail) | quiet_step (fail))); refine wpQuiet_nil ?_; rintro _ ⟨z, rfl⟩))
    rw [rounds_succ]
    go_wp2_with (first | (refine wp_region_calm (by kernel_rfl) (by kernel_rfl) ?_; (repeat (first | go_big_quiet_step (fail) | quiet_step (fail))); refine wpQuiet_nil ?_; rintro _ ⟨z, rfl⟩))
    rw [rounds_succ]
    go_wp2_with (first | (refine wp_region_calm (by kernel_rfl) (by kernel_rfl) ?_; (repeat (first | go_big_quiet_step (fail) | quiet_step (fail))); refine wpQuiet_nil ?_; rintro _ ⟨z, rfl⟩) | (go_at_call 35; (with_reducible refine ((awake09 _).g).mono ?_); rintro _ _ ⟨rfl, z, rfl⟩))
    go_ret
    exact Ret.mk rfl (by repeat (first | exact Below.refl _ _ | assumption | refine Below.grow ?_ (by first | omega | (simp [go_sem]; done) | (simp [go_sem]; omega)) _ | refine Below.alloc ?_ (by first | omega | (simp [go_sem]; done) | (simp [go_sem]; omega)) _ | refine Below.drew ?_ | refine below_drewN ?_ _ | refine Below.setCell ?_ (by first | omega | (simp [go_sem]; done) | (simp [go_sem]; omega)) _))
  · subst h1 h2 h3 h4
    go_enter Try.func5, Try.ntmps5
    go_wp2_with (first | (go_at_call 34; (with_reducible refine ((ref09_Heard (3 + r) _ _ _ _ _).g).mono ?_); rintro _ _ ⟨rfl, z, rfl⟩) | (go_at_call 35; (with_reducible refine ((awake09 _).g).mono ?_); rintro _ _ ⟨rfl, z, rfl⟩) | (go_at_call 36; (with_reducible refine ((hS _).g).mono ?_); rintro _ _ ⟨rfl, z, rfl⟩) | (go_at_call 37; (with_reducible refine ((ref06_Right' (3 + r) id _ _ _ _).g).mono ?_); rintro _ _ ⟨rfl, z, rfl⟩))
    refine wp_loop_rounds 3 ?_
    rw [rounds_succ]
    go_wp2_with (first | (refine wp_region_calm (by kernel_rfl) (by kernel_rfl) ?_; (repeat (first | go_big_quiet_step (fail) | quiet_step (fail))); refine wpQuiet_nil ?_; rintro _ ⟨z, rfl⟩))
    rw [rounds_succ]
    go_wp2_with (first | (refine wp_region_calm (by kernel_rfl) (by kernel_rfl) ?_; (repeat (first | go_big_quiet_step (fail) | quiet_step (fail))); refine wpQuiet_nil ?_; rintro _ ⟨z, rfl⟩))
    rw [rounds_succ]
    go_wp2_with (first | (refine wp_region_calm (by kernel_rfl) (by kernel_rfl) ?_; (repeat (first | go_big_quiet_step (fail) | quiet_step (fail))); refine wpQuiet_nil ?_; rintro _ ⟨z, rfl⟩) | (go_at_call 35; (with_reducible refine ((awake09 _).g).mono ?_); rintro _ _ ⟨rfl, z, rfl⟩))
    go_ret
    exact Ret.mk rfl (by repeat (first | exact Below.refl _ _ | assumption | refine Below.grow ?_ (by first | omega | (simp [go_sem]; done) | (simp [go_sem]; omega)) _ | refine Below.alloc ?_ (by first | omega | (simp [go_sem]; done) | (simp [go_sem]; omega)) _ | refine Below.drew ?_ | refine below_drewN ?_ _ | refine Below.setCell ?_ (by first | omega | (simp [go_sem]; done) | (simp [go_sem]; omega)) _))
  · subst h1 h2 h3 h4 h5
    have hw := hew.out rfl
    go_enter Try.func5, Try.ntmps5
    go_wp2_with (first | (go_at_call 34; (with_reducible refine ((ref09_Heard (3 + r) _ _ _ _ _).g).mono ?_); rintro _ _ ⟨rfl, z, rfl⟩) | (go_at_call 35; (with_reducible refine ((awake09 _).g).mono ?_); rintro _ _ ⟨rfl, z, rfl⟩) | (go_at_call 36; (with_reducible refine ((hS _).g).mono ?_); rintro _ _ ⟨rfl, z, rfl⟩) | (go_at_call 37; (with_reducible refine ((ref06_Right' (3 + r) id _ _ _ _).g).mono ?_); rintro _ _ ⟨rfl, z, rfl⟩))
    refine wp_loop_rounds 3 ?_
    rw [rounds_succ]
    go_wp2_with (first | (refine wp_region_calm (by kernel_rfl) (by kernel_rfl) ?_; (repeat (first | go_big_quiet_step (fail) | quiet_step (fail))); refine wpQuiet_nil ?_; rintro _ ⟨z, rfl⟩))
    rw [rounds_succ]
    go_wp2_with (first | (refine wp_region_calm (by kernel_rfl) (by kernel_rfl) ?_; (repeat (first | go_big_quiet_step (fail) | quiet_step (fail))); refine wpQuiet_nil ?_; rintro _ ⟨z, rfl⟩))
    rw [rounds_succ]
    go_wp2_with (first | (refine wp_region_calm (by kernel_rfl) (by kernel_rfl) ?_; (repeat (first | go_big_quiet_step (fail) | quiet_step (fail))); refine wpQuiet_nil ?_; rintro _ ⟨z, rfl⟩) | (go_at_call 35; (with_reducible refine ((awake09 _).g).mono ?_); rintro _ _ ⟨rfl, z, rfl⟩))
    go_ret
    exact Ret.mk rfl (by repeat (first | exact Below.refl _ _ | assumption | refine Below.grow ?_ (by first | omega | (simp [go_sem]; done) | (simp [go_sem]; omega)) _ | refine Below.alloc ?_ (by first | omega | (simp [go_sem]; done) | (simp [go_sem]; omega)) _ | refine Below.drew ?_ | refine below_drewN ?_ _ | refine Below.setCell ?_ (by first | omega | (simp [go_sem]; done) | (simp [go_sem]; omega)) _))
end Go.Proofs.Ytjecfilbdabheaa
