/- hear.Match: an Info of who holds the slot, on one channel or the other. -/
import Derived.Test.YtjecfilbdabheaaHear
namespace Go.Proofs.Ytjecfilbdabheaa
open Go.RowKit
set_option linter.unusedSimpArgs false
set_option linter.unusedVariables false

namespace Px
/-- an Info of who holds the slot -/
def isMatch (pos : Int) (f : Frame) : Bool := decide (f.kind = 2 ∧ f.id = pos)
theorem isMatch_no {k : Int} {f : Frame} (h : isMatch k f = false) : 2 = f.kind → ¬ k = f.id := by simp [isMatch] at h; omega
end Px
set_option maxRecDepth 100000 in
set_option maxHeartbeats 400000 in
theorem index_Match (k : Int) (g h : Px.Frame) (B : Nat) (w : World) (hB : B < w.heap.size) (h0 : w.cell? ⟨B, 0, none⟩ = some (.int .i64 g.kind)) (h1 : w.cell? ⟨B, 1, none⟩ = some (.int .i64 g.id)) (h2 : w.cell? ⟨B, 2, none⟩ = some (.int .i64 h.kind)) (h3 : w.cell? ⟨B, 3, none⟩ = some (.int .i64 h.id)) :
    Calls Try.prog 193 #[.slice (some ⟨B, 0, none⟩) 2 2, .agg #[.int .i64 2, .int .i64 k]] w (Ret (.int .i64 (Px.idx (Px.isMatch k) g h)) w) := by
  cases hg : Px.isMatch k g with
  | true =>
    rw [show Px.idx (Px.isMatch k) g h = 0 by simp [Px.idx, hg]]
    simp only [Px.isMatch, decide_eq_true_eq] at hg
    go_enter Try.func193, Try.ntmps193
    go_wp2
    refine wp_loop_rounds 2 ?_
    rw [rounds_succ]
    go_wp2_with (first | (refine wp_region_calm (by kernel_rfl) (by kernel_rfl) ?_; (repeat (first | go_big_quiet_step (fail) | quiet_step (fail))); refine wpQuiet_nil ?_; intro w1 hW_; obtain ⟨zz, hzz⟩ := hW_; have hb_w1 := calm_out hzz; clear hzz zz; have hz_w1 := hb_w1.size; (try simp at hz_w1); have hz_w1_w_0 : w.heap.size < w1.heap.size := (by omega); have c_w1_w_0_0 := hb_w1.cell (p := ⟨w.heap.size, 0, none⟩) (by first | (simp; done) | (simp; omega)); simp [go_sem] at c_w1_w_0_0; have c_w1_w_0_1 := hb_w1.cell (p := ⟨w.heap.size, 1, none⟩) (by first | (simp; done) | (simp; omega)); simp [go_sem] at c_w1_w_0_1; have f_w1_w_0 : ∀ o, w1.frozen? ⟨w.heap.size, o, none⟩ = false := (fun o => (hb_w1.frozen (p := ⟨w.heap.size, o, none⟩) (by first | (simp; done) | (simp; omega))).trans (by simp [go_sem]))))
    go_ret
    exact Ret.mk rfl (by repeat (first | exact Below.refl _ _ | assumption | (refine Below.alloc ?_ (by first | omega | (simp; omega) | simp) _) | (refine Below.drew ?_) | (refine below_drewN ?_ _) | (refine Below.setCell ?_ (by first | omega | (simp; omega) | simp) _) | (refine below_step ?_ (by assumption) (by first | omega | (simp; omega) | simp))))
  | false =>
    have hg' := Px.isMatch_no hg
    have key : (¬ 2 = g.kind) ∨ (2 = g.kind ∧ ¬ k = g.id) := by omega
    cases hh : Px.isMatch k h with
    | true =>
      rw [show Px.idx (Px.isMatch k) g h = 1 by simp [Px.idx, hg, hh]]
      simp only [Px.isMatch, decide_eq_true_eq] at hh
      clear hg hg'
      rcases key with hk | ⟨hk, hk2⟩
      case inl =>
        go_enter Try.func193, Try.ntmps193
        go_wp2
        refine wp_loop_rounds 3 ?_
        rw [rounds_succ]
        go_wp2_with (first | (refine wp_region_calm (by kernel_rfl) (by kernel_rfl) ?_; (repeat (first | go_big_quiet_step (fail) | quiet_step (fail))); refine wpQuiet_nil ?_; intro w1 hW_; obtain ⟨zz, hzz⟩ := hW_; have hb_w1 := calm_out hzz; clear hzz zz; have hz_w1 := hb_w1.size; (try simp at hz_w1); have hz_w1_w_0 : w.heap.size < w1.heap.size := (by omega); have c_w1_w_0_0 := hb_w1.cell (p := ⟨w.heap.size, 0, none⟩) (by first | (simp; done) | (simp; omega)); simp [go_sem] at c_w1_w_0_0; have c_w1_w_0_1 := hb_w1.cell (p := ⟨w.heap.size, 1, none⟩) (by first | (simp; done) | (simp; omega)); simp [go_sem] at c_w1_w_0_1; have f_w1_w_0 : ∀ o, w1.frozen? ⟨w.heap.size, o, none⟩ = false := (fun o => (hb_w1.frozen (p := ⟨w.heap.size, o, none⟩) (by first | (simp; done) | (simp; omega))).trans (by simp [go_sem])); have c2 := ((hb_w1.cell (p := ⟨B, 2, none⟩) (by simp; omega)).trans (cell_alloc_lt _ _ _ hB)).trans h2; have c3 := ((hb_w1.cell (p := ⟨B, 3, none⟩) (by simp; omega)).trans (cell_alloc_lt _ _ _ hB)).trans h3))
        rw [rounds_succ]
        go_wp2_with (first | (refine wp_region_calm (by kernel_rfl) (by kernel_rfl) ?_; (repeat (first | go_big_quiet_step (fail) | quiet_step (fail))); refine wpQuiet_nil ?_; intro w2 hW_; obtain ⟨zz, hzz⟩ := hW_; have hb_w2 := calm_out hzz; clear hzz zz; have hz_w2 := hb_w2.size; (try simp at hz_w2); have hz_w2_w_0 : w.heap.size < w2.heap.size := (by omega); have c_w2_w_0_0 := hb_w2.cell (p := ⟨w.heap.size, 0, none⟩) (by first | (simp; done) | (simp; omega)); simp [go_sem, c_w1_w_0_0, c_w1_w_0_1, f_w1_w_0, hz_w1_w_0] at c_w2_w_0_0; have c_w2_w_0_1 := hb_w2.cell (p := ⟨w.heap.size, 1, none⟩) (by first | (simp; done) | (simp; omega)); simp [go_sem, c_w1_w_0_0, c_w1_w_0_1, f_w1_w_0, hz_w1_w_0] at c_w2_w_0_1; have f_w2_w_0 : ∀ o, w2.frozen? ⟨w.heap.size, o, none⟩ = false := (fun o => (hb_w2.frozen (p := ⟨w.heap.size, o, none⟩) (by first | (simp; done) | (simp; omega))).trans (by simp [go_sem, c_w1_w_0_0, c_w1_w_0_1, f_w1_w_0, hz_w1_w_0]))))
        go_ret
        exact Ret.mk rfl (by repeat (first | exact Below.refl _ _ | assumption | (refine Below.alloc ?_ (by first | omega | (simp; omega) | simp) _) | (refine Below.drew ?_) | (refine below_drewN ?_ _) | (refine Below.setCell ?_ (by first | omega | (simp; omega) | simp) _) | (refine below_step ?_ (by assumption) (by first | omega | (simp; omega) | simp))))
      case inr =>
        go_enter Try.func193, Try.ntmps193
        go_wp2
        refine wp_loop_rounds 3 ?_
        rw [rounds_succ]
        go_wp2_with (first | (refine wp_region_calm (by kernel_rfl) (by kernel_rfl) ?_; (repeat (first | go_big_quiet_step (fail) | quiet_step (fail))); refine wpQuiet_nil ?_; intro w1 hW_; obtain ⟨zz, hzz⟩ := hW_; have hb_w1 := calm_out hzz; clear hzz zz; have hz_w1 := hb_w1.size; (try simp at hz_w1); have hz_w1_w_0 : w.heap.size < w1.heap.size := (by omega); have c_w1_w_0_0 := hb_w1.cell (p := ⟨w.heap.size, 0, none⟩) (by first | (simp; done) | (simp; omega)); simp [go_sem] at c_w1_w_0_0; have c_w1_w_0_1 := hb_w1.cell (p := ⟨w.heap.size, 1, none⟩) (by first | (simp; done) | (simp; omega)); simp [go_sem] at c_w1_w_0_1; have f_w1_w_0 : ∀ o, w1.frozen? ⟨w.heap.size, o, none⟩ = false := (fun o => (hb_w1.frozen (p := ⟨w.heap.size, o, none⟩) (by first | (simp; done) | (simp; omega))).trans (by simp [go_sem])); have c2 := ((hb_w1.cell (p := ⟨B, 2, none⟩) (by simp; omega)).trans (cell_alloc_lt _ _ _ hB)).trans h2; have c3 := ((hb_w1.cell (p := ⟨B, 3, none⟩) (by simp; omega)).trans (cell_alloc_lt _ _ _ hB)).trans h3))
        rw [rounds_succ]
        go_wp2_with (first | (refine wp_region_calm (by kernel_rfl) (by kernel_rfl) ?_; (repeat (first | go_big_quiet_step (fail) | quiet_step (fail))); refine wpQuiet_nil ?_; intro w2 hW_; obtain ⟨zz, hzz⟩ := hW_; have hb_w2 := calm_out hzz; clear hzz zz; have hz_w2 := hb_w2.size; (try simp at hz_w2); have hz_w2_w_0 : w.heap.size < w2.heap.size := (by omega); have c_w2_w_0_0 := hb_w2.cell (p := ⟨w.heap.size, 0, none⟩) (by first | (simp; done) | (simp; omega)); simp [go_sem, c_w1_w_0_0, c_w1_w_0_1, f_w1_w_0, hz_w1_w_0] at c_w2_w_0_0; have c_w2_w_0_1 := hb_w2.cell (p := ⟨w.heap.size, 1, none⟩) (by first | (simp; done) | (simp; omega)); simp [go_sem, c_w1_w_0_0, c_w1_w_0_1, f_w1_w_0, hz_w1_w_0] at c_w2_w_0_1; have f_w2_w_0 : ∀ o, w2.frozen? ⟨w.heap.size, o, none⟩ = false := (fun o => (hb_w2.frozen (p := ⟨w.heap.size, o, none⟩) (by first | (simp; done) | (simp; omega))).trans (by simp [go_sem, c_w1_w_0_0, c_w1_w_0_1, f_w1_w_0, hz_w1_w_0]))))
        go_ret
        exact Ret.mk rfl (by repeat (first | exact Below.refl _ _ | assumption | (refine Below.alloc ?_ (by first | omega | (simp; omega) | simp) _) | (refine Below.drew ?_) | (refine below_drewN ?_ _) | (refine Below.setCell ?_ (by first | omega | (simp; omega) | simp) _) | (refine below_step ?_ (by assumption) (by first | omega | (simp; omega) | simp))))
    | false =>
      have hh' := Px.isMatch_no hh
      have key2 : (¬ 2 = h.kind) ∨ (2 = h.kind ∧ ¬ k = h.id) := by omega
      rw [show Px.idx (Px.isMatch k) g h = -1 by simp [Px.idx, hg, hh]]
      clear hg hg' hh hh'
      rcases key with hk | ⟨hk, hk2⟩
      case inl =>
        rcases key2 with hj | ⟨hj, hj2⟩
        case inl =>
          go_enter Try.func193, Try.ntmps193
          go_wp2
          refine wp_loop_rounds 3 ?_
          rw [rounds_succ]
          go_wp2_with (first | (refine wp_region_calm (by kernel_rfl) (by kernel_rfl) ?_; (repeat (first | go_big_quiet_step (fail) | quiet_step (fail))); refine wpQuiet_nil ?_; intro w1 hW_; obtain ⟨zz, hzz⟩ := hW_; have hb_w1 := calm_out hzz; clear hzz zz; have hz_w1 := hb_w1.size; (try simp at hz_w1); have hz_w1_w_0 : w.heap.size < w1.heap.size := (by omega); have c_w1_w_0_0 := hb_w1.cell (p := ⟨w.heap.size, 0, none⟩) (by first | (simp; done) | (simp; omega)); simp [go_sem] at c_w1_w_0_0; have c_w1_w_0_1 := hb_w1.cell (p := ⟨w.heap.size, 1, none⟩) (by first | (simp; done) | (simp; omega)); simp [go_sem] at c_w1_w_0_1; have f_w1_w_0 : ∀ o, w1.frozen? ⟨w.heap.size, o, none⟩ = false := (fun o => (hb_w1.frozen (p := ⟨w.heap.size, o, none⟩) (by first | (simp; done) | (simp; omega))).trans (by simp [go_sem])); have c2 := ((hb_w1.cell (p := ⟨B, 2, none⟩) (by simp; omega)).trans (cell_alloc_lt _ _ _ hB)).trans h2; have c3 := ((hb_w1.cell (p := ⟨B, 3, none⟩) (by simp; omega)).trans (cell_alloc_lt _ _ _ hB)).trans h3))
          rw [rounds_succ]
          go_wp2_with (first | (refine wp_region_calm (by kernel_rfl) (by kernel_rfl) ?_; (repeat (first | go_big_quiet_step (fail) | quiet_step (fail))); refine wpQuiet_nil ?_; intro w2 hW_; obtain ⟨zz, hzz⟩ := hW_; have hb_w2 := calm_out hzz; clear hzz zz; have hz_w2 := hb_w2.size; (try simp at hz_w2); have hz_w2_w_0 : w.heap.size < w2.heap.size := (by omega); have c_w2_w_0_0 := hb_w2.cell (p := ⟨w.heap.size, 0, none⟩) (by first | (simp; done) | (simp; omega)); simp [go_sem, c_w1_w_0_0, c_w1_w_0_1, f_w1_w_0, hz_w1_w_0] at c_w2_w_0_0; have c_w2_w_0_1 := hb_w2.cell (p := ⟨w.heap.size, 1, none⟩) (by first | (simp; done) | (simp; omega)); simp [go_sem, c_w1_w_0_0, c_w1_w_0_1, f_w1_w_0, hz_w1_w_0] at c_w2_w_0_1; have f_w2_w_0 : ∀ o, w2.frozen? ⟨w.heap.size, o, none⟩ = false := (fun o => (hb_w2.frozen (p := ⟨w.heap.size, o, none⟩) (by first | (simp; done) | (simp; omega))).trans (by simp [go_sem, c_w1_w_0_0, c_w1_w_0_1, f_w1_w_0, hz_w1_w_0]))))
          rw [rounds_succ]
          go_wp2
          go_ret
          exact Ret.mk rfl (by repeat (first | exact Below.refl _ _ | assumption | (refine Below.alloc ?_ (by first | omega | (simp; omega) | simp) _) | (refine Below.drew ?_) | (refine below_drewN ?_ _) | (refine Below.setCell ?_ (by first | omega | (simp; omega) | simp) _) | (refine below_step ?_ (by assumption) (by first | omega | (simp; omega) | simp))))
        case inr =>
          go_enter Try.func193, Try.ntmps193
          go_wp2
          refine wp_loop_rounds 3 ?_
          rw [rounds_succ]
          go_wp2_with (first | (refine wp_region_calm (by kernel_rfl) (by kernel_rfl) ?_; (repeat (first | go_big_quiet_step (fail) | quiet_step (fail))); refine wpQuiet_nil ?_; intro w1 hW_; obtain ⟨zz, hzz⟩ := hW_; have hb_w1 := calm_out hzz; clear hzz zz; have hz_w1 := hb_w1.size; (try simp at hz_w1); have hz_w1_w_0 : w.heap.size < w1.heap.size := (by omega); have c_w1_w_0_0 := hb_w1.cell (p := ⟨w.heap.size, 0, none⟩) (by first | (simp; done) | (simp; omega)); simp [go_sem] at c_w1_w_0_0; have c_w1_w_0_1 := hb_w1.cell (p := ⟨w.heap.size, 1, none⟩) (by first | (simp; done) | (simp; omega)); simp [go_sem] at c_w1_w_0_1; have f_w1_w_0 : ∀ o, w1.frozen? ⟨w.heap.size, o, none⟩ = false := (fun o => (hb_w1.frozen (p := ⟨w.heap.size, o, none⟩) (by first | (simp; done) | (simp; omega))).trans (by simp [go_sem])); have c2 := ((hb_w1.cell (p := ⟨B, 2, none⟩) (by simp; omega)).trans (cell_alloc_lt _ _ _ hB)).trans h2; have c3 := ((hb_w1.cell (p := ⟨B, 3, none⟩) (by simp; omega)).trans (cell_alloc_lt _ _ _ hB)).trans h3))
          rw [rounds_succ]
          go_wp2_with (first | (refine wp_region_calm (by kernel_rfl) (by kernel_rfl) ?_; (repeat (first | go_big_quiet_step (fail) | quiet_step (fail))); refine wpQuiet_nil ?_; intro w2 hW_; obtain ⟨zz, hzz⟩ := hW_; have hb_w2 := calm_out hzz; clear hzz zz; have hz_w2 := hb_w2.size; (try simp at hz_w2); have hz_w2_w_0 : w.heap.size < w2.heap.size := (by omega); have c_w2_w_0_0 := hb_w2.cell (p := ⟨w.heap.size, 0, none⟩) (by first | (simp; done) | (simp; omega)); simp [go_sem, c_w1_w_0_0, c_w1_w_0_1, f_w1_w_0, hz_w1_w_0] at c_w2_w_0_0; have c_w2_w_0_1 := hb_w2.cell (p := ⟨w.heap.size, 1, none⟩) (by first | (simp; done) | (simp; omega)); simp [go_sem, c_w1_w_0_0, c_w1_w_0_1, f_w1_w_0, hz_w1_w_0] at c_w2_w_0_1; have f_w2_w_0 : ∀ o, w2.frozen? ⟨w.heap.size, o, none⟩ = false := (fun o => (hb_w2.frozen (p := ⟨w.heap.size, o, none⟩) (by first | (simp; done) | (simp; omega))).trans (by simp [go_sem, c_w1_w_0_0, c_w1_w_0_1, f_w1_w_0, hz_w1_w_0]))))
          rw [rounds_succ]
          go_wp2
          go_ret
          exact Ret.mk rfl (by repeat (first | exact Below.refl _ _ | assumption | (refine Below.alloc ?_ (by first | omega | (simp; omega) | simp) _) | (refine Below.drew ?_) | (refine below_drewN ?_ _) | (refine Below.setCell ?_ (by first | omega | (simp; omega) | simp) _) | (refine below_step ?_ (by assumption) (by first | omega | (simp; omega) | simp))))
      case inr =>
        rcases key2 with hj | ⟨hj, hj2⟩
        case inl =>
          go_enter Try.func193, Try.ntmps193
          go_wp2
          refine wp_loop_rounds 3 ?_
          rw [rounds_succ]
          go_wp2_with (first | (refine wp_region_calm (by kernel_rfl) (by kernel_rfl) ?_; (repeat (first | go_big_quiet_step (fail) | quiet_step (fail))); refine wpQuiet_nil ?_; intro w1 hW_; obtain ⟨zz, hzz⟩ := hW_; have hb_w1 := calm_out hzz; clear hzz zz; have hz_w1 := hb_w1.size; (try simp at hz_w1); have hz_w1_w_0 : w.heap.size < w1.heap.size := (by omega); have c_w1_w_0_0 := hb_w1.cell (p := ⟨w.heap.size, 0, none⟩) (by first | (simp; done) | (simp; omega)); simp [go_sem] at c_w1_w_0_0; have c_w1_w_0_1 := hb_w1.cell (p := ⟨w.heap.size, 1, none⟩) (by first | (simp; done) | (simp; omega)); simp [go_sem] at c_w1_w_0_1; have f_w1_w_0 : ∀ o, w1.frozen? ⟨w.heap.size, o, none⟩ = false := (fun o => (hb_w1.frozen (p := ⟨w.heap.size, o, none⟩) (by first | (simp; done) | (simp; omega))).trans (by simp [go_sem])); have c2 := ((hb_w1.cell (p := ⟨B, 2, none⟩) (by simp; omega)).trans (cell_alloc_lt _ _ _ hB)).trans h2; have c3 := ((hb_w1.cell (p := ⟨B, 3, none⟩) (by simp; omega)).trans (cell_alloc_lt _ _ _ hB)).trans h3))
          rw [rounds_succ]
          go_wp2_with (first | (refine wp_region_calm (by kernel_rfl) (by kernel_rfl) ?_; (repeat (first | go_big_quiet_step (fail) | quiet_step (fail))); refine wpQuiet_nil ?_; intro w2 hW_; obtain ⟨zz, hzz⟩ := hW_; have hb_w2 := calm_out hzz; clear hzz zz; have hz_w2 := hb_w2.size; (try simp at hz_w2); have hz_w2_w_0 : w.heap.size < w2.heap.size := (by omega); have c_w2_w_0_0 := hb_w2.cell (p := ⟨w.heap.size, 0, none⟩) (by first | (simp; done) | (simp; omega)); simp [go_sem, c_w1_w_0_0, c_w1_w_0_1, f_w1_w_0, hz_w1_w_0] at c_w2_w_0_0; have c_w2_w_0_1 := hb_w2.cell (p := ⟨w.heap.size, 1, none⟩) (by first | (simp; done) | (simp; omega)); simp [go_sem, c_w1_w_0_0, c_w1_w_0_1, f_w1_w_0, hz_w1_w_0] at c_w2_w_0_1; have f_w2_w_0 : ∀ o, w2.frozen? ⟨w.heap.size, o, none⟩ = false := (fun o => (hb_w2.frozen (p := ⟨w.heap.size, o, none⟩) (by first | (simp; done) | (simp; omega))).trans (by simp [go_sem, c_w1_w_0_0, c_w1_w_0_1, f_w1_w_0, hz_w1_w_0]))))
          rw [rounds_succ]
          go_wp2
          go_ret
          exact Ret.mk rfl (by repeat (first | exact Below.refl _ _ | assumption | (refine Below.alloc ?_ (by first | omega | (simp; omega) | simp) _) | (refine Below.drew ?_) | (refine below_drewN ?_ _) | (refine Below.setCell ?_ (by first | omega | (simp; omega) | simp) _) | (refine below_step ?_ (by assumption) (by first | omega | (simp; omega) | simp))))
        case inr =>
          go_enter Try.func193, Try.ntmps193
          go_wp2
          refine wp_loop_rounds 3 ?_
          rw [rounds_succ]
          go_wp2_with (first | (refine wp_region_calm (by kernel_rfl) (by kernel_rfl) ?_; (repeat (first | go_big_quiet_step (fail) | quiet_step (fail))); refine wpQuiet_nil ?_; intro w1 hW_; obtain ⟨zz, hzz⟩ := hW_; have hb_w1 := calm_out hzz; clear hzz zz; have hz_w1 := hb_w1.size; (try simp at hz_w1); have hz_w1_w_0 : w.heap.size < w1.heap.size := (by omega); have c_w1_w_0_0 := hb_w1.cell (p := ⟨w.heap.size, 0, none⟩) (by first | (simp; done) | (simp; omega)); simp [go_sem] at c_w1_w_0_0; have c_w1_w_0_1 := hb_w1.cell (p := ⟨w.heap.size, 1, none⟩) (by first | (simp; done) | (simp; omega)); simp [go_sem] at c_w1_w_0_1; have f_w1_w_0 : ∀ o, w1.frozen? ⟨w.heap.size, o, none⟩ = false := (fun o => (hb_w1.frozen (p := ⟨w.heap.size, o, none⟩) (by first | (simp; done) | (simp; omega))).trans (by simp [go_sem])); have c2 := ((hb_w1.cell (p := ⟨B, 2, none⟩) (by simp; omega)).trans (cell_alloc_lt _ _ _ hB)).trans h2; have c3 := ((hb_w1.cell (p := ⟨B, 3, none⟩) (by simp; omega)).trans (cell_alloc_lt _ _ _ hB)).trans h3))
          rw [rounds_succ]
          go_wp2_with (first | (refine wp_region_calm (by kernel_rfl) (by kernel_rfl) ?_; (repeat (first | go_big_quiet_step (fail) | quiet_step (fail))); refine wpQuiet_nil ?_; intro w2 hW_; obtain ⟨zz, hzz⟩ := hW_; have hb_w2 := calm_out hzz; clear hzz zz; have hz_w2 := hb_w2.size; (try simp at hz_w2); have hz_w2_w_0 : w.heap.size < w2.heap.size := (by omega); have c_w2_w_0_0 := hb_w2.cell (p := ⟨w.heap.size, 0, none⟩) (by first | (simp; done) | (simp; omega)); simp [go_sem, c_w1_w_0_0, c_w1_w_0_1, f_w1_w_0, hz_w1_w_0] at c_w2_w_0_0; have c_w2_w_0_1 := hb_w2.cell (p := ⟨w.heap.size, 1, none⟩) (by first | (simp; done) | (simp; omega)); simp [go_sem, c_w1_w_0_0, c_w1_w_0_1, f_w1_w_0, hz_w1_w_0] at c_w2_w_0_1; have f_w2_w_0 : ∀ o, w2.frozen? ⟨w.heap.size, o, none⟩ = false := (fun o => (hb_w2.frozen (p := ⟨w.heap.size, o, none⟩) (by first | (simp; done) | (simp; omega))).trans (by simp [go_sem, c_w1_w_0_0, c_w1_w_0_1, f_w1_w_0, hz_w1_w_0]))))
          rw [rounds_succ]
          go_wp2
          go_ret
          exact Ret.mk rfl (by repeat (first | exact Below.refl _ _ | assumption | (refine Below.alloc ?_ (by first | omega | (simp; omega) | simp) _) | (refine Below.drew ?_) | (refine below_drewN ?_ _) | (refine Below.setCell ?_ (by first | omega | (simp; omega) | simp) _) | (refine below_step ?_ (by assumption) (by first | omega | (simp; omega) | simp))))
set_option maxRecDepth 100000 in
set_option maxHeartbeats 400000 in
theorem contains_Match (k : Int) (g h : Px.Frame) (B : Nat) (w : World) (hB : B < w.heap.size) (h0 : w.cell? ⟨B, 0, none⟩ = some (.int .i64 g.kind)) (h1 : w.cell? ⟨B, 1, none⟩ = some (.int .i64 g.id)) (h2 : w.cell? ⟨B, 2, none⟩ = some (.int .i64 h.kind)) (h3 : w.cell? ⟨B, 3, none⟩ = some (.int .i64 h.id)) :
    Calls Try.prog 187 #[.slice (some ⟨B, 0, none⟩) 2 2, .agg #[.int .i64 2, .int .i64 k]] w (Ret (.bool (Px.isMatch k g || Px.isMatch k h)) w) := by
  obtain ⟨w0, hw0⟩ : ∃ w0, w0 = w.alloc (.cells #[.int .i64 2, .int .i64 k] 29) := ⟨_, rfl⟩
  have hi := index_Match k g h B w0 (by rw [hw0]; simp; omega) (by rw [hw0, cell_alloc_lt _ _ _ hB]; exact h0) (by rw [hw0, cell_alloc_lt _ _ _ hB]; exact h1) (by rw [hw0, cell_alloc_lt _ _ _ hB]; exact h2) (by rw [hw0, cell_alloc_lt _ _ _ hB]; exact h3)
  subst hw0
  have hv : (Px.isMatch k g || Px.isMatch k h) = decide (0 ≤ Px.idx (Px.isMatch k) g h) := by
    unfold Px.idx
    cases Px.isMatch k g <;> cases Px.isMatch k h <;> simp
  rw [hv]
  clear hv
  go_enter Try.func187, Try.ntmps187
  go_wp2_with (first | (go_at_call 193; (with_reducible refine (hi).mono ?_); rintro e w1 ⟨rfl, hb_w1⟩; have hz_w1 := hb_w1.size; (try simp at hz_w1); have hz_w1_w_0 : w.heap.size < w1.heap.size := (by omega); have c_w1_w_0_0 := hb_w1.cell (p := ⟨w.heap.size, 0, none⟩) (by first | (simp; done) | (simp; omega)); simp [go_sem] at c_w1_w_0_0; have c_w1_w_0_1 := hb_w1.cell (p := ⟨w.heap.size, 1, none⟩) (by first | (simp; done) | (simp; omega)); simp [go_sem] at c_w1_w_0_1; have f_w1_w_0 : ∀ o, w1.frozen? ⟨w.heap.size, o, none⟩ = false := (fun o => (hb_w1.frozen (p := ⟨w.heap.size, o, none⟩) (by first | (simp; done) | (simp; omega))).trans (by simp [go_sem]))))
  go_ret
  exact Ret.mk (vbool (by simp)) (by repeat (first | exact Below.refl _ _ | assumption | (refine Below.alloc ?_ (by first | omega | (simp; omega) | simp) _) | (refine Below.drew ?_) | (refine below_drewN ?_ _) | (refine Below.setCell ?_ (by first | omega | (simp; omega) | simp) _) | (refine below_step ?_ (by assumption) (by first | omega | (simp; omega) | simp))))
set_option maxRecDepth 100000 in
set_option maxHeartbeats 400000 in
theorem hear_Match (k : Int) (g h : Px.Frame) (w : World) : Calls Try.prog 162 #[.agg #[.int .i64 g.kind, .int .i64 g.id, .int .i64 h.kind, .int .i64 h.id], .int .i64 k] w (Ret (.bool (Px.isMatch k g || Px.isMatch k h)) w) := by
  obtain ⟨w0, hw0⟩ : ∃ w0, w0 = w.alloc (.cells #[.int .i64 g.kind, .int .i64 g.id, .int .i64 h.kind, .int .i64 h.id] 47) := ⟨_, rfl⟩
  have hi := contains_Match k g h w.heap.size w0 (by rw [hw0]; simp) (by rw [hw0]; simp [go_sem]) (by rw [hw0]; simp [go_sem]) (by rw [hw0]; simp [go_sem]) (by rw [hw0]; simp [go_sem])
  subst hw0
  go_enter Try.func162, Try.ntmps162
  go_wp2_with (first | (go_at_call 187; (with_reducible refine (hi).mono ?_); rintro e w1 ⟨rfl, hb_w1⟩; have hz_w1 := hb_w1.size; (try simp at hz_w1); have hz_w1_w_0 : w.heap.size < w1.heap.size := (by omega); have c_w1_w_0_0 := hb_w1.cell (p := ⟨w.heap.size, 0, none⟩) (by first | (simp; done) | (simp; omega)); simp [go_sem] at c_w1_w_0_0; have c_w1_w_0_1 := hb_w1.cell (p := ⟨w.heap.size, 1, none⟩) (by first | (simp; done) | (simp; omega)); simp [go_sem] at c_w1_w_0_1; have c_w1_w_0_2 := hb_w1.cell (p := ⟨w.heap.size, 2, none⟩) (by first | (simp; done) | (simp; omega)); simp [go_sem] at c_w1_w_0_2; have c_w1_w_0_3 := hb_w1.cell (p := ⟨w.heap.size, 3, none⟩) (by first | (simp; done) | (simp; omega)); simp [go_sem] at c_w1_w_0_3; have f_w1_w_0 : ∀ o, w1.frozen? ⟨w.heap.size, o, none⟩ = false := (fun o => (hb_w1.frozen (p := ⟨w.heap.size, o, none⟩) (by first | (simp; done) | (simp; omega))).trans (by simp [go_sem]))))
  go_ret
  exact Ret.mk rfl (by repeat (first | exact Below.refl _ _ | assumption | (refine Below.alloc ?_ (by first | omega | (simp; omega) | simp) _) | (refine Below.drew ?_) | (refine below_drewN ?_ _) | (refine Below.setCell ?_ (by first | omega | (simp; omega) | simp) _) | (refine below_step ?_ (by assumption) (by first | omega | (simp; omega) | simp))))
end Go.Proofs.Ytjecfilbdabheaa
