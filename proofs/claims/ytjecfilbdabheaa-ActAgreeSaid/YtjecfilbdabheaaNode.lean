/- tally, ring, node, and the document's ref04, ref05, ref06. -/
import Derived.Test.YtjecfilbdabheaaConf
import Derived.Test.YtjecfilbdabheaaCalm
namespace Go.Proofs.Ytjecfilbdabheaa
open Go.RowKit
set_option linter.unusedSimpArgs false
set_option linter.unusedVariables false

namespace Px
/-- within bounds -/
def clamp (c least most : Int) : Int := if c < least then least else if most < c then most else c
end Px
set_option maxRecDepth 100000 in
set_option maxHeartbeats 400000 in
theorem tally_Clamp (c a b : Int) (w : World) : Calls Try.prog 120 #[.int .i64 c, .int .i64 a, .int .i64 b] w (Same (.int .i64 (Px.clamp c a b)) w) := by
  go_enter Try.func120, Try.ntmps120
  go_wp2
  all_goals (go_ret; exact Same.mk (vint (by unfold Px.clamp; (repeat' split) <;> omega)))
set_option maxRecDepth 100000 in
set_option maxHeartbeats 400000 in
theorem tally_Up (c : Int) (h0 : 0 ≤ c) (h1 : c ≤ 1073741824) (w : World) : Calls Try.prog 135 #[.int .i64 c, .int .i64 1073741824] w (Same (.int .i64 (Px.up c)) w) := by
  go_enter Try.func135, Try.ntmps135
  go_wp2
  all_goals (go_ret; exact Same.mk (vint (by unfold Px.up; (repeat' split) <;> omega)))
set_option maxRecDepth 100000 in
set_option maxHeartbeats 400000 in
theorem ref04_Clamp (c a b : Int) (w : World) : Calls Try.prog 154 #[.int .i64 c, .int .i64 a, .int .i64 b] w (Same (.int .i64 (Px.clamp c a b)) w) := by
  go_enter Try.func154, Try.ntmps154
  go_wp2
  all_goals (go_ret; exact Same.mk (vint (by unfold Px.clamp; (repeat' split) <;> omega)))
set_option maxRecDepth 100000 in
set_option maxHeartbeats 400000 in
theorem ref04_Up (c : Int) (h0 : 0 ≤ c) (h1 : c ≤ 1073741824) (w : World) : Calls Try.prog 128 #[.int .i64 c, .int .i64 1073741824] w (Same (.int .i64 (Px.up c)) w) := by
  go_enter Try.func128, Try.ntmps128
  go_wp2
  all_goals (go_ret; exact Same.mk (vint (by unfold Px.up; (repeat' split) <;> omega)))
namespace Px
theorem mod_own {n x : Int} (h : 3 ≤ n) : (Int.tmod x n + if Int.tmod x n < 0 then n else 0) = x % n := by
  have h1 := Int.emod_nonneg x (show n ≠ 0 by omega)
  have h2 := Int.emod_lt_of_pos x (show 0 < n by omega)
  have e := Int.tmod_eq_emod (a := x) (b := n)
  by_cases hc : 0 ≤ x ∨ n ∣ x
  · rw [if_pos hc] at e
    rw [e, if_neg (by omega)]
    omega
  · rw [if_neg hc] at e
    have hn : (n.natAbs : Int) = n := by omega
    rw [e, if_pos (by omega)]
    omega
end Px
set_option maxRecDepth 100000 in
set_option maxHeartbeats 400000 in
theorem ring_Mod (n x : Int) (h3 : 3 ≤ n) (h8 : n ≤ 8) (w : World) : Calls Try.prog 121 #[.int .i64 n, .int .i64 x] w (Same (.int .i64 (x % n)) w) := by
  have hm := Px.mod_own (x := x) h3
  have ha := Int.tmod_lt_of_pos x (show 0 < n by omega)
  have hb := Int.lt_tmod_of_pos x (show 0 < n by omega)
  go_enter Try.func121, Try.ntmps121
  go_wp2
  all_goals (go_ret; exact Same.mk (vint (by first | omega | (split at hm <;> first | omega | (unfold wrap64; omega)))))
set_option maxRecDepth 100000 in
set_option maxHeartbeats 400000 in
theorem ring_Next (n p : Int) (h3 : 3 ≤ n) (h8 : n ≤ 8) (h0 : 0 ≤ p) (h1 : p < n) (w : World) : Calls Try.prog 136 #[.int .i64 n, .int .i64 p] w (Same (.int .i64 (Px.next n p)) w) := by
  go_enter Try.func136, Try.ntmps136
  go_wp2
  all_goals (go_ret; exact Same.mk (vint (by unfold Px.next; (repeat' split) <;> first | omega | (simp_all <;> omega))))
set_option maxRecDepth 100000 in
set_option maxHeartbeats 400000 in
theorem ref05_Mod (n x : Int) (h3 : 3 ≤ n) (h8 : n ≤ 8) (w : World) : Calls Try.prog 127 #[.int .i64 n, .int .i64 x] w (Same (.int .i64 (x % n)) w) := by
  have hm := Px.mod_own (x := x) h3
  have ha := Int.tmod_lt_of_pos x (show 0 < n by omega)
  have hb := Int.lt_tmod_of_pos x (show 0 < n by omega)
  have h1 := Int.emod_nonneg x (show n ≠ 0 by omega)
  have h2 := Int.emod_lt_of_pos x (show 0 < n by omega)
  have hq : Int.tmod (Int.tmod x n + n) n = x % n := by
    rw [Int.tmod_eq_emod_of_nonneg (by omega)]
    split at hm
    · rw [hm]; exact Int.emod_eq_of_lt h1 h2
    · rw [Int.add_emod_right, Int.emod_eq_of_lt (by omega) (by omega)]; omega
  have hw : wrap64 (Int.tmod x n + n) = Int.tmod x n + n := wrap64_of (by omega)
  go_enter Try.func127, Try.ntmps127
  go_wp2
  all_goals (go_ret; exact Same.mk (vint (by simp_all)))
set_option maxRecDepth 100000 in
set_option maxHeartbeats 400000 in
theorem ref05_Next (n p : Int) (h3 : 3 ≤ n) (h8 : n ≤ 8) (h0 : 0 ≤ p) (h1 : p < n) (w : World) : Calls Try.prog 75 #[.int .i64 n, .int .i64 p] w (Same (.int .i64 (Px.next n p)) w) := by
  have hn := Px.next_mod h0 h1
  go_enter Try.func75, Try.ntmps75
  go_wp2_with (first | (go_at_call 127; (with_reducible refine (ref05_Mod n _ h3 h8 _).mono ?_); rintro e w1 ⟨rfl, rfl⟩))
  go_ret
  exact Same.mk (vint hn.symm)

namespace Px
/-- the error of a fresh node -/
def freshErr (n id : Int) : Int := if right n = true then (if 0 ≤ id ∧ id < n then 0 else 2) else 1
def freshId (n id : Int) : Int := if right n = true ∧ 0 ≤ id ∧ id < n then id else 0
theorem freshErr_ok {n id : Int} : freshErr n id = 0 ↔ right n = true ∧ 0 ≤ id ∧ id < n := by
  unfold freshErr
  split
  · split <;> simp_all
  · simp_all
end Px
set_option maxRecDepth 100000 in
set_option maxHeartbeats 400000 in
theorem node_Fresh (n id : Int) (w : World) : Calls Try.prog 119 #[.int .i64 n, .int .i64 id] w (Ret (.tuple #[.agg #[.int .i64 (Px.freshId n id), .int .i64 0, .int .i64 0, .int .i64 0], .int .i64 (Px.freshErr n id)]) w) := by
  cases hr : Px.right n with
  | false =>
    rw [show Px.freshId n id = 0 by simp [Px.freshId, hr], show Px.freshErr n id = 1 by simp [Px.freshErr, hr]]
    go_enter Try.func119, Try.ntmps119
    go_wp2_with (first | (go_at_call 64; (with_reducible refine (conf_Right _ _).mono ?_); rintro e w1 ⟨rfl, rfl⟩))
    all_goals (refine bodyPost_ret (v := .tuple #[.agg #[.int .i64 0, .int .i64 0, .int .i64 0, .int .i64 0], .int .i64 1]) (by simp [results, Try.results119, go_sem]) rfl ⟨rfl, (by repeat (first | exact Below.refl _ _ | assumption | (refine Below.alloc ?_ (by first | omega | (simp; omega) | simp) _) | (refine Below.drew ?_) | (refine below_drewN ?_ _) | (refine Below.setCell ?_ (by first | omega | (simp; omega) | simp) _) | (refine below_step ?_ (by assumption) (by first | omega | (simp; omega) | simp))))⟩)
  | true =>
    by_cases hi : 0 ≤ id ∧ id < n
    · rw [show Px.freshId n id = id by simp [Px.freshId, hr, hi], show Px.freshErr n id = 0 by simp [Px.freshErr, hr, hi]]
      go_enter Try.func119, Try.ntmps119
      go_wp2_with (first | (go_at_call 64; (with_reducible refine (conf_Right _ _).mono ?_); rintro e w1 ⟨rfl, rfl⟩))
      all_goals (refine bodyPost_ret (v := .tuple #[.agg #[.int .i64 id, .int .i64 0, .int .i64 0, .int .i64 0], .int .i64 0]) (by simp [results, Try.results119, go_sem]) rfl ⟨rfl, (by repeat (first | exact Below.refl _ _ | assumption | (refine Below.alloc ?_ (by first | omega | (simp; omega) | simp) _) | (refine Below.drew ?_) | (refine below_drewN ?_ _) | (refine Below.setCell ?_ (by first | omega | (simp; omega) | simp) _) | (refine below_step ?_ (by assumption) (by first | omega | (simp; omega) | simp))))⟩)
    · rw [show Px.freshId n id = 0 by simp only [Px.freshId, hr, true_and, hi, if_false], show Px.freshErr n id = 2 by simp only [Px.freshErr, hr, if_true, hi, if_false]]
      go_enter Try.func119, Try.ntmps119
      go_wp2_with (first | (go_at_call 64; (with_reducible refine (conf_Right _ _).mono ?_); rintro e w1 ⟨rfl, rfl⟩))
      all_goals (refine bodyPost_ret (v := .tuple #[.agg #[.int .i64 0, .int .i64 0, .int .i64 0, .int .i64 0], .int .i64 2]) (by simp [results, Try.results119, go_sem]) rfl ⟨rfl, (by repeat (first | exact Below.refl _ _ | assumption | (refine Below.alloc ?_ (by first | omega | (simp; omega) | simp) _) | (refine Below.drew ?_) | (refine below_drewN ?_ _) | (refine Below.setCell ?_ (by first | omega | (simp; omega) | simp) _) | (refine below_step ?_ (by assumption) (by first | omega | (simp; omega) | simp))))⟩)

namespace Px
theorem nodeRight_fresh {n : Int} {x : Node} (h : freshErr n x.id ≠ 0) : nodeRight n x = false := by
  cases hx : nodeRight n x with
  | false => rfl
  | true =>
    have := nodeRight_iff.1 hx
    exact absurd (freshErr_ok.2 ⟨right_iff.2 ⟨this.1, this.2.1⟩, by omega, by omega⟩) h
theorem nodeRight_count {n : Int} {x : Node} (h : clamp x.count 0 1073741824 ≠ x.count) : nodeRight n x = false := by
  cases hx : nodeRight n x with
  | false => rfl
  | true =>
    have := nodeRight_iff.1 hx
    exact absurd (show clamp x.count 0 1073741824 = x.count by unfold clamp; (repeat' split) <;> omega) h
end Px
set_option maxRecDepth 100000 in
set_option maxHeartbeats 400000 in
theorem node_Right (n : Int) (x : Px.Node) (w : World) : Calls Try.prog 68 #[.int .i64 n, .agg #[.int .i64 x.id, .int .i64 x.mode, .int .i64 x.count, .int .i64 x.pos]] w (Ret (.bool (Px.nodeRight n x)) w) := by
  by_cases hf : Px.freshErr n x.id = 0
  · obtain ⟨hr, hi⟩ := Px.freshErr_ok.1 hf
    obtain ⟨h3, h8⟩ := Px.right_iff.1 hr
    by_cases hc : Px.clamp x.count 0 1073741824 = x.count
    · have hc' : 0 ≤ x.count ∧ x.count ≤ 1073741824 := by unfold Px.clamp at hc; (repeat' split at hc) <;> omega
      have hm0 := Int.emod_nonneg x.pos (show n ≠ 0 by omega)
      have hm1 := Int.emod_lt_of_pos x.pos (show 0 < n by omega)
      have hm2 : x.pos % n = x.pos ↔ 0 ≤ x.pos ∧ x.pos < n := ⟨fun h => by omega, fun h => Int.emod_eq_of_lt h.1 h.2⟩
      have hN := Px.nodeRight_iff (n := n) (x := x)
      go_enter Try.func68, Try.ntmps68
      go_wp2_with (first | (go_at_call 119; (with_reducible refine (node_Fresh _ _ _).mono ?_); rintro e w1 ⟨rfl, hb_w1⟩; have hz_w1 := hb_w1.size; (try simp at hz_w1); have hz_w1_w_0 : w.heap.size < w1.heap.size := (by omega); have c_w1_w_0_0 := hb_w1.cell (p := ⟨w.heap.size, 0, none⟩) (by first | (simp; done) | (simp; omega)); simp [go_sem] at c_w1_w_0_0; have c_w1_w_0_1 := hb_w1.cell (p := ⟨w.heap.size, 1, none⟩) (by first | (simp; done) | (simp; omega)); simp [go_sem] at c_w1_w_0_1; have c_w1_w_0_2 := hb_w1.cell (p := ⟨w.heap.size, 2, none⟩) (by first | (simp; done) | (simp; omega)); simp [go_sem] at c_w1_w_0_2; have c_w1_w_0_3 := hb_w1.cell (p := ⟨w.heap.size, 3, none⟩) (by first | (simp; done) | (simp; omega)); simp [go_sem] at c_w1_w_0_3; have f_w1_w_0 : ∀ o, w1.frozen? ⟨w.heap.size, o, none⟩ = false := (fun o => (hb_w1.frozen (p := ⟨w.heap.size, o, none⟩) (by first | (simp; done) | (simp; omega))).trans (by simp [go_sem]))) | (refine wp_region_calm (by kernel_rfl) (by kernel_rfl) ?_; (repeat (first | go_big_quiet_step ((first | fail | (go_at_call 120; exact growSame (tally_Clamp _ _ _ _)))) | quiet_step ((first | fail | (go_at_call 120; exact growSame (tally_Clamp _ _ _ _)))))); refine wpQuiet_nil ?_; intro w2 hW_; obtain ⟨zz, hzz⟩ := hW_; have hb_w2 := calm_out hzz; clear hzz zz; have hz_w2 := hb_w2.size; (try simp at hz_w2); have hz_w2_w_0 : w.heap.size < w2.heap.size := (by omega); have c_w2_w_0_0 := hb_w2.cell (p := ⟨w.heap.size, 0, none⟩) (by first | (simp; done) | (simp; omega)); simp [go_sem, c_w1_w_0_0, c_w1_w_0_1, c_w1_w_0_2, c_w1_w_0_3, f_w1_w_0, hz_w1_w_0] at c_w2_w_0_0; have c_w2_w_0_1 := hb_w2.cell (p := ⟨w.heap.size, 1, none⟩) (by first | (simp; done) | (simp; omega)); simp [go_sem, c_w1_w_0_0, c_w1_w_0_1, c_w1_w_0_2, c_w1_w_0_3, f_w1_w_0, hz_w1_w_0] at c_w2_w_0_1; have c_w2_w_0_2 := hb_w2.cell (p := ⟨w.heap.size, 2, none⟩) (by first | (simp; done) | (simp; omega)); simp [go_sem, c_w1_w_0_0, c_w1_w_0_1, c_w1_w_0_2, c_w1_w_0_3, f_w1_w_0, hz_w1_w_0] at c_w2_w_0_2; have c_w2_w_0_3 := hb_w2.cell (p := ⟨w.heap.size, 3, none⟩) (by first | (simp; done) | (simp; omega)); simp [go_sem, c_w1_w_0_0, c_w1_w_0_1, c_w1_w_0_2, c_w1_w_0_3, f_w1_w_0, hz_w1_w_0] at c_w2_w_0_3; have f_w2_w_0 : ∀ o, w2.frozen? ⟨w.heap.size, o, none⟩ = false := (fun o => (hb_w2.frozen (p := ⟨w.heap.size, o, none⟩) (by first | (simp; done) | (simp; omega))).trans (by simp [go_sem, c_w1_w_0_0, c_w1_w_0_1, c_w1_w_0_2, c_w1_w_0_3, f_w1_w_0, hz_w1_w_0]))) | (refine wp_region_calm (by kernel_rfl) (by kernel_rfl) ?_; (repeat (first | go_big_quiet_step ((first | fail | (go_at_call 121; exact growSame (ring_Mod n _ h3 h8 _)))) | quiet_step ((first | fail | (go_at_call 121; exact growSame (ring_Mod n _ h3 h8 _)))))); refine wpQuiet_nil ?_; intro w3 hW_; obtain ⟨zz, hzz⟩ := hW_; have hb_w3 := calm_out hzz; clear hzz zz; have hz_w3 := hb_w3.size; (try simp at hz_w3); have hz_w3_w_0 : w.heap.size < w3.heap.size := (by omega); have c_w3_w_0_0 := hb_w3.cell (p := ⟨w.heap.size, 0, none⟩) (by first | (simp; done) | (simp; omega)); simp [go_sem, c_w2_w_0_0, c_w2_w_0_1, c_w2_w_0_2, c_w2_w_0_3, f_w2_w_0, hz_w2_w_0] at c_w3_w_0_0; have c_w3_w_0_1 := hb_w3.cell (p := ⟨w.heap.size, 1, none⟩) (by first | (simp; done) | (simp; omega)); simp [go_sem, c_w2_w_0_0, c_w2_w_0_1, c_w2_w_0_2, c_w2_w_0_3, f_w2_w_0, hz_w2_w_0] at c_w3_w_0_1; have c_w3_w_0_2 := hb_w3.cell (p := ⟨w.heap.size, 2, none⟩) (by first | (simp; done) | (simp; omega)); simp [go_sem, c_w2_w_0_0, c_w2_w_0_1, c_w2_w_0_2, c_w2_w_0_3, f_w2_w_0, hz_w2_w_0] at c_w3_w_0_2; have c_w3_w_0_3 := hb_w3.cell (p := ⟨w.heap.size, 3, none⟩) (by first | (simp; done) | (simp; omega)); simp [go_sem, c_w2_w_0_0, c_w2_w_0_1, c_w2_w_0_2, c_w2_w_0_3, f_w2_w_0, hz_w2_w_0] at c_w3_w_0_3; have f_w3_w_0 : ∀ o, w3.frozen? ⟨w.heap.size, o, none⟩ = false := (fun o => (hb_w3.frozen (p := ⟨w.heap.size, o, none⟩) (by first | (simp; done) | (simp; omega))).trans (by simp [go_sem, c_w2_w_0_0, c_w2_w_0_1, c_w2_w_0_2, c_w2_w_0_3, f_w2_w_0, hz_w2_w_0]))))
      all_goals (go_ret; refine Ret.mk (vbool ?_) (by repeat (first | exact Below.refl _ _ | assumption | (refine Below.alloc ?_ (by first | omega | (simp; omega) | simp) _) | (refine Below.drew ?_) | (refine below_drewN ?_ _) | (refine Below.setCell ?_ (by first | omega | (simp; omega) | simp) _) | (refine below_step ?_ (by assumption) (by first | omega | (simp; omega) | simp)))))
      all_goals (rw [hN]; simp_all <;> omega)
    · rw [Px.nodeRight_count hc]
      go_enter Try.func68, Try.ntmps68
      go_wp2_with (first | (go_at_call 119; (with_reducible refine (node_Fresh _ _ _).mono ?_); rintro e w1 ⟨rfl, hb_w1⟩; have hz_w1 := hb_w1.size; (try simp at hz_w1); have hz_w1_w_0 : w.heap.size < w1.heap.size := (by omega); have c_w1_w_0_0 := hb_w1.cell (p := ⟨w.heap.size, 0, none⟩) (by first | (simp; done) | (simp; omega)); simp [go_sem] at c_w1_w_0_0; have c_w1_w_0_1 := hb_w1.cell (p := ⟨w.heap.size, 1, none⟩) (by first | (simp; done) | (simp; omega)); simp [go_sem] at c_w1_w_0_1; have c_w1_w_0_2 := hb_w1.cell (p := ⟨w.heap.size, 2, none⟩) (by first | (simp; done) | (simp; omega)); simp [go_sem] at c_w1_w_0_2; have c_w1_w_0_3 := hb_w1.cell (p := ⟨w.heap.size, 3, none⟩) (by first | (simp; done) | (simp; omega)); simp [go_sem] at c_w1_w_0_3; have f_w1_w_0 : ∀ o, w1.frozen? ⟨w.heap.size, o, none⟩ = false := (fun o => (hb_w1.frozen (p := ⟨w.heap.size, o, none⟩) (by first | (simp; done) | (simp; omega))).trans (by simp [go_sem]))) | (refine wp_region_calm (by kernel_rfl) (by kernel_rfl) ?_; (repeat (first | go_big_quiet_step ((first | fail | (go_at_call 120; exact growSame (tally_Clamp _ _ _ _)))) | quiet_step ((first | fail | (go_at_call 120; exact growSame (tally_Clamp _ _ _ _)))))); refine wpQuiet_nil ?_; intro w2 hW_; obtain ⟨zz, hzz⟩ := hW_; have hb_w2 := calm_out hzz; clear hzz zz; have hz_w2 := hb_w2.size; (try simp at hz_w2); have hz_w2_w_0 : w.heap.size < w2.heap.size := (by omega); have c_w2_w_0_0 := hb_w2.cell (p := ⟨w.heap.size, 0, none⟩) (by first | (simp; done) | (simp; omega)); simp [go_sem, c_w1_w_0_0, c_w1_w_0_1, c_w1_w_0_2, c_w1_w_0_3, f_w1_w_0, hz_w1_w_0] at c_w2_w_0_0; have c_w2_w_0_1 := hb_w2.cell (p := ⟨w.heap.size, 1, none⟩) (by first | (simp; done) | (simp; omega)); simp [go_sem, c_w1_w_0_0, c_w1_w_0_1, c_w1_w_0_2, c_w1_w_0_3, f_w1_w_0, hz_w1_w_0] at c_w2_w_0_1; have c_w2_w_0_2 := hb_w2.cell (p := ⟨w.heap.size, 2, none⟩) (by first | (simp; done) | (simp; omega)); simp [go_sem, c_w1_w_0_0, c_w1_w_0_1, c_w1_w_0_2, c_w1_w_0_3, f_w1_w_0, hz_w1_w_0] at c_w2_w_0_2; have c_w2_w_0_3 := hb_w2.cell (p := ⟨w.heap.size, 3, none⟩) (by first | (simp; done) | (simp; omega)); simp [go_sem, c_w1_w_0_0, c_w1_w_0_1, c_w1_w_0_2, c_w1_w_0_3, f_w1_w_0, hz_w1_w_0] at c_w2_w_0_3; have f_w2_w_0 : ∀ o, w2.frozen? ⟨w.heap.size, o, none⟩ = false := (fun o => (hb_w2.frozen (p := ⟨w.heap.size, o, none⟩) (by first | (simp; done) | (simp; omega))).trans (by simp [go_sem, c_w1_w_0_0, c_w1_w_0_1, c_w1_w_0_2, c_w1_w_0_3, f_w1_w_0, hz_w1_w_0]))))
      all_goals (go_ret; exact Ret.mk rfl (by repeat (first | exact Below.refl _ _ | assumption | (refine Below.alloc ?_ (by first | omega | (simp; omega) | simp) _) | (refine Below.drew ?_) | (refine below_drewN ?_ _) | (refine Below.setCell ?_ (by first | omega | (simp; omega) | simp) _) | (refine below_step ?_ (by assumption) (by first | omega | (simp; omega) | simp)))))
  · rw [Px.nodeRight_fresh hf]
    go_enter Try.func68, Try.ntmps68
    go_wp2_with (first | (go_at_call 119; (with_reducible refine (node_Fresh _ _ _).mono ?_); rintro e w1 ⟨rfl, hb_w1⟩; have hz_w1 := hb_w1.size; (try simp at hz_w1); have hz_w1_w_0 : w.heap.size < w1.heap.size := (by omega); have c_w1_w_0_0 := hb_w1.cell (p := ⟨w.heap.size, 0, none⟩) (by first | (simp; done) | (simp; omega)); simp [go_sem] at c_w1_w_0_0; have c_w1_w_0_1 := hb_w1.cell (p := ⟨w.heap.size, 1, none⟩) (by first | (simp; done) | (simp; omega)); simp [go_sem] at c_w1_w_0_1; have c_w1_w_0_2 := hb_w1.cell (p := ⟨w.heap.size, 2, none⟩) (by first | (simp; done) | (simp; omega)); simp [go_sem] at c_w1_w_0_2; have c_w1_w_0_3 := hb_w1.cell (p := ⟨w.heap.size, 3, none⟩) (by first | (simp; done) | (simp; omega)); simp [go_sem] at c_w1_w_0_3; have f_w1_w_0 : ∀ o, w1.frozen? ⟨w.heap.size, o, none⟩ = false := (fun o => (hb_w1.frozen (p := ⟨w.heap.size, o, none⟩) (by first | (simp; done) | (simp; omega))).trans (by simp [go_sem]))) | (refine wp_region_calm (by kernel_rfl) (by kernel_rfl) ?_; (repeat (first | go_big_quiet_step (fail) | quiet_step (fail))); refine wpQuiet_nil ?_; intro w2 hW_; obtain ⟨zz, hzz⟩ := hW_; have hb_w2 := calm_out hzz; clear hzz zz; have hz_w2 := hb_w2.size; (try simp at hz_w2); have hz_w2_w_0 : w.heap.size < w2.heap.size := (by omega); have c_w2_w_0_0 := hb_w2.cell (p := ⟨w.heap.size, 0, none⟩) (by first | (simp; done) | (simp; omega)); simp [go_sem, c_w1_w_0_0, c_w1_w_0_1, c_w1_w_0_2, c_w1_w_0_3, f_w1_w_0, hz_w1_w_0] at c_w2_w_0_0; have c_w2_w_0_1 := hb_w2.cell (p := ⟨w.heap.size, 1, none⟩) (by first | (simp; done) | (simp; omega)); simp [go_sem, c_w1_w_0_0, c_w1_w_0_1, c_w1_w_0_2, c_w1_w_0_3, f_w1_w_0, hz_w1_w_0] at c_w2_w_0_1; have c_w2_w_0_2 := hb_w2.cell (p := ⟨w.heap.size, 2, none⟩) (by first | (simp; done) | (simp; omega)); simp [go_sem, c_w1_w_0_0, c_w1_w_0_1, c_w1_w_0_2, c_w1_w_0_3, f_w1_w_0, hz_w1_w_0] at c_w2_w_0_2; have c_w2_w_0_3 := hb_w2.cell (p := ⟨w.heap.size, 3, none⟩) (by first | (simp; done) | (simp; omega)); simp [go_sem, c_w1_w_0_0, c_w1_w_0_1, c_w1_w_0_2, c_w1_w_0_3, f_w1_w_0, hz_w1_w_0] at c_w2_w_0_3; have f_w2_w_0 : ∀ o, w2.frozen? ⟨w.heap.size, o, none⟩ = false := (fun o => (hb_w2.frozen (p := ⟨w.heap.size, o, none⟩) (by first | (simp; done) | (simp; omega))).trans (by simp [go_sem, c_w1_w_0_0, c_w1_w_0_1, c_w1_w_0_2, c_w1_w_0_3, f_w1_w_0, hz_w1_w_0]))))
    all_goals (go_ret; exact Ret.mk rfl (by repeat (first | exact Below.refl _ _ | assumption | (refine Below.alloc ?_ (by first | omega | (simp; omega) | simp) _) | (refine Below.drew ?_) | (refine below_drewN ?_ _) | (refine Below.setCell ?_ (by first | omega | (simp; omega) | simp) _) | (refine below_step ?_ (by assumption) (by first | omega | (simp; omega) | simp)))))
set_option maxRecDepth 100000 in
set_option maxHeartbeats 2000000 in
theorem ref06_Right (n : Int) (x : Px.Node) (w : World) : Calls Try.prog 37 #[.int .i64 n, .agg #[.int .i64 x.id, .int .i64 x.mode, .int .i64 x.count, .int .i64 x.pos]] w (Ret (.bool (Px.nodeRight n x)) w) := by
  have hF : ¬ (3 ≤ n ∧ n ≤ 8 ∧ 0 ≤ x.id ∧ x.id < n ∧ 0 ≤ x.mode ∧ x.mode ≤ 3 ∧ 0 ≤ x.count ∧ x.count ≤ 1073741824 ∧ (x.mode = 0 → x.count = 0) ∧ (x.mode ≠ 3 → x.pos = 0) ∧ 0 ≤ x.pos ∧ x.pos < n) → Px.nodeRight n x = false := fun h => by
    cases hx : Px.nodeRight n x with
    | false => rfl
    | true => exact absurd (Px.nodeRight_iff.1 hx) h
  cases hr : Px.right n with
  | false =>
    have hn : ¬ (3 ≤ n ∧ n ≤ 8) := fun h => by rw [Px.right_iff.2 h] at hr; cases hr
    rw [hF (by omega)]; clear hF
    go_enter Try.func37, Try.ntmps37
    go_wp2_with (first | (go_at_call 65; (with_reducible refine (ref03_Right _ _).mono ?_); rintro e w1 ⟨rfl, rfl⟩))
    all_goals (go_ret; refine Ret.mk ?_ (by repeat (first | exact Below.refl _ _ | assumption | (refine Below.alloc ?_ (by first | omega | (simp; omega) | simp) _) | (refine Below.drew ?_) | (refine below_drewN ?_ _) | (refine Below.setCell ?_ (by first | omega | (simp; omega) | simp) _) | (refine below_step ?_ (by assumption) (by first | omega | (simp; omega) | simp)))); first | rfl | (exfalso; simp_all; done) | exact vbool (by simp <;> omega))
  | true =>
    have hn := Px.right_iff.1 hr
    by_cases a0 : x.id < 0
    · rw [hF (by omega)]; clear hF
      go_enter Try.func37, Try.ntmps37
      go_wp2_with (first | (go_at_call 65; (with_reducible refine (ref03_Right _ _).mono ?_); rintro e w1 ⟨rfl, rfl⟩))
      all_goals (go_ret; refine Ret.mk ?_ (by repeat (first | exact Below.refl _ _ | assumption | (refine Below.alloc ?_ (by first | omega | (simp; omega) | simp) _) | (refine Below.drew ?_) | (refine below_drewN ?_ _) | (refine Below.setCell ?_ (by first | omega | (simp; omega) | simp) _) | (refine below_step ?_ (by assumption) (by first | omega | (simp; omega) | simp)))); first | rfl | (exfalso; simp_all; done) | exact vbool (by simp <;> omega))
    by_cases a1 : n ≤ x.id
    · rw [hF (by omega)]; clear hF
      go_enter Try.func37, Try.ntmps37
      go_wp2_with (first | (go_at_call 65; (with_reducible refine (ref03_Right _ _).mono ?_); rintro e w1 ⟨rfl, rfl⟩))
      all_goals (go_ret; refine Ret.mk ?_ (by repeat (first | exact Below.refl _ _ | assumption | (refine Below.alloc ?_ (by first | omega | (simp; omega) | simp) _) | (refine Below.drew ?_) | (refine below_drewN ?_ _) | (refine Below.setCell ?_ (by first | omega | (simp; omega) | simp) _) | (refine below_step ?_ (by assumption) (by first | omega | (simp; omega) | simp)))); first | rfl | (exfalso; simp_all; done) | exact vbool (by simp <;> omega))
    by_cases a2 : x.mode < 0
    · rw [hF (by omega)]; clear hF
      go_enter Try.func37, Try.ntmps37
      go_wp2_with (first | (go_at_call 65; (with_reducible refine (ref03_Right _ _).mono ?_); rintro e w1 ⟨rfl, rfl⟩))
      all_goals (go_ret; refine Ret.mk ?_ (by repeat (first | exact Below.refl _ _ | assumption | (refine Below.alloc ?_ (by first | omega | (simp; omega) | simp) _) | (refine Below.drew ?_) | (refine below_drewN ?_ _) | (refine Below.setCell ?_ (by first | omega | (simp; omega) | simp) _) | (refine below_step ?_ (by assumption) (by first | omega | (simp; omega) | simp)))); first | rfl | (exfalso; simp_all; done) | exact vbool (by simp <;> omega))
    by_cases a3 : 3 < x.mode
    · rw [hF (by omega)]; clear hF
      go_enter Try.func37, Try.ntmps37
      go_wp2_with (first | (go_at_call 65; (with_reducible refine (ref03_Right _ _).mono ?_); rintro e w1 ⟨rfl, rfl⟩))
      all_goals (go_ret; refine Ret.mk ?_ (by repeat (first | exact Below.refl _ _ | assumption | (refine Below.alloc ?_ (by first | omega | (simp; omega) | simp) _) | (refine Below.drew ?_) | (refine below_drewN ?_ _) | (refine Below.setCell ?_ (by first | omega | (simp; omega) | simp) _) | (refine below_step ?_ (by assumption) (by first | omega | (simp; omega) | simp)))); first | rfl | (exfalso; simp_all; done) | exact vbool (by simp <;> omega))
    by_cases a4 : x.count < 0
    · rw [hF (by omega)]; clear hF
      go_enter Try.func37, Try.ntmps37
      go_wp2_with (first | (go_at_call 65; (with_reducible refine (ref03_Right _ _).mono ?_); rintro e w1 ⟨rfl, rfl⟩))
      all_goals (go_ret; refine Ret.mk ?_ (by repeat (first | exact Below.refl _ _ | assumption | (refine Below.alloc ?_ (by first | omega | (simp; omega) | simp) _) | (refine Below.drew ?_) | (refine below_drewN ?_ _) | (refine Below.setCell ?_ (by first | omega | (simp; omega) | simp) _) | (refine below_step ?_ (by assumption) (by first | omega | (simp; omega) | simp)))); first | rfl | (exfalso; simp_all; done) | exact vbool (by simp <;> omega))
    by_cases a5 : 1073741824 < x.count
    · rw [hF (by omega)]; clear hF
      go_enter Try.func37, Try.ntmps37
      go_wp2_with (first | (go_at_call 65; (with_reducible refine (ref03_Right _ _).mono ?_); rintro e w1 ⟨rfl, rfl⟩))
      all_goals (go_ret; refine Ret.mk ?_ (by repeat (first | exact Below.refl _ _ | assumption | (refine Below.alloc ?_ (by first | omega | (simp; omega) | simp) _) | (refine Below.drew ?_) | (refine below_drewN ?_ _) | (refine Below.setCell ?_ (by first | omega | (simp; omega) | simp) _) | (refine below_step ?_ (by assumption) (by first | omega | (simp; omega) | simp)))); first | rfl | (exfalso; simp_all; done) | exact vbool (by simp <;> omega))
    by_cases b0 : x.mode = 0
    · by_cases b1 : x.count = 0
      · by_cases b2 : x.pos = 0
        · rw [Px.nodeRight_iff.2 (by omega)]; clear hF
          go_enter Try.func37, Try.ntmps37
          go_wp2_with (first | (go_at_call 65; (with_reducible refine (ref03_Right _ _).mono ?_); rintro e w1 ⟨rfl, rfl⟩))
          all_goals (go_ret; refine Ret.mk ?_ (by repeat (first | exact Below.refl _ _ | assumption | (refine Below.alloc ?_ (by first | omega | (simp; omega) | simp) _) | (refine Below.drew ?_) | (refine below_drewN ?_ _) | (refine Below.setCell ?_ (by first | omega | (simp; omega) | simp) _) | (refine below_step ?_ (by assumption) (by first | omega | (simp; omega) | simp)))); first | rfl | (exfalso; simp_all; done) | exact vbool (by simp <;> omega))
        · rw [hF (by omega)]; clear hF
          go_enter Try.func37, Try.ntmps37
          go_wp2_with (first | (go_at_call 65; (with_reducible refine (ref03_Right _ _).mono ?_); rintro e w1 ⟨rfl, rfl⟩))
          all_goals (go_ret; refine Ret.mk ?_ (by repeat (first | exact Below.refl _ _ | assumption | (refine Below.alloc ?_ (by first | omega | (simp; omega) | simp) _) | (refine Below.drew ?_) | (refine below_drewN ?_ _) | (refine Below.setCell ?_ (by first | omega | (simp; omega) | simp) _) | (refine below_step ?_ (by assumption) (by first | omega | (simp; omega) | simp)))); first | rfl | (exfalso; simp_all; done) | exact vbool (by simp <;> omega))
      · rw [hF (by omega)]; clear hF
        go_enter Try.func37, Try.ntmps37
        go_wp2_with (first | (go_at_call 65; (with_reducible refine (ref03_Right _ _).mono ?_); rintro e w1 ⟨rfl, rfl⟩))
        all_goals (go_ret; refine Ret.mk ?_ (by repeat (first | exact Below.refl _ _ | assumption | (refine Below.alloc ?_ (by first | omega | (simp; omega) | simp) _) | (refine Below.drew ?_) | (refine below_drewN ?_ _) | (refine Below.setCell ?_ (by first | omega | (simp; omega) | simp) _) | (refine below_step ?_ (by assumption) (by first | omega | (simp; omega) | simp)))); first | rfl | (exfalso; simp_all; done) | exact vbool (by simp <;> omega))
    · by_cases b3 : x.mode = 3
      · by_cases b4 : 0 ≤ x.pos
        · by_cases b5 : x.pos < n
          · rw [Px.nodeRight_iff.2 (by omega)]; clear hF
            go_enter Try.func37, Try.ntmps37
            go_wp2_with (first | (go_at_call 65; (with_reducible refine (ref03_Right _ _).mono ?_); rintro e w1 ⟨rfl, rfl⟩))
            all_goals (go_ret; refine Ret.mk ?_ (by repeat (first | exact Below.refl _ _ | assumption | (refine Below.alloc ?_ (by first | omega | (simp; omega) | simp) _) | (refine Below.drew ?_) | (refine below_drewN ?_ _) | (refine Below.setCell ?_ (by first | omega | (simp; omega) | simp) _) | (refine below_step ?_ (by assumption) (by first | omega | (simp; omega) | simp)))); first | rfl | (exfalso; simp_all; done) | exact vbool (by simp <;> omega))
          · rw [hF (by omega)]; clear hF
            go_enter Try.func37, Try.ntmps37
            go_wp2_with (first | (go_at_call 65; (with_reducible refine (ref03_Right _ _).mono ?_); rintro e w1 ⟨rfl, rfl⟩))
            all_goals (go_ret; refine Ret.mk ?_ (by repeat (first | exact Below.refl _ _ | assumption | (refine Below.alloc ?_ (by first | omega | (simp; omega) | simp) _) | (refine Below.drew ?_) | (refine below_drewN ?_ _) | (refine Below.setCell ?_ (by first | omega | (simp; omega) | simp) _) | (refine below_step ?_ (by assumption) (by first | omega | (simp; omega) | simp)))); first | rfl | (exfalso; simp_all; done) | exact vbool (by simp <;> omega))
        · rw [hF (by omega)]; clear hF
          go_enter Try.func37, Try.ntmps37
          go_wp2_with (first | (go_at_call 65; (with_reducible refine (ref03_Right _ _).mono ?_); rintro e w1 ⟨rfl, rfl⟩))
          all_goals (go_ret; refine Ret.mk ?_ (by repeat (first | exact Below.refl _ _ | assumption | (refine Below.alloc ?_ (by first | omega | (simp; omega) | simp) _) | (refine Below.drew ?_) | (refine below_drewN ?_ _) | (refine Below.setCell ?_ (by first | omega | (simp; omega) | simp) _) | (refine below_step ?_ (by assumption) (by first | omega | (simp; omega) | simp)))); first | rfl | (exfalso; simp_all; done) | exact vbool (by simp <;> omega))
      · by_cases b2 : x.pos = 0
        · rw [Px.nodeRight_iff.2 (by omega)]; clear hF
          go_enter Try.func37, Try.ntmps37
          go_wp2_with (first | (go_at_call 65; (with_reducible refine (ref03_Right _ _).mono ?_); rintro e w1 ⟨rfl, rfl⟩))
          all_goals (go_ret; refine Ret.mk ?_ (by repeat (first | exact Below.refl _ _ | assumption | (refine Below.alloc ?_ (by first | omega | (simp; omega) | simp) _) | (refine Below.drew ?_) | (refine below_drewN ?_ _) | (refine Below.setCell ?_ (by first | omega | (simp; omega) | simp) _) | (refine below_step ?_ (by assumption) (by first | omega | (simp; omega) | simp)))); first | rfl | (exfalso; simp_all; done) | exact vbool (by simp <;> omega))
        · rw [hF (by omega)]; clear hF
          go_enter Try.func37, Try.ntmps37
          go_wp2_with (first | (go_at_call 65; (with_reducible refine (ref03_Right _ _).mono ?_); rintro e w1 ⟨rfl, rfl⟩))
          all_goals (go_ret; refine Ret.mk ?_ (by repeat (first | exact Below.refl _ _ | assumption | (refine Below.alloc ?_ (by first | omega | (simp; omega) | simp) _) | (refine Below.drew ?_) | (refine below_drewN ?_ _) | (refine Below.setCell ?_ (by first | omega | (simp; omega) | simp) _) | (refine below_step ?_ (by assumption) (by first | omega | (simp; omega) | simp)))); first | rfl | (exfalso; simp_all; done) | exact vbool (by simp <;> omega))
end Go.Proofs.Ytjecfilbdabheaa
