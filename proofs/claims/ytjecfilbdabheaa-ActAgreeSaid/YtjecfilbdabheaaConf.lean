/- conf and ref03: the times. -/
import Derived.Test.YtjecfilbdabheaaWire
namespace Go.Proofs.Ytjecfilbdabheaa
open Go.RowKit
set_option linter.unusedSimpArgs false
set_option linter.unusedVariables false

theorem wrap64_of {a : Int} (h : -9223372036854775808 ≤ a ∧ a ≤ 9223372036854775807) : wrap64 a = a := by unfold wrap64; omega

namespace Px
/-- a time: k rounds -/
def time (k n : Int) : Int := if right n = true then k * n else 0
end Px
theorem k2 : (0 : Int) ≤ 2 ∧ (2 : Int) ≤ 100 := by omega
theorem k4 : (0 : Int) ≤ 4 ∧ (4 : Int) ≤ 100 := by omega
theorem k8 : (0 : Int) ≤ 8 ∧ (8 : Int) ≤ 100 := by omega

theorem run_insert_last {P : Program} {mty kt et : TypeId} {kd : TypeDesc} (hm : P.underlying mty = some (.map kt et)) (hk : P.underlying kt = some kd) {key : Value} (val : Value) (hkey : MapKept.IsKey kd key)
    {es es' : Array MapEntry} {clock : Nat} (W : World) (hf : Instr.findNow kd key es.toList 0 = some none) (he : es.push { key := key, val := val, born := clock } = es') :
    (Instr.mapUpdate mty (.map (some W.heap.size)) key val).run P (W.alloc (.map es clock)) = .ok () (W.alloc (.map es' (clock + 1))) := by
  subst he
  have hb := (MapKept.heap_alloc W (.map es clock)).1
  have hc : (Instr.checkKey false 10000 kt key).run P (W.alloc (.map es clock)) = .ok () (W.alloc (.map es clock)) := MapKept.run_checkKey (k := key) hk hkey false 9999
  simp [Instr.mapUpdate, run_underlying hm, MapKept.run_getObj_map hb, hc, MapKept.run_findKey hk hf, MapKept.run_setObj_map _ hb, Result.andThen]
  unfold World.alloc
  simp only [World.mk.injEq, and_true, true_and]
  apply Array.ext_getElem?
  intro j
  rcases Nat.lt_trichotomy j W.heap.size with h | h | h
  · simp [Array.getElem?_setIfInBounds, Array.getElem?_push, Nat.ne_of_gt h, Nat.ne_of_lt h]
  · simp [Array.getElem?_setIfInBounds, h]
  · simp [Array.getElem?_setIfInBounds, Array.getElem?_push, Nat.ne_of_gt h, Nat.ne_of_lt h]
theorem run_lookup_hit {P : Program} {mty kt et : TypeId} {kd : TypeDesc} (hm : P.underlying mty = some (.map kt et)) (hk : P.underlying kt = some kd) {key v : Value} {i : Nat} (hkey : MapKept.IsKey kd key) (ok : Bool)
    {es : Array MapEntry} {clock b : Nat} {w : World} (hb : w.heap[b]? = some (.map es clock)) (hf : Instr.findNow kd key es.toList 0 = some (some (i, v))) :
    (Instr.lookup mty (.map (some b)) key ok).run P w = .ok (if ok then .tuple #[v, .bool true] else v) w := by
  have hc : (Instr.checkKey es.isEmpty 10000 kt key).run P w = .ok () w := MapKept.run_checkKey (k := key) hk hkey _ 9999
  cases ok <;> simp [Instr.lookup, run_underlying hm, MapKept.run_getObj_map hb, hc, MapKept.run_findKey hk hf, Result.andThen]
theorem run_lookup_miss {P : Program} {mty kt et : TypeId} {kd : TypeDesc} (hm : P.underlying mty = some (.map kt et)) (hk : P.underlying kt = some kd) {key v : Value} (hkey : MapKept.IsKey kd key) (ok : Bool)
    {es : Array MapEntry} {clock b : Nat} {w : World} (hb : w.heap[b]? = some (.map es clock)) (hf : Instr.findNow kd key es.toList 0 = some none) (hz : (zeroValue et).run P w = .ok v w) :
    (Instr.lookup mty (.map (some b)) key ok).run P w = .ok (if ok then .tuple #[v, .bool false] else v) w := by
  have hc : (Instr.checkKey es.isEmpty 10000 kt key).run P w = .ok () w := MapKept.run_checkKey (k := key) hk hkey _ 9999
  cases ok <;> simp [Instr.lookup, run_underlying hm, MapKept.run_getObj_map hb, hc, MapKept.run_findKey hk hf, hz, Result.andThen]

/-- the entries of conf.rounds -/
def roundsMap : Array MapEntry := #[{ key := .string { data := #[98, 108, 111, 99, 107] }, val := .int .i64 2, born := 0 }, { key := .string { data := #[119, 97, 116, 99, 104] }, val := .int .i64 8, born := 1 }, { key := .string { data := #[108, 97, 116, 101, 114] }, val := .int .i64 3, born := 2 }, { key := .string { data := #[115, 116, 97, 114, 116] }, val := .int .i64 40, born := 3 }, { key := .string { data := #[115, 116, 97, 98, 108, 101] }, val := .int .i64 96, born := 4 }, { key := .string { data := #[108, 105, 115, 116, 101, 110] }, val := .int .i64 4, born := 5 }, { key := .string { data := #[99, 111, 108, 100] }, val := .int .i64 2, born := 6 }]

theorem hitBlock : Instr.findNow .string (.string { data := #[98, 108, 111, 99, 107] }) roundsMap.toList 0 = some (some (0, .int .i64 2)) := by rfl
theorem hitWatch : Instr.findNow .string (.string { data := #[119, 97, 116, 99, 104] }) roundsMap.toList 0 = some (some (1, .int .i64 8)) := by rfl
theorem hitLater : Instr.findNow .string (.string { data := #[108, 97, 116, 101, 114] }) roundsMap.toList 0 = some (some (2, .int .i64 3)) := by rfl
theorem hitStart : Instr.findNow .string (.string { data := #[115, 116, 97, 114, 116] }) roundsMap.toList 0 = some (some (3, .int .i64 40)) := by rfl
theorem hitStable : Instr.findNow .string (.string { data := #[115, 116, 97, 98, 108, 101] }) roundsMap.toList 0 = some (some (4, .int .i64 96)) := by rfl
theorem hitListen : Instr.findNow .string (.string { data := #[108, 105, 115, 116, 101, 110] }) roundsMap.toList 0 = some (some (5, .int .i64 4)) := by rfl
theorem hitCold : Instr.findNow .string (.string { data := #[99, 111, 108, 100] }) roundsMap.toList 0 = some (some (6, .int .i64 2)) := by rfl
set_option maxRecDepth 100000 in
set_option maxHeartbeats 400000 in
theorem conf_rounds (w : World) : Calls Try.prog 191 #[] w fun e w' => e = .returned (.map (some w.heap.size)) ∧ w' = w.alloc (.map roundsMap 7) := by
  have hmm := @run_makeMap Try.prog
  have h0 : ∀ W : World, (Instr.mapUpdate 196 (.map (some W.heap.size)) (.string { data := #[98, 108, 111, 99, 107] }) (.int .i64 2)).run Try.prog (W.alloc (.map #[] 0)) = .ok () (W.alloc (.map #[{ key := .string { data := #[98, 108, 111, 99, 107] }, val := .int .i64 2, born := 0 }] 1)) := fun W => run_insert_last Try.underlying196 Try.underlying9 _ (by simp [MapKept.IsKey]) W (by rfl) rfl
  have h1 : ∀ W : World, (Instr.mapUpdate 196 (.map (some W.heap.size)) (.string { data := #[119, 97, 116, 99, 104] }) (.int .i64 8)).run Try.prog (W.alloc (.map #[{ key := .string { data := #[98, 108, 111, 99, 107] }, val := .int .i64 2, born := 0 }] 1)) = .ok () (W.alloc (.map #[{ key := .string { data := #[98, 108, 111, 99, 107] }, val := .int .i64 2, born := 0 }, { key := .string { data := #[119, 97, 116, 99, 104] }, val := .int .i64 8, born := 1 }] 2)) := fun W => run_insert_last Try.underlying196 Try.underlying9 _ (by simp [MapKept.IsKey]) W (by rfl) rfl
  have h2 : ∀ W : World, (Instr.mapUpdate 196 (.map (some W.heap.size)) (.string { data := #[108, 97, 116, 101, 114] }) (.int .i64 3)).run Try.prog (W.alloc (.map #[{ key := .string { data := #[98, 108, 111, 99, 107] }, val := .int .i64 2, born := 0 }, { key := .string { data := #[119, 97, 116, 99, 104] }, val := .int .i64 8, born := 1 }] 2)) = .ok () (W.alloc (.map #[{ key := .string { data := #[98, 108, 111, 99, 107] }, val := .int .i64 2, born := 0 }, { key := .string { data := #[119, 97, 116, 99, 104] }, val := .int .i64 8, born := 1 }, { key := .string { data := #[108, 97, 116, 101, 114] }, val := .int .i64 3, born := 2 }] 3)) := fun W => run_insert_last Try.underlying196 Try.underlying9 _ (by simp [MapKept.IsKey]) W (by rfl) rfl
  have h3 : ∀ W : World, (Instr.mapUpdate 196 (.map (some W.heap.size)) (.string { data := #[115, 116, 97, 114, 116] }) (.int .i64 40)).run Try.prog (W.alloc (.map #[{ key := .string { data := #[98, 108, 111, 99, 107] }, val := .int .i64 2, born := 0 }, { key := .string { data := #[119, 97, 116, 99, 104] }, val := .int .i64 8, born := 1 }, { key := .string { data := #[108, 97, 116, 101, 114] }, val := .int .i64 3, born := 2 }] 3)) = .ok () (W.alloc (.map #[{ key := .string { data := #[98, 108, 111, 99, 107] }, val := .int .i64 2, born := 0 }, { key := .string { data := #[119, 97, 116, 99, 104] }, val := .int .i64 8, born := 1 }, { key := .string { data := #[108, 97, 116, 101, 114] }, val := .int .i64 3, born := 2 }, { key := .string { data := #[115, 116, 97, 114, 116] }, val := .int .i64 40, born := 3 }] 4)) := fun W => run_insert_last Try.underlying196 Try.underlying9 _ (by simp [MapKept.IsKey]) W (by rfl) rfl
  have h4 : ∀ W : World, (Instr.mapUpdate 196 (.map (some W.heap.size)) (.string { data := #[115, 116, 97, 98, 108, 101] }) (.int .i64 96)).run Try.prog (W.alloc (.map #[{ key := .string { data := #[98, 108, 111, 99, 107] }, val := .int .i64 2, born := 0 }, { key := .string { data := #[119, 97, 116, 99, 104] }, val := .int .i64 8, born := 1 }, { key := .string { data := #[108, 97, 116, 101, 114] }, val := .int .i64 3, born := 2 }, { key := .string { data := #[115, 116, 97, 114, 116] }, val := .int .i64 40, born := 3 }] 4)) = .ok () (W.alloc (.map #[{ key := .string { data := #[98, 108, 111, 99, 107] }, val := .int .i64 2, born := 0 }, { key := .string { data := #[119, 97, 116, 99, 104] }, val := .int .i64 8, born := 1 }, { key := .string { data := #[108, 97, 116, 101, 114] }, val := .int .i64 3, born := 2 }, { key := .string { data := #[115, 116, 97, 114, 116] }, val := .int .i64 40, born := 3 }, { key := .string { data := #[115, 116, 97, 98, 108, 101] }, val := .int .i64 96, born := 4 }] 5)) := fun W => run_insert_last Try.underlying196 Try.underlying9 _ (by simp [MapKept.IsKey]) W (by rfl) rfl
  have h5 : ∀ W : World, (Instr.mapUpdate 196 (.map (some W.heap.size)) (.string { data := #[108, 105, 115, 116, 101, 110] }) (.int .i64 4)).run Try.prog (W.alloc (.map #[{ key := .string { data := #[98, 108, 111, 99, 107] }, val := .int .i64 2, born := 0 }, { key := .string { data := #[119, 97, 116, 99, 104] }, val := .int .i64 8, born := 1 }, { key := .string { data := #[108, 97, 116, 101, 114] }, val := .int .i64 3, born := 2 }, { key := .string { data := #[115, 116, 97, 114, 116] }, val := .int .i64 40, born := 3 }, { key := .string { data := #[115, 116, 97, 98, 108, 101] }, val := .int .i64 96, born := 4 }] 5)) = .ok () (W.alloc (.map #[{ key := .string { data := #[98, 108, 111, 99, 107] }, val := .int .i64 2, born := 0 }, { key := .string { data := #[119, 97, 116, 99, 104] }, val := .int .i64 8, born := 1 }, { key := .string { data := #[108, 97, 116, 101, 114] }, val := .int .i64 3, born := 2 }, { key := .string { data := #[115, 116, 97, 114, 116] }, val := .int .i64 40, born := 3 }, { key := .string { data := #[115, 116, 97, 98, 108, 101] }, val := .int .i64 96, born := 4 }, { key := .string { data := #[108, 105, 115, 116, 101, 110] }, val := .int .i64 4, born := 5 }] 6)) := fun W => run_insert_last Try.underlying196 Try.underlying9 _ (by simp [MapKept.IsKey]) W (by rfl) rfl
  have h6 : ∀ W : World, (Instr.mapUpdate 196 (.map (some W.heap.size)) (.string { data := #[99, 111, 108, 100] }) (.int .i64 2)).run Try.prog (W.alloc (.map #[{ key := .string { data := #[98, 108, 111, 99, 107] }, val := .int .i64 2, born := 0 }, { key := .string { data := #[119, 97, 116, 99, 104] }, val := .int .i64 8, born := 1 }, { key := .string { data := #[108, 97, 116, 101, 114] }, val := .int .i64 3, born := 2 }, { key := .string { data := #[115, 116, 97, 114, 116] }, val := .int .i64 40, born := 3 }, { key := .string { data := #[115, 116, 97, 98, 108, 101] }, val := .int .i64 96, born := 4 }, { key := .string { data := #[108, 105, 115, 116, 101, 110] }, val := .int .i64 4, born := 5 }] 6)) = .ok () (W.alloc (.map #[{ key := .string { data := #[98, 108, 111, 99, 107] }, val := .int .i64 2, born := 0 }, { key := .string { data := #[119, 97, 116, 99, 104] }, val := .int .i64 8, born := 1 }, { key := .string { data := #[108, 97, 116, 101, 114] }, val := .int .i64 3, born := 2 }, { key := .string { data := #[115, 116, 97, 114, 116] }, val := .int .i64 40, born := 3 }, { key := .string { data := #[115, 116, 97, 98, 108, 101] }, val := .int .i64 96, born := 4 }, { key := .string { data := #[108, 105, 115, 116, 101, 110] }, val := .int .i64 4, born := 5 }, { key := .string { data := #[99, 111, 108, 100] }, val := .int .i64 2, born := 6 }] 7)) := fun W => run_insert_last Try.underlying196 Try.underlying9 _ (by simp [MapKept.IsKey]) W (by rfl) rfl
  go_enter Try.func191, Try.ntmps191
  go_wp2
  go_ret
  exact ⟨rfl, rfl⟩

set_option maxRecDepth 100000 in
set_option maxHeartbeats 400000 in
theorem conf_time (s : ByteArray) (i : Nat) (k n : Int) (hk : 0 ≤ k ∧ k ≤ 100) (hf : Instr.findNow .string (.string s) roundsMap.toList 0 = some (some (i, .int .i64 k))) (w : World) :
    Calls Try.prog 173 #[.string s, .int .i64 n] w (Ret (.int .i64 (Px.time k n)) w) := by
  have hl := fun W : World => run_lookup_hit (P := Try.prog) Try.underlying196 Try.underlying9 (key := .string s) (by simp [MapKept.IsKey]) false (MapKept.heap_alloc W (.map roundsMap 7)).1 hf
  cases hr : Px.right n with
  | false =>
    go_enter Try.func173, Try.ntmps173
    go_wp2_with (first | (go_at_call 64; (with_reducible refine (conf_Right _ _).mono ?_); rintro e w1 ⟨rfl, rfl⟩))
    all_goals (go_ret; exact Ret.mk (vint (by simp [Px.time, hr])) (by repeat (first | exact Below.refl _ _ | assumption | (refine Below.alloc ?_ (by first | omega | (simp; omega) | simp) _) | (refine Below.drew ?_) | (refine below_drewN ?_ _) | (refine Below.setCell ?_ (by first | omega | (simp; omega) | simp) _) | (refine below_step ?_ (by assumption) (by first | omega | (simp; omega) | simp)))))
  | true =>
    have hn := Px.right_iff.1 hr
    have hkn : -9223372036854775808 ≤ k * n ∧ k * n ≤ 9223372036854775807 := by
      have h1 := Int.mul_nonneg hk.1 (show (0 : Int) ≤ n by omega)
      have h2 := Int.mul_le_mul hk.2 hn.2 (by omega) (by omega)
      omega
    go_enter Try.func173, Try.ntmps173
    go_wp2_with (first | (go_at_call 64; (with_reducible refine (conf_Right _ _).mono ?_); rintro e w1 ⟨rfl, rfl⟩) | (go_at_call 191; (with_reducible refine (conf_rounds _).mono ?_); rintro e w2 ⟨rfl, rfl⟩))
    go_ret
    exact Ret.mk (vint (by simp [Px.time, hr])) (by repeat (first | exact Below.refl _ _ | assumption | (refine Below.alloc ?_ (by first | omega | (simp; omega) | simp) _) | (refine Below.drew ?_) | (refine below_drewN ?_ _) | (refine Below.setCell ?_ (by first | omega | (simp; omega) | simp) _) | (refine below_step ?_ (by assumption) (by first | omega | (simp; omega) | simp))))

set_option maxRecDepth 100000 in
set_option maxHeartbeats 400000 in
theorem conf_Block (n : Int) (w : World) : Calls Try.prog 140 #[.int .i64 n] w (Ret (.int .i64 (Px.time 2 n)) w) := by
  go_enter Try.func140, Try.ntmps140
  go_wp2_with (first | (go_at_call 173; (with_reducible refine (conf_time _ 0 2 _ k2 hitBlock _).mono ?_); rintro e w1 ⟨rfl, hb_w1⟩; have hz_w1 := hb_w1.size; (try simp at hz_w1)))
  go_ret
  exact Ret.mk rfl (by repeat (first | exact Below.refl _ _ | assumption | (refine Below.alloc ?_ (by first | omega | (simp; omega) | simp) _) | (refine Below.drew ?_) | (refine below_drewN ?_ _) | (refine Below.setCell ?_ (by first | omega | (simp; omega) | simp) _) | (refine below_step ?_ (by assumption) (by first | omega | (simp; omega) | simp))))

set_option maxRecDepth 100000 in
set_option maxHeartbeats 400000 in
theorem conf_Watch (n : Int) (w : World) : Calls Try.prog 163 #[.int .i64 n] w (Ret (.int .i64 (Px.time 8 n)) w) := by
  go_enter Try.func163, Try.ntmps163
  go_wp2_with (first | (go_at_call 173; (with_reducible refine (conf_time _ 1 8 _ k8 hitWatch _).mono ?_); rintro e w1 ⟨rfl, hb_w1⟩; have hz_w1 := hb_w1.size; (try simp at hz_w1)))
  go_ret
  exact Ret.mk rfl (by repeat (first | exact Below.refl _ _ | assumption | (refine Below.alloc ?_ (by first | omega | (simp; omega) | simp) _) | (refine Below.drew ?_) | (refine below_drewN ?_ _) | (refine Below.setCell ?_ (by first | omega | (simp; omega) | simp) _) | (refine below_step ?_ (by assumption) (by first | omega | (simp; omega) | simp))))


namespace Px
/-- a time of one's own, and an error -/
def own (k n i : Int) : Int × Int := if right n = true then (if 0 ≤ i ∧ i < n then (k * n + i + 1, 0) else (0, 2)) else (0, 1)
end Px
set_option maxRecDepth 100000 in
set_option maxHeartbeats 400000 in
theorem conf_own (s : ByteArray) (j : Nat) (k n i : Int) (hk : 0 ≤ k ∧ k ≤ 100) (hf : Instr.findNow .string (.string s) roundsMap.toList 0 = some (some (j, .int .i64 k))) (w : World) :
    Calls Try.prog 188 #[.string s, .int .i64 n, .int .i64 i] w (Ret (.tuple #[.int .i64 (Px.own k n i).1, .int .i64 (Px.own k n i).2]) w) := by
  have hkn : 3 ≤ n → n ≤ 8 → 0 ≤ k * n ∧ k * n ≤ 800 := fun h3 h8 => by
    have h1 := Int.mul_nonneg hk.1 (show (0 : Int) ≤ n by omega)
    have h2 := Int.mul_le_mul hk.2 h8 (by omega) (by omega)
    omega
  cases hr : Px.right n with
  | false =>
    go_enter Try.func188, Try.ntmps188
    go_wp2_with (first | (go_at_call 64; (with_reducible refine (conf_Right _ _).mono ?_); rintro e w1 ⟨rfl, rfl⟩))
    all_goals (refine bodyPost_ret (v := .tuple #[.int .i64 (Px.own k n i).1, .int .i64 (Px.own k n i).2]) (by simp [results, Try.results188, go_sem, Px.own, *]) rfl ⟨rfl, (by repeat (first | exact Below.refl _ _ | assumption | (refine Below.alloc ?_ (by first | omega | (simp; omega) | simp) _) | (refine Below.drew ?_) | (refine below_drewN ?_ _) | (refine Below.setCell ?_ (by first | omega | (simp; omega) | simp) _) | (refine below_step ?_ (by assumption) (by first | omega | (simp; omega) | simp))))⟩)
  | true =>
    have hn := Px.right_iff.1 hr
    obtain ⟨h1, h2⟩ := hkn hn.1 hn.2
    by_cases hi : 0 ≤ i ∧ i < n
    · have ho : Px.own k n i = (k * n + i + 1, 0) := by simp [Px.own, hr, hi]
      have ht : Px.time k n = k * n := by simp [Px.time, hr]
      rw [ho]
      go_enter Try.func188, Try.ntmps188
      go_wp2_with (first | (go_at_call 64; (with_reducible refine (conf_Right _ _).mono ?_); rintro e w1 ⟨rfl, rfl⟩) | (go_at_call 173; (with_reducible refine (conf_time _ _ k _ hk hf _).mono ?_); rintro e w2 ⟨rfl, hb_w2⟩; have hz_w2 := hb_w2.size; (try simp at hz_w2)))
      all_goals (refine bodyPost_ret (v := .tuple #[.int .i64 (k * n + i + 1), .int .i64 0]) ?_ rfl ⟨rfl, (by repeat (first | exact Below.refl _ _ | assumption | (refine Below.alloc ?_ (by first | omega | (simp; omega) | simp) _) | (refine Below.drew ?_) | (refine below_drewN ?_ _) | (refine Below.setCell ?_ (by first | omega | (simp; omega) | simp) _) | (refine below_step ?_ (by assumption) (by first | omega | (simp; omega) | simp))))⟩)
      all_goals (simp [results, Try.results188, go_sem, ht]; try (first | omega | (unfold wrap64; omega)))
    · have ho : Px.own k n i = (0, 2) := by simp only [Px.own, hr, if_true, hi, if_false]
      rw [ho]
      go_enter Try.func188, Try.ntmps188
      go_wp2_with (first | (go_at_call 64; (with_reducible refine (conf_Right _ _).mono ?_); rintro e w1 ⟨rfl, rfl⟩) | (go_at_call 173; (with_reducible refine (conf_time _ _ k _ hk hf _).mono ?_); rintro e w2 ⟨rfl, hb_w2⟩; have hz_w2 := hb_w2.size; (try simp at hz_w2)))
      all_goals (refine bodyPost_ret (v := .tuple #[.int .i64 0, .int .i64 2]) (by simp [results, Try.results188, go_sem]) rfl ⟨rfl, (by repeat (first | exact Below.refl _ _ | assumption | (refine Below.alloc ?_ (by first | omega | (simp; omega) | simp) _) | (refine Below.drew ?_) | (refine below_drewN ?_ _) | (refine Below.setCell ?_ (by first | omega | (simp; omega) | simp) _) | (refine below_step ?_ (by assumption) (by first | omega | (simp; omega) | simp))))⟩)

set_option maxRecDepth 100000 in
set_option maxHeartbeats 400000 in
theorem conf_Listen (n i : Int) (w : World) : Calls Try.prog 165 #[.int .i64 n, .int .i64 i] w (Ret (.tuple #[.int .i64 (Px.own 4 n i).1, .int .i64 (Px.own 4 n i).2]) w) := by
  go_enter Try.func165, Try.ntmps165
  go_wp2_with (first | (go_at_call 188; (with_reducible refine (conf_own _ 5 4 _ _ k4 hitListen _).mono ?_); rintro e w1 ⟨rfl, hb_w1⟩; have hz_w1 := hb_w1.size; (try simp at hz_w1)))
  refine bodyPost_ret (v := .tuple #[.int .i64 (Px.own 4 n i).1, .int .i64 (Px.own 4 n i).2]) (by simp [results, Try.results165, go_sem]) rfl ⟨rfl, (by repeat (first | exact Below.refl _ _ | assumption | (refine Below.alloc ?_ (by first | omega | (simp; omega) | simp) _) | (refine Below.drew ?_) | (refine below_drewN ?_ _) | (refine Below.setCell ?_ (by first | omega | (simp; omega) | simp) _) | (refine below_step ?_ (by assumption) (by first | omega | (simp; omega) | simp))))⟩

set_option maxRecDepth 100000 in
set_option maxHeartbeats 400000 in
theorem conf_Cold (n i : Int) (w : World) : Calls Try.prog 164 #[.int .i64 n, .int .i64 i] w (Ret (.tuple #[.int .i64 (Px.own 2 n i).1, .int .i64 (Px.own 2 n i).2]) w) := by
  go_enter Try.func164, Try.ntmps164
  go_wp2_with (first | (go_at_call 188; (with_reducible refine (conf_own _ 6 2 _ _ k2 hitCold _).mono ?_); rintro e w1 ⟨rfl, hb_w1⟩; have hz_w1 := hb_w1.size; (try simp at hz_w1)))
  refine bodyPost_ret (v := .tuple #[.int .i64 (Px.own 2 n i).1, .int .i64 (Px.own 2 n i).2]) (by simp [results, Try.results164, go_sem]) rfl ⟨rfl, (by repeat (first | exact Below.refl _ _ | assumption | (refine Below.alloc ?_ (by first | omega | (simp; omega) | simp) _) | (refine Below.drew ?_) | (refine below_drewN ?_ _) | (refine Below.setCell ?_ (by first | omega | (simp; omega) | simp) _) | (refine below_step ?_ (by assumption) (by first | omega | (simp; omega) | simp))))⟩


set_option maxRecDepth 100000 in
set_option maxHeartbeats 400000 in
theorem ref03_times (n k : Int) (hk : 0 ≤ k ∧ k ≤ 100) (w : World) : Calls Try.prog 132 #[.int .i64 n, .int .i64 k] w (Same (.int .i64 (Px.time k n)) w) := by
  have hc := Int.mul_comm k n
  cases hr : Px.right n with
  | false =>
    go_enter Try.func132, Try.ntmps132
    go_wp2_with (first | (go_at_call 65; (with_reducible refine (ref03_Right _ _).mono ?_); rintro e w1 ⟨rfl, rfl⟩))
    all_goals (go_ret; exact Same.mk (vint (by simp [Px.time, hr])))
  | true =>
    have hn := Px.right_iff.1 hr
    have hkn : -9223372036854775808 ≤ n * k ∧ n * k ≤ 9223372036854775807 := by
      rw [← hc]
      have h1 := Int.mul_nonneg hk.1 (show (0 : Int) ≤ n by omega)
      have h2 := Int.mul_le_mul hk.2 hn.2 (by omega) (by omega)
      omega
    go_enter Try.func132, Try.ntmps132
    go_wp2_with (first | (go_at_call 65; (with_reducible refine (ref03_Right _ _).mono ?_); rintro e w1 ⟨rfl, rfl⟩))
    go_ret
    exact Same.mk (vint (by simp [Px.time, hr, hc]))
set_option maxRecDepth 100000 in
set_option maxHeartbeats 400000 in
theorem ref03_Watch (n : Int) (w : World) : Calls Try.prog 125 #[.int .i64 n] w (Same (.int .i64 (Px.time 8 n)) w) := by
  go_enter Try.func125, Try.ntmps125
  go_wp2_with (first | (go_at_call 132; (with_reducible refine (ref03_times _ 8 k8 _).mono ?_); rintro e w1 ⟨rfl, rfl⟩))
  go_ret
  exact Same.mk rfl
set_option maxRecDepth 100000 in
set_option maxHeartbeats 400000 in
theorem ref03_Block (n : Int) (w : World) : Calls Try.prog 91 #[.int .i64 n] w (Same (.int .i64 (Px.time 2 n)) w) := by
  go_enter Try.func91, Try.ntmps91
  go_wp2_with (first | (go_at_call 132; (with_reducible refine (ref03_times _ 2 k2 _).mono ?_); rintro e w1 ⟨rfl, rfl⟩))
  go_ret
  exact Same.mk rfl
set_option maxRecDepth 100000 in
set_option maxHeartbeats 400000 in
theorem ref03_of (n i k : Int) (hk : 0 ≤ k ∧ k ≤ 100) (w : World) :
    Calls Try.prog 189 #[.int .i64 n, .int .i64 i, .int .i64 k] w (Same (.tuple #[.int .i64 (Px.own k n i).1, .int .i64 (Px.own k n i).2]) w) := by
  have hkn : 3 ≤ n → n ≤ 8 → 0 ≤ k * n ∧ k * n ≤ 800 := fun h3 h8 => by
    have h1 := Int.mul_nonneg hk.1 (show (0 : Int) ≤ n by omega)
    have h2 := Int.mul_le_mul hk.2 h8 (by omega) (by omega)
    omega
  cases hr : Px.right n with
  | false =>
    go_enter Try.func189, Try.ntmps189
    go_wp2_with (first | (go_at_call 65; (with_reducible refine (ref03_Right _ _).mono ?_); rintro e w1 ⟨rfl, rfl⟩))
    all_goals (refine bodyPost_ret (v := .tuple #[.int .i64 (Px.own k n i).1, .int .i64 (Px.own k n i).2]) (by simp [results, Try.results189, go_sem, Px.own, *]) rfl ⟨rfl, rfl⟩)
  | true =>
    have hn := Px.right_iff.1 hr
    obtain ⟨h1, h2⟩ := hkn hn.1 hn.2
    by_cases hi : 0 ≤ i ∧ i < n
    · have ho : Px.own k n i = (k * n + i + 1, 0) := by simp [Px.own, hr, hi]
      have ht : Px.time k n = k * n := by simp [Px.time, hr]
      rw [ho]
      go_enter Try.func189, Try.ntmps189
      go_wp2_with (first | (go_at_call 65; (with_reducible refine (ref03_Right _ _).mono ?_); rintro e w1 ⟨rfl, rfl⟩))
      all_goals (refine bodyPost_ret (v := .tuple #[.int .i64 (k * n + i + 1), .int .i64 0]) ?_ rfl ⟨rfl, rfl⟩)
      all_goals (simp [results, Try.results189, go_sem, ht]; try (first | omega | (unfold wrap64; omega)))
    · have ho : Px.own k n i = (0, 2) := by simp only [Px.own, hr, if_true, hi, if_false]
      rw [ho]
      go_enter Try.func189, Try.ntmps189
      go_wp2_with (first | (go_at_call 65; (with_reducible refine (ref03_Right _ _).mono ?_); rintro e w1 ⟨rfl, rfl⟩))
      all_goals (refine bodyPost_ret (v := .tuple #[.int .i64 0, .int .i64 2]) (by simp [results, Try.results189, go_sem]) rfl ⟨rfl, rfl⟩)

set_option maxRecDepth 100000 in
set_option maxHeartbeats 400000 in
theorem ref03_Listen (n i : Int) (w : World) : Calls Try.prog 166 #[.int .i64 n, .int .i64 i] w (Same (.tuple #[.int .i64 (Px.own 4 n i).1, .int .i64 (Px.own 4 n i).2]) w) := by
  go_enter Try.func166, Try.ntmps166
  go_wp2_with (first | (go_at_call 189; (with_reducible refine (ref03_of _ _ 4 k4 _).mono ?_); rintro e w1 ⟨rfl, rfl⟩))
  refine bodyPost_ret (v := .tuple #[.int .i64 (Px.own 4 n i).1, .int .i64 (Px.own 4 n i).2]) (by simp [results, Try.results166, go_sem]) rfl ⟨rfl, rfl⟩

set_option maxRecDepth 100000 in
set_option maxHeartbeats 400000 in
theorem ref03_Cold (n i : Int) (w : World) : Calls Try.prog 167 #[.int .i64 n, .int .i64 i] w (Same (.tuple #[.int .i64 (Px.own 2 n i).1, .int .i64 (Px.own 2 n i).2]) w) := by
  go_enter Try.func167, Try.ntmps167
  go_wp2_with (first | (go_at_call 189; (with_reducible refine (ref03_of _ _ 2 k2 _).mono ?_); rintro e w1 ⟨rfl, rfl⟩))
  refine bodyPost_ret (v := .tuple #[.int .i64 (Px.own 2 n i).1, .int .i64 (Px.own 2 n i).2]) (by simp [results, Try.results167, go_sem]) rfl ⟨rfl, rfl⟩

end Go.Proofs.Ytjecfilbdabheaa
