/- act: the actor's methods. -/
import Derived.Test.YtjecfilbdabheaaSay
namespace Go.Proofs.Ytjecfilbdabheaa
open Go.RowKit
set_option linter.unusedSimpArgs false
set_option linter.unusedVariables false

/-- block B is an actor -/
structure ActorAt (w : World) (B : Nat) (x : Px.Node) (n : Int) (g h : Px.Frame) (said : Bool) : Prop where
  lt : B < w.heap.size
  c0 : w.cell? ⟨B, 0, none⟩ = some (.int .i64 x.id)
  c1 : w.cell? ⟨B, 1, none⟩ = some (.int .i64 x.mode)
  c2 : w.cell? ⟨B, 2, none⟩ = some (.int .i64 x.count)
  c3 : w.cell? ⟨B, 3, none⟩ = some (.int .i64 x.pos)
  c4 : w.cell? ⟨B, 4, none⟩ = some (.int .i64 n)
  c5 : w.cell? ⟨B, 5, none⟩ = some (.int .i64 g.kind)
  c6 : w.cell? ⟨B, 6, none⟩ = some (.int .i64 g.id)
  c7 : w.cell? ⟨B, 7, none⟩ = some (.int .i64 h.kind)
  c8 : w.cell? ⟨B, 8, none⟩ = some (.int .i64 h.id)
  c9 : w.cell? ⟨B, 9, none⟩ = some (.bool said)
  fz : ∀ o, w.frozen? ⟨B, o, none⟩ = false

theorem ActorAt.below {w w' : World} {B K : Nat} {x n g h said} (H : ActorAt w B x n g h said) (hb : Below K w w') (hK : B < K) : ActorAt w' B x n g h said :=
  ⟨Nat.lt_of_lt_of_le H.lt hb.size, (hb.cell (p := ⟨B, 0, none⟩) hK).trans H.c0, (hb.cell (p := ⟨B, 1, none⟩) hK).trans H.c1, (hb.cell (p := ⟨B, 2, none⟩) hK).trans H.c2, (hb.cell (p := ⟨B, 3, none⟩) hK).trans H.c3, (hb.cell (p := ⟨B, 4, none⟩) hK).trans H.c4,
    (hb.cell (p := ⟨B, 5, none⟩) hK).trans H.c5, (hb.cell (p := ⟨B, 6, none⟩) hK).trans H.c6, (hb.cell (p := ⟨B, 7, none⟩) hK).trans H.c7, (hb.cell (p := ⟨B, 8, none⟩) hK).trans H.c8, (hb.cell (p := ⟨B, 9, none⟩) hK).trans H.c9, fun o => (hb.frozen (p := ⟨B, o, none⟩) hK).trans (H.fz o)⟩

/-- The call has turned the actor in block B, and at most laid new blocks. -/
def Acted (B : Nat) (y : Px.Node) (n : Int) (g h : Px.Frame) (said : Bool) (w : World) : Ending → World → Prop :=
  fun e w' => e = .returned (.tuple #[]) ∧ Below B w w' ∧ ActorAt w' B y n g h said


section
variable {w : World} {B : Nat} {x : Px.Node} {n : Int} {g h : Px.Frame} {said : Bool}
theorem other_off {B a b : Nat} (h : a ≠ b) : (⟨B, a, none⟩ : Addr) ≠ ⟨B, b, none⟩ := fun e => h (by cases e; rfl)
theorem ActorAt.set1 (H : ActorAt w B x n g h said) (m : Int) : ActorAt (w.setCell ⟨B, 1, none⟩ (.int .i64 m)) B ⟨x.id, m, x.count, x.pos⟩ n g h said := by
  have o : ∀ k, 1 ≠ k → (w.setCell ⟨B, 1, none⟩ (.int .i64 m)).cell? ⟨B, k, none⟩ = w.cell? ⟨B, k, none⟩ := fun k hk => World.cell?_setCell_other _ _ _ _ (other_off hk)
  exact ⟨by simpa using H.lt, (o 0 (by decide)).trans H.c0, World.cell?_setCell_same _ _ _ H.c1, (o 2 (by decide)).trans H.c2, (o 3 (by decide)).trans H.c3, (o 4 (by decide)).trans H.c4, (o 5 (by decide)).trans H.c5, (o 6 (by decide)).trans H.c6, (o 7 (by decide)).trans H.c7, (o 8 (by decide)).trans H.c8, (o 9 (by decide)).trans H.c9, fun k => by rw [World.frozen?_setCell]; exact H.fz k⟩
theorem ActorAt.set2 (H : ActorAt w B x n g h said) (m : Int) : ActorAt (w.setCell ⟨B, 2, none⟩ (.int .i64 m)) B ⟨x.id, x.mode, m, x.pos⟩ n g h said := by
  have o : ∀ k, 2 ≠ k → (w.setCell ⟨B, 2, none⟩ (.int .i64 m)).cell? ⟨B, k, none⟩ = w.cell? ⟨B, k, none⟩ := fun k hk => World.cell?_setCell_other _ _ _ _ (other_off hk)
  exact ⟨by simpa using H.lt, (o 0 (by decide)).trans H.c0, (o 1 (by decide)).trans H.c1, World.cell?_setCell_same _ _ _ H.c2, (o 3 (by decide)).trans H.c3, (o 4 (by decide)).trans H.c4, (o 5 (by decide)).trans H.c5, (o 6 (by decide)).trans H.c6, (o 7 (by decide)).trans H.c7, (o 8 (by decide)).trans H.c8, (o 9 (by decide)).trans H.c9, fun k => by rw [World.frozen?_setCell]; exact H.fz k⟩
theorem ActorAt.set3 (H : ActorAt w B x n g h said) (m : Int) : ActorAt (w.setCell ⟨B, 3, none⟩ (.int .i64 m)) B ⟨x.id, x.mode, x.count, m⟩ n g h said := by
  have o : ∀ k, 3 ≠ k → (w.setCell ⟨B, 3, none⟩ (.int .i64 m)).cell? ⟨B, k, none⟩ = w.cell? ⟨B, k, none⟩ := fun k hk => World.cell?_setCell_other _ _ _ _ (other_off hk)
  exact ⟨by simpa using H.lt, (o 0 (by decide)).trans H.c0, (o 1 (by decide)).trans H.c1, (o 2 (by decide)).trans H.c2, World.cell?_setCell_same _ _ _ H.c3, (o 4 (by decide)).trans H.c4, (o 5 (by decide)).trans H.c5, (o 6 (by decide)).trans H.c6, (o 7 (by decide)).trans H.c7, (o 8 (by decide)).trans H.c8, (o 9 (by decide)).trans H.c9, fun k => by rw [World.frozen?_setCell]; exact H.fz k⟩
theorem setB (B o : Nat) (v : Value) (w : World) : Below B w (w.setCell ⟨B, o, none⟩ v) := (Below.refl B w).setCell (Nat.le_refl _) v
end

set_option maxRecDepth 100000 in
set_option maxHeartbeats 400000 in
theorem act_become (B : Nat) (x : Px.Node) (n : Int) (g h : Px.Frame) (said : Bool) (m : Int) (w : World) (H : ActorAt w B x n g h said) :
    Calls Try.prog 159 #[.pointer (some ⟨B, 0, none⟩), .int .i64 m] w (Acted B ⟨x.id, m, 0, 0⟩ n g h said w) := by
  have k0_H := H.c0
  have k1_H := H.c1
  have k2_H := H.c2
  have k3_H := H.c3
  have k4_H := H.c4
  have k5_H := H.c5
  have k6_H := H.c6
  have k7_H := H.c7
  have k8_H := H.c8
  have k9_H := H.c9
  have kf_H := H.fz
  have klt := H.lt
  go_enter Try.func159, Try.ntmps159
  go_wp2
  refine bodyPost_end (v := .tuple #[]) (by simp [results, Try.results159, go_sem]) rfl ⟨rfl, ((setB _ _ _ _).trans (setB _ _ _ _)).trans (setB _ _ _ _), ((H.set1 m).set2 0).set3 0⟩
set_option maxRecDepth 100000 in
set_option maxHeartbeats 400000 in
theorem act_wait (B : Nat) (x : Px.Node) (n : Int) (g h : Px.Frame) (said : Bool) (h0 : 0 ≤ x.count) (h1 : x.count ≤ 1073741824) (w : World) (H : ActorAt w B x n g h said) :
    Calls Try.prog 160 #[.pointer (some ⟨B, 0, none⟩)] w (Acted B ⟨x.id, x.mode, Px.up x.count, x.pos⟩ n g h said w) := by
  have k0_H := H.c0
  have k1_H := H.c1
  have k2_H := H.c2
  have k3_H := H.c3
  have k4_H := H.c4
  have k5_H := H.c5
  have k6_H := H.c6
  have k7_H := H.c7
  have k8_H := H.c8
  have k9_H := H.c9
  have kf_H := H.fz
  have klt := H.lt
  go_enter Try.func160, Try.ntmps160
  go_wp2_with (first | (go_at_call 135; (with_reducible refine (tally_Up _ h0 h1 _).mono ?_); rintro e w1 ⟨rfl, rfl⟩) | (refine wp_region_calm_tail 7 (by kernel_rfl) (by kernel_rfl) ?_; simp only [List.take_succ_cons, List.take_zero, List.drop_succ_cons, List.drop_zero]; (repeat (first | go_big_quiet_step ((first | fail | (go_at_call 135; exact growSame (tally_Up _ h0 h1 _)))) | quiet_step ((first | fail | (go_at_call 135; exact growSame (tally_Up _ h0 h1 _)))))); refine wpQuiet_nil ?_; intro w1 hW_; obtain ⟨zz, hzz⟩ := hW_; have hb_w1 := calm_out hzz; clear hzz zz; have hz_w1 := hb_w1.size; (try simp at hz_w1); have H1 := H.below hb_w1 H.lt; have k0_H1 := H1.c0; have k1_H1 := H1.c1; have k2_H1 := H1.c2; have k3_H1 := H1.c3; have k4_H1 := H1.c4; have k5_H1 := H1.c5; have k6_H1 := H1.c6; have k7_H1 := H1.c7; have k8_H1 := H1.c8; have k9_H1 := H1.c9; have kf_H1 := H1.fz))
  refine bodyPost_end (v := .tuple #[]) (by simp [results, Try.results160, go_sem]) rfl ⟨rfl, (setB _ _ _ _), H.set2 _⟩
set_option maxRecDepth 100000 in
set_option maxHeartbeats 400000 in
theorem act_join (B : Nat) (x : Px.Node) (n : Int) (g h : Px.Frame) (said : Bool) (i : Int) (h3 : 3 ≤ n) (h8 : n ≤ 8) (h0 : 0 ≤ i) (h1 : i < n) (w : World) (H : ActorAt w B x n g h said) :
    Calls Try.prog 158 #[.pointer (some ⟨B, 0, none⟩), .int .i64 i] w (Acted B ⟨x.id, 3, 0, Px.next n i⟩ n g h said w) := by
  have k0_H := H.c0
  have k1_H := H.c1
  have k2_H := H.c2
  have k3_H := H.c3
  have k4_H := H.c4
  have k5_H := H.c5
  have k6_H := H.c6
  have k7_H := H.c7
  have k8_H := H.c8
  have k9_H := H.c9
  have kf_H := H.fz
  have klt := H.lt
  go_enter Try.func158, Try.ntmps158
  go_wp2_with (first | (go_at_call 159; (with_reducible refine (act_become B x n g h said 3 _ H).mono ?_); rintro e w1 ⟨rfl, hb_w1, H1⟩; have k0_H1 := H1.c0; have k1_H1 := H1.c1; have k2_H1 := H1.c2; have k3_H1 := H1.c3; have k4_H1 := H1.c4; have k5_H1 := H1.c5; have k6_H1 := H1.c6; have k7_H1 := H1.c7; have k8_H1 := H1.c8; have k9_H1 := H1.c9; have kf_H1 := H1.fz) | (go_at_call 136; (with_reducible refine (ring_Next _ _ h3 h8 h0 h1 _).mono ?_); rintro e w2 ⟨rfl, rfl⟩))
  refine bodyPost_end (v := .tuple #[]) (by simp [results, Try.results158, go_sem]) rfl ⟨rfl, hb_w1.trans (setB _ _ _ _), H1.set3 _⟩
namespace Px
/-- what becomes of a node that listens -/
def listenTo (n : Int) (x : Node) (g h : Frame) (said : Bool) : Node :=
  match infoOf g h with
  | some i => ⟨x.id, 3, 0, next n i⟩
  | Option.none => if (otherOf g h x.id).isSome || said then ⟨x.id, 2, 0, 0⟩ else ⟨x.id, x.mode, up x.count, x.pos⟩
/-- what becomes of a cold node -/
def coldTo (n : Int) (x : Node) (g h : Frame) (said : Bool) : Node :=
  match infoOf g h with
  | some i => ⟨x.id, 3, 0, next n i⟩
  | Option.none => match otherOf g h x.id with
    | some i => ⟨x.id, 3, 0, next n i⟩
    | Option.none => if said then ⟨x.id, 2, 0, 0⟩ else ⟨x.id, x.mode, up x.count, x.pos⟩
/-- what becomes of an Active node -/
def activeTo (n : Int) (x : Node) (g h : Frame) : Node :=
  if pWrong x.pos g || pWrong x.pos h then ⟨x.id, 1, 0, 0⟩
  else if (otherOf g h x.id).isSome then ⟨x.id, 2, 0, 0⟩
  else if 8 * n ≤ countOf x g h then ⟨x.id, 1, 0, 0⟩ else ⟨x.id, x.mode, countOf x g h, next n x.pos⟩
end Px

set_option maxRecDepth 100000 in
set_option maxHeartbeats 400000 in
theorem act_listen (B : Nat) (x : Px.Node) (n : Int) (g h : Px.Frame) (said : Bool) (h3 : 3 ≤ n) (h8 : n ≤ 8) (hg : Px.heardOk n g = true) (hh : Px.heardOk n h = true) (hc0 : 0 ≤ x.count) (hc1 : x.count ≤ 1073741824) (w : World) (H : ActorAt w B x n g h said) :
    Calls Try.prog 116 #[.pointer (some ⟨B, 0, none⟩)] w (Acted B (Px.listenTo n x g h said) n g h said w) := by
  have k0_H := H.c0
  have k1_H := H.c1
  have k2_H := H.c2
  have k3_H := H.c3
  have k4_H := H.c4
  have k5_H := H.c5
  have k6_H := H.c6
  have k7_H := H.c7
  have k8_H := H.c8
  have k9_H := H.c9
  have kf_H := H.fz
  have klt := H.lt
  cases hi : Px.infoOf g h with
  | some i =>
    have hr := Px.infoOf_range hg hh hi
    rw [show Px.listenTo n x g h said = ⟨x.id, 3, 0, Px.next n i⟩ by simp [Px.listenTo, hi]]
    go_enter Try.func116, Try.ntmps116
    go_wp2_with (first | (go_at_call 156; (with_reducible refine (hear_Info g h _).mono ?_); rintro e w1 ⟨rfl, hb_w1⟩; have hz_w1 := hb_w1.size; (try simp at hz_w1); have H1 := H.below hb_w1 H.lt; have k0_H1 := H1.c0; have k1_H1 := H1.c1; have k2_H1 := H1.c2; have k3_H1 := H1.c3; have k4_H1 := H1.c4; have k5_H1 := H1.c5; have k6_H1 := H1.c6; have k7_H1 := H1.c7; have k8_H1 := H1.c8; have k9_H1 := H1.c9; have kf_H1 := H1.fz) | (refine wp_region_calm (by kernel_rfl) (by kernel_rfl) ?_; (repeat (first | go_big_quiet_step ((first | fail | (go_at_call 157; exact growS (hear_Other g h x.id _)))) | quiet_step ((first | fail | (go_at_call 157; exact growS (hear_Other g h x.id _)))))); refine wpQuiet_nil ?_; intro w2 hW_; obtain ⟨zz, hzz⟩ := hW_; have hb_w2 := calm_out hzz; clear hzz zz; have hz_w2 := hb_w2.size; (try simp at hz_w2); have H2 := H1.below hb_w2 H1.lt; have k0_H2 := H2.c0; have k1_H2 := H2.c1; have k2_H2 := H2.c2; have k3_H2 := H2.c3; have k4_H2 := H2.c4; have k5_H2 := H2.c5; have k6_H2 := H2.c6; have k7_H2 := H2.c7; have k8_H2 := H2.c8; have k9_H2 := H2.c9; have kf_H2 := H2.fz) | (go_at_call 158; (with_reducible refine (act_join B x n g h said i h3 h8 hr.1 hr.2 _ H2).mono ?_); rintro e w9 ⟨rfl, hb_w9, H9⟩))
    first | (refine bodyPost_end (v := .tuple #[]) (by simp [results, Try.results116, go_sem]) rfl ⟨rfl, ((hb_w1.mono (Nat.le_of_lt H.lt)).trans (hb_w2.mono (Nat.le_of_lt H1.lt))).trans hb_w9, H9⟩) | (refine bodyPost_ret (v := .tuple #[]) (by simp [results, Try.results116, go_sem]) rfl ⟨rfl, ((hb_w1.mono (Nat.le_of_lt H.lt)).trans (hb_w2.mono (Nat.le_of_lt H1.lt))).trans hb_w9, H9⟩)
  | none =>
    cases ho : Px.otherOf g h x.id with
    | some j =>
      rw [show Px.listenTo n x g h said = ⟨x.id, 2, 0, 0⟩ by simp [Px.listenTo, hi, ho]]
      go_enter Try.func116, Try.ntmps116
      go_wp2_with (first | (go_at_call 156; (with_reducible refine (hear_Info g h _).mono ?_); rintro e w1 ⟨rfl, hb_w1⟩; have hz_w1 := hb_w1.size; (try simp at hz_w1); have H1 := H.below hb_w1 H.lt; have k0_H1 := H1.c0; have k1_H1 := H1.c1; have k2_H1 := H1.c2; have k3_H1 := H1.c3; have k4_H1 := H1.c4; have k5_H1 := H1.c5; have k6_H1 := H1.c6; have k7_H1 := H1.c7; have k8_H1 := H1.c8; have k9_H1 := H1.c9; have kf_H1 := H1.fz) | (refine wp_region_calm (by kernel_rfl) (by kernel_rfl) ?_; (repeat (first | go_big_quiet_step ((first | fail | (go_at_call 157; exact growS (hear_Other g h x.id _)))) | quiet_step ((first | fail | (go_at_call 157; exact growS (hear_Other g h x.id _)))))); refine wpQuiet_nil ?_; intro w2 hW_; obtain ⟨zz, hzz⟩ := hW_; have hb_w2 := calm_out hzz; clear hzz zz; have hz_w2 := hb_w2.size; (try simp at hz_w2); have H2 := H1.below hb_w2 H1.lt; have k0_H2 := H2.c0; have k1_H2 := H2.c1; have k2_H2 := H2.c2; have k3_H2 := H2.c3; have k4_H2 := H2.c4; have k5_H2 := H2.c5; have k6_H2 := H2.c6; have k7_H2 := H2.c7; have k8_H2 := H2.c8; have k9_H2 := H2.c9; have kf_H2 := H2.fz) | (go_at_call 159; (with_reducible refine (act_become B x n g h said 2 _ H2).mono ?_); rintro e w9 ⟨rfl, hb_w9, H9⟩))
      first | (refine bodyPost_end (v := .tuple #[]) (by simp [results, Try.results116, go_sem]) rfl ⟨rfl, ((hb_w1.mono (Nat.le_of_lt H.lt)).trans (hb_w2.mono (Nat.le_of_lt H1.lt))).trans hb_w9, H9⟩) | (refine bodyPost_ret (v := .tuple #[]) (by simp [results, Try.results116, go_sem]) rfl ⟨rfl, ((hb_w1.mono (Nat.le_of_lt H.lt)).trans (hb_w2.mono (Nat.le_of_lt H1.lt))).trans hb_w9, H9⟩)
    | none =>
      cases said with
      | true =>
        rw [show Px.listenTo n x g h true = ⟨x.id, 2, 0, 0⟩ by simp [Px.listenTo, hi, ho]]
        go_enter Try.func116, Try.ntmps116
        go_wp2_with (first | (go_at_call 156; (with_reducible refine (hear_Info g h _).mono ?_); rintro e w1 ⟨rfl, hb_w1⟩; have hz_w1 := hb_w1.size; (try simp at hz_w1); have H1 := H.below hb_w1 H.lt; have k0_H1 := H1.c0; have k1_H1 := H1.c1; have k2_H1 := H1.c2; have k3_H1 := H1.c3; have k4_H1 := H1.c4; have k5_H1 := H1.c5; have k6_H1 := H1.c6; have k7_H1 := H1.c7; have k8_H1 := H1.c8; have k9_H1 := H1.c9; have kf_H1 := H1.fz) | (refine wp_region_calm (by kernel_rfl) (by kernel_rfl) ?_; (repeat (first | go_big_quiet_step ((first | fail | (go_at_call 157; exact growS (hear_Other g h x.id _)))) | quiet_step ((first | fail | (go_at_call 157; exact growS (hear_Other g h x.id _)))))); refine wpQuiet_nil ?_; intro w2 hW_; obtain ⟨zz, hzz⟩ := hW_; have hb_w2 := calm_out hzz; clear hzz zz; have hz_w2 := hb_w2.size; (try simp at hz_w2); have H2 := H1.below hb_w2 H1.lt; have k0_H2 := H2.c0; have k1_H2 := H2.c1; have k2_H2 := H2.c2; have k3_H2 := H2.c3; have k4_H2 := H2.c4; have k5_H2 := H2.c5; have k6_H2 := H2.c6; have k7_H2 := H2.c7; have k8_H2 := H2.c8; have k9_H2 := H2.c9; have kf_H2 := H2.fz) | (go_at_call 159; (with_reducible refine (act_become B x n g h true 2 _ H2).mono ?_); rintro e w9 ⟨rfl, hb_w9, H9⟩))
        first | (refine bodyPost_end (v := .tuple #[]) (by simp [results, Try.results116, go_sem]) rfl ⟨rfl, ((hb_w1.mono (Nat.le_of_lt H.lt)).trans (hb_w2.mono (Nat.le_of_lt H1.lt))).trans hb_w9, H9⟩) | (refine bodyPost_ret (v := .tuple #[]) (by simp [results, Try.results116, go_sem]) rfl ⟨rfl, ((hb_w1.mono (Nat.le_of_lt H.lt)).trans (hb_w2.mono (Nat.le_of_lt H1.lt))).trans hb_w9, H9⟩)
      | false =>
        rw [show Px.listenTo n x g h false = ⟨x.id, x.mode, Px.up x.count, x.pos⟩ by simp [Px.listenTo, hi, ho]]
        go_enter Try.func116, Try.ntmps116
        go_wp2_with (first | (go_at_call 156; (with_reducible refine (hear_Info g h _).mono ?_); rintro e w1 ⟨rfl, hb_w1⟩; have hz_w1 := hb_w1.size; (try simp at hz_w1); have H1 := H.below hb_w1 H.lt; have k0_H1 := H1.c0; have k1_H1 := H1.c1; have k2_H1 := H1.c2; have k3_H1 := H1.c3; have k4_H1 := H1.c4; have k5_H1 := H1.c5; have k6_H1 := H1.c6; have k7_H1 := H1.c7; have k8_H1 := H1.c8; have k9_H1 := H1.c9; have kf_H1 := H1.fz) | (refine wp_region_calm (by kernel_rfl) (by kernel_rfl) ?_; (repeat (first | go_big_quiet_step ((first | fail | (go_at_call 157; exact growS (hear_Other g h x.id _)))) | quiet_step ((first | fail | (go_at_call 157; exact growS (hear_Other g h x.id _)))))); refine wpQuiet_nil ?_; intro w2 hW_; obtain ⟨zz, hzz⟩ := hW_; have hb_w2 := calm_out hzz; clear hzz zz; have hz_w2 := hb_w2.size; (try simp at hz_w2); have H2 := H1.below hb_w2 H1.lt; have k0_H2 := H2.c0; have k1_H2 := H2.c1; have k2_H2 := H2.c2; have k3_H2 := H2.c3; have k4_H2 := H2.c4; have k5_H2 := H2.c5; have k6_H2 := H2.c6; have k7_H2 := H2.c7; have k8_H2 := H2.c8; have k9_H2 := H2.c9; have kf_H2 := H2.fz) | (go_at_call 160; (with_reducible refine (act_wait B x n g h false hc0 hc1 _ H2).mono ?_); rintro e w9 ⟨rfl, hb_w9, H9⟩))
        first | (refine bodyPost_end (v := .tuple #[]) (by simp [results, Try.results116, go_sem]) rfl ⟨rfl, ((hb_w1.mono (Nat.le_of_lt H.lt)).trans (hb_w2.mono (Nat.le_of_lt H1.lt))).trans hb_w9, H9⟩) | (refine bodyPost_ret (v := .tuple #[]) (by simp [results, Try.results116, go_sem]) rfl ⟨rfl, ((hb_w1.mono (Nat.le_of_lt H.lt)).trans (hb_w2.mono (Nat.le_of_lt H1.lt))).trans hb_w9, H9⟩)

set_option maxRecDepth 100000 in
set_option maxHeartbeats 400000 in
theorem act_cold (B : Nat) (x : Px.Node) (n : Int) (g h : Px.Frame) (said : Bool) (h3 : 3 ≤ n) (h8 : n ≤ 8) (hg : Px.heardOk n g = true) (hh : Px.heardOk n h = true) (hc0 : 0 ≤ x.count) (hc1 : x.count ≤ 1073741824) (w : World) (H : ActorAt w B x n g h said) :
    Calls Try.prog 117 #[.pointer (some ⟨B, 0, none⟩)] w (Acted B (Px.coldTo n x g h said) n g h said w) := by
  have k0_H := H.c0
  have k1_H := H.c1
  have k2_H := H.c2
  have k3_H := H.c3
  have k4_H := H.c4
  have k5_H := H.c5
  have k6_H := H.c6
  have k7_H := H.c7
  have k8_H := H.c8
  have k9_H := H.c9
  have kf_H := H.fz
  have klt := H.lt
  cases hi : Px.infoOf g h with
  | some i =>
    have hr := Px.infoOf_range hg hh hi
    rw [show Px.coldTo n x g h said = ⟨x.id, 3, 0, Px.next n i⟩ by simp [Px.coldTo, hi]]
    go_enter Try.func117, Try.ntmps117
    go_wp2_with (first | (go_at_call 156; (with_reducible refine (hear_Info g h _).mono ?_); rintro e w1 ⟨rfl, hb_w1⟩; have hz_w1 := hb_w1.size; (try simp at hz_w1); have H1 := H.below hb_w1 H.lt; have k0_H1 := H1.c0; have k1_H1 := H1.c1; have k2_H1 := H1.c2; have k3_H1 := H1.c3; have k4_H1 := H1.c4; have k5_H1 := H1.c5; have k6_H1 := H1.c6; have k7_H1 := H1.c7; have k8_H1 := H1.c8; have k9_H1 := H1.c9; have kf_H1 := H1.fz) | (go_at_call 158; (with_reducible refine (act_join B x n g h said i h3 h8 hr.1 hr.2 _ H1).mono ?_); rintro e w9 ⟨rfl, hb_w9, H9⟩))
    first | (refine bodyPost_end (v := .tuple #[]) (by simp [results, Try.results117, go_sem]) rfl ⟨rfl, (hb_w1.mono (Nat.le_of_lt H.lt)).trans hb_w9, H9⟩) | (refine bodyPost_ret (v := .tuple #[]) (by simp [results, Try.results117, go_sem]) rfl ⟨rfl, (hb_w1.mono (Nat.le_of_lt H.lt)).trans hb_w9, H9⟩)
  | none =>
    cases ho : Px.otherOf g h x.id with
    | some j =>
      have hr := Px.otherOf_range hg hh ho
      rw [show Px.coldTo n x g h said = ⟨x.id, 3, 0, Px.next n j⟩ by simp [Px.coldTo, hi, ho]]
      go_enter Try.func117, Try.ntmps117
      go_wp2_with (first | (go_at_call 156; (with_reducible refine (hear_Info g h _).mono ?_); rintro e w1 ⟨rfl, hb_w1⟩; have hz_w1 := hb_w1.size; (try simp at hz_w1); have H1 := H.below hb_w1 H.lt; have k0_H1 := H1.c0; have k1_H1 := H1.c1; have k2_H1 := H1.c2; have k3_H1 := H1.c3; have k4_H1 := H1.c4; have k5_H1 := H1.c5; have k6_H1 := H1.c6; have k7_H1 := H1.c7; have k8_H1 := H1.c8; have k9_H1 := H1.c9; have kf_H1 := H1.fz) | (refine wp_region_calm (by kernel_rfl) (by kernel_rfl) ?_; (repeat (first | go_big_quiet_step ((first | fail | (go_at_call 157; exact growS (hear_Other g h x.id _)))) | quiet_step ((first | fail | (go_at_call 157; exact growS (hear_Other g h x.id _)))))); refine wpQuiet_nil ?_; intro w2 hW_; obtain ⟨zz, hzz⟩ := hW_; have hb_w2 := calm_out hzz; clear hzz zz; have hz_w2 := hb_w2.size; (try simp at hz_w2); have H2 := H1.below hb_w2 H1.lt; have k0_H2 := H2.c0; have k1_H2 := H2.c1; have k2_H2 := H2.c2; have k3_H2 := H2.c3; have k4_H2 := H2.c4; have k5_H2 := H2.c5; have k6_H2 := H2.c6; have k7_H2 := H2.c7; have k8_H2 := H2.c8; have k9_H2 := H2.c9; have kf_H2 := H2.fz) | (go_at_call 158; (with_reducible refine (act_join B x n g h said j h3 h8 hr.1 hr.2 _ H2).mono ?_); rintro e w9 ⟨rfl, hb_w9, H9⟩))
      first | (refine bodyPost_end (v := .tuple #[]) (by simp [results, Try.results117, go_sem]) rfl ⟨rfl, ((hb_w1.mono (Nat.le_of_lt H.lt)).trans (hb_w2.mono (Nat.le_of_lt H1.lt))).trans hb_w9, H9⟩) | (refine bodyPost_ret (v := .tuple #[]) (by simp [results, Try.results117, go_sem]) rfl ⟨rfl, ((hb_w1.mono (Nat.le_of_lt H.lt)).trans (hb_w2.mono (Nat.le_of_lt H1.lt))).trans hb_w9, H9⟩)
    | none =>
      cases said with
      | true =>
        rw [show Px.coldTo n x g h true = ⟨x.id, 2, 0, 0⟩ by simp [Px.coldTo, hi, ho]]
        go_enter Try.func117, Try.ntmps117
        go_wp2_with (first | (go_at_call 156; (with_reducible refine (hear_Info g h _).mono ?_); rintro e w1 ⟨rfl, hb_w1⟩; have hz_w1 := hb_w1.size; (try simp at hz_w1); have H1 := H.below hb_w1 H.lt; have k0_H1 := H1.c0; have k1_H1 := H1.c1; have k2_H1 := H1.c2; have k3_H1 := H1.c3; have k4_H1 := H1.c4; have k5_H1 := H1.c5; have k6_H1 := H1.c6; have k7_H1 := H1.c7; have k8_H1 := H1.c8; have k9_H1 := H1.c9; have kf_H1 := H1.fz) | (refine wp_region_calm (by kernel_rfl) (by kernel_rfl) ?_; (repeat (first | go_big_quiet_step ((first | fail | (go_at_call 157; exact growS (hear_Other g h x.id _)))) | quiet_step ((first | fail | (go_at_call 157; exact growS (hear_Other g h x.id _)))))); refine wpQuiet_nil ?_; intro w2 hW_; obtain ⟨zz, hzz⟩ := hW_; have hb_w2 := calm_out hzz; clear hzz zz; have hz_w2 := hb_w2.size; (try simp at hz_w2); have H2 := H1.below hb_w2 H1.lt; have k0_H2 := H2.c0; have k1_H2 := H2.c1; have k2_H2 := H2.c2; have k3_H2 := H2.c3; have k4_H2 := H2.c4; have k5_H2 := H2.c5; have k6_H2 := H2.c6; have k7_H2 := H2.c7; have k8_H2 := H2.c8; have k9_H2 := H2.c9; have kf_H2 := H2.fz) | (go_at_call 159; (with_reducible refine (act_become B x n g h true 2 _ H2).mono ?_); rintro e w9 ⟨rfl, hb_w9, H9⟩))
        first | (refine bodyPost_end (v := .tuple #[]) (by simp [results, Try.results117, go_sem]) rfl ⟨rfl, ((hb_w1.mono (Nat.le_of_lt H.lt)).trans (hb_w2.mono (Nat.le_of_lt H1.lt))).trans hb_w9, H9⟩) | (refine bodyPost_ret (v := .tuple #[]) (by simp [results, Try.results117, go_sem]) rfl ⟨rfl, ((hb_w1.mono (Nat.le_of_lt H.lt)).trans (hb_w2.mono (Nat.le_of_lt H1.lt))).trans hb_w9, H9⟩)
      | false =>
        rw [show Px.coldTo n x g h false = ⟨x.id, x.mode, Px.up x.count, x.pos⟩ by simp [Px.coldTo, hi, ho]]
        go_enter Try.func117, Try.ntmps117
        go_wp2_with (first | (go_at_call 156; (with_reducible refine (hear_Info g h _).mono ?_); rintro e w1 ⟨rfl, hb_w1⟩; have hz_w1 := hb_w1.size; (try simp at hz_w1); have H1 := H.below hb_w1 H.lt; have k0_H1 := H1.c0; have k1_H1 := H1.c1; have k2_H1 := H1.c2; have k3_H1 := H1.c3; have k4_H1 := H1.c4; have k5_H1 := H1.c5; have k6_H1 := H1.c6; have k7_H1 := H1.c7; have k8_H1 := H1.c8; have k9_H1 := H1.c9; have kf_H1 := H1.fz) | (refine wp_region_calm (by kernel_rfl) (by kernel_rfl) ?_; (repeat (first | go_big_quiet_step ((first | fail | (go_at_call 157; exact growS (hear_Other g h x.id _)))) | quiet_step ((first | fail | (go_at_call 157; exact growS (hear_Other g h x.id _)))))); refine wpQuiet_nil ?_; intro w2 hW_; obtain ⟨zz, hzz⟩ := hW_; have hb_w2 := calm_out hzz; clear hzz zz; have hz_w2 := hb_w2.size; (try simp at hz_w2); have H2 := H1.below hb_w2 H1.lt; have k0_H2 := H2.c0; have k1_H2 := H2.c1; have k2_H2 := H2.c2; have k3_H2 := H2.c3; have k4_H2 := H2.c4; have k5_H2 := H2.c5; have k6_H2 := H2.c6; have k7_H2 := H2.c7; have k8_H2 := H2.c8; have k9_H2 := H2.c9; have kf_H2 := H2.fz) | (go_at_call 160; (with_reducible refine (act_wait B x n g h false hc0 hc1 _ H2).mono ?_); rintro e w9 ⟨rfl, hb_w9, H9⟩))
        first | (refine bodyPost_end (v := .tuple #[]) (by simp [results, Try.results117, go_sem]) rfl ⟨rfl, ((hb_w1.mono (Nat.le_of_lt H.lt)).trans (hb_w2.mono (Nat.le_of_lt H1.lt))).trans hb_w9, H9⟩) | (refine bodyPost_ret (v := .tuple #[]) (by simp [results, Try.results117, go_sem]) rfl ⟨rfl, ((hb_w1.mono (Nat.le_of_lt H.lt)).trans (hb_w2.mono (Nat.le_of_lt H1.lt))).trans hb_w9, H9⟩)

end Go.Proofs.Ytjecfilbdabheaa
