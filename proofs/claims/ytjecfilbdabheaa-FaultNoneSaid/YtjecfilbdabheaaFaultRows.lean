/- FaultNone and FaultTells return true for every input, and their argument reads behind the call as it read ahead of it; there are no conditions. -/
import Derived.Test.YtjecfilbdabheaaFaultNone
import Derived.Test.YtjecfilbdabheaaFaultTells
import Derived.Test.YtjecfilbdabheaaRow
namespace Go.Proofs.Ytjecfilbdabheaa
open Go.RowKit Go.ChangeShapes Go.WideShapes
set_option maxRecDepth 100000

theorem FaultNone_all (n : Int) (f : Px.Fault) (b0 b1 : ByteArray) (A : Option Addr) (ps : List Int) (pn pc : Nat) (l hub port : Int) (s : Px.Frame) (w : World) (hpn : ps.length = pn) (hp : Reads w w.heap.size A (ints ps)) :
    Calls Try.prog 3 #[.agg #[.int .i64 n, .int .i64 f.cls, .int .i64 f.who, .string b0, .string b1, .slice A pn pc, .int .i64 l, .int .i64 hub, .int .i64 port, .int .i64 s.kind, .int .i64 s.id]] w (Ret (.bool true) w) := by
  have hl : Px.small b0 b1 pn = true → pn ≤ 17592186044416 := fun h => by simp [Px.small] at h; omega
  cases hs : Px.small b0 b1 pn with
  | false => exact FaultNone_small n f b0 b1 A ps pn pc l hub port s w hpn hp hs
  | true =>
    cases hi : Px.isNode f port with
    | false => exact FaultNone_no n f b0 b1 A ps pn pc l hub port s w hpn hp (hl hs) hs hi
    | true => exact FaultNone_yes n f b0 b1 A ps pn pc l hub port s w hpn hp (hl hs) hs hi
theorem FaultTells_all (n : Int) (f : Px.Fault) (b0 b1 : ByteArray) (A : Option Addr) (ps : List Int) (pn pc : Nat) (l hub port : Int) (s : Px.Frame) (w : World) (hpn : ps.length = pn) (hp : Reads w w.heap.size A (ints ps)) :
    Calls Try.prog 4 #[.agg #[.int .i64 n, .int .i64 f.cls, .int .i64 f.who, .string b0, .string b1, .slice A pn pc, .int .i64 l, .int .i64 hub, .int .i64 port, .int .i64 s.kind, .int .i64 s.id]] w (Ret (.bool true) w) := by
  have hl : Px.small b0 b1 pn = true → pn ≤ 17592186044416 := fun h => by simp [Px.small] at h; omega
  cases hs : Px.small b0 b1 pn with
  | false => exact FaultTells_small n f b0 b1 A ps pn pc l hub port s w hpn hp hs
  | true => exact FaultTells_big n f b0 b1 A ps pn pc l hub port s w hpn hp (hl hs) hs

/-- the argument of both laws, opened -/
theorem open15 {W : World} {H : Type} {enc : TypeId × Value → H} {v : Value} {d : DataW H} {p : List MemPlace} {r : Reach} {base : Nat} (hv : Value.okWide Try.prog W r base 31 v) (h : DataW.Trod enc Try.prog W 0 (fun _ => true) true 31 v d p) :
    ∃ (n : Int) (f : Px.Fault) (b0 b1 : ByteArray) (A : Option Addr) (ps : List Int) (pn pc : Nat) (l hub port : Int) (s : Px.Frame), ps.length = pn ∧ Reads W W.heap.size A (ints ps) ∧
      v = .agg #[.int .i64 n, .int .i64 f.cls, .int .i64 f.who, .string b0, .string b1, .slice A pn pc, .int .i64 l, .int .i64 hub, .int .i64 port, .int .i64 s.kind, .int .i64 s.id] := by
  obtain ⟨⟨cs⟩, rfl, hL⟩ := arg_agg 8 (by kernel_rfl) (ls := [.int .i64, .int .i64, .int .i64, .str, .str, .sl 3, .int .i64, .int .i64, .int .i64, .int .i64, .int .i64]) (by kernel_rfl) hv h
  simp only [] at hL
  obtain ⟨n, cs, rfl, _, hL⟩ := hL.int
  obtain ⟨f, cs, rfl, _, hL⟩ := hL.int
  obtain ⟨g, cs, rfl, _, hL⟩ := hL.int
  obtain ⟨b0, cs, rfl, _, hL⟩ := hL.str
  obtain ⟨b1, cs, rfl, _, hL⟩ := hL.str
  obtain ⟨A, pn, pc, cs, rfl, h1, h2, ⟨xs, hx, hxs, hR⟩, hL⟩ := hL.sl
  obtain ⟨l, cs, rfl, _, hL⟩ := hL.int
  obtain ⟨hub, cs, rfl, _, hL⟩ := hL.int
  obtain ⟨port, cs, rfl, _, hL⟩ := hL.int
  obtain ⟨s, cs, rfl, _, hL⟩ := hL.int
  obtain ⟨s', cs, rfl, _, hL⟩ := hL.int
  obtain rfl := hL.nil
  obtain ⟨zs, hz, hf, _⟩ := ints_of (k := .i64) (Try.underlying3) hxs
  refine ⟨n, ⟨f, g⟩, b0, b1, A, zs, pn, pc, l, hub, port, ⟨s, s'⟩, by omega, ?_, rfl⟩
  rw [hf] at hR
  exact hR

theorem faultNone_lifted (os : Os) (started : os.Started) (H : Type) (enc : TypeId × Value → H) :
    ReturnsInHanded {} Try.checked os 3 .any (Rows.faultNoneSpec.pre6 enc Try.prog Try.f3 Rows.faultNoneRow.domain false) (Rows.faultNoneSpec.post enc Try.prog Try.f3 false true false false) := by
  refine lifted_true (C := Try.checked) own laidOut started (tb := 4) rfl rfl (Try.underlying4) ?_ (by kernel_rfl) (by kernel_rfl) Try.func3
    (ChangeSpec.witness6 (enc := enc) (C := Try.checked) false ⟨#[], #[.agg #[.int .i64 0, .int .i64 0, .int .i64 0, .string ⟨#[]⟩, .string ⟨#[]⟩, .slice none 0 0, .int .i64 0, .int .i64 0, .int .i64 0, .int .i64 0, .int .i64 0]], []⟩ 8 (by kernel_rfl) (by kernel_rfl) (by kernel_rfl) (by kernel_rfl)) ?_
  · rw [Try.params3]
    rintro (_ | ⟨d, _ | ⟨d', ds⟩⟩) h <;> first | rfl | simp at h
  · intro W base args ds ps hval hA
    rw [Try.params3] at hA hval
    obtain ⟨v, d, rfl, rfl, h0⟩ := trodAll_one hA
    obtain ⟨n, f, b0, b1, A, ps, pn, pc, l, hub, port, s, h1, h2, rfl⟩ := open15 (hval 0 _ v rfl rfl) h0
    exact FaultNone_all n f b0 b1 A ps pn pc l hub port s W h1 h2

theorem faultNone_proved : Rows.FaultNoneSaid :=
  OpenClaim.holds_of_wide 3 Try.f3 rfl rfl rfl rfl rfl rfl rfl ⟨rfl, rfl, rfl, rfl, rfl⟩ rfl rfl rfl rfl rfl (by kernel_rfl) Try.func3 (by kernel_rfl)
    (of_decide_eq_true (by kernel_rfl)) (by unfold Func.isWrapper; first | (rw [if_pos (by decide +kernel)]; kernel_rfl) | (rw [if_neg (by decide +kernel)]; exact ⟨rfl, rfl⟩))
    (fun os started H enc _ => faultNone_lifted os started H enc)

theorem faultTells_lifted (os : Os) (started : os.Started) (H : Type) (enc : TypeId × Value → H) :
    ReturnsInHanded {} Try.checked os 4 .any (Rows.faultTellsSpec.pre6 enc Try.prog Try.f4 Rows.faultTellsRow.domain false) (Rows.faultTellsSpec.post enc Try.prog Try.f4 false true false false) := by
  refine lifted_true (C := Try.checked) own laidOut started (tb := 4) rfl rfl (Try.underlying4) ?_ (by kernel_rfl) (by kernel_rfl) Try.func4
    (ChangeSpec.witness6 (enc := enc) (C := Try.checked) false ⟨#[], #[.agg #[.int .i64 0, .int .i64 0, .int .i64 0, .string ⟨#[]⟩, .string ⟨#[]⟩, .slice none 0 0, .int .i64 0, .int .i64 0, .int .i64 0, .int .i64 0, .int .i64 0]], []⟩ 8 (by kernel_rfl) (by kernel_rfl) (by kernel_rfl) (by kernel_rfl)) ?_
  · rw [Try.params4]
    rintro (_ | ⟨d, _ | ⟨d', ds⟩⟩) h <;> first | rfl | simp at h
  · intro W base args ds ps hval hA
    rw [Try.params4] at hA hval
    obtain ⟨v, d, rfl, rfl, h0⟩ := trodAll_one hA
    obtain ⟨n, f, b0, b1, A, ps, pn, pc, l, hub, port, s, h1, h2, rfl⟩ := open15 (hval 0 _ v rfl rfl) h0
    exact FaultTells_all n f b0 b1 A ps pn pc l hub port s W h1 h2

theorem faultTells_proved : Rows.FaultTellsSaid :=
  OpenClaim.holds_of_wide 4 Try.f4 rfl rfl rfl rfl rfl rfl rfl ⟨rfl, rfl, rfl, rfl, rfl⟩ rfl rfl rfl rfl rfl (by kernel_rfl) Try.func4 (by kernel_rfl)
    (of_decide_eq_true (by kernel_rfl)) (by unfold Func.isWrapper; first | (rw [if_pos (by decide +kernel)]; kernel_rfl) | (rw [if_neg (by decide +kernel)]; exact ⟨rfl, rfl⟩))
    (fun os started H enc _ => faultTells_lifted os started H enc)
#print axioms faultNone_proved
#print axioms faultTells_proved
end Go.Proofs.Ytjecfilbdabheaa
