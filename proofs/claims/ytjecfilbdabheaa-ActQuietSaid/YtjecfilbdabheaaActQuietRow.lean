/- ActQuiet returns true for every input, and its arguments read behind the call as they read ahead of it; there are no conditions. -/
import Derived.Test.YtjecfilbdabheaaActQuiet
import Derived.Test.YtjecfilbdabheaaRow
namespace Go.Proofs.Ytjecfilbdabheaa
open Go.RowKit Go.ChangeShapes Go.WideShapes
set_option maxRecDepth 100000

theorem ActQuiet_all (n id ps ct : Int) (hn0 : 0 ≤ n) (hn1 : n ≤ 255) (hd0 : 0 ≤ id) (hd1 : id ≤ 255) (hp0 : 0 ≤ ps) (hp1 : ps ≤ 255) (hc0 : 0 ≤ ct) (hc1 : ct ≤ 65535) (w : World) :
    Calls Try.prog 8 #[.agg #[.int .u8 n, .int .u8 id, .int .u8 ps, .int .u16 ct]] w (Ret (.bool (true)) w) := by
  obtain ⟨r, hr, hr0, hr1, hr'⟩ := six hn0 hn1
  obtain ⟨i, hi⟩ : ∃ i, id.tmod (3 + r) = i := ⟨_, rfl⟩
  obtain ⟨p, hp⟩ : ∃ p, ps.tmod (3 + r) = p := ⟨_, rfl⟩
  obtain ⟨c, hc⟩ : ∃ c, ct.tmod (8 * (3 + r)) = c := ⟨_, rfl⟩
  have ei := hi; have ep := hp; have ec := hc
  rw [Int.tmod_eq_emod_of_nonneg (by omega)] at ei ep ec
  have i0 := Int.emod_nonneg id (show 3 + r ≠ 0 by omega)
  have i1 := Int.emod_lt_of_pos id (show 0 < 3 + r by omega)
  have p0 := Int.emod_nonneg ps (show 3 + r ≠ 0 by omega)
  have p1 := Int.emod_lt_of_pos ps (show 0 < 3 + r by omega)
  have c0 := Int.emod_nonneg ct (show 8 * (3 + r) ≠ 0 by omega)
  have c1 := Int.emod_lt_of_pos ct (show 0 < 8 * (3 + r) by omega)
  rw [ei] at i0 i1; rw [ep] at p0 p1; rw [ec] at c0 c1
  have hR : Px.nodeRight (3 + r) ⟨i, 3, c, p⟩ = true := Px.nodeRight_iff.2 (by simp; omega)
  have hq : ∀ k : Int, 0 ≤ k → k ≤ 1000 → ∀ W, Calls Try.prog 39 #[.int .i64 (3 + r), .agg #[.int .i64 i, .int .i64 3, .int .i64 c, .int .i64 p], .int .i64 k] W (Ret (.tuple #[.agg #[.int .i64 (Px.quiet (3 + r) k.toNat ⟨i, 3, c, p⟩).id, .int .i64 (Px.quiet (3 + r) k.toNat ⟨i, 3, c, p⟩).mode, .int .i64 (Px.quiet (3 + r) k.toNat ⟨i, 3, c, p⟩).count, .int .i64 (Px.quiet (3 + r) k.toNat ⟨i, 3, c, p⟩).pos], .int .i64 0]) W) := fun k k0 k1 W => by
    have h := act_Quiet' (3 + r) i 3 c p k W
    rw [show Px.quietOf (3 + r) ⟨i, 3, c, p⟩ k = (Px.quiet (3 + r) k.toNat ⟨i, 3, c, p⟩, 0) by simp [Px.quietOf, hR, k0, k1]] at h
    exact h
  have hz : Px.quiet (3 + r) (8 * (3 + r) - c).toNat ⟨i, 3, c, p⟩ = ⟨i, 1, 0, 0⟩ := by
    obtain ⟨k, hk⟩ : ∃ k : Nat, (8 * (3 + r) - c).toNat = k + 1 := ⟨(8 * (3 + r) - c).toNat - 1, by omega⟩
    rw [hk]
    exact Px.quiet_end (x := ⟨i, 3, c, p⟩) ⟨by omega, by omega⟩ rfl c0 ⟨p0, p1⟩ k (by simp; omega)
  have sZ := hq (8 * (3 + r) - c) (by omega) (by omega)
  rw [hz] at sZ
  have sY := hq (3 + r) (by omega) (by omega)
  by_cases hl : 8 * (3 + r) ≤ c + (3 + r)
  · have hm : (Px.quiet (3 + r) (3 + r).toNat ⟨i, 3, c, p⟩).mode ≠ 3 := by
      obtain ⟨j, hj⟩ : ∃ j : Nat, (3 + r).toNat = (8 * (3 + r) - c).toNat + j := ⟨(3 + r).toNat - (8 * (3 + r) - c).toNat, by omega⟩
      rw [hj, Px.quiet_add, hz]
      have := Px.quiet_mode (n := 3 + r) j (x := ⟨i, 1, 0, 0⟩) (.inl rfl)
      omega
    obtain ⟨k1, k2, k3⟩ := Px.quiet_right (n := 3 + r) (3 + r).toNat hR (by simp)
    generalize Px.quiet (3 + r) (3 + r).toNat ⟨i, 3, c, p⟩ = y at *
    obtain ⟨yi, ym, yc, yp⟩ := y
    simp only at k2 hm
    subst k2
    exact ActQuiet_more n id ps ct r yi p c ym yc yp hn0 hn1 hr hr' hr0 hr1 hd0 hd1 hi hp0 hp1 hp hc0 hc1 hc c0 c1 sY sZ (.inl ⟨hl, hm⟩) w
  · have hy : Px.quiet (3 + r) (3 + r).toNat ⟨i, 3, c, p⟩ = ⟨i, 3, c + (3 + r), p⟩ := by
      have h := Px.quiet_active (n := 3 + r) (x := ⟨i, 3, c, p⟩) ⟨by omega, by omega⟩ rfl c0 ⟨p0, p1⟩ (3 + r).toNat (by simp; omega)
      rw [h]
      have e1 : ((3 + r).toNat : Int) = 3 + r := by omega
      simp only [e1]
      rw [show (p + (3 + r)) % (3 + r) = p by rw [Int.add_emod_right, Int.emod_eq_of_lt p0 p1]]
    rw [hy] at sY
    exact ActQuiet_more n id ps ct r i p c 3 (c + (3 + r)) p hn0 hn1 hr hr' hr0 hr1 hd0 hd1 hi hp0 hp1 hp hc0 hc1 hc c0 c1 sY sZ (.inr ⟨hl, rfl, rfl, rfl⟩) w

theorem actQuiet_lifted (os : Os) (started : os.Started) (H : Type) (enc : TypeId × Value → H) :
    ReturnsInHanded {} Try.checked os 8 .any (Rows.actQuietSpec.pre6 enc Try.prog Try.f8 Rows.actQuietRow.domain false) (Rows.actQuietSpec.post enc Try.prog Try.f8 false true false false) := by
  refine lifted_true (C := Try.checked) own laidOut started (tb := 4) rfl rfl (Try.underlying4) ?_ (by kernel_rfl) (by kernel_rfl) Try.func8
    (ChangeSpec.witness6 (enc := enc) (C := Try.checked) false ⟨#[], #[.agg #[.int .u8 0, .int .u8 0, .int .u8 0, .int .u16 0]], []⟩ 8 (by kernel_rfl) (by kernel_rfl) (by kernel_rfl) (by kernel_rfl)) ?_
  · rw [Try.params8]
    rintro (_ | ⟨d, _ | ⟨d', ds⟩⟩) h <;> first | rfl | simp at h
  · intro W base args ds ps hval hA
    rw [Try.params8] at hA hval
    obtain ⟨v, d, rfl, rfl, h0⟩ := trodAll_one hA
    obtain ⟨⟨cs⟩, rfl, hL⟩ := arg_agg 8 (by kernel_rfl) (ls := [.int .u8, .int .u8, .int .u8, .int .u16]) (by kernel_rfl) (hval 0 _ v rfl rfl) h0
    simp only [] at hL
    obtain ⟨n, cs, rfl, w_n, hL⟩ := hL.int
    obtain ⟨id, cs, rfl, w_id, hL⟩ := hL.int
    obtain ⟨p, cs, rfl, w_p, hL⟩ := hL.int
    obtain ⟨c, cs, rfl, w_c, hL⟩ := hL.int
    obtain rfl := hL.nil
    have b0 := bounds_u8 w_n; have b1 := bounds_u8 w_id; have b2 := bounds_u8 w_p; have b3 := bounds_u16 w_c
    exact ActQuiet_all _ _ _ _ b0.1 b0.2 b1.1 b1.2 b2.1 b2.2 b3.1 b3.2 W

theorem actQuiet_proved : Rows.ActQuietSaid :=
  OpenClaim.holds_of_wide 8 Try.f8 rfl rfl rfl rfl rfl rfl rfl ⟨rfl, rfl, rfl, rfl, rfl⟩ rfl rfl rfl rfl rfl (by kernel_rfl) Try.func8 (by kernel_rfl)
    (of_decide_eq_true (by kernel_rfl)) (by unfold Func.isWrapper; first | (rw [if_pos (by decide +kernel)]; kernel_rfl) | (rw [if_neg (by decide +kernel)]; exact ⟨rfl, rfl⟩))
    (fun os started H enc _ => actQuiet_lifted os started H enc)
#print axioms actQuiet_proved
end Go.Proofs.Ytjecfilbdabheaa
