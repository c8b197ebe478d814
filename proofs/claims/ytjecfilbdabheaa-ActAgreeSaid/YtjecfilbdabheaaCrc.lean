/- The sums of bytes, and frames as bytes. -/
import Derived.Test.YtjecfilbdabheaaBase
namespace Go.Proofs.Ytjecfilbdabheaa
open Go.RowKit
set_option linter.unusedSimpArgs false
set_option linter.unusedVariables false

namespace Px
/-- one bit of a sum's register -/
def crcStep (x : Nat) : Nat := if x % 2 = 1 then (x / 2) ^^^ 3988292384 else x / 2
def crcIter : Nat → Nat → Nat
  | 0, x => x
  | k + 1, x => crcStep (crcIter k x)
def crcAdd (r b : Nat) : Nat := crcIter 8 (r ^^^ b)
def crcFold (l : List UInt8) : Nat := l.foldl (fun r b => crcAdd r b.toNat) 4294967295
def crcSum (l : List UInt8) : Nat := 4294967295 - crcFold l
theorem crcFold_snoc (l : List UInt8) (b : UInt8) : crcFold (l ++ [b]) = crcAdd (crcFold l) b.toNat := by simp [crcFold]

theorem xor_lt {a b : Nat} (ha : a < 4294967296) (hb : b < 4294967296) : a ^^^ b < 4294967296 := Nat.xor_lt_two_pow (n := 32) ha hb
theorem crcStep_lt {x : Nat} (h : x < 4294967296) : crcStep x < 4294967296 := by
  unfold crcStep
  split
  · exact xor_lt (by omega) (by omega)
  · omega
theorem crcIter_lt (k : Nat) {x : Nat} (h : x < 4294967296) : crcIter k x < 4294967296 := by
  induction k with
  | zero => exact h
  | succ k ih => exact crcStep_lt ih
theorem crcAdd_lt {r b : Nat} (h : r < 4294967296) (hb : b < 4294967296) : crcAdd r b < 4294967296 := crcIter_lt 8 (xor_lt h hb)
end Px

theorem bits_step (y : Nat) (h : y < 4294967296) :
    bits BinOp.xor IntKind.u32 ((y : Int) / 2) (bits BinOp.and IntKind.u32 3988292384 (-bits BinOp.and IntKind.u32 (y : Int) 1 % 4294967296)) = (Px.crcStep y : Nat) := by
  have h1 : bits BinOp.and IntKind.u32 (y : Int) 1 = ((y % 2 : Nat) : Int) := by
    rw [show (1 : Int) = ((1 : Nat) : Int) from rfl, u32_and_nat y 1 h (by omega), Nat.and_one_is_mod]
  rw [h1, show ((y : Int) / 2) = ((y / 2 : Nat) : Int) from rfl]
  unfold Px.crcStep
  rcases Nat.mod_two_eq_zero_or_one y with e | e
  · rw [e]
    rw [show (-((0 : Nat) : Int) % 4294967296) = ((0 : Nat) : Int) from rfl, show (3988292384 : Int) = ((3988292384 : Nat) : Int) from rfl, u32_and_nat _ _ (by omega) (by omega)]
    rw [u32_xor_nat _ _ (by omega) (by simp)]
    simp
  · rw [e]
    rw [show (-((1 : Nat) : Int) % 4294967296) = ((4294967295 : Nat) : Int) from rfl, show (3988292384 : Int) = ((3988292384 : Nat) : Int) from rfl, u32_and_nat _ _ (by omega) (by omega)]
    rw [u32_xor_nat _ _ (by omega) (by decide)]
    simp

set_option maxHeartbeats 400000 in
theorem crc_Add (r b : Nat) (hr : r < 4294967296) (hb : b < 256) (w : World) :
    Calls Try.prog 155 #[.int .u32 r, .int .u8 b] w (Same (.int .u32 (Px.crcAdd r b : Nat)) w) := by
  have hx := Px.xor_lt (a := r) (b := b) hr (by omega)
  go_enter Try.func155, Try.ntmps155
  go_wp2
  rw [u32_xor_nat r b hr (by omega)]
  go_loop [0, 9] (fun r' i => ∃ k : Nat, k ≤ 8 ∧ i = .int .i64 k ∧ ∃ y : Nat, y < 4294967296 ∧ r' = .int .u32 y ∧ Hid (y = Px.crcIter k (r ^^^ b))) (fun _ i => 8 - (intOf i).toNat)
  case atStart => exact ⟨0, by omega, rfl, _, hx, rfl, rfl⟩
  case round =>
    obtain ⟨k, hk, rfl, y, hy, rfl, hyk⟩ := hrel
    have hl := Px.crcStep_lt hy
    by_cases hlt : k < 8
    · go_wp2
      go_round
      case rel => exact ⟨k + 1, by omega, by go_num, Px.crcStep y, hl, by rw [bits_step y hy], by rw [hyk.out]; rfl⟩
      case measure => simp [intOf]; omega
    · have hk8 : k = 8 := by omega
      subst hk8
      go_wp2
      go_ret
      exact Same.mk (vint (by rw [hyk.out]; rfl))
set_option maxHeartbeats 400000 in
theorem ref_Add (r b : Nat) (hr : r < 4294967296) (hb : b < 256) (w : World) :
    Calls Try.prog 112 #[.int .u32 r, .int .u8 b] w (Same (.int .u32 (Px.crcAdd r b : Nat)) w) := by
  have hx := Px.xor_lt (a := r) (b := b) hr (by omega)
  go_enter Try.func112, Try.ntmps112
  go_wp2
  rw [u32_xor_nat r b hr (by omega)]
  go_loop [0, 5] (fun r' i => ∃ k : Nat, k ≤ 8 ∧ i = .int .i64 k ∧ ∃ y : Nat, y < 4294967296 ∧ r' = .int .u32 y ∧ Hid (y = Px.crcIter k (r ^^^ b))) (fun _ i => 8 - (intOf i).toNat)
  case atStart => exact ⟨0, by omega, rfl, _, hx, rfl, rfl⟩
  case round =>
    obtain ⟨k, hk, rfl, y, hy, rfl, hyk⟩ := hrel
    have hl := Px.crcStep_lt hy
    by_cases hlt : k < 8
    · go_wp2
      · have hodd : ((y : Int) % 2 == 1) = true := by assumption
        have e : bits BinOp.xor IntKind.u32 ((y : Int) / 2) 3988292384 = (Px.crcStep y : Nat) := by
          rw [show (3988292384 : Int) = ((3988292384 : Nat) : Int) from rfl, show ((y : Int) / 2) = ((y / 2 : Nat) : Int) from rfl, u32_xor_nat _ _ (by omega) (by omega)]
          have : y % 2 = 1 := by simp at hodd; omega
          simp [Px.crcStep, this]
        go_round
        case rel => exact ⟨k + 1, by omega, by go_num, Px.crcStep y, hl, by rw [e], by rw [hyk.out]; rfl⟩
        case measure => simp [intOf]; omega
      · have hodd : ((y : Int) % 2 == 1) = false := by assumption
        have e : ((y : Int) / 2) = (Px.crcStep y : Nat) := by
          have : y % 2 ≠ 1 := by simp at hodd; omega
          simp [Px.crcStep, this]
        go_round
        case rel => exact ⟨k + 1, by omega, by go_num, Px.crcStep y, hl, by rw [e], by rw [hyk.out]; rfl⟩
        case measure => simp [intOf]; omega
    · have hk8 : k = 8 := by omega
      subst hk8
      go_wp2
      go_ret
      exact Same.mk (vint (by rw [hyk.out]; rfl))

namespace Px
def four (r : Nat) : List Int := [(r : Int) / 16777216, (r : Int) / 65536 % 256, (r : Int) / 256 % 256, (r : Int) % 256]
end Px

set_option maxRecDepth 100000 in
set_option maxHeartbeats 400000 in
theorem crc_Four (r : Nat) (hr : r < 4294967296) (w : World) :
    Calls Try.prog 114 #[.int .u32 r] w (Ret (.string (strOfNums (Px.four r))) w) := by
  have hc := fun (W : World) (B : Nat) (a b c d : Int) (hB : W.heap.size = B) => conv_at (P := Try.prog) 96 9 5 Try.underlying96 Try.underlying5 Try.underlying9 [a, b, c, d] 4 W B hB
  simp only [List.length_cons, List.length_nil, Nat.zero_add, Nat.reduceAdd, List.map_cons, List.map_nil] at hc
  go_enter Try.func114, Try.ntmps114
  go_wp2
  go_ret
  exact Ret.mk rfl ((Below.refl _ _).alloc (by simp) _)
set_option maxRecDepth 100000 in
set_option maxHeartbeats 400000 in
theorem ref_Four (r : Nat) (hr : r < 4294967296) (w : World) :
    Calls Try.prog 61 #[.int .u32 r] w (Ret (.string (strOfNums (Px.four r))) w) := by
  have hc := fun (W : World) (B : Nat) (a b c d : Int) (hB : W.heap.size = B) => conv_at (P := Try.prog) 96 9 5 Try.underlying96 Try.underlying5 Try.underlying9 [a, b, c, d] 4 W B hB
  simp only [List.length_cons, List.length_nil, Nat.zero_add, Nat.reduceAdd, List.map_cons, List.map_nil] at hc
  go_enter Try.func61, Try.ntmps61
  go_wp2
  go_ret
  exact Ret.mk rfl ((Below.refl _ _).alloc (by simp) _)
theorem take_snoc (s : ByteArray) (k : Nat) (h : k < s.size) : s.data.toList.take (k + 1) = s.data.toList.take k ++ [s[k]] := by
  rw [List.take_succ_eq_append_getElem (by simpa using h)]; rfl

theorem crc_round (s : ByteArray) (k : Nat) (h : k < s.size) {y : Nat} (hy : Hid (y = Px.crcFold (s.data.toList.take k))) : Hid (Px.crcAdd y s[k].toNat = Px.crcFold (s.data.toList.take (k + 1))) := by
  show _ = _
  rw [take_snoc s k h, Px.crcFold_snoc, ← hy.out]

theorem not_xor (y : Nat) (h : y < 4294967296) : 4294967295 ^^^ y = 4294967295 - y := by
  have h1 : (BitVec.allOnes 32 ^^^ BitVec.ofNat 32 y).toNat = (~~~ (BitVec.ofNat 32 y)).toNat := by
    rw [BitVec.allOnes_xor]
  rw [BitVec.toNat_xor, BitVec.toNat_not, BitVec.toNat_allOnes, BitVec.toNat_ofNat, Nat.mod_eq_of_lt (by omega)] at h1
  exact h1

set_option maxRecDepth 100000 in
set_option maxHeartbeats 400000 in
theorem ref_Sum (s : ByteArray) (hs : s.size ≤ 140737488351232) (w : World) :
    Calls Try.prog 62 #[.string s] w (Same (.int .u32 (Px.crcSum s.data.toList : Nat)) w) := by
  go_enter Try.func62, Try.ntmps62
  go_wp2
  go_loop [3, 4] (fun r' i => ∃ k : Nat, k ≤ s.size ∧ i = .int .i64 k ∧ ∃ y : Nat, y < 4294967296 ∧ r' = .int .u32 y ∧ Hid (y = Px.crcFold (s.data.toList.take k))) (fun _ i => s.size - (intOf i).toNat)
  case atStart => exact ⟨0, by omega, rfl, _, by decide, rfl, rfl⟩
  case round =>
    obtain ⟨k, hk, rfl, y, hy, rfl, hyk⟩ := hrel
    by_cases hlt : k < s.size
    · have hb : s[k].toNat < 256 := s[k].toNat_lt
      have hl := Px.crcAdd_lt hy (b := s[k].toNat) (by omega)
      go_wp2_with (go_at_call 112; refine (ref_Add _ _ (by omega) (by omega) _).mono ?_; rintro e w' ⟨rfl, rfl⟩)
      go_round
      case rel => exact ⟨k + 1, by omega, by go_num, _, hl, rfl, crc_round s k hlt hyk⟩
      case measure => simp [intOf]; omega
    · have hk8 : k = s.size := by omega
      subst hk8
      go_wp2
      go_ret
      refine Same.mk (vint ?_)
      have e : List.take s.size s.data.toList = s.data.toList := List.take_of_length_le (by rw [Array.length_toList]; exact Nat.le_refl _)
      have := hyk.out
      rw [e] at this
      unfold Px.crcSum
      rw [← this]
      omega
set_option maxRecDepth 100000 in
set_option maxHeartbeats 400000 in
theorem crc_Sum (s : ByteArray) (hs : s.size ≤ 140737488351232) (w : World) :
    Calls Try.prog 115 #[.string s] w (Ret (.int .u32 (Px.crcSum s.data.toList : Nat)) w) := by
  have hc := fun (W : World) (s : ByteArray) => run_bytes_of_string (P := Try.prog) W 9 96 5 s Try.underlying9 Try.underlying96 Try.underlying5
  go_enter Try.func115, Try.ntmps115
  go_wp2
  have hcell : ∀ k (h : k < s.size), (w.alloc (Obj.cells (bytesRow s (grownCap w s.size 0 5)) 5 ((bytesRow s (grownCap w s.size 0 5)).size, (bytesRow s (grownCap w s.size 0 5)).size + 1))).drew.cell? ⟨w.heap.size, k, none⟩ = some (.int .u8 (s[k].toNat : Int)) := fun k h =>
    (World.cell?_alloc_mark w _ _ _ k).trans (bytesRow_at s _ k h)
  have hB : Below w.heap.size w (w.alloc (Obj.cells (bytesRow s (grownCap w s.size 0 5)) 5 ((bytesRow s (grownCap w s.size 0 5)).size, (bytesRow s (grownCap w s.size 0 5)).size + 1))).drew := ((Below.refl _ _).alloc (Nat.le_refl _) _).drew
  generalize (w.alloc (Obj.cells (bytesRow s (grownCap w s.size 0 5)) 5 ((bytesRow s (grownCap w s.size 0 5)).size, (bytesRow s (grownCap w s.size 0 5)).size + 1))).drew = W at *
  have HC := Lib.hid hcell
  have HB := Lib.hid hB
  clear hcell hB hc
  go_loop [3, 9] (fun r' i => ∃ k : Nat, k ≤ s.size ∧ i = .int .i64 k ∧ ∃ y : Nat, y < 4294967296 ∧ r' = .int .u32 y ∧ Hid (y = Px.crcFold (s.data.toList.take k))) (fun _ i => s.size - (intOf i).toNat)
  case atStart => exact ⟨0, by omega, rfl, _, by decide, rfl, rfl⟩
  case round =>
    obtain ⟨k, hk, rfl, y, hy, rfl, hyk⟩ := hrel
    by_cases hlt : k < s.size
    · have hcl := HC.out k hlt
      have hb : s[k].toNat < 256 := s[k].toNat_lt
      have hl := Px.crcAdd_lt hy (b := s[k].toNat) (by omega)
      go_wp2_with (go_at_call 155; refine (crc_Add _ _ (by omega) (by omega) _).mono ?_; rintro e w' ⟨rfl, rfl⟩)
      go_round
      case rel => exact ⟨k + 1, by omega, by go_num, _, hl, rfl, crc_round s k hlt hyk⟩
      case measure => simp [intOf]; omega
    · have hk8 : k = s.size := by omega
      subst hk8
      go_wp2
      go_ret
      refine Ret.mk (vint ?_) HB.out
      rw [show IntKind.u32.max = ((4294967295 : Nat) : Int) from rfl, u32_xor_nat _ _ (by omega) hy, not_xor y hy]
      have e : List.take s.size s.data.toList = s.data.toList := List.take_of_length_le (by rw [Array.length_toList]; exact Nat.le_refl _)
      have := hyk.out
      rw [e] at this
      unfold Px.crcSum
      rw [← this]
end Go.Proofs.Ytjecfilbdabheaa
