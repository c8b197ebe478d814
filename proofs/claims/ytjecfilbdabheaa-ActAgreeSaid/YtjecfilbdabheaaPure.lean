/- The plain functions of the cluster (frames, nodes, faults), over Int, with no program in sight. -/
import Derived.Below
namespace Go.Proofs.Ytjecfilbdabheaa
namespace Px

structure Frame where
  kind : Int
  id : Int
deriving DecidableEq

structure Node where
  id : Int
  mode : Int
  count : Int
  pos : Int
deriving DecidableEq

structure Fault where
  cls : Int
  who : Int
deriving DecidableEq

abbrev Frame.none : Frame := ⟨0, 0⟩

/-- is it a number of nodes? -/
def right (n : Int) : Bool := decide (3 ≤ n) && decide (n ≤ 8)

theorem right_iff {n : Int} : right n = true ↔ 3 ≤ n ∧ n ≤ 8 := by simp [right]

def maxCount : Int := 1073741824

/-- may a node be? -/
def nodeRight (n : Int) (x : Node) : Bool :=
  right n && decide (0 ≤ x.id) && decide (x.id < n) && decide (0 ≤ x.mode) && decide (x.mode ≤ 3) && decide (0 ≤ x.count) && decide (x.count ≤ 1073741824) &&
    (decide (x.mode ≠ 0) || decide (x.count = 0)) && (decide (x.mode = 3) || decide (x.pos = 0)) && decide (0 ≤ x.pos) && decide (x.pos < n)

theorem nodeRight_iff {n : Int} {x : Node} : nodeRight n x = true ↔
    3 ≤ n ∧ n ≤ 8 ∧ 0 ≤ x.id ∧ x.id < n ∧ 0 ≤ x.mode ∧ x.mode ≤ 3 ∧ 0 ≤ x.count ∧ x.count ≤ 1073741824 ∧ (x.mode = 0 → x.count = 0) ∧ (x.mode ≠ 3 → x.pos = 0) ∧ 0 ≤ x.pos ∧ x.pos < n := by
  simp [nodeRight, right]
  omega

/-- how long a node waits in a mode -/
def wait (n : Int) (x : Node) : Int := (if x.mode = 1 then 4 * n else 2 * n) + x.id + 1

/-- what a node that may be says -/
def say (n : Int) (x : Node) : Frame :=
  if x.mode = 3 then (if x.pos = x.id then ⟨2, x.id⟩ else .none)
  else if (x.mode = 1 ∨ x.mode = 2) ∧ wait n x ≤ x.count then ⟨1, x.id⟩ else .none

/-- a frame such as is heard of n -/
def heardOk (n : Int) (f : Frame) : Bool := decide (f = .none) || ((decide (f.kind = 1) || decide (f.kind = 2)) && decide (0 ≤ f.id) && decide (f.id < n))

/-- the slot behind -/
def next (n pos : Int) : Int := if pos = n - 1 then 0 else pos + 1

/-- the Id of the first Info -/
def infoOf (g h : Frame) : Option Int := if g.kind = 2 then some g.id else if h.kind = 2 then some h.id else none

/-- the Id of the first Cs of another node -/
def otherOf (g h : Frame) (id : Int) : Option Int := if g.kind = 1 ∧ g.id ≠ id then some g.id else if h.kind = 1 ∧ h.id ≠ id then some h.id else none

/-- one more, at most 2^30 -/
def up (c : Int) : Int := if c < 1073741824 then c + 1 else 1073741824

/-- the counter of an Active node behind a tick -/
def countOf (x : Node) (g h : Frame) : Int := if (g.kind = 2 ∧ g.id = x.pos) ∨ (h.kind = 2 ∧ h.id = x.pos) then 0 else up x.count

/-- what becomes of a node that may be, and isn't Init -/
def step (n : Int) (x : Node) (g h : Frame) : Node :=
  if x.mode = 3 then
    if (g.kind = 2 ∧ g.id ≠ x.pos) ∨ (h.kind = 2 ∧ h.id ≠ x.pos) then ⟨x.id, 1, 0, 0⟩
    else if (otherOf g h x.id).isSome then ⟨x.id, 2, 0, 0⟩
    else
      if 8 * n ≤ countOf x g h then ⟨x.id, 1, 0, 0⟩ else ⟨x.id, 3, countOf x g h, next n x.pos⟩
  else match infoOf g h with
    | some i => ⟨x.id, 3, 0, next n i⟩
    | Option.none =>
      match otherOf g h x.id with
      | some i => if x.mode = 2 then ⟨x.id, 3, 0, next n i⟩ else ⟨x.id, 2, 0, 0⟩
      | Option.none => if (say n x).kind = 1 then ⟨x.id, 2, 0, 0⟩ else ⟨x.id, x.mode, up x.count, 0⟩

theorem node_eq {x y : Node} (h1 : x.id = y.id) (h2 : x.mode = y.mode) (h3 : x.count = y.count) (h4 : x.pos = y.pos) : x = y := by
  cases x; cases y; simp_all

theorem heardOk_iff {n : Int} {f : Frame} : heardOk n f = true ↔ ((f.kind = 0 ∧ f.id = 0) ∨ ((f.kind = 1 ∨ f.kind = 2) ∧ 0 ≤ f.id ∧ f.id < n)) := by
  cases f
  simp [heardOk, Frame.none]
  omega

theorem next_range {n p : Int} (h0 : 0 ≤ p) (h1 : p < n) : 0 ≤ next n p ∧ next n p < n := by unfold next; split <;> omega
theorem next_mod {n p : Int} (h0 : 0 ≤ p) (h1 : p < n) : next n p = (p + 1) % n := by
  unfold next
  split
  · next h => subst h; simp
  · rw [Int.emod_eq_of_lt (by omega) (by omega)]
theorem up_range {c : Int} (h0 : 0 ≤ c) (_h1 : c ≤ 1073741824) : 0 ≤ up c ∧ up c ≤ 1073741824 := by unfold up; split <;> omega

theorem infoOf_range {n : Int} {g h : Frame} {i : Int} (hg : heardOk n g = true) (hh : heardOk n h = true) (hi : infoOf g h = some i) : 0 ≤ i ∧ i < n := by
  rw [heardOk_iff] at hg hh
  unfold infoOf at hi
  split at hi
  · cases hi; omega
  · split at hi
    · cases hi; omega
    · cases hi
theorem otherOf_range {n id : Int} {g h : Frame} {i : Int} (hg : heardOk n g = true) (hh : heardOk n h = true) (hi : otherOf g h id = some i) : 0 ≤ i ∧ i < n := by
  rw [heardOk_iff] at hg hh
  unfold otherOf at hi
  split at hi
  · cases hi; omega
  · split at hi
    · cases hi; omega
    · cases hi

/-- what becomes of a node may be, has its Id, and isn't Init -/
theorem step_right {n : Int} {x : Node} {g h : Frame} (hx : nodeRight n x = true) (hm : x.mode ≠ 0) (hg : heardOk n g = true) (hh : heardOk n h = true) :
    nodeRight n (step n x g h) = true ∧ (step n x g h).id = x.id ∧ (step n x g h).mode ≠ 0 := by
  have hx' := nodeRight_iff.1 hx
  have key : ∀ y : Node, y.id = x.id → 1 ≤ y.mode → y.mode ≤ 3 → 0 ≤ y.count → y.count ≤ 1073741824 → (y.mode ≠ 3 → y.pos = 0) → 0 ≤ y.pos → y.pos < n → nodeRight n y = true ∧ y.id = x.id ∧ y.mode ≠ 0 := by
    intro y h1 h2 h3 h4 h5 h6 h7 h8
    refine ⟨nodeRight_iff.2 ?_, h1, by omega⟩
    rw [h1]; omega
  have hu := up_range (c := x.count) (by omega) (by omega)
  have hc : 0 ≤ countOf x g h ∧ countOf x g h ≤ 1073741824 := by unfold countOf; split <;> omega
  have toListen : nodeRight n ⟨x.id, 1, 0, 0⟩ = true ∧ (⟨x.id, 1, 0, 0⟩ : Node).id = x.id ∧ (⟨x.id, 1, 0, 0⟩ : Node).mode ≠ 0 := key _ rfl (by simp) (by simp) (by simp) (by simp) (by simp) (by simp) (by simp; omega)
  have toCold : nodeRight n ⟨x.id, 2, 0, 0⟩ = true ∧ (⟨x.id, 2, 0, 0⟩ : Node).id = x.id ∧ (⟨x.id, 2, 0, 0⟩ : Node).mode ≠ 0 := key _ rfl (by simp) (by simp) (by simp) (by simp) (by simp) (by simp) (by simp; omega)
  have toActive : ∀ c p : Int, 0 ≤ c → c ≤ 1073741824 → 0 ≤ p → p < n → nodeRight n ⟨x.id, 3, c, p⟩ = true ∧ (⟨x.id, 3, c, p⟩ : Node).id = x.id ∧ (⟨x.id, 3, c, p⟩ : Node).mode ≠ 0 :=
    fun c p h1 h2 h3 h4 => key _ rfl (by simp) (by simp) h1 h2 (by simp) h3 h4
  unfold step
  split
  · split
    · exact toListen
    · split
      · exact toCold
      · have hn := next_range (n := n) (p := x.pos) (by omega) (by omega)
        split
        · exact toListen
        · exact toActive _ _ hc.1 hc.2 hn.1 hn.2
  · split
    · next i hi =>
      have hr := infoOf_range hg hh hi
      have hn := next_range (n := n) (p := i) hr.1 hr.2
      exact toActive _ _ (by omega) (by omega) hn.1 hn.2
    · split
      · next i hi =>
        have hr := otherOf_range hg hh hi
        have hn := next_range (n := n) (p := i) hr.1 hr.2
        split
        · exact toActive _ _ (by omega) (by omega) hn.1 hn.2
        · exact toCold
      · split
        · exact toCold
        · exact key _ rfl (by simp; omega) (by simp; omega) hu.1 hu.2 (by simp) (by simp) (by simp; omega)

/-- what becomes of it in ticks in which nothing is heard -/
def quiet (n : Int) : Nat → Node → Node
  | 0, x => x
  | k + 1, x => quiet n k (step n x .none .none)

theorem heardOk_none (n : Int) : heardOk n .none = true := by simp [heardOk]

theorem quiet_right {n : Int} (k : Nat) : ∀ {x : Node}, nodeRight n x = true → x.mode ≠ 0 → nodeRight n (quiet n k x) = true ∧ (quiet n k x).id = x.id ∧ (quiet n k x).mode ≠ 0 := by
  induction k with
  | zero => intro x hx hm; exact ⟨hx, rfl, hm⟩
  | succ k ih =>
    intro x hx hm
    obtain ⟨h1, h2, h3⟩ := step_right hx hm (heardOk_none n) (heardOk_none n)
    obtain ⟨i1, i2, i3⟩ := ih h1 h3
    exact ⟨i1, i2.trans h2, i3⟩

theorem quiet_succ (n : Int) (k : Nat) (x : Node) : quiet n (k + 1) x = step n (quiet n k x) .none .none := by
  induction k generalizing x with
  | zero => rfl
  | succ k ih => exact ih (step n x .none .none)

/-- one quiet tick of an Active node -/
theorem step_quiet {n : Int} {x : Node} (hm : x.mode = 3) : step n x .none .none = if 8 * n ≤ up x.count then ⟨x.id, 1, 0, 0⟩ else ⟨x.id, 3, up x.count, next n x.pos⟩ := by
  simp [step, hm, otherOf, countOf]

/-- so many quiet ticks of an Active node, as long as it is watched -/
theorem quiet_active {n : Int} {x : Node} (hn : 3 ≤ n ∧ n ≤ 8) (hm : x.mode = 3) (hc : 0 ≤ x.count) (hp : 0 ≤ x.pos ∧ x.pos < n) (k : Nat) (hk : x.count + k < 8 * n) :
    quiet n k x = ⟨x.id, 3, x.count + k, (x.pos + k) % n⟩ := by
  induction k with
  | zero =>
    have : x.pos % n = x.pos := Int.emod_eq_of_lt hp.1 hp.2
    cases x; simp_all [quiet]
  | succ k ih =>
    rw [quiet_succ, ih (by omega), step_quiet rfl]
    simp only []
    have hu : up (x.count + k) = x.count + (k + 1 : Nat) := by unfold up; rw [if_pos (by omega)]; omega
    have h0 := Int.emod_nonneg (x.pos + k) (b := n) (by omega)
    have h1 := Int.emod_lt_of_pos (x.pos + k) (b := n) (by omega)
    rw [hu, if_neg (by omega), next_mod h0 h1]
    congr 1
    rw [Int.emod_add_emod]
    congr 1
    omega

theorem quiet_end {n : Int} {x : Node} (hn : 3 ≤ n ∧ n ≤ 8) (hm : x.mode = 3) (hc : 0 ≤ x.count) (hp : 0 ≤ x.pos ∧ x.pos < n) (k : Nat) (hk : x.count + k + 1 = 8 * n) :
    quiet n (k + 1) x = ⟨x.id, 1, 0, 0⟩ := by
  rw [quiet_succ, quiet_active hn hm hc hp k (by omega), step_quiet rfl]
  have hu : up (x.count + k) = x.count + k + 1 := by unfold up; rw [if_pos (by omega)]
  simp only []
  rw [hu, if_pos (by omega)]

/-- a node that listens counts up in quiet ticks, till it is cold -/
theorem step_quiet_mode {n : Int} {x : Node} (hm : x.mode = 1 ∨ x.mode = 2) : (step n x .none .none).mode = 1 ∨ (step n x .none .none).mode = 2 := by
  have h3 : ¬ x.mode = 3 := by omega
  simp only [step, h3, if_false, infoOf, otherOf]
  simp
  split
  · right; rfl
  · simpa using hm
theorem quiet_mode {n : Int} (k : Nat) : ∀ {x : Node}, (x.mode = 1 ∨ x.mode = 2) → (quiet n k x).mode = 1 ∨ (quiet n k x).mode = 2 := by
  induction k with
  | zero => intro x h; exact h
  | succ k ih => intro x h; exact ih (step_quiet_mode h)

theorem quiet_add (n : Int) (j k : Nat) (x : Node) : quiet n (j + k) x = quiet n k (quiet n j x) := by
  induction j generalizing x with
  | zero => simp [quiet]
  | succ j ih => rw [Nat.succ_add]; exact ih _

end Px
end Go.Proofs.Ytjecfilbdabheaa
