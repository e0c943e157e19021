/- PlanApart's plain law: things lie side by side, and fill the arena. -/
import Derived.Test.YtbmjhlgkddhhnaaPlanD
namespace Go.Proofs.Ytbmjhlgkddhhnaa
open Go Go.Hx
set_option maxRecDepth 8000
/-- Rows, laid flat. -/
def flat : List (Int × Int) → List Int
  | [] => []
  | p :: r => p.1 :: p.2 :: flat r
theorem flat_append : ∀ a b : List (Int × Int), flat (a ++ b) = flat a ++ flat b
  | [], b => rfl
  | p :: r, b => by simp [flat, flat_append r b]
theorem flat_length : ∀ a : List (Int × Int), (flat a).length = a.length * 2
  | [] => rfl
  | p :: r => by simp [flat, flat_length r]; omega

def base5 : List (Int × Int) := [(0, 1), (1, 1), (2, 1), (3, 1), (4, 1)]

def slotsR (a2 : Int) (m : Nat) : List (Int × Int) := (List.range m).map fun (k : Nat) => (slotV a2 k, (1 : Int))
theorem slotsR_succ (a2 : Int) (m : Nat) : slotsR a2 (m + 1) = slotsR a2 m ++ [(slotV a2 m, 1)] := by simp [slotsR, List.range_succ]
theorem slotsR_length (a2 : Int) (m : Nat) : (slotsR a2 m).length = m := by simp [slotsR]
def topicRow (a0 a1 a2 : Int) (k : Nat) : List (Int × Int) := [(entryV a0 a2 k, 1), (ctlV a0 a1 a2 k, 1), (bufV a0 a1 a2 k 0, a1), (bufV a0 a1 a2 k 1, a1)]
def topicsR (a0 a1 a2 : Int) : Nat → List (Int × Int)
  | 0 => []
  | m + 1 => topicsR a0 a1 a2 m ++ topicRow a0 a1 a2 m
theorem topicsR_length (a0 a1 a2 : Int) : ∀ m, (topicsR a0 a1 a2 m).length = 4 * m
  | 0 => rfl
  | m + 1 => by simp [topicsR, topicRow, topicsR_length a0 a1 a2 m]; omega
/-- the blocks, from 1 on -/
def blocksR (a0 a1 a2 a4 a5 a6 a7 : Int) : Nat → List (Int × Int)
  | 0 => []
  | m + 1 => blocksR a0 a1 a2 a4 a5 a6 a7 m ++ [(blockV a0 a1 a2 a4 a5 a6 a7 ((m + 1 : Nat) : Int), 1 + (if ((m + 1 : Nat) : Int) ≤ a5 then a4 else a6))]
theorem blocksR_length (a0 a1 a2 a4 a5 a6 a7 : Int) : ∀ m, (blocksR a0 a1 a2 a4 a5 a6 a7 m).length = m
  | 0 => rfl
  | m + 1 => by simp [blocksR, blocksR_length a0 a1 a2 a4 a5 a6 a7 m]

/-- Is a word within a thing? -/
def ind (s l : Int) (x : Nat) : Int := if s ≤ x ∧ (x : Int) < s + l then 1 else 0
def cnt : List (Int × Int) → Nat → Int
  | [], _ => 0
  | p :: r, x => ind p.1 p.2 x + cnt r x
theorem cnt_append (x : Nat) : ∀ a b : List (Int × Int), cnt (a ++ b) x = cnt a x + cnt b x
  | [], b => by simp [cnt]
  | p :: r, b => by simp [cnt, cnt_append x r b]; omega
theorem ind_bd (s l : Int) (x : Nat) : 0 ≤ ind s l x ∧ ind s l x ≤ 1 := by unfold ind; split <;> omega
theorem cnt_bd (x : Nat) : ∀ a : List (Int × Int), 0 ≤ cnt a x ∧ cnt a x ≤ a.length
  | [] => by simp [cnt]
  | p :: r => by have := cnt_bd x r; have := ind_bd p.1 p.2 x; simp only [cnt, List.length_cons]; omega
theorem ind_join {s l s' l' t : Int} {x : Nat} (h1 : 0 ≤ l) (h2 : 0 ≤ l') (e : s' = s + l) (e' : t = l + l') : ind s l x + ind s' l' x = ind s t x := by
  subst e; subst e'
  unfold ind
  split <;> split <;> split <;> omega
theorem ind_zero (s : Int) (x : Nat) : ind s 0 x = 0 := by unfold ind; rw [if_neg (by omega)]

section
variable {a0 a1 a2 a3 a4 a5 a6 a7 a8 : Int} (hr : rightB a0 a1 a2 a3 a4 a5 a6 a7 a8 = true)
theorem cnt_base (x : Nat) : cnt base5 x = ind 0 5 x := by
  simp only [base5, cnt]
  rw [← ind_join (s := 0) (l := 1) (s' := 1) (l' := 4) (t := 5) (by decide) (by decide) (by decide) (by decide), ← ind_join (s := 1) (l := 1) (s' := 2) (l' := 3) (t := 4) (by decide) (by decide) (by decide) (by decide),
    ← ind_join (s := 2) (l := 1) (s' := 3) (l' := 2) (t := 3) (by decide) (by decide) (by decide) (by decide), ← ind_join (s := 3) (l := 1) (s' := 4) (l' := 1) (t := 2) (by decide) (by decide) (by decide) (by decide)]
  omega
theorem cnt_slots (x : Nat) : ∀ m : Nat, (m : Int) ≤ a2 → cnt (slotsR a2 m) x = ind 5 m x
  | 0, _ => by simp [slotsR, cnt, ind_zero]
  | m + 1, h => by
    rw [slotsR_succ, cnt_append, cnt_slots x m (by omega)]
    simp only [cnt]
    rw [slotV, if_pos (by omega), ← ind_join (s := 5) (l := m) (s' := 5 + m) (l' := 1) (t := ((m + 1 : Nat) : Int)) (by omega) (by omega) rfl (by omega)]
    omega
include hr in
theorem cnt_topics (x : Nat) : ∀ m : Nat, (m : Int) ≤ a0 → cnt (topicsR a0 a1 a2 m) x = ind (5 + a2) m x + ind (5 + a2 + a0) (m * (1 + 2 * a1)) x
  | 0, _ => by simp [topicsR, cnt, ind_zero]
  | m + 1, h => by
    have hr' := right_iff.1 hr
    rw [topicsR, cnt_append, cnt_topics x m (by omega)]
    have mb := mulB (x := (m : Int)) (y := 1 + 2 * a1) (X := 8) (Y := 65) (by omega) (by omega) (by omega) (by omega)
    have e1 : ((m + 1 : Nat) : Int) * (1 + 2 * a1) = (m : Int) * (1 + 2 * a1) + (1 + 2 * a1) := by
      rw [Int.natCast_add, Int.add_mul]; simp
    have b0 : bufV a0 a1 a2 m 0 = 5 + a2 + a0 + m * (1 + 2 * a1) + 1 := by rw [bufV, if_pos (by omega)]; simp
    have b1 : bufV a0 a1 a2 m 1 = 5 + a2 + a0 + m * (1 + 2 * a1) + 1 + a1 := by rw [bufV, if_pos (by omega)]; simp
    have c0 : ctlV a0 a1 a2 m = 5 + a2 + a0 + m * (1 + 2 * a1) := by rw [ctlV, if_pos (by omega)]
    have n0 : entryV a0 a2 m = 5 + a2 + m := by rw [entryV, if_pos (by omega)]
    simp only [topicRow, cnt, b0, b1, c0, n0, e1]
    generalize hq : (m : Int) * (1 + 2 * a1) = q at mb ⊢
    rw [← ind_join (s := 5 + a2) (l := m) (s' := 5 + a2 + m) (l' := 1) (t := ((m + 1 : Nat) : Int)) (by omega) (by omega) rfl (by omega),
      ← ind_join (s := 5 + a2 + a0) (l := q) (s' := 5 + a2 + a0 + q) (l' := 1 + 2 * a1) (t := q + (1 + 2 * a1)) (by omega) (by omega) rfl rfl,
      ← ind_join (s := 5 + a2 + a0 + q) (l := 1) (s' := 5 + a2 + a0 + q + 1) (l' := 2 * a1) (t := 1 + 2 * a1) (by omega) (by omega) rfl rfl,
      ← ind_join (s := 5 + a2 + a0 + q + 1) (l := a1) (s' := 5 + a2 + a0 + q + 1 + a1) (l' := a1) (t := 2 * a1) (by omega) (by omega) rfl (by omega)]
    omega
include hr in
theorem cnt_blocks (x : Nat) : ∀ m : Nat, (m : Int) ≤ a5 + a7 → cnt (blocksR a0 a1 a2 a4 a5 a6 a7 m) x = ind (atV a0 a1 a2 a4 a5 a6 1) (atV a0 a1 a2 a4 a5 a6 ((m : Int) + 1) - atV a0 a1 a2 a4 a5 a6 1) x ∧ atV a0 a1 a2 a4 a5 a6 1 ≤ atV a0 a1 a2 a4 a5 a6 ((m : Int) + 1)
  | 0, _ => by simp [blocksR, cnt, ind_zero]
  | m + 1, h => by
    have hr' := right_iff.1 hr
    obtain ⟨i1, i2⟩ := cnt_blocks x m (by omega)
    have hn := at_next (a0 := a0) (a1 := a1) (a2 := a2) (a4 := a4) (a6 := a6) (a5 := a5) (by omega) (j := ((m + 1 : Nat) : Int)) (by omega)
    have eb : blockV a0 a1 a2 a4 a5 a6 a7 ((m + 1 : Nat) : Int) = atV a0 a1 a2 a4 a5 a6 ((m + 1 : Nat) : Int) := by rw [blockV, if_pos (by omega)]
    have em : ((m : Int) + 1) = ((m + 1 : Nat) : Int) := by omega
    rw [em] at i1 i2
    have hp : 0 ≤ (if ((m + 1 : Nat) : Int) ≤ a5 then a4 else a6) := by split <;> omega
    refine ⟨?_, by omega⟩
    rw [blocksR, cnt_append, i1]
    simp only [cnt]
    rw [eb, ← ind_join (s := atV a0 a1 a2 a4 a5 a6 1) (l := atV a0 a1 a2 a4 a5 a6 ((m + 1 : Nat) : Int) - atV a0 a1 a2 a4 a5 a6 1) (s' := atV a0 a1 a2 a4 a5 a6 ((m + 1 : Nat) : Int)) (l' := 1 + (if ((m + 1 : Nat) : Int) ≤ a5 then a4 else a6)) (t := atV a0 a1 a2 a4 a5 a6 (((m + 1 : Nat) : Int) + 1) - atV a0 a1 a2 a4 a5 a6 1) (by omega) (by omega) (by omega) (by omega)]
    omega

def allR (a0 a1 a2 a4 a5 a6 a7 : Int) : List (Int × Int) := base5 ++ slotsR a2 a2.toNat ++ topicsR a0 a1 a2 a0.toNat ++ blocksR a0 a1 a2 a4 a5 a6 a7 (a5 + a7).toNat

include hr in
theorem all_once (x : Nat) (hx : (x : Int) < sizeV a0 a1 a2 a4 a5 a6 a7) : cnt (allR a0 a1 a2 a4 a5 a6 a7) x = 1 := by
  have hr' := right_iff.1 hr
  have e0 : ((a0.toNat : Nat) : Int) = a0 := by omega
  have e2 : ((a2.toNat : Nat) : Int) = a2 := by omega
  have eB : (((a5 + a7).toNat : Nat) : Int) = a5 + a7 := by omega
  obtain ⟨b1, b2⟩ := cnt_blocks hr x (a5 + a7).toNat (by omega)
  rw [eB] at b1 b2
  have s1 := cnt_slots (a2 := a2) x a2.toNat (by omega)
  have t1 := cnt_topics hr x a0.toNat (by omega)
  rw [e2] at s1
  rw [e0] at t1
  have m0 := mulB (x := a0) (y := 1 + 2 * a1) (X := 8) (Y := 65) (by omega) (by omega) (by omega) (by omega)
  have z0 : minV 0 a5 = 0 := by unfold minV; split <;> omega
  have z1 : minV (a5 + a7) a5 = a5 := by unfold minV; split <;> omega
  have at1 : atV a0 a1 a2 a4 a5 a6 1 = 5 + a2 + a0 + a0 * (1 + 2 * a1) := by rw [at_one, z0]; simp
  have atB : atV a0 a1 a2 a4 a5 a6 (a5 + a7 + 1) = sizeV a0 a1 a2 a4 a5 a6 a7 := by
    have q1 : a5 + a7 + 1 - 1 = a5 + a7 := by omega
    have q2 : a5 + a7 - a5 = a7 := by omega
    rw [atV, q1, z1, q2, sizeV]
  rw [allR, cnt_append, cnt_append, cnt_append, cnt_base, s1, t1, b1, atB, at1]
  rw [atB, at1] at b2
  generalize a0 * (1 + 2 * a1) = q at *
  generalize sizeV a0 a1 a2 a4 a5 a6 a7 = n at *
  unfold ind
  split <;> split <;> split <;> split <;> split <;> omega

theorem slots_good {m : Nat} (h : (m : Int) ≤ a2) : ∀ p ∈ slotsR a2 m, 5 ≤ p.1 ∧ p.2 = 1 ∧ p.1 + p.2 ≤ 5 + a2 := by
  intro p hp
  simp only [slotsR, List.mem_map, List.mem_range] at hp
  obtain ⟨k, hk, rfl⟩ := hp
  have e : slotV a2 k = 5 + k := by rw [slotV, if_pos (by omega)]
  show 5 ≤ slotV a2 k ∧ (1 : Int) = 1 ∧ slotV a2 k + 1 ≤ 5 + a2
  rw [e]
  refine ⟨by omega, rfl, by omega⟩
include hr in
theorem topics_good : ∀ m : Nat, (m : Int) ≤ a0 → ∀ p ∈ topicsR a0 a1 a2 m, 0 ≤ p.1 ∧ 0 ≤ p.2 ∧ p.1 + p.2 ≤ 5 + a2 + a0 + a0 * (1 + 2 * a1)
  | 0, _ => by simp [topicsR]
  | m + 1, h => by
    have hr' := right_iff.1 hr
    intro p hp
    rw [topicsR, List.mem_append] at hp
    rcases hp with hp | hp
    · exact topics_good m (by omega) p hp
    · have mb := mulB (x := (m : Int)) (y := 1 + 2 * a1) (X := 8) (Y := 65) (by omega) (by omega) (by omega) (by omega)
      have e1 : ((m : Int) + 1) * (1 + 2 * a1) = (m : Int) * (1 + 2 * a1) + (1 + 2 * a1) := by rw [Int.add_mul]; simp
      have e2 : ((m : Int) + 1) * (1 + 2 * a1) ≤ a0 * (1 + 2 * a1) := Int.mul_le_mul_of_nonneg_right (by omega) (by omega)
      have b0 : bufV a0 a1 a2 m 0 = 5 + a2 + a0 + m * (1 + 2 * a1) + 1 := by rw [bufV, if_pos (by omega)]; simp
      have b1 : bufV a0 a1 a2 m 1 = 5 + a2 + a0 + m * (1 + 2 * a1) + 1 + a1 := by rw [bufV, if_pos (by omega)]; simp
      have c0 : ctlV a0 a1 a2 m = 5 + a2 + a0 + m * (1 + 2 * a1) := by rw [ctlV, if_pos (by omega)]
      have n0 : entryV a0 a2 m = 5 + a2 + m := by rw [entryV, if_pos (by omega)]
      simp only [topicRow, List.mem_cons, List.mem_nil_iff, or_false, b0, b1, c0, n0] at hp
      rcases hp with rfl | rfl | rfl | rfl <;> simp only <;> omega
include hr in
theorem blocks_good : ∀ m : Nat, (m : Int) ≤ a5 + a7 → ∀ p ∈ blocksR a0 a1 a2 a4 a5 a6 a7 m, 0 ≤ p.1 ∧ 0 ≤ p.2 ∧ p.1 + p.2 ≤ atV a0 a1 a2 a4 a5 a6 ((m : Int) + 1)
  | 0, _ => by simp [blocksR]
  | m + 1, h => by
    have hr' := right_iff.1 hr
    intro p hp
    have hn := at_next (a0 := a0) (a1 := a1) (a2 := a2) (a4 := a4) (a6 := a6) (a5 := a5) (by omega) (j := ((m + 1 : Nat) : Int)) (by omega)
    have em : ((m : Int) + 1) = ((m + 1 : Nat) : Int) := by omega
    have hb := at_bound hr (j := ((m + 1 : Nat) : Int)) (by omega) (by omega)
    have hp' : 0 ≤ (if ((m + 1 : Nat) : Int) ≤ a5 then a4 else a6) := by split <;> omega
    rw [blocksR, List.mem_append] at hp
    rcases hp with hp | hp
    · have := blocks_good m (by omega) p hp
      rw [em] at this; omega
    · simp only [List.mem_cons, List.mem_nil_iff, or_false] at hp
      subst hp
      have eb : blockV a0 a1 a2 a4 a5 a6 a7 ((m + 1 : Nat) : Int) = atV a0 a1 a2 a4 a5 a6 ((m + 1 : Nat) : Int) := by rw [blockV, if_pos (by omega)]
      simp only [eb]; omega
include hr in
theorem all_good : ∀ p ∈ allR a0 a1 a2 a4 a5 a6 a7, 0 ≤ p.1 ∧ 0 ≤ p.2 ∧ p.1 + p.2 ≤ sizeV a0 a1 a2 a4 a5 a6 a7 := by
  have hr' := right_iff.1 hr
  have m0 := mulB (x := a0) (y := 1 + 2 * a1) (X := 8) (Y := 65) (by omega) (by omega) (by omega) (by omega)
  have m2 := mulB (x := a5) (y := 1 + a4) (X := 12) (Y := 97) (by omega) (by omega) (by omega) (by omega)
  have m3 := mulB (x := a7) (y := 1 + a6) (X := 12) (Y := 97) (by omega) (by omega) (by omega) (by omega)
  have z1 : minV (a5 + a7) a5 = a5 := by unfold minV; split <;> omega
  have atB : atV a0 a1 a2 a4 a5 a6 (a5 + a7 + 1) = sizeV a0 a1 a2 a4 a5 a6 a7 := by
    have q1 : a5 + a7 + 1 - 1 = a5 + a7 := by omega
    have q2 : a5 + a7 - a5 = a7 := by omega
    rw [atV, q1, z1, q2, sizeV]
  intro p hp
  simp only [allR, List.mem_append] at hp
  rcases hp with ((hp | hp) | hp) | hp
  · simp only [base5, List.mem_cons, List.mem_nil_iff, or_false] at hp
    have : 5 ≤ sizeV a0 a1 a2 a4 a5 a6 a7 := by unfold sizeV; omega
    rcases hp with rfl | rfl | rfl | rfl | rfl <;> simp only <;> omega
  · have := slots_good (a2 := a2) (m := a2.toNat) (by omega) p hp
    have : 5 + a2 ≤ sizeV a0 a1 a2 a4 a5 a6 a7 := by unfold sizeV; omega
    omega
  · have := topics_good hr a0.toNat (by omega) p hp
    have : 5 + a2 + a0 + a0 * (1 + 2 * a1) ≤ sizeV a0 a1 a2 a4 a5 a6 a7 := by unfold sizeV; omega
    omega
  · have := blocks_good hr (a5 + a7).toNat (by omega) p hp
    rw [show (((a5 + a7).toNat : Nat) : Int) + 1 = a5 + a7 + 1 from by omega, atB] at this
    exact this
end

/-! How often each word is counted, thing by thing. -/
def cover (N : Nat) (R : List (Int × Int)) (m : Nat) : List Int := (List.range N).map fun x => cnt (R.take m) x
def coverK (N : Nat) (R : List (Int × Int)) (m k : Nat) : List Int := (List.range N).map fun x => cnt (R.take m) x + ind (R.getD m (0, 0)).1 k x
theorem cover_zero (N : Nat) (R : List (Int × Int)) : cover N R 0 = List.replicate N 0 := by
  simp only [cover, List.take_zero, cnt]
  rw [List.map_const', List.length_range]
theorem coverK_zero (N : Nat) (R : List (Int × Int)) (m : Nat) : coverK N R m 0 = cover N R m := by
  simp only [coverK, cover]
  refine List.map_congr_left fun x _ => ?_
  rw [show ((0 : Nat) : Int) = 0 from rfl, ind_zero]; omega
theorem cover_succ (N : Nat) (R : List (Int × Int)) {m : Nat} (h : m < R.length) {k : Nat} (hk : (k : Int) = (R.getD m (0, 0)).2) : coverK N R m k = cover N R (m + 1) := by
  simp only [coverK, cover]
  refine List.map_congr_left fun x _ => ?_
  rw [List.take_add_one, cnt_append, List.getElem?_eq_getElem h]
  have : R.getD m (0, 0) = R[m] := by rw [List.getD_eq_getElem?_getD, List.getElem?_eq_getElem h]; rfl
  rw [hk, this]
  simp [cnt]
theorem coverK_get (N : Nat) (R : List (Int × Int)) (m k : Nat) {x : Nat} (h : x < N) : (coverK N R m k).getD x 0 = cnt (R.take m) x + ind (R.getD m (0, 0)).1 k x := by
  simp [coverK, List.getD_eq_getElem?_getD, h]
theorem coverK_set (N : Nat) (R : List (Int × Int)) (m k : Nat) {x : Nat} (hx : (x : Int) = (R.getD m (0, 0)).1 + k) (v : Int) (hv : v = (coverK N R m k).getD x 0 + 1) (hN : x < N) : (coverK N R m k).set x v = coverK N R m (k + 1) := by
  rw [coverK_get N R m k hN] at hv
  apply List.ext_getElem
  · simp [coverK]
  · intro i h1 h2
    simp [coverK] at h1 h2
    rw [List.getElem_set]
    simp only [coverK, List.getElem_map, List.getElem_range]
    by_cases e : x = i
    · subst e
      rw [if_pos rfl, hv]
      have : ind (R.getD m (0, 0)).1 ((k + 1 : Nat) : Int) x = 1 := by unfold ind; rw [if_pos (by omega)]
      have h3 : ind (R.getD m (0, 0)).1 (k : Int) x = 0 := by unfold ind; rw [if_neg (by omega)]
      omega
    · rw [if_neg e]
      have : ind (R.getD m (0, 0)).1 ((k + 1 : Nat) : Int) i = ind (R.getD m (0, 0)).1 (k : Int) i := by unfold ind; split <;> split <;> omega
      omega
theorem cover_length (N : Nat) (R : List (Int × Int)) (m : Nat) : (cover N R m).length = N := by simp [cover]
theorem coverK_length (N : Nat) (R : List (Int × Int)) (m k : Nat) : (coverK N R m k).length = N := by simp [coverK]
theorem flat_get (d : Int) : ∀ (R : List (Int × Int)) (m : Nat), m < R.length → (flat R).getD (m * 2) d = (R.getD m (0, 0)).1 ∧ (flat R).getD (m * 2 + 1) d = (R.getD m (0, 0)).2
  | [], m, h => by simp at h
  | p :: r, 0, _ => by simp [flat]
  | p :: r, m + 1, h => by
    have := flat_get d r m (by simpa using h)
    rw [show (m + 1) * 2 = m * 2 + 1 + 1 from by omega]
    simpa [flat] using this
end Go.Proofs.Ytbmjhlgkddhhnaa
