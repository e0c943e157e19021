/- The directory's law, over three clients. -/
import Derived.Test.YtkkddjchkkaagaaGreatDoorStepLaw
namespace Go.Proofs.YtkkddjchkkaagaaGreatDoor
open Go Go.Hx
set_option maxRecDepth 8000
def okO {α : Type} (P : α → Prop) : Option α → Prop
  | none => True
  | some s => P s
theorem okO_mono {T : Nat} {R n m : Int} (h : n ≤ m) : ∀ {o : Option TS}, okO (TC T R n) o → okO (TC T R m) o
  | none, _ => trivial
  | some _, C => TC.mono C h
def cf3 (c0 c1 c2 : Option TS) : Nat → Option TS
  | 0 => c0
  | 1 => c1
  | 2 => c2
  | _ => none
theorem upd0 {c0 c1 c2 o : Option TS} : upd (cf3 c0 c1 c2) 0 o = cf3 o c1 c2 := by
  funext b
  rcases b with _ | _ | _ | b <;> simp [upd, cf3]
theorem upd1 {c0 c1 c2 o : Option TS} : upd (cf3 c0 c1 c2) 1 o = cf3 c0 o c2 := by
  funext b
  rcases b with _ | _ | _ | b <;> simp [upd, cf3]
theorem upd2 {c0 c1 c2 o : Option TS} : upd (cf3 c0 c1 c2) 2 o = cf3 c0 c1 o := by
  funext b
  rcases b with _ | _ | _ | b <;> simp [upd, cf3]
def hdO (o : Option TS) : Bool := match o with | none => false | some s => s.hd
section
variable {T : Nat} {R n st : Int} {W : List Int} {c0 c1 c2 : Option TS}
theorem new_tok (B : BI T R n W st) {rm lg : Bool} {key : Int} (k1 : 1 ≤ key) (k6 : key ≤ 6) : TOK T (sfT T R) (newT rm lg key) := by
  have hs := sf_eq B.t1 B.t4 B.r1 B.r8 k1 k6
  unfold newT
  refine ⟨by dsimp only; omega, by dsimp only; omega, rfl, k1, k6, hs.2, fun _ => ⟨rfl, fun q => ?_⟩, fun q => by dsimp only at q; omega⟩
  dsimp only at q ⊢
  subst q
  rfl
theorem new_low (B : BI T R n W st) {c : Nat → Option TS} {a : Nat} {rm lg : Bool} {key : Int} (D : DInv T (sfT T R) W c) (hc : c a = none) (k1 : 1 ≤ key) (k6 : key ≤ 6) : DInv T (sfT T R) W (upd c a (some (newT rm lg key))) :=
  D.low (fun s q => by rw [hc] at q; cases q) (fun s q => by cases q; exact ⟨by unfold newT; dsimp only; omega, new_tok B k1 k6⟩)
theorem hd_ph {c : Nat → Option TS} {a : Nat} {s : TS} (D : DInv T (sfT T R) W c) (h : c a = some s) : s.hd = true ↔ 3 ≤ s.ph := by
  rw [(D.ok a s h).hd]
  exact decide_eq_true_iff
theorem hold1 (D : DInv T (sfT T R) W (cf3 c0 c1 c2)) : b2 (hdO c0) + b2 (hdO c1) + b2 (hdO c2) ≤ 1 ∧ W.getD 2 0 % 2 = b2 (hdO c0) + b2 (hdO c1) + b2 (hdO c2) := by
  have ex : ∀ a b, a ≠ b → hdO (cf3 c0 c1 c2 a) = true → hdO (cf3 c0 c1 c2 b) = true → False := by
    intro a b hab h1 h2
    rcases e1 : cf3 c0 c1 c2 a with _ | s
    · rw [e1] at h1; cases h1
    · rcases e2 : cf3 c0 c1 c2 b with _ | t
      · rw [e2] at h2; cases h2
      · rw [e1] at h1; rw [e2] at h2
        exact hab (D.un a b s t e1 e2 ((hd_ph D e1).1 h1) ((hd_ph D e2).1 h2))
  have od : W.getD 2 0 % 2 = 1 ↔ (hdO c0 = true ∨ hdO c1 = true ∨ hdO c2 = true) := by
    rw [D.od]
    constructor
    · rintro ⟨a, s, e, g⟩
      have h := (hd_ph D e).2 g
      rcases a with _ | _ | _ | a
      · have e : c0 = some s := e
        exact .inl (by rw [e]; exact h)
      · have e : c1 = some s := e
        exact .inr (.inl (by rw [e]; exact h))
      · have e : c2 = some s := e
        exact .inr (.inr (by rw [e]; exact h))
      · cases e
    · have go : ∀ a, hdO (cf3 c0 c1 c2 a) = true → ∃ a s, cf3 c0 c1 c2 a = some s ∧ 3 ≤ s.ph := fun a h => by
        rcases e : cf3 c0 c1 c2 a with _ | s
        · rw [e] at h; cases h
        · rw [e] at h; exact ⟨a, s, e, (hd_ph D e).1 h⟩
      rintro (h | h | h)
      · exact go 0 h
      · exact go 1 h
      · exact go 2 h
  have e01 := ex 0 1 (by decide)
  have e02 := ex 0 2 (by decide)
  have e12 := ex 1 2 (by decide)
  simp only [cf3] at e01 e02 e12
  have m2 := Int.emod_nonneg (W.getD 2 0) (show (2 : Int) ≠ 0 by decide)
  have m3 := Int.emod_lt_of_pos (W.getD 2 0) (show (0 : Int) < 2 by decide)
  rcases h0 : hdO c0 with _ | _ <;> rcases h1 : hdO c1 with _ | _ <;> rcases h2 : hdO c2 with _ | _ <;> simp [h0, h1, h2] at e01 e02 e12 od <;> simp [b2] <;> omega
/-- The keys of the places ahead of one. -/
def kyL (W : List Int) : Nat → Option (List Int)
  | 0 => none
  | p + 1 => if isK (W.getD (eP p) 0) then some ((match kyL W p with | none => [] | some l => l) ++ [W.getD (eP p) 0 / 4]) else kyL W p
theorem kyL_len {W : List Int} : ∀ {p : Nat} {l : List Int}, kyL W p = some l → l.length ≤ p
  | 0, l, h => by cases h
  | p + 1, l, h => by
    unfold kyL at h
    split at h
    · cases h
      rcases e : kyL W p with _ | l'
      · simp
      · have := kyL_len e
        simp
        exact this
    · have := kyL_len h
      omega
theorem kyL_mem {W : List Int} {k : Int} : ∀ {p : Nat} {l : List Int}, kyL W p = some l → k ∈ l → ∃ q, q < p ∧ isK (W.getD (eP q) 0) = true ∧ W.getD (eP q) 0 / 4 = k
  | 0, l, h, _ => by cases h
  | p + 1, l, h, hk => by
    unfold kyL at h
    split at h
    · rename_i hK
      cases h
      rw [List.mem_append, List.mem_singleton] at hk
      rcases hk with hk | hk
      · rcases e : kyL W p with _ | l'
        · rw [e] at hk; cases hk
        · rw [e] at hk
          obtain ⟨q, a, b⟩ := kyL_mem e hk
          exact ⟨q, by omega, b⟩
      · exact ⟨p, by omega, hK, hk.symm⟩
    · obtain ⟨q, a, b⟩ := kyL_mem h hk
      exact ⟨q, by omega, b⟩
theorem kyL_not {sf : Int → Nat} (D : DE T sf W) {p : Nat} (hp : p < T) (hk : isK (W.getD (eP p) 0) = true) {l : List Int} (h : kyL W p = some l) : hasL l (W.getD (eP p) 0 / 4) = false := by
  rcases e : hasL l (W.getD (eP p) 0 / 4) with _ | _
  · rfl
  · obtain ⟨q, a, b, c⟩ := kyL_mem h (hasL_iff.1 e)
    have := D.u q p (by omega) hp b hk c
    omega
/-- If nobody holds it, an entry is a key's just if its control word is Live. -/
theorem live0 (D : DInv T (sfT T R) W (cf3 c0 c1 c2)) (h : b2 (hdO c0) + b2 (hdO c1) + b2 (hdO c2) = 0) {p : Nat} (hp : p < T) : isK (W.getD (eP p) 0) = liW (W.getD (cP T p) 0) := by
  rcases D.lv p hp with ⟨a, s, e, g, _⟩ | e
  · exfalso
    have od := D.od.2 ⟨a, s, e, by omega⟩
    have := (hold1 D).2
    omega
  · exact e
end
end Go.Proofs.YtkkddjchkkaagaaGreatDoor
