/- The directory's law, over three clients. -/
import Derived.Test.YtkkddjchkkaagaaGreatDoorStepLaw
namespace Go.Proofs.YtkkddjchkkaagaaGreatDoor
open Go Go.Hx
set_option maxRecDepth 8000
def okO {α : Type} (P : α → Prop) : Option α → Prop
  | none => True
  | some s => P s
theorem okO_mono {T : Nat} {R n m : Int} (h : n ≤ m) : ∀ {o : Option TS}, okO (TC T R n) o → okO (TC T R m) o
  | none, _ => trivial
  | some _, C => TC.mono C h
def cf3 (c0 c1 c2 : Option TS) : Nat → Option TS
  | 0 => c0
  | 1 => c1
  | 2 => c2
  | _ => none
theorem upd0 {c0 c1 c2 o : Option TS} : upd (cf3 c0 c1 c2) 0 o = cf3 o c1 c2 := by
  funext b
  rcases b with _ | _ | _ | b <;> simp [upd, cf3]
theorem upd1 {c0 c1 c2 o : Option TS} : upd (cf3 c0 c1 c2) 1 o = cf3 c0 o c2 := by
  funext b
  rcases b with _ | _ | _ | b <;> simp [upd, cf3]
theorem upd2 {c0 c1 c2 o : Option TS} : upd (cf3 c0 c1 c2) 2 o = cf3 c0 c1 o := by
  funext b
  rcases b with _ | _ | _ | b <;> simp [upd, cf3]
section
variable {T : Nat} {R n st : Int} {W : List Int} {c0 c1 c2 : Option TS}
theorem new_tok (B : BI T R n W st) {rm lg : Bool} {key : Int} (k1 : 1 ≤ key) (k6 : key ≤ 6) : TOK T (sfT T R) (newT rm lg key) := by
  have hs := sf_eq B.t1 B.t4 B.r1 B.r8 k1 k6
  unfold newT
  refine ⟨by dsimp only; omega, by dsimp only; omega, rfl, k1, k6, hs.2, fun _ => ⟨rfl, fun q => ?_⟩, fun q => by dsimp only at q; omega⟩
  dsimp only at q ⊢
  subst q
  rfl
theorem new_low (B : BI T R n W st) {c : Nat → Option TS} {a : Nat} {rm lg : Bool} {key : Int} (D : DInv T (sfT T R) W c) (hc : c a = none) (k1 : 1 ≤ key) (k6 : key ≤ 6) : DInv T (sfT T R) W (upd c a (some (newT rm lg key))) :=
  D.low (fun s q => by rw [hc] at q; cases q) (fun s q => by cases q; exact ⟨by unfold newT; dsimp only; omega, new_tok B k1 k6⟩)
/-- The keys of the places ahead of one. -/
def kyL (W : List Int) : Nat → Option (List Int)
  | 0 => none
  | p + 1 => if isK (W.getD (eP p) 0) then some ((match kyL W p with | none => [] | some l => l) ++ [W.getD (eP p) 0 / 4]) else kyL W p
end
end Go.Proofs.YtkkddjchkkaagaaGreatDoor
