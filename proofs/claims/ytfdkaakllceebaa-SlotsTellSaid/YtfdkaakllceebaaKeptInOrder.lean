/- Named blocks: a list that is kept in order. -/
import Derived.Test.YtfdkaakllceebaaNamedWalk
namespace Go.Proofs.Ytfdkaakllceebaa
open Go Go.Hx
set_option maxRecDepth 8000
/-- Where a key is put. -/
def insP : List Int → Int → Nat
  | [], _ => 0
  | x :: r, k => if x < k then insP r k + 1 else 0
def insD (l : List Int) (k : Int) : List Int := l.take (insP l k) ++ [k] ++ l.drop (insP l k)
theorem insP_le : ∀ {l : List Int} {k : Int}, insP l k ≤ l.length
  | [], _ => Nat.le_refl _
  | x :: r, k => by
    unfold insP
    split
    · have := insP_le (l := r) (k := k); simp; exact this
    · simp
theorem insP_at : ∀ {l : List Int} {k : Int} {j : Nat}, j ≤ insP l k → ((j < l.length ∧ l.getD j 0 < k) ↔ j < insP l k)
  | [], k, j, h => by simp [insP] at h ⊢
  | x :: r, k, 0, h => by
    unfold insP
    split
    · rename_i g; simp [g]
    · rename_i g; simp; omega
  | x :: r, k, j + 1, h => by
    unfold insP at h ⊢
    split at h
    · rename_i g
      rw [if_pos g]
      have := insP_at (l := r) (k := k) (j := j) (by omega)
      simp only [List.length_cons, List.getD_cons_succ]
      constructor
      · intro q; have := this.1 ⟨by omega, q.2⟩; omega
      · intro q; have := this.2 (by omega); exact ⟨by omega, this.2⟩
    · omega
theorem insD_cons {x k : Int} {r : List Int} : insD (x :: r) k = if x < k then x :: insD r k else k :: x :: r := by
  unfold insD
  by_cases g : x < k
  · simp [insP, g]
  · simp [insP, g]
theorem insD_nil {k : Int} : insD [] k = [k] := rfl
theorem insD_perm : ∀ (l : List Int) (k : Int), (insD l k).Perm (k :: l)
  | [], k => List.Perm.refl _
  | x :: r, k => by
    rw [insD_cons]
    split
    · exact ((insD_perm r k).cons x).trans (List.Perm.swap k x r)
    · exact List.Perm.refl _
theorem insD_Up : ∀ (l : List Int) (k : Int), Up l → Up (insD l k)
  | [], k, _ => by rw [insD_nil]; exact List.pairwise_singleton _ _
  | x :: r, k, h => by
    rw [insD_cons]
    obtain ⟨h1, h2⟩ := List.pairwise_cons.1 h
    split
    · rename_i g
      refine List.pairwise_cons.2 ⟨fun y hy => ?_, insD_Up r k h2⟩
      have := (insD_perm r k).mem_iff.1 hy
      rcases List.mem_cons.1 this with rfl | q
      · omega
      · exact h1 y q
    · rename_i g
      refine List.pairwise_cons.2 ⟨fun y hy => ?_, h⟩
      rcases List.mem_cons.1 hy with rfl | q
      · omega
      · have := h1 y q; omega
theorem ins_at {x : Int} : ∀ {l : List Int}, Up l → (x ∈ l ↔ insP l x < l.length ∧ l.getD (insP l x) 0 = x)
  | [], _ => by simp [insP]
  | y :: r, h => by
    obtain ⟨h1, h2⟩ := List.pairwise_cons.1 h
    have ih := ins_at (x := x) h2
    unfold insP
    by_cases g : y < x
    · rw [if_pos g, List.length_cons, List.getD_cons_succ]
      constructor
      · intro q
        rcases List.mem_cons.1 q with e | q
        · omega
        · obtain ⟨a, b⟩ := ih.1 q; exact ⟨by omega, b⟩
      · rintro ⟨a, b⟩
        exact List.mem_cons_of_mem _ (ih.2 ⟨by omega, b⟩)
    · rw [if_neg g]
      constructor
      · intro q
        refine ⟨Nat.zero_lt_succ _, ?_⟩
        rcases List.mem_cons.1 q with e | q
        · exact e.symm
        · have := h1 x q
          show y = x
          omega
      · rintro ⟨_, b⟩
        have b : y = x := b
        subst b
        exact List.mem_cons_self ..
/-- The named blocks by the first so many slots, in order. -/
def rN (W : List Int) (i : Nat) : List Int := srt (kN W i)
theorem rN_up {W : List Int} (i : Nat) : Up (rN W i) := srt_Up _
theorem rN_len {W : List Int} (i : Nat) : (rN W i).length ≤ i := by unfold rN; rw [srt_len]; exact kN_len i
theorem rN_mem {W : List Int} {i : Nat} {x : Int} : x ∈ rN W i ↔ x ∈ kN W i := (srt_perm _).mem_iff
theorem rN_no {W : List Int} {i : Nat} (h : okN (W.getD (5 + i) 0) = false) : rN W (i + 1) = rN W i := by unfold rN; rw [kN_succ, if_neg (by rw [h]; exact Bool.false_ne_true)]
theorem rN_in {W : List Int} {i : Nat} (h : blkV (W.getD (5 + i) 0) ∈ rN W i) : rN W (i + 1) = rN W i := by
  have h := rN_mem.1 h
  unfold rN
  rw [kN_succ, if_pos h, ite_self]
theorem rN_new {W : List Int} {i : Nat} (h : okN (W.getD (5 + i) 0) = true) (hn : ¬ blkV (W.getD (5 + i) 0) ∈ rN W i) : rN W (i + 1) = insD (rN W i) (blkV (W.getD (5 + i) 0)) := by
  have hn := fun q => hn (rN_mem.2 q)
  refine up_eq (rN_up _) (insD_Up _ _ (rN_up _)) ?_
  refine List.Perm.trans ?_ (insD_perm _ _).symm
  unfold rN
  rw [kN_succ, if_pos h, if_neg hn]
  exact ((srt_perm _).trans (List.perm_append_comm (l₁ := kN W i) (l₂ := [blkV (W.getD (5 + i) 0)]))).trans ((srt_perm (kN W i)).symm.cons _)
end Go.Proofs.Ytfdkaakllceebaa
