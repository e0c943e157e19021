/- Heads: what is free is what both lists have, rising: the plain law. -/
import Derived.Test.YtfdkaakllceebaaDoorFreeWalk
namespace Go.Proofs.YtfdkaakllceebaaDoor
open Go Go.Hx
set_option maxRecDepth 8000
theorem asc_eq : ∀ {l m : List Int}, l.Pairwise (· < ·) → m.Pairwise (· < ·) → (∀ x, x ∈ l ↔ x ∈ m) → l = m
  | [], [], _, _, _ => rfl
  | [], y :: m, _, _, h => absurd ((h y).2 (List.mem_cons_self ..)) (by simp)
  | x :: l, [], _, _, h => absurd ((h x).1 (List.mem_cons_self ..)) (by simp)
  | x :: l, y :: m, h1, h2, h => by
    obtain ⟨a1, a2⟩ := List.pairwise_cons.1 h1
    obtain ⟨b1, b2⟩ := List.pairwise_cons.1 h2
    have e : x = y := by
      rcases List.mem_cons.1 ((h x).1 (List.mem_cons_self ..)) with q | q
      · exact q
      · rcases List.mem_cons.1 ((h y).2 (List.mem_cons_self ..)) with r | r
        · exact r.symm
        · have := a1 y r; have := b1 x q; omega
    subst e
    rw [asc_eq a2 b2 fun z => ⟨fun hz => ?_, fun hz => ?_⟩]
    · rcases List.mem_cons.1 ((h z).1 (List.mem_cons_of_mem _ hz)) with q | q
      · have := a1 z hz; omega
      · exact q
    · rcases List.mem_cons.1 ((h z).2 (List.mem_cons_of_mem _ hz)) with q | q
      · have := b1 z hz; omega
      · exact q
theorem srt_asc {l : List Int} (h : l.Nodup) : (srt l).Pairwise (· < ·) := by
  have hn : (srt l).Nodup := (srt_perm l).nodup_iff.2 h
  rw [List.pairwise_iff_getElem]
  intro i j hi hj hij
  have h1 := srt_up (l := l) hij (by rw [srt_len] at hj; exact hj)
  rw [List.getD_eq_getElem?_getD, List.getElem?_eq_getElem hi, List.getD_eq_getElem?_getD, List.getElem?_eq_getElem hj] at h1
  simp only [Option.getD_some] at h1
  have h2 := (List.pairwise_iff_getElem.1 hn) i j hi hj hij
  omega
/-- The document's: which of 1 to n are there. -/
def rfO (l m : List Int) : Nat → Option (List Int)
  | 0 => none
  | i + 1 => if hasL l ((i + 1 : Nat) : Int) = true ∨ hasL m ((i + 1 : Nat) : Int) = true then some (lst (rfO l m i) ++ [((i + 1 : Nat) : Int)]) else rfO l m i
theorem rfO_mem {l m : List Int} {x : Int} : ∀ n, x ∈ lst (rfO l m n) ↔ (x ∈ l ∨ x ∈ m) ∧ 1 ≤ x ∧ x ≤ n
  | 0 => by simp [rfO, lst]; omega
  | n + 1 => by
    rw [rfO]
    have ih := rfO_mem (l := l) (m := m) (x := x) n
    split
    · rename_i h
      rw [hasL_iff, hasL_iff] at h
      show x ∈ lst (rfO l m n) ++ [((n + 1 : Nat) : Int)] ↔ _
      rw [List.mem_append, ih, List.mem_singleton]
      constructor
      · rintro (⟨q1, q2, q3⟩ | rfl)
        · exact ⟨q1, q2, by omega⟩
        · exact ⟨h, by omega, by omega⟩
      · rintro ⟨q1, q2, q3⟩
        by_cases e : x = ((n + 1 : Nat) : Int)
        · exact .inr e
        · exact .inl ⟨q1, q2, by omega⟩
    · rename_i h
      rw [hasL_iff, hasL_iff] at h
      rw [ih]
      constructor
      · rintro ⟨q1, q2, q3⟩; exact ⟨q1, q2, by omega⟩
      · rintro ⟨q1, q2, q3⟩
        refine ⟨q1, q2, ?_⟩
        by_cases e : x = ((n + 1 : Nat) : Int)
        · subst e; exact absurd q1 h
        · omega
theorem rfO_asc {l m : List Int} : ∀ n, (lst (rfO l m n)).Pairwise (· < ·)
  | 0 => by simp [rfO, lst]
  | n + 1 => by
    rw [rfO]
    split
    · show (lst (rfO l m n) ++ [((n + 1 : Nat) : Int)]).Pairwise _
      rw [List.pairwise_append]
      refine ⟨rfO_asc n, by simp, fun a ha b hb => ?_⟩
      have := (rfO_mem n).1 ha
      simp at hb
      omega
    · exact rfO_asc n
theorem rfO_none {l m : List Int} : ∀ n, rfO l m n = none ↔ lst (rfO l m n) = []
  | 0 => by simp [rfO, lst]
  | n + 1 => by
    rw [rfO]
    split
    · simp [lst]
    · exact rfO_none n
/-- What is free, as the document tells it. -/
def rfR (n : Nat) : HR → HR → HR
  | .ok o, .ok q => .ok (rfO (lst o) (lst q) n)
  | .ok _, .bad e p => .bad e p
  | .ok _, .code e => .code e
  | .bad e p, _ => .bad e p
  | .code e, _ => .code e
def wellO : HR → Bool
  | .ok (some []) => false
  | _ => true
theorem some_eq {l m : List Int} {n : Nat} {s : List Int} (hs : s ≠ []) (ha : s.Pairwise (· < ·)) (hm : ∀ x, x ∈ s ↔ (x ∈ l ∨ x ∈ m) ∧ 1 ≤ x ∧ x ≤ n) : rfO l m n = some s := by
  have e : lst (rfO l m n) = s := asc_eq (rfO_asc n) ha fun x => by rw [rfO_mem, hm]
  cases h : rfO l m n with
  | none => rw [h] at e; exact absurd e.symm hs
  | some t => rw [h] at e; exact congrArg some e
theorem free_eq {r0 r1 : HR} {n : Nat} (w0 : wellO r0 = true) (w1 : wellO r1 = true)
    (h0 : ∀ o, r0 = .ok o → (lst o).Nodup ∧ ∀ x ∈ lst o, 1 ≤ x ∧ x ≤ n) (h1 : ∀ o, r1 = .ok o → (lst o).Nodup ∧ ∀ x ∈ lst o, 1 ≤ x ∧ x ≤ n)
    (hd : ∀ o q, r0 = .ok o → r1 = .ok q → ∀ x ∈ lst o, x ∉ lst q) : frR r0 r1 = rfR n r0 r1 := by
  rcases r0 with (_ | l) | _ | _
  · rcases r1 with (_ | m) | _ | _
    · show HR.ok none = .ok (rfO [] [] n)
      rw [(rfO_none n).2 (List.eq_nil_iff_forall_not_mem.2 fun x hx => by have := (rfO_mem n).1 hx; simp at this)]
    · obtain ⟨a1, a2⟩ := h1 _ rfl
      have hm : m ≠ [] := by rintro rfl; simp [wellO] at w1
      show HR.ok (some (srt m)) = .ok (rfO [] m n)
      rw [some_eq (l := []) (m := m) (s := srt m) (fun e => hm (List.Perm.eq_nil (by rw [← e]; exact (srt_perm m).symm))) (srt_asc a1) fun x => by
        rw [(srt_perm m).mem_iff]
        exact ⟨fun h => ⟨.inr h, a2 x h⟩, fun h => h.1.resolve_left (by simp)⟩]
    · rfl
    · rfl
  · rcases r1 with (_ | m) | _ | _
    · obtain ⟨a1, a2⟩ := h0 _ rfl
      have hm : l ≠ [] := by rintro rfl; simp [wellO] at w0
      show HR.ok (some (srt l)) = .ok (rfO l [] n)
      rw [some_eq (l := l) (m := []) (s := srt l) (fun e => hm (List.Perm.eq_nil (by rw [← e]; exact (srt_perm l).symm))) (srt_asc a1) fun x => by
        rw [(srt_perm l).mem_iff]
        exact ⟨fun h => ⟨.inl h, a2 x h⟩, fun h => h.1.resolve_right (by simp)⟩]
    · obtain ⟨a1, a2⟩ := h0 _ rfl
      obtain ⟨b1, b2⟩ := h1 _ rfl
      have hm : l ≠ [] := by rintro rfl; simp [wellO] at w0
      have hnd : (l ++ m).Nodup := List.nodup_append.2 ⟨a1, b1, fun x hx y hy e => hd _ _ rfl rfl x hx (by rw [e]; exact hy)⟩
      show HR.ok (some (srt (l ++ m))) = .ok (rfO l m n)
      rw [some_eq (l := l) (m := m) (s := srt (l ++ m)) (fun e => hm (List.append_eq_nil_iff.1 (List.Perm.eq_nil (by rw [← e]; exact (srt_perm (l ++ m)).symm))).1) (srt_asc hnd) fun x => by
        rw [(srt_perm (l ++ m)).mem_iff, List.mem_append]
        exact ⟨fun h => ⟨h, h.elim (a2 x) (b2 x)⟩, fun h => h.1⟩]
    · rfl
    · rfl
  · rcases r1 with (_ | _) | _ | _ <;> rfl
  · rcases r1 with (_ | _) | _ | _ <;> rfl
variable {a0 a1 a2 a3 a4 a5 a6 a7 a8 c : Int} {W : List Int}
theorem hl_well : ∀ {n : Nat} {p : Int} {o : Option (List Int)}, wellO (.ok o) = true → wellO (hlF a0 a1 a2 a4 a5 a6 a7 c W n p o) = true
  | 0, _, _, h => h
  | n + 1, p, o, h => by
    rw [hlF]
    split
    · exact h
    split
    · rfl
    split
    · rfl
    refine hl_well ?_
    cases o with
    | none => rfl
    | some l => cases l <;> rfl
theorem hs_well {n : Nat} {r : HR} (h : hsR a0 a1 a2 a3 a4 a5 a6 a7 a8 c n W = r) : wellO r = true := by
  rcases hs_split h with ⟨_, rfl⟩ | ⟨_, _, _, _, rfl⟩ | ⟨_, _, _, rfl, _⟩
  · rfl
  · rfl
  · exact hl_well rfl
theorem class_in {b : Int} (h : classV a5 a7 b = c) (hc : 0 ≤ c) : 1 ≤ b ∧ b ≤ a5 + a7 := class_there h hc
/-- Both are the same. -/
theorem free_hs {n0 n1 : Nat} {r0 r1 : HR} (h5 : 0 ≤ a5 + a7) (e0 : hsR a0 a1 a2 a3 a4 a5 a6 a7 a8 0 n0 W = r0) (e1 : hsR a0 a1 a2 a3 a4 a5 a6 a7 a8 1 n1 W = r1) : frR r0 r1 = rfR (a5 + a7).toNat r0 r1 := by
  refine free_eq (hs_well e0) (hs_well e1) (fun o q => ?_) (fun o q => ?_) fun o q q0 q1 x h0 h1 => ?_
  · obtain ⟨d1, d2, _⟩ := hs_told (e0.trans q)
    exact ⟨d1, fun x hx => by have := class_in (d2 x hx) (by decide); omega⟩
  · obtain ⟨d1, d2, _⟩ := hs_told (e1.trans q)
    exact ⟨d1, fun x hx => by have := class_in (d2 x hx) (by decide); omega⟩
  · have a := (hs_told (e0.trans q0)).2.1 x h0
    have b := (hs_told (e1.trans q1)).2.1 x h1
    rw [a] at b
    omega
end Go.Proofs.YtfdkaakllceebaaDoor
