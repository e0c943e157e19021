/- FindPlays: the law: the document's runs tell what the program's tell. -/
import Derived.Test.YtkkddjchkkaagaaGreatDoorDocList
namespace Go.Proofs.YtkkddjchkkaagaaGreatDoor
open Go Go.Hx
set_option maxRecDepth 8000
/-! A list in order. -/
abbrev Up (l : List Int) : Prop := l.Pairwise (· ≤ ·)
theorem srt_Up (l : List Int) : Up (srt l) := List.pairwise_iff_getElem.2 fun i j hi hj h => by
  have := srt_up (l := l) h (by rw [srt_len] at hj; exact hj)
  rwa [List.getD_eq_getElem?_getD, List.getD_eq_getElem?_getD, List.getElem?_eq_getElem hi, List.getElem?_eq_getElem hj] at this
theorem up_eq {a b : List Int} (ha : Up a) (hb : Up b) (h : a.Perm b) : a = b := List.Perm.eq_of_pairwise (fun _ _ _ _ h1 h2 => by omega) ha hb h
theorem insD_cons {x k : Int} {r : List Int} : insD (x :: r) k = if x < k then x :: insD r k else k :: x :: r := by
  unfold insD
  by_cases g : x < k
  · simp [insP, g]
  · simp [insP, g]
theorem insD_nil {k : Int} : insD [] k = [k] := rfl
theorem insD_perm : ∀ (l : List Int) (k : Int), (insD l k).Perm (k :: l)
  | [], k => List.Perm.refl _
  | x :: r, k => by
    rw [insD_cons]
    split
    · exact ((insD_perm r k).cons x).trans (List.Perm.swap k x r)
    · exact List.Perm.refl _
theorem insD_Up : ∀ (l : List Int) (k : Int), Up l → Up (insD l k)
  | [], k, _ => by rw [insD_nil]; exact List.pairwise_singleton _ _
  | x :: r, k, h => by
    rw [insD_cons]
    obtain ⟨h1, h2⟩ := List.pairwise_cons.1 h
    split
    · rename_i g
      refine List.pairwise_cons.2 ⟨fun y hy => ?_, insD_Up r k h2⟩
      have := (insD_perm r k).mem_iff.1 hy
      rcases List.mem_cons.1 this with rfl | q
      · omega
      · exact h1 y q
    · rename_i g
      refine List.pairwise_cons.2 ⟨fun y hy => ?_, h⟩
      rcases List.mem_cons.1 hy with rfl | q
      · omega
      · have := h1 y q; omega
/-- What the document's list is of the program's. -/
structure DLI (T : Nat) (s : LS) (dL : Option (List Int)) (de : Int) : Prop where
  up : Up (lst dL)
  pm : (lst dL).Perm (lst s.told)
  no : dL = none ↔ s.told = none
  e0 : de = 0
  er : s.er = 0
  ti : s.ph = 2 → s.i < T
  tl : (lst s.told).length ≤ s.i
  t8 : s.i ≤ T
theorem DLI.srt {T : Nat} {s : LS} {dL : Option (List Int)} {de : Int} (h : DLI T s dL de) : srt (lst s.told) = lst dL :=
  up_eq (srt_Up _) h.up ((srt_perm _).trans h.pm.symm)
theorem up_nil : Up [] := List.Pairwise.nil
section
variable {T : Nat} {R : Int} {start : Nat} {W : List Int} {st : Int}
theorem dli_lost {s : LS} {dL : Option (List Int)} {de : Int} (e0 : de = 0) (hi : s.i ≤ T) (hd : dL = none) :
    ((lFail R s).ph ≠ 0 → DLI T (lFail R s) dL (lostE R s.fd de)) ∧ ((lFail R s).ph = 0 → (lFail R s).told = none ∧ dL = none ∧ lostE R s.fd de = (lFail R s).er ∧ (lFail R s).er = 17) := by
  subst hd
  unfold lFail lostE
  split
  · exact ⟨fun q => absurd rfl q, fun _ => ⟨rfl, rfl, rfl, rfl⟩⟩
  · refine ⟨fun _ => ⟨up_nil, List.Perm.refl _, Iff.rfl, e0, rfl, fun q => absurd q (by dsimp only; omega), ?_, hi⟩, fun q => absurd q (by dsimp only; omega)⟩
    show (lst none).length ≤ _
    exact Nat.zero_le _
/-- Each step keeps it; when it is done, both say the same. -/
theorem dli_step {s : LS} {dL : Option (List Int)} {de : Int} (t1 : 1 ≤ T) (p1 : s.ph = 1 ∨ s.ph = 2 ∨ s.ph = 4) (h : DLI T s dL de) :
    ((lStep T R s W st).s.ph ≠ 0 → DLI T (lStep T R s W st).s (dLF s W dL) (deL R s W de)) ∧
    ((lStep T R s W st).s.ph = 0 → (dLF s W dL = none ↔ (lStep T R s W st).s.told = none) ∧ deL R s W de = (lStep T R s W st).s.er ∧
      (((lStep T R s W st).s.er = 0 ∧ srt (lst (lStep T R s W st).s.told) = lst (dLF s W dL) ∧ (lst (lStep T R s W st).s.told).length ≤ T) ∨ ((lStep T R s W st).s.er = 17 ∧ dLF s W dL = none))) := by
  have hs := h.srt
  obtain ⟨up, pm, no, e0, er, ti, tl, t8⟩ := h
  rcases p1 with e | e | e
  · have d1 : dLF s W dL = none := by unfold dLF; rw [if_pos e]
    unfold lStep deL
    rw [if_pos e, if_pos e, d1]
    dsimp only
    by_cases g : W.getD 2 0 % 2 = 1
    · rw [if_pos g, if_pos g]
      obtain ⟨a, b⟩ := dli_lost (T := T) (R := R) (s := ⟨2, W.getD 2 0, 0, s.fd, none, 0, s.tm⟩) (dL := none) e0 (Nat.zero_le _) rfl
      exact ⟨a, fun q => by obtain ⟨b1, b2, b3, b4⟩ := b q; exact ⟨⟨fun _ => b1, fun _ => rfl⟩, b3, .inr ⟨b4, rfl⟩⟩⟩
    · rw [if_neg g, if_neg g]
      exact ⟨fun _ => ⟨up_nil, List.Perm.refl _, Iff.rfl, e0, rfl, fun _ => t1, Nat.zero_le _, Nat.zero_le _⟩, fun q => absurd q (by dsimp only; omega)⟩
  · have hi := ti e
    have n1 : ¬ s.ph = 1 := by omega
    have n4 : ¬ s.ph = 4 := by omega
    have d2 : deL R s W de = de := by unfold deL; rw [if_neg n1, if_neg n4]
    rw [d2]
    unfold lStep dLF
    rw [if_neg n1, if_pos e, if_neg n1, if_pos e]
    dsimp only
    by_cases hK : isK (W.getD (fP s.i) 0) = true
    · rw [if_pos hK, if_pos hK]
      refine ⟨fun _ => ⟨insD_Up _ _ up, ?_, ⟨fun q => (by cases q), fun q => (by cases q)⟩, e0, er, ?_, ?_, by dsimp only; omega⟩, fun q => ?_⟩
      · refine (insD_perm _ _).trans ((List.Perm.cons _ pm).trans ?_)
        exact (List.perm_append_comm (l₁ := [W.getD (fP s.i) 0 / 4]) (l₂ := lst s.told))
      · dsimp only; intro q; split at q <;> omega
      · show (lst s.told ++ [W.getD (fP s.i) 0 / 4]).length ≤ s.i + 1
        simp; omega
      · split at q <;> omega
    · rw [if_neg hK, if_neg hK]
      refine ⟨fun _ => ⟨up, pm, no, e0, er, ?_, by dsimp only; omega, by dsimp only; omega⟩, fun q => ?_⟩
      · dsimp only; intro q; split at q <;> omega
      · split at q <;> omega
  · have n1 : ¬ s.ph = 1 := by omega
    have n2 : ¬ s.ph = 2 := by omega
    unfold lStep dLF deL
    rw [if_neg n1, if_neg n2, if_neg n1, if_neg n2, if_neg n1, if_pos e]
    dsimp only
    by_cases g : W.getD 2 0 = s.seq
    · rw [if_pos g, if_pos g, if_pos g]
      exact ⟨fun q => absurd rfl q, fun _ => ⟨no, by rw [e0]; exact er.symm, .inl ⟨er, hs, by dsimp only; omega⟩⟩⟩
    · rw [if_neg g, if_neg g, if_neg g]
      obtain ⟨a, b⟩ := dli_lost (T := T) (R := R) (s := ⟨0, s.seq, s.i, s.fd, s.told, s.er, st + 1⟩) (dL := none) e0 t8 rfl
      exact ⟨a, fun q => by obtain ⟨b1, b2, b3, b4⟩ := b q; exact ⟨⟨fun _ => b1, fun _ => rfl⟩, b3, .inr ⟨b4, rfl⟩⟩⟩
/-! Of the run that finds. -/
def ZF0 (s : FS) : Prop := s.pl = 0 ∧ s.ep = 0 ∧ s.lg = false
structure DFI (s : FS) (dp de : Int) : Prop where
  z1 : s.ph = 1 ∨ s.ph = 2 → ZF0 s
  z2 : s.er = 12 → ZF0 s
  e0 : de = 0
  e1 : s.er = 0 ∨ (s.er = 12 ∧ s.ph = 4)
  d2 : s.ph = 2 → dp = -1
  d3 : s.ph = 3 → dp = s.pl
  d4 : s.ph = 4 → (s.er = 12 ↔ dp < 0)
theorem dfi_lost {s : FS} {dp de : Int} (e0 : de = 0) :
    ((fFail R s).ph ≠ 0 → DFI (fFail R s) dp (lostE R s.fd de)) ∧ ((fFail R s).ph = 0 → lostE R s.fd de = (fFail R s).er ∧ (fFail R s).er = 17 ∧ ZF0 (fFail R s)) := by
  unfold fFail lostE
  split
  · exact ⟨fun q => absurd rfl q, fun _ => ⟨rfl, rfl, rfl, rfl, rfl⟩⟩
  · refine ⟨fun _ => ⟨fun _ => ⟨rfl, rfl, rfl⟩, fun _ => ⟨rfl, rfl, rfl⟩, e0, .inl rfl, fun q => absurd q (by (try dsimp only); omega), fun q => absurd q (by (try dsimp only); omega), fun q => absurd q (by (try dsimp only); omega)⟩, fun q => absurd q (by (try dsimp only); omega)⟩
/-- Each step keeps it; when it is done, both say the same. -/
theorem dfi_step {s : FS} {dp de : Int} (p1 : 1 ≤ s.ph) (p4 : s.ph ≤ 4) (h : DFI s dp de) (hp3 : s.ph = 3 → 0 ≤ s.pl) :
    ((fStep T R start s W st).s.ph ≠ 0 → DFI (fStep T R start s W st).s (dpF T start s W dp) (deF R s W dp de)) ∧
    ((fStep T R start s W st).s.ph = 0 → deF R s W dp de = (fStep T R start s W st).s.er ∧ ((fStep T R start s W st).s.er = 0 ∨ (fStep T R start s W st).s.er = 12 ∨ (fStep T R start s W st).s.er = 17) ∧ (¬ (fStep T R start s W st).s.er = 0 → ZF0 (fStep T R start s W st).s)) := by
  obtain ⟨z1, z2, e0, e1, d2, d3, d4⟩ := h
  have hp : s.ph = 1 ∨ s.ph = 2 ∨ s.ph = 3 ∨ s.ph = 4 := by omega
  rcases hp with e | e | e | e
  · have d1 : dpF T start s W dp = -1 := by unfold dpF; rw [if_pos e]
    unfold fStep deF
    rw [if_pos e, if_pos e, d1]
    dsimp only
    by_cases g : W.getD 2 0 % 2 = 1
    · rw [if_pos g, if_pos g]
      obtain ⟨a, b⟩ := dfi_lost (R := R) (s := ⟨s.key, 2, W.getD 2 0, 0, s.fd, 0, 0, false, 0, s.tm⟩) (dp := -1) e0
      exact ⟨a, fun q => by obtain ⟨b1, b2, b3⟩ := b q; exact ⟨b1, .inr (.inr b2), fun _ => b3⟩⟩
    · rw [if_neg g, if_neg g]
      exact ⟨fun _ => ⟨fun _ => ⟨rfl, rfl, rfl⟩, fun _ => ⟨rfl, rfl, rfl⟩, e0, .inl rfl, fun _ => rfl, fun q => absurd q (by (try dsimp only); omega), fun q => absurd q (by (try dsimp only); omega)⟩, fun q => absurd q (by (try dsimp only); omega)⟩
  · have n1 : ¬ s.ph = 1 := by omega
    have n4 : ¬ s.ph = 4 := by omega
    have zz := z1 (.inr e)
    have er0 : s.er = 0 := by rcases e1 with q | q; exact q; exact absurd q.2 n4
    have dd := d2 e
    have de2 : deF R s W dp de = de := by unfold deF; rw [if_neg n1, if_neg n4]
    rw [de2]
    unfold fStep
    rw [if_neg n1, if_pos e]
    dsimp only
    by_cases hK : isK (W.getD (fP (fPl T start s.i)) 0) = true ∧ W.getD (fP (fPl T start s.i)) 0 / 4 = s.key
    · have d1 : dpF T start s W dp = (fPl T start s.i : Int) := by unfold dpF; rw [if_neg n1, if_pos ⟨e, hK⟩]
      rw [d1, if_pos hK]
      exact ⟨fun _ => ⟨fun q => absurd q (by (try dsimp only); omega), fun q => absurd q (by (try dsimp only); omega), e0, .inl er0, fun q => absurd q (by (try dsimp only); omega), fun _ => rfl, fun q => absurd q (by (try dsimp only); omega)⟩, fun q => absurd q (by (try dsimp only); omega)⟩
    · have d1 : dpF T start s W dp = dp := by unfold dpF; rw [if_neg n1, if_neg (fun q => hK q.2)]
      rw [d1, if_neg hK]
      split
      · exact ⟨fun _ => ⟨fun q => absurd q (by (try dsimp only); omega), fun _ => zz, e0, .inr ⟨rfl, rfl⟩, fun q => absurd q (by (try dsimp only); omega), fun q => absurd q (by (try dsimp only); omega), fun _ => ⟨fun _ => by omega, fun _ => rfl⟩⟩, fun q => absurd q (by (try dsimp only); omega)⟩
      · exact ⟨fun _ => ⟨fun _ => zz, fun _ => zz, e0, .inl er0, fun _ => dd, fun q => absurd q (by (try dsimp only); omega), fun q => absurd q (by (try dsimp only); omega)⟩, fun q => absurd q (by (try dsimp only); omega)⟩
  · have n1 : ¬ s.ph = 1 := by omega
    have n2 : ¬ s.ph = 2 := by omega
    have n4 : ¬ s.ph = 4 := by omega
    have er0 : s.er = 0 := by rcases e1 with q | q; exact q; exact absurd q.2 n4
    have h3 := hp3 e
    have dd := d3 e
    have de2 : deF R s W dp de = de := by unfold deF; rw [if_neg n1, if_neg n4]
    have d1 : dpF T start s W dp = dp := by unfold dpF; rw [if_neg n1, if_neg (fun q => n2 q.1)]
    rw [de2, d1]
    unfold fStep
    rw [if_neg n1, if_neg n2, if_pos e]
    dsimp only
    exact ⟨fun _ => ⟨fun q => absurd q (by (try dsimp only); omega), fun q => absurd q (by (try dsimp only); omega), e0, .inl er0, fun q => absurd q (by (try dsimp only); omega), fun q => absurd q (by (try dsimp only); omega), fun _ => ⟨fun q => absurd q (by (try dsimp only); omega), fun q => absurd q (by omega)⟩⟩, fun q => absurd q (by (try dsimp only); omega)⟩
  · have n1 : ¬ s.ph = 1 := by omega
    have n2 : ¬ s.ph = 2 := by omega
    have n3 : ¬ s.ph = 3 := by omega
    have dd := d4 e
    have d1 : dpF T start s W dp = dp := by unfold dpF; rw [if_neg n1, if_neg (fun q => n2 q.1)]
    rw [d1]
    unfold fStep deF
    rw [if_neg n1, if_neg n2, if_neg n3, if_neg n1, if_pos e]
    dsimp only
    by_cases g : W.getD 2 0 = s.seq
    · rw [if_pos g, if_pos g]
      refine ⟨fun q => absurd rfl q, fun _ => ⟨?_, ?_, fun q => ?_⟩⟩
      · show (if dp < 0 then 12 else de) = s.er
        by_cases hd : dp < 0
        · rw [if_pos hd]; exact (dd.2 hd).symm
        · rw [if_neg hd, e0]
          rcases e1 with q | q
          · exact q.symm
          · exact absurd (dd.1 q.1) hd
      · rcases e1 with q | q
        · exact .inl q
        · exact .inr (.inl q.1)
      · rcases e1 with q2 | q2
        · exact absurd q2 q
        · exact z2 q2.1
    · rw [if_neg g, if_neg g]
      obtain ⟨a, b⟩ := dfi_lost (R := R) (s := ⟨s.key, 0, s.seq, s.i, s.fd, s.pl, s.ep, s.lg, s.er, st + 1⟩) (dp := dp) e0
      exact ⟨a, fun q => by obtain ⟨b1, b2, b3⟩ := b q; exact ⟨b1, .inr (.inr b2), fun _ => b3⟩⟩
end
end Go.Proofs.YtkkddjchkkaagaaGreatDoor

/- FindPlays: two lists compared. -/
namespace Go.Proofs.YtkkddjchkkaagaaGreatDoor
open Go Go.Hx
set_option maxRecDepth 8000
theorem take_succ_eq {A B : List Int} {i : Nat} (ha : i < A.length) (hb : i < B.length) (h : A.take i = B.take i) (he : A.getD i 0 = B.getD i 0) : A.take (i + 1) = B.take (i + 1) := by
  rw [List.take_add_one, List.take_add_one, h]
  have e1 : A[i]? = some (A.getD i 0) := by rw [List.getD_eq_getElem?_getD, List.getElem?_eq_getElem ha]; rfl
  have e2 : B[i]? = some (B.getD i 0) := by rw [List.getD_eq_getElem?_getD, List.getElem?_eq_getElem hb]; rfl
  rw [e1, e2, he]
def sqT (A B : List Int) : Nat → List (Nat × SV)
  | i => [(0, .sbuf 0 1 0 A.length), (1, .sbuf 1 1 0 B.length), (5, .int .i64 (i : Int))]
theorem sq_fn (A B : List Int) (hA : A.length < 1000000) (_hB : B.length < 1000000) : Gives Tryz.prog 47 [.sbuf 0 1 0 A.length, .sbuf 1 1 0 B.length] [IB A, IB B] (Is (.bool (decide (A = B))) [IB A, IB B]) := by
  refine gives_x hXDl (fn := Tryz.f47) rfl rfl rfl rfl fun ρ w => ?_
  by_cases hl : A.length = B.length
  · refine sxb hXDl [.l] [.F] 400 rfl (by simp [conjP, hl]) ?_
    refine ss_sub hXDl (T' := sqT A B 0) (H' := [IB A, IB B]) [0, 1] rfl rfl rfl rfl (by (repeat' (first | exact rfl | exact trivial | exact sim_refl _ | refine And.intro ?_ ?_))) (by (repeat' (first | exact rfl | exact trivial | exact sim_refl _ | refine And.intro ?_ ?_))) (by (repeat' (first | exact rfl | exact trivial | exact sim_refl _ | refine And.intro ?_ ?_))) (by (repeat' (first | exact rfl | exact trivial | exact sim_refl _ | refine And.intro ?_ ?_))) ?_
    refine ss_loop hXDl (sqT A B) (fun _ => [IB A, IB B]) (fun i => i ≤ A.length ∧ A.take i = B.take i) (fun i => A.length - i) 0 ⟨Nat.zero_le _, by simp⟩ ?_
    rintro i ⟨hi, ht⟩ I back
    by_cases hi2 : i < A.length
    · have hi3 : i < B.length := by omega
      by_cases he : A.getD i 0 = B.getD i 0
      · refine sx hXDl [] 400 rfl (by (simp [-List.getD_eq_getElem?_getD, -List.length_eq_zero_iff, conjP])) ?_
        refine sx hXDl [.T] 400 rfl (by (simp [-List.getD_eq_getElem?_getD, -List.length_eq_zero_iff, conjP, hi2, hi3, cellOff])) ?_
        refine sx hXDl [.F] 400 rfl (by (simp [-List.getD_eq_getElem?_getD, -List.length_eq_zero_iff, conjP, addOP, cellOff, he])) ?_
        (refine back (i + 1) ⟨by omega, take_succ_eq hi2 hi3 ht he⟩ (by omega) _ _ _ (sub_of [0, 1] rfl rfl rfl rfl ⟨by (repeat' (first | exact rfl | exact trivial | exact sim_refl _ | refine And.intro ?_ ?_)), by (repeat' (first | exact rfl | exact trivial | exact sim_refl _ | refine And.intro ?_ ?_)), ⟨rfl, wi64 (by omega) (by omega)⟩, trivial⟩ (by (repeat' (first | exact rfl | exact trivial | exact sim_refl _ | refine And.intro ?_ ?_))) (by (repeat' (first | exact rfl | exact trivial | exact sim_refl _ | refine And.intro ?_ ?_))) (by (repeat' (first | exact rfl | exact trivial | exact sim_refl _ | refine And.intro ?_ ?_)))))
      · have hne : ¬ A = B := fun h => he (by rw [h])
        refine sx hXDl [] 400 rfl (by (simp [-List.getD_eq_getElem?_getD, -List.length_eq_zero_iff, conjP])) ?_
        refine sx hXDl [.T] 400 rfl (by (simp [-List.getD_eq_getElem?_getD, -List.length_eq_zero_iff, conjP, hi2, hi3, cellOff])) ?_
        refine sx hXDl [.T] 400 rfl (by (simp [-List.getD_eq_getElem?_getD, -List.length_eq_zero_iff, conjP, addOP, cellOff, he])) ?_
        (refine ss_end hXDl [0, 1] rfl rfl trivial rfl rfl rfl rfl ?hv (by (repeat' (first | exact rfl | exact trivial | exact sim_refl _ | refine And.intro ?_ ?_))) (by (repeat' (first | exact rfl | exact trivial | exact sim_refl _ | refine And.intro ?_ ?_))) (by (repeat' (first | exact rfl | exact trivial | exact sim_refl _ | refine And.intro ?_ ?_))); (case hv => rw [decide_eq_false hne]; exact rfl))
    · have hAB : A = B := by
        have e : i = A.length := by omega
        rw [e, List.take_length, hl, List.take_length] at ht
        exact ht
      refine sx hXDl [] 400 rfl (by (simp [-List.getD_eq_getElem?_getD, -List.length_eq_zero_iff, conjP])) ?_
      refine sx hXDl [.F] 400 rfl (by (simp [-List.getD_eq_getElem?_getD, -List.length_eq_zero_iff, conjP, addOP, hi2])) ?_
      (refine ss_end hXDl [0, 1] rfl rfl trivial rfl rfl rfl rfl ?hv (by (repeat' (first | exact rfl | exact trivial | exact sim_refl _ | refine And.intro ?_ ?_))) (by (repeat' (first | exact rfl | exact trivial | exact sim_refl _ | refine And.intro ?_ ?_))) (by (repeat' (first | exact rfl | exact trivial | exact sim_refl _ | refine And.intro ?_ ?_))); (case hv => rw [decide_eq_true hAB]; exact rfl))
  · have hne : ¬ A = B := fun h => hl (by rw [h])
    refine sx hXDl [] 400 rfl (by (simp [-List.getD_eq_getElem?_getD, -List.length_eq_zero_iff, conjP])) ?_
    refine sx hXDl [.T] 400 rfl (by (simp [-List.getD_eq_getElem?_getD, -List.length_eq_zero_iff, conjP, addOP] <;> (first | omega | ((repeat' (refine And.intro ?_ ?_)) <;> (first | omega | exact decide_eq_false (by omega) | exact decide_eq_true (by omega)))))) ?_
    (refine ss_end hXDl [0, 1] rfl rfl trivial rfl rfl rfl rfl ?hv (by (repeat' (first | exact rfl | exact trivial | exact sim_refl _ | refine And.intro ?_ ?_))) (by (repeat' (first | exact rfl | exact trivial | exact sim_refl _ | refine And.intro ?_ ?_))) (by (repeat' (first | exact rfl | exact trivial | exact sim_refl _ | refine And.intro ?_ ?_))); (case hv => rw [decide_eq_false hne]; exact rfl))
theorem sq_nil : Gives Tryz.prog 47 [.nilslice, .nilslice] [] (Is .tt []) := by
  refine gives_x hXFd (fn := Tryz.f47) rfl rfl rfl rfl fun ρ w => ?_
  refine sx hXFd [] 400 rfl (by (simp [-List.getD_eq_getElem?_getD, -List.length_eq_zero_iff, conjP])) ?_
  refine sx hXFd [.F] 400 rfl (by (simp [-List.getD_eq_getElem?_getD, -List.length_eq_zero_iff, conjP, addOP])) ?_
  refine sx hXFd [.F] 400 rfl (by (simp [-List.getD_eq_getElem?_getD, -List.length_eq_zero_iff, conjP, addOP])) ?_
  (exact ss_end hXFd [] rfl rfl trivial rfl rfl rfl rfl (by (repeat' (first | exact rfl | exact trivial | exact sim_refl _ | refine And.intro ?_ ?_))) (by (repeat' (first | exact rfl | exact trivial | exact sim_refl _ | refine And.intro ?_ ?_))) (by (repeat' (first | exact rfl | exact trivial | exact sim_refl _ | refine And.intro ?_ ?_))) (by (repeat' (first | exact rfl | exact trivial | exact sim_refl _ | refine And.intro ?_ ?_))))
theorem sq_one (B : List Int) (h0 : 0 < B.length) (hB : B.length < 1000000) : Gives Tryz.prog 47 [.nilslice, .sbuf 0 1 0 B.length] [IB B] (Is .ff [IB B]) := by
  have h1 : ¬ (0 : Int) = (B.length : Int) := by omega
  have h2 : ¬ (B.length : Int) = 0 := by omega
  have h3 : ¬ B.length = 0 := by omega
  refine gives_x hXFd (fn := Tryz.f47) rfl rfl rfl rfl fun ρ w => ?_
  refine sx hXFd [] 400 rfl (by (simp [-List.getD_eq_getElem?_getD, -List.length_eq_zero_iff, conjP])) ?_
  refine sx hXFd [.T] 400 rfl (by (simp [-List.getD_eq_getElem?_getD, -List.length_eq_zero_iff, conjP, addOP, h1])) ?_
  (exact ss_end hXFd [0] rfl rfl trivial rfl rfl rfl rfl (by (repeat' (first | exact rfl | exact trivial | exact sim_refl _ | refine And.intro ?_ ?_))) (by (repeat' (first | exact rfl | exact trivial | exact sim_refl _ | refine And.intro ?_ ?_))) (by (repeat' (first | exact rfl | exact trivial | exact sim_refl _ | refine And.intro ?_ ?_))) (by (repeat' (first | exact rfl | exact trivial | exact sim_refl _ | refine And.intro ?_ ?_))))
def sqS : Hx.Spec := fun args H => match args with
  | [.nilslice, .nilslice] => some ([], .tt, H)
  | [.nilslice, .sbuf h2 1 0 l2] => match getH H h2 with
    | some (.buf .i64 B 1 3) => some ([l2 = B.length, 0 < B.length, B.length < 1000000], .ff, H)
    | _ => none
  | [.sbuf h 1 0 l, .sbuf h2 1 0 l2] => match getH H h, getH H h2, nodupN [h, h2] with
    | some (.buf .i64 A 1 3), some (.buf .i64 B 1 3), true => some ([l = A.length, l2 = B.length, A.length < 1000000, B.length < 1000000], .bool (decide (A = B)), H)
    | _, _, _ => none
  | _ => none
theorem sqS_ok {args : List SV} {H : List HE} {ob : List Prop} {V : SV} {L : List HE} (hs : sqS args H = some (ob, V, L)) (ho : AllP ob) : Gives Tryz.prog 47 args H (Is V L) := by
  unfold sqS at hs
  split at hs
  · simp only [Option.some.injEq, Prod.mk.injEq] at hs
    obtain ⟨rfl, rfl, rfl⟩ := hs
    have := frame0 (H := H) ⟨_, hTE⟩ sq_nil rfl rfl
    simpa [SV.ren] using this
  · rename_i _ h2 l2
    split at hs
    · rename_i _ B g2
      simp only [Option.some.injEq, Prod.mk.injEq] at hs
      obtain ⟨rfl, rfl, rfl⟩ := hs
      simp only [AllP, List.mem_cons, List.not_mem_nil, or_false, forall_eq_or_imp, forall_eq] at ho
      obtain ⟨rfl, o4, o5⟩ := ho
      have := frame1 (N := []) (H := H) (h0 := h2) (ags := [.nilslice, .sbuf h2 1 0 B.length]) ⟨_, hTE⟩ (sq_one B o4 o5) rfl rfl rfl g2 rfl
      rw [show (H.set h2 (.obj (SO.ren (nm [h2] H) (.buf .i64 B 1 3)))) = H from set_self g2] at this
      simpa [SV.ren] using this
    · simp at hs
  · rename_i _ h l h2 l2
    split at hs
    · rename_i _ _ _ A B g1 g2 hn
      simp only [Option.some.injEq, Prod.mk.injEq] at hs
      obtain ⟨rfl, rfl, rfl⟩ := hs
      simp only [AllP, List.mem_cons, List.not_mem_nil, or_false, forall_eq_or_imp, forall_eq] at ho
      obtain ⟨rfl, rfl, o4, o5⟩ := ho
      have := frame2n (H := H) (h0 := h) (h1 := h2) ⟨_, hTE⟩ (sq_fn A B o4 o5) rfl rfl rfl hn g1 g2 rfl rfl rfl
      rw [show (H.set h (.obj (SO.ren (nm [h, h2] H) (.buf .i64 A 1 3)))) = H from set_self g1] at this
      rw [show (H.set h2 (.obj (SO.ren (nm [h, h2] H) (.buf .i64 B 1 3)))) = H from set_self g2] at this
      exact this
    · simp at hs
  · simp at hs
end Go.Proofs.YtkkddjchkkaagaaGreatDoor
