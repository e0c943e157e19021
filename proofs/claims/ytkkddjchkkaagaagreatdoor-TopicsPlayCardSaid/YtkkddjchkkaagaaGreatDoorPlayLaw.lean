/- TopicsPlay: what is so of a run besides; a client's step as a row; the world. -/
import Derived.Test.YtkkddjchkkaagaaGreatDoorBothSteps
import Derived.Test.YtkkddjchkkaagaaGreatDoorStepLaw
namespace Go.Proofs.YtkkddjchkkaagaaGreatDoor
open Go Go.Hx
set_option maxRecDepth 8000
/-- What is so of a run besides. -/
structure PC (s : TS) : Prop where
  hd : s.hd = decide (3 ≤ s.ph)
  p0 : -1 ≤ s.pl
  p4 : s.pl ≤ 4
  pi : s.rm = false → (1 ≤ s.ph ∧ s.ph ≤ 2) → s.pl = -1
  tz : s.rm = false → ((1 ≤ s.ph ∧ s.ph ≤ 5) ∨ s.er ≠ 0) → s.tp = 0 ∧ s.ep = 0 ∧ s.tl = false
  i4 : s.i ≤ 4
theorem pc_new {rm lg : Bool} {key : Int} : PC (newT rm lg key) := by
  unfold newT
  refine ⟨rfl, ?_, ?_, fun q _ => ?_, fun _ _ => ⟨rfl, rfl, rfl⟩, by dsimp only; omega⟩
  · dsimp only; split <;> omega
  · dsimp only; split <;> omega
  · dsimp only at q ⊢; rw [q]; rfl
set_option maxHeartbeats 4000000 in
theorem pc_step {T start : Nat} {R : Int} {s : TS} {W : List Int} {st : Int} (P : TPre T R start s W st) (h : PC s) : PC (tStep T R start s W st).s := by
  obtain ⟨rm, lg, key, ph, seq, j0, fd, hd, tm, er, pl, sn, fl, bk, ep, tp, tl⟩ := s
  obtain ⟨hd0, p0, p4, pi, tz, i4⟩ := h
  dsimp only at hd0 p0 p4 pi tz i4
  have t1 := P.t1
  have t4 := P.t4
  have it : ph ≤ 3 → j0 < T := P.it
  have hp : ph = 1 ∨ ph = 2 ∨ ph = 3 ∨ ph = 4 ∨ ph = 5 ∨ ph = 6 ∨ ph = 7 := by have h1 : 1 ≤ ph := P.p1; have h2 : ph ≤ 7 := P.p7; omega
  have e0 : ph ≤ 6 → er = 0 := P.e0
  have hpl : tPl T start j0 < T := tPl_lt t1 j0
  have fail : ∀ s' : TS, s'.rm = rm → s'.hd = false → s'.pl = pl → s'.tp = tp → s'.ep = ep → s'.tl = tl → s'.i = j0 → ph ≤ 2 → PC (tFail R s') := by
    intro s' a1 a2 a3 a4 a5 a6 a7 hl
    unfold tFail
    split
    · exact ⟨a2, by dsimp only; omega, by dsimp only; omega, fun q _ => by dsimp only at q ⊢; rw [a3]; exact pi (by rw [← a1]; exact q) (by omega), fun q _ => by dsimp only at q ⊢; rw [a4, a5, a6]; exact tz (by rw [← a1]; exact q) (.inl (by omega)), by dsimp only; omega⟩
    · exact ⟨a2, by dsimp only; omega, by dsimp only; omega, fun q _ => by dsimp only at q ⊢; rw [a3]; exact pi (by rw [← a1]; exact q) (by omega), fun q _ => by dsimp only at q ⊢; rw [a4, a5, a6]; exact tz (by rw [← a1]; exact q) (.inl (by omega)), by dsimp only; omega⟩
  have more : ∀ s' : TS, s'.rm = rm → s'.hd = true → s'.pl = pl → s'.tp = tp → s'.ep = ep → s'.tl = tl → s'.i = j0 → ph ≤ 5 → PC (tMore R s') := by
    intro s' a1 a2 a3 a4 a5 a6 a7 hl
    unfold tMore
    split
    · exact ⟨a2, by dsimp only; omega, by dsimp only; omega, fun _ q => by dsimp only at q; omega, fun q _ => by dsimp only at q ⊢; rw [a4, a5, a6]; exact tz (by rw [← a1]; exact q) (.inl (by omega)), by dsimp only; omega⟩
    · exact ⟨a2, by dsimp only; omega, by dsimp only; omega, fun _ q => by dsimp only at q; omega, fun q _ => by dsimp only at q ⊢; rw [a4, a5, a6]; exact tz (by rw [← a1]; exact q) (.inl (by omega)), by dsimp only; omega⟩
  rcases hp with rfl | rfl | rfl | rfl | rfl | rfl | rfl
  · obtain rfl := e0 (by omega)
    obtain rfl : hd = false := hd0
    unfold tStep
    dsimp only
    rw [if_pos rfl]
    split
    · exact fail _ rfl rfl rfl rfl rfl rfl rfl (by omega)
    · exact ⟨rfl, p0, p4, fun q _ => pi q (by omega), fun q _ => tz q (.inl (by omega)), i4⟩
  · obtain rfl := e0 (by omega)
    unfold tStep
    dsimp only
    rw [if_neg (by decide), if_pos rfl]
    split
    · exact ⟨rfl, p0, p4, fun _ q => by dsimp only at q; omega, fun q _ => tz q (.inl (by omega)), i4⟩
    · exact fail _ rfl rfl rfl rfl rfl rfl rfl (by omega)
  · obtain rfl := e0 (by omega)
    obtain rfl : hd = true := hd0
    have hj := it (by omega)
    have go : ∀ s' : TS, s'.rm = rm → s'.hd = true → -1 ≤ s'.pl → s'.pl ≤ 4 → s'.tp = tp → s'.ep = ep → s'.tl = tl → s'.i = j0 + 1 → 3 ≤ s'.ph → PC s' := by
      intro s' a1 a2 a3 a3' a4 a5 a6 a7 a8
      exact ⟨by rw [a2, decide_eq_true a8], a3, a3', fun _ q => by omega, fun q _ => by rw [a4, a5, a6]; exact tz (by rw [← a1]; exact q) (.inl (by omega)), by omega⟩
    unfold tStep
    dsimp only
    rw [if_neg (by decide), if_neg (by decide), if_pos rfl]
    generalize (isK (W.getD (eP (tPl T start j0)) 0) && decide (W.getD (eP (tPl T start j0)) 0 / 4 = key)) = FF
    generalize (decide (W.getD (eP (tPl T start j0)) 0 = 0) || decide (j0 + 1 = T)) = LL
    generalize isK (W.getD (eP (tPl T start j0)) 0) = K
    have hpv : -1 ≤ (if rm = true then (if FF = true then ((tPl T start j0 : Nat) : Int) else pl) else if K = false ∧ pl = -1 then ((tPl T start j0 : Nat) : Int) else pl) ∧ (if rm = true then (if FF = true then ((tPl T start j0 : Nat) : Int) else pl) else if K = false ∧ pl = -1 then ((tPl T start j0 : Nat) : Int) else pl) ≤ 4 := by
      repeat' split
      all_goals omega
    generalize (if rm = true then (if FF = true then ((tPl T start j0 : Nat) : Int) else pl) else if K = false ∧ pl = -1 then ((tPl T start j0 : Nat) : Int) else pl) = pv at *
    split
    · split
      · exact go _ rfl rfl hpv.1 hpv.2 rfl rfl rfl rfl (by dsimp only; omega)
      · split
        · exact go _ rfl rfl hpv.1 hpv.2 rfl rfl rfl rfl (by dsimp only; omega)
        · exact go _ rfl rfl hpv.1 hpv.2 rfl rfl rfl rfl (by dsimp only; omega)
    · split
      · exact go _ rfl rfl hpv.1 hpv.2 rfl rfl rfl rfl (by dsimp only; omega)
      · split
        · split
          · exact go _ rfl rfl hpv.1 hpv.2 rfl rfl rfl rfl (by dsimp only; omega)
          · exact go _ rfl rfl hpv.1 hpv.2 rfl rfl rfl rfl (by dsimp only; omega)
        · exact go _ rfl rfl hpv.1 hpv.2 rfl rfl rfl rfl (by dsimp only; omega)
  · obtain rfl := e0 (by omega)
    obtain rfl : hd = true := hd0
    unfold tStep
    dsimp only
    rw [if_neg (by decide), if_neg (by decide), if_neg (by decide), if_pos rfl]
    split
    · exact more _ rfl rfl rfl rfl rfl rfl rfl (by omega)
    · exact ⟨rfl, p0, p4, fun _ q => by dsimp only at q; omega, fun q _ => tz q (.inl (by omega)), i4⟩
  · obtain rfl := e0 (by omega)
    obtain rfl : hd = true := hd0
    unfold tStep
    dsimp only
    rw [if_neg (by decide), if_neg (by decide), if_neg (by decide), if_neg (by decide), if_pos rfl]
    split
    · rename_i hr
      split
      · exact ⟨rfl, p0, p4, fun _ q => by dsimp only at q; omega, fun q _ => (by dsimp only at q; rw [hr] at q; cases q), i4⟩
      · exact more _ rfl rfl rfl rfl rfl rfl rfl (by omega)
    · exact ⟨rfl, p0, p4, fun _ q => by dsimp only at q; omega, fun _ q => by dsimp only at q; omega, i4⟩
  · obtain rfl := e0 (by omega)
    obtain rfl : hd = true := hd0
    unfold tStep
    dsimp only
    rw [if_neg (by decide), if_neg (by decide), if_neg (by decide), if_neg (by decide), if_neg (by decide), if_pos rfl]
    exact ⟨rfl, p0, p4, fun _ q => by dsimp only at q; omega, fun _ q => by dsimp only at q; omega, i4⟩
  · unfold tStep
    dsimp only
    rw [if_neg (by decide), if_neg (by decide), if_neg (by decide), if_neg (by decide), if_neg (by decide), if_neg (by decide), if_pos rfl]
    exact ⟨rfl, p0, p4, fun _ q => by dsimp only at q; omega, fun q g => tz q (g.elim (fun g2 => by dsimp only at g2; omega) .inr), i4⟩
theorem dpre_of {T start : Nat} {R : Int} {s : TS} {W : List Int} {st : Int} (P : TPre T R start s W st) (h : PC s) : DPre T start s := by
  have t1 := P.t1
  have t4 := P.t4
  have hpl : tPl T start (s.i - 1) < T := tPl_lt t1 _
  have h0 := h.p0
  have h4 := h.p4
  have p1 := P.p1
  refine ⟨fun q => by rw [h.hd]; exact decide_eq_false (by omega), fun a b => h.pi a ⟨p1, b⟩, ?_, ?_⟩
  · unfold dpl; repeat' split
    all_goals omega
  · unfold dpl; repeat' split
    all_goals omega
end Go.Proofs.YtkkddjchkkaagaaGreatDoor
