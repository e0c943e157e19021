/- The directory: a run that nobody disturbs, from its beginning to its end. -/
import Derived.Test.YtkkddjchkkaagaaGreatDoorThreeLaw
namespace Go.Proofs.YtkkddjchkkaagaaGreatDoor
open Go Go.Hx
set_option maxRecDepth 8000
def absK (T : Nat) (W : List Int) (key : Int) : Prop := ∀ p, p < T → isK (W.getD (eP p) 0) = true → W.getD (eP p) 0 / 4 ≠ key
def preK (T : Nat) (W : List Int) (key : Int) (p : Nat) : Prop := p < T ∧ isK (W.getD (eP p) 0) = true ∧ W.getD (eP p) 0 / 4 = key
def sameW (T : Nat) (W W' : List Int) : Prop := ∀ p, p < T → W'.getD (eP p) 0 = W.getD (eP p) 0 ∧ W'.getD (cP T p) 0 = W.getD (cP T p) 0
def setD (T : Nat) (W W' : List Int) (p : Nat) (e c : Int) : Prop := ∀ q, q < T → W'.getD (eP q) 0 = (if q = p then e else W.getD (eP q) 0) ∧ W'.getD (cP T q) 0 = (if q = p then c else W.getD (cP T q) 0)
/-- How a run may have ended. -/
inductive EE (T : Nat) (W0 : List Int) (s : TS) (W : List Int) : Prop
  | there (p : Nat) (h1 : s.er = 14) (h2 : s.rm = false) (h3 : sameW T W0 W) (h4 : preK T W0 s.key p)
  | full (h1 : s.er = 15) (h2 : s.rm = false) (h3 : sameW T W0 W) (h4 : absK T W0 s.key)
  | none_ (h1 : s.er = 12) (h2 : s.rm = true) (h3 : sameW T W0 W) (h4 : absK T W0 s.key)
  | made (p : Nat) (h1 : s.er = 0) (h2 : s.rm = false) (hp : p < T) (h3 : setD T W0 W p (enK s.key s.lg) (bornW (W0.getD (cP T p) 0))) (h4 : absK T W0 s.key) (h5 : s.tp = (p : Int)) (h6 : s.ep = epW (W0.getD (cP T p) 0)) (h7 : s.tl = s.lg)
  | gone (p : Nat) (h1 : s.er = 0) (h2 : s.rm = true) (h3 : setD T W0 W p 1 (goneW (W0.getD (cP T p) 0))) (h4 : preK T W0 s.key p)
/-- What is so as long as it runs. -/
structure ES (T : Nat) (R : Int) (W0 : List Int) (s : TS) (W : List Int) : Prop where
  d : DInv T (sfT T R) W (cf3 (some s) none none)
  q0 : W0.getD 2 0 % 2 = 0
  nb : ∀ p, p < T → buW (W0.getD (cP T p) 0) = false
  w1 : s.ph = 1 → W = W0
  w2 : s.ph = 2 → W = W0 ∧ s.seq = W0.getD 2 0
  we : s.ph ≤ 6 → ∀ p, p < T → W.getD (eP p) 0 = W0.getD (eP p) 0
  wc : s.ph ≤ 5 → ∀ p, p < T → W.getD (cP T p) 0 = W0.getD (cP T p) 0
  s5 : s.ph = 5 → s.sn = W0.getD (cP T s.pl.toNat) 0
  g6 : s.ph = 6 → (s.rm = false → s.tp = s.pl ∧ s.ep = epW (W0.getD (cP T s.pl.toNat) 0) ∧ s.tl = s.lg) ∧ ∀ q, q < T → W.getD (cP T q) 0 = if q = s.pl.toNat then (if s.rm then goneW (W0.getD (cP T q) 0) else bornW (W0.getD (cP T q) 0)) else W0.getD (cP T q) 0
  g7 : s.ph = 7 → EE T W0 s W
def eT (T : Nat) (s : TS) : Nat := if s.ph = 1 then T + 6 else if s.ph = 2 then T + 5 else if s.ph = 3 then T - s.i + 4 else if s.ph = 4 then 4 else if s.ph = 5 then 3 else if s.ph = 6 then 2 else if s.ph = 7 then 1 else 0
section
variable {T : Nat} {R n st : Int} {W0 : List Int} {s : TS} {W : List Int}
theorem e2_ne {q : Nat} : cP T q ≠ 2 := by unfold cP; omega
theorem get2e {W : List Int} {v : Int} {p : Nat} : (W.set 2 v).getD (eP p) 0 = W.getD (eP p) 0 := by rw [set_getD, if_neg (fun g => eP_2 g.1.symm)]
theorem get2c {W : List Int} {v : Int} {p : Nat} : (W.set 2 v).getD (cP T p) 0 = W.getD (cP T p) 0 := by rw [set_getD, if_neg (fun g => e2_ne g.1.symm)]
/-- A step of a run that nobody disturbs. -/
structure EStep (T : Nat) (R : Int) (W0 : List Int) (s : TS) (r : TR) : Prop where
  go : r.s.ph ≠ 0 → ES T R W0 r.s r.W ∧ eT T r.s + 1 ≤ eT T s
  done : r.s.ph = 0 → EE T W0 r.s r.W ∧ DInv T (sfT T R) r.W (cf3 none none none)
set_option maxHeartbeats 4000000 in
theorem es_step (h : ES T R W0 s W) (C : TC T R n s) : EStep T R W0 s (tStep T R (sfT T R s.key) s W st) := by
  have dd := h.d.step (a := 0) (R := R) (st := st) rfl
  rw [upd0] at dd
  have k := h.d.tk 0 s rfl
  have de := h.d.de
  have hst := (h.d.ok 0 s rfl).st
  have od := h.d.od
  have sq := h.d.sq 0 s rfl
  obtain ⟨rm, lg, key, ph, seq, i, fd, hd, tm, er, pl, sn, fl, bk, ep, tp, tl⟩ := s
  obtain ⟨_, q0, nb, w1, w2, we, wc, s5, g6, g7⟩ := h
  have p1 : 1 ≤ ph := C.p1
  have p7 : ph ≤ 7 := C.p7
  have e0 : ph ≤ 6 → er = 0 := C.e0
  have it : ph ≤ 3 → i < T := C.it
  dsimp only at w1 w2 we wc s5 g6 g7 dd hst
  have t1 := de.t0
  have hp : ph = 1 ∨ ph = 2 ∨ ph = 3 ∨ ph = 4 ∨ ph = 5 ∨ ph = 6 ∨ ph = 7 := by omega
  rcases hp with rfl | rfl | rfl | rfl | rfl | rfl | rfl
  · obtain rfl := w1 rfl
    have hi := it (by omega)
    unfold tStep at dd ⊢
    dsimp only at dd ⊢
    rw [if_pos rfl, if_neg (by omega)] at dd ⊢
    dsimp only at dd
    rw [if_neg (by decide)] at dd
    exact ⟨fun _ => ⟨⟨dd, q0, nb, fun q => by dsimp only at q; omega, fun _ => ⟨rfl, rfl⟩, fun _ _ _ => rfl, fun _ _ _ => rfl, fun q => by dsimp only at q; omega, fun q => by dsimp only at q; omega, fun q => by dsimp only at q; omega⟩, by simp [eT]⟩, fun q => by dsimp only at q; omega⟩
  · obtain ⟨rfl, hs⟩ := w2 rfl
    have hi := it (by omega)
    unfold tStep at dd ⊢
    dsimp only at dd ⊢
    rw [if_neg (by decide), if_pos rfl, if_pos hs.symm] at dd ⊢
    dsimp only at dd
    rw [if_neg (by decide)] at dd
    exact ⟨fun _ => ⟨⟨dd, q0, nb, fun q => by dsimp only at q; omega, fun q => by dsimp only at q; omega, fun _ _ _ => get2e, fun _ _ _ => get2c, fun q => by dsimp only at q; omega, fun q => by dsimp only at q; omega, fun q => by dsimp only at q; omega⟩, by simp [eT] <;> omega⟩, fun q => by dsimp only at q; omega⟩
  · obtain rfl := e0 (by omega)
    have hi := it (by omega)
    have k := k (by dsimp only; omega)
    obtain ⟨_, hj⟩ := k.lk rfl
    dsimp only at hj
    have we := we (by omega)
    have wc := wc (by omega)
    have hpl : tPl T (sfT T R key) i < T := tPl_lt t1 i
    have sm : sameW T W0 W := fun p hp => ⟨we p hp, wc p hp⟩
    have ab : ∀ hk : ¬ (isK (W.getD (eP (tPl T (sfT T R key) i)) 0) = true ∧ W.getD (eP (tPl T (sfT T R key) i)) 0 / 4 = key), (W.getD (eP (tPl T (sfT T R key) i)) 0 = 0 ∨ i + 1 = T) → absK T W0 key := fun hk hl p hp a b => by
      rw [← we p hp] at a b
      refine absent de hst (i + 1) (fun j hj2 => ?_) ?_ p hp a b
      · by_cases g : j < i
        · exact (hj j g).2
        · obtain rfl : j = i := by omega
          exact hk
      · rcases hl with q | q
        · exact .inr ⟨i, rfl, q⟩
        · exact .inl q
    have lb : (i : Int) < T := by omega
    unfold tStep at dd ⊢
    dsimp only at dd ⊢
    rw [if_neg (by decide), if_neg (by decide), if_pos rfl] at dd ⊢
    by_cases hf : isK (W.getD (eP (tPl T (sfT T R key) i)) 0) = true ∧ W.getD (eP (tPl T (sfT T R key) i)) 0 / 4 = key
    · have hf2 : (isK (W.getD (eP (tPl T (sfT T R key) i)) 0) && decide (W.getD (eP (tPl T (sfT T R key) i)) 0 / 4 = key)) = true := by rw [hf.1, decide_eq_true hf.2]; rfl
      rw [hf2] at dd ⊢
      rcases rm with _ | _ <;> simp only [Bool.false_eq_true, if_false, if_true] at dd ⊢
      · refine ⟨fun _ => ⟨⟨dd, q0, nb, fun q => by dsimp only at q; omega, fun q => by dsimp only at q; omega, fun q => by dsimp only at q; omega, fun q => by dsimp only at q; omega, fun q => by dsimp only at q; omega, fun q => by dsimp only at q; omega, fun _ => .there (tPl T (sfT T R key) i) rfl rfl sm ⟨hpl, by rw [← we _ hpl]; exact hf.1, by rw [← we _ hpl]; exact hf.2⟩⟩, by simp [eT]⟩, fun q => by dsimp only at q; omega⟩
      · refine ⟨fun _ => ⟨⟨dd, q0, nb, fun q => by dsimp only at q; omega, fun q => by dsimp only at q; omega, fun _ => we, fun _ => wc, fun q => by dsimp only at q; omega, fun q => by dsimp only at q; omega, fun q => by dsimp only at q; omega⟩, by simp [eT] <;> omega⟩, fun q => by dsimp only at q; omega⟩
    · have hf2 : (isK (W.getD (eP (tPl T (sfT T R key) i)) 0) && decide (W.getD (eP (tPl T (sfT T R key) i)) 0 / 4 = key)) = false := by
        rcases q : (isK (W.getD (eP (tPl T (sfT T R key) i)) 0) && decide (W.getD (eP (tPl T (sfT T R key) i)) 0 / 4 = key)) with _ | _
        · rfl
        · simp only [Bool.and_eq_true, decide_eq_true_eq] at q; exact absurd q hf
      rw [hf2] at dd ⊢
      rcases hl : (decide (W.getD (eP (tPl T (sfT T R key) i)) 0 = 0) || decide (i + 1 = T)) with _ | _
      · rw [hl] at dd
        simp only [Bool.or_eq_false_iff, decide_eq_false_iff_not] at hl
        rcases rm with _ | _ <;> simp only [Bool.false_eq_true, if_false, if_true] at dd ⊢
        · refine ⟨fun _ => ⟨⟨dd, q0, nb, fun q => by dsimp only at q; omega, fun q => by dsimp only at q; omega, fun _ => we, fun _ => wc, fun q => by dsimp only at q; omega, fun q => by dsimp only at q; omega, fun q => by dsimp only at q; omega⟩, by simp [eT] <;> omega⟩, fun q => by dsimp only at q; omega⟩
        · refine ⟨fun _ => ⟨⟨dd, q0, nb, fun q => by dsimp only at q; omega, fun q => by dsimp only at q; omega, fun _ => we, fun _ => wc, fun q => by dsimp only at q; omega, fun q => by dsimp only at q; omega, fun q => by dsimp only at q; omega⟩, by simp [eT] <;> omega⟩, fun q => by dsimp only at q; omega⟩
      · rw [hl] at dd
        have hl' : W.getD (eP (tPl T (sfT T R key) i)) 0 = 0 ∨ i + 1 = T := by simpa [-List.getD_eq_getElem?_getD] using hl
        have ab := ab hf hl'
        rcases rm with _ | _ <;> simp only [Bool.false_eq_true, if_false, if_true] at dd ⊢
        · generalize (if isK (W.getD (eP (tPl T (sfT T R key) i)) 0) = false ∧ pl = -1 then ((tPl T (sfT T R key) i : Nat) : Int) else pl) = pv at *
          by_cases hne : pv = -1
          · rw [if_pos hne] at dd ⊢
            exact ⟨fun _ => ⟨⟨dd, q0, nb, fun q => by dsimp only at q; omega, fun q => by dsimp only at q; omega, fun q => by dsimp only at q; omega, fun q => by dsimp only at q; omega, fun q => by dsimp only at q; omega, fun q => by dsimp only at q; omega, fun _ => .full rfl rfl sm ab⟩, by simp [eT]⟩, fun q => by dsimp only at q; omega⟩
          · rw [if_neg hne] at dd ⊢
            exact ⟨fun _ => ⟨⟨dd, q0, nb, fun q => by dsimp only at q; omega, fun q => by dsimp only at q; omega, fun _ => we, fun _ => wc, fun q => by dsimp only at q; omega, fun q => by dsimp only at q; omega, fun q => by dsimp only at q; omega⟩, by simp [eT] <;> omega⟩, fun q => by dsimp only at q; omega⟩
        · exact ⟨fun _ => ⟨⟨dd, q0, nb, fun q => by dsimp only at q; omega, fun q => by dsimp only at q; omega, fun q => by dsimp only at q; omega, fun q => by dsimp only at q; omega, fun q => by dsimp only at q; omega, fun q => by dsimp only at q; omega, fun _ => .none_ rfl rfl sm ab⟩, by simp [eT]⟩, fun q => by dsimp only at q; omega⟩
  · obtain rfl := e0 (by omega)
    have we := we (by omega)
    have wc := wc (by omega)
    obtain ⟨p, hp, rfl⟩ : ∃ p : Nat, p < T ∧ pl = (p : Int) := C.pe (by dsimp only; omega) (by dsimp only; omega)
    have hb : (rm && buW (W.getD (cP T ((p : Int)).toNat) 0)) = false := by
      rw [Int.toNat_natCast, wc p hp, nb p hp]
      cases rm <;> rfl
    unfold tStep at dd ⊢
    dsimp only at dd ⊢
    rw [if_neg (by decide), if_neg (by decide), if_neg (by decide), if_pos rfl, hb] at dd ⊢
    rw [if_neg (by decide)] at dd ⊢
    dsimp only at dd
    rw [if_neg (by decide)] at dd
    exact ⟨fun _ => ⟨⟨dd, q0, nb, fun q => by dsimp only at q; omega, fun q => by dsimp only at q; omega, fun _ => we, fun _ => wc, fun _ => by dsimp only; rw [Int.toNat_natCast]; exact wc p hp, fun q => by dsimp only at q; omega, fun q => by dsimp only at q; omega⟩, by simp [eT]⟩, fun q => by dsimp only at q; omega⟩
  · obtain rfl := e0 (by omega)
    have we := we (by omega)
    have wc := wc (by omega)
    have hs := s5 rfl
    obtain ⟨p, hp, rfl⟩ : ∃ p : Nat, p < T ∧ pl = (p : Int) := C.pe (by dsimp only; omega) (by dsimp only; omega)
    rw [Int.toNat_natCast] at hs
    subst hs
    have ge : ∀ v q, (W.set (cP T p) v).getD (eP q) 0 = W.getD (eP q) 0 ∨ ¬ q < T := fun v q => by
      by_cases hq : q < T
      · exact .inl (by rw [set_getD, if_neg (fun g => eP_cP hq g.1.symm)])
      · exact .inr hq
    have gc : ∀ v q, q < T → (W.set (cP T p) v).getD (cP T q) 0 = if q = p then v else W0.getD (cP T q) 0 := fun v q hq => by
      rw [set_getD]
      by_cases g : q = p
      · subst g; rw [if_pos ⟨rfl, cP_lt de hq⟩, if_pos rfl]
      · rw [if_neg (fun g2 => g (cP_inj g2.1).symm), if_neg g, wc q hq]
    have ge' : ∀ v q, q < T → (W.set (cP T p) v).getD (eP q) 0 = W0.getD (eP q) 0 := fun v q hq => by
      rcases ge v q with e | e
      · rw [e, we q hq]
      · exact absurd hq e
    unfold tStep at dd ⊢
    dsimp only at dd ⊢
    rw [if_neg (by decide), if_neg (by decide), if_neg (by decide), if_neg (by decide), if_pos rfl, Int.toNat_natCast] at dd ⊢
    rcases rm with _ | _
    · rw [if_neg (by decide)] at dd ⊢
      dsimp only at dd
      rw [if_neg (by decide)] at dd
      refine ⟨fun _ => ⟨⟨dd, q0, nb, fun q => by dsimp only at q; omega, fun q => by dsimp only at q; omega, fun _ => ge' _, fun q => by dsimp only at q; omega, fun q => by dsimp only at q; omega, fun _ => ⟨fun _ => ⟨rfl, by dsimp only; rw [Int.toNat_natCast], rfl⟩, fun q hq => ?_⟩, fun q => by dsimp only at q; omega⟩, by simp [eT]⟩, fun q => by dsimp only at q; omega⟩
      dsimp only
      rw [Int.toNat_natCast, gc _ q hq]
      by_cases g : q = p
      · subst g; simp
      · rw [if_neg g, if_neg g]
    · rw [if_pos rfl, if_pos (wc p hp)] at dd ⊢
      dsimp only at dd
      rw [if_neg (by decide)] at dd
      refine ⟨fun _ => ⟨⟨dd, q0, nb, fun q => by dsimp only at q; omega, fun q => by dsimp only at q; omega, fun _ => ge' _, fun q => by dsimp only at q; omega, fun q => by dsimp only at q; omega, fun _ => ⟨fun q => (by cases q), fun q hq => ?_⟩, fun q => by dsimp only at q; omega⟩, by simp [eT]⟩, fun q => by dsimp only at q; omega⟩
      dsimp only
      rw [Int.toNat_natCast, gc _ q hq]
      by_cases g : q = p
      · subst g; simp
      · rw [if_neg g, if_neg g]
  · obtain rfl := e0 (by omega)
    have we := we (by omega)
    obtain ⟨gt, gc⟩ := g6 rfl
    obtain ⟨p, hp, rfl⟩ : ∃ p : Nat, p < T ∧ pl = (p : Int) := C.pe (by dsimp only; omega) (by dsimp only; omega)
    rw [Int.toNat_natCast] at gc gt
    have k := k (by dsimp only; omega)
    have gs : ∀ v, setD T W0 (W.set (eP p) v) p v (if rm then goneW (W0.getD (cP T p) 0) else bornW (W0.getD (cP T p) 0)) := fun v q hq => by
      refine ⟨?_, ?_⟩
      · rw [set_getD]
        by_cases g : q = p
        · subst g; rw [if_pos ⟨rfl, eP_lt de hq⟩, if_pos rfl]
        · rw [if_neg (fun g2 => g (eP_inj g2.1).symm), if_neg g, we q hq]
      · rw [set_getD, if_neg (fun g => eP_cP hp g.1), gc q hq]
        by_cases g : q = p
        · subst g; rfl
        · rw [if_neg g, if_neg g]
    unfold tStep at dd ⊢
    dsimp only at dd ⊢
    rw [if_neg (by decide), if_neg (by decide), if_neg (by decide), if_neg (by decide), if_neg (by decide), if_pos rfl, Int.toNat_natCast] at dd ⊢
    dsimp only at dd
    rcases rm with _ | _ <;> rw [if_neg (show ¬ (7 = 0) by decide)] at dd <;> simp only [Bool.false_eq_true, if_false, if_true] at dd ⊢
    · obtain ⟨ab, _⟩ := k.c4 rfl (by dsimp only; omega) (by dsimp only; omega)
      dsimp only at ab
      have ab0 : absK T W0 key := fun q hq a b => by rw [← we q hq] at a b; exact ab q hq a b
      obtain ⟨g1, g2, g3⟩ := gt rfl
      exact ⟨fun _ => ⟨⟨dd, q0, nb, fun q => by dsimp only at q; omega, fun q => by dsimp only at q; omega, fun q => by dsimp only at q; omega, fun q => by dsimp only at q; omega, fun q => by dsimp only at q; omega, fun q => by dsimp only at q; omega, fun _ => .made p rfl rfl hp (gs _) ab0 g1 g2 g3⟩, by simp [eT]⟩, fun q => by dsimp only at q; omega⟩
    · obtain ⟨p', hp', ep', hk, hv⟩ := k.r4 rfl (by dsimp only; omega) (by dsimp only; omega)
      dsimp only at ep' hv
      obtain rfl : p = p' := by omega
      exact ⟨fun _ => ⟨⟨dd, q0, nb, fun q => by dsimp only at q; omega, fun q => by dsimp only at q; omega, fun q => by dsimp only at q; omega, fun q => by dsimp only at q; omega, fun q => by dsimp only at q; omega, fun q => by dsimp only at q; omega, fun _ => .gone p rfl rfl (gs _) ⟨hp, by rw [← we p hp]; exact hk, by rw [← we p hp]; exact hv⟩⟩, by simp [eT]⟩, fun q => by dsimp only at q; omega⟩
  · have g7 := g7 rfl
    unfold tStep at dd ⊢
    dsimp only at dd ⊢
    rw [if_neg (by decide), if_neg (by decide), if_neg (by decide), if_neg (by decide), if_neg (by decide), if_neg (by decide), if_pos rfl] at dd ⊢
    rw [if_pos rfl] at dd
    refine ⟨fun q => absurd rfl q, fun _ => ⟨?_, dd⟩⟩
    cases g7 with
    | there p h1 h2 h3 h4 => exact .there p h1 h2 (fun q hq => ⟨by rw [get2e]; exact (h3 q hq).1, by rw [get2c]; exact (h3 q hq).2⟩) h4
    | full h1 h2 h3 h4 => exact .full h1 h2 (fun q hq => ⟨by rw [get2e]; exact (h3 q hq).1, by rw [get2c]; exact (h3 q hq).2⟩) h4
    | none_ h1 h2 h3 h4 => exact .none_ h1 h2 (fun q hq => ⟨by rw [get2e]; exact (h3 q hq).1, by rw [get2c]; exact (h3 q hq).2⟩) h4
    | made p h1 h2 hp h3 h4 h5 h6 h7 => exact .made p h1 h2 hp (fun q hq => ⟨by rw [get2e]; exact (h3 q hq).1, by rw [get2c]; exact (h3 q hq).2⟩) h4 h5 h6 h7
    | gone p h1 h2 h3 h4 => exact .gone p h1 h2 (fun q hq => ⟨by rw [get2e]; exact (h3 q hq).1, by rw [get2c]; exact (h3 q hq).2⟩) h4
end
end Go.Proofs.YtkkddjchkkaagaaGreatDoor
