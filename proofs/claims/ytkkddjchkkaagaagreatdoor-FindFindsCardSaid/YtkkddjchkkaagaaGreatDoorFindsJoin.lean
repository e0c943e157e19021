/- FindFinds: the loops joined. -/
import Derived.Test.YtkkddjchkkaagaaGreatDoorFindsEnds
import Derived.Test.YtkkddjchkkaagaaGreatDoorFailsSteps

namespace Go.Proofs.YtkkddjchkkaagaaGreatDoor
open Go Go.Hx
set_option maxRecDepth 8000
theorem kl_same {T : Nat} {sf : Int → Nat} {W all : List Int} {R st : Int} {i : Nat} {s : LS} (d : DK T sf W all) (h : KL T W i s) (hi : i < T + 2) (hm : mvB s W = false) : (lStep T R s W st).s.told = s.told := by
  have w2 := d.w2
  unfold lStep
  rw [w2]
  rcases h.ph with e | e | e | e
  · exact absurd (h.p0 e).1 (by omega)
  · rw [if_pos e, if_neg (by decide), (h.p1 e).2]
  · rw [if_neg (by omega), if_pos e]
    unfold mvB at hm
    rw [decide_eq_true e, Bool.true_and] at hm
    dsimp only
    rw [if_neg (by rw [hm]; decide)]
  · rw [if_neg (by omega), if_neg (by omega), if_pos (h.p4 e).2.1.symm]
section
variable {bb : Bool} {z : List Int} {T : Nat} {R k key : Int} {W1 all : List Int} {q : Option (List Int)} {n0 : Int} {ρ : Nat → Nat × Nat} {w : World} {I : Act → World → Prop}
/-- What is so all along. -/
structure KC (T : Nat) (R : Int) (W1 all : List Int) (k : Int) : Prop where
  t1 : 1 ≤ T
  t8 : T ≤ 8
  r1 : 1 ≤ R
  r4 : R ≤ 4
  d : DK T (sfV T R) W1 all
  a8 : all.length ≤ 8
  k1 : 1 ≤ k
  k2 : k ≤ 20
theorem KC.fb (c : KC T R W1 all k) {st : Int} (h0 : 0 ≤ st) (h1 : st < 1000000) : FB T R W1 st := ⟨c.t1, c.t8, c.r1, c.r4, c.d.hl, c.d.bd, h0, h1⟩
set_option maxHeartbeats 8000000 in
/-- Both runs are done. -/
theorem kL_end (c : KC T R W1 all k) {y : AQ} {f : FS} {l : LS} {m0 : Int} (hf : KF T (sfV T R) W1 all k (T + 3) f) (hl : KL T W1 (T + 2) l) (hm1 : n0 ≤ m0) (hm2 : m0 - n0 ≤ (T : Int) + 3) :
    KG (kp0 T R) bb z ρ w I 21 (k4T W1 (opL all) k n0 m0 (T + 2)) (kfH bb z T R y W1 (opL all) f l) := by
  obtain ⟨W, st, kd, wd, vl, ch⟩ := y
  have t8 := c.t8
  have hr := right_FR c.t1 c.t8 c.r1 c.r4
  have hX := hXKl (kp0 T R)
  have f0 := hf.fin
  obtain ⟨l0, lt⟩ := hl.fin
  have ler := hl.er
  have lfd := hl.fd
  have fk := hf.key
  have ke := hf.p0 f0
  have dt := c.d.told
  have e2 : IntKind.i64.wrap ((T : Int) + 2) = (T : Int) + 2 := wi64 (by omega) (by omega)
  have h1 : ¬ ((T + 2 : Nat) : Int) < (T : Int) + 2 := by omega
  have nx : ∀ (p : KP), SS (hXKl p) (At ρ w) (Is .tt [keE bb z, pinE RTV]) ⟨[], [], Tryz.f5, Tryz.f5.ntmps, [keE bb z, pinE RTV], contF Tryz.f5 24 [], k24T W1 (opL all) k n0 m0, kfH bb z T R ⟨W, st, kd, wd, vl, ch⟩ W1 (opL all) f l⟩ → KG (kp0 T R) bb z ρ w I 21 (k4T W1 (opL all) k n0 m0 (T + 2)) (kfH bb z T R ⟨W, st, kd, wd, vl, ch⟩ W1 (opL all) f l) := fun p h => by
    dsimp only [KG, k4T, kfH, kdH]
    dsimp only [k24T, kfH, kdH] at h
    refine sxb hX [.r 24] [] 4000 rfl (by (simp [-List.getD_eq_getElem?_getD, -List.length_eq_zero_iff, conjP])) ?_
    refine sxb hX [.r 24] [.F] 4000 rfl (by (simp [-List.getD_eq_getElem?_getD, -List.length_eq_zero_iff, conjP, addOP, e2])) ?_
    (refine ss_sub hX (T' := k24T W1 (opL all) k n0 m0) (H' := kfH bb z T R ⟨W, st, kd, wd, vl, ch⟩ W1 (opL all) f l) [0, 1, 2, 3, 4, 5, 6, 7, 8, 9] rfl rfl rfl (by cases bb <;> rfl) ?tt ?hh ?ot ?ok ?jj; (case tt => (try simp only [ewi]); exact clhK); (case hh => exact clhK); (case ot => exact clkK); (case ok => exact clkK); (case jj => exact ss_sw hX (sw_ss (hXKl p) (cs := []) h)))
  obtain ⟨key, ph, seq, j, fd, pl, ep, lg, er, tm⟩ := f
  obtain ⟨ph2, seq2, j2, fd2, told2, er2, tm2⟩ := l
  dsimp only at f0 fk l0 lt ler ke
  subst f0; subst fk; subst l0; subst lt; subst ler
  have hk : hasL all key = true ↔ key ∈ all := hasL_iff
  by_cases hn : kyF W1 T = []
  · have ha : all = [] := by
      have := dt.length_eq
      rw [srt_len, hn] at this
      exact List.length_eq_zero_iff.1 this.symm
    have et : toldK W1 T = none := by unfold toldK; rw [if_pos hn]
    subst ha
    rcases ke with ⟨a, _, b1, b2, b3⟩ | ⟨_, b, _⟩
    · dsimp only at a b1 b2 b3
      subst a; subst b1; subst b2; subst b3
      rw [et] at nx ⊢
      exact nx _ (kend0 t8 hm1 hm2)
    · cases b
  · have et : toldK W1 T = some (kyF W1 T) := by unfold toldK; rw [if_neg hn]
    have hlen := dt.length_eq
    have hsl := srt_len (kyF W1 T)
    have hp0 : 0 < (kyF W1 T).length := List.length_pos_iff.2 hn
    have ha : ¬ all = [] := fun e => by rw [e] at hlen; have h9 : (srt (kyF W1 T)).length = 0 := hlen; omega
    have hall : ∀ i, i < (srt (kyF W1 T)).length → hasL all ((srt (kyF W1 T)).getD i 0) = true := fun i hi => by
      rw [hasL_iff, ← dt.mem_iff, List.getD_eq_getElem?_getD, List.getElem?_eq_getElem hi]
      exact List.getElem_mem hi
    have l8 : (kyF W1 T).length ≤ 8 := by have := kyF_len (W := W1) T; omega
    rw [et, opL_some ha] at nx ⊢
    rcases ke with ⟨a, b0, b1, b2, b3⟩ | ⟨a, b0, b1, b2, p, hp, b3, b4⟩
    · dsimp only at a b1 b2 b3
      subst a; subst b1; subst b2; subst b3
      exact nx _ (kendn t8 hm1 hm2 hp0 l8 c.a8 hlen hall (fun i hi => c.d.told_up hi) (by rcases q : hasL all key with _ | _; rfl; exact absurd (hk.1 q) b0))
    · dsimp only at a b1 b2 b3
      subst a; subst b1; subst b2; subst b3
      exact nx _ (kendy t8 hm1 hm2 hp0 l8 c.a8 hlen hall (fun i hi => c.d.told_up hi) (hk.2 b0) hr hp c.d.hl b4 c.k1 c.k2)
/-- A round of the loop that lists. -/
theorem kL_rnd (c : KC T R W1 all k) {y : AQ} {f : FS} {l : LS} {m0 : Int} {i : Nat} (hi : i < T + 2) (hl : KL T W1 i l) (hlc : LC T R l) (hy : y.W = W1) (st0 : 0 ≤ y.st) (st1 : y.st < 1000000)
    (back : ∀ (p : KP) y' l', y'.W = W1 → y'.st = y.st + 1 → KL T W1 (i + 1) l' → (l'.ph ≠ 0 → LC T R l') → KJ p bb z ρ w I 21 (k4T W1 q k n0 m0 (i + 1)) (kfH bb z T R y' W1 q f l')) :
    KG (kp0 T R) bb z ρ w I 21 (k4T W1 q k n0 m0 i) (kfH bb z T R y W1 q f l) := by
  obtain ⟨W, st, kd, wd, vl, ch⟩ := y
  dsimp only at hy st0 st1
  subst hy
  have hb := c.fb st0 st1
  have t8 := c.t8
  have hs := hl.step (R := R) (st := st) c.d hi
  have hc : (lStep T R l W st).s.ph ≠ 0 → LC T R (lStep T R l W st).s := lStep_c hb hlc
  have hm := (lt_mv (rfl : lStep T R l W st = _)).1
  have hsm := kl_same (R := R) (st := st) c.d hl hi
  have hj8 : l.i ≤ 8 := by have := hl.it; omega
  generalize hr : lStep T R l W st = r at hs hc hm hsm
  rcases hmv : mvB l W with _ | _
  · have ht := hsm hmv
    obtain ⟨ph0, seq0, j0, fd0, told0, er0, tm0⟩ := l
    obtain ⟨⟨ph', seq', j', fd', told', er', tm'⟩, wd', vl'⟩ := r
    dsimp only at ht hj8 hs hc
    subst ht
    rcases told' with _ | l0
    · exact ss_sw (hXKl (kp0 T R)) (sw_ss (hXKl ⟨false, T, R, 0, f00, ⟨f00, 0, 0⟩, false, ⟨ph0, seq0, j0, fd0, none, er0, tm0⟩, ⟨⟨ph', seq', j', fd', none, er', tm'⟩, wd', vl'⟩, 0, 0, 9⟩) (cs := []) (kla hi t8 ⟨hb, hlc, hr, hmv⟩ (back _ ⟨W, st + 1, 1, wd', vl', false⟩ _ rfl rfl hs hc)))
    · exact ss_sw (hXKl (kp0 T R)) (sw_ss (hXKl ⟨false, T, R, 0, f00, ⟨f00, 0, 0⟩, false, ⟨ph0, seq0, j0, fd0, some l0, er0, tm0⟩, ⟨⟨ph', seq', j', fd', some l0, er', tm'⟩, wd', vl'⟩, 0, 0, 9⟩) (cs := []) (kld hi t8 ⟨hb, hlc, hr, hmv, hj8⟩ (back _ ⟨W, st + 1, 1, wd', vl', false⟩ _ rfl rfl hs hc)))
  · obtain ⟨l', ht⟩ := hm hmv
    obtain ⟨ph0, seq0, j0, fd0, told0, er0, tm0⟩ := l
    obtain ⟨⟨ph', seq', j', fd', told', er', tm'⟩, wd', vl'⟩ := r
    dsimp only at ht hj8 hs hc
    subst ht
    rcases told0 with _ | l0
    · exact ss_sw (hXKl (kp0 T R)) (sw_ss (hXKl ⟨false, T, R, 0, f00, ⟨f00, 0, 0⟩, true, ⟨ph0, seq0, j0, fd0, none, er0, tm0⟩, ⟨⟨ph', seq', j', fd', some l', er', tm'⟩, wd', vl'⟩, 0, 0, 9⟩) (cs := []) (klb hi t8 ⟨hb, hlc, hr, hmv⟩ (back _ ⟨W, st + 1, 1, wd', vl', false⟩ _ rfl rfl hs hc)))
    · exact ss_sw (hXKl (kp0 T R)) (sw_ss (hXKl ⟨false, T, R, 0, f00, ⟨f00, 0, 0⟩, true, ⟨ph0, seq0, j0, fd0, some l0, er0, tm0⟩, ⟨⟨ph', seq', j', fd', some l', er', tm'⟩, wd', vl'⟩, 0, 0, 9⟩) (cs := []) (kle hi t8 ⟨hb, hlc, hr, hmv, hj8⟩ (back _ ⟨W, st + 1, 1, wd', vl', false⟩ _ rfl rfl hs hc)))
theorem k_lc (c : KC T R W1 all k) : LC T R ⟨1, 0, 0, 0, none, 0, 0⟩ := ⟨.inl rfl, Int.le_refl 0, by have := c.r1; show (0 : Int) < R; omega, fun q => absurd q (show ¬ (1 : Nat) = 2 by decide), Nat.zero_le _⟩
theorem k_fc (c : KC T R W1 all k) : FC T R ⟨k, 1, 0, 0, 0, 0, 0, false, 0, 0⟩ := fc_new c.k1 (by have := c.k2; omega) c.r1
set_option maxHeartbeats 8000000 in
/-- The run that finds is done: on to the loop that lists. -/
theorem kF_end (c : KC T R W1 all k) {y : AQ} {f : FS} (hf : KF T (sfV T R) W1 all k (T + 3) f) (hy : y.W = W1) (st0 : 0 ≤ n0) (st1 : n0 ≤ y.st) (st2 : y.st ≤ n0 + (T : Int) + 3) (st3 : n0 ≤ 1000) :
    KG (kp0 T R) bb z ρ w I 16 (k2T W1 (opL all) k n0 (T + 3)) (kfH bb z T R y W1 (opL all) f ⟨1, 0, 0, 0, none, 0, 0⟩) := by
  have t8 := c.t8
  have hX := hXKl (kp0 T R)
  have e3 : IntKind.i64.wrap ((T : Int) + 3) = (T : Int) + 3 := wi64 (by omega) (by omega)
  have h1 : ¬ ((T + 3 : Nat) : Int) < (T : Int) + 3 := by omega
  have inner : ∀ I2 i y' l', i ≤ T + 2 → y'.W = W1 → y'.st = y.st + (i : Int) → KL T W1 i l' → (l'.ph ≠ 0 → LC T R l') → (∀ p y'' l'', i < T + 2 → y''.W = W1 → y''.st = y.st + ((i + 1 : Nat) : Int) → KL T W1 (i + 1) l'' → (l''.ph ≠ 0 → LC T R l'') → KJ p bb z ρ w I2 21 (k4T W1 (opL all) k n0 y.st (i + 1)) (kfH bb z T R y'' W1 (opL all) f l'')) →
      KG (kp0 T R) bb z ρ w I2 21 (k4T W1 (opL all) k n0 y.st i) (kfH bb z T R y' W1 (opL all) f l') := fun I2 i y' l' hi h1 h2 h3 h4 back => by
    by_cases hlt : i < T + 2
    · have ph : l'.ph ≠ 0 := fun e => by have := (h3.p0 e).1; omega
      exact kL_rnd c hlt h3 (h4 ph) h1 (by omega) (by omega) (fun p y'' l'' a1 a2 a3 a4 => back p y'' l'' hlt a1 (by rw [a2, h2]; omega) a3 a4)
    · have e : i = T + 2 := by omega
      subst e
      exact kL_end c hf h3 st1 (by omega)
  obtain ⟨W, st, kd, wd, vl, ch⟩ := y
  dsimp only at hy st1 st2
  subst hy
  have st9 : -1000 ≤ st := by omega
  dsimp only [KG, k2T, kfH, kdH]
  refine sxb hX [.l] [] 4000 rfl (by (simp [-List.getD_eq_getElem?_getD, -List.length_eq_zero_iff, conjP])) ?_
  refine sxb hX [.l] [.F] 4000 rfl (by (simp [-List.getD_eq_getElem?_getD, -List.length_eq_zero_iff, conjP, e3])) ?_
  (refine ss_sub hX (T' := k4T W (opL all) k n0 st 0) (H' := kfH bb z T R ⟨W, st, kd, wd, vl, ch⟩ W (opL all) f ⟨1, 0, 0, 0, none, 0, 0⟩) [0, 1, 2, 3, 4, 5, 6, 7, 8, 9] rfl rfl rfl (by cases bb <;> rfl) ?tt ?hh ?ot ?ok ?jj; (case tt => (try simp only [ewi]); exact clhK); (case hh => exact clhK); (case ot => exact clkK); (case ok => exact clkK); (case jj => refine ss_loop hX (fun x : Nat × AQ × LS => k4T W (opL all) k n0 st x.1) (fun x => kfH bb z T R x.2.1 W (opL all) f x.2.2) (fun x => x.1 ≤ T + 2 ∧ x.2.1.W = W ∧ x.2.1.st = st + (x.1 : Int) ∧ KL T W x.1 x.2.2 ∧ (x.2.2.ph ≠ 0 → LC T R x.2.2)) (fun x => T + 2 - x.1) (0, ⟨W, st, kd, wd, vl, ch⟩, ⟨1, 0, 0, 0, none, 0, 0⟩) ⟨Nat.zero_le _, rfl, (Int.add_zero st).symm, KL.new, fun _ => k_lc c⟩ ?_; rintro ⟨i, y', l'⟩ ⟨b1, b2, b3, b4, b5⟩ I2 back; refine sxb hX [.r 21] [] 100 rfl trivial ?_; exact ss_sw hX (sw_ss hX (cs := []) (inner I2 i y' l' b1 b2 b3 b4 b5 (fun p y'' l'' a0 a1 a2 a3 a4 cs TT H hsub => ss_sw (hXKl p) (sw_ss hX (back (i + 1, y'', l'') ⟨a0, a1, a2, a3, a4⟩ (by show T + 2 - (i + 1) < T + 2 - i; omega) cs TT H hsub)))))))
set_option maxHeartbeats 8000000 in
/-- All words are stored: on to the loop that finds. -/
theorem kA_end (c : KC T R W1 all k) (hk : cRem 1 20 key = k) {y : AQ} (hy : y.W = W1) (st0 : 0 ≤ y.st) (st1 : y.st ≤ 900) :
    KG (kp0 T R) bb z ρ w I 8 (k1T W1 (opL all) key W1.length) (kdH bb z T R y W1 (opL all) []) := by
  have t1 := c.t1
  have t8 := c.t8
  have hr := right_FR c.t1 c.t8 c.r1 c.r4
  have k1 := c.k1
  have k2 := c.k2
  have hX := hXKl (kp0 T R)
  have kn2 : k ≤ 2147483647 := by omega
  obtain ⟨s1, s2⟩ := sfV_at c.t1 c.t8 c.r1 c.r4 c.k1 c.k2
  have sn := start_nn hr c.k1 kn2
  have sn2 : ¬ startV (T : Int) 4 1 2 4 1 6 0 R k = -1 := by omega
  have ek : IntKind.i64.wrap (1 + (IntKind.i64.wrap (key.tmod 20 + 20)).tmod 20) = k := hk
  have h1 : ¬ (W1.length : Int) < (W1.length : Int) := by omega
  have inner : ∀ I2 i y' f', i ≤ T + 3 → y'.W = W1 → y.st ≤ y'.st → y'.st ≤ y.st + (i : Int) → KF T (sfV T R) W1 all k i f' → (f'.ph ≠ 0 → FC T R f') → (∀ p y'' f'', i < T + 3 → y''.W = W1 → y.st ≤ y''.st → y''.st ≤ y.st + ((i + 1 : Nat) : Int) → KF T (sfV T R) W1 all k (i + 1) f'' → (f''.ph ≠ 0 → FC T R f'') → KJ p bb z ρ w I2 16 (k2T W1 (opL all) k y.st (i + 1)) (kfH bb z T R y'' W1 (opL all) f'' ⟨1, 0, 0, 0, none, 0, 0⟩)) →
      KG (kp0 T R) bb z ρ w I2 16 (k2T W1 (opL all) k y.st i) (kfH bb z T R y' W1 (opL all) f' ⟨1, 0, 0, 0, none, 0, 0⟩) := fun I2 i y' f' hi h1 h2 h3 h4 h5 back => by
    by_cases hlt : i < T + 3
    · by_cases ph : f'.ph = 0
      · exact ss_sw hX (sw_ss (hXKl ⟨true, T, R, 0, f', ⟨f00, 0, 0⟩, false, l00, ⟨l00, 0, 0⟩, 0, 0, 9⟩) (cs := []) (kf0 hlt t8 ph (back _ y' f' hlt h1 h2 (by omega) (h4.done ph) h5)))
      · have hb : FB T R y'.W y'.st := by rw [h1]; exact c.fb (by omega) (by omega)
        have hs := h4.step (R := R) (st := y'.st) c.d c.k1 c.k2 s2 ph
        have hc := fStep_c (start := sfV T R k) hb (h5 ph)
        have hk2 := h4.key
        rw [← h1] at hs
        refine ss_sw hX (sw_ss (hXKl ⟨false, T, R, sfV T R k, f', fStep T R (sfV T R k) f' y'.W y'.st, false, l00, ⟨l00, 0, 0⟩, 0, 0, 9⟩) (cs := []) (kf1 hlt t8 ⟨hb, h5 ph, s2, by rw [hk2]; exact s1, rfl⟩ (back _ ⟨y'.W, y'.st + 1, 1, _, _, false⟩ _ hlt h1 (by show y.st ≤ y'.st + 1; omega) (by show y'.st + 1 ≤ _; omega) (by rw [h1] at hs ⊢; exact hs) hc)))
    · have e : i = T + 3 := by omega
      subst e
      exact kF_end c h4 h1 st0 h2 (by omega) (by omega)
  obtain ⟨W, st, kd, wd, vl, ch⟩ := y
  dsimp only at hy st0 st1
  subst hy
  dsimp only [KG, k1T, kdH]
  refine sxb hX [.l] [] 4000 rfl (by (simp [-List.getD_eq_getElem?_getD, -List.length_eq_zero_iff, conjP])) ?_
  refine sxb hX [.l] [.F] 4000 rfl (by (simp [-List.getD_eq_getElem?_getD, -List.length_eq_zero_iff, conjP, h1])) ?_
  refine sxb hX [.l] [.F] 4000 rfl (by (simp [-List.getD_eq_getElem?_getD, -List.length_eq_zero_iff, conjP, addOP, ek, sn2])) ?_
  refine sxb hX [.l] [.F] 4000 rfl (by (simp [-List.getD_eq_getElem?_getD, -List.length_eq_zero_iff, conjP, hr])) ?_
  (refine ss_sub hX (T' := k2T W (opL all) k st 0) (H' := kfH bb z T R ⟨W, st, kd, wd, vl, ch⟩ W (opL all) ⟨k, 1, 0, 0, 0, 0, 0, false, 0, 0⟩ ⟨1, 0, 0, 0, none, 0, 0⟩) [0, 1, 2, 3, 4, 5, 6, 8, 11, 60] rfl rfl rfl (by cases bb <;> rfl) ?tt ?hh ?ot ?ok ?jj; (case tt => (try simp only [ek]); exact clhK); (case hh => exact clhK); (case ot => exact clkK); (case ok => exact clkK); (case jj => refine ss_loop hX (fun x : Nat × AQ × FS => k2T W (opL all) k st x.1) (fun x => kfH bb z T R x.2.1 W (opL all) x.2.2 ⟨1, 0, 0, 0, none, 0, 0⟩) (fun x => x.1 ≤ T + 3 ∧ x.2.1.W = W ∧ st ≤ x.2.1.st ∧ x.2.1.st ≤ st + (x.1 : Int) ∧ KF T (sfV T R) W all k x.1 x.2.2 ∧ (x.2.2.ph ≠ 0 → FC T R x.2.2)) (fun x => T + 3 - x.1) (0, ⟨W, st, kd, wd, vl, ch⟩, ⟨k, 1, 0, 0, 0, 0, 0, false, 0, 0⟩) ⟨Nat.zero_le _, rfl, Int.le_refl _, (by show st ≤ st + ((0 : Nat) : Int); omega), KF.new, fun _ => k_fc c⟩ ?_; rintro ⟨i, y', f'⟩ ⟨b1, b2, b3, b4, b5, b6⟩ I2 back; refine sxb hX [.r 16] [] 100 rfl trivial ?_; exact ss_sw hX (sw_ss hX (cs := []) (inner I2 i y' f' b1 b2 b3 b4 b5 b6 (fun p y'' f'' a0 a1 a2 a3 a4 a5 cs TT H hsub => ss_sw (hXKl p) (sw_ss hX (back (i + 1, y'', f'') ⟨a0, a1, a2, a3, a4, a5⟩ (by show T + 3 - (i + 1) < T + 3 - i; omega) cs TT H hsub)))))))
end
end Go.Proofs.YtkkddjchkkaagaaGreatDoor
