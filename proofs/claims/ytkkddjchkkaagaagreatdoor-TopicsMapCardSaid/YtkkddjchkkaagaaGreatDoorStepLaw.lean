/- What is so of each run, and of the words, whoever does what. -/
import Derived.Test.YtkkddjchkkaagaaGreatDoorStepRows
import Derived.Test.YtkkddjchkkaagaaGreatDoorDirMeasure
namespace Go.Proofs.YtkkddjchkkaagaaGreatDoor
open Go Go.Hx
set_option maxRecDepth 8000
def sfT (T : Nat) (R : Int) (key : Int) : Nat := (startV (T : Int) 4 1 4 4 1 6 0 R key).toNat
/-- Of a run that is under way; n: a bound. -/
structure TC (T : Nat) (R n : Int) (s : TS) : Prop where
  k1 : 1 ≤ s.key
  k6 : s.key ≤ 6
  p1 : 1 ≤ s.ph
  p7 : s.ph ≤ 7
  e0 : s.ph ≤ 6 → s.er = 0
  q0 : 0 ≤ s.seq
  q1 : s.seq ≤ n
  f0 : 0 ≤ s.fd
  f1 : s.fd < R
  g0 : 0 ≤ s.fl
  g1 : s.ph ≤ 6 → s.fl < R
  g2 : s.fl ≤ R
  it : s.ph ≤ 3 → s.i < T
  n0 : 0 ≤ s.sn
  n1 : s.sn < 18446744073709551616
  pc : s.rm = false → s.ph = 3 → s.pl = -1 ∨ ∃ p : Nat, p < T ∧ s.pl = (p : Int)
  pe : 4 ≤ s.ph → s.ph ≤ 6 → ∃ p : Nat, p < T ∧ s.pl = (p : Int)
  pi : s.rm = false → s.ph ≤ 2 → s.pl = -1
/-- Of the words. -/
structure BI (T : Nat) (R n : Int) (W : List Int) (st : Int) : Prop where
  t1 : 1 ≤ T
  t4 : T ≤ 4
  r1 : 1 ≤ R
  r8 : R ≤ 8
  n0 : 0 ≤ n
  n1 : n ≤ 10000
  hl : W.length = 11 + 10 * T
  hw : ∀ j, 0 ≤ W.getD j 0 ∧ W.getD j 0 < 18446744073709551616
  w2 : W.getD 2 0 ≤ n
  s0 : 0 ≤ st
  s1 : st ≤ 1000 + n
theorem rg_set {W : List Int} {k : Nat} {v : Int} (h : ∀ j, 0 ≤ W.getD j 0 ∧ W.getD j 0 < 18446744073709551616) (h0 : 0 ≤ v) (h1 : v < 18446744073709551616) : ∀ j, 0 ≤ (W.set k v).getD j 0 ∧ (W.set k v).getD j 0 < 18446744073709551616 := fun j => by
  rw [set_getD]
  split
  · exact ⟨h0, h1⟩
  · exact h j
theorem gone_r {w : Int} : 0 ≤ goneW w ∧ goneW w < 18446744073709551616 := pk_r gone_fitW false false
theorem born_r {w : Int} (w0 : 0 ≤ w) : 0 ≤ bornW w ∧ bornW w < 18446744073709551616 := pk_r ⟨ep_lo w0, ep_hi, by decide, by decide, by decide, by decide⟩ true false
theorem enK_r {k : Int} {b : Bool} (h1 : 1 ≤ k) (h6 : k ≤ 6) : 0 ≤ enK k b ∧ enK k b < 18446744073709551616 := by
  unfold enK
  split <;> omega
section
variable {T : Nat} {R n st : Int} {s : TS} {W : List Int}
theorem TC.mono {m : Int} (C : TC T R n s) (h : n ≤ m) : TC T R m s := ⟨C.k1, C.k6, C.p1, C.p7, C.e0, C.q0, Int.le_trans C.q1 h, C.f0, C.f1, C.g0, C.g1, C.g2, C.it, C.n0, C.n1, C.pc, C.pe, C.pi⟩
theorem BI.mono {m : Int} (B : BI T R n W st) (h : n ≤ m) (h2 : m ≤ 10000) : BI T R m W st := by
  have h3 := B.n0
  have h4 := B.s1
  exact ⟨B.t1, B.t4, B.r1, B.r8, by omega, h2, B.hl, B.hw, Int.le_trans B.w2 h, B.s0, by omega⟩
theorem sf_eq (t1 : 1 ≤ T) (t4 : T ≤ 4) (r1 : 1 ≤ R) (r8 : R ≤ 8) {key : Int} (k1 : 1 ≤ key) (k6 : key ≤ 6) : startV (T : Int) 4 1 4 4 1 6 0 R key = ((sfT T R key : Nat) : Int) ∧ sfT T R key < T := by
  obtain ⟨a, b⟩ := start_nn (right_TR t1 t4 r1 r8) k1 (show key ≤ 2147483647 by omega)
  unfold sfT
  omega
theorem pre_of (B : BI T R n W st) (C : TC T R n s) : TPre T R (sfT T R s.key) s W st := by
  obtain ⟨e1, e2⟩ := sf_eq B.t1 B.t4 B.r1 B.r8 C.k1 C.k6
  have h1 := B.n1
  have h2 := B.s1
  have h3 := C.q1
  exact ⟨B.t1, B.t4, B.r1, B.r8, e1, e2, B.hl, B.hw, B.s0, by omega, C.k1, C.k6, C.p1, C.p7, C.e0, C.q0, by omega, C.f0, C.f1, C.g0, C.g1, C.it, C.n0, C.n1, C.pc, C.pe⟩
theorem bi_set (B : BI T R n W st) (h : n + 2 ≤ 10000) {k : Nat} {v : Int} (h0 : 0 ≤ v) (h1 : v < 18446744073709551616) (h2 : k = 2 → v ≤ n + 2) : BI T R (n + 2) (W.set k v) (st + 1) := by
  have n0 := B.n0
  have s0 := B.s0
  have s1 := B.s1
  have w2 := B.w2
  refine ⟨B.t1, B.t4, B.r1, B.r8, by omega, h, by simp only [List.length_set]; exact B.hl, rg_set B.hw h0 h1, ?_, by omega, by omega⟩
  rw [set_getD]
  split
  · rename_i q; exact h2 q.1
  · omega
theorem bi_same (B : BI T R n W st) (h : n + 2 ≤ 10000) : BI T R (n + 2) W (st + 1) := by
  have n0 := B.n0
  have s0 := B.s0
  have s1 := B.s1
  have w2 := B.w2
  exact ⟨B.t1, B.t4, B.r1, B.r8, by omega, h, B.hl, B.hw, by omega, by omega, by omega⟩
theorem new_tc (B : BI T R n W st) {rm lg : Bool} {key : Int} (k1 : 1 ≤ key) (k6 : key ≤ 6) : TC T R n (newT rm lg key) := by
  have t1 := B.t1
  have r1 := B.r1
  have n0 := B.n0
  unfold newT
  refine ⟨k1, k6, by dsimp only; omega, by dsimp only; omega, fun _ => rfl, by dsimp only; omega, by dsimp only; omega, by dsimp only; omega, by dsimp only; omega, by dsimp only; omega, fun _ => by dsimp only; omega, by dsimp only; omega, fun _ => by dsimp only; omega, by dsimp only; omega, by dsimp only; omega, fun _ q => by dsimp only at q; omega, fun q _ => by dsimp only at q; omega, fun q _ => ?_⟩
  dsimp only at q ⊢
  subst q
  rfl
/-- What becomes of it all by a step. -/
structure StK (T : Nat) (R n st : Int) (s : TS) (r : TR) : Prop where
  b : BI T R (n + 2) r.W (st + 1)
  c : r.s.ph ≠ 0 → TC T R (n + 2) r.s
  rm : r.s.rm = s.rm
  key : r.s.key = s.key
  lg : r.s.lg = s.lg
set_option maxHeartbeats 4000000 in
theorem step_k (B : BI T R n W st) (C : TC T R n s) (h : n + 2 ≤ 10000) : StK T R n st s (tStep T R (sfT T R s.key) s W st) := by
  obtain ⟨rm, lg, key, ph, seq, i, fd, hd, tm, er, pl, sn, fl, bk, ep, tp, tl⟩ := s
  obtain ⟨k1, k6, p1, p7, e0, q0, q1, f0, f1, g0, g1, g2, it, n0, n1, pc, pe, pi⟩ := C
  dsimp only at k1 k6 p1 p7 e0 q0 q1 f0 f1 g0 g1 g2 it n0 n1 pc pe pi
  have b1 := bi_same B h
  have hn := B.n1
  have t1 := B.t1
  have w2 := B.hw 2
  have w2n := B.w2
  have hp : ph = 1 ∨ ph = 2 ∨ ph = 3 ∨ ph = 4 ∨ ph = 5 ∨ ph = 6 ∨ ph = 7 := by omega
  have fail : ∀ s' : TS, s'.rm = rm → s'.key = key → s'.lg = lg → s'.fd = fd → s'.fl = fl → s'.i = i → s'.sn = sn → s'.pl = pl → s'.er = 0 → 0 ≤ s'.seq → s'.seq ≤ n → ph ≤ 2 → (((tFail R s').ph ≠ 0 → TC T R (n + 2) (tFail R s')) ∧ (tFail R s').rm = rm ∧ (tFail R s').key = key ∧ (tFail R s').lg = lg) := by
    intro s' a1 a2 a3 a4 a5 a6 a7 a8 a9 a10 a11 hph
    unfold tFail
    split
    · exact ⟨fun q => absurd rfl q, a1, a2, a3⟩
    · rename_i q
      have := it (by omega)
      have := g1 (by omega)
      refine ⟨fun _ => ⟨by dsimp only; omega, by dsimp only; omega, by dsimp only; omega, by dsimp only; omega, fun _ => a9, a10, by dsimp only; omega, by dsimp only; omega, by dsimp only; omega, by dsimp only; omega, fun _ => by dsimp only; omega, by dsimp only; omega, fun _ => by dsimp only; omega, by dsimp only; omega, by dsimp only; omega, fun _ q => by dsimp only at q; omega, fun q _ => by dsimp only at q; omega, fun q2 _ => ?_⟩, a1, a2, a3⟩
      dsimp only at q2 ⊢
      rw [a8]
      exact pi (by rw [← a1]; exact q2) hph
  have more : ∀ s' : TS, s'.rm = rm → s'.key = key → s'.lg = lg → s'.fd = fd → s'.fl = fl → 0 ≤ s'.sn → s'.sn < 18446744073709551616 → s'.pl = pl → s'.er = 0 → s'.seq = seq → 4 ≤ ph → ph ≤ 5 → (((tMore R s').ph ≠ 0 → TC T R (n + 2) (tMore R s')) ∧ (tMore R s').rm = rm ∧ (tMore R s').key = key ∧ (tMore R s').lg = lg) := by
    intro s' a1 a2 a3 a4 a5 a6 a7 a8 a9 a10 h4 h5
    have := g1 (by omega)
    unfold tMore
    split
    · exact ⟨fun _ => ⟨by dsimp only; omega, by dsimp only; omega, by dsimp only; omega, by dsimp only; omega, fun q => by dsimp only at q; omega, by dsimp only; omega, by dsimp only; omega, by dsimp only; omega, by dsimp only; omega, by dsimp only; omega, fun q => by dsimp only at q; omega, by dsimp only; omega, fun q => by dsimp only at q; omega, a6, a7, fun _ q => by dsimp only at q; omega, fun _ q => by dsimp only at q; omega, fun _ q => by dsimp only at q; omega⟩, a1, a2, a3⟩
    · refine ⟨fun _ => ⟨by dsimp only; omega, by dsimp only; omega, by dsimp only; omega, by dsimp only; omega, fun _ => a9, by dsimp only; omega, by dsimp only; omega, by dsimp only; omega, by dsimp only; omega, by dsimp only; omega, fun q => by dsimp only; omega, by dsimp only; omega, fun q => by dsimp only at q; omega, a6, a7, fun _ q => by dsimp only at q; omega, fun _ _ => ?_, fun _ q => by dsimp only at q; omega⟩, a1, a2, a3⟩
      dsimp only
      rw [a8]
      exact pe h4 (by omega)
  rcases hp with rfl | rfl | rfl | rfl | rfl | rfl | rfl
  · obtain rfl := e0 (by omega)
    unfold tStep
    dsimp only
    rw [if_pos rfl]
    split
    · obtain ⟨c1, c2, c3, c4⟩ := fail ⟨rm, lg, key, 1, W.getD 2 0, i, fd, hd, tm, 0, pl, sn, fl, bk, ep, tp, tl⟩ rfl rfl rfl rfl rfl rfl rfl rfl rfl w2.1 w2n (by omega)
      exact ⟨b1, c1, c2, c3, c4⟩
    · have := it (by omega)
      have := g1 (by omega)
      exact ⟨b1, fun _ => ⟨k1, k6, by dsimp only; omega, by dsimp only; omega, fun _ => rfl, w2.1, by dsimp only; omega, f0, f1, g0, fun _ => by dsimp only; omega, g2, fun _ => by dsimp only; omega, n0, n1, fun _ q => by dsimp only at q; omega, fun q _ => by dsimp only at q; omega, fun q _ => pi q (by omega)⟩, rfl, rfl, rfl⟩
  · obtain rfl := e0 (by omega)
    unfold tStep
    dsimp only
    rw [if_neg (by decide), if_pos rfl]
    split
    · have := it (by omega)
      have := g1 (by omega)
      exact ⟨bi_set B h (by omega) (by omega) (fun _ => by omega), fun _ => ⟨k1, k6, by dsimp only; omega, by dsimp only; omega, fun _ => rfl, q0, by dsimp only; omega, f0, f1, g0, fun _ => by dsimp only; omega, g2, fun _ => by dsimp only; omega, n0, n1, fun q _ => .inl (pi q (by omega)), fun q _ => by dsimp only at q; omega, fun _ q => by dsimp only at q; omega⟩, rfl, rfl, rfl⟩
    · obtain ⟨c1, c2, c3, c4⟩ := fail ⟨rm, lg, key, 2, seq, i, fd, false, tm, 0, pl, sn, fl, bk, ep, tp, tl⟩ rfl rfl rfl rfl rfl rfl rfl rfl rfl q0 q1 (by omega)
      exact ⟨b1, c1, c2, c3, c4⟩
  · obtain rfl := e0 (by omega)
    have ht := it (by omega)
    have hg := g1 (by omega)
    have hpl : tPl T (sfT T R key) i < T := tPl_lt t1 i
    have fin : ∀ s' : TS, s'.ph = 7 → s'.rm = rm → s'.key = key → s'.lg = lg → s'.fd = fd → s'.fl = fl → s'.sn = sn → s'.seq = seq → StK T R n st ⟨rm, lg, key, 3, seq, i, fd, hd, tm, 0, pl, sn, fl, bk, ep, tp, tl⟩ ⟨s', W, 1, (eP (tPl T (sfT T R key) i) : Int), W.getD (eP (tPl T (sfT T R key) i)) 0, false⟩ := by
      intro s' a0 a1 a2 a3 a4 a5 a6 a7
      exact ⟨b1, fun _ => ⟨by dsimp only; omega, by dsimp only; omega, by dsimp only; omega, by dsimp only; omega, fun q => by dsimp only at q; omega, by dsimp only; omega, by dsimp only; omega, by dsimp only; omega, by dsimp only; omega, by dsimp only; omega, fun q => by dsimp only at q; omega, by dsimp only; omega, fun q => by dsimp only at q; omega, by dsimp only; omega, by dsimp only; omega, fun _ q => by dsimp only at q; omega, fun _ q => by dsimp only at q; omega, fun _ q => by dsimp only at q; omega⟩, a1, a2, a3⟩
    have four : ∀ s' : TS, s'.ph = 4 → s'.rm = rm → s'.key = key → s'.lg = lg → s'.fd = fd → s'.fl = fl → s'.sn = sn → s'.seq = seq → s'.er = 0 → (∃ p : Nat, p < T ∧ s'.pl = (p : Int)) → StK T R n st ⟨rm, lg, key, 3, seq, i, fd, hd, tm, 0, pl, sn, fl, bk, ep, tp, tl⟩ ⟨s', W, 1, (eP (tPl T (sfT T R key) i) : Int), W.getD (eP (tPl T (sfT T R key) i)) 0, false⟩ := by
      intro s' a0 a1 a2 a3 a4 a5 a6 a7 a8 a9
      exact ⟨b1, fun _ => ⟨by dsimp only; omega, by dsimp only; omega, by dsimp only; omega, by dsimp only; omega, fun _ => a8, by dsimp only; omega, by dsimp only; omega, by dsimp only; omega, by dsimp only; omega, by dsimp only; omega, fun q => by dsimp only; omega, by dsimp only; omega, fun q => by dsimp only at q; omega, by dsimp only; omega, by dsimp only; omega, fun _ q => by dsimp only at q; omega, fun _ _ => a9, fun _ q => by dsimp only at q; omega⟩, a1, a2, a3⟩
    have on : ∀ s' : TS, s'.ph = 3 → s'.rm = rm → s'.key = key → s'.lg = lg → s'.fd = fd → s'.fl = fl → s'.sn = sn → s'.seq = seq → s'.er = 0 → s'.i < T → (rm = false → s'.pl = -1 ∨ ∃ p : Nat, p < T ∧ s'.pl = (p : Int)) → StK T R n st ⟨rm, lg, key, 3, seq, i, fd, hd, tm, 0, pl, sn, fl, bk, ep, tp, tl⟩ ⟨s', W, 1, (eP (tPl T (sfT T R key) i) : Int), W.getD (eP (tPl T (sfT T R key) i)) 0, false⟩ := by
      intro s' a0 a1 a2 a3 a4 a5 a6 a7 a8 a9 a10
      exact ⟨b1, fun _ => ⟨by dsimp only; omega, by dsimp only; omega, by dsimp only; omega, by dsimp only; omega, fun _ => a8, by dsimp only; omega, by dsimp only; omega, by dsimp only; omega, by dsimp only; omega, by dsimp only; omega, fun q => by dsimp only; omega, by dsimp only; omega, fun _ => a9, by dsimp only; omega, by dsimp only; omega, fun q _ => a10 (by rw [← a1]; exact q), fun q _ => by dsimp only at q; omega, fun _ q => by dsimp only at q; omega⟩, a1, a2, a3⟩
    have pc' : rm = false → ∀ b : Bool, (if b = false ∧ pl = -1 then ((tPl T (sfT T R key) i : Nat) : Int) else pl) = -1 ∨ ∃ p : Nat, p < T ∧ (if b = false ∧ pl = -1 then ((tPl T (sfT T R key) i : Nat) : Int) else pl) = (p : Int) := fun q b => by
      split
      · exact .inr ⟨_, hpl, rfl⟩
      · exact pc q rfl
    unfold tStep
    dsimp only
    rw [if_neg (by decide), if_neg (by decide), if_pos rfl]
    generalize (isK (W.getD (eP (tPl T (sfT T R key) i)) 0) && decide (W.getD (eP (tPl T (sfT T R key) i)) 0 / 4 = key)) = F
    generalize isK (W.getD (eP (tPl T (sfT T R key) i)) 0) = K at *
    rcases hl : (decide (W.getD (eP (tPl T (sfT T R key) i)) 0 = 0) || decide (i + 1 = T)) with _ | _
    · simp only [Bool.or_eq_false_iff, decide_eq_false_iff_not] at hl
      rcases rm with _ | _ <;> rcases F with _ | _
      · exact on _ rfl rfl rfl rfl rfl rfl rfl rfl rfl (by show i + 1 < T; omega) (fun q => pc' q K)
      · exact fin _ rfl rfl rfl rfl rfl rfl rfl rfl
      · exact on _ rfl rfl rfl rfl rfl rfl rfl rfl rfl (by show i + 1 < T; omega) (fun q => by cases q)
      · exact four _ rfl rfl rfl rfl rfl rfl rfl rfl rfl ⟨_, hpl, rfl⟩
    · rcases rm with _ | _ <;> rcases F with _ | _
      · simp only [Bool.false_eq_true, if_false, if_true]
        have pk := pc' rfl K
        generalize (if K = false ∧ pl = -1 then ((tPl T (sfT T R key) i : Nat) : Int) else pl) = pv at *
        by_cases hne : pv = -1
        · rw [if_pos hne]; exact fin _ rfl rfl rfl rfl rfl rfl rfl rfl
        · rw [if_neg hne]; exact four _ rfl rfl rfl rfl rfl rfl rfl rfl rfl (pk.resolve_left hne)
      · exact fin _ rfl rfl rfl rfl rfl rfl rfl rfl
      · exact fin _ rfl rfl rfl rfl rfl rfl rfl rfl
      · exact four _ rfl rfl rfl rfl rfl rfl rfl rfl rfl ⟨_, hpl, rfl⟩
  · obtain rfl := e0 (by omega)
    have hw := B.hw (cP T pl.toNat)
    have hg := g1 (by omega)
    unfold tStep
    dsimp only
    rw [if_neg (by decide), if_neg (by decide), if_neg (by decide), if_pos rfl]
    split
    · obtain ⟨c1, c2, c3, c4⟩ := more ⟨rm, lg, key, 4, seq, i, fd, hd, tm, 0, pl, W.getD (cP T pl.toNat) 0, fl, bk, ep, tp, tl⟩ rfl rfl rfl rfl rfl hw.1 hw.2 rfl rfl rfl (by omega) (by omega)
      exact ⟨b1, c1, c2, c3, c4⟩
    · exact ⟨b1, fun _ => ⟨k1, k6, by dsimp only; omega, by dsimp only; omega, fun _ => rfl, q0, by dsimp only; omega, f0, f1, g0, fun _ => hg, g2, fun q => by dsimp only at q; omega, hw.1, hw.2, fun _ q => by dsimp only at q; omega, fun _ _ => pe (by omega) (by omega), fun _ q => by dsimp only at q; omega⟩, rfl, rfl, rfl⟩
  · obtain rfl := e0 (by omega)
    have hg := g1 (by omega)
    have c2 : ∀ p, cP T p ≠ 2 := fun p => by unfold cP; omega
    have six : ∀ s' : TS, s'.ph = 6 → s'.rm = rm → s'.key = key → s'.lg = lg → s'.fd = fd → s'.fl = fl → s'.sn = sn → s'.seq = seq → s'.er = 0 → s'.pl = pl → TC T R (n + 2) s' := by
      intro s' a0 a1 a2 a3 a4 a5 a6 a7 a8 a9
      exact ⟨by omega, by omega, by omega, by omega, fun _ => a8, by omega, by omega, by omega, by omega, by omega, fun q => by omega, by omega, fun q => by omega, by omega, by omega, fun _ q => by omega, fun _ _ => by rw [a9]; exact pe (by omega) (by omega), fun _ q => by omega⟩
    unfold tStep
    dsimp only
    rw [if_neg (by decide), if_neg (by decide), if_neg (by decide), if_neg (by decide), if_pos rfl]
    split
    · split
      · exact ⟨bi_set B h gone_r.1 gone_r.2 (fun q => absurd q (c2 _)), fun _ => six _ rfl rfl rfl rfl rfl rfl rfl rfl rfl rfl, rfl, rfl, rfl⟩
      · obtain ⟨c1, c2, c3, c4⟩ := more ⟨rm, lg, key, 5, seq, i, fd, hd, tm, 0, pl, sn, fl, bk, ep, tp, tl⟩ rfl rfl rfl rfl rfl n0 n1 rfl rfl rfl (by omega) (by omega)
        exact ⟨b1, c1, c2, c3, c4⟩
    · exact ⟨bi_set B h (born_r n0).1 (born_r n0).2 (fun q => absurd q (c2 _)), fun _ => six _ rfl rfl rfl rfl rfl rfl rfl rfl rfl rfl, rfl, rfl, rfl⟩
  · obtain rfl := e0 (by omega)
    have hg := g1 (by omega)
    unfold tStep
    dsimp only
    rw [if_neg (by decide), if_neg (by decide), if_neg (by decide), if_neg (by decide), if_neg (by decide), if_pos rfl]
    refine ⟨?_, fun _ => ⟨k1, k6, by dsimp only; omega, by dsimp only; omega, fun q => by dsimp only at q; omega, q0, by dsimp only; omega, f0, f1, g0, fun q => by dsimp only at q; omega, g2, fun q => by dsimp only at q; omega, n0, n1, fun _ q => by dsimp only at q; omega, fun _ q => by dsimp only at q; omega, fun _ q => by dsimp only at q; omega⟩, rfl, rfl, rfl⟩
    have hk := enK_r (b := lg) k1 k6
    refine bi_set B h ?_ ?_ (fun q => absurd q eP_2)
    · split
      · decide
      · exact hk.1
    · split
      · decide
      · exact hk.2
  · unfold tStep
    dsimp only
    rw [if_neg (by decide), if_neg (by decide), if_neg (by decide), if_neg (by decide), if_neg (by decide), if_neg (by decide), if_pos rfl]
    exact ⟨bi_set B h (by omega) (by omega) (fun _ => by omega), fun q => absurd rfl q, rfl, rfl, rfl⟩
end
end Go.Proofs.YtkkddjchkkaagaaGreatDoor
