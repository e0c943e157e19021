/- TopicsEpochs: the world, and what is so. -/
import Derived.Test.YtkkddjchkkaagaaGreatDoorEpochsRows
import Derived.Test.YtkkddjchkkaagaaGreatDoorEpochsLaw
import Derived.Test.YtkkddjchkkaagaaGreatDoorScript
namespace Go.Proofs.YtkkddjchkkaagaaGreatDoor
open Go Go.Hx
set_option maxRecDepth 8000
structure EP where
  (T : Nat) (R : Int) (sf : Nat) (dn : Bool) (s : TS) (r : TR)
def ctEq (p : EP) : Nat → Option Hx.Spec
  | 63 => some (newCS p.T)
  | 61 => some (newRS p.T)
  | 55 => some (tStC p.dn false p.T p.R p.sf p.s p.r)
  | 56 => some (tStC p.dn true p.T p.R p.sf p.s p.r)
  | 53 => some (arWordsS)
  | 42 => some (pureS (placeS entryF))
  | 38 => some (pureS rkeyS)
  | 18 => some (top1S)
  | _ => none
theorem ctEq_ok (p : EP) : ∀ f s args H ob V L, ctEq p f = some s → s args H = some (ob, V, L) → AllP ob → Gives Tryz.prog f args H (Is V L) := by
  intro f s args H ob V L h hs ho
  unfold ctEq at h
  split at h
  · simp at h; subst h; exact newCS_ok hs ho
  · simp at h; subst h; exact newRS_ok hs ho
  · simp at h; subst h; exact tStC_ok hs ho
  · simp at h; subst h; exact tStC_ok hs ho
  · simp at h; subst h; exact arWordsS_ok hs ho
  · simp at h; subst h; exact pureS_ok ⟨_, hTE⟩ (placeS_ok (v := entryF) rentry_fn) hs ho
  · simp at h; subst h; exact pureS_ok ⟨_, hTE⟩ (rkeyS_ok) hs ho
  · simp at h; subst h; exact top1S_ok hs ho
  · simp at h
noncomputable def XEq (p : EP) : Tabs := tabs tr ft xt (fun _ => none) (ctEq p) 0
theorem hXEq (p : EP) : TOk Tryz.prog (XEq p) := ⟨hTE, hFT, (ctEq_ok p), hXT, fun t ks h => by simp [XEq, tabs] at h, mixed⟩
theorem clhE {P : Prop} (h : P := by repeat' (first | exact rfl | exact trivial | exact sim_refl _ | exact simO_refl _ | exact sim_erV | exact subE_hdE rfl rfl rfl | exact subE_ruE rfl rfl | assumption | refine And.intro ?_ ?_)) : P := h
theorem clkE {P : Prop} (h : P := by repeat' (first | exact rfl | exact trivial | exact okE_hdE (i := 6) rfl rfl | exact okE_ruE (h := 7) rfl | exact okE_ruE (T := 0) (R := 0) (h := 7) rfl | exact okP_erV | refine And.intro ?_ ?_)) : P := h
structure XS where
  (i : Nat) (W : List Int) (st kd wd vl : Int) (ch : Bool) (left : List Int)
def exT (T N cap : Nat) (x : XS) : List (Nat × SV) := [(1, .slice 0 0 N cap), (5, .tt), (6, .ptr 2 0), (7, .ptr 3 0), (9, .slice 5 0 T T), (10, .int .i64 (x.i : Int))]
def exH (N : Nat) (o : Nat → Int × Int × Bool × Bool) (T : Nat) (R : Int) (x : XS) (y : List HE) : List HE := .obj (.rows N 4 (actR o)) :: pinE RTV :: cfE (T : Int) R :: AOx 4 x.W x.st x.kd x.wd x.vl x.ch :: WO x.W :: .obj (.ints .i64 x.left 3) :: y
/-- Nobody is under way. -/
structure QI (T : Nat) (R n : Int) (W : List Int) (st : Int) : Prop where
  b : BI T R n W st
  d : DInv T (sfT T R) W (cf3 none none none)
  nb : ∀ p, p < T → buW (W.getD (cP T p) 0) = false
structure XInv (T : Nat) (R : Int) (N : Nat) (x : XS) : Prop where
  q : QI T R (40 * (x.i : Int)) x.W x.st
  l : x.left.length = T
  e : ∀ p, p < T → epW (x.W.getD (cP T p) 0) = x.left.getD p 0 ∧ 0 ≤ x.left.getD p 0 ∧ x.left.getD p 0 ≤ (x.i : Int)
  hn : x.i ≤ N
  hi : x.i ≤ 60
/-- The last place of the first ones that has a key. -/
def fdP (W : List Int) (key : Int) : Nat → Int
  | 0 => -1
  | p + 1 => if kyW (W.getD (eP p) 0) = key then (p : Int) else fdP W key p
theorem ky_is {w key : Int} (k1 : 1 ≤ key) : kyW w = key ↔ isK w = true ∧ w / 4 = key := by
  unfold kyW
  constructor
  · intro h
    split at h
    · rename_i g; exact ⟨g, h⟩
    · omega
  · rintro ⟨a, b⟩
    rw [if_pos a, b]
theorem fdP_no {T : Nat} {W : List Int} {key : Int} (k1 : 1 ≤ key) : ∀ {p : Nat}, p ≤ T → fdP W key p < 0 → ∀ q, q < p → isK (W.getD (eP q) 0) = true → W.getD (eP q) 0 / 4 ≠ key
  | 0, _, _, q, hq => by omega
  | p + 1, hp, h, q, hq => fun a b => by
    unfold fdP at h
    split at h
    · omega
    · rename_i g
      by_cases e : q = p
      · subst e; exact g ((ky_is k1).2 ⟨a, b⟩)
      · exact fdP_no (T := T) k1 (by omega) h q (by omega) a b
theorem fdP_yes {W : List Int} {key : Int} (k1 : 1 ≤ key) : ∀ {p : Nat}, fdP W key p = -1 ∨ ∃ q, q < p ∧ fdP W key p = (q : Int) ∧ isK (W.getD (eP q) 0) = true ∧ W.getD (eP q) 0 / 4 = key
  | 0 => .inl rfl
  | p + 1 => by
    unfold fdP
    split
    · rename_i g
      obtain ⟨a, b⟩ := (ky_is k1).1 g
      exact .inr ⟨p, by omega, rfl, a, b⟩
    · rcases fdP_yes k1 (p := p) with e | ⟨q, a, b⟩
      · exact .inl e
      · exact .inr ⟨q, by omega, b⟩
theorem fd_cases {T : Nat} {R n st : Int} {W : List Int} {key : Int} (_q : QI T R n W st) (k1 : 1 ≤ key) : (fdP W key T = -1 ∧ absK T W key) ∨ ∃ p, preK T W key p ∧ fdP W key T = (p : Int) := by
  rcases fdP_yes (W := W) k1 (p := T) with e | ⟨p, a, b, c, d⟩
  · exact .inl ⟨e, fdP_no k1 (Nat.le_refl _) (by omega)⟩
  · exact .inr ⟨p, ⟨a, c, d⟩, b⟩
theorem pre_abs {T p : Nat} {W : List Int} {key : Int} (h : preK T W key p) (a : absK T W key) : False := a p h.1 h.2.1 h.2.2
theorem pre_one {T p q : Nat} {W : List Int} {key : Int} {sf : Int → Nat} (d : DE T sf W) (h : preK T W key p) (h2 : preK T W key q) : p = q := d.u p q h.1 h2.1 h.2.1 h2.2.1 (by rw [h.2.2, h2.2.2])
/-- While an op goes on. -/
structure RS where
  (j : Nat) (W : List Int) (st kd wd vl : Int) (ch : Bool) (s : TS)
structure RInv (T : Nat) (R n : Int) (W0 : List Int) (rm lg : Bool) (key : Int) (y : RS) : Prop where
  rm : y.s.rm = rm
  lg : y.s.lg = lg
  key : y.s.key = key
  hj : y.j ≤ T + 7
  b : BI T R (n + 2 * (y.j : Int)) y.W y.st
  run : y.s.ph ≠ 0 → ES T R W0 y.s y.W ∧ TC T R (n + 2 * (y.j : Int)) y.s ∧ eT T y.s + y.j ≤ T + 6
  done : y.s.ph = 0 → EE T W0 y.s y.W ∧ DInv T (sfT T R) y.W (cf3 none none none)
theorem r_next {T : Nat} {R n : Int} {W0 : List Int} {rm lg : Bool} {key : Int} {y : RS} (h : RInv T R n W0 rm lg key y) (hj : y.j < T + 7) (hn : n + 100 ≤ 10000) (h0 : y.s.ph ≠ 0) {r : TR} (hr : tStep T R (sfT T R y.s.key) y.s y.W y.st = r) :
    RInv T R n W0 rm lg key ⟨y.j + 1, r.W, y.st + 1, r.kd, r.wd, r.vl, r.ch, r.s⟩ := by
  obtain ⟨es, C, hm⟩ := h.run h0
  have t4 := h.b.t4
  have kk := step_k h.b C (by omega)
  have e := es_step (st := y.st) es C
  rw [hr] at kk e
  have hb := h.b.n0
  refine ⟨kk.rm.trans h.rm, kk.lg.trans h.lg, kk.key.trans h.key, by dsimp only; omega, kk.b.mono (by dsimp only; omega) (by dsimp only; omega), fun g => ?_, fun g => e.done g⟩
  obtain ⟨e1, e2⟩ := e.go g
  exact ⟨e1, (kk.c g).mono (by dsimp only; omega), by dsimp only; omega⟩
theorem r_stay {T : Nat} {R n : Int} {W0 : List Int} {rm lg : Bool} {key : Int} {y : RS} (h : RInv T R n W0 rm lg key y) (hj : y.j < T + 7) (hn : n + 100 ≤ 10000) (h0 : y.s.ph = 0) : RInv T R n W0 rm lg key ⟨y.j + 1, y.W, y.st, y.kd, y.wd, y.vl, y.ch, y.s⟩ := by
  have t4 := h.b.t4
  exact ⟨h.rm, h.lg, h.key, by dsimp only; omega, h.b.mono (by dsimp only; omega) (by dsimp only; omega), fun g => absurd h0 g, h.done⟩
theorem r_new {T : Nat} {R n st kd wd vl : Int} {ch : Bool} {W0 : List Int} {rm lg : Bool} {key : Int} (q : QI T R n W0 st) (k1 : 1 ≤ key) (k6 : key ≤ 6) : RInv T R n W0 rm lg key ⟨0, W0, st, kd, wd, vl, ch, newT rm lg key⟩ := by
  have hd := new_low (a := 0) (rm := rm) (lg := lg) q.b q.d rfl k1 k6
  rw [upd0] at hd
  have q0 : W0.getD 2 0 % 2 = 0 := by simpa [-List.getD_eq_getElem?_getD, hdO, b2] using (hold1 q.d).2
  have hb := q.b
  have e : n + 2 * ((0 : Nat) : Int) = n := by omega
  refine ⟨rfl, rfl, rfl, Nat.zero_le _, ?_, fun _ => ⟨⟨hd, q0, q.nb, fun _ => rfl, fun g => ?_, fun _ _ _ => rfl, fun _ _ _ => rfl, fun g => ?_, fun g => ?_, fun g => ?_⟩, ?_, ?_⟩, fun g => ?_⟩
  · show BI T R (n + 2 * ((0 : Nat) : Int)) W0 st
    rw [e]; exact hb
  · exact absurd (show 1 = 2 from g) (by decide)
  · exact absurd (show 1 = 5 from g) (by decide)
  · exact absurd (show 1 = 6 from g) (by decide)
  · exact absurd (show 1 = 7 from g) (by decide)
  · show TC T R (n + 2 * ((0 : Nat) : Int)) (newT rm lg key)
    rw [e]; exact new_tc hb k1 k6
  · show T + 6 + 0 ≤ T + 6
    omega
  · exact absurd (show 1 = 0 from g) (by decide)
theorem r_end {T : Nat} {R n : Int} {W0 : List Int} {rm lg : Bool} {key : Int} {y : RS} (h : RInv T R n W0 rm lg key y) (hj : y.j = T + 7) : y.s.ph = 0 := by
  by_cases g : y.s.ph = 0
  · exact g
  · have := (h.run g).2.2
    omega
def t00 : TS := newT false false 1
def r00 : TR := ⟨t00, [], 0, 0, 0, false⟩
end Go.Proofs.YtkkddjchkkaagaaGreatDoor
