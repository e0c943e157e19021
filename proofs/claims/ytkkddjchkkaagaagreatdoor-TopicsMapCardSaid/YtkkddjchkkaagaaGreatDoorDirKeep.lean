/- The directory: what is so, whoever holds it. -/
import Derived.Test.YtkkddjchkkaagaaGreatDoorDirLaw
namespace Go.Proofs.YtkkddjchkkaagaaGreatDoor
open Go Go.Hx
set_option maxRecDepth 8000
def upd (c : Nat → Option TS) (a : Nat) (o : Option TS) : Nat → Option TS := fun b => if b = a then o else c b
theorem upd_at {c : Nat → Option TS} {a : Nat} {o : Option TS} : upd c a o a = o := by simp [upd]
theorem upd_ne {c : Nat → Option TS} {a b : Nat} {o : Option TS} (h : b ≠ a) : upd c a o b = c b := by simp [upd, h]
/-- What is so of a run that is under way. -/
structure TOK (T : Nat) (sf : Int → Nat) (s : TS) : Prop where
  p1 : 1 ≤ s.ph
  p7 : s.ph ≤ 7
  hd : s.hd = decide (3 ≤ s.ph)
  k1 : 1 ≤ s.key
  k6 : s.key ≤ 6
  st : sf s.key < T
  lo : s.ph ≤ 2 → s.i = 0 ∧ (s.rm = false → s.pl = -1)
  ev : s.ph = 2 → s.seq % 2 = 0
structure DInv (T : Nat) (sf : Int → Nat) (W : List Int) (c : Nat → Option TS) : Prop where
  de : DE T sf W
  un : ∀ a b s t, c a = some s → c b = some t → 3 ≤ s.ph → 3 ≤ t.ph → a = b
  od : W.getD 2 0 % 2 = 1 ↔ ∃ a s, c a = some s ∧ 3 ≤ s.ph
  sq : ∀ a s, c a = some s → 3 ≤ s.ph → s.seq + 1 = W.getD 2 0
  ok : ∀ a s, c a = some s → TOK T sf s
  tk : ∀ a s, c a = some s → 3 ≤ s.ph → TK T (sf s.key) W s
  lv : LV T W (fun p => ∃ a s, c a = some s ∧ s.ph = 6 ∧ s.pl = (p : Int))
  l6 : ∀ a s, c a = some s → s.ph = 6 → liW (W.getD (cP T s.pl.toNat) 0) = !s.rm
theorem gone_fitW {w : Int} : fitC ((epW w + 1) % 32768) 0 0 := ⟨by omega, by omega, by decide, by decide, by decide, by decide⟩
theorem gone_li {w : Int} : liW (goneW w) = false := li_pk gone_fitW false false
theorem born_li {w : Int} : liW (bornW w) = true := li_pk ⟨by unfold epW; omega, by unfold epW; omega, by decide, by decide, by decide, by decide⟩ true false
section
variable {T : Nat} {sf : Int → Nat} {R st : Int} {s : TS} {W W' : List Int} {c : Nat → Option TS} {a : Nat} {o : Option TS}
/-- A run that does not hold it goes on, or ends, and does not hold it then. -/
theorem DInv.low (h : DInv T sf W c) (hc : ∀ s, c a = some s → s.ph ≤ 2) (ho : ∀ s, o = some s → s.ph ≤ 2 ∧ TOK T sf s) : DInv T sf W (upd c a o) := by
  have cases_ : ∀ b t, upd c a o b = some t → (b = a ∧ o = some t) ∨ (b ≠ a ∧ c b = some t) := fun b t q => by
    by_cases g : b = a
    · subst g; rw [upd_at] at q; exact .inl ⟨rfl, q⟩
    · rw [upd_ne g] at q; exact .inr ⟨g, q⟩
  have old : ∀ b t, upd c a o b = some t → 3 ≤ t.ph → c b = some t := fun b t q g => by
    rcases cases_ b t q with ⟨_, e⟩ | ⟨_, e⟩
    · have := (ho t e).1; omega
    · exact e
  have new : ∀ b t, c b = some t → 3 ≤ t.ph → upd c a o b = some t := fun b t q g => by
    have : b ≠ a := fun e => by subst e; have := hc t q; omega
    rw [upd_ne this]; exact q
  refine ⟨h.de, fun b d s t q1 q2 g1 g2 => h.un b d s t (old b s q1 g1) (old d t q2 g2) g1 g2, h.od.trans ⟨fun ⟨b, t, q, g⟩ => ⟨b, t, new b t q g, g⟩, fun ⟨b, t, q, g⟩ => ⟨b, t, old b t q g, g⟩⟩, fun b t q g => h.sq b t (old b t q g) g, fun b t q => ?_, fun b t q g => h.tk b t (old b t q g) g, fun p hp => ?_, fun b t q g => h.l6 b t (old b t q (by omega)) g⟩
  · rcases cases_ b t q with ⟨_, e⟩ | ⟨_, e⟩
    · exact (ho t e).2
    · exact h.ok b t e
  · rcases h.lv p hp with ⟨b, t, q, g, e⟩ | e
    · exact .inl ⟨b, t, new b t q (by omega), g, e⟩
    · exact .inr e
/-- The holder goes on: the words of the directory may change at its place alone. -/
theorem DInv.hold {s' : TS} (h : DInv T sf W c) (hc : c a = some s) (hp : 3 ≤ s.ph) (hp' : 3 ≤ s'.ph) (de : DE T sf W') (w2 : W'.getD 2 0 = W.getD 2 0) (hs : s'.seq = s.seq) (ok : TOK T sf s') (tk : TK T (sf s'.key) W' s')
    (lv : LV T W' (fun p => s'.ph = 6 ∧ s'.pl = (p : Int))) (l6 : s'.ph = 6 → liW (W'.getD (cP T s'.pl.toNat) 0) = !s'.rm) : DInv T sf W' (upd c a (some s')) := by
  have others : ∀ b t, c b = some t → 3 ≤ t.ph → b = a := fun b t q g => h.un b a t s q hc g hp
  have cases_ : ∀ b t, upd c a (some s') b = some t → (b = a ∧ t = s') ∨ (b ≠ a ∧ c b = some t ∧ t.ph ≤ 2) := fun b t q => by
    by_cases g : b = a
    · subst g; rw [upd_at] at q; exact .inl ⟨rfl, (Option.some.inj q).symm⟩
    · rw [upd_ne g] at q
      refine .inr ⟨g, q, ?_⟩
      by_cases g2 : 3 ≤ t.ph
      · exact absurd (others b t q g2) g
      · omega
  have big : ∀ b t, upd c a (some s') b = some t → 3 ≤ t.ph → b = a ∧ t = s' := fun b t q g => by
    rcases cases_ b t q with e | ⟨_, _, e⟩
    · exact e
    · omega
  refine ⟨de, fun b d t u q1 q2 g1 g2 => (big b t q1 g1).1.trans (big d u q2 g2).1.symm, ?_, fun b t q g => ?_, fun b t q => ?_, fun b t q g => ?_, fun p hpt => ?_, fun b t q g => ?_⟩
  · rw [w2]
    exact ⟨fun _ => ⟨a, s', upd_at, hp'⟩, fun _ => h.od.2 ⟨a, s, hc, hp⟩⟩
  · obtain ⟨_, rfl⟩ := big b t q g
    rw [w2, hs]; exact h.sq a s hc hp
  · rcases cases_ b t q with ⟨_, rfl⟩ | ⟨_, e, _⟩
    · exact ok
    · exact h.ok b t e
  · obtain ⟨_, rfl⟩ := big b t q g
    exact tk
  · rcases lv p hpt with e | e
    · exact .inl ⟨a, s', upd_at, e.1, e.2⟩
    · exact .inr e
  · obtain ⟨_, rfl⟩ := big b t q (by omega)
    exact l6 g
/-- Behind a holder that is in no phase 6, entries tell what is Live. -/
theorem DInv.lv' (h : DInv T sf W c) (hc : c a = some s) (hp : 3 ≤ s.ph) {x : Nat → Prop} (hx : ∀ p : Nat, s.ph = 6 → s.pl = (p : Int) → x p) : LV T W x := fun p hpt => by
  rcases h.lv p hpt with ⟨b, t, q, g, e⟩ | e
  · have : b = a := h.un b a t s q hc (by omega) hp
    subst this
    rw [hc] at q
    obtain rfl := Option.some.inj q
    exact .inl (hx p g e)
  · exact .inr e
theorem tFail_ph (s : TS) : (tFail R s).ph ≤ 1 := by unfold tFail; split <;> simp
theorem tFail_ok (h : TOK T sf s) (hp : s.ph ≤ 2) (h2 : s.hd = false) (hn : (tFail R s).ph ≠ 0) : TOK T sf (tFail R s) := by
  unfold tFail at hn ⊢
  split at hn
  · simp at hn
  · rename_i g
    rw [if_neg g]
    exact ⟨by simp, by simp, by simp [h2], h.k1, h.k6, h.st, fun _ => h.lo hp, fun q => by simp at q⟩
theorem tMore_ph (s : TS) : (tMore R s).ph = 7 ∨ (tMore R s).ph = 4 := by unfold tMore; split <;> simp
theorem tMore_ok (h : TOK T sf s) (hp : 3 ≤ s.ph) : TOK T sf (tMore R s) := by
  have hd := h.hd
  rw [decide_eq_true hp] at hd
  unfold tMore
  split
  · exact ⟨by simp, by simp, by simp [hd], h.k1, h.k6, h.st, fun q => by simp at q, fun q => by simp at q⟩
  · exact ⟨by simp, by simp, by simp [hd], h.k1, h.k6, h.st, fun q => by simp at q, fun q => by simp at q⟩
theorem tMore_seq (s : TS) : (tMore R s).seq = s.seq ∧ (tMore R s).key = s.key ∧ (tMore R s).rm = s.rm ∧ (tMore R s).pl = s.pl := by unfold tMore; split <;> simp
/-- What a run knows stays, where it is in phase 4 or 5, or goes to let the directory go. -/
theorem TK.late {s' : TS} {start : Nat} (k : TK T start W s) (h4 : 4 ≤ s.ph) (h6 : s.ph ≤ 6) (g4 : 4 ≤ s'.ph) (e1 : s'.rm = s.rm) (e2 : s'.key = s.key) (e3 : s'.pl = s.pl) : TK T start W s' :=
  ⟨fun q => by omega, fun _ q => by omega, fun q _ _ => by rw [e2, e3]; exact k.c4 (by rw [← e1]; exact q) h4 h6, fun q _ _ => by rw [e2, e3]; exact k.r4 (by rw [← e1]; exact q) h4 h6⟩
theorem DInv.low1 {s' : TS} (h : DInv T sf W c) (hc : c a = some s) (hp : s.ph ≤ 2) (hs : s'.ph ≤ 2) (ok : s'.ph ≠ 0 → TOK T sf s') : DInv T sf W (upd c a (if s'.ph = 0 then none else some s')) := by
  refine h.low (fun t q => by rw [hc] at q; cases q; exact hp) fun t q => ?_
  split at q
  · cases q
  · rename_i g
    cases q
    exact ⟨hs, ok g⟩
/-- A client takes the directory. -/
theorem DInv.take {s' : TS} (h : DInv T sf W c) (hc : c a = some s) (hp : s.ph = 2) (hw : W.getD 2 0 = s.seq) (e1 : s'.ph = 3) (e2 : s'.seq = s.seq) (e3 : s'.i = s.i) (e4 : s'.pl = s.pl) (e5 : s'.rm = s.rm) (e6 : s'.key = s.key) (e7 : s'.hd = true) :
    DInv T sf (W.set 2 (s.seq + 1)) (upd c a (some s')) := by
  have ok := h.ok a s hc
  have ev := ok.ev hp
  have lo := ok.lo (by omega)
  have t0 := h.de.t0
  have none_ : ∀ b t, c b = some t → ¬ 3 ≤ t.ph := fun b t q g => by
    have := h.od.2 ⟨b, t, q, g⟩
    omega
  have hl := h.de.hl
  have w2 : (W.set 2 (s.seq + 1)).getD 2 0 = s.seq + 1 := by rw [set_getD, if_pos ⟨rfl, by omega⟩]
  have we : ∀ p, (W.set 2 (s.seq + 1)).getD (eP p) 0 = W.getD (eP p) 0 := fun p => by rw [set_getD, if_neg (fun g => eP_2 g.1.symm)]
  have wc : ∀ p, (W.set 2 (s.seq + 1)).getD (cP T p) 0 = W.getD (cP T p) 0 := fun p => by rw [set_getD, if_neg (fun g => by have := g.1; unfold cP at this; omega)]
  have cases_ : ∀ b t, upd c a (some s') b = some t → (b = a ∧ t = s') ∨ (b ≠ a ∧ c b = some t ∧ ¬ 3 ≤ t.ph) := fun b t q => by
    by_cases g : b = a
    · subst g; rw [upd_at] at q; exact .inl ⟨rfl, (Option.some.inj q).symm⟩
    · rw [upd_ne g] at q; exact .inr ⟨g, q, none_ b t q⟩
  have big : ∀ b t, upd c a (some s') b = some t → 3 ≤ t.ph → b = a ∧ t = s' := fun b t q g => by
    rcases cases_ b t q with e | ⟨_, _, e⟩
    · exact e
    · exact absurd g e
  refine ⟨h.de.same (by simp) (fun p _ => we p), fun b d t u q1 q2 g1 g2 => (big b t q1 g1).1.trans (big d u q2 g2).1.symm, ?_, fun b t q g => ?_, fun b t q => ?_, fun b t q g => ?_, fun p hpt => ?_, fun b t q g => ?_⟩
  · rw [w2]
    exact ⟨fun _ => ⟨a, s', upd_at, by omega⟩, fun _ => by omega⟩
  · obtain ⟨_, rfl⟩ := big b t q g
    rw [w2, e2]
  · rcases cases_ b t q with ⟨_, rfl⟩ | ⟨_, e, _⟩
    · exact ⟨by omega, by omega, by rw [e7, e1]; rfl, by rw [e6]; exact ok.k1, by rw [e6]; exact ok.k6, by rw [e6]; exact ok.st, fun q => by omega, fun q => by omega⟩
    · exact h.ok b t e
  · obtain ⟨_, rfl⟩ := big b t q g
    refine ⟨fun _ => ⟨by rw [e3, lo.1]; omega, fun j hj => by rw [e3, lo.1] at hj; omega⟩, fun g1 _ => .inl ⟨by rw [e4]; exact lo.2 (by rw [← e5]; exact g1), fun j hj => by rw [e3, lo.1] at hj; omega⟩, fun _ q => by omega, fun _ q => by omega⟩
  · rcases h.lv p hpt with ⟨b, t, q, g, _⟩ | e
    · exact absurd (by omega) (none_ b t q)
    · exact .inr (by rw [we, wc]; exact e)
  · obtain ⟨_, rfl⟩ := big b t q (by omega)
    omega
/-- A client lets it go. -/
theorem DInv.release (h : DInv T sf W c) (hc : c a = some s) (hp : s.ph = 7) : DInv T sf (W.set 2 (s.seq + 2)) (upd c a none) := by
  have hl := h.de.hl
  have sq := h.sq a s hc (by omega)
  have od := h.od.2 ⟨a, s, hc, by omega⟩
  have w2 : (W.set 2 (s.seq + 2)).getD 2 0 = s.seq + 2 := by rw [set_getD, if_pos ⟨rfl, by omega⟩]
  have we : ∀ p, (W.set 2 (s.seq + 2)).getD (eP p) 0 = W.getD (eP p) 0 := fun p => by rw [set_getD, if_neg (fun g => eP_2 g.1.symm)]
  have wc : ∀ p, (W.set 2 (s.seq + 2)).getD (cP T p) 0 = W.getD (cP T p) 0 := fun p => by rw [set_getD, if_neg (fun g => by have := g.1; unfold cP at this; omega)]
  have low : ∀ b t, upd c a none b = some t → c b = some t ∧ ¬ 3 ≤ t.ph := fun b t q => by
    by_cases g : b = a
    · subst g; rw [upd_at] at q; cases q
    · rw [upd_ne g] at q
      exact ⟨q, fun g2 => g (h.un b a t s q hc g2 (by omega))⟩
  refine ⟨h.de.same (by simp) (fun p _ => we p), fun b d t u q1 _ g1 _ => absurd g1 (low b t q1).2, ?_, fun b t q g => absurd g (low b t q).2, fun b t q => h.ok b t (low b t q).1, fun b t q g => absurd g (low b t q).2, fun p hpt => ?_, fun b t q g => absurd (by omega) (low b t q).2⟩
  · rw [w2]
    exact ⟨fun q => by omega, fun ⟨b, t, q, g⟩ => absurd g (low b t q).2⟩
  · have := h.lv' hc (by omega) (x := fun _ => False) (fun _ q _ => by omega) p hpt
    rcases this with e | e
    · exact e.elim
    · exact .inr (by rw [we, wc]; exact e)
theorem TK.seven {start : Nat} (h : s.ph = 7) : TK T start W s := ⟨fun q => by omega, fun _ q => by omega, fun _ _ q => by omega, fun _ _ q => by omega⟩
theorem TK.words {start : Nat} (t0 : 1 ≤ T) (k : TK T start W s) (e : ∀ p, p < T → W'.getD (eP p) 0 = W.getD (eP p) 0) : TK T start W' s := by
  have et : ∀ j, W'.getD (eP (tPl T start j)) 0 = W.getD (eP (tPl T start j)) 0 := fun j => e _ (tPl_lt t0 j)
  refine ⟨fun g => ⟨(k.lk g).1, fun j hj => by rw [et]; exact (k.lk g).2 j hj⟩, fun g1 g2 => ?_, fun g1 g2 g3 => ?_, fun g1 g2 g3 => ?_⟩
  · rcases k.cr g1 g2 with ⟨e, f⟩ | ⟨j, e1, e3, e4, e5⟩
    · exact .inl ⟨e, fun j hj => by rw [et]; exact f j hj⟩
    · exact .inr ⟨j, e1, e3, by rw [et]; exact e4, fun k hk => by rw [et]; exact e5 k hk⟩
  · obtain ⟨f, j, e3, e4, e5⟩ := k.c4 g1 g2 g3
    exact ⟨fun p hp => by rw [e p hp]; exact f p hp, j, e3, by rw [et]; exact e4, fun k hk => by rw [et]; exact e5 k hk⟩
  · obtain ⟨p, hp, e3, e4, e5⟩ := k.r4 g1 g2 g3
    exact ⟨p, hp, e3, by rw [e p hp]; exact e4, by rw [e p hp]; exact e5⟩
/-- In phase 3, the run looked once more. -/
theorem TK.look {start : Nat} {s' : TS} (k : TK T start W s) (h3 : s.ph = 3) (g3 : s'.ph = 3) (ei : s'.i = s.i + 1) (er : s'.rm = s.rm) (ek : s'.key = s.key) (hl : s.i + 1 ≠ T) (hw : W.getD (eP (tPl T start s.i)) 0 ≠ 0)
    (nf : ¬ (isK (W.getD (eP (tPl T start s.i)) 0) = true ∧ W.getD (eP (tPl T start s.i)) 0 / 4 = s.key))
    (pl : s.rm = false → s'.pl = if isK (W.getD (eP (tPl T start s.i)) 0) = false ∧ s.pl = -1 then (tPl T start s.i : Int) else s.pl) : TK T start W s' := by
  obtain ⟨hi, hj⟩ := k.lk h3
  refine ⟨fun _ => ⟨by omega, fun j hj2 => ?_⟩, fun g1 _ => ?_, fun _ q => by omega, fun _ q => by omega⟩
  · rw [ek]
    by_cases g : j < s.i
    · exact hj j g
    · obtain rfl : j = s.i := by omega
      exact ⟨hw, nf⟩
  · have g1' : s.rm = false := by rw [← er]; exact g1
    have pl := pl g1'
    rcases k.cr g1' h3 with ⟨e, f⟩ | ⟨j, e1, e3, e4, e5⟩
    · rcases q : isK (W.getD (eP (tPl T start s.i)) 0) with _ | _
      · rw [if_pos ⟨q, e⟩] at pl
        exact .inr ⟨s.i, by omega, pl, q, f⟩
      · rw [if_neg (fun g => by rw [q] at g; cases g.1)] at pl
        refine .inl ⟨pl.trans e, fun j hj2 => ?_⟩
        by_cases g : j < s.i
        · exact f j g
        · obtain rfl : j = s.i := by omega
          exact q
    · rw [if_neg (fun g => by have := g.2; omega)] at pl
      exact .inr ⟨j, by omega, pl.trans e3, e4, e5⟩
/-- A client's step. -/
theorem DInv.step (h : DInv T sf W c) (hc : c a = some s) : DInv T sf (tStep T R (sf s.key) s W st).W (upd c a (if (tStep T R (sf s.key) s W st).s.ph = 0 then none else some (tStep T R (sf s.key) s W st).s)) := by
  have ok := h.ok a s hc
  have t0 := h.de.t0
  have hp : s.ph = 1 ∨ s.ph = 2 ∨ s.ph = 3 ∨ s.ph = 4 ∨ s.ph = 5 ∨ s.ph = 6 ∨ s.ph = 7 := by have := ok.p1; have := ok.p7; omega
  obtain ⟨rm, lg, key, ph, seq, i, fd, hd, tm, er, pl, sn, fl, bk, ep, tp, tl⟩ := s
  have k1 : 1 ≤ key := ok.k1
  have k6 : key ≤ 6 := ok.k6
  have ks : sf key < T := ok.st
  have hd' : hd = decide (3 ≤ ph) := ok.hd
  dsimp only at hp
  rcases hp with rfl | rfl | rfl | rfl | rfl | rfl | rfl
  · have lo := ok.lo (by dsimp only; omega)
    obtain rfl : hd = false := hd'
    unfold tStep
    dsimp only
    rw [if_pos rfl]
    split
    · exact h.low1 hc (by dsimp only; omega) (Nat.le_succ_of_le (tFail_ph _)) fun q => tFail_ok ⟨ok.p1, ok.p7, ok.hd, ok.k1, ok.k6, ok.st, ok.lo, fun q => by dsimp only at q; omega⟩ (by dsimp only; omega) rfl q
    · exact h.low1 hc (by (try dsimp only); omega) (by (try dsimp only); omega) fun _ => ⟨by (try dsimp only); omega, by (try dsimp only); omega, rfl, ok.k1, ok.k6, ok.st, fun _ => lo, fun _ => by (try dsimp only); omega⟩
  · have lo := ok.lo (by dsimp only; omega)
    obtain rfl : hd = false := hd'
    unfold tStep
    dsimp only
    rw [if_neg (by decide), if_pos rfl]
    split
    · rename_i g
      exact h.take hc rfl g rfl rfl rfl rfl rfl rfl rfl
    · exact h.low1 hc (by dsimp only; omega) (Nat.le_succ_of_le (tFail_ph _)) fun q => tFail_ok ⟨ok.p1, ok.p7, rfl, ok.k1, ok.k6, ok.st, ok.lo, ok.ev⟩ (by dsimp only; omega) rfl q
  · obtain rfl : hd = true := hd'
    have k := h.tk a _ hc (by dsimp only; omega)
    obtain ⟨ki, kj⟩ := k.lk rfl
    dsimp only at ki kj
    have hlv : ∀ x : Nat → Prop, LV T W x := fun x => h.lv' hc (by dsimp only; omega) (fun p q _ => by dsimp only at q; omega)
    have go : ∀ s' : TS, s'.ph = 3 ∨ s'.ph = 4 ∨ s'.ph = 7 → s'.seq = seq → s'.key = key → s'.hd = true → TK T (sf key) W s' → DInv T sf W (upd c a (if s'.ph = 0 then none else some s')) := fun s' hs e1 e2 e3 tk => by
      rw [if_neg (by omega)]
      exact h.hold hc (by dsimp only; omega) (by omega) h.de rfl e1 ⟨by omega, by omega, by rw [e3, decide_eq_true (by omega)], by rw [e2]; exact k1, by rw [e2]; exact k6, by rw [e2]; exact ks, fun q => by omega, fun q => by omega⟩ (by rw [e2]; exact tk) (hlv _) (fun q => by omega)
    have hpl := tPl_lt (start := sf key) t0 i
    unfold tStep
    dsimp only
    rw [if_neg (by decide), if_neg (by decide), if_pos rfl]
    rcases hf : (isK (W.getD (eP (tPl T (sf key) i)) 0) && decide (W.getD (eP (tPl T (sf key) i)) 0 / 4 = key)) with _ | _
    · have nf : ¬ (isK (W.getD (eP (tPl T (sf key) i)) 0) = true ∧ W.getD (eP (tPl T (sf key) i)) 0 / 4 = key) := fun q => by rw [q.1, decide_eq_true q.2] at hf; cases hf
      rcases hl : (decide (W.getD (eP (tPl T (sf key) i)) 0 = 0) || decide (i + 1 = T)) with _ | _
      · simp only [Bool.or_eq_false_iff, decide_eq_false_iff_not] at hl
        rcases rm with _ | _
        · exact go _ (.inl rfl) rfl rfl rfl (k.look rfl rfl rfl rfl rfl hl.2 hl.1 nf (fun _ => rfl))
        · exact go _ (.inl rfl) rfl rfl rfl (k.look rfl rfl rfl rfl rfl hl.2 hl.1 nf (fun q => by cases q))
      · rcases rm with _ | _
        · generalize hpv : (if isK (W.getD (eP (tPl T (sf key) i)) 0) = false ∧ pl = -1 then ((tPl T (sf key) i : Nat) : Int) else pl) = pv
          simp only [Bool.false_eq_true, if_false, if_true]
          by_cases hne : pv = -1
          · rw [if_pos hne]
            exact go _ (.inr (.inr rfl)) rfl rfl rfl (TK.seven rfl)
          · rw [if_neg hne]
            refine go _ (.inr (.inl rfl)) rfl rfl rfl ⟨fun q => by simp at q, fun _ q => by simp at q, fun _ _ _ => ⟨?_, ?_⟩, fun q => by simp at q⟩
            · refine absent h.de ks (i + 1) (fun j hj => ?_) ?_
              · by_cases g : j < i
                · exact (kj j g).2
                · obtain rfl : j = i := by omega
                  exact nf
              · simp only [Bool.or_eq_true, decide_eq_true_eq] at hl
                rcases hl with hl | hl
                · exact .inr ⟨i, rfl, hl⟩
                · exact .inl hl
            · rcases k.cr rfl rfl with ⟨e, f⟩ | ⟨j, e1, e3, e4, e5⟩
              · dsimp only at e f
                rcases q : isK (W.getD (eP (tPl T (sf key) i)) 0) with _ | _
                · rw [if_pos ⟨q, e⟩] at hpv
                  exact ⟨i, hpv.symm, q, f⟩
                · exfalso
                  rw [if_neg (fun g => by rw [q] at g; cases g.1)] at hpv
                  exact hne (hpv.symm.trans e)
              · dsimp only at e1 e3
                rw [if_neg (fun g => by have := g.2; omega)] at hpv
                exact ⟨j, hpv.symm.trans e3, e4, e5⟩
        · exact go _ (.inr (.inr rfl)) rfl rfl rfl (TK.seven rfl)
    · simp only [Bool.and_eq_true, decide_eq_true_eq] at hf
      rcases rm with _ | _
      · exact go _ (.inr (.inr rfl)) rfl rfl rfl (TK.seven rfl)
      · exact go _ (.inr (.inl rfl)) rfl rfl rfl ⟨fun q => by simp at q, fun q => by simp at q, fun q => by simp at q, fun _ _ _ => ⟨_, hpl, rfl, hf.1, hf.2⟩⟩
  · obtain rfl : hd = true := hd'
    have k := h.tk a _ hc (by dsimp only; omega)
    have hlv : ∀ x : Nat → Prop, LV T W x := fun x => h.lv' hc (by dsimp only; omega) (fun p q _ => by dsimp only at q; omega)
    have more : ∀ s0 : TS, s0.ph = 4 → s0.rm = rm → s0.key = key → s0.pl = pl → s0.seq = seq → TOK T sf s0 → DInv T sf W (upd c a (if (tMore R s0).ph = 0 then none else some (tMore R s0))) := fun s0 e0 e1 e2 e3 e4 ok0 => by
      have hm := tMore_ph (R := R) s0
      obtain ⟨m1, m2, m3, m4⟩ := tMore_seq (R := R) s0
      rw [if_neg (by omega)]
      refine h.hold hc (by dsimp only; omega) (by omega) h.de rfl (m1.trans e4) (tMore_ok ok0 (by omega)) ?_ (hlv _) (fun q => by omega)
      rw [m2, e2]
      exact k.late (by dsimp only; omega) (by dsimp only; omega) (by omega) (m3.trans e1) (m2.trans e2) (m4.trans e3)
    unfold tStep
    dsimp only
    rw [if_neg (by decide), if_neg (by decide), if_neg (by decide), if_pos rfl]
    dsimp only
    split
    · exact more _ rfl rfl rfl rfl rfl ⟨by dsimp only; omega, by dsimp only; omega, rfl, k1, k6, ks, fun q => by dsimp only at q; omega, fun q => by dsimp only at q; omega⟩
    · exact h.hold hc (by dsimp only; omega) (by dsimp only; omega) h.de rfl rfl ⟨by dsimp only; omega, by dsimp only; omega, rfl, k1, k6, ks, fun q => by dsimp only at q; omega, fun q => by dsimp only at q; omega⟩ (k.late (by dsimp only; omega) (by dsimp only; omega) (by dsimp only; omega) rfl rfl rfl) (hlv _) (fun q => by dsimp only at q; omega)
  · obtain rfl : hd = true := hd'
    have k := h.tk a _ hc (by dsimp only; omega)
    have hlv : ∀ x : Nat → Prop, LV T W x := fun x => h.lv' hc (by dsimp only; omega) (fun p q _ => by dsimp only at q; omega)
    have hpl : ∃ p, p < T ∧ pl = (p : Int) := by
      rcases rm with _ | _
      · obtain ⟨_, j, e, _, _⟩ := k.c4 rfl (by dsimp only; omega) (by dsimp only; omega)
        exact ⟨_, tPl_lt t0 j, e⟩
      · obtain ⟨p, hp, e, _, _⟩ := k.r4 rfl (by dsimp only; omega) (by dsimp only; omega)
        exact ⟨p, hp, e⟩
    obtain ⟨p, hp, rfl⟩ := hpl
    have hx : ∀ v s', s'.ph = 6 → s'.rm = rm → s'.key = key → s'.pl = (p : Int) → s'.seq = seq → s'.hd = true → liW v = !rm → DInv T sf (W.set (cP T p) v) (upd c a (if s'.ph = 0 then none else some s')) := fun v s' e0 e1 e2 e3 e4 e5 e6 => by
      have ee : ∀ q, q < T → (W.set (cP T p) v).getD (eP q) 0 = W.getD (eP q) 0 := fun q hq => by rw [set_getD, if_neg (fun g => eP_cP hq g.1.symm)]
      rw [if_neg (by omega)]
      refine h.hold hc (by dsimp only; omega) (by omega) (h.de.same (by simp) ee) (by rw [set_getD, if_neg (fun g => by have := g.1; unfold cP at this; omega)]) e4 ⟨by omega, by omega, by rw [e5, decide_eq_true (by omega)], by rw [e2]; exact k1, by rw [e2]; exact k6, by rw [e2]; exact ks, fun q => by omega, fun q => by omega⟩ ?_ (fun q hq => ?_) (fun _ => ?_)
      · rw [e2]
        exact (k.late (by dsimp only; omega) (by dsimp only; omega) (by omega) e1 e2 e3).words t0 ee
      · by_cases g : q = p
        · subst g; exact .inl ⟨e0, e3⟩
        · refine .inr ?_
          rw [ee q hq, set_getD, if_neg (fun g2 => g (cP_inj g2.1).symm)]
          rcases hlv (fun _ => False) q hq with e | e
          · exact e.elim
          · exact e
      · rw [e3, e1, Int.toNat_natCast, set_getD, if_pos ⟨rfl, cP_lt h.de hp⟩]
        exact e6
    have hm : ∀ s0 : TS, s0.ph = 5 → s0.rm = rm → s0.key = key → s0.pl = (p : Int) → s0.seq = seq → TOK T sf s0 → DInv T sf W (upd c a (if (tMore R s0).ph = 0 then none else some (tMore R s0))) := fun s0 e0 e1 e2 e3 e4 ok0 => by
      have hm := tMore_ph (R := R) s0
      obtain ⟨m1, m2, m3, m4⟩ := tMore_seq (R := R) s0
      rw [if_neg (by omega)]
      refine h.hold hc (by dsimp only; omega) (by omega) h.de rfl (m1.trans e4) (tMore_ok ok0 (by omega)) ?_ (hlv _) (fun q => by omega)
      rw [m2, e2]
      exact k.late (by dsimp only; omega) (by dsimp only; omega) (by omega) (m3.trans e1) (m2.trans e2) (m4.trans e3)
    unfold tStep
    dsimp only
    rw [if_neg (by decide), if_neg (by decide), if_neg (by decide), if_neg (by decide), if_pos rfl, Int.toNat_natCast]
    rcases rm with _ | _
    · rw [if_neg (by decide)]
      exact hx _ _ rfl rfl rfl rfl rfl rfl (born_li)
    · rw [if_pos rfl]
      split
      · exact hx _ _ rfl rfl rfl rfl rfl rfl (gone_li)
      · exact hm _ rfl rfl rfl rfl rfl ok
  · obtain rfl : hd = true := hd'
    have k := h.tk a _ hc (by dsimp only; omega)
    have l6 := h.l6 a _ hc rfl
    dsimp only at l6
    have hx : ∀ (p : Nat) v s', p < T → pl = (p : Int) → s'.ph = 7 → s'.key = key → s'.seq = seq → s'.hd = true → DE T sf (W.set (eP p) v) → isK v = !rm → DInv T sf (W.set (eP p) v) (upd c a (if s'.ph = 0 then none else some s')) := fun p v s' hp ep e0 e2 e4 e5 de hv => by
      subst ep
      rw [Int.toNat_natCast] at l6
      have ec : ∀ q, (W.set (eP p) v).getD (cP T q) 0 = W.getD (cP T q) 0 := fun q => by rw [set_getD, if_neg (fun g => eP_cP hp g.1)]
      rw [if_neg (by omega)]
      refine h.hold hc (by dsimp only; omega) (by omega) de (by rw [set_getD, if_neg (fun g => eP_2 g.1)]) e4 ⟨by omega, by omega, by rw [e5, decide_eq_true (by omega)], by rw [e2]; exact k1, by rw [e2]; exact k6, by rw [e2]; exact ks, fun q => by omega, fun q => by omega⟩ (TK.seven e0) (fun q hq => ?_) (fun q => by omega)
      refine .inr ?_
      rw [ec q, set_getD]
      by_cases g : q = p
      · subst g
        rw [if_pos ⟨rfl, eP_lt h.de hq⟩, hv, l6]
      · rw [if_neg (fun g2 => g (eP_inj g2.1).symm)]
        rcases h.lv' hc (by dsimp only; omega) (x := fun r => r = p) (fun r _ e => by dsimp only at e; omega) q hq with e | e
        · exact absurd e g
        · exact e
    unfold tStep
    dsimp only
    rw [if_neg (by decide), if_neg (by decide), if_neg (by decide), if_neg (by decide), if_neg (by decide), if_pos rfl]
    rcases rm with _ | _
    · obtain ⟨ab, j, e, e1, e2⟩ := k.c4 rfl (by dsimp only; omega) (by dsimp only; omega)
      dsimp only at ab e
      have en := h.de.enter (lg := lg) k1 k6 ab e2
      rw [if_neg (by decide), e, Int.toNat_natCast]
      exact hx _ _ _ (tPl_lt t0 j) e rfl rfl rfl rfl en (enK_is k1 k6).1
    · obtain ⟨p, hp, e, _, _⟩ := k.r4 rfl (by dsimp only; omega) (by dsimp only; omega)
      dsimp only at e
      rw [if_pos rfl, e, Int.toNat_natCast]
      exact hx _ _ _ hp e rfl rfl rfl rfl (h.de.leave hp) (by decide)
  · unfold tStep
    dsimp only
    rw [if_neg (by decide), if_neg (by decide), if_neg (by decide), if_neg (by decide), if_neg (by decide), if_neg (by decide), if_pos rfl]
    exact h.release hc rfl
end
end Go.Proofs.YtkkddjchkkaagaaGreatDoor
