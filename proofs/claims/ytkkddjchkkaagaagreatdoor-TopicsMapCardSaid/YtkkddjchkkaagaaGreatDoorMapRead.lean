/- What took effect, and the row in which a client writes it when its run is done. -/
import Derived.Test.YtkkddjchkkaagaaGreatDoorMapLaw
namespace Go.Proofs.YtkkddjchkkaagaaGreatDoor
open Go Go.Hx
set_option maxRecDepth 8000
deriving instance DecidableEq for EvT
def evS (s : TS) : EvT := ⟨s.tm, s.key, if s.rm then 1 else 0, s.er⟩
theorem len_sub : ∀ {G L : List EvT}, G.Nodup → (∀ e, e ∈ G → e ∈ L) → G.length ≤ L.length
  | [], _, _, _ => Nat.zero_le _
  | x :: G, L, h, hs => by
    rw [List.nodup_cons] at h
    have hx := hs x (List.mem_cons_self ..)
    have ih := len_sub (L := L.erase x) h.2 (fun e he => (List.mem_erase_of_ne (fun g : e = x => h.1 (by rw [← g]; exact he))).2 (hs e (List.mem_cons_of_mem _ he)))
    have := List.length_erase_of_mem hx
    have := List.length_pos_of_mem hx
    simp only [List.length_cons]
    omega
/-- G: what took effect; L: what is written. -/
structure MG (T : Nat) (W : List Int) (c : Nat → Option TS) (st : Int) (L G : List EvT) (q : Option (List Int)) : Prop where
  s0 : 0 ≤ st
  run : evA T none G = some q
  nd : (lst q).Nodup
  km : KM T W c (lst q)
  ri : G.Pairwise (fun a b => a.tm < b.tm)
  hi : ∀ e, e ∈ G → 0 < e.tm ∧ e.tm ≤ st
  lg : ∀ e, e ∈ L → e.tm ≠ 0 → e ∈ G
  c5 : ∀ a s, c a = some s → s.ph ≤ 5 → s.tm = 0
  cg : ∀ a s, c a = some s → s.tm ≠ 0 → evS s ∈ G
  gi : ∀ e, e ∈ G → e ∈ L ∨ ∃ a s, c a = some s ∧ s.tm ≠ 0 ∧ evS s = e
section
variable {T : Nat} {W : List Int} {c : Nat → Option TS} {a : Nat} {s : TS} {R st n : Int} {q : Option (List Int)} {L G : List EvT}
theorem mg_0 (hn : ∀ b, c b = none) (h : ∀ k, ¬ inW T W k) (h0 : 0 ≤ st) : MG T W c st [] [] none := by
  refine ⟨h0, rfl, by simp [lst], fun k => ?_, .nil, (fun e h => by cases h), (fun e h => by cases h), (fun a s e => by rw [hn a] at e; cases e), (fun a s e => by rw [hn a] at e; cases e), (fun e h => by cases h)⟩
  constructor
  · intro h; cases h
  · rintro (⟨b, t, e, _⟩ | ⟨g, _⟩)
    · rw [hn b] at e; cases e
    · exact absurd g (h k)
theorem mg_new (m : MG T W c st L G q) (hc : c a = none) {rm lg : Bool} {key : Int} : MG T W (upd c a (some (newT rm lg key))) st L G q := by
  have e6 : ∀ P : TS → Prop, (∃ b t, upd c a (some (newT rm lg key)) b = some t ∧ t.ph = 6 ∧ P t) ↔ (∃ b t, c b = some t ∧ t.ph = 6 ∧ P t) := fun P => by
    rw [ex6_upd]
    constructor
    · rintro (⟨t, e, g, _⟩ | ⟨b, t, _, h⟩)
      · cases e; exact absurd g (show ¬ (1 : Nat) = 6 by omega)
      · exact ⟨b, t, h⟩
    · rintro ⟨b, t, h, h2⟩
      exact .inr ⟨b, t, (fun g => by subst g; rw [hc] at h; cases h), h, h2⟩
  have ub : ∀ b t, upd c a (some (newT rm lg key)) b = some t → t = newT rm lg key ∨ c b = some t := fun b t h => by
    by_cases g : b = a
    · subst g; simp only [upd, if_true] at h; cases h; exact .inl rfl
    · simp only [upd, if_neg g] at h; exact .inr h
  refine ⟨m.s0, m.run, m.nd, fun k => ?_, m.ri, m.hi, m.lg, fun b t h h5 => ?_, fun b t h h5 => ?_, fun e h => ?_⟩
  · rw [m.km k, e6 (fun t => t.key = k ∧ t.rm = false), e6 (fun t => t.key = k)]
  · rcases ub b t h with rfl | h
    · rfl
    · exact m.c5 b t h h5
  · rcases ub b t h with rfl | h
    · exact absurd rfl h5
    · exact m.cg b t h h5
  · rcases m.gi e h with h | ⟨b, t, h, h2⟩
    · exact .inl h
    · exact .inr ⟨b, t, by simp only [upd, if_neg (show ¬ b = a from fun g => by subst g; rw [hc] at h; cases h)]; exact h, h2⟩
/-- A step. L': with what is written if it is done. -/
theorem mg_step (m : MG T W c st L G q) (D : DInv T (sfT T R) W c) (hc : c a = some s) (C : TC T R n s) {r : TR} (hr : r = tStep T R (sfT T R s.key) s W st) (hk : r.s.key = s.key) (hm : r.s.rm = s.rm) :
    ∃ G' q', MG T r.W (upd c a (if r.s.ph = 0 then none else some r.s)) (st + 1) (if r.s.ph = 0 then L ++ [evS r.s] else L) G' q' := by
  have K := ks_step (st := st) D hc C m.km m.nd
  rw [← hr] at K
  have s0 := m.s0
  have ub : ∀ b t, upd c a (if r.s.ph = 0 then none else some r.s) b = some t → (r.s.ph ≠ 0 ∧ b = a ∧ t = r.s) ∨ (b ≠ a ∧ c b = some t) := fun b t h => by
    by_cases g : b = a
    · subst g; simp only [upd, if_true] at h
      split at h
      · cases h
      · rename_i g0
        cases h; exact .inl ⟨g0, rfl, rfl⟩
    · simp only [upd, if_neg g] at h; exact .inr ⟨g, h⟩
  have inL : ∀ e, e ∈ L → e ∈ (if r.s.ph = 0 then L ++ [evS r.s] else L) := fun e h => by
    split
    · exact List.mem_append_left _ h
    · exact h
  have oth : ∀ e b t, b ≠ a → c b = some t → t.tm ≠ 0 → evS t = e → e ∈ (if r.s.ph = 0 then L ++ [evS r.s] else L) ∨ ∃ a' s', upd c a (if r.s.ph = 0 then none else some r.s) a' = some s' ∧ s'.tm ≠ 0 ∧ evS s' = e := fun e b t hb h h2 h3 =>
    .inr ⟨b, t, by simp only [upd, if_neg hb]; exact h, h2, h3⟩
  have own : r.s.tm ≠ 0 → evS r.s ∈ (if r.s.ph = 0 then L ++ [evS r.s] else L) ∨ ∃ a' s', upd c a (if r.s.ph = 0 then none else some r.s) a' = some s' ∧ s'.tm ≠ 0 ∧ evS s' = evS r.s := fun h => by
    by_cases g : r.s.ph = 0
    · rw [if_pos g]; exact .inl (List.mem_append_right _ (List.mem_singleton.2 rfl))
    · exact .inr ⟨a, r.s, by simp only [upd, if_true, if_neg g], h, rfl⟩
  have lgs : ∀ G' : List EvT, (∀ e, e ∈ G → e ∈ G') → (r.s.tm ≠ 0 → evS r.s ∈ G') → ∀ e, e ∈ (if r.s.ph = 0 then L ++ [evS r.s] else L) → e.tm ≠ 0 → e ∈ G' := fun G' hG hE e he h0 => by
    split at he
    · rcases List.mem_append.1 he with he | he
      · exact hG _ (m.lg e he h0)
      · rw [List.mem_singleton] at he; subst he; exact hE h0
    · exact hG _ (m.lg e he h0)
  cases K with
  | still h1 h2 h3 =>
    have t0 : r.s.tm = 0 := h2.trans (m.c5 a s hc h1)
    refine ⟨G, q, s0 |> fun _ => by omega, m.run, m.nd, h3, m.ri, fun e h => by have := m.hi e h; omega, lgs G (fun _ h => h) (fun h => absurd t0 h), fun b t h h5 => ?_, fun b t h h5 => ?_, fun e h => ?_⟩
    · rcases ub b t h with ⟨_, _, rfl⟩ | ⟨_, h⟩
      · exact t0
      · exact m.c5 b t h h5
    · rcases ub b t h with ⟨_, _, rfl⟩ | ⟨_, h⟩
      · exact absurd t0 h5
      · exact m.cg b t h h5
    · rcases m.gi e h with h | ⟨b, t, h, h2', h3'⟩
      · exact .inl (inL e h)
      · by_cases g : b = a
        · subst g; rw [hc] at h; cases h; exact absurd (m.c5 _ _ hc h1) h2'
        · exact oth e b t g h h2' h3'
  | on h1 h2 h3 h4 h5 =>
    have ee : evS r.s = evS s := by unfold evS; rw [h2, hk, hm, h3]
    have eG : r.s.tm ≠ 0 → evS r.s ∈ G := fun h => by rw [ee]; exact m.cg a s hc (by rw [← h2]; exact h)
    refine ⟨G, q, by omega, m.run, m.nd, h5, m.ri, fun e h => by have := m.hi e h; omega, lgs G (fun _ h => h) eG, fun b t h h5 => ?_, fun b t h h5 => ?_, fun e h => ?_⟩
    · rcases ub b t h with ⟨g0, _, rfl⟩ | ⟨_, h⟩
      · omega
      · exact m.c5 b t h h5
    · rcases ub b t h with ⟨_, _, rfl⟩ | ⟨_, h⟩
      · exact eG h5
      · exact m.cg b t h h5
    · rcases m.gi e h with h | ⟨b, t, h, h2', h3'⟩
      · exact .inl (inL e h)
      · by_cases g : b = a
        · subst g; rw [hc] at h; cases h; rw [← h3', ← ee]; exact own (by rw [h2]; exact h2')
        · exact oth e b t g h h2' h3'
  | now h1 h2 h3 q2 h4 h5 h6 =>
    have e1 : evS r.s = ⟨st + 1, s.key, if s.rm then 1 else 0, r.s.er⟩ := by unfold evS; rw [h3, hk, hm]
    rw [← e1] at h4
    refine ⟨G ++ [evS r.s], q2, by omega, evA_app m.run h4, h5, h6, ?_, fun e h => ?_, lgs _ (fun _ h => List.mem_append_left _ h) (fun _ => List.mem_append_right _ (List.mem_singleton.2 rfl)), fun b t h h5 => ?_, fun b t h h5 => ?_, fun e h => ?_⟩
    · rw [List.pairwise_append]
      refine ⟨m.ri, List.pairwise_singleton .., fun x hx y hy => ?_⟩
      rw [List.mem_singleton] at hy
      subst hy
      have := m.hi x hx
      rw [e1]
      dsimp only
      omega
    · rcases List.mem_append.1 h with h | h
      · have := m.hi e h; omega
      · rw [List.mem_singleton] at h; subst h; rw [e1]; dsimp only; omega
    · rcases ub b t h with ⟨_, _, rfl⟩ | ⟨_, h⟩
      · omega
      · exact m.c5 b t h h5
    · rcases ub b t h with ⟨_, _, rfl⟩ | ⟨_, h⟩
      · exact List.mem_append_right _ (List.mem_singleton.2 rfl)
      · exact List.mem_append_left _ (m.cg b t h h5)
    · rcases List.mem_append.1 h with h | h
      · rcases m.gi e h with h | ⟨b, t, h, h2', h3'⟩
        · exact .inl (inL e h)
        · by_cases g : b = a
          · subst g; rw [hc] at h; cases h; exact absurd (m.c5 _ _ hc h1) h2'
          · exact oth e b t g h h2' h3'
      · rw [List.mem_singleton] at h; subst h; exact own (by rw [h3]; omega)
end
end Go.Proofs.YtkkddjchkkaagaaGreatDoor

/- The written row is read by time: what took effect, one behind the other. -/
namespace Go.Proofs.YtkkddjchkkaagaaGreatDoor
open Go Go.Hx
set_option maxRecDepth 8000
/-- The place of the least one above last, of the first j; -1: there is none. -/
def nxF (f : Nat → Int) (last : Int) : Nat → Int
  | 0 => -1
  | j + 1 => if last < f j ∧ (nxF f last j < 0 ∨ f j < f (nxF f last j).toNat) then (j : Int) else nxF f last j
theorem nx_law (f : Nat → Int) (last : Int) : ∀ j, (nxF f last j = -1 ∧ ∀ i, i < j → f i ≤ last) ∨ ∃ p : Nat, p < j ∧ nxF f last j = (p : Int) ∧ last < f p ∧ ∀ i, i < j → last < f i → f p ≤ f i
  | 0 => .inl ⟨rfl, fun i h => by omega⟩
  | j + 1 => by
    unfold nxF
    rcases nx_law f last j with ⟨e, h⟩ | ⟨p, hp, e, hl, h⟩
    · rw [e]
      by_cases g : last < f j
      · rw [if_pos ⟨g, .inl (by omega)⟩]
        refine .inr ⟨j, by omega, rfl, g, fun i hi hi2 => ?_⟩
        by_cases e2 : i = j
        · subst e2; exact Int.le_refl _
        · have := h i (by omega); omega
      · rw [if_neg (fun x => g x.1)]
        refine .inl ⟨rfl, fun i hi => ?_⟩
        by_cases e2 : i = j
        · subst e2; omega
        · exact h i (by omega)
    · rw [e, Int.toNat_natCast]
      by_cases g : last < f j ∧ f j < f p
      · rw [if_pos ⟨g.1, .inr g.2⟩]
        refine .inr ⟨j, by omega, rfl, g.1, fun i hi hi2 => ?_⟩
        by_cases e2 : i = j
        · subst e2; exact Int.le_refl _
        · have := h i (by omega) hi2; omega
      · rw [if_neg (fun x => g ⟨x.1, by rcases x.2 with y | y <;> omega⟩)]
        refine .inr ⟨p, by omega, rfl, hl, fun i hi hi2 => ?_⟩
        by_cases e2 : i = j
        · subst e2
          by_cases g2 : f i < f p
          · exact absurd ⟨hi2, g2⟩ g
          · omega
        · exact h i (by omega) hi2
/-- What is read so far (G1), and what is not (G2). -/
structure RD (T : Nat) (L G1 G2 : List EvT) (last : Int) (q : Option (List Int)) : Prop where
  l0 : 0 ≤ last
  run1 : evA T none G1 = some q
  run2 : ∃ q', evA T q G2 = some q'
  ri : (G1 ++ G2).Pairwise (fun a b => a.tm < b.tm)
  hl : ∀ e, e ∈ G1 → e.tm ≤ last
  hg : ∀ e, e ∈ G2 → last < e.tm
  lg : ∀ e, e ∈ L → e.tm ≠ 0 → e ∈ G1 ++ G2
  gl : ∀ e, e ∈ G1 ++ G2 → e ∈ L
section
variable {T : Nat} {L G1 G2 : List EvT} {last : Int} {q : Option (List Int)} {f : Nat → Int} {e : EvT}
theorem rd_end (r : RD T L G1 [] last q) (hf : ∀ j (h : j < L.length), f j = (L[j]).tm) : nxF f last L.length = -1 := by
  rcases nx_law f last L.length with ⟨h, _⟩ | ⟨p, hp, _, hl, _⟩
  · exact h
  · rw [hf p hp] at hl
    have l0 := r.l0
    have := r.lg _ (List.getElem_mem hp) (by omega)
    rw [List.append_nil] at this
    have := r.hl _ this
    omega
theorem rd_next (r : RD T L G1 (e :: G2) last q) (hf : ∀ j (h : j < L.length), f j = (L[j]).tm) : ∃ p : Nat, ∃ h : p < L.length, nxF f last L.length = (p : Int) ∧ L[p] = e := by
  have l0 := r.l0
  have eL := r.gl e (List.mem_append_right _ (List.mem_cons_self ..))
  have et := r.hg e (List.mem_cons_self ..)
  obtain ⟨i, hi, ei⟩ := List.getElem_of_mem eL
  rcases nx_law f last L.length with ⟨_, h⟩ | ⟨p, hp, h, hl, hm⟩
  · have := h i hi
    rw [hf i hi, ei] at this
    omega
  · refine ⟨p, hp, h, ?_⟩
    rw [hf p hp] at hl
    have hm := hm i hi (by rw [hf i hi, ei]; exact et)
    rw [hf p hp, hf i hi, ei] at hm
    have ip := r.lg _ (List.getElem_mem hp) (by omega)
    rcases List.mem_append.1 ip with g | g
    · have := r.hl _ g; omega
    · rcases List.mem_cons.1 g with g | g
      · exact g
      · have ri := (List.pairwise_append.1 r.ri).2.1
        rw [List.pairwise_cons] at ri
        have := ri.1 _ g
        omega
theorem rd_step (r : RD T L G1 (e :: G2) last q) : ∃ q2, evR T q e = some q2 ∧ RD T L (G1 ++ [e]) G2 e.tm q2 := by
  obtain ⟨q', h⟩ := r.run2
  unfold evA at h
  rcases g : evR T q e with _ | q2
  · rw [g] at h; cases h
  · rw [g] at h
    have l0 := r.l0
    have et := r.hg e (List.mem_cons_self ..)
    have ri := (List.pairwise_append.1 r.ri).2.1
    rw [List.pairwise_cons] at ri
    have ap : G1 ++ [e] ++ G2 = G1 ++ e :: G2 := by simp
    refine ⟨q2, rfl, by omega, evA_app r.run1 g, ⟨q', h⟩, by rw [ap]; exact r.ri, fun x hx => ?_, fun x hx => ri.1 x hx, by rw [ap]; exact r.lg, by rw [ap]; exact r.gl⟩
    rcases List.mem_append.1 hx with hx | hx
    · have := r.hl x hx; omega
    · rw [List.mem_singleton] at hx; subst hx; exact Int.le_refl _
theorem rd_len (r : RD T L G1 G2 last q) : (G1 ++ G2).length ≤ L.length := len_sub (r.ri.imp (fun h e => by subst e; omega)) r.gl
end
theorem mg_rd {T : Nat} {W : List Int} {c : Nat → Option TS} {st : Int} {q : Option (List Int)} {L G : List EvT} (m : MG T W c st L G q) (hn : ∀ a, c a = none) : RD T L [] G 0 none :=
  ⟨Int.le_refl _, rfl, ⟨q, m.run⟩, m.ri, (fun e h => by cases h), fun e h => (m.hi e h).1, m.lg, fun e h => by
    rcases m.gi e h with h | ⟨a, s, h, _⟩
    · exact h
    · rw [hn a] at h; cases h⟩
/-- What is there at last. -/
theorem mg_end {T : Nat} {W : List Int} {c : Nat → Option TS} {st : Int} {q : Option (List Int)} {L G : List EvT} (m : MG T W c st L G q) (hn : ∀ a, c a = none) (k : Int) : k ∈ lst q ↔ inW T W k := by
  rw [m.km k]
  constructor
  · rintro (⟨b, t, e, _⟩ | ⟨g, _⟩)
    · rw [hn b] at e; cases e
    · exact g
  · intro g
    refine .inr ⟨g, ?_⟩
    rintro ⟨b, t, e, _⟩
    rw [hn b] at e; cases e
end Go.Proofs.YtkkddjchkkaagaaGreatDoor

/- How many turns a run has yet, where no control word is ever Busy. -/
namespace Go.Proofs.YtkkddjchkkaagaaGreatDoor
open Go Go.Hx
set_option maxRecDepth 8000
def mJ (T : Nat) (R : Int) (s : TS) : Int := if s.ph = 1 then 2 * (R - s.fd) + T + 4 else if s.ph = 2 then 2 * (R - s.fd) + T + 3 else if s.ph = 3 then T - s.i + 4 else if s.ph = 4 then 4 else if s.ph = 5 then 3 else if s.ph = 6 then 2 else if s.ph = 7 then 1 else 0
structure NF (T : Nat) (W : List Int) (c : Nat → Option TS) : Prop where
  nb : ∀ p, p < T → buW (W.getD (cP T p) 0) = false
  s5 : ∀ a s, c a = some s → s.ph = 5 → W.getD (cP T s.pl.toNat) 0 = s.sn
section
variable {T : Nat} {W : List Int} {c : Nat → Option TS} {a : Nat} {s : TS} {R st n : Int}
theorem mJ_le (C : TC T R n s) (t4 : T ≤ 4) (r8 : R ≤ 8) : mJ T R s ≤ 24 := by
  have := C.f0; have := C.f1
  unfold mJ
  repeat' split
  all_goals omega
set_option maxHeartbeats 1000000 in
theorem mJ_step (N : NF T W c) (hc : c a = some s) (C : TC T R n s) (h7 : (tStep T R (sfT T R s.key) s W st).s.ph ≠ 0) : mJ T R (tStep T R (sfT T R s.key) s W st).s + 1 ≤ mJ T R s := by
  have s5 := N.s5 a s hc
  have nb := N.nb
  obtain ⟨rm, lg, key, ph, seq, i, fd, hd, tm, er, pl, sn, fl, bk, ep, tp, tl⟩ := s
  have p1 : 1 ≤ ph := C.p1
  have p7 : ph ≤ 7 := C.p7
  have f0 := C.f0
  have f1 := C.f1
  have it : ph ≤ 3 → i < T := C.it
  dsimp only at f0 f1 s5
  have hp : ph = 1 ∨ ph = 2 ∨ ph = 3 ∨ ph = 4 ∨ ph = 5 ∨ ph = 6 ∨ ph = 7 := by omega
  rcases hp with rfl | rfl | rfl | rfl | rfl | rfl | rfl
  · have := it (by omega)
    unfold tStep at h7 ⊢
    dsimp only at h7 ⊢
    rw [if_pos rfl] at h7 ⊢
    dsimp only at h7 ⊢
    unfold tFail at h7 ⊢
    dsimp only at h7 ⊢
    repeat' split
    all_goals simp_all [mJ]
    all_goals omega
  · have := it (by omega)
    unfold tStep at h7 ⊢
    dsimp only at h7 ⊢
    rw [if_neg (by decide), if_pos rfl] at h7 ⊢
    unfold tFail at h7 ⊢
    (try dsimp only at h7 ⊢)
    repeat' split
    all_goals simp_all [mJ]
    all_goals omega
  · have := it (by omega)
    unfold tStep
    dsimp only
    rw [if_neg (by decide), if_neg (by decide), if_pos rfl]
    dsimp only
    generalize (isK (W.getD (eP (tPl T (sfT T R key) i)) 0) && decide (W.getD (eP (tPl T (sfT T R key) i)) 0 / 4 = key)) = b1
    generalize (if isK (W.getD (eP (tPl T (sfT T R key) i)) 0) = false ∧ pl = -1 then ((tPl T (sfT T R key) i : Nat) : Int) else pl) = pv
    generalize (decide (W.getD (eP (tPl T (sfT T R key) i)) 0 = 0) || decide (i + 1 = T)) = b2
    cases rm <;> cases b1 <;> cases b2 <;> simp only [Bool.false_eq_true, if_false, if_true]
    all_goals (by_cases g : pv = -1)
    all_goals simp [mJ, g]
    all_goals omega
  · obtain ⟨p, hp, rfl⟩ : ∃ p : Nat, p < T ∧ pl = (p : Int) := C.pe (by dsimp only; omega) (by dsimp only; omega)
    unfold tStep
    dsimp only
    rw [if_neg (by decide), if_neg (by decide), if_neg (by decide), if_pos rfl, Int.toNat_natCast, nb p hp, Bool.and_false, if_neg (by decide)]
    simp [mJ]
  · have e := s5 rfl
    unfold tStep
    dsimp only
    rw [if_neg (by decide), if_neg (by decide), if_neg (by decide), if_neg (by decide), if_pos rfl]
    cases rm
    · rw [if_neg (by decide)]; simp [mJ]
    · rw [if_pos rfl, if_pos e]; simp [mJ]
  · unfold tStep
    dsimp only
    rw [if_neg (by decide), if_neg (by decide), if_neg (by decide), if_neg (by decide), if_neg (by decide), if_pos rfl]
    simp [mJ]
  · unfold tStep at h7
    dsimp only at h7
    rw [if_neg (by decide), if_neg (by decide), if_neg (by decide), if_neg (by decide), if_neg (by decide), if_neg (by decide), if_pos rfl] at h7
    exact absurd rfl h7
end
end Go.Proofs.YtkkddjchkkaagaaGreatDoor

/- No control word is Busy: kept by every step. -/
namespace Go.Proofs.YtkkddjchkkaagaaGreatDoor
open Go Go.Hx
set_option maxRecDepth 8000
section
variable {T : Nat} {W : List Int} {c : Nat → Option TS} {a : Nat} {s : TS} {R st n : Int}
theorem nf_a {W' : List Int} {s' : TS} (N : NF T W c) (hw : ∀ p, W'.getD (cP T p) 0 = W.getD (cP T p) 0) (ho : s'.ph = 5 → W.getD (cP T s'.pl.toNat) 0 = s'.sn) : NF T W' (upd c a (if s'.ph = 0 then none else some s')) := by
  refine ⟨fun p hp => by rw [hw]; exact N.nb p hp, fun b t h h5 => ?_⟩
  rw [hw]
  by_cases g : b = a
  · subst g; simp only [upd, if_true] at h
    split at h
    · cases h
    · cases h; exact ho h5
  · simp only [upd, if_neg g] at h; exact N.s5 b t h h5
theorem nf_b {sf : Int → Nat} {W' : List Int} {s' : TS} (D : DInv T sf W c) (hc : c a = some s) (h3 : 3 ≤ s.ph) (hw : ∀ p, p < T → buW (W'.getD (cP T p) 0) = false) (ho : s'.ph ≠ 5) : NF T W' (upd c a (if s'.ph = 0 then none else some s')) := by
  refine ⟨hw, fun b t h h5 => ?_⟩
  by_cases g : b = a
  · subst g; simp only [upd, if_true] at h
    split at h
    · cases h
    · cases h; exact absurd h5 ho
  · simp only [upd, if_neg g] at h
    exact absurd (D.un b a t s h hc (by omega) h3) g
theorem gone_bu {w : Int} : buW (goneW w) = false := bu_pk gone_fitW false false
theorem born_bu {w : Int} : buW (bornW w) = false := bu_pk ⟨by unfold epW; omega, by unfold epW; omega, by decide, by decide, by decide, by decide⟩ true false
theorem tFail_5 {s : TS} : (tFail R s).ph ≠ 5 := by unfold tFail; split <;> simp
set_option maxHeartbeats 1000000 in
theorem nf_step (D : DInv T (sfT T R) W c) (N : NF T W c) (hc : c a = some s) (C : TC T R n s) : NF T (tStep T R (sfT T R s.key) s W st).W (upd c a (if (tStep T R (sfT T R s.key) s W st).s.ph = 0 then none else some (tStep T R (sfT T R s.key) s W st).s)) := by
  have s5 := N.s5 a s hc
  have nb := N.nb
  have de := D.de
  obtain ⟨rm, lg, key, ph, seq, i, fd, hd, tm, er, pl, sn, fl, bk, ep, tp, tl⟩ := s
  have p1 : 1 ≤ ph := C.p1
  have p7 : ph ≤ 7 := C.p7
  dsimp only at s5
  have hp : ph = 1 ∨ ph = 2 ∨ ph = 3 ∨ ph = 4 ∨ ph = 5 ∨ ph = 6 ∨ ph = 7 := by omega
  rcases hp with rfl | rfl | rfl | rfl | rfl | rfl | rfl
  · unfold tStep
    dsimp only
    rw [if_pos rfl]
    refine nf_a N (fun _ => rfl) (fun h => absurd h ?_)
    dsimp only
    split
    · exact tFail_5
    · dsimp only; omega
  · unfold tStep
    dsimp only
    rw [if_neg (by decide), if_pos rfl]
    split
    · exact nf_a N (fun _ => get2c) (fun h => absurd h (by dsimp only; omega))
    · exact nf_a N (fun _ => rfl) (fun h => absurd h tFail_5)
  · unfold tStep
    dsimp only
    rw [if_neg (by decide), if_neg (by decide), if_pos rfl]
    refine nf_a N (fun _ => rfl) (fun h => absurd h ?_)
    dsimp only
    generalize (isK (W.getD (eP (tPl T (sfT T R key) i)) 0) && decide (W.getD (eP (tPl T (sfT T R key) i)) 0 / 4 = key)) = b1
    generalize (if isK (W.getD (eP (tPl T (sfT T R key) i)) 0) = false ∧ pl = -1 then ((tPl T (sfT T R key) i : Nat) : Int) else pl) = pv
    generalize (decide (W.getD (eP (tPl T (sfT T R key) i)) 0 = 0) || decide (i + 1 = T)) = b2
    by_cases g : pv = -1 <;> cases rm <;> cases b1 <;> cases b2 <;> simp [g]
  · obtain ⟨p, hp, rfl⟩ : ∃ p : Nat, p < T ∧ pl = (p : Int) := C.pe (by dsimp only; omega) (by dsimp only; omega)
    unfold tStep
    dsimp only
    rw [if_neg (by decide), if_neg (by decide), if_neg (by decide), if_pos rfl, Int.toNat_natCast, nb p hp, Bool.and_false, if_neg (by decide)]
    exact nf_a N (fun _ => rfl) (fun _ => rfl)
  · have e := s5 rfl
    obtain ⟨p, hp, rfl⟩ : ∃ p : Nat, p < T ∧ pl = (p : Int) := C.pe (by dsimp only; omega) (by dsimp only; omega)
    have gc : ∀ v, buW v = false → ∀ q, q < T → buW ((W.set (cP T p) v).getD (cP T q) 0) = false := fun v hv q hq => by
      rw [set_getD]
      split
      · exact hv
      · exact nb q hq
    rw [Int.toNat_natCast] at e
    unfold tStep
    dsimp only
    rw [if_neg (by decide), if_neg (by decide), if_neg (by decide), if_neg (by decide), if_pos rfl, Int.toNat_natCast]
    cases rm
    · rw [if_neg (by decide)]
      exact nf_b D hc (by dsimp only; omega) (gc _ born_bu) (by dsimp only; omega)
    · rw [if_pos rfl, if_pos e]
      exact nf_b D hc (by dsimp only; omega) (gc _ gone_bu) (by dsimp only; omega)
  · obtain ⟨p, hp, rfl⟩ : ∃ p : Nat, p < T ∧ pl = (p : Int) := C.pe (by dsimp only; omega) (by dsimp only; omega)
    unfold tStep
    dsimp only
    rw [if_neg (by decide), if_neg (by decide), if_neg (by decide), if_neg (by decide), if_neg (by decide), if_pos rfl, Int.toNat_natCast]
    exact nf_b D hc (by dsimp only; omega) (fun q hq => by rw [set_getD, if_neg (fun g => eP_cP hp g.1)]; exact nb q hq) (by dsimp only; omega)
  · unfold tStep
    dsimp only
    rw [if_neg (by decide), if_neg (by decide), if_neg (by decide), if_neg (by decide), if_neg (by decide), if_neg (by decide), if_pos rfl]
    exact nf_a N (fun _ => get2c) (fun h => absurd h (by dsimp only; omega))
end
end Go.Proofs.YtkkddjchkkaagaaGreatDoor
