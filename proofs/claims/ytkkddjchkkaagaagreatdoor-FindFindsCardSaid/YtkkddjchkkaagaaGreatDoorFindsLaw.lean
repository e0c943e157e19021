/- FindFinds: the law: a directory that is laid; runs that find, and list, where nobody changes anything. -/
import Derived.Test.YtkkddjchkkaagaaGreatDoorFindTold
import Derived.Test.YtkkddjchkkaagaaGreatDoorFailsRows
import Derived.Test.YtkkddjchkkaagaaGreatDoorMakeWords
namespace Go.Proofs.YtkkddjchkkaagaaGreatDoor
open Go Go.Hx
set_option maxRecDepth 8000
/-- A key's entry, and its control word, as they are laid. -/
def bK (k : Int) : Bool := decide (k % 2 = 1)
def eK (k : Int) : Int := enK k (bK k)
def cK (k : Int) : Int := pkV k 0 0 1 0
theorem eK_v (k : Int) : eK k = 4 * k + (if k % 2 = 1 then 3 else 2) := by
  unfold eK enK bK
  by_cases g : k % 2 = 1 <;> simp [g]
theorem eK_2 {k : Int} (h1 : 1 ≤ k) (_h2 : k ≤ 20) : 6 ≤ eK k ∧ eK k ≤ 83 := by
  rw [eK_v]; split <;> omega
theorem eK_4 (k : Int) : eK k / 4 = k := by rw [eK_v]; split <;> omega
theorem eK_is {k : Int} (h1 : 1 ≤ k) (h2 : k ≤ 20) : isK (eK k) = true := by
  obtain ⟨a, b⟩ := eK_2 h1 h2
  have : 2 ≤ eK k % 4 := by rw [eK_v]; split <;> omega
  exact isK_t (by omega) this (by omega)
theorem eK_lg {k : Int} (h1 : 1 ≤ k) (h2 : k ≤ 20) : lgW (eK k) = bK k := by
  unfold lgW
  rw [eK_is h1 h2, Bool.true_and]
  unfold bK
  rw [eK_v]
  by_cases g : k % 2 = 1
  · rw [if_pos g]; simp [g]; try omega
  · rw [if_neg g]; simp [g]; try omega
theorem cK_b {k : Int} (h1 : 1 ≤ k) (h2 : k ≤ 20) : 0 ≤ cK k ∧ cK k < 18446744073709551616 := by unfold cK pkV; omega
theorem cK_ep {k : Int} (h1 : 1 ≤ k) (h2 : k ≤ 20) : epW (cK k) = k := by unfold cK pkV epW; omega
theorem isK_01 {w : Int} (h : w < 2) : isK w = false := isK_f (by omega)
theorem fP_inj {p q : Nat} (h : fP p = fP q) : p = q := by unfold fP at h; omega
theorem fP_gP {T p q : Nat} (h : p < T) : fP p ≠ gP T q := by unfold fP gP; omega
theorem gP_inj {T p q : Nat} (h : gP T p = gP T q) : p = q := by unfold gP at h; omega
/-- A directory that is laid, of these keys. -/
structure DK (T : Nat) (sf : Int → Nat) (W : List Int) (all : List Int) : Prop where
  t1 : 1 ≤ T
  hl : W.length = 11 + 10 * T
  bd : ∀ j, 0 ≤ W.getD j 0 ∧ W.getD j 0 < 18446744073709551616
  w2 : W.getD 2 0 = 0
  e : ∀ p, p < T → W.getD (fP p) 0 < 2 ∨ ∃ k, k ∈ all ∧ W.getD (fP p) 0 = eK k ∧ W.getD (gP T p) 0 = cK k
  ak : ∀ k, k ∈ all → 1 ≤ k ∧ k ≤ 20
  nd : all.Nodup
  h : ∀ k, k ∈ all → ∃ j, j < T ∧ W.getD (fP (fPl T (sf k) j)) 0 = eK k ∧ ∀ i, i < j → W.getD (fP (fPl T (sf k) i)) 0 ≠ 0
  u : ∀ p q, p < T → q < T → 2 ≤ W.getD (fP p) 0 → W.getD (fP p) 0 = W.getD (fP q) 0 → p = q
theorem nodup_mid {l r : List Int} {k : Int} : (l ++ k :: r).Nodup ↔ (k :: (l ++ r)).Nodup := List.perm_middle.nodup_iff
section
variable {T : Nat} {sf : Int → Nat} {W : List Int} {all : List Int} {k : Int}
theorem DK.fl (d : DK T sf W all) {p : Nat} (hp : p < T) : fP p < W.length := by have := d.hl; unfold fP; omega
theorem DK.gl (d : DK T sf W all) {p : Nat} (hp : p < T) : gP T p < W.length := by have := d.hl; unfold gP; omega
theorem DK.mem (d : DK T sf W all) {p : Nat} (hp : p < T) (h2 : 2 ≤ W.getD (fP p) 0) : ∃ k, k ∈ all ∧ W.getD (fP p) 0 = eK k ∧ W.getD (gP T p) 0 = cK k := by
  rcases d.e p hp with q | q
  · omega
  · exact q
theorem DK.key (d : DK T sf W all) {p : Nat} (hp : p < T) (k1 : 1 ≤ k) (k2 : k ≤ 20) : (isK (W.getD (fP p) 0) = true ∧ W.getD (fP p) 0 / 4 = k) ↔ W.getD (fP p) 0 = eK k := by
  refine ⟨fun ⟨a, b⟩ => ?_, fun q => by rw [q]; exact ⟨eK_is k1 k2, eK_4 k⟩⟩
  rcases d.e p hp with q | ⟨k', _, q, _⟩
  · rw [isK_01 q] at a; cases a
  · rw [q, eK_4] at b
    rw [q, b]
theorem DK.ky (d : DK T sf W all) {p : Nat} (hp : p < T) (k1 : 1 ≤ k) (k2 : k ≤ 20) : kyW (W.getD (fP p) 0) = k ↔ W.getD (fP p) 0 = eK k := by
  rw [← d.key hp k1 k2]
  unfold kyW
  split
  · rename_i g; exact ⟨fun q => ⟨g, q⟩, fun q => q.2⟩
  · rename_i g; exact ⟨fun q => by omega, fun q => absurd q.1 g⟩
theorem DK.isk (d : DK T sf W all) {p : Nat} (hp : p < T) : isK (W.getD (fP p) 0) = true ↔ 2 ≤ W.getD (fP p) 0 := by
  rcases d.e p hp with q | ⟨k', hk, q, _⟩
  · rw [isK_01 q]; exact ⟨fun x => (by cases x), fun x => (by omega)⟩
  · rw [q]
    obtain ⟨a, b⟩ := d.ak _ hk
    have := eK_2 a b
    exact ⟨fun _ => by omega, fun _ => eK_is a b⟩
theorem eK_inj {a b : Int} (h : eK a = eK b) : a = b := by rw [← eK_4 a, ← eK_4 b, h]
/-- A key is laid. -/
theorem DK.ins (d : DK T sf W all) (k1 : 1 ≤ k) (k2 : k ≤ 20) (hk : k ∉ all) {j0 : Nat} (hj : j0 < T) (h0 : W.getD (fP (fPl T (sf k) j0)) 0 < 2) (hb : ∀ j, j < j0 → 2 ≤ W.getD (fP (fPl T (sf k) j)) 0) :
    DK T sf ((W.set (fP (fPl T (sf k) j0)) (eK k)).set (gP T (fPl T (sf k) j0)) (cK k)) (all ++ [k]) := by
  have hp0 : fPl T (sf k) j0 < T := fPl_lt d.t1
  have he := eK_2 k1 k2
  have hf : ∀ p, p < T → ((W.set (fP (fPl T (sf k) j0)) (eK k)).set (gP T (fPl T (sf k) j0)) (cK k)).getD (fP p) 0 = if p = fPl T (sf k) j0 then eK k else W.getD (fP p) 0 := fun p hp => by
    rw [set_getD, if_neg (fun q => fP_gP hp q.1.symm), set_getD]
    by_cases g : p = fPl T (sf k) j0
    · rw [if_pos g, if_pos ⟨by rw [g], d.fl hp⟩]
    · rw [if_neg g, if_neg (fun q => g (fP_inj q.1).symm)]
  have hg : ∀ p, p < T → ((W.set (fP (fPl T (sf k) j0)) (eK k)).set (gP T (fPl T (sf k) j0)) (cK k)).getD (gP T p) 0 = if p = fPl T (sf k) j0 then cK k else W.getD (gP T p) 0 := fun p hp => by
    rw [set_getD, List.length_set]
    by_cases g : p = fPl T (sf k) j0
    · rw [if_pos g, if_pos ⟨by rw [g], d.gl hp⟩]
    · rw [if_neg g, if_neg (fun q => g (gP_inj q.1).symm), set_getD, if_neg (fun q => fP_gP hp0 q.1)]
  have no : ∀ p, p < T → W.getD (fP p) 0 ≠ eK k := fun p hp q => by
    rcases d.e p hp with g | ⟨k', hk', g, _⟩
    · omega
    · rw [q] at g; rw [eK_inj g] at hk; exact hk hk'
  refine ⟨d.t1, by simp only [List.length_set]; exact d.hl, fun j => ?_, ?_, fun p hp => ?_, fun x hx => ?_, ?_, fun x hx => ?_, fun p q hp hq a b => ?_⟩
  · rw [set_getD]
    split
    · exact cK_b k1 k2
    · rw [set_getD]
      split
      · omega
      · exact d.bd j
  · rw [set_getD, if_neg (fun q => by have := q.1; unfold gP at this; omega), set_getD, if_neg (fun q => by have := q.1; unfold fP at this; omega)]
    exact d.w2
  · rw [hf p hp, hg p hp]
    split
    · exact .inr ⟨k, by simp, rfl, rfl⟩
    · rcases d.e p hp with q | ⟨k', hk', q⟩
      · exact .inl q
      · exact .inr ⟨k', by simp [hk'], q⟩
  · rcases List.mem_append.1 hx with q | q
    · exact d.ak x q
    · simp at q; subst q; exact ⟨k1, k2⟩
  · rw [List.nodup_append]
    refine ⟨d.nd, by simp, fun a ha b hb => ?_⟩
    simp at hb; subst hb
    rintro rfl; exact hk ha
  · rcases List.mem_append.1 hx with q | q
    · obtain ⟨j, hj1, hj2, hj3⟩ := d.h x q
      have hlt : fPl T (sf x) j < T := fPl_lt d.t1
      refine ⟨j, hj1, ?_, fun i hi => ?_⟩
      · rw [hf _ hlt, if_neg (fun g => ?_)]
        · exact hj2
        · rw [← g, hj2] at h0
          have := eK_2 (d.ak x q).1 (d.ak x q).2
          omega
      · rw [hf _ (fPl_lt d.t1)]
        split
        · omega
        · exact hj3 i hi
    · simp at q; subst q
      refine ⟨j0, hj, by rw [hf _ hp0, if_pos rfl], fun i hi => ?_⟩
      rw [hf _ (fPl_lt d.t1)]
      split
      · omega
      · have := hb i hi; omega
  · rw [hf p hp] at a b
    rw [hf q hq] at b
    by_cases g : p = fPl T (sf k) j0
    · rw [if_pos g] at a b
      by_cases g2 : q = fPl T (sf k) j0
      · rw [g, g2]
      · rw [if_neg g2] at b
        exact absurd b.symm (no q hq)
    · rw [if_neg g] at a b
      by_cases g2 : q = fPl T (sf k) j0
      · rw [if_pos g2] at b
        exact absurd b (no p hp)
      · rw [if_neg g2] at b
        exact d.u p q hp hq a b
/-- A key's entry is taken away. -/
theorem DK.del {l r : List Int} (d : DK T sf W (l ++ k :: r)) {p0 : Nat} (hp0 : p0 < T) (he0 : W.getD (fP p0) 0 = eK k) : DK T sf (W.set (fP p0) 1) (l ++ r) := by
  have hmem : k ∈ l ++ k :: r := by simp
  obtain ⟨k1, k2⟩ := d.ak k hmem
  have he := eK_2 k1 k2
  have hkn : k ∉ l ++ r := by
    have := d.nd
    rw [nodup_mid] at this
    exact (List.nodup_cons.1 this).1
  have sub : ∀ x, x ∈ l ++ r → x ∈ l ++ k :: r := fun x hx => by
    rcases List.mem_append.1 hx with q | q
    · exact List.mem_append.2 (.inl q)
    · exact List.mem_append.2 (.inr (List.mem_cons_of_mem _ q))
  have hf : ∀ p, p < T → (W.set (fP p0) 1).getD (fP p) 0 = if p = p0 then 1 else W.getD (fP p) 0 := fun p hp => by
    rw [set_getD]
    by_cases g : p = p0
    · rw [if_pos g, if_pos ⟨by rw [g], d.fl hp⟩]
    · rw [if_neg g, if_neg (fun q => g (fP_inj q.1).symm)]
  have hg : ∀ p, p < T → (W.set (fP p0) 1).getD (gP T p) 0 = W.getD (gP T p) 0 := fun p hp => by
    rw [set_getD, if_neg (fun q => fP_gP hp0 q.1)]
  refine ⟨d.t1, by simp only [List.length_set]; exact d.hl, fun j => ?_, ?_, fun p hp => ?_, fun x hx => d.ak x (sub x hx), ?_, fun x hx => ?_, fun p q hp hq a b => ?_⟩
  · rw [set_getD]
    split
    · omega
    · exact d.bd j
  · rw [set_getD, if_neg (fun q => by have := q.1; unfold fP at this; omega)]
    exact d.w2
  · rw [hf p hp, hg p hp]
    split
    · exact .inl (by omega)
    · rename_i g
      rcases d.e p hp with q | ⟨k', hk', q1, q2⟩
      · exact .inl q
      · refine .inr ⟨k', ?_, q1, q2⟩
        have hne : k' ≠ k := by
          rintro rfl
          exact g (d.u p p0 hp hp0 (by rw [q1]; omega) (by rw [q1, he0]))
        rcases List.mem_append.1 hk' with m | m
        · exact List.mem_append.2 (.inl m)
        · rcases List.mem_cons.1 m with m | m
          · exact absurd m hne
          · exact List.mem_append.2 (.inr m)
  · have := d.nd
    rw [nodup_mid] at this
    exact (List.nodup_cons.1 this).2
  · obtain ⟨j, hj1, hj2, hj3⟩ := d.h x (sub x hx)
    have hlt : fPl T (sf x) j < T := fPl_lt d.t1
    refine ⟨j, hj1, ?_, fun i hi => ?_⟩
    · rw [hf _ hlt, if_neg (fun g => ?_)]
      · exact hj2
      · rw [g, he0] at hj2
        rw [eK_inj hj2] at hkn
        exact hkn hx
    · rw [hf _ (fPl_lt d.t1)]
      split
      · omega
      · exact hj3 i hi
  · rw [hf p hp] at a b
    rw [hf q hq] at b
    split at a
    · omega
    · rename_i g
      rw [if_neg g] at b
      split at b
      · omega
      · exact d.u p q hp hq a b
theorem DK.here (d : DK T sf W all) (k1 : 1 ≤ k) (k2 : k ≤ 20) : k ∈ all ↔ ∃ p, p < T ∧ W.getD (fP p) 0 = eK k := by
  refine ⟨fun hk => ?_, fun ⟨p, hp, q⟩ => ?_⟩
  · obtain ⟨j, _, h2, _⟩ := d.h k hk
    exact ⟨_, fPl_lt d.t1, h2⟩
  · have := eK_2 k1 k2
    obtain ⟨k', h1, h2, _⟩ := d.mem hp (by omega)
    rw [q] at h2
    rw [eK_inj h2]; exact h1
/-- Behind a look that is the last one, the key is not there. -/
theorem DK.gone (d : DK T sf W all) (hs : sf k < T) {n : Nat} (hn : ∀ j, j < n → W.getD (fP (fPl T (sf k) j)) 0 ≠ eK k) (hlast : n = T ∨ ∃ j, j + 1 = n ∧ W.getD (fP (fPl T (sf k) j)) 0 = 0) : k ∉ all := by
  intro hk
  obtain ⟨j, h1, h2, h3⟩ := d.h k hk
  rcases hlast with rfl | ⟨i, hi, h0⟩
  · exact hn j h1 h2
  · by_cases g : j < n
    · exact hn j g h2
    · exact h3 i (by omega) h0
/-! The run that finds. -/
def KE (T : Nat) (W : List Int) (all : List Int) (k : Int) (s : FS) : Prop :=
  (s.er = 12 ∧ k ∉ all ∧ s.pl = 0 ∧ s.ep = 0 ∧ s.lg = false) ∨ (s.er = 0 ∧ k ∈ all ∧ s.ep = k ∧ s.lg = bK k ∧ ∃ p : Nat, p < T ∧ s.pl = (p : Int) ∧ W.getD (fP p) 0 = eK k)
structure KF (T : Nat) (sf : Int → Nat) (W : List Int) (all : List Int) (k : Int) (i : Nat) (s : FS) : Prop where
  key : s.key = k
  fd : s.fd = 0
  ph : s.ph ≤ 4
  p1 : s.ph = 1 → i = 0 ∧ s.er = 0 ∧ s.pl = 0 ∧ s.ep = 0 ∧ s.lg = false
  sq : s.ph ≠ 1 → s.seq = 0
  p2 : s.ph = 2 → i = s.i + 1 ∧ s.i < T ∧ s.er = 0 ∧ s.pl = 0 ∧ s.ep = 0 ∧ s.lg = false ∧ ∀ j, j < s.i → W.getD (fP (fPl T (sf k) j)) 0 ≠ eK k
  p3 : s.ph = 3 → i ≤ T + 1 ∧ s.er = 0 ∧ s.lg = bK k ∧ k ∈ all ∧ ∃ p : Nat, p < T ∧ s.pl = (p : Int) ∧ W.getD (fP p) 0 = eK k
  p4 : s.ph = 4 → i ≤ T + 2 ∧ KE T W all k s
  p0 : s.ph = 0 → KE T W all k s
theorem KF.new : KF T sf W all k 0 ⟨k, 1, 0, 0, 0, 0, 0, false, 0, 0⟩ :=
  ⟨rfl, rfl, (by decide : (1 : Nat) ≤ 4), fun _ => ⟨rfl, rfl, rfl, rfl, rfl⟩, fun q => absurd rfl q, fun q => absurd q (show ¬ (1 : Nat) = 2 by decide), fun q => absurd q (show ¬ (1 : Nat) = 3 by decide), fun q => absurd q (show ¬ (1 : Nat) = 4 by decide), fun q => absurd q (show ¬ (1 : Nat) = 0 by decide)⟩
theorem KF.done {i : Nat} {s : FS} (h : KF T sf W all k i s) (h0 : s.ph = 0) : KF T sf W all k (i + 1) s :=
  ⟨h.key, h.fd, h.ph, fun q => by omega, h.sq, fun q => by omega, fun q => by omega, fun q => by omega, h.p0⟩
theorem KF.fin {s : FS} (h : KF T sf W all k (T + 3) s) : s.ph = 0 := by
  have := h.ph
  have a1 : s.ph ≠ 1 := fun q => by have := (h.p1 q).1; omega
  have a2 : s.ph ≠ 2 := fun q => by have := h.p2 q; omega
  have a3 : s.ph ≠ 3 := fun q => by have := (h.p3 q).1; omega
  have a4 : s.ph ≠ 4 := fun q => by have := (h.p4 q).1; omega
  omega
theorem KF.step {i : Nat} {s : FS} {R st : Int} (d : DK T sf W all) (k1 : 1 ≤ k) (k2 : k ≤ 20) (hs : sf k < T) (h : KF T sf W all k i s) (h0 : s.ph ≠ 0) : KF T sf W all k (i + 1) (fStep T R (sf k) s W st).s := by
  have w2 := d.w2
  have hp : s.ph = 1 ∨ s.ph = 2 ∨ s.ph = 3 ∨ s.ph = 4 := by have := h.ph; omega
  unfold fStep
  rw [w2]
  rcases hp with e | e | e | e
  · obtain ⟨i0, _, _, _, _⟩ := h.p1 e
    rw [if_pos e, if_neg (by decide)]
    exact ⟨h.key, h.fd, (by decide : (2 : Nat) ≤ 4), fun q => absurd q (show ¬ (2 : Nat) = 1 by decide), fun _ => rfl, fun _ => ⟨by (try dsimp only); omega, d.t1, rfl, rfl, rfl, rfl, fun j hj => absurd hj (by (try dsimp only); omega)⟩,
      fun q => absurd q (show ¬ (2 : Nat) = 3 by decide), fun q => absurd q (show ¬ (2 : Nat) = 4 by decide), fun q => absurd q (show ¬ (2 : Nat) = 0 by decide)⟩
  · obtain ⟨i0, it, e1, e2, e3, e4, e5⟩ := h.p2 e
    have sq := h.sq (by omega)
    rw [if_neg (by omega), if_pos e]
    have hpl : fPl T (sf k) s.i < T := fPl_lt d.t1
    have hk := d.key hpl k1 k2
    rw [h.key]
    dsimp only
    by_cases g : W.getD (fP (fPl T (sf k) s.i)) 0 = eK k
    · rw [if_pos (hk.2 g)]
      refine ⟨rfl, h.fd, (by decide : (3 : Nat) ≤ 4), fun q => absurd q (show ¬ (3 : Nat) = 1 by decide), fun _ => sq, fun q => absurd q (show ¬ (3 : Nat) = 2 by decide), fun _ => ⟨by omega, e1, ?_, (d.here k1 k2).2 ⟨_, hpl, g⟩, _, hpl, rfl, g⟩,
        fun q => absurd q (show ¬ (3 : Nat) = 4 by decide), fun q => absurd q (show ¬ (3 : Nat) = 0 by decide)⟩
      dsimp only
      rw [g]; exact eK_lg k1 k2
    · rw [if_neg (fun q => g (hk.1 q))]
      have hn : ∀ j, j < s.i + 1 → W.getD (fP (fPl T (sf k) j)) 0 ≠ eK k := fun j hj => by
        by_cases q : j = s.i
        · rw [q]; exact g
        · exact e5 j (by omega)
      split
      · rename_i gl
        refine ⟨rfl, h.fd, (by decide : (4 : Nat) ≤ 4), fun q => absurd q (show ¬ (4 : Nat) = 1 by decide), fun _ => sq, fun q => absurd q (show ¬ (4 : Nat) = 2 by decide), fun q => absurd q (show ¬ (4 : Nat) = 3 by decide),
          fun _ => ⟨by omega, .inl ⟨rfl, ?_, e2, e3, e4⟩⟩, fun q => absurd q (show ¬ (4 : Nat) = 0 by decide)⟩
        refine d.gone hs hn ?_
        rcases gl with q | q
        · exact .inr ⟨s.i, rfl, q⟩
        · exact .inl q
      · rename_i gl
        exact ⟨rfl, h.fd, (by decide : (2 : Nat) ≤ 4), fun q => absurd q (show ¬ (2 : Nat) = 1 by decide), fun _ => sq, fun _ => ⟨by (try dsimp only); omega, by (try dsimp only); omega, e1, e2, e3, e4, hn⟩, fun q => absurd q (show ¬ (2 : Nat) = 3 by decide), fun q => absurd q (show ¬ (2 : Nat) = 4 by decide), fun q => absurd q (show ¬ (2 : Nat) = 0 by decide)⟩
  · obtain ⟨i0, e1, e2, e3, p, hp, e4, e5⟩ := h.p3 e
    have sq := h.sq (by omega)
    rw [if_neg (by omega), if_neg (by omega), if_pos e]
    have he := eK_2 k1 k2
    obtain ⟨k', _, q2, q3⟩ := d.mem hp (by omega)
    rw [e5] at q2
    have := eK_inj q2
    subst this
    refine ⟨h.key, h.fd, (by decide : (4 : Nat) ≤ 4), fun q => absurd q (show ¬ (4 : Nat) = 1 by decide), fun _ => sq, fun q => absurd q (show ¬ (4 : Nat) = 2 by decide), fun q => absurd q (show ¬ (4 : Nat) = 3 by decide),
      fun _ => ⟨by omega, .inr ⟨e1, e3, ?_, e2, p, hp, e4, e5⟩⟩, fun q => absurd q (show ¬ (4 : Nat) = 0 by decide)⟩
    dsimp only
    rw [e4, Int.toNat_natCast, q3]
    exact cK_ep k1 k2
  · obtain ⟨i0, ke⟩ := h.p4 e
    have sq := h.sq (by omega)
    rw [if_neg (by omega), if_neg (by omega), if_neg (by omega), if_pos sq.symm]
    exact ⟨h.key, h.fd, (by decide : (0 : Nat) ≤ 4), fun q => absurd q (show ¬ (0 : Nat) = 1 by decide), fun _ => sq, fun q => absurd q (show ¬ (0 : Nat) = 2 by decide), fun q => absurd q (show ¬ (0 : Nat) = 3 by decide), fun q => absurd q (show ¬ (0 : Nat) = 4 by decide), fun _ => ke⟩
/-! The run that lists. -/
def kyF (W : List Int) (n : Nat) : List Int := ((List.range n).filter fun p => isK (W.getD (fP p) 0)).map fun p => W.getD (fP p) 0 / 4
def toldK (W : List Int) (n : Nat) : Option (List Int) := if kyF W n = [] then none else some (kyF W n)
theorem kyF_succ (n : Nat) : kyF W (n + 1) = if isK (W.getD (fP n) 0) = true then kyF W n ++ [W.getD (fP n) 0 / 4] else kyF W n := by
  unfold kyF
  rw [List.range_succ, List.filter_append, List.map_append]
  by_cases g : isK (W.getD (fP n) 0) = true
  · rw [if_pos g, List.filter_cons_of_pos (p := fun p => isK (W.getD (fP p) 0)) g, List.filter_nil, List.map_cons, List.map_nil]
  · rw [if_neg g, List.filter_cons_of_neg (p := fun p => isK (W.getD (fP p) 0)) g, List.filter_nil, List.map_nil, List.append_nil]
theorem toldK_succ (n : Nat) : toldK W (n + 1) = if isK (W.getD (fP n) 0) = true then some (lst (toldK W n) ++ [W.getD (fP n) 0 / 4]) else toldK W n := by
  unfold toldK
  rw [kyF_succ]
  by_cases g : isK (W.getD (fP n) 0) = true
  · rw [if_pos g, if_pos g, if_neg (by simp)]
    congr 2
    by_cases q : kyF W n = []
    · rw [if_pos q, q]; rfl
    · rw [if_neg q]; rfl
  · rw [if_neg g, if_neg g]
theorem kyF_len (n : Nat) : (kyF W n).length ≤ n := by
  unfold kyF
  rw [List.length_map]
  exact Nat.le_trans (List.length_filter_le _ _) (by simp)
structure KL (T : Nat) (W : List Int) (i : Nat) (s : LS) : Prop where
  it : s.i ≤ T
  fd : s.fd = 0
  er : s.er = 0
  ph : s.ph = 0 ∨ s.ph = 1 ∨ s.ph = 2 ∨ s.ph = 4
  p1 : s.ph = 1 → i = 0 ∧ s.told = none
  p2 : s.ph = 2 → i = s.i + 1 ∧ s.i < T ∧ s.seq = 0 ∧ s.told = toldK W s.i
  p4 : s.ph = 4 → i = T + 1 ∧ s.seq = 0 ∧ s.told = toldK W T
  p0 : s.ph = 0 → i = T + 2 ∧ s.told = toldK W T
theorem KL.new : KL T W 0 ⟨1, 0, 0, 0, none, 0, 0⟩ :=
  ⟨Nat.zero_le _, rfl, rfl, .inr (.inl rfl), fun _ => ⟨rfl, rfl⟩, fun q => absurd q (show ¬ (1 : Nat) = 2 by decide), fun q => absurd q (show ¬ (1 : Nat) = 4 by decide), fun q => absurd q (show ¬ (1 : Nat) = 0 by decide)⟩
theorem KL.step {i : Nat} {s : LS} {R st : Int} (d : DK T sf W all) (h : KL T W i s) (hi : i < T + 2) : KL T W (i + 1) (lStep T R s W st).s := by
  have w2 := d.w2
  have t1 := d.t1
  unfold lStep
  rw [w2]
  rcases h.ph with e | e | e | e
  · exact absurd (h.p0 e).1 (by omega)
  · obtain ⟨i0, e1⟩ := h.p1 e
    rw [if_pos e, if_neg (by decide)]
    exact ⟨Nat.zero_le _, h.fd, rfl, .inr (.inr (.inl rfl)), fun q => absurd q (show ¬ (2 : Nat) = 1 by decide), fun _ => ⟨by (try dsimp only); omega, t1, rfl, rfl⟩, fun q => absurd q (show ¬ (2 : Nat) = 4 by decide), fun q => absurd q (show ¬ (2 : Nat) = 0 by decide)⟩
  · obtain ⟨i0, it, sq, e1⟩ := h.p2 e
    rw [if_neg (by omega), if_pos e]
    have e2 : (if isK (W.getD (fP s.i) 0) = true then some (lst s.told ++ [W.getD (fP s.i) 0 / 4]) else s.told) = toldK W (s.i + 1) := by rw [toldK_succ, e1]
    rw [e2]
    by_cases g : s.i + 1 = T
    · rw [if_pos g]
      exact ⟨by (try dsimp only); omega, h.fd, h.er, .inr (.inr (.inr rfl)), fun q => absurd q (show ¬ (4 : Nat) = 1 by decide), fun q => absurd q (show ¬ (4 : Nat) = 2 by decide), fun _ => ⟨by omega, sq, by (try dsimp only); rw [g]⟩, fun q => absurd q (show ¬ (4 : Nat) = 0 by decide)⟩
    · rw [if_neg g]
      exact ⟨by (try dsimp only); omega, h.fd, h.er, .inr (.inr (.inl rfl)), fun q => absurd q (show ¬ (2 : Nat) = 1 by decide), fun _ => ⟨by (try dsimp only); omega, by (try dsimp only); omega, sq, rfl⟩, fun q => absurd q (show ¬ (2 : Nat) = 4 by decide), fun q => absurd q (show ¬ (2 : Nat) = 0 by decide)⟩
  · obtain ⟨i0, sq, e1⟩ := h.p4 e
    rw [if_neg (by omega), if_neg (by omega), if_pos sq.symm]
    exact ⟨h.it, h.fd, h.er, .inl rfl, fun q => absurd q (show ¬ (0 : Nat) = 1 by decide), fun q => absurd q (show ¬ (0 : Nat) = 2 by decide), fun q => absurd q (show ¬ (0 : Nat) = 4 by decide), fun _ => ⟨by omega, e1⟩⟩
theorem KL.fin {s : LS} (h : KL T W (T + 2) s) : s.ph = 0 ∧ s.told = toldK W T := by
  rcases h.ph with e | e | e | e
  · exact ⟨e, (h.p0 e).2⟩
  · have := (h.p1 e).1; omega
  · have := h.p2 e; omega
  · have := (h.p4 e).1; omega
theorem kyF_mem {n : Nat} {x : Int} : x ∈ kyF W n ↔ ∃ p, p < n ∧ isK (W.getD (fP p) 0) = true ∧ W.getD (fP p) 0 / 4 = x := by
  unfold kyF
  simp only [List.mem_map, List.mem_filter, List.mem_range]
  exact ⟨fun ⟨p, ⟨a, b⟩, c⟩ => ⟨p, a, b, c⟩, fun ⟨p, a, b, c⟩ => ⟨p, ⟨a, b⟩, c⟩⟩
theorem DK.told_nd (d : DK T sf W all) : ∀ n, n ≤ T → (kyF W n).Nodup
  | 0, _ => List.nodup_nil
  | n + 1, hn => by
    rw [kyF_succ]
    split
    · rename_i g
      rw [List.nodup_append]
      refine ⟨d.told_nd n (by omega), by simp, fun a ha b hb => ?_⟩
      rw [List.mem_singleton] at hb; subst hb
      obtain ⟨p, hp, h1, h2⟩ := kyF_mem.1 ha
      rintro rfl
      have a2 := (d.isk (p := p) (by omega)).1 h1
      obtain ⟨x, _, q1, _⟩ := d.mem (p := p) (by omega) a2
      obtain ⟨y, _, q2, _⟩ := d.mem (p := n) (by omega) ((d.isk (p := n) (by omega)).1 g)
      rw [q1, q2, eK_4, eK_4] at h2
      have := d.u p n (by omega) (by omega) a2 (by rw [q1, q2, h2])
      omega
    · exact d.told_nd n (by omega)
theorem DK.told_mem (d : DK T sf W all) {x : Int} : x ∈ kyF W T ↔ x ∈ all := by
  rw [kyF_mem]
  refine ⟨fun ⟨p, hp, h1, h2⟩ => ?_, fun hx => ?_⟩
  · obtain ⟨k, hk, q, _⟩ := d.mem hp ((d.isk hp).1 h1)
    rw [q, eK_4] at h2
    rw [← h2]; exact hk
  · obtain ⟨k1, k2⟩ := d.ak x hx
    obtain ⟨p, hp, q⟩ := (d.here k1 k2).1 hx
    exact ⟨p, hp, by rw [q]; exact eK_is k1 k2, by rw [q, eK_4]⟩
theorem DK.told (d : DK T sf W all) : (srt (kyF W T)).Perm all :=
  (srt_perm _).trans ((List.perm_ext_iff_of_nodup (d.told_nd T (Nat.le_refl T)) d.nd).2 fun _ => d.told_mem)
theorem DK.told_up (d : DK T sf W all) {i : Nat} (hi : i + 1 < (srt (kyF W T)).length) : (srt (kyF W T)).getD i 0 < (srt (kyF W T)).getD (i + 1) 0 := by
  have h1 : (srt (kyF W T)).getD i 0 ≤ (srt (kyF W T)).getD (i + 1) 0 := srt_up (by omega) (by rw [srt_len] at hi; exact hi)
  have nd : (srt (kyF W T)).Nodup := (d.told.nodup_iff).2 d.nd
  have h2 : (srt (kyF W T)).getD i 0 ≠ (srt (kyF W T)).getD (i + 1) 0 := by
    rw [List.getD_eq_getElem?_getD, List.getD_eq_getElem?_getD, List.getElem?_eq_getElem (by omega), List.getElem?_eq_getElem hi]
    intro q
    have := (List.getElem_inj nd).1 q
    omega
  omega
end
end Go.Proofs.YtkkddjchkkaagaaGreatDoor

/- FindFinds: the words of a directory, as functions. -/
namespace Go.Proofs.YtkkddjchkkaagaaGreatDoor
open Go Go.Hx
set_option maxRecDepth 8000
/-- The first place that is free, from a start on. -/
def jF (T s : Nat) (W : List Int) : Option Nat := (List.range T).find? fun j => decide (W.getD (fP (fPl T s j)) 0 < 2)
def putK (T : Nat) (W : List Int) (p : Nat) (k : Int) : List Int := (W.set (fP p) (eK k)).set (gP T p) (cK k)
def insK (T : Nat) (sf : Int → Nat) (x : List Int × List Int) (k : Int) : List Int × List Int :=
  if hasL x.2 k = true then x else match jF T (sf k) x.1 with
    | none => x
    | some j => (putK T x.1 (fPl T (sf k) j) k, x.2 ++ [k])
def stK (T : Nat) (sf : Int → Nat) (W0 : List Int) (z : List Int) : Nat → List Int × List Int
  | 0 => (W0, [])
  | i + 1 => insK T sf (stK T sf W0 z i) (cRem 1 20 (z.getD i 0))
/-- Where a key stands. -/
def pF (T : Nat) (W : List Int) (k : Int) : Option Nat := (List.range T).find? fun p => decide (kyW (W.getD (fP p) 0) = k)
def delK (T : Nat) (W : List Int) (k : Int) : List Int := match pF T W k with
  | none => W
  | some p => W.set (fP p) 1
def rmK (T : Nat) (g : Nat → Bool) (W : List Int) (all : List Int) : Nat → List Int × List Int
  | 0 => (W, [])
  | i + 1 => if g i = true then ((rmK T g W all i).1, (rmK T g W all i).2 ++ [all.getD i 0]) else (delK T (rmK T g W all i).1 (all.getD i 0), (rmK T g W all i).2)
section
variable {T : Nat} {sf : Int → Nat} {W W0 : List Int} {all z : List Int} {k : Int} {g : Nat → Bool}
theorem jF_some {s j : Nat} (hj : j < T) (h0 : W.getD (fP (fPl T s j)) 0 < 2) (hb : ∀ i, i < j → ¬ W.getD (fP (fPl T s i)) 0 < 2) : jF T s W = some j := by
  unfold jF
  rw [List.find?_range_eq_some]
  exact ⟨decide_eq_true h0, List.mem_range.2 hj, fun i hi => by rw [decide_eq_false (hb i hi)]; rfl⟩
theorem jF_none {s : Nat} (hb : ∀ i, i < T → ¬ W.getD (fP (fPl T s i)) 0 < 2) : jF T s W = none := by
  unfold jF
  rw [List.find?_eq_none]
  intro i hi
  rw [decide_eq_false (hb i (List.mem_range.1 hi))]; decide
theorem jF_is {s j : Nat} (h : jF T s W = some j) : j < T ∧ W.getD (fP (fPl T s j)) 0 < 2 ∧ ∀ i, i < j → ¬ W.getD (fP (fPl T s i)) 0 < 2 := by
  unfold jF at h
  rw [List.find?_range_eq_some] at h
  obtain ⟨a, b, c⟩ := h
  exact ⟨List.mem_range.1 b, of_decide_eq_true a, fun i hi q => by have := c i hi; rw [decide_eq_true q] at this; cases this⟩
theorem ins_dk {x : List Int × List Int} (d : DK T sf x.1 x.2) (k1 : 1 ≤ k) (k2 : k ≤ 20) : DK T sf (insK T sf x k).1 (insK T sf x k).2 := by
  unfold insK
  split
  · exact d
  · rename_i hh
    split
    · exact d
    · rename_i j hj
      obtain ⟨a, b, c⟩ := jF_is hj
      exact d.ins k1 k2 (fun q => hh (hasL_iff.2 q)) a b (fun i hi => by have := c i hi; omega)
theorem ins_len (x : List Int × List Int) : (insK T sf x k).2.length ≤ x.2.length + 1 := by
  unfold insK
  split
  · omega
  · split
    · omega
    · simp
theorem st_dk (d : DK T sf W0 []) : ∀ i, DK T sf (stK T sf W0 z i).1 (stK T sf W0 z i).2
  | 0 => d
  | i + 1 => by
    obtain ⟨a, b⟩ := cRemB 1 20 (z.getD i 0) (by decide) (by decide) (by decide) (by decide)
    exact ins_dk (st_dk d i) a (by omega)
theorem st_len : ∀ i, (stK T sf W0 z i).2.length ≤ i
  | 0 => Nat.le_refl 0
  | i + 1 => Nat.le_trans (ins_len _) (by have := st_len i; omega)
theorem del_at {p : Nat} (hp : p < T) (d : DK T sf W all) (k1 : 1 ≤ k) (k2 : k ≤ 20) (h : W.getD (fP p) 0 = eK k) : delK T W k = W.set (fP p) 1 := by
  have : pF T W k = some p := by
    unfold pF
    rw [List.find?_range_eq_some]
    refine ⟨decide_eq_true ((d.ky hp k1 k2).2 h), List.mem_range.2 hp, fun i hi => ?_⟩
    rw [decide_eq_false (fun q => ?_)]
    · rfl
    · have q2 := (d.ky (p := i) (by omega) k1 k2).1 q
      have := eK_2 k1 k2
      have := d.u i p (by omega) hp (by omega) (by rw [q2, h])
      omega
  unfold delK
  rw [this]
theorem rm_dk (d : DK T sf W all) : ∀ i, i ≤ all.length → DK T sf (rmK T g W all i).1 ((rmK T g W all i).2 ++ all.drop i)
  | 0, _ => by simpa [rmK] using d
  | i + 1, hi => by
    have ih := rm_dk d i (by omega)
    have hd : all.drop i = all.getD i 0 :: all.drop (i + 1) := by
      rw [List.drop_eq_getElem_cons (by omega), List.getD_eq_getElem?_getD, List.getElem?_eq_getElem (by omega)]
      rfl
    rw [hd] at ih
    show DK T sf (if g i = true then _ else _ : List Int × List Int).1 ((if g i = true then _ else _ : List Int × List Int).2 ++ _)
    split
    · rw [List.append_assoc]
      exact ih
    · obtain ⟨k1, k2⟩ := ih.ak (all.getD i 0) (by simp)
      obtain ⟨p, hp, he⟩ := (ih.here k1 k2).1 (by simp)
      rw [del_at hp ih k1 k2 he]
      exact ih.del hp he
theorem rm_end (d : DK T sf W all) : DK T sf (rmK T g W all all.length).1 (rmK T g W all all.length).2 := by
  have := rm_dk (g := g) d all.length (Nat.le_refl _)
  rwa [List.drop_length, List.append_nil] at this
theorem rm_len : ∀ i, (rmK T g W all i).2.length ≤ i
  | 0 => Nat.le_refl 0
  | i + 1 => by
    have := rm_len i
    show (if g i = true then _ else _ : List Int × List Int).2.length ≤ _
    split
    · simp; omega
    · simp; omega
end
/-- A list, or none. -/
def opL (l : List Int) : Option (List Int) := if l = [] then none else some l
theorem opL_app (l : List Int) (x : Int) : opL (l ++ [x]) = some (l ++ [x]) := by unfold opL; rw [if_neg (by simp)]
theorem opL_lst (l : List Int) : lst (opL l) = l := by
  unfold opL
  split
  · rename_i h; rw [h]; rfl
  · rfl
/-- The words as made are a directory of no keys. -/
theorem dk_new {T : Nat} {R : Int} {sf : Int → Nat} (t1 : 1 ≤ T) (t8 : T ≤ 8) (r1 : 1 ≤ R) (r4 : R ≤ 4) : DK T sf (mkA (T : Int) 4 1 2 4 1 6 0 R).W [] := by
  have hr := right_FR t1 t8 r1 r4
  have e : ∀ p, p < T → (mkA (T : Int) 4 1 2 4 1 6 0 R).W.getD (fP p) 0 = 0 := fun p hp => mkA_zero hr (.inr ⟨by unfold fP; omega, by unfold fP; omega⟩)
  refine ⟨t1, ?_, mkA_bd hr, mkA_zero hr (.inl rfl), fun p hp => .inl (by rw [e p hp]; decide), (fun k hk => by cases hk), List.nodup_nil, (fun k hk => by cases hk), fun p q hp hq a b => ?_⟩
  · rw [mkA_len]; unfold sizeV; omega
  · rw [e p hp] at a; omega
end Go.Proofs.YtkkddjchkkaagaaGreatDoor
