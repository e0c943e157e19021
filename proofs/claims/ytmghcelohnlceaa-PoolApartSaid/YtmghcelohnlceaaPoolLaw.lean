/- Blocks are taken and given back: what holds behind each turn (the plain law). -/
import Derived.Test.YtmghcelohnlceaaMakeWords
import Derived.Test.YtmghcelohnlceaaHyc
namespace Go.Proofs.Ytmghcelohnlceaa
open Go Go.Hx
set_option maxRecDepth 8000

abbrev bkP (A B b : Int) : Int := blockV 1 4 1 4 A 6 B b
abbrev szP (A B : Int) : Int := sizeV 1 4 1 4 A 6 B
theorem pool_right {A B : Int} (h1 : 0 ≤ A) (h2 : A ≤ 5) (h3 : 0 ≤ B) (h4 : B ≤ 5) : rightB 1 4 1 2 4 A 6 B 2 = true := right_iff.2 (by omega)
theorem szP_eq (A B : Int) : szP A B = 16 + A * 5 + B * 7 := by simp only [szP, sizeV]; omega
theorem bkP_eq {A B b : Int} (h1 : 1 ≤ b) (h2 : b ≤ A + B) : bkP A B b = 16 + minV (b - 1) A * 5 + (b - 1 - minV (b - 1) A) * 7 := by
  simp only [bkP, blockV, atV]; rw [if_pos ⟨h1, h2⟩]; omega
theorem bkP_range {A B b : Int} (_hA : 0 ≤ A) (hB : 0 ≤ B) (h1 : 1 ≤ b) (h2 : b ≤ A + B) : 16 ≤ bkP A B b ∧ bkP A B b < szP A B := by
  rw [bkP_eq h1 h2, szP_eq]; unfold minV; split <;> omega
theorem bkP_inj {A B b d : Int} (_ : 0 ≤ A) (h1 : 1 ≤ b) (h2 : b ≤ A + B) (h3 : 1 ≤ d) (h4 : d ≤ A + B) (h : bkP A B b = bkP A B d) : b = d := by
  rw [bkP_eq h1 h2, bkP_eq h3 h4] at h; unfold minV at h; split at h <;> split at h <;> omega
theorem cls_iff {A B b c : Int} (hc : 0 ≤ c) (h : classV A B b = c) : 1 ≤ b ∧ b ≤ A + B ∧ (c = 0 ∧ b ≤ A ∨ c = 1 ∧ A < b) := by
  unfold classV at h; split at h
  · split at h <;> omega
  · omega
theorem cls_bd {A B b : Int} (h1 : 1 ≤ b) (h2 : b ≤ A + B) : 0 ≤ classV A B b ∧ classV A B b ≤ 1 := by
  unfold classV; rw [if_pos ⟨h1, h2⟩]; split <;> omega

/-- A head with the next tag. -/
def turnV (w b : Int) : Int := (w / 4294967296 + 1) % 4294967296 * 4294967296 + b % 4294967296

/-- What a client does. -/
inductive Ph where
  | idle
  | t1 (c s b f : Int) | t2 (c s b f : Int) | t3 (c s b f : Int)
  | g1 (b s : Int) | g2 (b s : Int) | g3 (b s : Int)
structure Pk where
  own : Option (List Int)
  ph : Ph
def Ph.giv : Ph → List Int
  | .g1 b _ => [b]
  | .g2 b _ => [b]
  | .g3 b _ => [b]
  | _ => []
def kset (k : Nat → Pk) (m : Nat) (c : Pk) : Nat → Pk := fun j => if j = m then c else k j
theorem kset_same (k : Nat → Pk) (m : Nat) (c : Pk) : kset k m c m = c := by simp [kset]
theorem kset_other {k : Nat → Pk} {m j : Nat} {c : Pk} (h : j ≠ m) : kset k m c j = k j := by simp [kset, h]
theorem kset_kset (k : Nat → Pk) (m : Nat) (c d : Pk) : kset (kset k m c) m d = kset k m d := by
  funext j; simp only [kset]; split <;> rfl
def chn (A B : Int) (W : List Int) : Int → List Int → Prop
  | v, [] => v % 4294967296 = 0
  | v, b :: l => v % 4294967296 = b ∧ chn A B W (W.getD (bkP A B b).toNat 0) l
theorem chn_set {A B : Int} {W : List Int} {j : Nat} {x : Int} : ∀ {l : List Int} {v : Int}, (∀ b ∈ l, (bkP A B b).toNat ≠ j) → chn A B W v l → chn A B (W.set j x) v l
  | [], _, _, h => h
  | b :: l, v, hn, h => ⟨h.1, by rw [set_getD, if_neg (fun e => hn b (by simp) e.1.symm)]; exact chn_set (fun d hd => hn d (by simp [hd])) h.2⟩
theorem chn_low {A B : Int} {W : List Int} {l : List Int} {v u : Int} (h : chn A B W v l) (e : u % 4294967296 = v % 4294967296) : chn A B W u l := by
  cases l with
  | nil => simp only [chn] at *; omega
  | cons b l => exact ⟨e.trans h.1, h.2⟩
def cnt1 (c : Pk) (b : Int) : Nat := (lst c.own).count b + c.ph.giv.count b
def cntK (k : Nat → Pk) (b : Int) : Nat := cnt1 (k 0) b + cnt1 (k 1) b + cnt1 (k 2) b + cnt1 (k 3) b
theorem cntK_set {k : Nat → Pk} {m : Nat} (hm : m < 4) {c : Pk} {b : Int} : cntK (kset k m c) b + cnt1 (k m) b = cntK k b + cnt1 c b := by
  rcases m with _ | _ | _ | _ | m
  · simp [cntK, kset]; omega
  · simp [cntK, kset]; omega
  · simp [cntK, kset]; omega
  · simp [cntK, kset]; omega
  · omega
theorem cntK_one {k : Nat → Pk} {m : Nat} (hm : m < 4) (b : Int) : cnt1 (k m) b ≤ cntK k b := by
  rcases m with _ | _ | _ | _ | m <;> simp only [cntK, Nat.zero_add, Nat.reduceAdd] <;> omega
theorem cntK_two {k : Nat → Pk} {m j : Nat} (hm : m < 4) (hj : j < 4) (h : j ≠ m) (b : Int) : cnt1 (k m) b + cnt1 (k j) b ≤ cntK k b := by
  rcases m with _ | _ | _ | _ | m <;> rcases j with _ | _ | _ | _ | j <;> simp only [cntK, Nat.zero_add, Nat.reduceAdd] <;> omega

def oldW (W : List Int) (c s : Int) : Prop := 0 ≤ s ∧ s < 18446744073709551616 ∧ (s = W.getD (3 + c).toNat 0 ∨ s / 4294967296 < W.getD (3 + c).toNat 0 / 4294967296)
def okPh (A B : Int) (W : List Int) : Ph → Prop
  | .idle => True
  | .t1 c _ _ _ => 0 ≤ c ∧ c ≤ 1
  | .t2 c s b _ => (0 ≤ c ∧ c ≤ 1) ∧ oldW W c s ∧ b = s % 4294967296 ∧ classV A B b = c
  | .t3 c s b f => (0 ≤ c ∧ c ≤ 1) ∧ oldW W c s ∧ b = s % 4294967296 ∧ classV A B b = c ∧ (0 ≤ f ∧ f < 4294967296) ∧ (s = W.getD (3 + c).toNat 0 → W.getD (bkP A B b).toNat 0 % 4294967296 = f)
  | .g1 b _ => 1 ≤ b ∧ b ≤ A + B
  | .g2 b s => (1 ≤ b ∧ b ≤ A + B) ∧ oldW W (classV A B b) s
  | .g3 b s => (1 ≤ b ∧ b ≤ A + B) ∧ oldW W (classV A B b) s ∧ W.getD (bkP A B b).toNat 0 = s % 4294967296
structure InvQ (A B : Int) (i : Nat) (W : List Int) (k : Nat → Pk) (L : Int → List Int) : Prop where
  a0 : 0 ≤ A
  a1 : A ≤ 5
  b0 : 0 ≤ B
  b1 : B ≤ 5
  len : W.length = (szP A B).toNat
  bd : ∀ j, 0 ≤ W.getD j 0 ∧ W.getD j 0 < 18446744073709551616
  tag : ∀ c : Int, 0 ≤ c → c ≤ 1 → W.getD (3 + c).toNat 0 / 4294967296 ≤ i
  chn : ∀ c : Int, 0 ≤ c → c ≤ 1 → chn A B W (W.getD (3 + c).toNat 0) (L c)
  cls : ∀ c : Int, 0 ≤ c → c ≤ 1 → ∀ b ∈ L c, classV A B b = c
  cnt : ∀ b, (L 0).count b + (L 1).count b + cntK k b = if 1 ≤ b ∧ b ≤ A + B then 1 else 0
  ph : ∀ m, m < 4 → okPh A B W (k m).ph

section
variable {A B : Int} {i : Nat} {W : List Int} {k : Nat → Pk} {L : Int → List Int}
theorem InvQ.up (h : InvQ A B i W k L) : InvQ A B (i + 1) W k L :=
  ⟨h.a0, h.a1, h.b0, h.b1, h.len, h.bd, fun c h0 h1 => by have := h.tag c h0 h1; omega, h.chn, h.cls, h.cnt, h.ph⟩
theorem InvQ.size (h : InvQ A B i W k L) : 16 ≤ W.length ∧ W.length ≤ 76 := by
  have h0 := h.a0; have h1 := h.a1; have h2 := h.b0; have h3 := h.b1
  rw [h.len, szP_eq]; omega
/-- A block that a client has is a block. -/
theorem InvQ.rng (h : InvQ A B i W k L) {m : Nat} (hm : m < 4) {b : Int} (hb : b ∈ lst (k m).own) : 1 ≤ b ∧ b ≤ A + B := by
  have h1 := cntK_one (k := k) hm b
  have h2 := h.cnt b
  have h3 : 0 < (lst (k m).own).count b := List.count_pos_iff.2 hb
  unfold cnt1 at h1
  split at h2
  · assumption
  · omega
theorem InvQ.lt (h : InvQ A B i W k L) (c : Int) (h0 : 0 ≤ c) (h1 : c ≤ 1) : (3 + c).toNat < W.length := by have := h.size; omega
/-- What another client does is still right when a head has another tag. -/
theorem old_head {c c' s n : Int} (hc : 0 ≤ c ∧ c ≤ 1) (hc' : 0 ≤ c' ∧ c' ≤ 1) (hl : (3 + c).toNat < W.length) (hn : W.getD (3 + c).toNat 0 / 4294967296 < n / 4294967296) (h : oldW W c' s) : oldW (W.set (3 + c).toNat n) c' s := by
  obtain ⟨s0, s1, h⟩ := h
  refine ⟨s0, s1, ?_⟩
  rw [set_getD]
  split
  · rename_i e
    have : c' = c := by omega
    subst this
    rcases h with h | h
    · right; rw [h]; exact hn
    · right; omega
  · exact h
theorem ph_head (hA : 0 ≤ A) (hB : 0 ≤ B) {c n : Int} (hc : 0 ≤ c ∧ c ≤ 1) (hl : (3 + c).toNat < W.length) (hn : W.getD (3 + c).toNat 0 / 4294967296 < n / 4294967296) : ∀ {p : Ph}, okPh A B W p → okPh A B (W.set (3 + c).toNat n) p := by
  have hb : ∀ b : Int, 1 ≤ b → b ≤ A + B → (W.set (3 + c).toNat n).getD (bkP A B b).toNat 0 = W.getD (bkP A B b).toNat 0 := fun b h1 h2 => by
    have := bkP_range hA hB h1 h2
    rw [set_getD, if_neg (by omega)]
  intro p h
  cases p with
  | idle => trivial
  | t1 c' s b f => exact h
  | t2 c' s b f => exact ⟨h.1, old_head hc h.1 hl hn h.2.1, h.2.2⟩
  | t3 c' s b f =>
    obtain ⟨h1, h2, h3, h4, h5, h6⟩ := h
    have hr := cls_iff h1.1 h4
    refine ⟨h1, old_head hc h1 hl hn h2, h3, h4, h5, ?_⟩
    rw [hb b hr.1 hr.2.1, set_getD]
    split
    · rename_i e
      have : c' = c := by omega
      subst this
      intro e
      obtain ⟨_, _, h2⟩ := h2
      rcases h2 with h2 | h2
      · rw [← h2, ← e] at hn; omega
      · rw [e] at h2; omega
    · exact h6
  | g1 b s => exact h
  | g2 b s => exact ⟨h.1, old_head hc (cls_bd h.1.1 h.1.2) hl hn h.2⟩
  | g3 b s => exact ⟨h.1, old_head hc (cls_bd h.1.1 h.1.2) hl hn h.2.1, by rw [hb b h.1.1 h.1.2]; exact h.2.2⟩
/-- .. when what is behind a block is another one, a block that nobody looks at. -/
theorem ph_next (hA : 0 ≤ A) (hB : 0 ≤ B) {b x : Int} (hb : 1 ≤ b ∧ b ≤ A + B) : ∀ {p : Ph}, okPh A B W p → (∀ c s b' f, p = .t3 c s b' f → s = W.getD (3 + c).toNat 0 → b' ≠ b) → (∀ b' s, p = .g3 b' s → b' ≠ b) → okPh A B (W.set (bkP A B b).toNat x) p := by
  have hr := bkP_range hA hB hb.1 hb.2
  have hh : ∀ c : Int, c ≤ 1 → (W.set (bkP A B b).toNat x).getD (3 + c).toNat 0 = W.getD (3 + c).toNat 0 := fun c h => by rw [set_getD, if_neg (by omega)]
  have hk : ∀ d : Int, 1 ≤ d → d ≤ A + B → d ≠ b → (W.set (bkP A B b).toNat x).getD (bkP A B d).toNat 0 = W.getD (bkP A B d).toNat 0 := fun d h1 h2 h3 => by
    have h4 := bkP_range hA hB h1 h2
    rw [set_getD, if_neg (fun e => h3 (bkP_inj hA h1 h2 hb.1 hb.2 (by omega)))]
  have ho : ∀ c s : Int, 0 ≤ c ∧ c ≤ 1 → oldW W c s → oldW (W.set (bkP A B b).toNat x) c s := fun c s h1 h2 => by
    unfold oldW; rw [hh c h1.2]; exact h2
  intro p h ht hg
  cases p with
  | idle => trivial
  | t1 c' s b f => exact h
  | t2 c' s b f => exact ⟨h.1, ho _ _ h.1 h.2.1, h.2.2⟩
  | t3 c' s d f =>
    obtain ⟨h1, h2, h3, h4, h5, h6⟩ := h
    have hd := cls_iff h1.1 h4
    refine ⟨h1, ho _ _ h1 h2, h3, h4, h5, ?_⟩
    rw [hh c' h1.2]
    intro e
    rw [hk d hd.1 hd.2.1 (ht _ _ _ _ rfl e)]
    exact h6 e
  | g1 b s => exact h
  | g2 b s => exact ⟨h.1, ho _ _ (cls_bd h.1.1 h.1.2) h.2⟩
  | g3 d s => exact ⟨h.1, ho _ _ (cls_bd h.1.1 h.1.2) h.2.1, by rw [hk d h.1.1 h.1.2 (hg _ _ rfl)]; exact h.2.2⟩

/-- Nothing but what a client does is another. -/
theorem q_keep (h : InvQ A B i W k L) {m : Nat} (hm : m < 4) {c : Pk} (hp : okPh A B W c.ph) (hc : ∀ b, cnt1 c b = cnt1 (k m) b) : InvQ A B i W (kset k m c) L := by
  refine ⟨h.a0, h.a1, h.b0, h.b1, h.len, h.bd, h.tag, h.chn, h.cls, fun b => ?_, fun j hj => ?_⟩
  · have h1 := cntK_set (k := k) hm (c := c) (b := b)
    have h2 := h.cnt b
    have h3 := hc b
    rw [← h2]; omega
  · by_cases e : j = m
    · subst e; rw [kset_same]; exact hp
    · rw [kset_other e]; exact h.ph j hj
/-- A list's first block. -/
theorem q_first (h : InvQ A B i W k L) {c : Int} (h0 : 0 ≤ c) (h1 : c ≤ 1) {b : Int} (hb : W.getD (3 + c).toNat 0 % 4294967296 = b) (hc : classV A B b = c) : ∃ r, L c = b :: r ∧ chn A B W (W.getD (bkP A B b).toNat 0) r := by
  have hq := h.chn c h0 h1
  have hi := cls_iff h0 hc
  cases hl : L c with
  | nil => rw [hl] at hq; simp only [Proofs.Ytmghcelohnlceaa.chn] at hq; omega
  | cons d r =>
    rw [hl] at hq
    obtain ⟨q1, q2⟩ := hq
    have : d = b := by omega
    subst this
    exact ⟨r, rfl, q2⟩
theorem q_none (h : InvQ A B i W k L) {c : Int} (h0 : 0 ≤ c) (h1 : c ≤ 1) {b : Int} (hb : W.getD (3 + c).toNat 0 % 4294967296 = b) : L c = [] ↔ ¬ classV A B b = c := by
  constructor
  · intro e hc
    obtain ⟨r, hr, _⟩ := q_first h h0 h1 hb hc
    rw [e] at hr; simp at hr
  · intro hc
    have hq := h.chn c h0 h1
    cases hl : L c with
    | nil => rfl
    | cons d r =>
      rw [hl] at hq
      have e : d = b := by rw [← hb, hq.1]
      subst e
      exact (hc (h.cls c h0 h1 d (by rw [hl]; simp))).elim
def Lset (L : Int → List Int) (c : Int) (l : List Int) : Int → List Int := fun d => if d = c then l else L d
/-- A head is another, with the next tag. -/
theorem q_head (h : InvQ A B i W k L) {m : Nat} (hm : m < 4) {p : Pk} {c n : Int} {l : List Int} (h0 : 0 ≤ c) (h1 : c ≤ 1) (hn : n / 4294967296 = W.getD (3 + c).toNat 0 / 4294967296 + 1) (hi : i < 1000000) (hn0 : 0 ≤ n)
    (hl : chn A B W n l) (hc : ∀ b ∈ l, classV A B b = c) (hp : okPh A B (W.set (3 + c).toNat n) p.ph) (hct : ∀ b, l.count b + cnt1 p b = (L c).count b + cnt1 (k m) b) :
    InvQ A B (i + 1) (W.set (3 + c).toNat n) (kset k m p) (Lset L c l) := by
  have hsz := h.size
  have ht := h.tag c h0 h1
  have hbd := h.bd (3 + c).toNat
  have hlt := h.lt c h0 h1
  have hlow : ∀ {u : Int} {r : List Int}, (∀ b ∈ r, 1 ≤ b ∧ b ≤ A + B) → chn A B W u r → chn A B (W.set (3 + c).toNat n) u r := fun hr hq => chn_set (fun b hb => by
    have := bkP_range h.a0 h.b0 (hr b hb).1 (hr b hb).2
    omega) hq
  refine ⟨h.a0, h.a1, h.b0, h.b1, by rw [List.length_set]; exact h.len, fun j => ?_, fun d d0 d1 => ?_, fun d d0 d1 => ?_, fun d d0 d1 => ?_, fun b => ?_, fun j hj => ?_⟩
  · rw [set_getD]; split
    · omega
    · exact h.bd j
  · have := h.tag d d0 d1
    rw [set_getD]; split
    · omega
    · omega
  · by_cases e : d = c
    · subst e
      simp only [Lset, if_true]
      rw [set_getD, if_pos ⟨rfl, hlt⟩]
      exact hlow (fun b hb => by have := cls_iff h0 (hc b hb); omega) hl
    · simp only [Lset, if_neg e]
      rw [set_getD, if_neg (by omega)]
      exact hlow (fun b hb => by have := cls_iff d0 (h.cls d d0 d1 b hb); omega) (h.chn d d0 d1)
  · by_cases e : d = c
    · subst e; simp only [Lset, if_true]; exact hc
    · simp only [Lset, if_neg e]; exact h.cls d d0 d1
  · have q1 := cntK_set (k := k) hm (c := p) (b := b)
    have q2 := h.cnt b
    have q3 := hct b
    have hc' : c = 0 ∨ c = 1 := by omega
    rcases hc' with rfl | rfl
    · simp only [Lset, if_true]; rw [if_neg (by decide), ← q2]; omega
    · simp only [Lset, if_true]; rw [if_neg (by decide), ← q2]; omega
  · by_cases e : j = m
    · subst e; rw [kset_same]; exact hp
    · rw [kset_other e]; exact ph_head h.a0 h.b0 ⟨h0, h1⟩ hlt (by omega) (h.ph j hj)
theorem turn_tag {w b : Int} (h0 : 0 ≤ w) (hb : w / 4294967296 ≤ 1000000) : turnV w b / 4294967296 = w / 4294967296 + 1 ∧ turnV w b % 4294967296 = b % 4294967296 ∧ 0 ≤ turnV w b := by
  unfold turnV; omega

/-! The steps. -/
theorem q_bt (h : InvQ A B i W k L) {m : Nat} (hm : m < 4) {c s b f : Int} (hc : 0 ≤ c ∧ c ≤ 1) (hk : (k m).ph = .idle) : InvQ A B i W (kset k m ⟨(k m).own, .t1 c s b f⟩) L :=
  q_keep h hm hc fun b => by simp [cnt1, hk, Ph.giv]
theorem q_bg (h : InvQ A B i W k L) {m : Nat} (hm : m < 4) {l : List Int} {d : Nat} {o : Option (List Int)} {s : Int} (hk : k m = ⟨some l, .idle⟩) (hd : d < l.length) (ho : lst o = l.take d ++ l.drop (d + 1)) : InvQ A B i W (kset k m ⟨o, .g1 (l.getD d 0) s⟩) L := by
  have hsp : l = l.take d ++ l.getD d 0 :: l.drop (d + 1) := by
    rw [List.getD_eq_getElem?_getD, List.getElem?_eq_getElem hd, Option.getD_some, ← List.drop_eq_getElem_cons hd, List.take_append_drop]
  have hb : l.getD d 0 ∈ l := by
    rw [List.getD_eq_getElem?_getD, List.getElem?_eq_getElem hd]; exact List.getElem_mem hd
  refine q_keep h hm (h.rng hm (by rw [hk]; exact hb)) fun b => ?_
  rw [hk]
  simp only [cnt1, ho, Ph.giv]
  have e : (lst (some l)).count b = (l.take d ++ l.getD d 0 :: l.drop (d + 1)).count b := by rw [← hsp]; rfl
  rw [e]
  simp only [List.count_append, List.count_cons, List.count_nil]
  omega
theorem q_t1n (h : InvQ A B i W k L) {m : Nat} (hm : m < 4) {o : Option (List Int)} {c s b f : Int} (hk : k m = ⟨o, .t1 c s b f⟩) : InvQ A B (i + 1) W (kset k m ⟨o, .idle⟩) L :=
  (InvQ.up (q_keep h hm trivial fun b => by rw [hk]; rfl))
theorem q_t1y (h : InvQ A B i W k L) {m : Nat} (hm : m < 4) {o : Option (List Int)} {c s b f v : Int} (hk : k m = ⟨o, .t1 c s b f⟩) (hv : v = W.getD (3 + c).toNat 0) (hc : classV A B (v % 4294967296) = c) : InvQ A B (i + 1) W (kset k m ⟨o, .t2 c v (v % 4294967296) f⟩) L := by
  have hp := h.ph m hm
  rw [hk] at hp
  have := h.bd (3 + c).toNat
  exact (InvQ.up (q_keep h hm ⟨hp, ⟨by omega, by omega, .inl hv⟩, rfl, hc⟩ fun b => by rw [hk]; rfl))
theorem q_t2 (h : InvQ A B i W k L) {m : Nat} (hm : m < 4) {o : Option (List Int)} {c s b f v : Int} (hk : k m = ⟨o, .t2 c s b f⟩) (hv : v = W.getD (bkP A B b).toNat 0 % 4294967296) : InvQ A B (i + 1) W (kset k m ⟨o, .t3 c s b v⟩) L := by
  have hp := h.ph m hm
  rw [hk] at hp
  exact (InvQ.up (q_keep h hm ⟨hp.1, hp.2.1, hp.2.2.1, hp.2.2.2, by omega, fun _ => hv.symm⟩ fun b => by rw [hk]; rfl))
theorem q_t3n (h : InvQ A B i W k L) {m : Nat} (hm : m < 4) {o : Option (List Int)} {c s b f : Int} (hk : k m = ⟨o, .t3 c s b f⟩) : InvQ A B (i + 1) W (kset k m ⟨o, .t1 c s b f⟩) L := by
  have hp := h.ph m hm
  rw [hk] at hp
  exact (InvQ.up (q_keep h hm hp.1 fun b => by rw [hk]; rfl))
theorem q_t3y (h : InvQ A B i W k L) {m : Nat} (hm : m < 4) {o o' : Option (List Int)} {c s b f : Int} (hi : i < 1000000) (hk : k m = ⟨o, .t3 c s b f⟩) (hs : W.getD (3 + c).toNat 0 = s) (ho : lst o' = lst o ++ [b]) :
    ∃ r, L c = b :: r ∧ InvQ A B (i + 1) (W.set (3 + c).toNat (turnV s f)) (kset k m ⟨o', .idle⟩) (Lset L c r) := by
  have hp := h.ph m hm
  rw [hk] at hp
  obtain ⟨p1, p2, p3, p4, p5, p6⟩ := hp
  obtain ⟨r, e1, e2⟩ := q_first h p1.1 p1.2 (b := b) (by rw [hs]; exact p3.symm) p4
  have ht := h.tag c p1.1 p1.2
  rw [hs] at ht
  obtain ⟨t1, t2, t3⟩ := turn_tag (w := s) (b := f) p2.1 (by omega)
  refine ⟨r, e1, q_head h hm p1.1 p1.2 (by rw [hs]; exact t1) hi t3 (chn_low e2 (by rw [t2, p6 hs.symm]; omega)) (fun d hd => h.cls c p1.1 p1.2 d (by rw [e1]; simp [hd])) trivial fun d => ?_⟩
  rw [e1, hk]
  simp only [cnt1, ho, List.count_append, List.count_cons, List.count_nil, Ph.giv]
  omega
theorem q_g1 (h : InvQ A B i W k L) {m : Nat} (hm : m < 4) {o : Option (List Int)} {b s v : Int} (hk : k m = ⟨o, .g1 b s⟩) (hv : v = W.getD (3 + classV A B b).toNat 0) : InvQ A B (i + 1) W (kset k m ⟨o, .g2 b v⟩) L := by
  have hp := h.ph m hm
  rw [hk] at hp
  have := h.bd (3 + classV A B b).toNat
  exact (InvQ.up (q_keep h hm ⟨hp, by omega, by omega, .inl hv⟩ fun b => by rw [hk]; rfl))
theorem q_g3n (h : InvQ A B i W k L) {m : Nat} (hm : m < 4) {o : Option (List Int)} {b s : Int} (hk : k m = ⟨o, .g3 b s⟩) : InvQ A B (i + 1) W (kset k m ⟨o, .g1 b s⟩) L := by
  have hp := h.ph m hm
  rw [hk] at hp
  exact (InvQ.up (q_keep h hm hp.1 fun b => by rw [hk]; rfl))
theorem q_g2 (h : InvQ A B i W k L) {m : Nat} (hm : m < 4) {o : Option (List Int)} {b s : Int} (hk : k m = ⟨o, .g2 b s⟩) : InvQ A B (i + 1) (W.set (bkP A B b).toNat (s % 4294967296)) (kset k m ⟨o, .g3 b s⟩) L := by
  have hp := h.ph m hm
  rw [hk] at hp
  obtain ⟨p1, p2⟩ := hp
  have hsz := h.size
  have hr := bkP_range h.a0 h.b0 p1.1 p1.2
  have hlt : (bkP A B b).toNat < W.length := by rw [h.len]; omega
  have hgb : 1 ≤ cnt1 (k m) b := by rw [hk]; simp [cnt1, Ph.giv]
  have hgo := cntK_one (k := k) hm b
  have hcb := h.cnt b
  rw [if_pos p1] at hcb
  have hnl : ∀ c : Int, 0 ≤ c → c ≤ 1 → b ∉ L c := fun c c0 c1 hb => by
    have : 0 < (L c).count b := List.count_pos_iff.2 hb
    have hc' : c = 0 ∨ c = 1 := by omega
    rcases hc' with rfl | rfl <;> omega
  have hh : ∀ c : Int, c ≤ 1 → (W.set (bkP A B b).toNat (s % 4294967296)).getD (3 + c).toNat 0 = W.getD (3 + c).toNat 0 := fun c h => by rw [set_getD, if_neg (by omega)]
  refine ⟨h.a0, h.a1, h.b0, h.b1, by rw [List.length_set]; exact h.len, fun j => ?_, fun d d0 d1 => ?_, fun d d0 d1 => ?_, h.cls, fun d => ?_, fun j hj => ?_⟩
  · rw [set_getD]; split
    · omega
    · exact h.bd j
  · rw [hh d d1]; have := h.tag d d0 d1; omega
  · rw [hh d d1]
    refine chn_set (fun x hx e => ?_) (h.chn d d0 d1)
    have hx' := cls_iff d0 (h.cls d d0 d1 x hx)
    have hx2 := bkP_range h.a0 h.b0 hx'.1 hx'.2.1
    have : x = b := bkP_inj h.a0 hx'.1 hx'.2.1 p1.1 p1.2 (by omega)
    subst this
    exact hnl d d0 d1 hx
  · have q1 := cntK_set (k := k) hm (c := ⟨o, .g3 b s⟩) (b := d)
    have q2 := h.cnt d
    have q3 : cnt1 ⟨o, .g3 b s⟩ d = cnt1 (k m) d := by rw [hk]; rfl
    rw [← q2]; omega
  · by_cases e : j = m
    · subst e; rw [kset_same]
      have hc1 := cls_bd p1.1 p1.2
      refine ⟨p1, ?_, ?_⟩
      · unfold oldW; rw [hh _ hc1.2]; exact p2
      · rw [set_getD, if_pos ⟨rfl, hlt⟩]
    · rw [kset_other e]
      refine ph_next h.a0 h.b0 p1 (h.ph j hj) (fun c s' b' f hq he hb => ?_) (fun b' s' hq hb => ?_)
      · have hp := h.ph j hj
        rw [hq] at hp
        obtain ⟨r1, _, r3, r4, _⟩ := hp
        obtain ⟨r, e1, _⟩ := q_first h r1.1 r1.2 (b := b') (by rw [← he]; exact r3.symm) r4
        rw [hb] at e1
        exact hnl c r1.1 r1.2 (by rw [e1]; simp)
      · have h2 := cntK_two (k := k) hm hj e b
        have h3 : 1 ≤ cnt1 (k j) b := by
          unfold cnt1; rw [hq, hb]; simp [Ph.giv]
        omega
theorem q_g3y (h : InvQ A B i W k L) {m : Nat} (hm : m < 4) {o : Option (List Int)} {b s : Int} (hi : i < 1000000) (hk : k m = ⟨o, .g3 b s⟩) (hs : W.getD (3 + classV A B b).toNat 0 = s) :
    InvQ A B (i + 1) (W.set (3 + classV A B b).toNat (turnV s b)) (kset k m ⟨o, .idle⟩) (Lset L (classV A B b) (b :: L (classV A B b))) := by
  have hp := h.ph m hm
  rw [hk] at hp
  obtain ⟨p1, p2, p3⟩ := hp
  have hc1 := cls_bd p1.1 p1.2
  have h1 := h.a1
  have h3 := h.b1
  have ht := h.tag _ hc1.1 hc1.2
  rw [hs] at ht
  obtain ⟨t1, t2, t3⟩ := turn_tag (w := s) (b := b) p2.1 (by omega)
  have hq := h.chn _ hc1.1 hc1.2
  rw [hs] at hq
  refine q_head h hm hc1.1 hc1.2 (by rw [hs]; exact t1) hi t3 ⟨by omega, chn_low hq (by rw [p3]; omega)⟩ (fun d hd => ?_) trivial fun d => ?_
  · simp only [List.mem_cons] at hd
    rcases hd with rfl | hd
    · rfl
    · exact h.cls _ hc1.1 hc1.2 d hd
  · rw [hk]
    simp only [cnt1, List.count_cons, List.count_nil, Ph.giv]
    omega
end

/-! What there is at first. -/
def upto (a : Int) : Nat → List Int
  | 0 => []
  | n + 1 => a :: upto (a + 1) n
theorem upto_mem {x : Int} : ∀ {n : Nat} {a : Int}, x ∈ upto a n ↔ a ≤ x ∧ x < a + n
  | 0, a => by simp only [upto, List.not_mem_nil, false_iff]; omega
  | n + 1, a => by simp only [upto, List.mem_cons, upto_mem (n := n)]; omega
theorem upto_count {x : Int} : ∀ {n : Nat} {a : Int}, (upto a n).count x = if a ≤ x ∧ x < a + n then 1 else 0
  | 0, a => by simp only [upto, List.count_nil]; rw [if_neg (by omega)]
  | n + 1, a => by
    simp only [upto, List.count_cons, upto_count (n := n)]
    by_cases e : a = x
    · subst e; rw [if_neg (by omega), if_pos (by simp), if_pos (by omega)]
    · have : ¬ (a == x) = true := by simpa using e
      rw [if_neg this]
      have : (a + 1 ≤ x ∧ x < a + 1 + n) ↔ (a ≤ x ∧ x < a + ((n + 1 : Nat) : Int)) := by omega
      simp only [this]; omega
theorem upto_length : ∀ {n : Nat} {a : Int}, (upto a n).length = n
  | 0, _ => rfl
  | n + 1, a => by simp [upto, upto_length (n := n)]
theorem upto_chn {A B : Int} {W : List Int} : ∀ {n : Nat} {a v : Int}, v % 4294967296 = (if n = 0 then 0 else a) → (∀ b, a ≤ b → b < a + n → W.getD (bkP A B b).toNat 0 % 4294967296 = if b + 1 < a + n then b + 1 else 0) → chn A B W v (upto a n)
  | 0, a, v, h, _ => by simpa [upto, chn] using h
  | n + 1, a, v, h, hn => by
    refine ⟨by simpa using h, upto_chn ?_ fun b h1 h2 => ?_⟩
    · rw [hn a (by omega) (by omega)]
      by_cases e : n = 0
      · rw [if_pos e, if_neg (by omega)]
      · rw [if_neg e, if_pos (by omega)]
    · rw [hn b (by omega) (by omega)]
      have : b + 1 < a + ((n + 1 : Nat) : Int) ↔ b + 1 < a + 1 + n := by omega
      simp only [this]
def k0 : Nat → Pk := fun _ => ⟨none, .idle⟩
def L0 (A B : Int) : Int → List Int := fun c => if c = 0 then upto 1 A.toNat else upto (A + 1) B.toNat
theorem cls0 {A B b : Int} (h1 : 1 ≤ b) (h2 : b ≤ A) (hB : 0 ≤ B) : classV A B b = 0 := by unfold classV; rw [if_pos (by omega), if_pos h2]
theorem cls1 {A B b : Int} (hA : 0 ≤ A) (h1 : A < b) (h2 : b ≤ A + B) : classV A B b = 1 := by unfold classV; rw [if_pos (by omega), if_neg (by omega)]
theorem L0_0 (A B : Int) : L0 A B 0 = upto 1 A.toNat := rfl
theorem L0_1 (A B : Int) : L0 A B 1 = upto (A + 1) B.toNat := rfl
theorem q_0 {A B : Int} (h1 : 0 ≤ A) (h2 : A ≤ 5) (h3 : 0 ≤ B) (h4 : B ≤ 5) : InvQ A B 0 (mkA 1 4 1 2 4 A 6 B 2).W k0 (L0 A B) := by
  have hr := pool_right h1 h2 h3 h4
  refine ⟨h1, h2, h3, h4, mkA_len, mkA_bd hr, fun c c0 c1 => ?_, fun c c0 c1 => ?_, fun c c0 c1 b hb => ?_, fun b => ?_, fun m _ => trivial⟩
  · rw [mkA_low hr (by omega), if_neg (by omega), if_neg (by omega)]
    repeat' split
    all_goals omega
  · have hc : c = 0 ∨ c = 1 := by omega
    rcases hc with rfl | rfl
    · rw [mkA_low hr (by decide), if_neg (by decide), if_neg (by decide), if_pos (by decide), L0_0]
      refine upto_chn ?_ fun b b0 b1 => ?_
      · by_cases e : 0 < A
        · rw [if_pos e, if_neg (by omega)]; omega
        · rw [if_neg e, if_pos (by omega)]; omega
      · rw [mkA_next hr b0 (by omega)]
        by_cases e : b + 1 ≤ A
        · rw [if_pos ⟨by omega, by rw [cls0 b0 (by omega) h3, cls0 (by omega) e h3]⟩, if_pos (by omega)]; omega
        · rw [if_neg (fun q => by rw [cls0 b0 (by omega) h3, cls1 h1 (by omega) q.1] at q; omega), if_neg (by omega)]; omega
    · rw [mkA_low hr (by decide), if_neg (by decide), if_neg (by decide), if_neg (by decide), if_pos (by decide), L0_1]
      refine upto_chn ?_ fun b b0 b1 => ?_
      · by_cases e : 0 < B
        · rw [if_pos e, if_neg (by omega)]; omega
        · rw [if_neg e, if_pos (by omega)]; omega
      · rw [mkA_next hr (by omega) (by omega)]
        by_cases e : b + 1 ≤ A + B
        · rw [if_pos ⟨e, by rw [cls1 h1 (by omega) (by omega), cls1 h1 (by omega) e]⟩, if_pos (by omega)]; omega
        · rw [if_neg (fun q => e q.1), if_neg (by omega)]; omega
  · have hc : c = 0 ∨ c = 1 := by omega
    rcases hc with rfl | rfl
    · rw [L0_0, upto_mem] at hb
      exact cls0 hb.1 (by omega) h3
    · rw [L0_1, upto_mem] at hb
      exact cls1 h1 (by omega) (by omega)
  · rw [L0_0, L0_1, upto_count, upto_count]
    have : cntK k0 b = 0 := by simp [cntK, cnt1, k0, lst, Ph.giv]
    rw [this]
    by_cases q : 1 ≤ b ∧ b ≤ A
    · rw [if_pos (by omega), if_neg (by omega), if_pos (by omega)]
    · by_cases q2 : A < b ∧ b ≤ A + B
      · rw [if_neg (by omega), if_pos (by omega), if_pos (by omega)]
      · rw [if_neg (by omega), if_neg (by omega), if_neg (by omega)]
end Go.Proofs.Ytmghcelohnlceaa
