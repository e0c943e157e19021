/- The heap machine, part 2: values over handles, and how a program of this language goes over them; for every program. -/
import Derived.Test.YtfdkaakllceebaaHya
/-
  Regions that draw: effects, calls, and the whole.
-/
namespace Go.Hx
open Go

section
variable {E : Env} {al : List Oper} {Tn : List (Nat × SV)} {D : Nat → Bool} {ρ : Nat → Nat × Nat} {H : List HE} {a : Act} {w : World}

theorem DSat.ext (h : DSat E al Tn D ρ H a w) {ρ' : Nat → Nat × Nat} {H' : List HE} {w' : World} (hS : HSat E.w0 E.bs ρ' H' w') (hρ : ∀ x, there H x = true → ρ x = ρ' x)
    (hm : ∀ x, there H x = true → there H' x = true) : DSat E al Tn D ρ' H' a w' :=
  ⟨hS, fun t v hv hav => let ⟨q1, q2⟩ := h.val t v hv hav; ⟨by rw [q1, tr_congr hρ v q2], okh_mono hm v q2⟩, h.num, h.def0,
    fun x hx => let ⟨q1, q2⟩ := h.base x hx; ⟨by rw [← hρ x q2]; exact q1, hm x q2⟩⟩



/-- How many of the effects have been done. -/
def cnt (D : Nat → Bool) : List Nat → Nat
  | [] => 0
  | e :: r => if D e then cnt D r + 1 else 0

def Down (al : List Oper) (D : Nat → Bool) : Prop := ∀ (i : Nat) (o : Oper), al[i]? = some o → D i = true → ∀ i', bindsOn o i' = true → D i' = true

def anyB (o : Oper) (S : List Nat) : Bool := o.after.toList.any fun e => Region.binds .any e && memN e.on S
/-- All that stands behind what S has, by chains of edges. -/
def scanR : List Oper → Nat → List Nat → List Nat
  | [], _, S => S
  | o :: r, i, S => match anyB o S with | true => scanR r (i + 1) (i :: S) | false => scanR r (i + 1) S
/-- Does e stand ahead of f, by a chain of edges? -/
def reachB (al : List Oper) (e f : Nat) : Bool := Nat.beq e f || memN f (scanR al 0 [e])

theorem scanR_down (hd : Down al D) {e : Nat} : ∀ (l : List Oper) (i : Nat) (S : List Nat), (∀ j o, l[j]? = some o → al[i + j]? = some o) → (∀ x ∈ S, D x = true → D e = true) →
    ∀ x ∈ scanR l i S, D x = true → D e = true
  | [], _, _, _, hS => hS
  | o :: r, i, S, hl, hS => by
    have hl' : ∀ j p, r[j]? = some p → al[i + 1 + j]? = some p := fun j p hp => by
      have := hl (j + 1) p (by simpa using hp)
      rw [show i + 1 + j = i + (j + 1) from by omega]; exact this
    have ho : al[i]? = some o := by simpa using hl 0 o (by simp)
    unfold scanR
    split
    · rename_i ha
      refine scanR_down hd r (i + 1) (i :: S) hl' ?_
      intro x hx hDx
      simp only [List.mem_cons] at hx
      rcases hx with rfl | hx
      · simp only [anyB, List.any_eq_true, Bool.and_eq_true] at ha
        obtain ⟨ed, h1, h2, h3⟩ := ha
        refine hS ed.on (memN_iff.1 h3) (hd x o ho hDx ed.on ?_)
        simp only [bindsOn, List.any_eq_true, Bool.and_eq_true]
        exact ⟨ed, h1, h2, Nat.beq_refl _⟩
      · exact hS x hx hDx
    · exact scanR_down hd r (i + 1) S hl' hS
theorem reachB_down (hd : Down al D) {e f : Nat} (h : reachB al e f = true) (hf : D f = true) : D e = true := by
  simp only [reachB, Bool.or_eq_true] at h
  rcases h with h | h
  · rw [Nat.eq_of_beq_eq_true h]; exact hf
  · exact scanR_down hd al 0 [e] (fun j o hj => by simpa using hj) (fun x hx hx' => by simp at hx; rw [← hx]; exact hx') f (memN_iff.1 h) hf

/-- The effects stand one behind the other. -/
def effsOk (al : List Oper) : List Nat → Bool
  | [] => true
  | [e] => Nat.blt e al.length
  | e :: f :: r => Nat.blt e al.length && (Nat.blt e f && reachB al e f) && effsOk al (f :: r)

/-- May operation o (j-th) be met when c effects have been done? -/
def meets (al : List Oper) (j : Nat) (o : Oper) : List Nat → Nat → Bool
  | [], 0 => true
  | [], _ + 1 => false
  | e :: r, 0 => !(bindsOn o e) && !(reachB al e j) && meets al j o r 0
  | e :: r, c + 1 => (match al[e]? with | some oe => !(bindsOn oe j) | none => true) && !(reachB al j e) && meets al j o r c

theorem effs_before (hd : Down al D) : ∀ {l : List Nat}, effsOk al l = true → ∀ {p : Nat} {j : Nat}, l[p]? = some j → D j = true → ∀ q e, q ≤ p → l[q]? = some e → D e = true
  | [], _, p, j, hp, _, q, e, _, _ => by simp at hp
  | [x], _, p, j, hp, hj, q, e, hqp, hq => by
    cases p with
    | zero => simp at hp; subst hp; have : q = 0 := by omega
              subst this; simp at hq; subst hq; exact hj
    | succ p => simp at hp
  | x :: y :: r, h, p, j, hp, hj, q, e, hqp, hq => by
    simp only [effsOk, Bool.and_eq_true] at h
    obtain ⟨⟨_, _, h2⟩, h3⟩ := h
    cases p with
    | zero => have : q = 0 := by omega
              subst this; rw [hq] at hp; simp at hp; subst hp; exact hj
    | succ p =>
      cases q with
      | succ q => exact effs_before hd h3 (p := p) (by simpa using hp) hj q e (by omega) (by simpa using hq)
      | zero =>
        simp at hq; subst hq
        have hy := effs_before hd h3 (p := p) (by simpa using hp) hj 0 y (by omega) (by simp)
        exact reachB_down hd h2 hy

theorem cnt_spec : ∀ {l : List Nat} {p : Nat}, (∀ q e, q < p → l[q]? = some e → D e = true) → (∀ e, l[p]? = some e → D e = false) → p ≤ l.length → cnt D l = p
  | [], p, _, _, hp => by simp at hp; simp [cnt, hp]
  | x :: r, 0, _, h2, _ => by simp [cnt, h2 x (by simp)]
  | x :: r, p + 1, h1, h2, hp => by
    have hx := h1 0 x (by omega) (by simp)
    simp only [cnt, hx, if_true]
    rw [cnt_spec (l := r) (p := p) (fun q e hq he => h1 (q + 1) e (by omega) (by simpa using he)) (fun e he => h2 e (by simpa using he)) (by simpa using hp)]

theorem cnt_le : ∀ (l : List Nat), cnt D l ≤ l.length
  | [] => by simp [cnt]
  | x :: r => by simp only [cnt]; split <;> simp; exact cnt_le r
theorem cnt_congr {D' : Nat → Bool} : ∀ {l : List Nat}, (∀ e ∈ l, D e = D' e) → cnt D l = cnt D' l
  | [], _ => rfl
  | x :: r, h => by simp only [cnt]; rw [h x (by simp), cnt_congr fun e he => h e (by simp [he])]
theorem cnt_lt_true : ∀ {l : List Nat} {q e : Nat}, q < cnt D l → l[q]? = some e → D e = true
  | [], q, e, h, _ => by simp [cnt] at h
  | x :: r, q, e, h, he => by
    simp only [cnt] at h
    split at h
    · rename_i hx
      cases q with
      | zero => simp at he; subst he; exact hx
      | succ q => exact cnt_lt_true (l := r) (q := q) (by omega) (by simpa using he)
    · omega

theorem cnt_zero_all (hd : Down al D) : ∀ {l : List Nat}, effsOk al l = true → cnt D l = 0 → ∀ e ∈ l, D e = false
  | [], _, _, e, he => by simp at he
  | x :: r, h, hc, e, he => by
    have hx : D x = false := by
      cases hx : D x with
      | false => rfl
      | true => simp [cnt, hx] at hc
    cases hD : D e with
    | false => rfl
    | true =>
      obtain ⟨p, hp⟩ := List.getElem?_of_mem he
      have := effs_before hd h hp hD 0 x (by omega) (by simp)
      rw [this] at hx; simp at hx

theorem meets_zero {j : Nat} {o : Oper} (hor : ∀ e, D e = false → bindsOn o e = false) (hrj : ∀ e, D e = false → e ≠ j → reachB al e j = false) :
    ∀ {l : List Nat}, (∀ e ∈ l, D e = false) → j ∉ l → meets al j o l 0 = true
  | [], _, _ => rfl
  | x :: r, h, hm => by
    simp only [List.mem_cons, not_or] at hm
    simp only [meets, Bool.and_eq_true]
    refine ⟨⟨?_, ?_⟩, meets_zero hor hrj (fun e he => h e (by simp [he])) hm.2⟩
    · rw [hor x (h x (by simp))]; rfl
    · rw [hrj x (h x (by simp)) (fun e => hm.1 e.symm)]; rfl

theorem meets_cnt (hd : Down al D) {j : Nat} {o : Oper} (hjo : al[j]? = some o) (hj : D j = false) (ho : ∀ i, bindsOn o i = true → D i = true) : ∀ {l : List Nat}, effsOk al l = true → j ∉ l → meets al j o l (cnt D l) = true
  | [], _, _ => rfl
  | x :: r, h, hm => by
    have hm' : j ≠ x ∧ j ∉ r := by simpa using hm
    have hd' : Down al (fun i => D i || Nat.beq i j) := by
      intro i p hi hDi i' hb
      simp only [Bool.or_eq_true] at hDi ⊢
      rcases hDi with h1 | h1
      · exact .inl (hd i p hi h1 i' hb)
      · have := Nat.eq_of_beq_eq_true h1; subst this
        rw [hjo] at hi; simp at hi; subst hi
        exact .inl (ho i' hb)
    by_cases hx : D x = true
    · simp only [cnt, hx, if_true, meets, Bool.and_eq_true]
      refine ⟨⟨?_, ?_⟩, meets_cnt hd hjo hj ho (by cases r with | nil => rfl | cons y s => simp only [effsOk, Bool.and_eq_true] at h; exact h.2) hm'.2⟩
      · split
        · rename_i ox hox
          cases hb : bindsOn ox j with
          | false => rfl
          | true => have := hd x ox hox hx j hb; rw [this] at hj; simp at hj
        · rfl
      · cases hb : reachB al j x with
        | false => rfl
        | true => have := reachB_down hd hb hx; rw [this] at hj; simp at hj
    · simp only [Bool.not_eq_true] at hx
      have hc : cnt D (x :: r) = 0 := by simp [cnt, hx]
      rw [hc]
      refine meets_zero (D := D) (fun e he => ?_) (fun e he hne => ?_) (cnt_zero_all hd h hc) hm
      · cases hb : bindsOn o e with
        | false => rfl
        | true => have := ho e hb; rw [this] at he; simp at he
      · cases hb : reachB al e j with
        | false => rfl
        | true =>
          have := reachB_down hd' hb (by simp [Nat.beq_refl])
          simp only [Bool.or_eq_true] at this
          rcases this with h1 | h1
          · rw [h1] at he; simp at he
          · exact absurd (Nat.eq_of_beq_eq_true h1) hne

theorem draw_any {k : List KI} {T : List (Nat × SV)} {hps : List (List HE)} {effs : List Nat} {Hl : List HE}
    (hreg : regOk al = true) (heffs : effsOk al effs = true) (hlen : Nat.beq hps.length (effs.length + 1) = true) (h0 : hps[0]? = some H) (hl : hps[effs.length]? = some Hl)
    (hT : ∀ t v, look Tn t = some v → (∀ (i : Nat) (o : Oper), al[i]? = some o → o.dst ≠ some t) → look T t = some v)
    (hq : ∀ (c : Nat) (Hc : List HE), hps[c]? = some Hc → ∀ (j : Nat) (o : Oper), al[j]? = some o → j ∉ effs → meets al j o effs c = true → DStep E al Tn j o Hc Hc)
    (he : ∀ (c : Nat) (Hc Hc' : List HE), hps[c]? = some Hc → hps[c + 1]? = some Hc' → ∀ (j : Nat) (o : Oper), effs[c]? = some j → al[j]? = some o → DStep E al Tn j o Hc Hc')
    (hk : SW E k Tn Hl) : ∀ ρ a w, Sat E ρ T H a w → wpAny E.P .any al.toArray (WK E.P E.Q k) al.toArray.size (Array.replicate al.toArray.size false) a { w with drawn := w.drawn + 1 } := by
  intro ρ a w hs
  have hreg' := hreg
  simp only [regOk, Bool.and_eq_true, List.all_eq_true] at hreg'
  have hlen' := Nat.eq_of_beq_eq_true hlen
  have hback : ∀ (j : Nat) (o : Oper), al[j]? = some o → ∀ i, bindsOn o i = true → i < j := by
    intro j o ho i hi
    have hlt : j < al.length := by
      rcases Nat.lt_or_ge j al.length with h1 | h1
      · exact h1
      · rw [List.getElem?_eq_none h1] at ho; simp at ho
    have := hreg'.2 j (List.mem_range.2 hlt)
    rw [ho] at this
    simp only [Bool.and_eq_true, List.all_eq_true] at this
    simp only [bindsOn, List.any_eq_true, Bool.and_eq_true] at hi
    obtain ⟨e, he1, he2, he3⟩ := hi
    have h4 := this.1.1 e he1
    rw [he2] at h4
    have := Nat.eq_of_beq_eq_true he3
    simp at h4
    have h5 : e.on < j := blt_lt (by simpa using h4)
    omega
  -- the walk over all orders
  have key : ∀ (fuel : Nat) (listed : Array Bool) (ρ : Nat → Nat × Nat) (a : Act) (w : World), listed.size = al.length →
      ((List.range al.length).filter fun i => !(listed.getD i true)).length = fuel →
      Down al (fun i => listed.getD i false) → (∃ Hc, hps[cnt (fun i => listed.getD i false) effs]? = some Hc ∧ DSat E al Tn (fun i => listed.getD i false) ρ Hc a w) →
      wpAny E.P .any al.toArray (WK E.P E.Q k) fuel listed a w := by
    intro fuel
    induction fuel with
    | zero =>
      intro listed ρ a w hsz hf hdown ⟨Hc, hHc, hD⟩
      have hall : ∀ i, i < al.length → listed.getD i false = true := by
        intro i hi
        have hnil := List.eq_nil_of_length_eq_zero hf
        rw [List.filter_eq_nil_iff] at hnil
        have := hnil i (List.mem_range.2 hi)
        have hi' : i < listed.size := by omega
        simp [Array.getD, hi'] at this ⊢
        exact this
      have hcnt : cnt (fun i => listed.getD i false) effs = effs.length := by
        refine cnt_spec (fun q e hq' he' => ?_) (fun e he' => by simp at he') (Nat.le_refl _)
        have : ∀ {l : List Nat}, effsOk al l = true → ∀ e ∈ l, e < al.length := by
          intro l
          induction l with
          | nil => intro _ e he; simp at he
          | cons x r ih =>
            intro h e he
            simp only [List.mem_cons] at he
            cases r with
            | nil => simp only [effsOk] at h; simp at he; subst he; exact blt_lt h
            | cons y s =>
              simp only [effsOk, Bool.and_eq_true] at h
              rcases he with rfl | he
              · exact blt_lt h.1.1
              · exact ih h.2 e he
        exact hall e (this heffs e (List.mem_of_getElem? he'))
      rw [hcnt, hl] at hHc
      simp at hHc; subst hHc
      refine ⟨?_, hk ρ a w ⟨hD.hs, ⟨fun t v hv => hD.val t v hv fun i o hi _ => hall i ?_, hD.num, hD.def0⟩, hD.base⟩⟩
      · unfold Region.ready
        rw [List.filter_eq_nil_iff]
        intro i hi
        simp only [List.size_toArray, List.mem_range] at hi
        have := hall i hi
        have hi' : i < listed.size := by omega
        simp [Array.getD, hi'] at this ⊢
        intro h; rw [this] at h; simp at h
      · rcases Nat.lt_or_ge i al.length with h1 | h1
        · exact h1
        · rw [List.getElem?_eq_none h1] at hi; simp at hi
    | succ fuel ih =>
      intro listed ρ a w hsz hf hdown ⟨Hc, hHc, hD⟩
      refine ⟨fun hr => ?_, fun j hj => ?_⟩
      · -- somebody is ready
        exfalso
        have hex : ∃ i, i < al.length ∧ listed.getD i false = false := by
          have : ((List.range al.length).filter fun i => !(listed.getD i true)) ≠ [] := by intro h; rw [h] at hf; simp at hf
          obtain ⟨i, hi⟩ := List.exists_mem_of_ne_nil _ this
          rw [List.mem_filter, List.mem_range] at hi
          refine ⟨i, hi.1, ?_⟩
          have hi' : i < listed.size := by omega
          have := hi.2
          simp [Array.getD, hi'] at this ⊢
          exact this
        have hmin : ∀ n, ∀ i, i = n → i < al.length → listed.getD i false = false → False := by
          intro n
          induction n using Nat.strongRecOn with
          | _ n ihn =>
            intro i hin hi hli
            have hmem : i ∉ Region.ready .any al.toArray listed := by rw [hr]; simp
            unfold Region.ready at hmem
            rw [List.mem_filter] at hmem
            apply hmem
            simp only [List.size_toArray, List.mem_range]
            refine ⟨hi, ?_⟩
            have hi' : i < listed.size := by omega
            have ho : al[i]? = some al[i] := List.getElem?_eq_getElem hi
            simp only [Bool.and_eq_true, Bool.not_eq_true', List.getElem?_toArray, ho, Option.map_some, Option.getD_some, Array.all_eq_true']
            refine ⟨by simp [Array.getD, hi'] at hli ⊢; exact hli, ?_⟩
            intro e he
            by_cases hb : Region.binds .any e = true
            · simp only [hb, Bool.not_true, Bool.false_or]
              have hbo : bindsOn al[i] e.on = true := by
                simp only [bindsOn, List.any_eq_true, Bool.and_eq_true]
                exact ⟨e, by simpa using he, hb, Nat.beq_refl _⟩
              have hlt := hback i _ ho e.on hbo
              cases hle : listed.getD e.on false with
              | true => rfl
              | false => exact (ihn e.on (by omega) e.on rfl (by omega) hle).elim
            · simp only [Bool.not_eq_true] at hb; simp [hb]
        obtain ⟨i, hi1, hi2⟩ := hex
        exact hmin i i rfl hi1 hi2
      · unfold Region.ready at hj
        rw [List.mem_filter] at hj
        simp only [List.size_toArray, List.mem_range] at hj
        obtain ⟨hjn, hjr⟩ := hj
        have hj' : j < listed.size := by omega
        have ho : al[j]? = some al[j] := List.getElem?_eq_getElem hjn
        simp only [Bool.and_eq_true, Bool.not_eq_true', List.getElem?_toArray, ho, Option.map_some, Option.getD_some, Array.all_eq_true'] at hjr
        have hjl : listed.getD j false = false := by have := hjr.1; simp [Array.getD, hj'] at this ⊢; exact this
        have hdeps : ∀ i, bindsOn al[j] i = true → listed.getD i false = true := by
          intro i hi
          simp only [bindsOn, List.any_eq_true, Bool.and_eq_true] at hi
          obtain ⟨e, he1, he2, he3⟩ := hi
          have := hjr.2 e (by simpa using he1)
          rw [he2] at this
          have h3 := Nat.eq_of_beq_eq_true he3
          subst h3
          simpa using this
        have hD' : (fun i => (listed.setIfInBounds j true).getD i false) = fun i => listed.getD i false || Nat.beq i j := by
          funext i
          by_cases e : j = i
          · subst e; simp [Array.getD, hj', Nat.beq_refl]
          · have hb : Nat.beq i j = false := by
              cases h : Nat.beq i j with
              | false => rfl
              | true => exact absurd (Nat.eq_of_beq_eq_true h).symm e
            rw [hb]
            by_cases hi : i < listed.size
            · simp [Array.getD, hi, e]
            · simp [Array.getD, hi]
        have hcount : ((List.range al.length).filter fun i => !((listed.setIfInBounds j true).getD i true)).length = fuel := by
          have h1 : (List.range al.length).filter (fun i => !(listed.getD i true)) = (List.range al.length).filter (fun i => !(listed.getD i true)) := rfl
          have hperm : ∀ l : List Nat, l.Nodup → (∀ i ∈ l, i < al.length) → j ∈ l → (l.filter fun i => !(listed.getD i true)).length = (l.filter fun i => !((listed.setIfInBounds j true).getD i true)).length + 1 := by
            intro l
            induction l with
            | nil => intro _ _ h; simp at h
            | cons x r ihr =>
              intro hnd hlt hmem
              rw [List.nodup_cons] at hnd
              by_cases e : x = j
              · subst e
                have h2 : (!(listed.getD x true)) = true := by simpa using hjr.1
                have h3 : (!((listed.setIfInBounds x true).getD x true)) = false := by simp [Array.getD, hj']
                rw [List.filter_cons, List.filter_cons, h2, h3]
                simp only [if_true, List.length_cons]
                congr 1
                apply congrArg List.length
                apply List.filter_congr
                intro i hi
                have : x ≠ i := by intro e; subst e; exact hnd.1 hi
                by_cases hil : i < listed.size
                · simp [Array.getD, hil, this]
                · simp [Array.getD, hil]
              · have hm' : j ∈ r := by simp at hmem; rcases hmem with h | h; exact absurd h.symm e; exact h
                have ih2 := ihr hnd.2 (fun i hi => hlt i (by simp [hi])) hm'
                have h4 : (!(listed.getD x true)) = (!((listed.setIfInBounds j true).getD x true)) := by
                  have : j ≠ x := fun h => e h.symm
                  by_cases hil : x < listed.size
                  · simp [Array.getD, hil, this]
                  · simp [Array.getD, hil]
                rw [List.filter_cons, List.filter_cons, ← h4]
                split
                · rw [List.length_cons, List.length_cons, ih2]
                · exact ih2
          have := hperm (List.range al.length) List.nodup_range (fun i hi => List.mem_range.1 hi) (List.mem_range.2 hjn)
          omega
        have hdown' : Down al (fun i => (listed.setIfInBounds j true).getD i false) := by
          rw [hD']
          intro i o hi hDi i' hb
          simp only [Bool.or_eq_true] at hDi ⊢
          rcases hDi with h | h
          · exact .inl (hdown i o hi h i' hb)
          · have := Nat.eq_of_beq_eq_true h; subst this
            rw [ho] at hi; simp at hi; subst hi
            exact .inl (hdeps i' hb)
        have hstep : ∀ Hc', hps[cnt (fun i => (listed.setIfInBounds j true).getD i false) effs]? = some Hc' → DStep E al Tn j al[j] Hc Hc' →
            wpOp E.P al.toArray (WK E.P E.Q k) j (wpAny E.P .any al.toArray (WK E.P E.Q k) fuel (listed.setIfInBounds j true)) a w := by
          intro Hc' hHc' hst
          refine hst _ ρ a w _ _ hD hdeps hjl fun ρ' a' w' hD2 => ?_
          refine ih _ ρ' a' w' (by simpa using hsz) hcount hdown' ⟨Hc', hHc', ?_⟩
          rw [hD']; exact hD2
        by_cases hmem : j ∈ effs
        · obtain ⟨p, hp⟩ := List.getElem?_of_mem hmem
          have hpl : p < effs.length := by
            rcases Nat.lt_or_ge p effs.length with h1 | h1
            · exact h1
            · rw [List.getElem?_eq_none h1] at hp; simp at hp
          have hdown2 : Down al (fun i => listed.getD i false || Nat.beq i j) := by rw [← hD']; exact hdown'
          have hbefore : ∀ q e, q ≤ p → effs[q]? = some e → (listed.getD e false || Nat.beq e j) = true := effs_before hdown2 heffs hp (by simp [Nat.beq_refl])
          have hnodup : ∀ q, q < p → effs[q]? ≠ some j := by
            intro q hqp hqj
            -- e_q binds the next; the chain rises
            have rise : ∀ {l : List Nat}, effsOk al l = true → ∀ {q p : Nat} {x y : Nat}, q < p → l[q]? = some x → l[p]? = some y → x < y := by
              intro l
              induction l with
              | nil => intro _ q p x y _ hx; simp at hx
              | cons u r ihr =>
                intro h q p x y hqp hx hy
                cases p with
                | zero => omega
                | succ p =>
                  cases r with
                  | nil => simp at hy
                  | cons v s =>
                    simp only [effsOk, Bool.and_eq_true] at h
                    have huv : u < v := blt_lt h.1.2.1
                    cases q with
                    | succ q => exact ihr h.2 (q := q) (p := p) (by omega) (by simpa using hx) (by simpa using hy)
                    | zero =>
                      simp at hx; subst hx
                      cases p with
                      | zero => simp at hy; subst hy; exact huv
                      | succ p =>
                        have := ihr h.2 (q := 0) (p := p + 1) (x := v) (y := y) (by omega) (by simp) (by simpa using hy)
                        omega
            have := rise heffs hqp hqj hp
            omega
          have hc : cnt (fun i => listed.getD i false) effs = p := by
            refine cnt_spec (fun q e hqp hqe => ?_) (fun e hpe => ?_) (by omega)
            · have := hbefore q e (by omega) hqe
              simp only [Bool.or_eq_true] at this
              rcases this with h | h
              · exact h
              · have := Nat.eq_of_beq_eq_true h; subst this; exact absurd hqe (hnodup q hqp)
            · rw [hp] at hpe; simp at hpe; subst hpe; exact hjl
          have hc' : cnt (fun i => (listed.setIfInBounds j true).getD i false) effs = p + 1 := by
            rw [hD']
            refine cnt_spec (fun q e hqp hqe => hbefore q e (by omega) hqe) (fun e hpe => ?_) (by omega)
            simp only [Bool.or_eq_false_iff]
            constructor
            · cases hle : listed.getD e false with
              | false => rfl
              | true =>
                have := effs_before hdown heffs hpe hle p j (by omega) hp
                rw [hjl] at this; simp at this
            · cases hb : Nat.beq e j with
              | false => rfl
              | true =>
                have h := Nat.eq_of_beq_eq_true hb
                subst h
                exfalso
                have rise2 := effs_before (D := fun i => listed.getD i false || Nat.beq i e) hdown2 heffs hpe (by simp [Nat.beq_refl]) p e (by omega) hp
                -- the same index twice in a rising chain
                have rise : ∀ {l : List Nat}, effsOk al l = true → ∀ {q p : Nat} {x y : Nat}, q < p → l[q]? = some x → l[p]? = some y → x < y := by
                  intro l
                  induction l with
                  | nil => intro _ q p x y _ hx; simp at hx
                  | cons u r ihr =>
                    intro h q p x y hqp hx hy
                    cases p with
                    | zero => omega
                    | succ p =>
                      cases r with
                      | nil => simp at hy
                      | cons v s =>
                        simp only [effsOk, Bool.and_eq_true] at h
                        have huv : u < v := blt_lt h.1.2.1
                        cases q with
                        | succ q => exact ihr h.2 (q := q) (p := p) (by omega) (by simpa using hx) (by simpa using hy)
                        | zero =>
                          simp at hx; subst hx
                          cases p with
                          | zero => simp at hy; subst hy; exact huv
                          | succ p =>
                            have := ihr h.2 (q := 0) (p := p + 1) (x := v) (y := y) (by omega) (by simp) (by simpa using hy)
                            omega
                have := rise heffs (Nat.lt_succ_self p) hp hpe
                omega
          have hlt : p + 1 < hps.length := by omega
          refine hstep hps[p + 1] (by rw [hc']; exact List.getElem?_eq_getElem hlt) ?_
          rw [hc] at hHc
          exact he p Hc _ hHc (List.getElem?_eq_getElem hlt) j _ hp ho
        · have hc' : cnt (fun i => (listed.setIfInBounds j true).getD i false) effs = cnt (fun i => listed.getD i false) effs := by
            rw [hD']
            refine (cnt_congr fun e hemem => ?_).symm
            have : Nat.beq e j = false := by
              cases hb : Nat.beq e j with
              | false => rfl
              | true => have := Nat.eq_of_beq_eq_true hb; subst this; exact absurd hemem hmem
            simp [this]
          refine hstep Hc (by rw [hc']; exact hHc) ?_
          exact hq _ Hc hHc j _ ho hmem (meets_cnt hdown ho hjl hdeps heffs hmem)
  refine key _ _ ρ a { w with drawn := w.drawn + 1 } (by simp) ?_ ?_ ?_
  · simp only [List.size_toArray]
    have : ((List.range al.length).filter fun i => !((Array.replicate al.length false).getD i true)) = List.range al.length := by
      rw [List.filter_eq_self]
      intro i hi
      have := List.mem_range.1 hi
      simp [Array.getD, this]
    rw [this]; simp
  · intro i o _ hi
    by_cases h : i < al.length <;> simp [Array.getD, h] at hi
  · have hc : cnt (fun i => (Array.replicate al.toArray.size false).getD i false) effs = 0 := by
      cases effs with
      | nil => rfl
      | cons x r =>
        simp only [cnt]
        rw [if_neg]
        by_cases h : x < al.length <;> simp [Array.getD, h]
    refine ⟨H, by rw [hc]; exact h0, ⟨?_, ?_, hs.ts.num, hs.ts.def0, hs.base⟩⟩
    · have h1 := hs.hs
      refine ⟨fun h o ho => ⟨SO.holds_world rfl _ (h1.objs h o ho).1, (h1.objs h o ho).2⟩, h1.size, h1.inj, h1.own, ⟨h1.fr.size, h1.fr.same, h1.fr.io⟩⟩
    · intro t v hv hav
      refine hs.ts.val t v (hT t v hv fun i o hi hd => ?_)
      have := hav i o hi hd
      by_cases h : i < al.length <;> simp [Array.getD, h] at this

end
end Go.Hx

/-
  Calls that are walked into where they stand; atomic numbers.
-/
namespace Go.Hx
open Go



section
variable {P : Program} {TE : Nat → TI} {hTE : ∀ t, TIok P t (TE t)} {fn : Func} {nt : Nat} {H0 : List HE} {ρ0 : Nat → Nat × Nat} {w0 : World}
    {k : List KI} {T : List (Nat × SV)} {H : List HE} {V : SV}
end

/-- What a call with the whole heap leaves is the caller's own. -/
theorem whole_sat {E : Env} {ρ ρ' : Nat → Nat × Nat} {T : List (Nat × SV)} {H L : List HE} {a : Act} {w w' : World} (hs : Sat E ρ T H a w)
    (hc : HSat w (Own ρ H) ρ' L w') : HSat E.w0 E.bs ρ' L w' := by
  refine ⟨hc.objs, hc.size, hc.inj, ?_, ?_⟩
  · intro h o ho hoo
    rcases hc.own h o ho hoo with ⟨g, og, g1, g2, g3⟩ | h1
    · have := hs.hs.own g og g1 g2
      rw [g3] at this; exact this
    · right; have := hs.hs.fr.size; omega
  · refine ⟨by have := hs.hs.fr.size; have := hc.fr.size; omega, fun b hb1 hnb => ?_, hc.fr.io.1.trans hs.hs.fr.io.1, hc.fr.io.2.1.trans hs.hs.fr.io.2.1, hc.fr.io.2.2.trans hs.hs.fr.io.2.2⟩
    rw [hc.fr.same b (by have := hs.hs.fr.size; omega) ?_]
    · exact hs.hs.fr.same b hb1 hnb
    · rintro ⟨g, og, g1, g2, g3⟩
      rcases hs.hs.own g og g1 g2 with h1 | h1
      · rw [g3] at h1; exact hnb h1
      · rw [g3] at h1; omega

theorem own_sat {E : Env} {ρ : Nat → Nat × Nat} {T : List (Nat × SV)} {H : List HE} {a : Act} {w : World} (hs : Sat E ρ T H a w) : HSat w (Own ρ H) ρ H w :=
  ⟨hs.hs.objs, hs.hs.size, hs.hs.inj, fun h o ho hoo => .inl ⟨h, o, ho, hoo, rfl⟩, Fr.refl _ _⟩


/-! Atomic numbers, in one goroutine. -/
theorem sw_add {E : Env} {all r : List Oper} {k : List KI} {o : Oper} {T : List (Nat × SV)} {H H' : List HE} {c : Call} {f : Nat} {h i ty : Nat} {l l' : List SV} {x y : Int} {fn : Func} {d : Nat}
    (hop : o.op = .call c) (hc : calleeF T c = some (f, [.ptr h i, .int .i64 y])) (hf : E.P.funcs[f]? = some fn) (hname : (fn.name == "runtime.NumGoroutine") = false)
    (hb : fn.body.isNone = true) (hn : Extern.findNext fn = none) (he : Extern.find fn = some (Extern.Atomic.update (Op.intArith .add) .i64 true))
    (hg : guardF all T o.guard = 0) (hd : o.dst = some d) (hlt : Nat.blt d E.nt = true) (hH : getH H h = some (.cells l ty)) (hx : nthF l i = some (.int .i64 x))
    (hl : setF l i (.int .i64 (IntKind.i64.wrap (x + y))) = some l') (hH' : setO H h (.obj (.cells l' ty)) = some H')
    (hk : SW E (.ops all r :: k) ((d, .int .i64 (IntKind.i64.wrap (x + y))) :: T) H') : SW E (.ops all (o :: r) :: k) T H := by
  intro ρ a w hs
  refine wpList_of_wp (guard_wanted hs hg) ?_
  unfold calleeF at hc
  split at hc
  · rename_i xo hcal
    split at hc
    · rename_i f' first cap as' hxo has
      simp at hc
      obtain ⟨rfl, hargs⟩ := hc
      obtain ⟨h1, h2⟩ := ev_tr hs.ts hxo
      obtain ⟨h3, h4⟩ := evs_tr hs.ts has
      have hmap : c.args.map a.eval = (SV.trs ρ as').toArray := by rw [toArr_map, h3]
      have hcell := cells_at hs.hs hH (i := i) (by rw [← nthF_eq]; exact hx)
      obtain ⟨⟨hp, hrow⟩, hok⟩ := hs.hs.objs _ _ (getH_some.1 hH)
      have hall : (SV.trs ρ first).toArray ++ (SV.trs ρ as').toArray ++ (SV.trs ρ cap).toArray = #[.pointer (some ⟨(ρ h).1, (ρ h).2 + i, none⟩), .int .i64 y] := by
        have := congrArg (SV.trs ρ) hargs
        simp only [trs_append] at this
        rw [← Array.toList_inj]
        simp only [Array.toList_append, List.append_assoc]
        rw [this]; simp [SV.trs, SV.tr]
      have hfz : w.frozen? ⟨(ρ h).1, (ρ h).2 + i, none⟩ = false := by simp [World.frozen?, hrow]
      have hadd := run_call_add (P := E.P) hf hname hb hn .i64 he (w := w) (x := x) (y := y) (s := IntKind.i64.wrap (x + y)) (a := ⟨(ρ h).1, (ρ h).2 + i, none⟩) hcell hfz (by simp [Op.intArith])
      unfold Oper.wp
      have hrun : (execOp a.eval o).run E.P w = .ok (.value (.int .i64 (IntKind.i64.wrap (x + y)))) (w.setCell ⟨(ρ h).1, (ρ h).2 + i, none⟩ (.int .i64 (IntKind.i64.wrap (x + y)))) := by
        simp only [execOp, hop, Sem.run_bind]
        simp only [resolve, hcal, h1, SV.tr, Deferred.ofValue, hmap, Sem.run_pure, Result.andThen_ok, invoke]
        rw [hall]
        exact hadd
      rw [hrun, Oper.upon_value, hd]
      obtain ⟨e1, e2⟩ := setF_eq hl
      have hS' := hs.hs.set (w' := w.setCell ⟨(ρ h).1, (ρ h).2 + i, none⟩ (.int .i64 (IntKind.i64.wrap (x + y)))) (o := .cells l' ty) (getH_some.1 hH) rfl rfl
        (by
          simp only [SO.okh] at hok ⊢
          rw [okhs_iff] at hok ⊢
          intro v hv
          subst e1
          rcases List.mem_or_eq_of_mem_set hv with hv | rfl
          · exact hok v hv
          · rfl)
        ⟨rfl, rfl, rfl⟩ (by simp [World.setCell]) (fun b hbn => heap_setCell_other w _ b _ hbn)
        ⟨hp, by
          rw [hp, Nat.zero_add, heap_setCell_same w _ i _ ty _ hrow]
          simp [e1, trs_eq_map, SV.tr, List.map_set]⟩
      rw [← setO_eq hH'] at hS'
      have hmono : ∀ x, there H x = true → there H' x = true := fun x hx => by rw [setO_eq hH']; exact there_set hx
      refine hk ρ _ _ ⟨hS', ?_, fun x hx => let ⟨q1, q2⟩ := hs.base x hx; ⟨q1, hmono x q2⟩⟩
      exact (hs.ts.ext (fun _ _ => rfl) hmono).put (v := .int .i64 (IntKind.i64.wrap (x + y))) (blt_lt hlt) rfl
    · simp at hc
  · simp at hc

end Go.Hx
namespace Go.Hx
open Go
section
variable {P : Program} {TE : Nat → TI} {hTE : ∀ t, TIok P t (TE t)} {fn : Func} {nt : Nat} {H0 : List HE} {R : SV → List HE → Prop} {ρ0 : Nat → Nat × Nat} {w0 : World}
    {k k' : List KI} {T T' : List (Nat × SV)} {H H' : List HE}



end
end Go.Hx

/-
  Regions that draw, as they are met.
-/
namespace Go.Hx
open Go








section
variable {P : Program} {TE : Nat → TI} {hTE : ∀ t, TIok P t (TE t)} {fn : Func} {nt : Nat} {H0 : List HE} {R : SV → List HE → Prop} {ρ0 : Nat → Nat × Nat} {w0 : World}
    {k : List KI} {T Tn : List (Nat × SV)} {H : List HE} {al : List Oper} {id : Nat}


end
end Go.Hx

/-
  Calls by contract, with names and heaps written out.
-/
namespace Go.Hx
open Go

mutual
def renF (σ : Nat → Option Nat) : SV → Option SV
  | .ptr h o => match σ h with | some h' => some (.ptr h' o) | none => none
  | .rptr h o i s c => match σ h with | some h' => some (.rptr h' o i s c) | none => none
  | .bptr h i s c => match σ h with | some h' => some (.bptr h' i s c) | none => none
  | .sbuf h s o l => match σ h with | some h' => some (.sbuf h' s o l) | none => none
  | .slice h o l c => match σ h with | some h' => some (.slice h' o l c) | none => none
  | .map h => match σ h with | some h' => some (.map h') | none => none
  | .func fn a c => match rensF σ a, rensF σ c with | some a', some c' => some (.func fn a' c') | _, _ => none
  | .iface t v => match renF σ v with | some v' => some (.iface t v') | none => none
  | .agg l => match rensF σ l with | some l' => some (.agg l') | none => none
  | .tup l => match rensF σ l with | some l' => some (.tup l') | none => none
  | .tt => some .tt
  | .ff => some .ff
  | .bool b => some (.bool b)
  | .int k n => some (.int k n)
  | .str s => some (.str s)
  | .nilptr => some .nilptr
  | .nilslice => some .nilslice
  | .nilmap => some .nilmap
  | .nilfunc => some .nilfunc
  | .niliface => some .niliface
  | .raw v => some (.raw v)
def rensF (σ : Nat → Option Nat) : List SV → Option (List SV)
  | [] => some []
  | v :: r => match renF σ v, rensF σ r with | some v', some r' => some (v' :: r') | _, _ => none
end

section
variable {σ : Nat → Option Nat} {σ' : Nat → Nat}
mutual
theorem renF_eq (h : ∀ x n, σ x = some n → n = σ' x) : ∀ {v u : SV}, renF σ v = some u → u = v.ren σ'
  | .ptr x o, u, hu => by
    simp only [renF] at hu
    split at hu
    · rename_i n hn; simp at hu; subst hu; simp [SV.ren, h x n hn]
    · simp at hu
  | .rptr x o i s c, u, hu => by
    simp only [renF] at hu
    split at hu
    · rename_i n hn; simp at hu; subst hu; simp [SV.ren, h x n hn]
    · simp at hu
  | .bptr x i s c, u, hu => by
    simp only [renF] at hu
    split at hu
    · rename_i n hn; simp at hu; subst hu; simp [SV.ren, h x n hn]
    · simp at hu
  | .sbuf x s o l, u, hu => by
    simp only [renF] at hu
    split at hu
    · rename_i n hn; simp at hu; subst hu; simp [SV.ren, h x n hn]
    · simp at hu
  | .slice x o l c, u, hu => by
    simp only [renF] at hu
    split at hu
    · rename_i n hn; simp at hu; subst hu; simp [SV.ren, h x n hn]
    · simp at hu
  | .map x, u, hu => by
    simp only [renF] at hu
    split at hu
    · rename_i n hn; simp at hu; subst hu; simp [SV.ren, h x n hn]
    · simp at hu
  | .func fn a c, u, hu => by
    simp only [renF] at hu
    split at hu
    · rename_i a' c' ha hc; simp at hu; subst hu; simp [SV.ren, rensF_eq h ha, rensF_eq h hc]
    · simp at hu
  | .iface t v, u, hu => by
    simp only [renF] at hu
    split at hu
    · rename_i n hn; simp at hu; subst hu; simp [SV.ren, renF_eq h hn]
    · simp at hu
  | .agg l, u, hu => by
    simp only [renF] at hu
    split at hu
    · rename_i n hn; simp at hu; subst hu; simp [SV.ren, rensF_eq h hn]
    · simp at hu
  | .tup l, u, hu => by
    simp only [renF] at hu
    split at hu
    · rename_i n hn; simp at hu; subst hu; simp [SV.ren, rensF_eq h hn]
    · simp at hu
  | .tt, u, hu | .ff, u, hu | .bool _, u, hu | .int _ _, u, hu | .str _, u, hu | .nilptr, u, hu | .nilslice, u, hu | .nilmap, u, hu | .nilfunc, u, hu | .niliface, u, hu | .raw _, u, hu => by
    simp only [renF, Option.some.injEq] at hu; subst hu; simp [SV.ren]
theorem rensF_eq (h : ∀ x n, σ x = some n → n = σ' x) : ∀ {l u : List SV}, rensF σ l = some u → u = SV.rens σ' l
  | [], u, hu => by simp only [rensF, Option.some.injEq] at hu; subst hu; simp [SV.rens]
  | v :: r, u, hu => by
    simp only [rensF] at hu
    split at hu
    · rename_i a b ha hb; simp at hu; subst hu; simp [SV.rens, renF_eq h ha, rensF_eq h hb]
    · simp at hu
end
end


section
variable {σ : Nat → Option Nat} {σ' : Nat → Nat}
end




section
variable {P : Program} {TE : Nat → TI} {hTE : ∀ t, TIok P t (TE t)} {fn : Func} {nt : Nat} {H0 : List HE} {R : SV → List HE → Prop} {ρ0 : Nat → Nat × Nat} {w0 : World}
    {k k' : List KI} {T T' : List (Nat × SV)} {H H' : List HE}

end
end Go.Hx

/-
  From what a function gives to the row's own words.
-/
namespace Go.Hx
open Go Go.RowKit

/-- Nothing that was there has changed. -/
theorem below_of {w w' : World} {bs : Nat → Prop} (h : Fr w bs w') (hn : ∀ b, ¬ bs b) : Below w.heap.size w w' :=
  ⟨h.io.1, h.io.2.1, h.io.2.2, h.size, fun k hk => h.same k hk (hn k)⟩

/-- A call that owns nothing of what was there, and gives true. -/
theorem calls_true {P : Program} {f : Nat} {args : List SV} {H L : List HE} {w : World} (ρ : Nat → Nat × Nat) (hg : Gives P f args H (Is .tt L))
    (hS : HSat w (Own ρ H) ρ H w) (hok : SV.okhs (there H) args = true) (hno : ∀ b, ¬ Own ρ H b) {av : Array Value} (hav : av = (SV.trs ρ args).toArray) :
    Calls P f av w fun e w' => e = .returned (.bool true) ∧ Below w.heap.size w w' := by
  subst hav
  refine Calls.mono (hg ρ w hS hok) fun e w' he => ?_
  cases e with
  | returned V =>
    obtain ⟨ρ', H', v, ⟨rfl, _⟩, rfl, _, h2, _⟩ := he
    exact ⟨rfl, below_of h2.fr hno⟩
  | panicked c => exact he.elim
  | outgrown => exact he.elim

/-- A heap of windows alone: it owns nothing. -/
theorem own_none {ρ : Nat → Nat × Nat} {H : List HE} (h : ∀ (i : Nat) (o : SO), H[i]? = some (HE.obj o) → o.owned = false) : ∀ b, ¬ Own ρ H b := by
  rintro b ⟨i, o, h1, h2, _⟩
  rw [h i o h1] at h2; simp at h2

theorem hsat_nil (w : World) (ρ : Nat → Nat × Nat) : HSat w (Own ρ []) ρ [] w :=
  ⟨fun h o ho => by simp at ho, fun h hh => by simp [there] at hh, fun h h' o o' hh => by simp at hh, fun h o ho => by simp at ho, Fr.refl _ _⟩

/-- One window of integers. -/
theorem hsat_winI {w : World} {k : IntKind} {b o : Nat} {ts : List Int} (hb : b < w.heap.size) (hc : ∀ (i : Nat) (n : Int), ts[i]? = some n → w.cell? ⟨b, o + i, none⟩ = some (.int k n)) :
    HSat w (Own (fun _ => (b, o)) [.obj (.winI k ts)]) (fun _ => (b, o)) [.obj (.winI k ts)] w := by
  refine ⟨?_, fun _ _ => hb, ?_, ?_, Fr.refl _ _⟩
  · intro h u hu
    cases h with
    | zero => simp at hu; subst hu; exact ⟨hc, rfl⟩
    | succ h => simp at hu
  · intro h h' o o' hh hh' _
    have := there_lt (there_of_obj hh)
    have := there_lt (there_of_obj hh')
    simp at *
    omega
  · intro h u hu ho
    cases h with
    | zero => simp at hu; subst hu; simp [SO.owned] at ho
    | succ h => simp at hu

end Go.Hx

/-
  append of rows of integers.
-/
namespace Go.Hx
open Go

theorem growBy_le (m : Nat) : ∀ (n c : Nat), Builtin.growBy m n c ≤ 2 ^ n * (c + 1024)
  | 0, c => by simp [Builtin.growBy]
  | n + 1, c => by
    simp only [Builtin.growBy]
    split
    · have : 1 ≤ 2 ^ (n + 1) := Nat.one_le_two_pow
      calc c ≤ c + 1024 := by omega
        _ = 1 * (c + 1024) := by omega
        _ ≤ 2 ^ (n + 1) * (c + 1024) := Nat.mul_le_mul_right _ this
    · refine Nat.le_trans (growBy_le m n _) ?_
      rw [Nat.pow_succ, Nat.mul_assoc]
      exact Nat.mul_le_mul_left _ (by omega)
theorem growBy_le4 (m c : Nat) : Builtin.growBy m 4 c ≤ 16 * c + 16384 := by
  have h := growBy_le m 4 c
  have e : (2 : Nat) ^ 4 * (c + 1024) = 16 * c + 16384 := by
    rw [show (2 : Nat) ^ 4 = 16 from by decide, Nat.mul_add]
  rw [e] at h
  exact h
theorem nextslicecap_le (m c : Nat) : Builtin.nextslicecap m c ≤ m + 16 * c + 16384 := by
  have h := growBy_le4 m c
  unfold Builtin.nextslicecap
  by_cases h1 : m > 2 * c
  · rw [if_pos h1]; omega
  · rw [if_neg h1]
    by_cases h2 : c < 256
    · rw [if_pos h2]; omega
    · rw [if_neg h2]; exact Nat.le_trans h (by omega)



section
variable {P : Program} {TE : Nat → TI} {ρ : Nat → Nat × Nat} {H : List HE} {w w0 : World} {bs : Nat → Prop} {A : Nat → Bool} {nt : Nat}
  {T : List (Nat × SV)} {a : Act}





end
end Go.Hx

/-
  A return of three.
-/
namespace Go.Hx
open Go
section
variable {P : Program} {TE : Nat → TI} {hTE : ∀ t, TIok P t (TE t)} {fn : Func} {nt : Nat} {H0 : List HE} {ρ0 : Nat → Nat × Nat} {w0 : World}
    {k : List KI} {T : List (Nat × SV)} {H L : List HE} {V : SV} {R : SV → List HE → Prop}



end
end Go.Hx
namespace Go.Hx
open Go
section
variable {P : Program} {TE : Nat → TI} {hTE : ∀ t, TIok P t (TE t)} {fn : Func} {nt : Nat} {H0 : List HE} {ρ0 : Nat → Nat × Nat} {w0 : World} {H H' : List HE} {R : SV → List HE → Prop}
end

/-- The same value, told otherwise. -/
theorem Gives.same {P : Program} {f : Nat} {args : List SV} {H L : List HE} {V V' : SV} (h : Gives P f args H (Is V L)) (hs : ∀ ρ A, V.tr ρ = V'.tr ρ ∧ V.okh A = V'.okh A) : Gives P f args H (Is V' L) := by
  intro ρ w h1 h2
  refine Calls.mono (h ρ w h1 h2) fun e w' he => ?_
  cases e with
  | returned V => obtain ⟨ρ', H', v, ⟨rfl, rfl⟩, h4, h5, h6, h7⟩ := he; exact ⟨ρ', _, V', ⟨rfl, rfl⟩, h4.trans (hs ρ' (there H')).1, (hs ρ' (there H')).2 ▸ h5, h6, h7⟩
  | panicked c => exact he
  | outgrown => exact he
end Go.Hx

/-
  Buffers: rows that grow, their capacity hidden; numbers' least.
-/
namespace Go.Hx
open Go

/-- Which integers a slice's elements are made of, and how many each has. -/
def elemK (TE : Nat → TI) (e : Nat) : Option (IntKind × Nat) :=
  match (TE e).d with
  | .int k => match (TE e).size, (TE e).zero with
    | 1, [.int k' _] => match keq k k' with | true => some (k, 1) | false => none
    | _, _ => none
  | .arr _ e' => match (TE e').d with
    | .int k => match forceL (TE e).zero with
      | some z => match asInts k z with
        | some zs => match Nat.beq zs.length (TE e).size with | true => some (k, (TE e).size) | false => none
        | none => none
      | none => none
    | _ => none
  | _ => none

def mulS (l s : Nat) : Nat := match s with | 1 => l | s => l * s
theorem mulS_eq (l s : Nat) : mulS l s = l * s := by unfold mulS; split <;> simp

/-- What is appended. -/
def srcA (k : IntKind) (s : Nat) (H : List HE) : SV → Option (Option Bool × Nat × List Int)
  | .nilslice => some (none, 0, [])
  | .slice h o l _ => match getH H h with
    | some (.ints k' ns _) => match keq k' k with | true => some (some (decide (o + l * s ≤ ns.length)), l, (ns.drop o).take (mulS l s)) | false => none
    | some (.winI k' ns) => match keq k' k with | true => some (some (decide (o + l * s ≤ ns.length)), l, (ns.drop o).take (mulS l s)) | false => none
    | some (.cells vs _) => match asInts k vs with | some ns => some (some (decide (o + l * s ≤ ns.length)), l, (ns.drop o).take (mulS l s)) | none => none
    | _ => none
  | .sbuf h s' o l => match getH H h, Nat.beq s' s with
    | some (.buf k' ns s2 _), true => match keq k' k, Nat.beq s2 s with | true, true => some (some (decide ((o + l) * s ≤ ns.length)), l, (ns.drop (mulS o s)).take (mulS l s)) | _, _ => none
    | _, _ => none
  | _ => none
/-- To what it is appended. -/
def tgtA (k : IntKind) (s : Nat) (H : List HE) (ly : Nat) : SV → Option (Bool × Option Nat × Nat × List Int)
  | .nilslice => some (decide (0 < ly), none, 0, [])
  | .slice h o l c => match o, getH H h with
    | 0, some (.ints k' ns _) => match keq k' k with | true => some (decide (c * s = ns.length ∧ l ≤ c), some h, l, ns.take (mulS l s)) | false => none
    | 0, some (.cells vs _) => match asInts k vs with | some ns => some (decide (c * s = ns.length ∧ l ≤ c), some h, l, ns.take (mulS l s)) | none => none
    | _, _ => none
  | .sbuf h s' o l => match o, getH H h, Nat.beq s' s with
    | 0, some (.buf k' ns s2 _), true => match keq k' k, Nat.beq s2 s with | true, true => some (decide (l * s = ns.length), some h, l, ns) | _, _ => none
    | _, _, _ => none
  | _ => none

def vApp (TE : Nat → TI) (H : List HE) (t t2 : Nat) (x y : SV) : Option Eff :=
  match (TE t).d, (TE t2).d with
  | .slice e, .slice _ => match elemK TE e, Nat.ble (TE e).bytes 1024, Nat.ble 1 (TE e).bytes with
    | some (k, s), true, true => match srcA k s H y with
      | some (oy, ly, ys) => match tgtA k s H ly x with
        | some (ox, drop, lx, xs) => some (.app (some (ox && (oy.getD true) && decide (lx + ly ≤ 4294967296))) drop (.buf k (xs ++ ys) s e) s (lx + ly))
        | none => none
      | none => none
    | _, _, _ => none
  | _, _ => none

/-- Nothing appended to nothing is nothing. -/
def appX (TE : Nat → TI) (H : List HE) (t t2 : Nat) (x y : SV) : Option Eff := match x with
  | .nilslice => match y with
    | .nilslice => match (TE t).d, (TE t2).d with
      | .slice e, .slice _ => match elemK TE e with
        | some _ => some (.val none .nilslice)
        | none => none
      | _, _ => none
    | _ => vApp TE H t t2 x y
  | _ => vApp TE H t t2 x y

def loF : Option SV → Option Int
  | none => some 0
  | some (.int _ n) => some n
  | _ => none
def hiF (l : Nat) : Option SV → Option Int
  | none => some l
  | some (.int _ n) => some n
  | _ => none

/-- A part of a buffer. -/
def vSliceB (i : TI) (H : List HE) (h s l : Nat) (lo hi : Option SV) : Option Eff :=
  match getH H h, i.d.cls with
  | _, 0 => none
  | some (.buf _ ns s2 _), _ + 1 => match Nat.beq i.size s, Nat.beq s2 s, Nat.ble 1 s, loF lo, hiF l hi with
    | true, true, true, some a, some b => some (.val (some (decide (0 ≤ a ∧ a ≤ b ∧ b ≤ l ∧ l * s ≤ ns.length))) (.sbuf h s a.toNat (b.toNat - a.toNat)))
    | _, _, _, _, _ => none
  | _, _ => none

/-- What the machine does with buffers. -/
def bufX (TE : Nat → TI) (T : List (Nat × SV)) (H : List HE) : Op → Option Eff
  | .indexAddr t x i => match ev T x, ev T i with
    | some (.sbuf h s o l), some (.int _ i) => match o, (TE t).d with
      | 0, .slice e => match (TE e).d.cls, Nat.beq (TE e).size s with
        | 0, _ => none
        | _ + 1, true => some (.val (some (decide (0 ≤ i ∧ i < l))) (.bptr h i.toNat s 0))
        | _, _ => none
      | _, _ => none
    | some (.bptr h x s c), some (.int _ i) => match (TE t).d with
      | .arr n e => match (TE e).d.cls with
        | 0 => none
        | _ + 1 => some (.val (some (decide (0 ≤ i ∧ i < n))) (.bptr h x s (c + mulS i.toNat (TE e).size)))
      | _ => none
    | _, _ => none
  | .load t x => match ev T x with | some (.bptr h x s c) => vLoadB (TE t) H h x s c | _ => none
  | .store t x y => match ev T x, ev T y with | some (.bptr h x s c), some v => vStoreB (TE t) H h x s c v | _, _ => none
  | .nilCheck x => match ev T x with | some (.bptr h x s c) => some (.val none (.bptr h x s c)) | _ => none
  | .binOp op t x y _ => match ev T x, ev T y, (TE t).d with
    | some (.sbuf _ _ _ _), some .nilslice, .slice _ => match op with
      | .eql => some (.val none .ff)
      | .neq => some (.val none .tt)
      | _ => none
    | _, _, _ => none
  | .slice t x lo hi mx => match mx, ev T x, evO T lo, evO T hi, (TE t).d with
    | none, some (.sbuf h s o l), some lo, some hi, .slice e => match o with
      | 0 => vSliceB (TE e) H h s l lo hi
      | _ => none
    | _, _, _, _, _ => none
  | .call c => match c.callee, c.args.toList, c.argTypes.toList with
    | .builtin .len, [x], [t] => match ev T x, (TE t).d with
      | some (.sbuf _ _ _ l), .slice _ => some (.val none (.int .i64 l))
      | _, _ => none
    | .builtin .append, [x, y], [t, t2] => match ev T x, ev T y with
      | some a, some b => appX TE H t t2 a b
      | _, _ => none
    | .builtin .min, [x, y], _ => match ev T x, ev T y with
      | some (.int k a), some (.int _ b) => some (.val none (.int k (if b < a then b else a)))
      | _, _ => none
    | _, _, _ => none
  | _ => none

section
variable {P : Program} {TE : Nat → TI} {ρ : Nat → Nat × Nat} {H : List HE} {w w0 : World} {bs : Nat → Prop} {A : Nat → Bool} {nt : Nat}
  {T : List (Nat × SV)} {a : Act}

theorem elemK_ok (hTE : ∀ t, TIok P t (TE t)) {e : Nat} {k : IntKind} {s : Nat} (h : elemK TE e = some (k, s)) :
    (TE e).d ≠ .other ∧ (TE e).size = s ∧ ∃ (zs : List Int) (z : Value), zs.length = s ∧ (∀ w, (zeroValue e).run P w = .ok z w) ∧ z.cells = (zs.map (Value.int k)).toArray := by
  unfold elemK at h
  split at h
  · rename_i k' hd
    split at h
    · rename_i k2 n hs hz
      split at h
      · rename_i hk
        have hk' := keq_iff.1 hk
        subst hk'
        simp at h; obtain ⟨rfl, rfl⟩ := h
        have hne : (TE e).d ≠ .other := by rw [hd]; simp
        refine ⟨hne, hs, [n], ?_⟩
        obtain ⟨inf, z, q1, _, _, q4, q5, q6⟩ := (hTE e).info hne
        refine ⟨z, rfl, fun w => by simp [zeroValue, typeInfo, q1, q4], ?_⟩
        rw [hz] at q5
        obtain ⟨q7, _⟩ := sameL_tr (ρ := fun _ => (0, 0)) (A := fun _ => true) q5
        rw [← Array.toList_inj, ← q7]; rfl
      · simp at h
    · simp at h
  · rename_i n e' hd
    split at h
    · rename_i k' hd'
      split at h
      · rename_i z hfz
        split at h
        · rename_i zs hzs
          split at h
          · rename_i hlen
            simp at h; obtain ⟨rfl, rfl⟩ := h
            have hne : (TE e).d ≠ .other := by rw [hd]; simp
            refine ⟨hne, rfl, zs, ?_⟩
            obtain ⟨inf, z', q1, _, _, q4, q5, q6⟩ := (hTE e).info hne
            refine ⟨z', Nat.eq_of_beq_eq_true hlen, fun w => by simp [zeroValue, typeInfo, q1, q4], ?_⟩
            obtain ⟨q7, _⟩ := sameL_tr (ρ := fun _ => (0, 0)) (A := fun _ => true) q5
            rw [← Array.toList_inj, ← q7, ← forceL_eq hfz, asInts_eq hzs]
          · simp at h
        · simp at h
      · simp at h
    · simp at h
  · simp at h

/-- A row that is read: what its first cells are, in this memory. -/
structure RowV (P : Program) (k : IntKind) (s : Nat) (w : World) (v : Value) (l c : Nat) (xs : List Int) (b : Option Addr) : Prop where
  val : v = .slice b l c
  len : xs.length = l * s
  cells : ∀ w', (∀ bb, b.map (·.block) = some bb → w'.heap[bb]? = w.heap[bb]?) → (Builtin.firstCells s l (.slice b l c)).run P w' = .ok (xs.map (Value.int k)).toArray w'
  nil : b = none → l = 0 ∧ c = 0

theorem firstCells_row {s l c b o : Nat} {k : IntKind} {xs : List Int} {w : World} (hlen : xs.length = l * s) (hc : ∀ j n, xs[j]? = some n → w.cell? ⟨b, o + j, none⟩ = some (.int k n)) :
    (Builtin.firstCells s l (.slice (some ⟨b, o, none⟩) l c)).run P w = .ok (xs.map (Value.int k)).toArray w := by
  have hl : (loadCells ⟨b, o, none⟩ (xs.map (Value.int k)).length).run P w = .ok (xs.map (Value.int k)).toArray w :=
    run_loadCells_list (P := P) w _ _ (fun j v hv => by
      rw [add_off]
      simp only [List.getElem?_map, Option.map_eq_some_iff] at hv
      obtain ⟨u, hu, rfl⟩ := hv
      exact hc j u hu)
  have e : (xs.map (Value.int k)).length = l * s := by simp [hlen]
  rw [e] at hl
  simpa only [Builtin.firstCells] using hl

theorem rowV_of {s l c b o : Nat} {k : IntKind} {xs : List Int} {w : World} (hlen : xs.length = l * s) (hc : ∀ j n, xs[j]? = some n → w.cell? ⟨b, o + j, none⟩ = some (.int k n)) :
    RowV P k s w (.slice (some ⟨b, o, none⟩) l c) l c xs (some ⟨b, o, none⟩) :=
  ⟨rfl, hlen, fun w' hw => firstCells_row hlen fun j n hj => by
    have := hc j n hj
    simp only [World.cell?, hw b rfl] at this ⊢
    exact this, fun h => by simp at h⟩

theorem take_drop_get {ns : List Int} {o m j : Nat} {n : Int} (h : ((ns.drop o).take m)[j]? = some n) : ns[o + j]? = some n := by
  rw [List.getElem?_take] at h
  split at h
  · rw [List.getElem?_drop] at h; exact h
  · simp at h

theorem srcA_ok (hS : HSat w0 bs ρ H w) {k : IntKind} {s ly : Nat} {v : SV} {ob : Option Bool} {ys : List Int} (h : srcA k s H v = some (ob, ly, ys)) (ho : ob.getD true = true) :
    ∃ c b, RowV P k s w (v.tr ρ) ly c ys b := by
  unfold srcA at h
  split at h
  · simp at h; obtain ⟨rfl, rfl, rfl⟩ := h
    exact ⟨0, none, rfl, by simp, fun w' _ => by simp [Builtin.firstCells], fun _ => ⟨rfl, rfl⟩⟩
  · rename_i h' o l c
    split at h
    · rename_i k' ns ty hg
      split at h
      · rename_i hk; have hk' := keq_iff.1 hk; subst hk'
        simp at h; obtain ⟨rfl, rfl, rfl⟩ := h
        simp only [Option.getD_some, decide_eq_true_eq] at ho
        refine ⟨c, some ⟨(ρ h').1, (ρ h').2 + o, none⟩, rowV_of (by rw [mulS_eq]; simp; omega) fun j n hj => ?_⟩
        have := ints_at hS hg (take_drop_get hj)
        rw [Nat.add_assoc]; exact this
      · simp at h
    · rename_i k' ns hg
      split at h
      · rename_i hk; have hk' := keq_iff.1 hk; subst hk'
        simp at h; obtain ⟨rfl, rfl, rfl⟩ := h
        simp only [Option.getD_some, decide_eq_true_eq] at ho
        refine ⟨c, some ⟨(ρ h').1, (ρ h').2 + o, none⟩, rowV_of (by rw [mulS_eq]; simp; omega) fun j n hj => ?_⟩
        have := (hS.objs _ _ (getH_some.1 hg)).1 _ _ (take_drop_get hj)
        rw [Nat.add_assoc]; exact this
      · simp at h
    · rename_i vs ty hg
      split at h
      · rename_i ns hns
        simp at h; obtain ⟨rfl, rfl, rfl⟩ := h
        simp only [Option.getD_some, decide_eq_true_eq] at ho
        refine ⟨c, some ⟨(ρ h').1, (ρ h').2 + o, none⟩, rowV_of (by rw [mulS_eq]; simp; omega) fun j n hj => ?_⟩
        have hgt := take_drop_get hj
        have e := asInts_eq (ρ := ρ) hns
        obtain ⟨h1, h2⟩ := (hS.objs _ _ (getH_some.1 hg)).1
        rw [e] at h2
        simp [World.cell?, h2, h1, hgt]
      · simp at h
    · simp at h
  · rename_i h' s' o l
    split at h
    · rename_i k' ns s2 ty hg hs
      have hs' := Nat.eq_of_beq_eq_true hs
      subst hs'
      split at h
      · rename_i hk hs2; have hk' := keq_iff.1 hk; subst hk'
        have hs2' := Nat.eq_of_beq_eq_true hs2; subst hs2'
        simp at h; obtain ⟨rfl, rfl, rfl⟩ := h
        simp only [Option.getD_some, decide_eq_true_eq] at ho
        refine ⟨(ρ h').2 - o, some ⟨(ρ h').1, if o = (ρ h').2 then 0 else o * s2, none⟩, ?_⟩
        have hlen : ((ns.drop (mulS o s2)).take (mulS l s2)).length = l * s2 := by
          rw [mulS_eq, mulS_eq]; rw [Nat.add_mul] at ho; simp; omega
        obtain ⟨rest, ty, hrow, hcap⟩ := (hS.objs _ _ (getH_some.1 hg)).1
        by_cases e : o = (ρ h').2
        · -- nothing is left
          refine rowV_of hlen fun j n hj => ?_
          exfalso
          have h0 : l * s2 = 0 := by
            rw [Nat.add_mul, e] at ho
            simp at hcap
            omega
          have hjl : j < ((ns.drop (mulS o s2)).take (mulS l s2)).length := by
            rcases Nat.lt_or_ge j ((ns.drop (mulS o s2)).take (mulS l s2)).length with h1 | h1
            · exact h1
            · rw [List.getElem?_eq_none h1] at hj; simp at hj
          omega
        · refine rowV_of hlen fun j n hj => ?_
          rw [if_neg e]
          have := buf_at hS hg (take_drop_get hj)
          rw [mulS_eq] at this; exact this
      · simp at h
    · simp at h
  · simp at h

/-- What is appended to: besides, where it lies, and all that its block holds. -/
theorem tgtA_ok (hS : HSat w0 bs ρ H w) {k : IntKind} {s lx ly : Nat} {v : SV} {ob : Bool} {drop : Option Nat} {xs : List Int} (h : tgtA k s H ly v = some (ob, drop, lx, xs)) (ho : ob = true) :
    (∀ h, drop = some h → ∃ o0, getH H h = some o0 ∧ o0.owned = true) ∧ ∃ c b, RowV P k s w (v.tr ρ) lx c xs b ∧
      ((b = none ∧ drop = none ∧ 0 < ly) ∨ ∃ g ty rest, b = some ⟨(ρ g).1, 0, none⟩ ∧ drop = some g ∧ w.heap[(ρ g).1]? = some (.cells ((xs ++ rest).map (Value.int k)).toArray ty (0, 0)) ∧ (xs ++ rest).length = c * s) := by
  subst ho
  unfold tgtA at h
  split at h
  · simp at h; obtain ⟨h1, rfl, rfl, rfl⟩ := h
    exact ⟨fun _ h => by simp at h, 0, none, ⟨rfl, by simp, fun w' _ => by simp [Builtin.firstCells], fun _ => ⟨rfl, rfl⟩⟩, .inl ⟨rfl, rfl, h1⟩⟩
  · rename_i h' o l c
    have fin : ∀ (ns : List Int) (ty : TypeId) (o0 : SO), getH H h' = some o0 → o0.owned = true → (ρ h').2 = 0 → w.heap[(ρ h').1]? = some (.cells (ns.map (Value.int k)).toArray ty (0, 0)) → (c * s = ns.length ∧ l ≤ c) →
        (∀ h, some h' = some h → ∃ o0, getH H h = some o0 ∧ o0.owned = true) ∧ ∃ c' b, RowV P k s w ((SV.slice h' 0 l c).tr ρ) l c' (ns.take (mulS l s)) b ∧
        ((b = none ∧ some h' = none ∧ 0 < ly) ∨ ∃ g ty rest, b = some ⟨(ρ g).1, 0, none⟩ ∧ some h' = some g ∧ w.heap[(ρ g).1]? = some (.cells ((ns.take (mulS l s) ++ rest).map (Value.int k)).toArray ty (0, 0)) ∧ (ns.take (mulS l s) ++ rest).length = c' * s) := by
      intro ns ty o0 hg how hp hrow ⟨hc, hle⟩
      refine ⟨fun h e => by simp at e; subst e; exact ⟨o0, hg, how⟩, c, some ⟨(ρ h').1, 0, none⟩, ?_, .inr ⟨h', ty, ns.drop (mulS l s), rfl, rfl, by rw [List.take_append_drop]; exact hrow, by rw [List.take_append_drop]; exact hc.symm⟩⟩
      have hmul : l * s ≤ c * s := Nat.mul_le_mul_right s hle
      have := rowV_of (P := P) (s := s) (l := l) (c := c) (b := (ρ h').1) (o := 0) (k := k) (xs := ns.take (mulS l s)) (w := w) (by rw [mulS_eq]; simp; omega) (fun j n hj => by
        rw [List.getElem?_take] at hj
        split at hj
        · simp [World.cell?, hrow, hj]
        · simp at hj)
      simpa only [SV.tr, hp, Nat.add_zero] using this
    split at h
    · rename_i k' ns ty hg
      split at h
      · rename_i hk; have hk' := keq_iff.1 hk; subst hk'
        simp only [Option.some.injEq, Prod.mk.injEq, decide_eq_true_eq] at h
        obtain ⟨h1, rfl, rfl, rfl⟩ := h
        obtain ⟨⟨hp, hrow⟩, _⟩ := hS.objs _ _ (getH_some.1 hg)
        exact fin ns ty _ hg rfl hp hrow h1
      · simp at h
    · rename_i vs ty hg
      split at h
      · rename_i ns hns
        simp only [Option.some.injEq, Prod.mk.injEq, decide_eq_true_eq] at h
        obtain ⟨h1, rfl, rfl, rfl⟩ := h
        obtain ⟨⟨hp, hrow⟩, _⟩ := hS.objs _ _ (getH_some.1 hg)
        rw [asInts_eq hns] at hrow
        exact fin ns ty _ hg rfl hp hrow h1
      · simp at h
    · simp at h
  · rename_i h' s' o l
    split at h
    · rename_i k' ns s2 ty hg hs
      have hs' := Nat.eq_of_beq_eq_true hs
      subst hs'
      split at h
      · rename_i hk hs2
        have hk' := keq_iff.1 hk; subst hk'
        have hs2' := Nat.eq_of_beq_eq_true hs2; subst hs2'
        simp only [Option.some.injEq, Prod.mk.injEq, decide_eq_true_eq] at h
        obtain ⟨h1, rfl, rfl, rfl⟩ := h
        obtain ⟨rest, ty, hrow, hcap⟩ := (hS.objs _ _ (getH_some.1 hg)).1
        refine ⟨fun h e => by simp at e; subst e; exact ⟨_, hg, rfl⟩, (ρ h').2, some ⟨(ρ h').1, 0, none⟩, ?_, .inr ⟨h', ty, rest, rfl, rfl, hrow, hcap⟩⟩
        have := rowV_of (P := P) (s := s2) (l := l) (c := (ρ h').2) (b := (ρ h').1) (o := 0) (k := k') (xs := ns) (w := w) h1.symm (fun j n hj => by
          rw [Nat.zero_add]; exact buf_at hS hg hj)
        simpa only [SV.tr, Nat.zero_mul, ite_self, Nat.sub_zero] using this
      · simp at h
    · simp at h
  · simp at h

theorem zeroCells_of {k : IntKind} (zs : List Int) {zc : Array Value} (hz : zc = (zs.map (Value.int k)).toArray) (n : Nat) : ∃ rest : List Int, Builtin.zeroCells zc n = (rest.map (Value.int k)).toArray ∧ rest.length = n * zs.length := by
  refine ⟨(List.range (n * zs.length)).map fun i => zs.getD (i % zs.length) 0, ?_, by simp⟩
  unfold Builtin.zeroCells
  subst hz
  apply Array.ext
  · simp
  · intro i h1 h2
    simp at h1
    have hpos : 0 < zs.length := by
      rcases Nat.eq_zero_or_pos zs.length with h | h
      · rw [h] at h1; omega
      · exact h
    have hm := Nat.mod_lt i hpos
    simp [hm]

theorem vApp_ok (hTE : ∀ t, TIok P t (TE t)) (hS : HSat w0 bs ρ H w) {t t2 ty : Nat} {x y : SV} {e : Eff} (he : vApp TE H t t2 x y = some e) :
    EffOk ρ H w ((Builtin.append_ #[t, t2] ty #[x.tr ρ, y.tr ρ] >>= fun v => pure (Next.value v) : Sem Next).run P w) e := by
  unfold vApp at he
  split at he
  case h_2 => simp at he
  rename_i el el2 ht ht2
  split at he
  case h_2 => simp at he
  rename_i k s hk hb1 hb2
  split at he
  case h_2 => simp at he
  rename_i oy ly ys hsrc
  split at he
  case h_2 => simp at he
  rename_i ox drop lx xs htgt
  simp at he; subst he
  intro hob
  simp at hob
  obtain ⟨⟨hox, hoy⟩, hbig⟩ := hob
  obtain ⟨hne, hsz, zs, z, hzl, hzr, hzc⟩ := elemK_ok (P := P) hTE hk
  obtain ⟨inf, _, i1, i2, i3, _, _, _⟩ := (hTE el).info hne
  have hsize := sizeOf_run' (hTE el) hne
  rw [hsz] at hsize
  obtain ⟨hdrop, cx, bx, hX, hXb⟩ := tgtA_ok (P := P) hS htgt hox
  obtain ⟨cy, by', hY⟩ := srcA_ok (P := P) hS hsrc hoy
  have hbytes : (TE el).bytes ≤ 1024 := Nat.le_of_ble_eq_true hb1
  have hbytes1 : 1 ≤ (TE el).bytes := Nat.le_of_ble_eq_true hb2
  refine ⟨rfl, rfl, hdrop, ?_⟩
  have hti : ∀ w, (typeInfo el).run P w = .ok inf w := by intro w; simp [typeInfo, i1]
  have hfy := hY.cells w (fun _ _ => rfl)
  have hfx := hX.cells w (fun _ _ => rfl)
  by_cases hle : lx + ly ≤ cx
  · -- where it lay
    rcases hXb with ⟨hb, _, hpos⟩ | ⟨g, tyg, rest, hb, hdr, hrow, hcap⟩
    · have := (hX.nil hb).2; omega
    · subst hb
      have hxl := hX.len
      have hyl := hY.len
      have hfit : lx * s + 0 + (ys.map (Value.int k)).length ≤ (((xs ++ rest).map (Value.int k)).toArray).size := by
        simp at hcap ⊢
        have : (lx + ly) * s ≤ cx * s := Nat.mul_le_mul_right s hle
        rw [Nat.add_mul] at this
        omega
      have hst := run_storeCells_at (P := P) (ρ g).1 (lx * s) tyg (ys.map (Value.int k)) 0 (((xs ++ rest).map (Value.int k)).toArray) w hrow hfit (by simp [Value.oneCell'])
      refine ⟨(ρ g).1, cx, w.setRow (ρ g).1 (((xs ++ rest).map (Value.int k)).toArray.toList.take (lx * s + 0) ++ ys.map (Value.int k) ++ ((xs ++ rest).map (Value.int k)).toArray.toList.drop (lx * s + 0 + (ys.map (Value.int k)).length)).toArray, ?_, ⟨rfl, rfl, rfl⟩, .inr ⟨g, hdr, rfl, size_setRow _ _ _⟩, fun b _ hb => setRow_other' _ _ _ _ hb, rest.drop ys.length, tyg, ?_⟩
      · rw [Sem.run_bind]
        unfold Builtin.append_
        simp only [List.getElem?_toArray, List.getElem?_cons_zero, List.getElem?_cons_succ, hX.val, hY.val]
        simp only [Sem.run_bind, run_underlying ((hTE t).slice el ht), run_underlying ((hTE t2).slice el2 ht2), Result.andThen_ok, hsize, Builtin.lenOf, Sem.run_pure]
        simp only [Bool.false_eq_true, ↓reduceIte, hle, Bool.not_false, Sem.run_bind, hfy, Result.andThen_ok, Sem.run_pure]
        rw [add_off, Nat.zero_add, hst]
        rfl
      · have e1 : (((xs ++ rest).map (Value.int k)).toArray.toList.take (lx * s + 0) ++ ys.map (Value.int k) ++ ((xs ++ rest).map (Value.int k)).toArray.toList.drop (lx * s + 0 + (ys.map (Value.int k)).length)) = ((xs ++ ys ++ rest.drop ys.length).map (Value.int k)) := by
          simp only [Nat.add_zero, List.map_append, List.length_map, ← hxl]
          rw [List.take_append_of_le_length (by simp), List.take_of_length_le (by simp), List.drop_append]
          simp
        rw [e1]
        refine ⟨setRow_heap _ _ _ _ _ _ hrow, ?_⟩
        simp at hcap ⊢
        have : (lx + ly) * s ≤ cx * s := Nat.mul_le_mul_right s hle
        rw [Nat.add_mul] at this
        omega
  · -- anew
    have hcx : cx < lx + ly := by omega
    have hn1 := nextslicecap_le (lx + ly) cx
    have hn2 : ¬ (281474976710656 < Builtin.nextslicecap (lx + ly) cx * inf.bytes) := by
      have h1 : Builtin.nextslicecap (lx + ly) cx * inf.bytes ≤ (lx + ly + 16 * cx + 16384) * 1024 := Nat.mul_le_mul hn1 (by omega)
      omega
    let q := Question.appendCap (lx + ly) cx el
    have hch : ∀ w : World, (choose q).run P w = .ok (q.cut (w.tape w.drawn q)) w.drew := by
      intro w; rfl
    have h63 : ¬ (((lx + ly : Nat) : Int) > IntKind.i64.max ∧ (False ∨ inf.bytes = 0)) := by
      have : IntKind.i64.max = 9223372036854775807 := by decide
      rw [this]; omega
    have h48 : ¬ (Builtin.nextslicecap (lx + ly) cx * inf.bytes > 2 ^ 48) := by
      have : (2 : Nat) ^ 48 = 281474976710656 := by decide
      omega
    have hcapge : lx + ly ≤ q.cut (w.tape w.drawn q) := by simp [q, Question.cut]
    obtain ⟨rest, hr1, hr2⟩ := zeroCells_of zs hzc (q.cut (w.tape w.drawn q) - (lx + ly))
    have hfx' := hX.cells w.drew (fun _ _ => rfl)
    have hfy' := hY.cells w.drew (fun _ _ => rfl)
    refine ⟨w.heap.size, q.cut (w.tape w.drawn q), w.drew.alloc (.cells ((xs ++ ys ++ rest).map (Value.int k)).toArray el), ?_, ⟨rfl, rfl, rfl⟩, .inl ⟨rfl, by simp⟩, ?_, rest, el, ?_, ?_⟩
    · rw [Sem.run_bind]
      unfold Builtin.append_
      simp only [List.getElem?_toArray, List.getElem?_cons_zero, List.getElem?_cons_succ, hX.val, hY.val]
      simp only [Sem.run_bind, run_underlying ((hTE t).slice el ht), run_underlying ((hTE t2).slice el2 ht2), Result.andThen_ok, hsize, Builtin.lenOf, Sem.run_pure]
      simp only [Bool.false_eq_true, ↓reduceIte, Sem.run_bind, Sem.run_pure, Result.andThen_ok, hle, Bool.not_false, hti]
      rw [if_neg h63]
      simp only [Sem.run_bind, hti, Result.andThen_ok]
      rw [if_neg h48]
      simp only [Sem.run_bind, hti, Result.andThen_ok]
      rw [show choose (Question.appendCap (lx + ly) cx el) = choose q from rfl, hch]
      simp only [Result.andThen_ok, Sem.run_bind, run_askRoom, hfx', hfy', hzr, Sem.run_pure, newRow, newObj, hr1]
      simp [Sem.run, World.alloc]
    · intro b hb _
      exact heap_alloc_old w.drew _ hb
    · exact heap_alloc_new _ _
    · simp only [List.length_append, hX.len, hY.len, hr2, hzl]
      rw [← Nat.add_mul, ← Nat.add_mul]
      congr 1
      omega

theorem appX_ok (hTE : ∀ t, TIok P t (TE t)) (hS : HSat w0 bs ρ H w) {t t2 ty : Nat} {x y : SV} {e : Eff} (he : appX TE H t t2 x y = some e) :
    EffOk ρ H w ((Builtin.append_ #[t, t2] ty #[x.tr ρ, y.tr ρ] >>= fun v => pure (Next.value v) : Sem Next).run P w) e := by
  unfold appX at he
  split at he
  · split at he
    · split at he
      · rename_i el el2 ht ht2
        split at he
        · rename_i q hk
          obtain ⟨k, s⟩ := q
          simp at he; subst he
          intro _
          refine ⟨rfl, ?_⟩
          obtain ⟨hne, hsz, _, _, _, _, _⟩ := elemK_ok (P := P) hTE hk
          have hsize := sizeOf_run' (hTE el) hne
          rw [Sem.run_bind]
          unfold Builtin.append_
          simp only [List.getElem?_toArray, List.getElem?_cons_zero, List.getElem?_cons_succ, SV.tr]
          simp only [Sem.run_bind, run_underlying ((hTE t).slice el ht), run_underlying ((hTE t2).slice el2 ht2), Result.andThen_ok, hsize, Builtin.lenOf, Sem.run_pure]
          simp [Builtin.firstCells]
        · simp at he
      · simp at he
    · exact vApp_ok hTE hS he
  · exact vApp_ok hTE hS he
theorem vSliceB_ok (hTE : ∀ t, TIok P t (TE t)) (hS : HSat w0 bs ρ H w) {t e' h s l : Nat} {lo hi : Option SV} {e : Eff} (hx : there H h = true) (hd : (TE t).d = .slice e') (he : vSliceB (TE e') H h s l lo hi = some e) :
    EffOk ρ H w ((do pure (.value (← Instr.sliceAt t ((SV.sbuf h s 0 l).tr ρ) (lo.map (SV.tr ρ)) (hi.map (SV.tr ρ)) none)) : Sem Next).run P w) e := by
  unfold vSliceB at he
  split at he
  · simp at he
  · rename_i k ns s2 ty m hg hcl
    split at he
    · rename_i a b hsz hs2 hs1 hlo hhi
      simp at he; subst he
      intro hob
      simp at hob
      have hsz' := Nat.eq_of_beq_eq_true hsz
      have hs2' := Nat.eq_of_beq_eq_true hs2
      have hs1' := Nat.le_of_ble_eq_true hs1
      subst hs2'
      obtain ⟨rest, ty', hrow, hcap⟩ := (hS.objs _ _ (getH_some.1 hg)).1
      have hlc : l ≤ (ρ h).2 := by
        have h1 : l * s2 ≤ (ρ h).2 * s2 := by simp at hcap; omega
        exact Nat.le_of_mul_le_mul_right h1 (by omega)
      -- the same value, under another reading of handles
      let ρ2 : Nat → Nat × Nat := fun x => if x = h then ((ρ h).1, 0) else ρ x
      have hval : (SV.sbuf h s2 0 l).tr ρ = (SV.slice h 0 l (ρ h).2).tr ρ2 := by simp [SV.tr, ρ2]
      have key : ∀ ob v, vSliceOf h 0 l (ρ h).2 (TE e').size lo hi = some (.val ob v) → ob.getD true = true → v.tr ρ2 = (SV.sbuf h s2 a.toNat (b.toNat - a.toNat)).tr ρ → lo.map (SV.tr ρ) = lo.map (SV.tr ρ2) → hi.map (SV.tr ρ) = hi.map (SV.tr ρ2) →
          (SV.sbuf h s2 a.toNat (b.toNat - a.toNat)).okh (there H) = true ∧ ((do pure (.value (← Instr.sliceAt t ((SV.sbuf h s2 0 l).tr ρ) (lo.map (SV.tr ρ)) (hi.map (SV.tr ρ)) none)) : Sem Next).run P w) = .ok (.value ((SV.sbuf h s2 a.toNat (b.toNat - a.toNat)).tr ρ)) w := by
        intro ob v hv ho hveq e1 e2
        have hvs : vSlice TE t (.slice h 0 l (ρ h).2) lo hi = some (.val ob v) := by
          unfold vSlice
          simp only [hd, hcl]
          exact hv
        have := vSlice_ok (P := P) (ρ := ρ2) (H := H) (w := w) hTE (x := .slice h 0 l (ρ h).2) (by simpa [SV.okh] using hx) hvs ho
        refine ⟨by simpa [SV.okh] using hx, ?_⟩
        rw [hval, e1, e2, this.2, hveq]
      have hlo' : lo = none ∧ a = 0 ∨ ∃ k', lo = some (.int k' a) := by
        unfold loF at hlo
        split at hlo
        · simp at hlo; exact .inl ⟨rfl, hlo.symm⟩
        · rename_i k' n; simp at hlo; subst hlo; exact .inr ⟨k', rfl⟩
        · simp at hlo
      have hhi' : hi = none ∧ b = l ∨ ∃ k', hi = some (.int k' b) := by
        unfold hiF at hhi
        split at hhi
        · simp at hhi; exact .inl ⟨rfl, hhi.symm⟩
        · rename_i k' n; simp at hhi; subst hhi; exact .inr ⟨k', rfl⟩
        · simp at hhi
      obtain ⟨o1, o2, o3, _⟩ := hob
      have etr : ∀ (x y z : Nat), x = a.toNat → y = b.toNat - a.toNat → (SV.slice h (if (ρ h).2 = x then 0 else 0 + x * (TE e').size) y ((ρ h).2 - x)).tr ρ2 = (SV.sbuf h s2 a.toNat (b.toNat - a.toNat)).tr ρ := by
        intro x y z hx hy
        subst hx; subst hy
        simp only [SV.tr, ρ2, if_true, hsz', Nat.zero_add]
        by_cases e : (ρ h).2 = a.toNat
        · simp [e]
        · have e' : ¬ a.toNat = (ρ h).2 := fun x => e x.symm
          simp [e, e']
      rcases hlo' with ⟨rfl, rfl⟩ | ⟨k1, rfl⟩ <;> rcases hhi' with ⟨rfl, rfl⟩ | ⟨k2, rfl⟩
      · refine key none (.slice h 0 l (ρ h).2) rfl rfl ?_ rfl rfl
        rw [← etr 0 l 0 rfl (by omega)]
        simp
      · refine key _ _ rfl ?_ ?_ rfl rfl
        · simp only [boundOk, Option.getD_some, decide_eq_true_eq]; omega
        · rw [← etr 0 b.toNat 0 rfl (by omega)]
          simp
      · refine key _ _ rfl ?_ ?_ rfl rfl
        · simp only [boundOk, Option.getD_some, decide_eq_true_eq]; omega
        · rw [mulF_eq]
          exact etr a.toNat (l - a.toNat) 0 rfl (by omega)
      · refine key _ _ rfl ?_ ?_ rfl rfl
        · simp only [boundOk, Option.getD_some, Bool.and_eq_true, decide_eq_true_eq]; omega
        · rw [mulF_eq]
          exact etr a.toNat (b.toNat - a.toNat) 0 rfl rfl
    · simp at he
  · simp at he

theorem bufX_ok (hTE : ∀ t, TIok P t (TE t)) (hS : HSat w0 bs ρ H w) (hT : TSat ρ (there H) nt T a) {o : Oper} {e : Eff} (he : bufX TE T H o.op = some e) :
    EffOk ρ H w ((execOp a.eval o).run P w) e := by
  cases hop : o.op
  all_goals simp only [hop, bufX] at he
  case indexAddr t x i =>
    split at he
    · rename_i h s o l k n hx hi
      obtain ⟨h1, h2⟩ := ev_tr hT hx
      obtain ⟨h3, _⟩ := ev_tr hT hi
      split at he
      · rename_i e' hd
        split at he
        · simp at he
        · rename_i m hcl hs
          simp at he; subst he
          intro hob
          have hs' := Nat.eq_of_beq_eq_true hs
          simp at hob
          have hne : (TE e').d ≠ .other := cls_other (by rw [hcl]; simp)
          refine ⟨h2, ?_⟩
          simp only [execOp, hop, h1, h3]
          simp [Instr.indexAt, SV.tr, asIntOf, run_underlying ((hTE t).slice e' hd), sizeOf_run' (hTE e') hne, hob, add_off, hs']
        · simp at he
      · simp at he
    · rename_i h x' s c k n hx hi
      obtain ⟨h1, h2⟩ := ev_tr hT hx
      obtain ⟨h3, _⟩ := ev_tr hT hi
      split at he
      · rename_i n' e' hd
        split at he
        · simp at he
        · rename_i m hcl
          simp at he; subst he
          intro hob
          simp at hob
          have hne : (TE e').d ≠ .other := cls_other (by rw [hcl]; simp)
          refine ⟨h2, ?_⟩
          simp only [execOp, hop, h1, h3]
          simp [Instr.indexAt, SV.tr, asIntOf, run_underlying ((hTE t).arr n' e' hd), Instr.sureAddr, sizeOf_run' (hTE e') hne, hob, add_off, mulS_eq, Nat.add_assoc]
      · simp at he
    · simp at he
  case load t x =>
    split at he
    · rename_i h x' s c hx
      obtain ⟨h1, h2⟩ := ev_tr hT hx
      have := vLoadB_ok (P := P) hS (hTE t) he
      simpa only [execOp, hop, h1, SV.tr, Instr.loadAt, Instr.sureAddr, pure_bind] using this
    · simp at he
  case store t x y =>
    split at he
    · rename_i h x' s c v hx hy
      obtain ⟨h1, h2⟩ := ev_tr hT hx
      obtain ⟨h3, h4⟩ := ev_tr hT hy
      have := vStoreB_ok (P := P) hS (hTE t) he
      simpa only [execOp, hop, h1, h3, SV.tr, Instr.storeAt, Instr.sureAddr, pure_bind] using this
    · simp at he
  case nilCheck x =>
    split at he
    · rename_i h x' s c hx
      obtain ⟨h1, h2⟩ := ev_tr hT hx
      simp at he; subst he; intro _
      exact ⟨h2, by simp [execOp, hop, h1, SV.tr]⟩
    · simp at he
  case binOp op t x y yt =>
    split at he
    · rename_i h s o' l e' hx hy hd
      obtain ⟨h1, h2⟩ := ev_tr hT hx
      obtain ⟨h3, _⟩ := ev_tr hT hy
      have hu := (hTE t).slice _ hd
      have hg : ∀ op w, (eqGuard op t x y ((SV.sbuf h s o' l).tr ρ) (SV.nilslice.tr ρ)).run P w = .ok () w := by
        intro op w; unfold eqGuard; cases op <;> simp [SV.tr]
      have heq : ∀ w, (Op.equal t ((SV.sbuf h s o' l).tr ρ) (SV.nilslice.tr ρ)).run P w = .ok false w := by
        intro w; rw [equal_eq, Op.equalIn]; simp [run_underlying hu, SV.tr]
      split at he
      · simp at he; subst he; intro _
        refine ⟨rfl, ?_⟩
        simp only [execOp, hop, h1, h3, Sem.run_bind, hg, Result.andThen_ok]
        rw [show binOp .eql t ((SV.sbuf h s o' l).tr ρ) (SV.nilslice.tr ρ) = (do pure (.bool (← Op.equal t ((SV.sbuf h s o' l).tr ρ) (SV.nilslice.tr ρ)))) from rfl]
        simp only [Sem.run_bind, heq, Result.andThen_ok, Sem.run_pure]; rfl
      · simp at he; subst he; intro _
        refine ⟨rfl, ?_⟩
        simp only [execOp, hop, h1, h3, Sem.run_bind, hg, Result.andThen_ok]
        rw [show binOp .neq t ((SV.sbuf h s o' l).tr ρ) (SV.nilslice.tr ρ) = (do pure (.bool (!(← Op.equal t ((SV.sbuf h s o' l).tr ρ) (SV.nilslice.tr ρ))))) from rfl]
        simp only [Sem.run_bind, heq, Result.andThen_ok, Sem.run_pure]; rfl
      · simp at he
    · simp at he
  case slice t x lo hi mx =>
    split at he
    · rename_i h s o' l lo' hi' e' hx hl hh hd
      obtain ⟨h1, h2⟩ := ev_tr hT hx
      split at he
      · have := vSliceB_ok (P := P) (t := t) hTE hS (by simpa [SV.okh] using h2) hd he
        simpa only [execOp, hop, h1, evO_tr hT hl, evO_tr hT hh, Option.map_none] using this
      · simp at he
    · simp at he
  case call c =>
    split at he
    · rename_i x t hc hx ht
      split at he
      · rename_i h s o' l e' hu hd
        obtain ⟨h1, h2⟩ := ev_tr hT hu
        have ha : c.args = #[x] := by rw [← Array.toList_inj]; simpa using hx
        have hb : c.argTypes = #[t] := by rw [← Array.toList_inj]; simpa using ht
        simp at he; subst he; intro _
        refine ⟨rfl, ?_⟩
        have : (Builtin.len_ #[t] o.type #[(SV.sbuf h s o' l).tr ρ]).run P w = .ok (.int .i64 l) w := by simp [Builtin.len_, run_underlying ((hTE t).slice _ hd), SV.tr, goInt]
        simp only [execOp, hop, Sem.run_bind]
        simp only [resolve, hc, ha, hb, Sem.run_pure, Result.andThen_ok, invoke, builtin, Sem.run_bind]
        rw [show (Array.map a.eval #[x]) = #[(SV.sbuf h s o' l).tr ρ] from by simp [h1], this]
        rfl
      · simp at he
    · rename_i x y t t2 hc hx ht
      split at he
      · rename_i u v hu hv
        obtain ⟨h1, h2⟩ := ev_tr hT hu
        obtain ⟨h3, h4⟩ := ev_tr hT hv
        have ha : c.args = #[x, y] := by rw [← Array.toList_inj]; simpa using hx
        have hb : c.argTypes = #[t, t2] := by rw [← Array.toList_inj]; simpa using ht
        have := appX_ok (P := P) (ty := o.type) hTE hS he
        have hrun : (execOp a.eval o).run P w = (Builtin.append_ #[t, t2] o.type #[u.tr ρ, v.tr ρ] >>= fun v => pure (Next.value v) : Sem Next).run P w := by
          simp only [execOp, hop, Sem.run_bind]
          simp only [resolve, hc, ha, hb, Sem.run_pure, Result.andThen_ok, invoke, builtin, Sem.run_bind]
          rw [show (Array.map a.eval #[x, y]) = #[u.tr ρ, v.tr ρ] from by simp [h1, h3]]
        rw [hrun]; exact this
      · simp at he
    · rename_i _ x y hc hx
      split at he
      · rename_i k n k' m hu hv
        obtain ⟨h1, _⟩ := ev_tr hT hu
        obtain ⟨h3, _⟩ := ev_tr hT hv
        have ha : c.args = #[x, y] := by rw [← Array.toList_inj]; simpa using hx
        simp at he; subst he; intro _
        refine ⟨rfl, ?_⟩
        simp only [execOp, hop, Sem.run_bind]
        simp only [resolve, hc, ha, Sem.run_pure, Result.andThen_ok, invoke, builtin, Sem.run_bind]
        rw [show (Array.map a.eval #[x, y]) = #[.int k n, .int k' m] from by simp [h1, h3, SV.tr], run_min_int2]
        rfl
      · simp at he
    · simp at he
  all_goals (simp at he)
end
end Go.Hx

/-
  The machine with frames: what is called is walked into; choices are handed in.
-/
namespace Go.Hx
open Go

/-- What must be true. -/
def AllP (l : List Prop) : Prop := ∀ p ∈ l, p
def addOP (ob : Option Bool) (l : List Prop) : List Prop :=
  match ob with
  | none => l
  | some b => (b = true) :: l
theorem addOP_all {ob : Option Bool} {l : List Prop} (h : AllP (addOP ob l)) : AllP l ∧ ob.getD true = true := by
  cases ob with
  | none => exact ⟨h, rfl⟩
  | some b => exact ⟨fun x hx => h x (by simp [addOP, hx]), h (b = true) (by simp [addOP])⟩
/-- A list, written out to its end. -/
def forceP : List Prop → Option (List Prop)
  | [] => some []
  | p :: r => match forceP r with | some r' => some (p :: r') | none => none
theorem forceP_eq : ∀ {l r : List Prop}, forceP l = some r → r = l
  | [], r, h => by simp [forceP] at h; exact h
  | v :: l, r, h => by
    simp only [forceP] at h
    split at h
    · rename_i r' hr
      simp at h; subst h
      rw [forceP_eq hr]
    · simp at h
def forceHs : List HE → Option (List HE)
  | [] => some []
  | p :: r => match forceHs r with | some r' => some (p :: r') | none => none
theorem forceHs_eq : ∀ {l r : List HE}, forceHs l = some r → r = l
  | [], r, h => by simp [forceHs] at h; exact h
  | v :: l, r, h => by
    simp only [forceHs] at h
    split at h
    · rename_i r' hr
      simp at h; subst h
      rw [forceHs_eq hr]
    · simp at h
def argTF : List Nat → List SV → Option (List (Nat × SV))
  | _, [] => some []
  | [], _ :: _ => none
  | n :: ns, v :: r => match argTF ns r with | some l => some ((n, v) :: l) | none => none
theorem argTF_eq : ∀ {ns : List Nat} {vs : List SV} {l : List (Nat × SV)} {i : Nat}, (∀ j n, ns[j]? = some n → n = i + j) → argTF ns vs = some l → l = argT i vs
  | _, [], l, i, _, h => by simp [argTF] at h; subst h; rfl
  | [], _ :: _, l, i, _, h => by simp [argTF] at h
  | n :: ns, v :: r, l, i, hn, h => by
    simp only [argTF] at h
    split at h
    · rename_i l' hl
      simp at h; subst h
      have h0 := hn 0 n (by simp)
      rw [argTF_eq (i := i + 1) (fun j m hm => by have := hn (j + 1) m (by simpa using hm); omega) hl]
      simp only [argT]
      rw [h0]; rfl
    · simp at h
theorem argTF_nums {vs : List SV} {l : List (Nat × SV)} (h : argTF nums vs = some l) : l = argT 0 vs :=
  argTF_eq (fun j n hj => by have := nums_get j n hj; omega) h

def conjP : List Prop → Prop
  | [] => True
  | [p] => p
  | p :: r => conjP r ∧ p
theorem conjP_all : ∀ {l : List Prop}, conjP l → AllP l
  | [], _ => by intro b hb; simp at hb
  | [b], h => by intro x hx; simp at hx; rw [hx]; exact h
  | b :: c :: r, h => by
    intro x hx
    have h1 := conjP_all (l := c :: r) h.1
    simp only [List.mem_cons] at hx
    rcases hx with rfl | hx
    · exact h.2
    · exact h1 x (by simpa using hx)

abbrev Spec := List SV → List HE → Option (List Prop × SV × List HE)

/-- Calls that the model answers by itself. -/
inductive XK where
  | addI | loadI

/-- What the machine goes by: types; functions; what is known of some; calls that the model answers; which types are compared part by part; how often a loop is unrolled. -/
structure Tabs where
  TE : Nat → TI
  FT : Nat → Option Func
  CT : Nat → Option Spec
  XT : Nat → Option XK
  ET : Nat → Option (List (Option IntKind))
  un : Nat

def eqC : List (Option IntKind) → List SV → List SV → Option Bool
  | [], [], [] => some true
  | some k :: ks, .int k1 a :: xs, .int k2 b :: ys => match keq k1 k, keq k2 k, eqC ks xs ys with
    | true, true, some e => some ((a == b) && e)
    | _, _, _ => none
  | none :: ks, x :: xs, y :: ys => match toB x, toB y, eqC ks xs ys with
    | some a, some b, some e => some ((a == b) && e)
    | _, _, _ => none
  | _, _, _ => none

def EqM : List (Option IntKind) → List Value → List Value → Bool → Prop
  | [], [], [], e => e = true
  | some k :: ks, x :: xs, y :: ys, e => ∃ a b e', x = .int k a ∧ y = .int k b ∧ EqM ks xs ys e' ∧ e = ((a == b) && e')
  | none :: ks, x :: xs, y :: ys, e => ∃ a b e', x = .bool a ∧ y = .bool b ∧ EqM ks xs ys e' ∧ e = ((a == b) && e')
  | _, _, _, _ => False

theorem toB_tr {ρ : Nat → Nat × Nat} {v : SV} {b : Bool} (h : toB v = some b) : v.tr ρ = .bool b := by
  cases v <;> simp [toB] at h <;> subst h <;> rfl

theorem eqC_M {ρ : Nat → Nat × Nat} : ∀ {ks : List (Option IntKind)} {xs ys : List SV} {e : Bool}, eqC ks xs ys = some e → EqM ks (SV.trs ρ xs) (SV.trs ρ ys) e := by
  intro ks
  induction ks with
  | nil =>
    intro xs ys e h
    cases xs <;> cases ys <;> simp [eqC] at h
    subst h; rfl
  | cons k ks ih =>
    intro xs ys e h
    cases k with
    | none =>
      cases xs with
      | nil => simp [eqC] at h
      | cons x xs =>
        cases ys with
        | nil => simp [eqC] at h
        | cons y ys =>
          simp only [eqC] at h
          split at h
          · rename_i a b e' ha hb he
            simp at h; subst h
            exact ⟨a, b, e', toB_tr ha, toB_tr hb, ih he, rfl⟩
          · simp at h
    | some k =>
      cases xs with
      | nil => simp [eqC] at h
      | cons x xs =>
        cases ys with
        | nil => simp [eqC] at h
        | cons y ys =>
          cases x <;> cases y <;> simp only [eqC] at h <;> try (exact absurd h (by simp))
          split at h
          · rename_i h1 h2 he
            simp at h; subst h
            have h1 := keq_iff.1 h1
            have h2 := keq_iff.1 h2
            subst h1; subst h2
            exact ⟨_, _, _, rfl, rfl, ih he, rfl⟩
          · simp at h

structure EqOk (P : Program) (t : Nat) (ks : List (Option IntKind)) : Prop where
  guard : ∀ (xs ys : List Value) (e : Bool), EqM ks xs ys e → ∀ op x y w, (eqGuard op t x y (.agg xs.toArray) (.agg ys.toArray)).run P w = .ok () w
  eq : ∀ (xs ys : List Value) (e : Bool), EqM ks xs ys e → ∀ w, (Op.equal t (.agg xs.toArray) (.agg ys.toArray)).run P w = .ok e w

def XK.ok (P : Program) (f : Nat) : XK → Prop
  | .addI => ∃ fn, P.funcs[f]? = some fn ∧ (fn.name == "runtime.NumGoroutine") = false ∧ fn.body.isNone = true ∧ Extern.findNext fn = none ∧ Extern.find fn = some (Extern.Atomic.update (Op.intArith .add) .i64 true)
  | .loadI => ∃ fn, P.funcs[f]? = some fn ∧ (fn.name == "runtime.NumGoroutine") = false ∧ fn.body.isNone = true ∧ Extern.findNext fn = none ∧ Extern.find fn = some (Extern.Atomic.loadT (.int .i64))

structure TOk (P : Program) (X : Tabs) : Prop where
  te : ∀ t, TIok P t (X.TE t)
  ft : ∀ f fn, X.FT f = some fn → P.funcs[f]? = some fn ∧ (fn.name == "runtime.NumGoroutine") = false ∧ fn.body.isSome = true
  ct : ∀ f s args H ob V L, X.CT f = some s → s args H = some (ob, V, L) → AllP ob → Gives P f args H (Is V L)
  xt : ∀ f x, X.XT f = some x → x.ok P f
  et : ∀ t ks, X.ET t = some ks → EqOk P t ks
  mo : P.follows .mixedOrders = true

/-- A choice at a bool that is not told: it is true; it is false; it is reckoned; it is left as it is. -/
inductive Ch where
  | T | F | C | K

def pickV : Ch → Bool → Option (Option Bool × SV)
  | .T, b => some (some b, .tt)
  | .F, b => some (some (!b), .ff)
  | .C, b => match b with | true => some (none, .tt) | false => some (none, .ff)
  | .K, _ => none

theorem pickV_ok {ρ : Nat → Nat × Nat} {c : Ch} {b : Bool} {ob : Option Bool} {v : SV} (h : pickV c b = some (ob, v)) (ho : ob.getD true = true) :
    v.tr ρ = .bool b ∧ (∀ A : Nat → Bool, v.okh A = true) ∧ ((v = .tt ∧ b = true) ∨ (v = .ff ∧ b = false)) := by
  cases c <;> simp [pickV] at h
  · obtain ⟨rfl, rfl⟩ := h; simp at ho; subst ho; exact ⟨rfl, fun _ => rfl, .inl ⟨rfl, rfl⟩⟩
  · obtain ⟨rfl, rfl⟩ := h; simp at ho; subst ho; exact ⟨rfl, fun _ => rfl, .inr ⟨rfl, rfl⟩⟩
  · cases b <;> simp at h <;> obtain ⟨rfl, rfl⟩ := h
    · exact ⟨rfl, fun _ => rfl, .inr ⟨rfl, rfl⟩⟩
    · exact ⟨rfl, fun _ => rfl, .inl ⟨rfl, rfl⟩⟩

/-- A caller that waits. -/
structure Fm where
  fn : Func
  nt : Nat
  H0 : List HE
  all : List Oper
  r : List Oper
  k : List KI
  T : List (Nat × SV)
  d : Option Nat

structure St where
  cs : List Ch
  fs : List Fm
  fn : Func
  nt : Nat
  H0 : List HE
  k : List KI
  T : List (Nat × SV)
  H : List HE

def putD (nt : Nat) (d : Option Nat) (T : List (Nat × SV)) (v : SV) : Option (List (Nat × SV)) :=
  match d with
  | some d => match Nat.blt d nt with | true => some ((d, v) :: T) | false => none
  | none => some T

/-! Results. -/
def resF (TE : Nat → TI) : List ResultVar → List (Nat × SV) → List HE → Option (List Prop × List SV)
  | [], _, _ => some ([], [])
  | .tmp t :: r, T, H => match look T t, resF TE r T H with
    | some v, some (ob, vs) => some (ob, v :: vs)
    | _, _ => none
  | .cell t ty :: r, T, H => match look T t with
    | some (.ptr h o) => match vLoad (TE ty) H h o, resF TE r T H with
      | some (.val ob v), some (obs, vs) => some (addOP ob obs, v :: vs)
      | _, _ => none
    | _ => none
def tupF : List SV → SV
  | [v] => v
  | l => .tup l

theorem tupF_tr {ρ : Nat → Nat × Nat} (l : List SV) : (tupF l).tr ρ = if h : (SV.trs ρ l).length = 1 then (SV.trs ρ l)[0] else .tuple (SV.trs ρ l).toArray := by
  cases l with
  | nil => simp [tupF, SV.trs, SV.tr]
  | cons v r =>
    cases r with
    | nil => simp [tupF, SV.trs]
    | cons u r => simp [tupF, SV.trs, SV.tr]
theorem tupF_okh {A : Nat → Bool} (l : List SV) (h : SV.okhs A l = true) : (tupF l).okh A = true := by
  cases l with
  | nil => rfl
  | cons v r =>
    cases r with
    | nil => simpa [tupF, SV.okhs] using h
    | cons u r => simpa [tupF, SV.okh] using h

theorem resF_ok {E : Env} {ρ : Nat → Nat × Nat} {T : List (Nat × SV)} {H : List HE} {a : Act} {w : World} (hs : Sat E ρ T H a w) :
    ∀ {l : List ResultVar} {ob : List Prop} {vs : List SV}, resF E.TE l T H = some (ob, vs) → AllP ob →
      (l.mapM (m := Sem) fun
        | .tmp t => pure (a.tmps.getD t undef)
        | .cell x t => do loadVar t (← asAddr (a.tmps.getD x undef))).run E.P w = .ok (SV.trs ρ vs) w ∧ SV.okhs (there H) vs = true
  | [], ob, vs, h, _ => by
    simp [resF] at h; obtain ⟨rfl, rfl⟩ := h
    simp [SV.trs, SV.okhs]
  | .tmp t :: r, ob, vs, h, ho => by
    simp only [resF] at h
    split at h
    · rename_i v ob' vs' hv hr
      simp at h; obtain ⟨rfl, rfl⟩ := h
      obtain ⟨h1, h2⟩ := resF_ok hs hr ho
      obtain ⟨g1, g2⟩ := sat_getD hs hv
      refine ⟨?_, by simp [SV.okhs, g2, h2]⟩
      rw [List.mapM_cons]
      simp only [Sem.run_bind, Sem.run_pure, Result.andThen_ok, h1, g1, SV.trs]
    · simp at h
  | .cell t ty :: r, ob, vs, h, ho => by
    simp only [resF] at h
    split at h
    · rename_i h' o hv
      split at h
      · rename_i ob' v obs vs' hl hr
        simp at h; obtain ⟨rfl, rfl⟩ := h
        obtain ⟨ho1, ho2⟩ := addOP_all ho
        obtain ⟨h1, h2⟩ := resF_ok hs hr ho1
        obtain ⟨g1, g2⟩ := sat_getD hs hv
        obtain ⟨q1, q2⟩ := vLoad_ok (P := E.P) hs.hs (E.hTE ty) hl ho2
        rw [Sem.run_bind] at q2
        have hl' : (loadVar ty ⟨(ρ h').1, (ρ h').2 + o, none⟩).run E.P w = .ok (v.tr ρ) w := by
          cases hx : (loadVar ty ⟨(ρ h').1, (ρ h').2 + o, none⟩).run E.P w with
          | ok u w' => rw [hx] at q2; simp at q2; rw [q2.1, q2.2]
          | halt x w' => rw [hx] at q2; simp at q2
        refine ⟨?_, by simp [SV.okhs, q1, h2]⟩
        rw [List.mapM_cons]
        have ha : ∀ x, asAddr (.pointer (some x)) = pure x := fun _ => rfl
        simp only [Sem.run_bind, g1, SV.tr, ha, Sem.run_pure, Result.andThen_ok, hl', h1, SV.trs]
      · simp at h
    · simp at h

theorem results_ok {E : Env} {ρ : Nat → Nat × Nat} {T : List (Nat × SV)} {H : List HE} {a : Act} {w : World} {fn : Func} (hs : Sat E ρ T H a w) {ob : List Prop} {vs : List SV}
    (h : resF E.TE fn.results.toList T H = some (ob, vs)) (ho : AllP ob) : (results fn a.tmps).run E.P w = .ok ((tupF vs).tr ρ) w ∧ (tupF vs).okh (there H) = true := by
  obtain ⟨h1, h2⟩ := resF_ok hs h ho
  refine ⟨?_, tupF_okh _ h2⟩
  unfold results
  rw [Array.mapM_eq_mapM_toList, map_eq_pure_bind, Sem.run_bind, Sem.run_bind]
  erw [h1]
  rw [tupF_tr]
  simp only [Result.andThen_ok, Sem.run_pure]
  congr 1

/-! What the machine does besides 'stepV'. -/
def eqX (ET : Nat → Option (List (Option IntKind))) (T : List (Nat × SV)) : Op → Option SV
  | .binOp op t x y _ => match ev T x, ev T y, ET t with
    | some (.agg a), some (.agg b), some ks => match eqC ks a b, op with
      | some e, .eql => some (.bool e)
      | some e, .neq => some (.bool (!e))
      | _, _ => none
    | _, _, _ => none
  | _ => none

theorem eqX_ok {E : Env} {ET : Nat → Option (List (Option IntKind))} (hET : ∀ t ks, ET t = some ks → EqOk E.P t ks) {ρ : Nat → Nat × Nat} {T : List (Nat × SV)} {H : List HE} {a : Act} {w : World} (hs : Sat E ρ T H a w)
    {o : Oper} {v : SV} (h : eqX ET T o.op = some v) : EffOk ρ H w ((execOp a.eval o).run E.P w) (.val none v) := by
  unfold eqX at h
  split at h
  · rename_i op t x y yt hop
    split at h
    · rename_i p q ks hx hy hk
      obtain ⟨x1, _⟩ := ev_tr hs.ts hx
      obtain ⟨y1, _⟩ := ev_tr hs.ts hy
      have hok := hET t ks hk
      split at h
      · rename_i e he
        simp at h; subst h
        have hm := eqC_M (ρ := ρ) he
        intro _
        refine ⟨rfl, ?_⟩
        simp only [execOp, hop, x1, y1, SV.tr, Sem.run_bind, hok.guard _ _ _ hm, Result.andThen_ok, binOp, hok.eq _ _ _ hm, Sem.run_pure]
      · rename_i e he
        simp at h; subst h
        have hm := eqC_M (ρ := ρ) he
        intro _
        refine ⟨rfl, ?_⟩
        simp only [execOp, hop, x1, y1, SV.tr, Sem.run_bind, hok.guard _ _ _ hm, Result.andThen_ok, binOp, hok.eq _ _ _ hm, Sem.run_pure]
      · simp at h
    · simp at h
  · simp at h

/-- What an operation does, where the machine can tell by itself. -/
def stepE (X : Tabs) (T : List (Nat × SV)) (H : List HE) (op : Op) : Option Eff :=
  match stepV X.TE T H op with
  | some e => some e
  | none => match eqX X.ET T op with
    | some v => some (.val none v)
    | none => bufX X.TE T H op

theorem stepE_ok {E : Env} {X : Tabs} (hTE : E.TE = X.TE) (hET : ∀ t ks, X.ET t = some ks → EqOk E.P t ks) {ρ : Nat → Nat × Nat} {T : List (Nat × SV)} {H : List HE} {a : Act} {w : World} (hs : Sat E ρ T H a w)
    {o : Oper} {e : Eff} (h : stepE X T H o.op = some e) : EffOk ρ H w ((execOp a.eval o).run E.P w) e := by
  unfold stepE at h
  split at h
  · rename_i e' he
    simp at h; subst h
    rw [← hTE] at he
    exact stepV_ok E.hTE hs.hs hs.ts he
  · split at h
    · rename_i v hv
      simp at h; subst h
      exact eqX_ok hET hs hv
    · rw [← hTE] at h
      exact bufX_ok E.hTE hs.hs hs.ts h

theorem eqX_congr {ET : Nat → Option (List (Option IntKind))} {T T' : List (Nat × SV)} {op : Op} (h : ∀ t ∈ usesT op.operands.toList, look T t = look T' t) : eqX ET T op = eqX ET T' op := by
  have hx : ∀ x ∈ op.operands.toList, ev T x = ev T' x := fun x hx => ev_congr fun t e => h t (usesT_mem (e ▸ hx))
  cases op
  case binOp op t x y yt =>
    simp only [eqX]
    rw [hx x (by simp [Op.operands]), hx y (by simp [Op.operands])]
  all_goals rfl

theorem bufX_congr {TE : Nat → TI} {T T' : List (Nat × SV)} {H : List HE} {op : Op} (h : ∀ t ∈ usesT op.operands.toList, look T t = look T' t) : bufX TE T H op = bufX TE T' H op := by
  have hx : ∀ x ∈ op.operands.toList, ev T x = ev T' x := fun x hx => ev_congr fun t e => h t (usesT_mem (e ▸ hx))
  have hevo : ∀ m : Option Operand, (∀ x, m = some x → ev T x = ev T' x) → evO T m = evO T' m := by
    intro m hm; cases m with
    | none => rfl
    | some x => simp only [evO]; rw [hm x rfl]
  cases op
  case indexAddr t x i => simp only [bufX]; rw [hx x (by simp [Op.operands]), hx i (by simp [Op.operands])]
  case load t x => simp only [bufX]; rw [hx x (by simp [Op.operands])]
  case store t x y => simp only [bufX]; rw [hx x (by simp [Op.operands]), hx y (by simp [Op.operands])]
  case nilCheck x => simp only [bufX]; rw [hx x (by simp [Op.operands])]
  case binOp op t x y yt => simp only [bufX]; rw [hx x (by simp [Op.operands]), hx y (by simp [Op.operands])]
  case slice t x lo hi mx =>
    simp only [bufX]
    rw [hx x (by simp [Op.operands]), hevo lo fun y hy => hx y (by simp [Op.operands, hy]), hevo hi fun y hy => hx y (by simp [Op.operands, hy])]
  case call c =>
    have hm : ∀ x, x ∈ c.args.toList → ev T x = ev T' x := fun x hxm => hx x (by simp only [Op.operands, Call.operands, Array.toList_append, List.mem_append]; exact .inr hxm)
    simp only [bufX]
    split
    · rename_i x t h1 h2 h3
      rw [hm x (by rw [h2]; simp)]
    · rename_i x y t t2 h1 h2 h3
      rw [hm x (by rw [h2]; simp), hm y (by rw [h2]; simp)]
    · rename_i _ x y h1 h2
      rw [hm x (by rw [h2]; simp), hm y (by rw [h2]; simp)]
    · rfl
  all_goals rfl

theorem stepE_congr {X : Tabs} {T T' : List (Nat × SV)} {H : List HE} {op : Op} (h : ∀ t ∈ usesT op.operands.toList, look T t = look T' t) : stepE X T H op = stepE X T' H op := by
  unfold stepE
  rw [stepV_congr h, eqX_congr h, bufX_congr h]

/-- Which handle a load reads. -/
def ldOf (T : List (Nat × SV)) : Op → Option Nat
  | .load _ x => match ev T x with
    | some (.ptr h _) => some h
    | some (.rptr h _ _ _ _) => some h
    | some (.bptr h _ _ _) => some h
    | _ => none
  | .slice _ x _ _ _ => match ev T x with
    | some (.sbuf h _ _ _) => some h
    | _ => none
  | _ => none

theorem vLoadB_heap {i : TI} {H H' : List HE} {h x s c : Nat} (e : getH H h = getH H' h) : vLoadB i H h x s c = vLoadB i H' h x s c := by
  unfold vLoadB; rw [e]
theorem vSliceB_heap {i : TI} {H H' : List HE} {h s l : Nat} {lo hi : Option SV} (e : getH H h = getH H' h) : vSliceB i H h s l lo hi = vSliceB i H' h s l lo hi := by
  unfold vSliceB; rw [e]
theorem vStoreB_noval {i : TI} {H : List HE} {h x s c : Nat} {v u : SV} {ob : Option Bool} : vStoreB i H h x s c v ≠ some (.val ob u) := by
  intro e
  unfold vStoreB at e
  split at e
  · split at e
    · split at e <;> simp at e
    · simp at e
  · simp at e
theorem vApp_noval {TE : Nat → TI} {H : List HE} {t t2 : Nat} {x y u : SV} {ob : Option Bool} : vApp TE H t t2 x y ≠ some (.val ob u) := by
  intro e
  unfold vApp at e
  split at e
  · split at e
    · split at e
      · split at e <;> simp at e
      · simp at e
    · simp at e
  · simp at e

theorem appX_heap {TE : Nat → TI} {H H' : List HE} {t t2 : Nat} {x y u : SV} {ob : Option Bool} (h : appX TE H t t2 x y = some (.val ob u)) : appX TE H' t t2 x y = some (.val ob u) := by
  unfold appX at h ⊢
  cases x
  case nilslice =>
    cases y
    case nilslice => exact h
    all_goals exact absurd h vApp_noval
  all_goals exact absurd h vApp_noval

theorem bufX_heap {TE : Nat → TI} {T : List (Nat × SV)} {H H' : List HE} {op : Op} {ob : Option Bool} {v : SV} (h : bufX TE T H op = some (.val ob v)) (hn : stepV TE T H op = none) (hl : ∀ x, ldOf T op = some x → getH H x = getH H' x) :
    bufX TE T H' op = some (.val ob v) ∧ stepV TE T H' op = none := by
  cases op
  case load t x =>
    simp only [bufX] at h ⊢
    simp only [ldOf] at hl
    split at h
    · rename_i hh x' s c hx
      rw [hx] at hl
      simp only at hl
      exact ⟨by rw [← vLoadB_heap (hl _ rfl)]; exact h, by simp only [stepV, hx]⟩
    · simp at h
  case store t x y =>
    simp only [bufX] at h
    split at h
    · exact absurd h vStoreB_noval
    · simp at h
  case slice t x lo hi mx =>
    refine ⟨?_, by cases mx <;> exact hn⟩
    simp only [bufX] at h ⊢
    simp only [ldOf] at hl
    split at h
    · rename_i hh s o l lo' hi' e' hx h1 h2 hd
      rw [hx] at hl
      simp only at hl
      split at h
      · rw [← vSliceB_heap (hl _ rfl)]; exact h
      · simp at h
    · simp at h
  case call c =>
    refine ⟨?_, hn⟩
    simp only [bufX] at h ⊢
    split at h
    · exact h
    · split at h
      · exact appX_heap h
      · simp at h
    · exact h
    · simp at h
  all_goals exact ⟨h, hn⟩

theorem vLoad_heap {i : TI} {H H' : List HE} {h o : Nat} (e : getH H h = getH H' h) : vLoad i H h o = vLoad i H' h o := by
  unfold vLoad; rw [e]
theorem vLoadR_heap {i : TI} {H H' : List HE} {h o x s c : Nat} (e : getH H h = getH H' h) : vLoadR i H h o x s c = vLoadR i H' h o x s c := by
  unfold vLoadR; rw [e, vLoad_heap e]
theorem vStore_noval {i : TI} {H : List HE} {h o : Nat} {v u : SV} {ob : Option Bool} : vStore i H h o v ≠ some (.val ob u) := by
  intro e
  unfold vStore at e
  split at e
  · unfold vStoreL at e
    split at e
    · split at e
      · split at e <;> simp at e
      · simp at e
    · split at e
      · split at e <;> simp at e
      · simp at e
    · simp at e
  · unfold vStoreI at e
    split at e
    · split at e
      · split at e <;> simp at e
      · simp at e
    · split at e <;> simp at e
    · simp at e
  · simp at e

theorem stepV_heap {TE : Nat → TI} {T : List (Nat × SV)} {H H' : List HE} {op : Op} {ob : Option Bool} {v : SV} (h : stepV TE T H op = some (.val ob v)) (hl : ∀ x, ldOf T op = some x → getH H x = getH H' x) :
    stepV TE T H' op = some (.val ob v) := by
  cases op
  case load t x =>
    simp only [stepV] at h ⊢
    simp only [ldOf] at hl
    split at h
    · rename_i hh o hx
      rw [hx] at hl
      simp only at hl ⊢
      rw [← vLoad_heap (hl _ rfl)]; exact h
    · rename_i hx
      rw [hx] at hl
      simp only at hl ⊢
      rw [← vLoadR_heap (hl _ rfl)]; exact h
    · simp at h
  case store t x y =>
    simp only [stepV] at h
    split at h
    · exact absurd h vStore_noval
    · exact absurd h vStore_noval
    · simp at h
  case slice t x lo hi mx => cases mx <;> exact h
  all_goals exact h

theorem stepE_heap {X : Tabs} {T : List (Nat × SV)} {H H' : List HE} {op : Op} {ob : Option Bool} {v : SV} (h : stepE X T H op = some (.val ob v)) (hl : ∀ x, ldOf T op = some x → getH H x = getH H' x) :
    stepE X T H' op = some (.val ob v) := by
  unfold stepE at h ⊢
  split at h
  · rename_i e he
    simp at h; subst h
    rw [stepV_heap he hl]
  · rename_i he
    split at h
    · rename_i u hu
      simp at h; obtain ⟨rfl, rfl⟩ := h
      -- 'eqX' tells of binary operations alone: there the heap is not looked at
      have : stepV X.TE T H' op = none := by
        cases op
        case binOp op t x y yt => exact he
        all_goals (simp [eqX] at hu)
      rw [this]
    · rename_i hu
      obtain ⟨h1, h2⟩ := bufX_heap h he hl
      rw [h2]
      simp only
      rw [h1]

def xtX (XT : Nat → Option XK) (T : List (Nat × SV)) (H : List HE) : Op → Option (SV × Nat × SO)
  | .call c => match calleeF T c with
    | some (f, as) => match XT f, as with
      | some .addI, [.ptr h i, .int .i64 y] => match getH H h with
        | some (.cells l ty) => match nthF l i with
          | some (.int .i64 x) => match setF l i (.int .i64 (IntKind.i64.wrap (x + y))) with
            | some l' => some (.int .i64 (IntKind.i64.wrap (x + y)), h, .cells l' ty)
            | none => none
          | _ => none
        | _ => none
      | some .loadI, [.ptr h i] => match getH H h with
        | some (.cells l ty) => match nthF l i with
          | some (.int .i64 x) => some (.int .i64 x, h, .cells l ty)
          | _ => none
        | _ => none
      | _, _ => none
    | none => none
  | _ => none

end Go.Hx

/-
  The machine with frames: a step, and why it is sound.
-/
namespace Go.Hx
open Go

def guardU (all : List Oper) (T : List (Nat × SV)) : Option (Nat × Bool) → Option (Nat × Bool)
  | none => none
  | some (j, _) => match all[j]? with
    | some o => match o.dst with
      | some d => match look T d with | some (.bool b) => some (d, b) | _ => none
      | none => none
    | none => none

def popX (TE : Nat → TI) (cs : List Ch) (fs : List Fm) (fn : Func) (T : List (Nat × SV)) (H : List HE) : Option (List Prop × St) :=
  match fs with
  | [] => none
  | ⟨fn1, nt1, H01, all1, r1, k1, T1, d1⟩ :: fs => match resF TE fn.results.toList T H with
    | some (ob, vs) => match vs with
      | [v] => match putD nt1 d1 T1 v with
        | some T' => some (ob, ⟨cs, fs, fn1, nt1, H01, .ops all1 r1 :: k1, T', H⟩)
        | none => none
      | l => match putD nt1 d1 T1 (.tup l) with
        | some T' => some (ob, ⟨cs, fs, fn1, nt1, H01, .ops all1 r1 :: k1, T', H⟩)
        | none => none
    | none => none

/-- What a region that draws comes to: choices left, what must be true, temporaries, the heap. -/
abbrev DrawF := List Ch → List Oper → Nat → List (Nat × SV) → List HE → Option (List Ch × List Prop × List (Nat × SV) × List HE)

def callX (X : Tabs) (s : St) (all : List Oper) (o : Oper) (r : List Oper) (k : List KI) : Option (List Prop × St) :=
  match s with
  | ⟨cs0, fs0, fn0, nt0, H00, _, T0, Hh⟩ =>
    match o.op with
    | .call c => match calleeF T0 c with
      | some (f, as0) => match X.FT f, forceL as0 with
        | some fn', some as => match (match X.CT f with | some sp => sp as Hh | none => none) with
          | some (ob, V, L) => match putD nt0 o.dst T0 V, forceHs L with
            | some T', some L' => some (ob, ⟨cs0, fs0, fn0, nt0, H00, .ops all r :: k, T', L'⟩)
            | _, _ => none
          | none => match fn'.body, Nat.ble as.length fn'.ntmps, argTF nums as with
            | some c, true, some T => some ([], ⟨cs0, ⟨fn0, nt0, H00, all, r, k, T0, o.dst⟩ :: fs0, fn', fn'.ntmps, Hh, [.code c], T, Hh⟩)
            | _, _, _ => none
        | _, _ => none
      | none => none
    | _ => none

def opX (X : Tabs) (s : St) (all : List Oper) (o : Oper) (r : List Oper) (k : List KI) : Option (List Prop × St) :=
  match s with
  | ⟨cs0, fs0, fn0, nt0, H00, _, T0, Hh⟩ =>
    match guardF all T0 o.guard with
    | 1 => match putD nt0 o.dst T0 (.tup []) with
      | some T' => some ([], ⟨cs0, fs0, fn0, nt0, H00, .ops all r :: k, T', Hh⟩)
      | none => none
    | 0 => match stepE X T0 Hh o.op with
      | some e => match afterF nt0 o.dst T0 Hh e with
        | some (ob, T', H') => some (addOP ob [], ⟨cs0, fs0, fn0, nt0, H00, .ops all r :: k, T', H'⟩)
        | none => none
      | none => match xtX X.XT T0 Hh o.op with
        | some (v, h, ob) => match o.dst, setO Hh h (.obj ob) with
          | some d, some H' => match Nat.blt d nt0 with
            | true => some ([], ⟨cs0, fs0, fn0, nt0, H00, .ops all r :: k, (d, v) :: T0, H'⟩)
            | false => none
          | _, _ => none
        | none => callX X ⟨cs0, fs0, fn0, nt0, H00, [], T0, Hh⟩ all o r k
    | _ => match guardU all T0 o.guard, cs0 with
      | some (d, b), c :: cs => match pickV c b with
        | some (ob, v) => some (addOP ob [], ⟨cs, fs0, fn0, nt0, H00, .ops all (o :: r) :: k, (d, v) :: T0, Hh⟩)
        | none => none
      | _, _ => none

def codeX (X : Tabs) (dr : DrawF) (s : St) (c : Code) (k : List KI) : Option (List Prop × St) :=
  match s with
  | ⟨cs0, fs0, fn0, nt0, H00, _, T0, Hh⟩ =>
    match c with
    | .skip => some ([], ⟨cs0, fs0, fn0, nt0, H00, k, T0, Hh⟩)
    | .seq a b => some ([], ⟨cs0, fs0, fn0, nt0, H00, .code a :: .code b :: k, T0, Hh⟩)
    | .block id b => some ([], ⟨cs0, fs0, fn0, nt0, H00, .code b :: .blk id :: k, T0, Hh⟩)
    | .region _ ops d => match d with
      | false => some ([], ⟨cs0, fs0, fn0, nt0, H00, .ops ops.toList ops.toList :: k, T0, Hh⟩)
      | true => match dr cs0 ops.toList nt0 T0 Hh with
        | some (cs, ob, T', H') => some (ob, ⟨cs, fs0, fn0, nt0, H00, k, T', H'⟩)
        | none => none
    | .cond x a b => match ev T0 x with
      | some .tt => some ([], ⟨cs0, fs0, fn0, nt0, H00, .code a :: k, T0, Hh⟩)
      | some .ff => some ([], ⟨cs0, fs0, fn0, nt0, H00, .code b :: k, T0, Hh⟩)
      | some (.bool bb) => match x, cs0 with
        | .tmp t, c :: cs => match pickV c bb with
          | some (ob, v) => some (addOP ob [], ⟨cs, fs0, fn0, nt0, H00, .code (.cond (.tmp t) a b) :: k, (t, v) :: T0, Hh⟩)
          | none => none
        | _, _ => none
      | _ => none
    | .exit id => match unwind id k with
      | some k' => some ([], ⟨cs0, fs0, fn0, nt0, H00, k', T0, Hh⟩)
      | none => none
    | .loop c => match X.un with
      | 0 => none
      | n + 1 => some ([], ⟨cs0, fs0, fn0, nt0, H00, .code c :: .again c n :: k, T0, Hh⟩)
    | .ret => popX X.TE cs0 fs0 fn0 T0 Hh
    | _ => none

def step1 (X : Tabs) (dr : DrawF) (s : St) : Option (List Prop × St) :=
  match s with
  | ⟨cs0, fs0, fn0, nt0, H00, k0, T0, Hh⟩ =>
    match k0 with
    | [] => match fn0.results.toList with
      | [] => popX X.TE cs0 fs0 fn0 T0 Hh
      | _ => none
    | .lp _ :: _ => none
    | .blk _ :: k => some ([], ⟨cs0, fs0, fn0, nt0, H00, k, T0, Hh⟩)
    | .again c n :: k => match n with
      | 0 => none
      | n + 1 => some ([], ⟨cs0, fs0, fn0, nt0, H00, .code c :: .again c n :: k, T0, Hh⟩)
    | .ops all l :: k => match l with
      | [] => some ([], ⟨cs0, fs0, fn0, nt0, H00, k, T0, Hh⟩)
      | o :: r => opX X ⟨cs0, fs0, fn0, nt0, H00, [], T0, Hh⟩ all o r k
    | .code c :: k => codeX X dr ⟨cs0, fs0, fn0, nt0, H00, [], T0, Hh⟩ c k


section
variable {P : Program} {X : Tabs} (hX : TOk P X)

def SFn (W : (Nat → Nat × Nat) → World → Prop) (R : SV → List HE → Prop) (fn : Func) (nt : Nat) (H0 : List HE) (k : List KI) (T : List (Nat × SV)) (H : List HE) : Prop :=
  ∀ ρ0 w0, W ρ0 w0 → SW (FEnv P X.TE hX.te fn nt H0 R ρ0 w0) k T H

/-- Where a function began: the lowest one at what Wb says, the others anywhere. -/
def Wof (Wb : (Nat → Nat × Nat) → World → Prop) : List Fm → (Nat → Nat × Nat) → World → Prop
  | [] => Wb
  | _ :: _ => fun _ _ => True

def Rof (Wb : (Nat → Nat × Nat) → World → Prop) (R0 : SV → List HE → Prop) : List Fm → SV → List HE → Prop
  | [] => R0
  | f :: fs => fun V L => ∃ T', putD f.nt f.d f.T V = some T' ∧ SFn hX (Wof Wb fs) (Rof Wb R0 fs) f.fn f.nt f.H0 (.ops f.all f.r :: f.k) T' L

def SS (Wb : (Nat → Nat × Nat) → World → Prop) (R0 : SV → List HE → Prop) (s : St) : Prop := SFn hX (Wof Wb s.fs) (Rof hX Wb R0 s.fs) s.fn s.nt s.H0 s.k s.T s.H

/-- What a region that draws comes to is so. -/
def DrawOk (dr : DrawF) : Prop := ∀ (fn : Func) (nt : Nat) (H0 : List HE) (R : SV → List HE → Prop) (ρ0 : Nat → Nat × Nat) (w0 : World) (cs cs' : List Ch) (al : List Oper) (id : Nat) (T T' : List (Nat × SV)) (H H' : List HE) (ob : List Prop) (k : List KI),
  dr cs al nt T H = some (cs', ob, T', H') → AllP ob → SW (FEnv P X.TE hX.te fn nt H0 R ρ0 w0) k T' H' → SW (FEnv P X.TE hX.te fn nt H0 R ρ0 w0) (.code (.region id al.toArray true) :: k) T H

def DrawAny (dr : DrawF) : Prop := ∀ (fn : Func) (nt : Nat) (H0 : List HE) (R : SV → List HE → Prop) (ρ0 : Nat → Nat × Nat) (w0 : World) (cs cs' : List Ch) (al : List Oper) (T T' : List (Nat × SV)) (H H' : List HE) (ob : List Prop) (k : List KI),
  dr cs al nt T H = some (cs', ob, T', H') → AllP ob → SW (FEnv P X.TE hX.te fn nt H0 R ρ0 w0) k T' H' →
    ∀ ρ a w, Sat (FEnv P X.TE hX.te fn nt H0 R ρ0 w0) ρ T H a w → wpAny P .any al.toArray (WK P (FEnv P X.TE hX.te fn nt H0 R ρ0 w0).Q k) al.toArray.size (Array.replicate al.toArray.size false) a { w with drawn := w.drawn + 1 }

variable {R0 : SV → List HE → Prop} {Wb : (Nat → Nat × Nat) → World → Prop}

theorem popX_ok {cs : List Ch} {fs : List Fm} {fn : Func} {T : List (Nat × SV)} {H : List HE} {ob : List Prop} {s' : St} (h : popX X.TE cs fs fn T H = some (ob, s')) (ho : AllP ob) (hs : SS hX Wb R0 s') :
    ∀ nt H0 ρ0 w0 ρ a w, Sat (FEnv P X.TE hX.te fn nt H0 (Rof hX Wb R0 fs) ρ0 w0) ρ T H a w → bodyPost P fn (FnPost w0 ρ0 H0 (Rof hX Wb R0 fs)) .ret a w := by
  intro nt H0 ρ0 w0 ρ a w hsat
  unfold popX at h
  split at h
  · simp at h
  · rename_i fn1 nt1 H01 all1 r1 k1 T1 d1 fs
    split at h
    · rename_i ob' vs hr
      have fin : ∀ v, v = tupF vs → ∀ T', putD nt1 d1 T1 v = some T' → some (ob', (⟨cs, fs, fn1, nt1, H01, .ops all1 r1 :: k1, T', H⟩ : St)) = some (ob, s') → bodyPost P fn (FnPost w0 ρ0 H0 (Rof hX Wb R0 (⟨fn1, nt1, H01, all1, r1, k1, T1, d1⟩ :: fs))) .ret a w := by
        intro v hv T' hT h
        subst hv
        simp at h; obtain ⟨rfl, rfl⟩ := h
        obtain ⟨h1, h2⟩ := results_ok hsat hr ho
        exact ⟨hsat.ts.def0, _, h1, ρ, H, tupF vs, ⟨T', hT, hs⟩, rfl, h2, hsat.hs, hsat.base⟩
      split at h
      · split at h
        · rename_i T' hT
          exact fin _ rfl T' hT h
        · simp at h
      · rename_i hne
        split at h
        · rename_i T' hT
          refine fin _ ?_ T' hT h
          cases vs with
          | nil => rfl
          | cons v r =>
            cases r with
            | nil => exact absurd rfl (hne v)
            | cons u r => rfl
        · simp at h
    · simp at h

theorem sw_inR {E : Env} {all r : List Oper} {k : List KI} {o : Oper} {T : List (Nat × SV)} {H : List HE} {c : Call} {f : Nat} {as : List SV} {fn : Func} {R' : SV → List HE → Prop}
    (hop : o.op = .call c) (hc : calleeF T c = some (f, as)) (hf : E.P.funcs[f]? = some fn) (hbody : fn.body.isSome = true) (hname : (fn.name == "runtime.NumGoroutine") = false)
    (hg : guardF all T o.guard = 0)
    (hF : Gives E.P f as H R') (hk : ∀ V L, R' V L → ∃ T', putD E.nt o.dst T V = some T' ∧ SW E (.ops all r :: k) T' L) : SW E (.ops all (o :: r) :: k) T H := by
  intro ρ a w hs
  refine wpList_of_wp (guard_wanted hs hg) ?_
  obtain ⟨hr1, hr2⟩ := callee_run hop hc hf hbody hname ρ a w hs
  unfold Oper.wp
  rw [hr1]
  refine Oper.upon_enter' (hF ρ w (own_sat hs) hr2) ?_ (fun c w' h => h) (fun w' h => h)
  rintro V' w' ⟨ρ', H', v, hR, rfl, hvok, hS, hb⟩
  obtain ⟨T', hd, hk'⟩ := hk v H' hR
  have hS' := whole_sat hs hS
  have hts := hs.ts.ext (ρ' := ρ') (A' := there H') (fun x hx => (hb x hx).1.symm) (fun x hx => (hb x hx).2)
  have hbase : Base E ρ' H' := fun x hx => let ⟨q1, q2⟩ := hs.base x hx; ⟨by rw [(hb x q2).1]; exact q1, (hb x q2).2⟩
  unfold putD at hd
  cases hdd : o.dst with
  | none =>
    rw [hdd] at hd; simp at hd; subst hd
    exact hk' ρ' _ w' ⟨hS', hts, hbase⟩
  | some d =>
    rw [hdd] at hd; simp only at hd
    split at hd
    · rename_i hlt
      simp at hd; subst hd
      exact hk' ρ' _ w' ⟨hS', hts.put (blt_lt hlt) hvok, hbase⟩
    · simp at hd

theorem sw_val {E : Env} {all r : List Oper} {k : List KI} {o : Oper} {T T' : List (Nat × SV)} {H : List HE} {v : SV} (hg : guardF all T o.guard = 0)
    (he : ∀ ρ a w, Sat E ρ T H a w → EffOk ρ H w ((execOp a.eval o).run E.P w) (.val none v)) (hd : putD E.nt o.dst T v = some T') (hs : SW E (.ops all r :: k) T' H) : SW E (.ops all (o :: r) :: k) T H := by
  intro ρ a w hsat
  refine wpList_of_wp (guard_wanted hsat hg) ?_
  obtain ⟨h1, h2⟩ := he ρ a w hsat rfl
  unfold Oper.wp
  rw [h2, Oper.upon_value]
  unfold putD at hd
  cases hdd : o.dst with
  | none =>
    rw [hdd] at hd; simp at hd; subst hd
    exact hs ρ _ w ⟨hsat.hs, hsat.ts, hsat.base⟩
  | some d =>
    rw [hdd] at hd; simp only at hd
    split at hd
    · rename_i hlt
      simp at hd; subst hd
      exact hs ρ _ w ⟨hsat.hs, hsat.ts.put (blt_lt hlt) h1, hsat.base⟩
    · simp at hd

theorem sw_load {E : Env} {all r : List Oper} {k : List KI} {o : Oper} {T : List (Nat × SV)} {H H' : List HE} {c : Call} {f : Nat} {h i ty : Nat} {l : List SV} {x : Int} {fn : Func} {d : Nat}
    (hop : o.op = .call c) (hc : calleeF T c = some (f, [.ptr h i])) (hf : E.P.funcs[f]? = some fn) (hname : (fn.name == "runtime.NumGoroutine") = false)
    (hb : fn.body.isNone = true) (hn : Extern.findNext fn = none) (he : Extern.find fn = some (Extern.Atomic.loadT (.int .i64)))
    (hg : guardF all T o.guard = 0) (hd : o.dst = some d) (hlt : Nat.blt d E.nt = true) (hH : getH H h = some (.cells l ty)) (hx : nthF l i = some (.int .i64 x))
    (hH' : setO H h (.obj (.cells l ty)) = some H')
    (hk : SW E (.ops all r :: k) ((d, .int .i64 x) :: T) H') : SW E (.ops all (o :: r) :: k) T H := by
  have hHH : H' = H := by
    rw [setO_eq hH']
    have := getH_some.1 hH
    apply List.ext_getElem?
    intro j
    rw [List.getElem?_set]
    split
    · rename_i e; subst e
      split
      · exact this.symm
      · rename_i hlt; rw [List.getElem?_eq_none (by omega)] at this; simp at this
    · rfl
  subst hHH
  refine sw_val (v := .int .i64 x) hg ?_ (by simp [putD, hd, hlt]) hk
  intro ρ a w hs _
  refine ⟨rfl, ?_⟩
  unfold calleeF at hc
  split at hc
  · rename_i xo hcal
    split at hc
    · rename_i f' first cap as' hxo has
      simp at hc
      obtain ⟨rfl, hargs⟩ := hc
      obtain ⟨h1, h2⟩ := ev_tr hs.ts hxo
      obtain ⟨h3, h4⟩ := evs_tr hs.ts has
      have hmap : c.args.map a.eval = (SV.trs ρ as').toArray := by rw [toArr_map, h3]
      have hcell := cells_at hs.hs hH (i := i) (by rw [← nthF_eq]; exact hx)
      have hall : (SV.trs ρ first).toArray ++ (SV.trs ρ as').toArray ++ (SV.trs ρ cap).toArray = #[.pointer (some ⟨(ρ h).1, (ρ h).2 + i, none⟩)] := by
        have := congrArg (SV.trs ρ) hargs
        simp only [trs_append] at this
        rw [← Array.toList_inj]
        simp only [Array.toList_append, List.append_assoc]
        rw [this]; simp [SV.trs, SV.tr]
      have hrun := run_call_load (P := E.P) hf hname hb hn .i64 he (w := w) (x := x) (a := ⟨(ρ h).1, (ρ h).2 + i, none⟩) hcell
      simp only [execOp, hop, Sem.run_bind]
      simp only [resolve, hcal, h1, SV.tr, Deferred.ofValue, hmap, Sem.run_pure, Result.andThen_ok, invoke]
      rw [hall]
      exact hrun
    · simp at hc
  · simp at hc

theorem sw_xt {E : Env} {all r : List Oper} {k : List KI} {o : Oper} {T : List (Nat × SV)} {H H' : List HE} {XT : Nat → Option XK} (hXT : ∀ f x, XT f = some x → x.ok E.P f)
    {v : SV} {h d : Nat} {ob : SO} (hx : xtX XT T H o.op = some (v, h, ob)) (hg : guardF all T o.guard = 0) (hd : o.dst = some d) (hlt : Nat.blt d E.nt = true) (hH' : setO H h (.obj ob) = some H')
    (hk : SW E (.ops all r :: k) ((d, v) :: T) H') : SW E (.ops all (o :: r) :: k) T H := by
  unfold xtX at hx
  split at hx
  · rename_i c hop
    split at hx
    · rename_i f as hc
      split at hx
      · rename_i h' i y hf
        split at hx
        · rename_i l ty hg'
          split at hx
          · rename_i x hn
            split at hx
            · rename_i l' hl
              simp at hx; obtain ⟨rfl, rfl, rfl⟩ := hx
              obtain ⟨fn, q1, q2, q3, q4, q5⟩ := hXT _ _ hf
              exact sw_add hop hc q1 q2 q3 q4 q5 hg hd hlt hg' hn hl hH' hk
            · simp at hx
          · simp at hx
        · simp at hx
      · rename_i h' i hf
        split at hx
        · rename_i l ty hg'
          split at hx
          · rename_i x hn
            simp at hx; obtain ⟨rfl, rfl, rfl⟩ := hx
            obtain ⟨fn, q1, q2, q3, q4, q5⟩ := hXT _ _ hf
            exact sw_load hop hc q1 q2 q3 q4 q5 hg hd hlt hg' hn hH' hk
          · simp at hx
        · simp at hx
      · simp at hx
    · simp at hx
  · simp at hx

theorem guardU_look {all : List Oper} {T : List (Nat × SV)} {g : Option (Nat × Bool)} {d : Nat} {b : Bool} (h : guardU all T g = some (d, b)) : look T d = some (.bool b) := by
  unfold guardU at h
  split at h
  · simp at h
  · split at h
    · split at h
      · split at h
        · rename_i hl
          simp at h; obtain ⟨rfl, rfl⟩ := h; exact hl
        · simp at h
      · simp at h
    · simp at h

theorem sw_pick {E : Env} {k : List KI} {T : List (Nat × SV)} {H : List HE} {t : Nat} {b : Bool} {c : Ch} {ob : Option Bool} {v : SV} (hl : look T t = some (.bool b)) (hp : pickV c b = some (ob, v)) (ho : ob.getD true = true)
    (hs : SW E k ((t, v) :: T) H) : SW E k T H := by
  obtain ⟨_, _, h3⟩ := pickV_ok (ρ := fun _ => (0, 0)) hp ho
  rcases h3 with ⟨rfl, rfl⟩ | ⟨rfl, rfl⟩
  · exact sw_bool t hl (fun _ => hs) (fun h => by simp at h)
  · exact sw_bool t hl (fun h => by simp at h) (fun _ => hs)

theorem callX_ok {s : St} {all r : List Oper} {o : Oper} {k : List KI} {ob : List Prop} {s' : St} (h : callX X s all o r k = some (ob, s')) (hg : guardF all s.T o.guard = 0) (ho : AllP ob) (hs : SS hX Wb R0 s') :
    SFn hX (Wof Wb s.fs) (Rof hX Wb R0 s.fs) s.fn s.nt s.H0 (.ops all (o :: r) :: k) s.T s.H := by
  obtain ⟨cs0, fs0, fn0, nt0, H00, k0, T0, Hh⟩ := s
  unfold callX at h
  simp only at h
  split at h
  · rename_i c hop
    split at h
    · rename_i f as0 hc
      split at h
      · rename_i fn' as hf has
        have has' := forceL_eq has
        subst has'
        obtain ⟨q1, q2, q3⟩ := hX.ft f fn' hf
        split at h
        · rename_i ob' V L hsp
          split at h
          · rename_i T' L' hT hL
            rw [← forceHs_eq hL] at hsp
            simp at h; obtain ⟨rfl, rfl⟩ := h
            split at hsp
            · rename_i sp hct
              have hG := hX.ct f sp as Hh _ _ _ hct hsp ho
              intro ρ0 w0 hw
              refine sw_inR hop hc q1 q3 q2 hg hG ?_
              rintro v l ⟨rfl, rfl⟩
              exact ⟨T', hT, hs ρ0 w0 hw⟩
            · simp at hsp
          · simp at h
        · split at h
          · rename_i cb Ta hb hle hTa
            have hTa' := argTF_nums hTa
            subst hTa'
            simp at h; obtain ⟨rfl, rfl⟩ := h
            intro ρ0 w0 hw
            refine sw_inR (R' := Rof hX Wb R0 (⟨fn0, nt0, H00, all, r, k, T0, o.dst⟩ :: fs0)) hop hc q1 q3 q2 hg ?_ ?_
            · exact fn_intro hX.te q1 hb _ rfl hle fun ρ w => hs ρ w trivial
            · rintro V L ⟨T', hT, hk⟩
              exact ⟨T', hT, hk ρ0 w0 hw⟩
          · simp at h
      · simp at h
    · simp at h
  · simp at h

theorem opX_ok {s : St} {all r : List Oper} {o : Oper} {k : List KI} {ob : List Prop} {s' : St} (h : opX X s all o r k = some (ob, s')) (ho : AllP ob) (hs : SS hX Wb R0 s') :
    SFn hX (Wof Wb s.fs) (Rof hX Wb R0 s.fs) s.fn s.nt s.H0 (.ops all (o :: r) :: k) s.T s.H := by
  obtain ⟨cs0, fs0, fn0, nt0, H00, k0, T0, Hh⟩ := s
  unfold opX at h
  simp only at h
  split at h
  · rename_i hg
    split at h
    · rename_i T' hT
      simp at h; obtain ⟨rfl, rfl⟩ := h
      intro ρ0 w0 hw ρ a w hsat
      simp only [WK, wpList]
      rw [if_neg (by rw [guard_skip hsat hg]; simp)]
      unfold putD at hT
      cases hd : o.dst with
      | none =>
        rw [hd] at hT; simp at hT; subst hT
        exact hs ρ0 w0 hw ρ a w hsat
      | some d =>
        rw [hd] at hT; simp only at hT
        split at hT
        · rename_i hlt
          simp at hT; subst hT
          exact hs ρ0 w0 hw ρ _ w ⟨hsat.hs, hsat.ts.put (v := .tup []) (blt_lt hlt) (by simp [SV.okh, SV.okhs]), hsat.base⟩
        · simp at hT
    · simp at h
  · rename_i hg
    split at h
    · rename_i e he
      split at h
      · rename_i ob' T' H' ha
        simp at h; obtain ⟨rfl, rfl⟩ := h
        intro ρ0 w0 hw
        exact sw_op (fun a ⟨ρ, w, h⟩ => guard_wanted h hg) (fun ρ a w h => stepE_ok rfl hX.et h he) (afterF_eq ha) (addOP_all ho).2 (hs ρ0 w0 hw)
      · simp at h
    · split at h
      · rename_i v h' ob' hx
        split at h
        · rename_i d H' hd hH'
          split at h
          · rename_i hlt
            simp at h; obtain ⟨rfl, rfl⟩ := h
            intro ρ0 w0 hw
            exact sw_xt hX.xt hx hg hd hlt hH' (hs ρ0 w0 hw)
          · simp at h
        · simp at h
      · exact callX_ok hX h hg ho hs
  · split at h
    · rename_i d b c cs hgu
      split at h
      · rename_i ob' v hp
        simp at h; obtain ⟨rfl, rfl⟩ := h
        intro ρ0 w0 hw
        exact sw_pick (guardU_look hgu) hp (addOP_all ho).2 (hs ρ0 w0 hw)
      · simp at h
    · simp at h

theorem codeX_ok {dr : DrawF} (hdr : DrawOk hX dr) {s : St} {c : Code} {k : List KI} {ob : List Prop} {s' : St} (h : codeX X dr s c k = some (ob, s')) (ho : AllP ob) (hs : SS hX Wb R0 s') :
    SFn hX (Wof Wb s.fs) (Rof hX Wb R0 s.fs) s.fn s.nt s.H0 (.code c :: k) s.T s.H := by
  obtain ⟨cs0, fs0, fn0, nt0, H00, k0, T0, Hh⟩ := s
  unfold codeX at h
  simp only at h
  split at h
  · simp at h; obtain ⟨rfl, rfl⟩ := h
    exact fun ρ0 w0 hw ρ a w hsat => wp_skip (hs ρ0 w0 hw ρ a w hsat)
  · simp at h; obtain ⟨rfl, rfl⟩ := h
    exact fun ρ0 w0 hw ρ a w hsat => WK_seq (hs ρ0 w0 hw ρ a w hsat)
  · simp at h; obtain ⟨rfl, rfl⟩ := h
    exact fun ρ0 w0 hw ρ a w hsat => WK_block (hs ρ0 w0 hw ρ a w hsat)
  · split at h
    · simp at h; obtain ⟨rfl, rfl⟩ := h
      exact fun ρ0 w0 hw ρ a w hsat => WK_region (hs ρ0 w0 hw ρ a w hsat)
    · split at h
      · rename_i id ops _ _ cs ob' T' H' hd
        simp at h; obtain ⟨rfl, rfl⟩ := h
        intro ρ0 w0 hw
        have := hdr fn0 nt0 H00 (Rof hX Wb R0 fs0) ρ0 w0 cs0 cs ops.toList id T0 T' Hh H' ob' k hd ho (hs ρ0 w0 hw)
        simpa using this
      · simp at h
  · split at h
    · rename_i hx
      simp at h; obtain ⟨rfl, rfl⟩ := h
      exact fun ρ0 w0 hw ρ a w hsat => wp_cond_true (ev_tr hsat.ts hx).1 (hs ρ0 w0 hw ρ a w hsat)
    · rename_i hx
      simp at h; obtain ⟨rfl, rfl⟩ := h
      exact fun ρ0 w0 hw ρ a w hsat => wp_cond_false (ev_tr hsat.ts hx).1 (hs ρ0 w0 hw ρ a w hsat)
    · rename_i bb hx
      split at h
      · rename_i t c cs hxt hcs
        split at h
        · rename_i ob' v hp
          simp at h; obtain ⟨rfl, rfl⟩ := h
          intro ρ0 w0 hw
          exact sw_pick hx hp (addOP_all ho).2 (hs ρ0 w0 hw)
        · simp at h
      · simp at h
    · simp at h
  · split at h
    · rename_i k' hk
      simp at h; obtain ⟨rfl, rfl⟩ := h
      exact fun ρ0 w0 hw ρ a w hsat => wp_exit (WK_unwind hk (hs ρ0 w0 hw ρ a w hsat))
    · simp at h
  · split at h
    · simp at h
    · rename_i c n _
      simp at h; obtain ⟨rfl, rfl⟩ := h
      intro ρ0 w0 hw ρ a w hsat
      refine unr_loop (n := n + 1) ?_
      have := hs ρ0 w0 hw ρ a w hsat
      simp only [WK] at this
      simp only [unr]
      exact wp_mono this fun e a w hq => by cases e <;> exact hq
  · exact fun ρ0 w0 hw ρ a w hsat => wp_ret (WK_ret (popX_ok hX h ho hs _ _ ρ0 w0 ρ a w hsat) k)
  · simp at h

theorem step1_ok {dr : DrawF} (hdr : DrawOk hX dr) {s : St} {ob : List Prop} {s' : St} (h : step1 X dr s = some (ob, s')) (ho : AllP ob) (hs : SS hX Wb R0 s') : SS hX Wb R0 s := by
  obtain ⟨cs, fs, fn, nt, H0, k, T, H⟩ := s
  unfold step1 at h
  simp only at h
  split at h
  · rename_i hk
    split at h
    · exact fun ρ0 w0 hw ρ a w hsat => popX_ok hX h ho hs _ _ ρ0 w0 ρ a w hsat
    · simp at h
  · simp at h
  · rename_i hk
    simp at h; obtain ⟨rfl, rfl⟩ := h
    exact fun ρ0 w0 hw ρ a w hsat => hs ρ0 w0 hw ρ a w hsat
  · rename_i c n k hk
    split at h
    · simp at h
    · rename_i n
      simp at h; obtain ⟨rfl, rfl⟩ := h
      intro ρ0 w0 hw ρ a w hsat
      have := hs ρ0 w0 hw ρ a w hsat
      simp only [WK] at this ⊢
      simp only [unr]
      exact wp_mono this fun e a w hq => by cases e <;> exact hq
  · rename_i all l k hk
    split at h
    · simp at h; obtain ⟨rfl, rfl⟩ := h
      exact fun ρ0 w0 hw ρ a w hsat => WK_nilops (hs ρ0 w0 hw ρ a w hsat)
    · exact opX_ok hX h ho hs
  · rename_i c k hk
    exact codeX_ok hX hdr h ho hs
end

end Go.Hx

/-
  The machine with frames: regions that draw their order, and the whole.
-/
namespace Go.Hx
open Go

section
variable {E : Env} {al : List Oper} {Tn : List (Nat × SV)} {H : List HE}

/-- Quiet: what an operation tells by itself. -/
def qE (X : Tabs) (nt : Nat) (al : List Oper) (Tn : List (Nat × SV)) (H : List HE) (o : Oper) : Prop :=
  (guardF al Tn o.guard = 1 ∧ (∀ d, o.dst = some d → look Tn d = some (.tup []) ∧ Nat.blt d nt = true)) ∨
  (guardF al Tn o.guard = 0 ∧ ∃ ob v, stepE X Tn H o.op = some (.val ob v) ∧ ob.getD true = true ∧ (∀ d, o.dst = some d → sameV' v (look Tn d) ∧ Nat.blt d nt = true))

theorem dstep_qE {X : Tabs} (hTE : E.TE = X.TE) (hET : ∀ t ks, X.ET t = some ks → EqOk E.P t ks) (hreg : regOk al = true) {j : Nat} {o : Oper} (hj : al[j]? = some o) (hq : qE X E.nt al Tn H o) : DStep E al Tn j o H H := by
  intro D ρ a w K Q hs hD hDj hK
  obtain ⟨hc1, hc2⟩ := hs.ext_cut hreg hj hD
  have hgc : guardF al (cutT Tn (guardT al o.guard)) o.guard = guardF al Tn o.guard := guardF_congr look_cut_eq
  have hsc : stepE X (cutT Tn (usesT o.op.operands.toList)) H o.op = stepE X Tn H o.op := stepE_congr look_cut_eq
  unfold wpOp
  simp only [List.getElem?_toArray, hj]
  rcases hq with ⟨hg, hd⟩ | ⟨hg, ob, v, he, hob, hd⟩
  · rw [← hgc] at hg
    rw [if_neg (by rw [guard_skip hc2 hg]; simp)]
    refine hK ρ _ w ?_
    refine hs.putD hreg hj (v := .tup []) ?_
    cases ho : o.dst with
    | none => trivial
    | some d =>
      obtain ⟨h1, h2⟩ := hd d ho
      exact ⟨⟨_, h1, rfl, by simp [SV.okh, SV.okhs]⟩, blt_lt h2⟩
  · rw [← hgc] at hg
    rw [if_pos (guard_wanted hc2 hg)]
    left
    rw [← hsc] at he
    obtain ⟨h1, h2⟩ := stepE_ok hTE hET hc1 he hob
    unfold Oper.wp
    rw [h2, Oper.upon_value]
    refine hK ρ _ w ?_
    refine hs.putD hreg hj ?_
    cases ho : o.dst with
    | none => trivial
    | some d =>
      obtain ⟨g1, g2⟩ := hd d ho
      cases hu : look Tn d with
      | none => rw [hu] at g1; unfold sameV' at g1; cases v <;> simp at g1
      | some u =>
        rw [hu] at g1
        obtain ⟨q1, q2⟩ := sameV'_tr (ρ := ρ) (A := there H) g1 h1
        exact ⟨⟨u, hu, q1.symm, q2⟩, blt_lt g2⟩

theorem dstep_effE {X : Tabs} (hTE : E.TE = X.TE) (hET : ∀ t ks, X.ET t = some ks → EqOk E.P t ks) (hreg : regOk al = true) {j : Nat} {o : Oper} (hj : al[j]? = some o) (hg : guardF al Tn o.guard = 0) {e : Eff}
    (he : stepE X Tn H o.op = some e) {ob : Option Bool} {T T' : List (Nat × SV)} {H' : List HE} (ha : afterF E.nt o.dst T H e = some (ob, T', H')) (hob : ob.getD true = true)
    (hT : ∀ d, o.dst = some d → look Tn d = look T' d) : DStep E al Tn j o H H' := by
  intro D ρ a w K Q hs hD hDj hK
  obtain ⟨hc1, hc2⟩ := hs.ext_cut hreg hj hD
  have hgc : guardF al (cutT Tn (guardT al o.guard)) o.guard = guardF al Tn o.guard := guardF_congr look_cut_eq
  have hsc : stepE X (cutT Tn (usesT o.op.operands.toList)) H o.op = stepE X Tn H o.op := stepE_congr look_cut_eq
  rw [← hgc] at hg
  rw [← hsc] at he
  unfold wpOp
  simp only [List.getElem?_toArray, hj]
  rw [if_pos (guard_wanted hc2 hg)]
  left
  have hE := stepE_ok hTE hET hc1 he
  have ha := afterF_eq ha
  unfold Oper.wp
  cases e with
  | val ob' v =>
    simp only [after] at ha
    split at ha
    · rename_i d hd
      split at ha
      · rename_i hlt
        simp at ha; obtain ⟨rfl, rfl, rfl⟩ := ha
        obtain ⟨h1, h2⟩ := hE hob
        rw [h2, Oper.upon_value]
        refine hK ρ _ w (hs.putD hreg hj ?_)
        rw [hd]
        refine ⟨⟨v, ?_, rfl, h1⟩, blt_lt hlt⟩
        rw [hT d hd, look_cons]; simp
      · simp at ha
    · rename_i hd
      simp at ha; obtain ⟨rfl, rfl, rfl⟩ := ha
      obtain ⟨h1, h2⟩ := hE hob
      rw [h2, Oper.upon_value]
      refine hK ρ _ w (hs.putD hreg hj ?_)
      rw [hd]; trivial
  | set ob' h o' =>
    simp only [after] at ha
    split at ha
    · rename_i hd
      simp at ha; obtain ⟨rfl, rfl, rfl⟩ := ha
      obtain ⟨h1, h2, ⟨o0, h3, h3'⟩, w', h4, h5, h6, h7, h8⟩ := hE hob
      rw [h4, Oper.upon_skip]
      have hS' := hs.hs.set (w' := w') (o := o') (getH_some.1 h3) h3' h1 h2 h5 h6 h7 h8
      have := hs.ext hS' (fun _ _ => rfl) (fun x hx => there_set hx)
      have h9 := this.putD hreg hj (v := .tup []) (by rw [hd]; trivial)
      rw [hd] at h9 ⊢
      exact hK ρ _ w' h9
    · simp at ha
  | newp o' =>
    simp only [after] at ha
    split at ha
    · rename_i d hd
      split at ha
      · rename_i hlt
        simp at ha; obtain ⟨rfl, rfl, rfl⟩ := ha
        obtain ⟨h1, h2, ob, h3, h4⟩ := hE
        rw [h3, Oper.upon_value]
        have hp := hs.hs.push (ob := ob) h2 h4
        have hagree : ∀ x, there H x = true → ρ x = upd ρ H.length (w.heap.size, 0) x := by
          intro x hx
          have := there_lt hx
          unfold upd
          rw [if_neg (by omega)]
        have := (hs.ext hp hagree (fun x hx => there_append hx)).putD hreg hj (v := .ptr H.length 0) (by
          rw [hd]
          refine ⟨⟨_, ?_, rfl, by simp [SV.okh, there, HE.there]⟩, blt_lt hlt⟩
          rw [hT d hd, look_cons]; simp)
        simp only [SV.tr, upd, if_true, Nat.zero_add] at this
        exact hK _ _ _ this
      · simp at ha
    · simp at ha
  | news ob' o' l c =>
    simp only [after] at ha
    split at ha
    · rename_i d hd
      split at ha
      · rename_i hlt
        simp at ha; obtain ⟨rfl, rfl, rfl⟩ := ha
        obtain ⟨h1, h2, ob, h3, h4⟩ := hE hob
        rw [h3, Oper.upon_value]
        have hp := hs.hs.push (ob := ob) h2 h4
        have hagree : ∀ x, there H x = true → ρ x = upd ρ H.length (w.heap.size, 0) x := by
          intro x hx
          have := there_lt hx
          unfold upd
          rw [if_neg (by omega)]
        have := (hs.ext hp hagree (fun x hx => there_append hx)).putD hreg hj (v := .slice H.length 0 l c) (by
          rw [hd]
          refine ⟨⟨_, ?_, rfl, by simp [SV.okh, there, HE.there]⟩, blt_lt hlt⟩
          rw [hT d hd, look_cons]; simp)
        simp only [SV.tr, upd, if_true, Nat.zero_add] at this
        exact hK _ _ _ this
      · simp at ha
    · simp at ha
  | app ob' drop o' s l =>
    simp only [after] at ha
    split at ha
    · rename_i d hd
      split at ha
      · rename_i hlt
        simp at ha; obtain ⟨rfl, rfl, rfl⟩ := ha
        obtain ⟨h1, h2, h3, b', cap, w', h4, h5, h6, h7, h8⟩ := hE hob
        rw [h4, Oper.upon_value]
        obtain ⟨p1, p2, p3⟩ := hs.hs.app h2 h3 h5 h6 h7 h8
        have hlen : there (dropO drop H ++ [.obj o']) H.length = true := by
          unfold there
          rw [List.getElem?_append_right (by rw [dropO_length]; omega)]
          simp [dropO_length, HE.there]
        have := (hs.ext p1 p2 p3).putD hreg hj (v := .sbuf H.length s 0 l) (by
          rw [hd]
          refine ⟨⟨_, ?_, rfl, by simpa [SV.okh] using hlen⟩, blt_lt hlt⟩
          rw [hT d hd, look_cons]; simp)
        simp only [SV.tr, upd, if_true, Nat.zero_mul, ite_self, Nat.sub_zero] at this
        exact hK _ _ w' this
      · simp at ha
    · simp at ha

theorem callee_congr {T T' : List (Nat × SV)} {c : Call} (h : ∀ t ∈ usesT (Op.call c).operands.toList, look T t = look T' t) : calleeF T c = calleeF T' c := by
  have hx : ∀ x ∈ (Op.call c).operands.toList, ev T x = ev T' x := fun x hx => ev_congr fun t e => h t (usesT_mem (e ▸ hx))
  have hevs : ∀ l : List Operand, (∀ x ∈ l, ev T x = ev T' x) → evs T l = evs T' l := by
    intro l hl
    induction l with
    | nil => rfl
    | cons x r ih => simp only [evs]; rw [hl x (by simp), ih fun y hy => hl y (by simp [hy])]
  unfold calleeF
  split
  · rename_i x hx'
    rw [hx x (by simp [Op.operands, Call.operands, hx']), hevs c.args.toList fun y hy => hx y (by simp [Op.operands, Call.operands, hx']; exact .inr (by simpa using hy))]
  · rfl

theorem dstep_call (hreg : regOk al = true) {j : Nat} {o : Oper} (hj : al[j]? = some o) {c : Call} {f : Nat} {as : List SV} {V : SV} {L : List HE} {fn : Func}
    (hg : guardF al Tn o.guard = 0) (hop : o.op = .call c) (hc : calleeF Tn c = some (f, as))
    (hf : E.P.funcs[f]? = some fn) (hbody : fn.body.isSome = true) (hname : (fn.name == "runtime.NumGoroutine") = false)
    (hF : Gives E.P f as H (Is V L)) (hd : ∀ d, o.dst = some d → look Tn d = some V ∧ Nat.blt d E.nt = true) : DStep E al Tn j o H L := by
  intro D ρ a w K Q hs hD hDj hK
  obtain ⟨hc1, hc2⟩ := hs.ext_cut hreg hj hD
  have hgc : guardF al (cutT Tn (guardT al o.guard)) o.guard = guardF al Tn o.guard := guardF_congr look_cut_eq
  have hcc : calleeF (cutT Tn (usesT o.op.operands.toList)) c = calleeF Tn c := by
    rw [hop]
    exact callee_congr look_cut_eq
  rw [← hgc] at hg
  rw [← hcc] at hc
  unfold wpOp
  simp only [List.getElem?_toArray, hj]
  rw [if_pos (guard_wanted hc2 hg)]
  left
  obtain ⟨hr1, hr2⟩ := callee_run hop hc hf hbody hname ρ a w hc1
  unfold Oper.wp
  rw [hr1]
  refine Oper.upon_enter' (hF ρ w (own_sat hc1) hr2) ?_ (fun c w' h => h) (fun w' h => h)
  rintro V' w' ⟨ρ', H', v, ⟨rfl, rfl⟩, rfl, hvok, hS, hb⟩
  have hS' := whole_sat hc1 hS
  have hs' := hs.ext hS' (fun x hx => (hb x hx).1.symm) (fun x hx => (hb x hx).2)
  refine hK ρ' _ w' (hs'.putD hreg hj ?_)
  cases ho : o.dst with
  | none => trivial
  | some d =>
    obtain ⟨g1, g2⟩ := hd d ho
    exact ⟨⟨_, g1, rfl, hvok⟩, blt_lt g2⟩
end

end Go.Hx

/-
  The machine with frames: regions that draw, gone through in the text's order; the run.
-/
namespace Go.Hx
open Go

def ovr (cs : List Ch) (v : SV) : Option (List Ch × Option Bool × SV) :=
  match v with
  | .bool b => match cs with
    | [] => some ([], none, .bool b)
    | c :: cs => match c with
      | .K => some (cs, none, .bool b)
      | c => match pickV c b with
        | some (ob, v) => some (cs, ob, v)
        | none => none
  | v => some (cs, none, v)

theorem ovr_ok {cs cs' : List Ch} {v v' : SV} {ob : Option Bool} (h : ovr cs v = some (cs', ob, v')) (ho : ob.getD true = true) :
    sameV' v (some v') ∧ ∀ (ρ : Nat → Nat × Nat) (A : Nat → Bool), v.tr ρ = v'.tr ρ ∧ v.okh A = v'.okh A := by
  have same : ∀ u : SV, sameV' u (some u) := by
    intro u; unfold sameV'
    split
    · rename_i h; simp at h
    · rename_i h; simp at h
    · rfl
  unfold ovr at h
  split at h
  · rename_i b
    split at h
    · simp at h; obtain ⟨rfl, rfl, rfl⟩ := h; exact ⟨same _, fun _ _ => ⟨rfl, rfl⟩⟩
    · split at h
      · simp at h; obtain ⟨rfl, rfl, rfl⟩ := h; exact ⟨same _, fun _ _ => ⟨rfl, rfl⟩⟩
      · split at h
        · rename_i ob' u hp
          simp at h; obtain ⟨rfl, rfl, rfl⟩ := h
          obtain ⟨_, _, h3⟩ := pickV_ok (ρ := fun _ => (0, 0)) hp ho
          rcases h3 with ⟨rfl, rfl⟩ | ⟨rfl, rfl⟩
          · exact ⟨by simp [sameV'], fun _ _ => ⟨rfl, rfl⟩⟩
          · exact ⟨by simp [sameV'], fun _ _ => ⟨rfl, rfl⟩⟩
        · simp at h
  · simp at h; obtain ⟨rfl, rfl, rfl⟩ := h; exact ⟨same _, fun _ _ => ⟨rfl, rfl⟩⟩

def addLP : List Prop → List Prop → List Prop
  | [], l => l
  | b :: r, l => addLP r (b :: l)
theorem addLP_all : ∀ {a l : List Prop}, AllP (addLP a l) → AllP a ∧ AllP l
  | [], l, h => ⟨fun _ hx => by simp at hx, h⟩
  | b :: r, l, h => by
    obtain ⟨h1, h2⟩ := addLP_all (a := r) h
    refine ⟨fun x hx => ?_, fun x hx => h2 x (by simp [hx])⟩
    simp only [List.mem_cons] at hx
    rcases hx with rfl | hx
    · exact h2 x (by simp)
    · exact h1 x hx

def isRet (fn : Func) : List KI → Bool
  | [] => match fn.results.toList with | [] => true | _ => false
  | .code c :: _ => match c with | .ret => true | _ => false
  | _ => false

/-- A call, as far as it comes without a choice left open. -/
def evalF (X : Tabs) (rec : St → List Prop × St) (cs : List Ch) (f : Nat) (as : List SV) (H : List HE) : Option (List Ch × List Prop × SV × List HE) :=
  match X.FT f with
  | some fn => match (match X.CT f with | some sp => sp as H | none => none) with
    | some (ob, V, L) => match forceHs L with
      | some L' => some (cs, ob, V, L')
      | none => none
    | none => match fn.body, Nat.ble as.length fn.ntmps, argTF nums as with
      | some c, true, some Ta => match rec ⟨cs, [], fn, fn.ntmps, H, [.code c], Ta, H⟩ with
        | (ob, ⟨cs', [], fn', _, _, k, T, L⟩) => match isRet fn' k, resF X.TE fn'.results.toList T L with
          | true, some (ob', vs) => some (cs', addLP ob' ob, tupF vs, L)
          | _, _ => none
        | _ => none
      | _, _, _ => none
  | none => none

section
variable {P : Program} {X : Tabs} (hX : TOk P X)

def RecOk (rec : St → List Prop × St) : Prop := ∀ (Wb : (Nat → Nat × Nat) → World → Prop) (R0 : SV → List HE → Prop) (s : St), AllP (rec s).1 → SS hX Wb R0 (rec s).2 → SS hX Wb R0 s

theorem sfn_ret {W : (Nat → Nat × Nat) → World → Prop} {R : SV → List HE → Prop} {fn : Func} {nt : Nat} {H0 : List HE} {k : List KI} {T : List (Nat × SV)} {H : List HE} {ob : List Prop} {vs : List SV}
    (hk : isRet fn k = true) (hr : resF X.TE fn.results.toList T H = some (ob, vs)) (ho : AllP ob) (hR : R (tupF vs) H) : SFn hX W R fn nt H0 k T H := by
  intro ρ0 w0 _ ρ a w hsat
  have post : bodyPost P fn (FnPost w0 ρ0 H0 R) .ret a w := by
    obtain ⟨h1, h2⟩ := results_ok hsat hr ho
    exact ⟨hsat.ts.def0, _, h1, ρ, H, tupF vs, hR, rfl, h2, hsat.hs, hsat.base⟩
  unfold isRet at hk
  split at hk
  · exact post
  · split at hk
    · exact wp_ret (WK_ret post _)
    · simp at hk
  · simp at hk

theorem evalF_ok {rec : St → List Prop × St} (hrec : RecOk hX rec) {cs cs' : List Ch} {f : Nat} {as : List SV} {H : List HE} {ob : List Prop} {V : SV} {L : List HE} (h : evalF X rec cs f as H = some (cs', ob, V, L)) (ho : AllP ob) :
    Gives P f as H (Is V L) ∧ ∃ fn, P.funcs[f]? = some fn ∧ fn.body.isSome = true ∧ (fn.name == "runtime.NumGoroutine") = false := by
  unfold evalF at h
  split at h
  · rename_i fn hf
    obtain ⟨q1, q2, q3⟩ := hX.ft f fn hf
    refine ⟨?_, fn, q1, q3, q2⟩
    split at h
    · rename_i ob' V' L' hsp
      split at h
      · rename_i L2 hL
        have hL' := forceHs_eq hL
        subst hL'
        simp at h; obtain ⟨rfl, rfl, rfl, rfl⟩ := h
        split at hsp
        · rename_i sp hct
          exact hX.ct f sp as H _ _ _ hct hsp ho
        · simp at hsp
      · simp at h
    · split at h
      · rename_i c Ta hb hle hTa
        have hTa' := argTF_nums hTa
        subst hTa'
        split at h
        · rename_i ob1 cs1 fn' nt' H0' k T L' hrun
          split at h
          · rename_i ob' vs hk hr
            simp at h; obtain ⟨rfl, rfl, rfl, rfl⟩ := h
            obtain ⟨ho1, ho2⟩ := addLP_all ho
            refine fn_intro hX.te q1 hb _ rfl hle fun ρ w => ?_
            have := hrec (fun _ _ => True) (Is (tupF vs) L') ⟨cs, [], fn, fn.ntmps, H, [.code c], argT 0 as, H⟩ (by rw [hrun]; exact ho2) (by rw [hrun]; exact sfn_ret hX hk hr ho1 ⟨rfl, rfl⟩)
            exact this ρ w trivial
          · simp at h
        · simp at h
      · simp at h
  · simp at h
end

def drawRun (X : Tabs) (rec : St → List Prop × St) (al : List Oper) (nt : Nat) : List Oper → Nat → List Ch → List (Nat × SV) → List HE → List Prop →
    Option (List Ch × List Prop × List (Nat × SV) × List (Nat × List HE) × List (Nat × Nat))
  | [], _, cs, T, _, ob => some (cs, ob, T, [], [])
  | o :: r, i, cs, T, H, ob => match guardF al T o.guard with
    | 1 => match putD nt o.dst T (.tup []) with
      | some T' => drawRun X rec al nt r (i + 1) cs T' H ob
      | none => none
    | 0 => match stepE X T H o.op with
      | some (.val b v) => match ovr cs v with
        | some (cs', b', v') => match putD nt o.dst T v' with
          | some T' => match ldOf T o.op with
            | none => drawRun X rec al nt r (i + 1) cs' T' H (addOP b' (addOP b ob))
            | some h => match drawRun X rec al nt r (i + 1) cs' T' H (addOP b' (addOP b ob)) with
              | some (cs2, ob2, Tn, es, lds) => some (cs2, ob2, Tn, es, (i, h) :: lds)
              | none => none
          | none => none
        | none => none
      | some e => match afterF nt o.dst T H e with
        | some (b, T', H') => match drawRun X rec al nt r (i + 1) cs T' H' (addOP b ob) with
          | some (cs2, ob2, Tn, es, lds) => some (cs2, ob2, Tn, (i, H') :: es, lds)
          | none => none
        | none => none
      | none => match o.op with
        | .call c => match (match calleeF T c with | some (f, as0) => (match forceL as0 with | some as => some (f, as) | none => none) | none => none) with
          | some (f, as) => match evalF X rec cs f as H with
            | some (cs1, ob1, V, L) => match ovr cs1 V with
              | some (cs', b', V') => match putD nt o.dst T V' with
                | some T' => match drawRun X rec al nt r (i + 1) cs' T' L (addOP b' (addLP ob1 ob)) with
                  | some (cs2, ob2, Tn, es, lds) => some (cs2, ob2, Tn, (i, L) :: es, lds)
                  | none => none
                | none => none
              | none => none
            | none => none
          | none => none
        | _ => none
    | _ => none

def ldChk (al : List Oper) (j h : Nat) : List HE → List (Nat × List HE) → List Prop → List Prop
  | _, [], acc => acc
  | H, (e, H') :: r, acc => match reachB al e j with
    | true => ldChk al j h H' r acc
    | false => match reachB al j e with
      | true => ldChk al j h H' r acc
      | false => ldChk al j h H' r ((getH H h = getH H' h) :: acc)
def ldAll (al : List Oper) (H : List HE) (es : List (Nat × List HE)) : List (Nat × Nat) → List Prop → List Prop
  | [], acc => acc
  | (j, h) :: r, acc => ldAll al H es r (ldChk al j h H es acc)
def lastE : List HE → List (Nat × List HE) → List HE
  | H, [] => H
  | _, (_, H') :: r => lastE H' r
def fstE : List (Nat × List HE) → List Nat
  | [] => []
  | (e, _) :: r => e :: fstE r

def drawX (X : Tabs) (rec : St → List Prop × St) : DrawF := fun cs al nt T H =>
  match drawRun X rec al nt al 0 cs T H [] with
  | some (cs', ob, Tn, es, lds) => match regOk al, effsOk al (fstE es) with
    | true, true => match forceP (ldAll al H es lds ob), forceHs (lastE H es) with
      | some ob', some H' => some (cs', ob', Tn, H')
      | _, _ => none
    | _, _ => none
  | none => none

def splitL : List Oper → Option (List Oper × Oper)
  | [] => none
  | o :: r => match r with
    | [] => some ([], o)
    | _ :: _ => match splitL r with
      | some (i, l) => some (o :: i, l)
      | none => none
def lastB (al : List Oper) (last : Oper) : Bool :=
  (List.range al.length).all (fun i => bindsOn last i) && last.after.toList.all (fun e => !(Region.binds .any e) || Nat.blt e.on al.length) &&
    al.all fun o => match o.guard with | some (i, _) => Nat.blt i al.length | none => true

/-- Where the last operation waits for all others, it comes behind them. -/
def drawY (X : Tabs) (rec : St → List Prop × St) : DrawF := fun cs al nt T H =>
  match regOk al with
  | true => drawX X rec cs al nt T H
  | false => match splitL al with
    | none => none
    | some (ini, last) => match regOk ini && lastB ini last with
      | false => none
      | true => match drawX X rec cs ini nt T H with
        | none => none
        | some (cs', ob, Tn, H1) => match last.guard with
          | some _ => none
          | none => match stepE X Tn H1 last.op with
            | none => none
            | some e => match afterF nt last.dst Tn H1 e with
              | none => none
              | some (b, T2, H2) => some (cs', addOP b ob, T2, H2)

/-- Where one wants to stop: at a block, a region, a branch upon a temporary, of the function under proof. -/
inductive Bk where
  | b (id : Nat)
  | r (id : Nat)
  | c (t : Nat)
  | l
def isBkC : List Bk → Code → Bool
  | [], _ => false
  | x :: r, cd => match (match x, cd with
      | .b i, .block j _ => Nat.beq i j
      | .r i, .region j _ _ => Nat.beq i j
      | .c t, .cond (.tmp u) _ _ => Nat.beq t u
      | .l, .loop _ => true
      | _, _ => false) with
    | true => true
    | false => isBkC r cd
def stopped (bk : List Bk) (s : St) : Bool :=
  match bk, s with
  | [], _ => false
  | _, ⟨_, fs, _, _, _, k, _, _⟩ => match fs, k with
    | [], .code c :: _ => isBkC bk c
    | _, _ => false

def runX (X : Tabs) (bk : List Bk) : Nat → St → List Prop → List Prop × St
  | 0, s, ob => (ob, s)
  | n + 1, s, ob => match stopped bk s with
    | true => (ob, s)
    | false => match step1 X (drawY X fun s => runX X [] n s []) s with
      | none => (ob, s)
      | some (ob', s') => match ob' with
        | [] => runX X bk n s' ob
        | _ => match forceP (addLP ob' ob) with
          | some ob2 => runX X bk n s' ob2
          | none => (ob, s)
/-- The first step goes through whatever. -/
def runY (X : Tabs) (bk : List Bk) (n : Nat) (s : St) : List Prop × St :=
  match step1 X (drawY X fun s => runX X [] n s []) s with
  | none => ([], s)
  | some (ob', s') => runX X bk n s' ob'

end Go.Hx

/-
  The machine with frames: why the run is sound.
-/
namespace Go.Hx
open Go

section
variable {P : Program} {X : Tabs} (hX : TOk P X)

/-- Quiet, as the text's order met it. -/
def Q1 (X : Tabs) (nt : Nat) (al : List Oper) (Tn Tj : List (Nat × SV)) (Hj : List HE) (o : Oper) : Prop :=
  (guardF al Tj o.guard = 1 ∧ (∀ d, o.dst = some d → look Tn d = some (.tup []) ∧ Nat.blt d nt = true)) ∨
  (guardF al Tj o.guard = 0 ∧ ∃ ob v, stepE X Tj Hj o.op = some (.val ob v) ∧ ob.getD true = true ∧ (∀ d, o.dst = some d → sameV' v (look Tn d) ∧ Nat.blt d nt = true))

def E1 (P : Program) (X : Tabs) (nt : Nat) (al : List Oper) (Tn Tj : List (Nat × SV)) (o : Oper) (Hq L : List HE) : Prop :=
  guardF al Tj o.guard = 0 ∧
  ((∃ e ob T', stepE X Tj Hq o.op = some e ∧ afterF nt o.dst Tj Hq e = some (ob, T', L) ∧ ob.getD true = true ∧ ∀ d, o.dst = some d → look Tn d = look T' d) ∨
   (∃ c f as V, o.op = .call c ∧ calleeF Tj c = some (f, as) ∧ (∃ fn, P.funcs[f]? = some fn ∧ fn.body.isSome = true ∧ (fn.name == "runtime.NumGoroutine") = false) ∧ Gives P f as Hq (Is V L) ∧
      ∀ d, o.dst = some d → look Tn d = some V ∧ Nat.blt d nt = true))

structure Facts (P : Program) (X : Tabs) (nt : Nat) (al : List Oper) (Tn : List (Nat × SV)) (l : List Oper) (i : Nat) (T : List (Nat × SV)) (H : List HE) (es : List (Nat × List HE)) (lds : List (Nat × Nat)) : Prop where
  agree : ∀ t, (∀ o ∈ l, o.dst ≠ some t) → look Tn t = look T t
  quiet : ∀ (j : Nat) (o : Oper), l[j]? = some o → (i + j) ∉ fstE es → ∃ (Tj : List (Nat × SV)) (Hj : List HE) (c : Nat), (H :: es.map (·.2))[c]? = some Hj ∧ (∀ (q e : Nat), (fstE es)[q]? = some e → (q < c ↔ e < i + j)) ∧
    (∀ t, (∀ o' ∈ l.drop j, o'.dst ≠ some t) → look Tn t = look Tj t) ∧ Q1 X nt al Tn Tj Hj o ∧ (guardF al Tj o.guard = 0 → ∀ h, ldOf Tj o.op = some h → (i + j, h) ∈ lds)
  eff : ∀ (q e : Nat) (L : List HE), es[q]? = some (e, L) → ∃ (j : Nat) (o : Oper) (Tj : List (Nat × SV)) (Hq : List HE), e = i + j ∧ l[j]? = some o ∧ (H :: es.map (·.2))[q]? = some Hq ∧
    (∀ t, (∀ o' ∈ l.drop j, o'.dst ≠ some t) → look Tn t = look Tj t) ∧ E1 P X nt al Tn Tj o Hq L

theorem fstE_map : ∀ es : List (Nat × List HE), fstE es = es.map (·.1)
  | [] => rfl
  | (e, _) :: r => by simp [fstE, fstE_map r]

theorem dstsOk_cons {o : Oper} {r : List Oper} (h : dstsOk (o :: r) = true) : dstsOk r = true ∧ ∀ d, o.dst = some d → ∀ p ∈ r, p.dst ≠ some d := by
  simp only [dstsOk, Bool.and_eq_true] at h
  refine ⟨h.2, fun d hd p hp e => ?_⟩
  have h1 := h.1
  rw [hd] at h1
  simp only [List.all_eq_true] at h1
  have := h1 p hp
  rw [e] at this
  simp [Nat.beq_refl] at this

theorem putD_look {nt : Nat} {d : Option Nat} {T T' : List (Nat × SV)} {v : SV} (h : putD nt d T v = some T') :
    (∀ t, d ≠ some t → look T' t = look T t) ∧ ∀ t, d = some t → look T' t = some v ∧ Nat.blt t nt = true := by
  unfold putD at h
  split at h
  · rename_i d'
    split at h
    · rename_i hlt
      simp at h; subst h
      refine ⟨fun t ht => ?_, fun t ht => ?_⟩
      · rw [look_cons]
        have : ¬ d' = t := fun e => ht (by rw [e])
        simp [this]
      · simp at ht; subst ht
        rw [look_cons]; simp [hlt]
    · simp at h
  · simp at h; subst h
    exact ⟨fun _ _ => rfl, fun t ht => by simp at ht⟩

theorem afterF_look {nt : Nat} {d : Option Nat} {T T' : List (Nat × SV)} {H H' : List HE} {e : Eff} {ob : Option Bool} (h : afterF nt d T H e = some (ob, T', H')) :
    ∀ t, d ≠ some t → look T' t = look T t := by
  have h := afterF_eq h
  intro t ht
  have key : ∀ (d' : Nat) (v : SV), d = some d' → look ((d', v) :: T) t = look T t := by
    intro d' v hd
    rw [look_cons]
    have : ¬ d' = t := fun e => ht (by rw [hd, e])
    simp [this]
  unfold after at h
  split at h
  · split at h
    · rename_i d' _
      split at h
      · simp at h; obtain ⟨_, rfl, _⟩ := h; exact key d' _ rfl
      · simp at h
    · simp at h; obtain ⟨_, rfl, _⟩ := h; rfl
  · split at h
    · simp at h; obtain ⟨_, rfl, _⟩ := h; rfl
    · simp at h
  · split at h
    · rename_i d' _
      split at h
      · simp at h; obtain ⟨_, rfl, _⟩ := h; exact key d' _ rfl
      · simp at h
    · simp at h
  · split at h
    · rename_i d' _
      split at h
      · simp at h; obtain ⟨_, rfl, _⟩ := h; exact key d' _ rfl
      · simp at h
    · simp at h
  · split at h
    · rename_i d' _
      split at h
      · simp at h; obtain ⟨_, rfl, _⟩ := h; exact key d' _ rfl
      · simp at h
    · simp at h

section
variable {nt : Nat} {al : List Oper} {Tn : List (Nat × SV)} {r : List Oper} {o : Oper} {i : Nat} {T T' : List (Nat × SV)} {H H' : List HE} {es : List (Nat × List HE)} {lds : List (Nat × Nat)}

theorem facts_ge (h : Facts P X nt al Tn r i T H es lds) : ∀ (q e : Nat), (fstE es)[q]? = some e → i ≤ e := by
  intro q e hq
  rw [fstE_map] at hq
  simp at hq
  obtain ⟨L, hL⟩ := hq
  obtain ⟨j, _, _, _, h1, _⟩ := h.eff q e L hL
  omega

/-- A quiet operation ahead. -/
theorem facts_quiet (h : Facts P X nt al Tn r (i + 1) T' H es lds) (hT : ∀ t, o.dst ≠ some t → look T' t = look T t) (hq : Q1 X nt al Tn T H o)
    {lds' : List (Nat × Nat)} (hl : ∀ p ∈ lds, p ∈ lds') (hld : guardF al T o.guard = 0 → ∀ h, ldOf T o.op = some h → (i, h) ∈ lds') : Facts P X nt al Tn (o :: r) i T H es lds' := by
  have agree : ∀ t, (∀ o' ∈ o :: r, o'.dst ≠ some t) → look Tn t = look T t := by
    intro t ht
    rw [h.agree t (fun o' ho' => ht o' (by simp [ho'])), hT t (ht o (by simp))]
  refine ⟨agree, ?_, ?_⟩
  · intro j p hp hn
    cases j with
    | zero =>
      simp at hp; subst hp
      refine ⟨T, H, 0, by simp, ?_, fun t ht => agree t (by simpa using ht), hq, hld⟩
      intro q e he
      have := facts_ge h q e he
      constructor
      · intro h0; omega
      · intro h0; omega
    | succ j =>
      have hp' : r[j]? = some p := by simpa using hp
      obtain ⟨Tj, Hj, c, h1, h2, h3, h4, h5⟩ := h.quiet j p hp' (by rw [show i + 1 + j = i + (j + 1) from by omega]; exact hn)
      rw [show i + 1 + j = i + (j + 1) from by omega] at h2 h5
      exact ⟨Tj, Hj, c, h1, h2, fun t ht => h3 t (by simpa using ht), h4, fun hg h' hh => hl _ (h5 hg h' hh)⟩
  · intro q e L he
    obtain ⟨j, p, Tj, Hq, h1, h2, h3, h4, h5⟩ := h.eff q e L he
    exact ⟨j + 1, p, Tj, Hq, by omega, by simpa using h2, h3, fun t ht => h4 t (by simpa using ht), h5⟩

/-- An effect ahead. -/
theorem facts_eff (h : Facts P X nt al Tn r (i + 1) T' H' es lds) (hT : ∀ t, o.dst ≠ some t → look T' t = look T t) (he : E1 P X nt al Tn T o H H') :
    Facts P X nt al Tn (o :: r) i T H ((i, H') :: es) lds := by
  have agree : ∀ t, (∀ o' ∈ o :: r, o'.dst ≠ some t) → look Tn t = look T t := by
    intro t ht
    rw [h.agree t (fun o' ho' => ht o' (by simp [ho'])), hT t (ht o (by simp))]
  refine ⟨agree, ?_, ?_⟩
  · intro j p hp hn
    cases j with
    | zero => simp [fstE] at hn
    | succ j =>
      have hp' : r[j]? = some p := by simpa using hp
      obtain ⟨Tj, Hj, c, h1, h2, h3, h4, h5⟩ := h.quiet j p hp' (by
        rw [show i + 1 + j = i + (j + 1) from by omega]
        simp only [fstE, List.mem_cons, not_or] at hn
        exact hn.2)
      rw [show i + 1 + j = i + (j + 1) from by omega] at h2 h5
      refine ⟨Tj, Hj, c + 1, by simpa using h1, ?_, fun t ht => h3 t (by simpa using ht), h4, h5⟩
      intro q e hq
      cases q with
      | zero => simp [fstE] at hq; subst hq; constructor <;> intro _ <;> omega
      | succ q =>
        have := h2 q e (by simpa [fstE] using hq)
        rw [← this]; omega
  · intro q e L hq
    cases q with
    | zero =>
      simp at hq; obtain ⟨rfl, rfl⟩ := hq
      exact ⟨0, o, T, H, by omega, by simp, by simp, fun t ht => agree t (by simpa using ht), he⟩
    | succ q =>
      obtain ⟨j, p, Tj, Hq, h1, h2, h3, h4, h5⟩ := h.eff q e L (by simpa using hq)
      exact ⟨j + 1, p, Tj, Hq, by omega, by simpa using h2, by simpa using h3, fun t ht => h4 t (by simpa using ht), h5⟩
end

theorem drawRun_facts {rec : St → List Prop × St} (hrec : RecOk hX rec) {al : List Oper} {nt : Nat} : ∀ {l : List Oper} {i : Nat} {cs : List Ch} {T : List (Nat × SV)} {H : List HE} {ob : List Prop}
    {cs' : List Ch} {ob' : List Prop} {Tn : List (Nat × SV)} {es : List (Nat × List HE)} {lds : List (Nat × Nat)},
    drawRun X rec al nt l i cs T H ob = some (cs', ob', Tn, es, lds) → dstsOk l = true → AllP ob' → AllP ob ∧ Facts P X nt al Tn l i T H es lds := by
  intro l
  induction l with
  | nil =>
    intro i cs T H ob cs' ob' Tn es lds h _ ho
    simp [drawRun] at h
    obtain ⟨rfl, rfl, rfl, rfl, rfl⟩ := h
    exact ⟨ho, fun _ _ => rfl, fun j o hj => by simp at hj, fun q e L hq => by simp at hq⟩
  | cons o r ih =>
    intro i cs T H ob cs' ob' Tn es lds h hdl ho
    obtain ⟨hdr, hd0⟩ := dstsOk_cons hdl
    unfold drawRun at h
    split at h
    · rename_i hg
      split at h
      · rename_i T' hT
        obtain ⟨h1, h2⟩ := ih h hdr ho
        obtain ⟨g1, g2⟩ := putD_look hT
        refine ⟨h1, facts_quiet h2 g1 (.inl ⟨hg, fun d hd => ?_⟩) (fun p hp => hp) (fun hg' => by rw [hg] at hg'; simp at hg')⟩
        · obtain ⟨k1, k2⟩ := g2 d hd
          exact ⟨by rw [h2.agree d (hd0 d hd)]; exact k1, k2⟩
      · simp at h
    · rename_i hg
      split at h
      · rename_i b v he
        split at h
        · rename_i cs1 b' v' hov
          split at h
          · rename_i T' hT
            obtain ⟨g1, g2⟩ := putD_look hT
            have fin : ∀ {lds1 : List (Nat × Nat)} {ob2}, AllP (addOP b' (addOP b ob)) → Facts P X nt al Tn r (i + 1) T' H es lds1 → (∀ h, ldOf T o.op = some h → (i, h) ∈ lds) → (∀ p ∈ lds1, p ∈ lds) → ob2 = ob →
                AllP ob2 ∧ Facts P X nt al Tn (o :: r) i T H es lds := by
              intro lds1 ob2 ho1 hF hld hsub e
              subst e
              obtain ⟨ho2, hb'⟩ := addOP_all ho1
              obtain ⟨ho3, hb⟩ := addOP_all ho2
              obtain ⟨s1, _⟩ := ovr_ok hov hb'
              refine ⟨ho3, facts_quiet hF g1 (.inr ⟨hg, b, v, he, hb, fun d hd => ?_⟩) hsub (fun _ => hld)⟩
              obtain ⟨k1, k2⟩ := g2 d hd
              exact ⟨by rw [hF.agree d (hd0 d hd), k1]; exact s1, k2⟩
            split at h
            · rename_i hl
              obtain ⟨h1, h2⟩ := ih h hdr ho
              exact fin h1 h2 (fun h' hh => by rw [hl] at hh; simp at hh) (fun p hp => hp) rfl
            · rename_i h' hl
              split at h
              · rename_i cs2 ob2 Tn2 es2 lds2 hr
                simp at h; obtain ⟨rfl, rfl, rfl, rfl, rfl⟩ := h
                obtain ⟨h1, h2⟩ := ih hr hdr ho
                exact fin h1 h2 (fun h'' hh => by rw [hl] at hh; simp at hh; subst hh; simp) (fun p hp => by simp [hp]) rfl
              · simp at h
          · simp at h
        · simp at h
      · rename_i e hne he
        split at h
        · rename_i b T' H' ha
          split at h
          · rename_i cs2 ob2 Tn2 es2 lds2 hr
            simp at h; obtain ⟨rfl, rfl, rfl, rfl, rfl⟩ := h
            obtain ⟨h1, h2⟩ := ih hr hdr ho
            obtain ⟨ho3, hb⟩ := addOP_all h1
            refine ⟨ho3, facts_eff h2 (afterF_look ha) ⟨hg, .inl ⟨e, b, T', he, ha, hb, fun d hd => ?_⟩⟩⟩
            exact h2.agree d (hd0 d hd)
          · simp at h
        · simp at h
      · split at h
        · rename_i c hop
          split at h
          · rename_i f as hc0
            have hc : calleeF T c = some (f, as) := by
              split at hc0
              · rename_i f' as0 hcc
                split at hc0
                · rename_i as1 hfl
                  simp at hc0; obtain ⟨rfl, rfl⟩ := hc0
                  rw [hcc, forceL_eq hfl]
                · simp at hc0
              · simp at hc0
            split at h
            · rename_i cs1 ob1 V L hev
              split at h
              · rename_i cs2 b' V' hov
                split at h
                · rename_i T' hT
                  split at h
                  · rename_i cs3 ob2 Tn2 es2 lds2 hr
                    simp at h; obtain ⟨rfl, rfl, rfl, rfl, rfl⟩ := h
                    obtain ⟨h1, h2⟩ := ih hr hdr ho
                    obtain ⟨ho2, hb'⟩ := addOP_all h1
                    obtain ⟨ho3, ho4⟩ := addLP_all ho2
                    obtain ⟨hG, hfn⟩ := evalF_ok hX hrec hev ho3
                    obtain ⟨_, s2⟩ := ovr_ok hov hb'
                    obtain ⟨g1, g2⟩ := putD_look hT
                    refine ⟨ho4, facts_eff h2 g1 ⟨hg, .inr ⟨c, f, as, V', hop, hc, hfn, hG.same s2, fun d hd => ?_⟩⟩⟩
                    obtain ⟨k1, k2⟩ := g2 d hd
                    exact ⟨by rw [h2.agree d (hd0 d hd)]; exact k1, k2⟩
                  · simp at h
                · simp at h
              · simp at h
            · simp at h
          · simp at h
        · simp at h
    · simp at h
end
end Go.Hx

/-
  A region that draws, whose last operation waits for all others.
-/
namespace Go.Hx
open Go

section
variable {P : Program} {al : List Oper} {last : Oper} {Q Q' : Exit → Act → World → Prop}

theorem upon_Q (hQ : ∀ e, e ≠ .normal → Q' e = Q e) {o : Oper} {a : Act} {K : Act → World → Prop} (r : Result Next) : o.upon P a K Q' r = o.upon P a K Q r := by
  have hL : LetsOut Q' = LetsOut Q := by unfold LetsOut; rw [hQ .outgrown (by simp)]
  have hP : ∀ c, Q' (.panic c) = Q (.panic c) := fun c => hQ _ (by simp)
  cases r with
  | ok n w =>
    cases n with
    | enter f args =>
      rw [Oper.upon_enter, Oper.upon_enter]
      congr 1
      funext e w''
      cases e with
      | returned v => rfl
      | panicked c => simp only [hP]
      | outgrown => simp only [hL]
    | _ => rfl
  | halt h w =>
    cases h with
    | panic v => simp only [Oper.upon, hP]
    | _ => rfl

/-- Nobody waits for what is not there; the last one waits for all. -/
structure LastOk (al : List Oper) (last : Oper) : Prop where
  back : ∀ (j : Nat) (o : Oper), al[j]? = some o → ∀ i, bindsOn o i = true → i < j
  all : ∀ i, i < al.length → bindsOn last i = true
  gd : ∀ (j : Nat) (o : Oper), al[j]? = some o → ∀ i b, o.guard = some (i, b) → i < al.length

theorem ready_all (h : LastOk al last) {listed : Array Bool} (hsz : listed.size = al.length) (hr : Region.ready .any al.toArray listed = []) : ∀ i, i < al.length → listed.getD i false = true := by
  intro i
  induction i using Nat.strongRecOn with
  | _ i ih =>
    intro hi
    cases hli : listed.getD i false with
    | true => rfl
    | false =>
      exfalso
      have hmem : i ∉ Region.ready .any al.toArray listed := by rw [hr]; simp
      unfold Region.ready at hmem
      rw [List.mem_filter] at hmem
      apply hmem
      simp only [List.size_toArray, List.mem_range]
      refine ⟨hi, ?_⟩
      have hi' : i < listed.size := by omega
      have ho : al[i]? = some al[i] := List.getElem?_eq_getElem hi
      simp only [Bool.and_eq_true, Bool.not_eq_true', List.getElem?_toArray, ho, Option.map_some, Option.getD_some, Array.all_eq_true']
      refine ⟨by simp [Array.getD, hi'] at hli ⊢; exact hli, ?_⟩
      intro e he
      by_cases hb : Region.binds .any e = true
      · simp only [hb, Bool.not_true, Bool.false_or]
        have hbo : bindsOn al[i] e.on = true := by
          simp only [bindsOn, List.any_eq_true, Bool.and_eq_true]
          exact ⟨e, by simpa using he, hb, Nat.beq_refl _⟩
        have hlt := h.back i _ ho e.on hbo
        exact ih e.on hlt (by omega)
      · simp only [Bool.not_eq_true] at hb; simp [hb]

theorem push_getD (listed : Array Bool) (i : Nat) (d : Bool) (hi : i < listed.size) : (listed.push false).getD i d = listed.getD i d := by
  simp [Array.getD, hi, Nat.lt_succ_of_lt hi, Array.getElem_push_lt hi]
theorem push_getD_f (listed : Array Bool) (i : Nat) : (listed.push false).getD i false = listed.getD i false := by
  by_cases hi : i < listed.size
  · exact push_getD listed i false hi
  · by_cases he : i = listed.size
    · subst he; simp [Array.getD]
    · have : ¬ i < listed.size + 1 := by omega
      simp [Array.getD, hi, this]

theorem ready_lt (_ : LastOk al last) {listed : Array Bool} (hsz : listed.size = al.length) {i : Nat} (hi : i < al.length) :
    i ∈ Region.ready .any (al ++ [last]).toArray (listed.push false) ↔ i ∈ Region.ready .any al.toArray listed := by
  unfold Region.ready
  rw [List.mem_filter, List.mem_filter]
  simp only [List.size_toArray, List.mem_range, List.length_append, List.length_singleton]
  have ho : al[i]? = some al[i] := List.getElem?_eq_getElem hi
  have ho2 : (al ++ [last])[i]? = some al[i] := by rw [List.getElem?_append_left hi, ho]
  simp only [List.getElem?_toArray, ho, ho2, Option.map_some, Option.getD_some, push_getD listed i true (by omega), push_getD_f]
  constructor
  · rintro ⟨_, h2⟩; exact ⟨hi, h2⟩
  · rintro ⟨_, h2⟩; exact ⟨by omega, h2⟩

theorem ready_n (h : LastOk al last) {listed : Array Bool} (_ : listed.size = al.length) (hm : al.length ∈ Region.ready .any (al ++ [last]).toArray (listed.push false)) : ∀ i, i < al.length → listed.getD i false = true := by
  intro i hi
  unfold Region.ready at hm
  rw [List.mem_filter] at hm
  have ho2 : (al ++ [last])[al.length]? = some last := by simp
  simp only [List.getElem?_toArray, ho2, Option.map_some, Option.getD_some, Bool.and_eq_true, Array.all_eq_true'] at hm
  have hb := h.all i hi
  simp only [bindsOn, List.any_eq_true, Bool.and_eq_true] at hb
  obtain ⟨e, he1, he2, he3⟩ := hb
  have := hm.2.2 e (by simpa using he1)
  have h3 := Nat.eq_of_beq_eq_true he3
  subst h3
  rw [he2, push_getD_f] at this
  simpa using this

theorem ready_last (_ : LastOk al last) {listed : Array Bool} (hsz : listed.size = al.length) (ha : ∀ i, i < al.length → listed.getD i false = true) (hlast : ∀ i, bindsOn last i = true → i < al.length) :
    al.length ∈ Region.ready .any (al ++ [last]).toArray (listed.push false) := by
  unfold Region.ready
  rw [List.mem_filter]
  have ho2 : (al ++ [last])[al.length]? = some last := by simp
  simp only [List.size_toArray, List.mem_range, List.length_append, List.length_singleton, List.getElem?_toArray, ho2, Option.map_some, Option.getD_some, Bool.and_eq_true, Array.all_eq_true']
  refine ⟨by omega, by simp [Array.getD, ← hsz], ?_⟩
  intro e he
  by_cases hb : Region.binds .any e = true
  · simp only [hb, Bool.not_true, Bool.false_or, push_getD_f]
    exact ha e.on (hlast e.on (by
      simp only [bindsOn, List.any_eq_true, Bool.and_eq_true]
      exact ⟨e, by simpa using he, hb, Nat.beq_refl _⟩))
  · simp only [Bool.not_eq_true] at hb; simp [hb]

theorem ready_done {listed : Array Bool} (ha : ∀ i, i < listed.size → listed.getD i false = true) {ops : Array Oper} (hs : listed.size = ops.size) : Region.ready .any ops listed = [] := by
  unfold Region.ready
  rw [List.filter_eq_nil_iff]
  intro i hi
  have hi' := List.mem_range.1 hi
  have := ha i (by omega)
  have hi2 : i < listed.size := by omega
  simp [Array.getD, hi2] at this ⊢
  intro h; rw [this] at h; simp at h

theorem wanted_app (h : LastOk al last) {o : Oper} {j : Nat} (ho : al[j]? = some o) (tmps : Array Value) : Region.wanted o (yielded (al ++ [last]).toArray tmps) = Region.wanted o (yielded al.toArray tmps) := by
  unfold Region.wanted
  cases hg : o.guard with
  | none => rfl
  | some p =>
    obtain ⟨i, b⟩ := p
    have hi := h.gd j o ho i b hg
    simp only
    have : yielded (al ++ [last]).toArray tmps i = yielded al.toArray tmps i := by
      unfold yielded
      simp [List.getElem?_append_left hi]
    rw [this]

theorem wpOp_app (h : LastOk al last) (hQ : ∀ e, e ≠ .normal → Q' e = Q e) {j : Nat} (hj : j < al.length) {K K' : Act → World → Prop} (hK : ∀ a w, K a w → K' a w) {a : Act} {w : World}
    (hw : wpOp P al.toArray Q' j K a w) : wpOp P (al ++ [last]).toArray Q j K' a w := by
  refine wpOp_mono hK ?_
  have ho : al[j]? = some al[j] := List.getElem?_eq_getElem hj
  have ho2 : (al ++ [last])[j]? = some al[j] := by rw [List.getElem?_append_left hj, ho]
  unfold wpOp at hw ⊢
  rw [List.getElem?_toArray, ho] at hw
  rw [List.getElem?_toArray, ho2]
  simp only at hw ⊢
  rw [wanted_app h ho]
  split at hw
  · rename_i hwt
    rw [if_pos hwt]
    have hL : LetsOut Q' = LetsOut Q := by unfold LetsOut; rw [hQ .outgrown (by simp)]
    rcases hw with hw | ⟨h1, h2⟩
    · left; unfold Oper.wp at hw ⊢; rw [upon_Q hQ] at hw; exact hw
    · right; exact ⟨h1, hL ▸ h2⟩
  · rename_i hwt
    rw [if_neg hwt]; exact hw

theorem wpAny_last (h : LastOk al last) (hlast : ∀ i, bindsOn last i = true → i < al.length) (hQ : ∀ e, e ≠ .normal → Q' e = Q e)
    (hN : ∀ a w, Q' .normal a w → wpOp P (al ++ [last]).toArray Q al.length (Q .normal) a w) :
    ∀ (fuel : Nat) (listed : Array Bool) (a : Act) (w : World), listed.size = al.length → wpAny P .any al.toArray Q' fuel listed a w → wpAny P .any (al ++ [last]).toArray Q (fuel + 1) (listed.push false) a w := by
  -- the last one
  have hfin : ∀ (fuel : Nat) (listed : Array Bool) (a : Act) (w : World), listed.size = al.length → Region.ready .any al.toArray listed = [] → Q' .normal a w → wpAny P .any (al ++ [last]).toArray Q (fuel + 1) (listed.push false) a w := by
    intro fuel listed a w hsz hr hq
    have ha := ready_all h hsz hr
    have hn := ready_last h hsz ha hlast
    refine ⟨fun h0 => by rw [h0] at hn; simp at hn, fun i hi => ?_⟩
    have hin : i = al.length := by
      have hlt : i < al.length + 1 := by
        unfold Region.ready at hi
        rw [List.mem_filter] at hi
        simpa using hi.1
      rcases Nat.lt_or_ge i al.length with h1 | h1
      · have := (ready_lt h hsz h1).1 hi
        rw [hr] at this; simp at this
      · omega
    subst hin
    refine wpOp_mono (fun a' w' hq' => ?_) (hN a w hq)
    have hdone : Region.ready .any (al ++ [last]).toArray ((listed.push false).setIfInBounds al.length true) = [] := by
      refine ready_done (fun i hi => ?_) (by simp [hsz])
      simp at hi
      by_cases e : i = al.length
      · subst e; simp [Array.getD, hsz]
      · have hi2 : i < al.length := by omega
        have := ha i hi2
        have e' : ¬ al.length = i := fun h => e h.symm
        have hi3 : i < listed.size := by omega
        simp [Array.getD, hi3, Nat.lt_succ_of_lt hi3, e', Array.getElem_push_lt hi3] at this ⊢
        exact this
    cases fuel with
    | zero => exact ⟨hdone, hq'⟩
    | succ f => exact ⟨fun _ => hq', fun i hi => by rw [hdone] at hi; simp at hi⟩
  intro fuel
  induction fuel with
  | zero => intro listed a w hsz ⟨h1, h2⟩; exact hfin 0 listed a w hsz h1 h2
  | succ fuel ih =>
    intro listed a w hsz ⟨h1, h2⟩
    by_cases hr : Region.ready .any al.toArray listed = []
    · exact hfin (fuel + 1) listed a w hsz hr (h1 hr)
    · refine ⟨fun h0 => ?_, fun i hi => ?_⟩
      · exfalso
        obtain ⟨j, hj⟩ := List.exists_mem_of_ne_nil _ hr
        have hjl : j < al.length := by
          have := hj
          unfold Region.ready at this
          rw [List.mem_filter] at this
          simpa using this.1
        have := (ready_lt h hsz hjl).2 hj
        rw [h0] at this; simp at this
      · have hlt : i < al.length + 1 := by
          have := hi
          unfold Region.ready at this
          rw [List.mem_filter] at this
          simpa using this.1
        rcases Nat.lt_or_ge i al.length with h3 | h3
        · have hi2 := (ready_lt h hsz h3).1 hi
          refine wpOp_app h hQ h3 (fun a' w' hk => ?_) (h2 i hi2)
          have := ih _ a' w' (by simpa using hsz) hk
          have e : (listed.push false).setIfInBounds i true = (listed.setIfInBounds i true).push false := by
            apply Array.ext_getElem?
            intro m
            simp only [Array.getElem?_setIfInBounds, Array.getElem?_push, Array.size_setIfInBounds, Array.size_push]
            by_cases e1 : i = m
            · subst e1
              have : i < listed.size := by omega
              have e2 : ¬ i = listed.size := by omega
              simp [this, e2, Nat.lt_succ_of_lt this]
            · simp [e1]
          rw [e]; exact this
        · have : i = al.length := by omega
          subst this
          exfalso
          have ha := ready_n h hsz hi
          apply hr
          exact ready_done (fun i hi => ha i (by omega)) (by simp [hsz])
end
end Go.Hx

/-
  The machine with frames: the run is sound; how it is used.
-/
namespace Go.Hx
open Go

section
variable {P : Program} {X : Tabs} (hX : TOk P X)

theorem bind_back {al : List Oper} (hreg : regOk al = true) {j : Nat} {o : Oper} (ho : al[j]? = some o) {i : Nat} (hi : bindsOn o i = true) : i < j := by
  simp only [regOk, Bool.and_eq_true, List.all_eq_true] at hreg
  have hlt : j < al.length := by
    rcases Nat.lt_or_ge j al.length with h1 | h1
    · exact h1
    · rw [List.getElem?_eq_none h1] at ho; simp at ho
  have := hreg.2 j (List.mem_range.2 hlt)
  rw [ho] at this
  simp only [Bool.and_eq_true, List.all_eq_true] at this
  simp only [bindsOn, List.any_eq_true, Bool.and_eq_true] at hi
  obtain ⟨e, he1, he2, he3⟩ := hi
  have h4 := this.1.1 e he1
  rw [he2] at h4
  have := Nat.eq_of_beq_eq_true he3
  simp at h4
  have h5 : e.on < j := blt_lt (by simpa using h4)
  omega

theorem scanR_ge {al : List Oper} (hreg : regOk al = true) {e : Nat} : ∀ (l : List Oper) (i : Nat) (S : List Nat), (∀ (j : Nat) (o : Oper), l[j]? = some o → al[i + j]? = some o) → (∀ x ∈ S, e ≤ x) → ∀ x ∈ scanR l i S, e ≤ x
  | [], _, _, _, hS => hS
  | o :: r, i, S, hl, hS => by
    have hl' : ∀ j p, r[j]? = some p → al[i + 1 + j]? = some p := fun j p hp => by
      have := hl (j + 1) p (by simpa using hp)
      rw [show i + 1 + j = i + (j + 1) from by omega]; exact this
    have ho : al[i]? = some o := by simpa using hl 0 o (by simp)
    unfold scanR
    split
    · rename_i ha
      refine scanR_ge hreg r (i + 1) (i :: S) hl' ?_
      intro x hx
      simp only [List.mem_cons] at hx
      rcases hx with rfl | hx
      · simp only [anyB, List.any_eq_true, Bool.and_eq_true] at ha
        obtain ⟨ed, h1, h2, h3⟩ := ha
        have q1 := hS ed.on (memN_iff.1 h3)
        have q2 := bind_back hreg ho (i := ed.on) (by
          simp only [bindsOn, List.any_eq_true, Bool.and_eq_true]
          exact ⟨ed, h1, h2, Nat.beq_refl _⟩)
        omega
      · exact hS x hx
    · exact scanR_ge hreg r (i + 1) S hl' hS
theorem reachB_le {al : List Oper} (hreg : regOk al = true) {e f : Nat} (h : reachB al e f = true) : e ≤ f := by
  simp only [reachB, Bool.or_eq_true] at h
  rcases h with h | h
  · rw [Nat.eq_of_beq_eq_true h]; omega
  · exact scanR_ge hreg al 0 [e] (fun j o hj => by simpa using hj) (fun x hx => by simp at hx; omega) f (memN_iff.1 h)

theorem ldChk_all {al : List Oper} {j h : Nat} : ∀ {es : List (Nat × List HE)} {H : List HE} {acc : List Prop}, AllP (ldChk al j h H es acc) → AllP acc ∧
    ∀ (q e : Nat) (Hq L : List HE), (fstE es)[q]? = some e → (H :: es.map (·.2))[q]? = some Hq → (H :: es.map (·.2))[q + 1]? = some L → reachB al e j = false → reachB al j e = false → getH Hq h = getH L h
  | [], H, acc, ha => ⟨ha, fun q e Hq L hq => by simp [fstE] at hq⟩
  | (e, H') :: r, H, acc, ha => by
    simp only [ldChk] at ha
    have step : ∀ {acc'}, AllP (ldChk al j h H' r acc') → (AllP acc' → AllP acc ∧ (reachB al e j = false → reachB al j e = false → getH H h = getH H' h)) → AllP acc ∧
        ∀ (q e' : Nat) (Hq L : List HE), (fstE ((e, H') :: r))[q]? = some e' → (H :: ((e, H') :: r).map (·.2))[q]? = some Hq → (H :: ((e, H') :: r).map (·.2))[q + 1]? = some L → reachB al e' j = false → reachB al j e' = false → getH Hq h = getH L h := by
      intro acc' h1 h2
      obtain ⟨k1, k2⟩ := ldChk_all h1
      obtain ⟨k3, k4⟩ := h2 k1
      refine ⟨k3, fun q e' Hq L hq hHq hL r1 r2 => ?_⟩
      cases q with
      | zero =>
        simp [fstE] at hq hHq hL; subst hq; subst hHq; subst hL
        exact k4 r1 r2
      | succ q => exact k2 q e' Hq L (by simpa [fstE] using hq) (by simpa using hHq) (by simpa using hL) r1 r2
    split at ha
    · rename_i hr
      exact step ha fun h1 => ⟨h1, fun r1 => by rw [hr] at r1; simp at r1⟩
    · split at ha
      · rename_i hr
        exact step ha fun h1 => ⟨h1, fun _ r1 => by rw [hr] at r1; simp at r1⟩
      · exact step ha fun h1 => ⟨fun p hp => h1 p (by simp [hp]), fun _ _ => h1 _ (by simp)⟩

theorem ldAll_all {al : List Oper} {H : List HE} {es : List (Nat × List HE)} : ∀ {lds : List (Nat × Nat)} {acc : List Prop}, AllP (ldAll al H es lds acc) → AllP acc ∧ ∀ j h, (j, h) ∈ lds → ∃ acc', AllP (ldChk al j h H es acc')
  | [], acc, ha => ⟨ha, fun j h hm => by simp at hm⟩
  | (j, h) :: r, acc, ha => by
    simp only [ldAll] at ha
    obtain ⟨h1, h2⟩ := ldAll_all ha
    refine ⟨(ldChk_all h1).1, fun j' h' hm => ?_⟩
    simp only [List.mem_cons, Prod.mk.injEq] at hm
    rcases hm with ⟨rfl, rfl⟩ | hm
    · exact ⟨_, h1⟩
    · exact h2 j' h' hm

theorem meets_spec {al : List Oper} {j : Nat} {o : Oper} : ∀ {l : List Nat} {c : Nat}, meets al j o l c = true → ∀ (q e : Nat), l[q]? = some e → (q < c → reachB al j e = false) ∧ (c ≤ q → reachB al e j = false)
  | [], _, _, q, e, hq => by simp at hq
  | x :: r, 0, h, q, e, hq => by
    simp only [meets, Bool.and_eq_true, Bool.not_eq_true'] at h
    refine ⟨fun h0 => by omega, fun _ => ?_⟩
    cases q with
    | zero => simp at hq; subst hq; exact h.1.2
    | succ q => exact (meets_spec h.2 q e (by simpa using hq)).2 (by omega)
  | x :: r, c + 1, h, q, e, hq => by
    simp only [meets, Bool.and_eq_true, Bool.not_eq_true'] at h
    cases q with
    | zero => simp at hq; subst hq; exact ⟨fun _ => h.1.2, fun h0 => by omega⟩
    | succ q =>
      obtain ⟨k1, k2⟩ := meets_spec h.2 q e (by simpa using hq)
      exact ⟨fun h0 => k1 (by omega), fun h0 => k2 (by omega)⟩

theorem lastE_get : ∀ (es : List (Nat × List HE)) (H : List HE), (H :: es.map (·.2))[(fstE es).length]? = some (lastE H es)
  | [], H => by simp [fstE, lastE]
  | (e, H') :: r, H => by
    have := lastE_get r H'
    simpa [fstE, lastE] using this

theorem drawX_any {rec : St → List Prop × St} (hrec : RecOk hX rec) : DrawAny hX (drawX X rec) := by
  intro fn nt H0 R ρ0 w0 cs cs' al T T' H H' ob k h ho hk
  unfold drawX at h
  split at h
  · rename_i cs1 ob1 Tn es lds hrun
    split at h
    · rename_i hreg heff
      split at h
      case h_2 => simp at h
      rename_i obF HF hfp hfh
      have hfp' := forceP_eq hfp
      have hfh' := forceHs_eq hfh
      subst hfp'
      subst hfh'
      simp at h; obtain ⟨rfl, rfl, rfl, rfl⟩ := h
      obtain ⟨ho1, hld⟩ := ldAll_all ho
      have hdst : dstsOk al = true := by simp only [regOk, Bool.and_eq_true] at hreg; exact hreg.1
      obtain ⟨_, hF⟩ := drawRun_facts hX hrec hrun hdst ho1
      -- what is looked at stands ahead
      have huse : ∀ {j : Nat} {o : Oper}, al[j]? = some o → ∀ t, (t ∈ usesT o.op.operands.toList ∨ t ∈ guardT al o.guard) → ∀ o' ∈ al.drop j, o'.dst ≠ some t := by
        intro j o hj t ht o' ho' hd
        obtain ⟨m, hm⟩ := List.getElem?_of_mem ho'
        rw [List.getElem?_drop] at hm
        have hlt : j < al.length := by
          rcases Nat.lt_or_ge j al.length with h1 | h1
          · exact h1
          · rw [List.getElem?_eq_none h1] at hj; simp at hj
        have hr := hreg
        simp only [regOk, Bool.and_eq_true, List.all_eq_true] at hr
        have := hr.2 j (List.mem_range.2 hlt)
        rw [hj] at this
        simp only [Bool.and_eq_true] at this
        have hb : bindsOn o (j + m) = true := by
          rcases ht with ht | ht
          · exact usesOk_get this.1.2 ht hm hd
          · exact usesOk_get this.2 ht hm hd
        have := bind_back hreg hj hb
        omega
      refine draw_any (E := FEnv P X.TE hX.te fn nt H0 R ρ0 w0) (hps := H :: es.map (·.2)) (effs := fstE es) (Hl := lastE H es) hreg heff (by simp [fstE_map, Nat.beq_refl]) (by simp) (lastE_get es H) ?_ ?_ ?_ hk
      · intro t v hv hd
        rw [← hF.agree t (fun o ho => ?_)]
        · exact hv
        · obtain ⟨i, hi⟩ := List.getElem?_of_mem ho
          exact hd i o hi
      · intro c Hc hc j o hj hmem hmeets
        obtain ⟨Tj, Hj, c0, h1, h2, h3, h4, h5⟩ := hF.quiet j o hj (by simpa using hmem)
        rw [Nat.zero_add] at h5
        have hg : guardF al Tn o.guard = guardF al Tj o.guard := guardF_congr fun t ht => h3 t (huse hj t (.inr ht))
        have hsp := meets_spec hmeets
        refine dstep_qE (X := X) rfl hX.et hreg hj ?_
        rcases h4 with ⟨g1, g2⟩ | ⟨g1, b, v, g2, g3, g4⟩
        · exact .inl ⟨by rw [hg]; exact g1, g2⟩
        · refine .inr ⟨by rw [hg]; exact g1, b, v, ?_, g3, g4⟩
          have hcg : ∀ H, stepE X Tn H o.op = stepE X Tj H o.op := fun H => stepE_congr fun t ht => h3 t (huse hj t (.inl ht))
          rw [hcg]
          refine stepE_heap g2 fun x hx => ?_
          obtain ⟨acc, hacc⟩ := hld j x (h5 g1 x hx)
          have hch := (ldChk_all hacc).2
          have hlen : (fstE es).length = es.length := by rw [fstE_map]; simp
          have get : ∀ q, q ≤ es.length → ∃ Hq, (H :: es.map (·.2))[q]? = some Hq := by
            intro q hq
            have : q < (H :: es.map (·.2)).length := by simp; omega
            exact ⟨_, List.getElem?_eq_getElem this⟩
          have lt_of : ∀ {q : Nat} {Hq : List HE}, (H :: es.map (·.2))[q]? = some Hq → q ≤ es.length := by
            intro q Hq hq
            rcases Nat.lt_or_ge q (H :: es.map (·.2)).length with h1 | h1
            · simp at h1; omega
            · rw [List.getElem?_eq_none h1] at hq; simp at hq
          have step : ∀ q, q < es.length → (q < c → q < c0 → False) → (c0 ≤ q → c ≤ q → False) → ∀ Hq L, (H :: es.map (·.2))[q]? = some Hq → (H :: es.map (·.2))[q + 1]? = some L → getH Hq x = getH L x := by
            intro q hq n1 n2 Hq L hHq hL
            have hqe : q < (fstE es).length := by omega
            have he := List.getElem?_eq_getElem hqe
            have hiff := h2 q _ he
            rw [Nat.zero_add] at hiff
            have hne : (fstE es)[q] ≠ j := by
              intro e
              exact hmem (by rw [← e]; exact List.getElem_mem hqe)
            obtain ⟨m1, m2⟩ := hsp q _ he
            refine hch q _ Hq L he hHq hL ?_ ?_
            · by_cases hqc : c ≤ q
              · exact m2 hqc
              · -- q < c: then c0 ≤ q
                have h0 : ¬ q < c0 := fun h => n1 (by omega) h
                cases hb : reachB al (fstE es)[q] j with
                | false => rfl
                | true =>
                  have := reachB_le hreg hb
                  exact absurd (hiff.2 (by omega)) h0
            · by_cases hqc : q < c
              · exact m1 hqc
              · have h0 : q < c0 := by
                  rcases Nat.lt_or_ge q c0 with h | h
                  · exact h
                  · exact (n2 h (by omega)).elim
                cases hb : reachB al j (fstE es)[q] with
                | false => rfl
                | true =>
                  have := reachB_le hreg hb
                  have := hiff.1 h0
                  omega
          have chain : ∀ n a, (a + n ≤ es.length) → (∀ q, a ≤ q → q < a + n → (q < c → q < c0 → False) ∧ (c0 ≤ q → c ≤ q → False)) → ∀ Ha Hb, (H :: es.map (·.2))[a]? = some Ha → (H :: es.map (·.2))[a + n]? = some Hb → getH Ha x = getH Hb x := by
            intro n
            induction n with
            | zero => intro a _ _ Ha Hb ha hb; rw [Nat.add_zero, ha] at hb; simp at hb; rw [hb]
            | succ n ih =>
              intro a hle hq Ha Hb ha hb
              obtain ⟨Hm, hm⟩ := get (a + n) (by omega)
              rw [ih a (by omega) (fun q h1 h2 => hq q h1 (by omega)) Ha Hm ha hm]
              obtain ⟨n1, n2⟩ := hq (a + n) (by omega) (by omega)
              exact step (a + n) (by omega) n1 n2 Hm Hb hm hb
          have hl1 := lt_of h1
          have hl2 := lt_of hc
          rcases Nat.le_total c c0 with hle | hle
          · exact (chain (c0 - c) c (by omega) (fun q a1 a2 => ⟨fun b1 _ => by omega, fun b1 _ => by omega⟩) Hc Hj hc (by rw [show c + (c0 - c) = c0 from by omega]; exact h1)).symm
          · exact chain (c - c0) c0 (by omega) (fun q a1 a2 => ⟨fun _ b1 => by omega, fun _ b1 => by omega⟩) Hj Hc h1 (by rw [show c0 + (c - c0) = c from by omega]; exact hc)
      · intro c Hc Hc' hc hc' j o hj ho'
        have hje : ∃ L, es[c]? = some (j, L) := by
          rw [fstE_map] at hj
          simp at hj
          exact hj
        obtain ⟨L, hL⟩ := hje
        obtain ⟨j', o2, Tj, Hq, e1, e2, e3, e4, e5, e6⟩ := hF.eff c j L hL
        rw [Nat.zero_add] at e1; subst e1
        rw [ho'] at e2; simp at e2; subst e2
        rw [hc] at e3; simp at e3; subst e3
        have hLc : Hc' = L := by
          have : (H :: es.map (·.2))[c + 1]? = some L := by simp [hL]
          rw [hc'] at this; simpa using this
        subst hLc
        have hg : guardF al Tn o.guard = guardF al Tj o.guard := guardF_congr fun t ht => e4 t (huse ho' t (.inr ht))
        rcases e6 with ⟨e, b, T2, s1, s2, s3, s4⟩ | ⟨cc, f, as, V, s1, s2, ⟨fn', s3, s4, s5⟩, s6, s7⟩
        · have hcg : stepE X Tn Hc o.op = stepE X Tj Hc o.op := stepE_congr fun t ht => e4 t (huse ho' t (.inl ht))
          exact dstep_effE (X := X) rfl hX.et hreg ho' (by rw [hg]; exact e5) (by rw [hcg]; exact s1) s2 s3 s4
        · have hcc : calleeF Tn cc = calleeF Tj cc := callee_congr fun t ht => e4 t (huse ho' t (.inl (by rw [s1]; exact ht)))
          exact dstep_call hreg ho' (by rw [hg]; exact e5) s1 (by rw [hcc]; exact s2) s3 s4 s5 s6 s7
    · simp at h
  · simp at h

theorem drawX_ok {rec : St → List Prop × St} (hrec : RecOk hX rec) : DrawOk hX (drawX X rec) := by
  intro fn nt H0 R ρ0 w0 cs cs' al id T T' H H' ob k h ho hk ρ a w hs
  simp only [WK]
  exact wp_region_any hX.mo (drawX_any hX hrec fn nt H0 R ρ0 w0 cs cs' al T T' H H' ob k h ho hk ρ a w hs)

theorem splitL_eq : ∀ {al ini : List Oper} {last : Oper}, splitL al = some (ini, last) → al = ini ++ [last]
  | [], _, _, h => by simp [splitL] at h
  | [o], _, _, h => by simp [splitL] at h; obtain ⟨rfl, rfl⟩ := h; rfl
  | o :: p :: r, ini, last, h => by
    simp only [splitL] at h
    split at h
    · rename_i i l hr
      simp at h; obtain ⟨rfl, rfl⟩ := h
      have := splitL_eq (al := p :: r) hr
      rw [this]; rfl
    · simp at h

theorem lastB_ok {al : List Oper} {last : Oper} (hr : regOk al = true) (h : lastB al last = true) : LastOk al last ∧ ∀ i, bindsOn last i = true → i < al.length := by
  simp only [lastB, Bool.and_eq_true, List.all_eq_true, List.mem_range] at h
  obtain ⟨⟨h1, h2⟩, h3⟩ := h
  refine ⟨⟨fun j o ho i hi => bind_back hr ho hi, h1, fun j o ho i b hg => ?_⟩, fun i hi => ?_⟩
  · have := h3 o (List.mem_of_getElem? ho)
    rw [hg] at this
    exact blt_lt this
  · simp only [bindsOn, List.any_eq_true, Bool.and_eq_true] at hi
    obtain ⟨e, he1, he2, he3⟩ := hi
    have := h2 e he1
    rw [he2] at this
    have h4 := Nat.eq_of_beq_eq_true he3
    subst h4
    exact blt_lt (by simpa using this)

theorem drawY_ok {rec : St → List Prop × St} (hrec : RecOk hX rec) : DrawOk hX (drawY X rec) := by
  intro fn nt H0 R ρ0 w0 cs cs' al id T T' H H' ob k h ho hk
  unfold drawY at h
  split at h
  · exact drawX_ok hX hrec fn nt H0 R ρ0 w0 cs cs' al id T T' H H' ob k h ho hk
  · split at h
    · simp at h
    · rename_i ini last hsp
      split at h
      · simp at h
      · rename_i hlo
        simp only [Bool.and_eq_true] at hlo
        split at h
        · simp at h
        · rename_i cs1 ob1 Tn H1 hd
          split at h
          · simp at h
          · rename_i hg
            split at h
            · simp at h
            · rename_i e he
              split at h
              · simp at h
              · rename_i b T2 H2 ha
                simp at h; obtain ⟨rfl, rfl, rfl, rfl⟩ := h
                obtain ⟨ho1, ho2⟩ := addOP_all ho
                obtain ⟨hL, hlast⟩ := lastB_ok hlo.1 hlo.2
                have hal := splitL_eq hsp
                subst hal
                have hk' : SW (FEnv P X.TE hX.te fn nt H0 R ρ0 w0) (.ops (ini ++ [last]) [last] :: k) Tn H1 :=
                  sw_op (fun a _ => by unfold Region.wanted; rw [hg]) (fun ρ a w h => stepE_ok rfl hX.et h he) (afterF_eq ha) ho2 (fun ρ a w hs => hk ρ a w hs)
                intro ρ a w hs
                simp only [WK]
                refine wp_region_any hX.mo ?_
                have := drawX_any hX hrec fn nt H0 R ρ0 w0 cs cs1 ini T Tn H H1 ob1 _ hd ho1 hk' ρ a w hs
                have hw := wpAny_last (Q := WK P (FEnv P X.TE hX.te fn nt H0 R ρ0 w0).Q k) hL hlast (fun e he => by cases e <;> first | rfl | exact absurd rfl he) (fun a w hn => by
                  have hn : wpList P (ini ++ [last]).toArray (WK P (FEnv P X.TE hX.te fn nt H0 R ρ0 w0).Q k) [last] a w := hn
                  unfold wpOp
                  have ho : (ini ++ [last]).toArray[ini.length]? = some last := by simp
                  rw [ho]
                  exact hn) _ _ a _ (by simp) this
                have e1 : (ini ++ [last]).toArray.size = ini.toArray.size + 1 := by simp
                have e2 : Array.replicate (ini ++ [last]).toArray.size false = (Array.replicate ini.toArray.size false).push false := by
                  rw [e1, Array.replicate_succ]
                rw [e2, e1]; exact hw

theorem runX_ok : ∀ (n : Nat) (bk : List Bk) (Wb : (Nat → Nat × Nat) → World → Prop) (R0 : SV → List HE → Prop) (s : St) (ob : List Prop), AllP (runX X bk n s ob).1 → SS hX Wb R0 (runX X bk n s ob).2 → SS hX Wb R0 s ∧ AllP ob := by
  intro n
  induction n with
  | zero => intro bk Wb R0 s ob ho hs; exact ⟨hs, ho⟩
  | succ n ih =>
    intro bk Wb R0 s ob ho hs
    have hrec : RecOk hX (fun s => runX X [] n s []) := fun Wb R0 s h1 h2 => (ih [] Wb R0 s [] h1 h2).1
    unfold runX at ho hs
    split at ho
    case h_1 hst => rw [hst] at hs; exact ⟨hs, ho⟩
    rename_i hst
    rw [hst] at hs
    simp only at hs
    split at ho
    · rename_i h1
      rw [h1] at hs
      exact ⟨hs, ho⟩
    · rename_i ob' s' h1
      rw [h1] at hs
      simp only at hs
      split at ho
      · obtain ⟨h2, h3⟩ := ih bk Wb R0 s' _ ho hs
        exact ⟨step1_ok hX (drawY_ok hX hrec) h1 (fun p hp => by simp at hp) h2, h3⟩
      · rename_i hne
        split at ho
        · rename_i ob2 hf
          have hs' : SS hX Wb R0 (runX X bk n s' ob2).2 := by
            split at hs
            · exact absurd rfl hne
            · rw [hf] at hs; exact hs
          have hf' := forceP_eq hf
          subst hf'
          obtain ⟨h2, h3⟩ := ih bk Wb R0 s' _ ho hs'
          obtain ⟨h4, h5⟩ := addLP_all h3
          exact ⟨step1_ok hX (drawY_ok hX hrec) h1 h4 h2, h5⟩
        · rename_i hf
          have hs' : SS hX Wb R0 s := by
            split at hs
            · exact absurd rfl hne
            · rw [hf] at hs; exact hs
          exact ⟨hs', ho⟩

theorem runY_ok (n : Nat) (bk : List Bk) (Wb : (Nat → Nat × Nat) → World → Prop) (R0 : SV → List HE → Prop) (s : St) (ho : AllP (runY X bk n s).1) (hs : SS hX Wb R0 (runY X bk n s).2) : SS hX Wb R0 s := by
  unfold runY at ho hs
  split at ho
  · rename_i h1; rw [h1] at hs; exact hs
  · rename_i ob' s' h1
    rw [h1] at hs
    simp only at hs
    obtain ⟨h2, h3⟩ := runX_ok hX n bk Wb R0 s' _ ho hs
    exact step1_ok hX (drawY_ok hX fun Wb R0 s h1 h2 => (runX_ok hX n [] Wb R0 s [] h1 h2).1) h1 h3 h2

variable {Wb : (Nat → Nat × Nat) → World → Prop} {R : SV → List HE → Prop} {fn : Func} {nt : Nat} {H0 : List HE} {k : List KI} {T : List (Nat × SV)} {H : List HE} {cs : List Ch} {fs : List Fm}

/-- On, as far as it can be told, with these choices. -/
theorem sx (cs : List Ch) (n : Nat) {cs0 : List Ch} {ob : List Prop} {s' : St} (h : runY X [] n ⟨cs, fs, fn, nt, H0, k, T, H⟩ = (ob, s')) (ho : conjP ob) (hs : SS hX Wb R s') : SS hX Wb R ⟨cs0, fs, fn, nt, H0, k, T, H⟩ := by
  have := runY_ok hX n [] Wb R ⟨cs, fs, fn, nt, H0, k, T, H⟩
  rw [h] at this
  exact this (conjP_all ho) hs
/-- The same, to a place at most. -/
theorem sxb (bk : List Bk) (cs : List Ch) (n : Nat) {cs0 : List Ch} {ob : List Prop} {s' : St} (h : runY X bk n ⟨cs, fs, fn, nt, H0, k, T, H⟩ = (ob, s')) (ho : conjP ob) (hs : SS hX Wb R s') : SS hX Wb R ⟨cs0, fs, fn, nt, H0, k, T, H⟩ := by
  have := runY_ok hX n bk Wb R ⟨cs, fs, fn, nt, H0, k, T, H⟩
  rw [h] at this
  exact this (conjP_all ho) hs

/-- Where a function began. -/
def At (ρ0 : Nat → Nat × Nat) (w0 : World) : (Nat → Nat × Nat) → World → Prop := fun ρ w => ρ = ρ0 ∧ w = w0

/-- A function, from its first line. -/
theorem gives_x {f : Nat} {c : Code} {args : List SV} (hf : X.FT f = some fn) (hb : fn.body = some c) (hn : Nat.ble args.length fn.ntmps = true)
    {T0 : List (Nat × SV)} (hT : argTF nums args = some T0) (h : ∀ ρ0 w0, SS hX (At ρ0 w0) R ⟨[], [], fn, fn.ntmps, H, [.code c], T0, H⟩) : Gives P f args H R := by
  rw [argTF_nums hT] at h
  exact fn_intro hX.te (hX.ft f fn hf).1 hb _ rfl hn fun ρ w => h ρ w ρ w ⟨rfl, rfl⟩

theorem ss_sw {ρ0 : Nat → Nat × Nat} {w0 : World} (h : SW (FEnv P X.TE hX.te fn nt H0 R ρ0 w0) k T H) : SS hX (At ρ0 w0) R ⟨cs, [], fn, nt, H0, k, T, H⟩ := by
  rintro ρ w ⟨rfl, rfl⟩; exact h
theorem sw_ss {ρ0 : Nat → Nat × Nat} {w0 : World} (h : SS hX (At ρ0 w0) R ⟨cs, [], fn, nt, H0, k, T, H⟩) : SW (FEnv P X.TE hX.te fn nt H0 R ρ0 w0) k T H := h ρ0 w0 ⟨rfl, rfl⟩

/-- A bool that is not told, both ways. -/
theorem ss_bool (t : Nat) {b : Bool} (hl : look T t = some (.bool b)) (ht : b = true → SS hX Wb R ⟨[], fs, fn, nt, H0, k, (t, .tt) :: T, H⟩) (hf : b = false → SS hX Wb R ⟨[], fs, fn, nt, H0, k, (t, .ff) :: T, H⟩) :
    SS hX Wb R ⟨cs, fs, fn, nt, H0, k, T, H⟩ := fun ρ w hw => sw_bool t hl (fun h => ht h ρ w hw) (fun h => hf h ρ w hw)

/-- A branch upon a bool that is not told. -/
theorem ss_cond {t : Nat} {a c : Code} {b : Bool} (hl : look T t = some (.bool b)) (ht : b = true → SS hX Wb R ⟨[], fs, fn, nt, H0, .code a :: k, (t, .tt) :: T, H⟩) (hf : b = false → SS hX Wb R ⟨[], fs, fn, nt, H0, .code c :: k, (t, .ff) :: T, H⟩) :
    SS hX Wb R ⟨cs, fs, fn, nt, H0, .code (.cond (.tmp t) a c) :: k, T, H⟩ := by
  refine ss_bool hX t hl (fun h => ?_) (fun h => ?_)
  · exact fun ρ w hw ρ1 a1 w1 hs => wp_cond_true (ev_tr hs.ts (x := .tmp t) (v := .tt) (by simp [ev, look_cons])).1 (ht h ρ w hw ρ1 a1 w1 hs)
  · exact fun ρ w hw ρ1 a1 w1 hs => wp_cond_false (ev_tr hs.ts (x := .tmp t) (v := .ff) (by simp [ev, look_cons])).1 (hf h ρ w hw ρ1 a1 w1 hs)


/-- Less is known, under other names. -/
theorem ss_sub {ρ0 : Nat → Nat × Nat} {w0 : World} {T' : List (Nat × SV)} {H' : List HE} (σs : List Nat) (hlen : Nat.beq σs.length H'.length = true) (hnd : nodupN σs = true)
    (hb : fromN H0.length 0 σs = true) (hb' : leH H0 H' = true) (hT : subT (sig σs 0) T T') (hH : subH (sig σs 0) H 0 H') (hok1 : okTP (thereF H') T') (hok2 : okHP (thereF H') H')
    (h : SS hX (At ρ0 w0) R ⟨[], [], fn, nt, H0, k, T', H'⟩) : SS hX (At ρ0 w0) R ⟨cs, [], fn, nt, H0, k, T, H⟩ :=
  ss_sw hX (sw_sub (sub_of (E := FEnv P X.TE hX.te fn nt H0 R ρ0 w0) σs hlen hnd hb hb' hT hH hok1 hok2) (sw_ss hX h))

/-- A loop: what is known at its head hangs on x; the round is told by 'back'. -/
theorem ss_loop {ρ0 : Nat → Nat × Nat} {w0 : World} {body : Code} {α : Type} (Tf : α → List (Nat × SV)) (Hf : α → List HE) (Inv : α → Prop) (μ : α → Nat) (x0 : α) (h0 : Inv x0)
    (round : ∀ x, Inv x → ∀ I : Act → World → Prop,
      (∀ x', Inv x' → μ x' < μ x → ∀ cs T H, (Sub (FEnv P X.TE hX.te fn nt H0 R ρ0 w0) T H (Tf x') (Hf x')) → SS hX (At ρ0 w0) R ⟨cs, [], fn, nt, H0, .lp I :: k, T, H⟩) →
      SS hX (At ρ0 w0) R ⟨[], [], fn, nt, H0, .code body :: .lp I :: k, Tf x, Hf x⟩) :
    SS hX (At ρ0 w0) R ⟨cs, [], fn, nt, H0, .code (.loop body) :: k, Tf x0, Hf x0⟩ := by
  refine ss_sw hX (sw_loop (E := FEnv P X.TE hX.te fn nt H0 R ρ0 w0) Tf Hf Inv μ x0 h0 fun x hx => ?_)
  refine sw_ss hX (cs := []) (round x hx _ fun x' h1 h2 cs T H hsub => ss_sw hX (sw_lp x' h1 h2 hsub))

/-- Ways that meet at one place, k'. -/
theorem ss_via {ρ0 : Nat → Nat × Nat} {w0 : World} {k' : List KI} {α : Type} (Tj : α → List (Nat × SV)) (Hj : α → List HE) (Q : α → Prop)
    (first : (∀ x, Q x → ∀ cs T H, (Sub (FEnv P X.TE hX.te fn nt H0 R ρ0 w0) T H (Tj x) (Hj x)) → SS hX (At ρ0 w0) R ⟨cs, [], fn, nt, H0, k', T, H⟩) → SS hX (At ρ0 w0) R ⟨cs, [], fn, nt, H0, k, T, H⟩)
    (rest : ∀ x, Q x → SS hX (At ρ0 w0) R ⟨[], [], fn, nt, H0, k', Tj x, Hj x⟩) : SS hX (At ρ0 w0) R ⟨cs, [], fn, nt, H0, k, T, H⟩ :=
  first fun x hx _cs _ _ hsub => ss_sw hX (sw_sub hsub (sw_ss hX (rest x hx)))


/-- The end. -/
theorem ss_ret {ob : List Prop} {vs : List SV} (hk : isRet fn k = true) (hr : resF X.TE fn.results.toList T H = some (ob, vs)) (ho : conjP ob) (hR : R (tupF vs) H) : SS hX Wb R ⟨cs, [], fn, nt, H0, k, T, H⟩ :=
  sfn_ret hX hk hr (conjP_all ho) hR

/-- The end, told otherwise: the same value, the same heap, under other names. -/
theorem ss_end {V : SV} {L : List HE} {ob : List Prop} {vs : List SV} (σs : List Nat) (hk : isRet fn k = true) (hr : resF X.TE fn.results.toList T H = some (ob, vs)) (ho : conjP ob)
    (hlen : Nat.beq σs.length L.length = true) (hnd : nodupN σs = true) (hb : fromN H0.length 0 σs = true) (hb' : leH H0 L = true)
    (hv : sim (tupF vs) (V.ren (sig σs 0))) (hH : subH (sig σs 0) H 0 L) (hok1 : okP (thereF L) V) (hok2 : okHP (thereF L) L) : SS hX Wb (Is V L) ⟨cs, [], fn, nt, H0, k, T, H⟩ := by
  intro ρ0 w0 hw
  have hsub := subS_of (E := FEnv P X.TE hX.te fn nt H0 (Is V L) ρ0 w0) (T := T) (T' := []) (H := H) (H' := L) σs hlen hnd hb hb' trivial hH trivial hok2
  intro ρ a w hsat
  have post : bodyPost P fn (FnPost w0 ρ0 H0 (Is V L)) .ret a w := by
    obtain ⟨h1, h2⟩ := results_ok hsat hr (conjP_all ho)
    have hs := hsub ρ a w hsat
    have hfun : thereF L = there L := funext (thereF_eq L)
    refine ⟨hsat.ts.def0, _, h1, _, L, V, ⟨rfl, rfl⟩, ?_, by rw [← hfun]; exact okP_okh V hok1, hs.hs, hs.base⟩
    rw [(sim_tr (A := fun _ => true) hv).1, tr_ren]
  unfold isRet at hk
  split at hk
  · exact post
  · split at hk
    · exact wp_ret (WK_ret post _)
    · simp at hk
  · simp at hk
end
end Go.Hx

/-
  The table of functions, as a tree.
-/
namespace Go.Hx
open Go

inductive FTr where
  | leaf (f : Option Func)
  | node (l r : FTr)
def FTr.get : FTr → Nat → Option Func
  | .leaf i, 0 => i
  | .leaf _, _ + 1 => none
  | .node l r, t => match t % 2 with
    | 0 => l.get (t / 2)
    | _ => r.get (t / 2)
def FTr.ok (P : Program) : FTr → Nat → Nat → Prop
  | .leaf i, b, _ => match i with
    | some fn => P.funcs[b]? = some fn ∧ (fn.name == "runtime.NumGoroutine") = false ∧ fn.body.isSome = true
    | none => True
  | .node l r, b, s => l.ok P b (2 * s) ∧ r.ok P (b + s) (2 * s)
theorem FTr.ok_get {P : Program} : ∀ {x : FTr} {b s : Nat}, x.ok P b s → ∀ t fn, x.get t = some fn → P.funcs[b + s * t]? = some fn ∧ (fn.name == "runtime.NumGoroutine") = false ∧ fn.body.isSome = true
  | .leaf i, b, s, h, 0, fn, hg => by
    simp only [FTr.get] at hg
    subst hg
    simpa [FTr.ok] using h
  | .leaf i, b, s, h, t + 1, fn, hg => by simp [FTr.get] at hg
  | .node l r, b, s, h, t, fn, hg => by
    simp only [FTr.get] at hg
    obtain ⟨h1, h2⟩ := h
    split at hg
    · rename_i h0
      have := FTr.ok_get h1 (t / 2) fn hg
      have e : b + 2 * s * (t / 2) = b + s * t := by
        have h3 : t = 2 * (t / 2) := by omega
        calc b + 2 * s * (t / 2) = b + s * (2 * (t / 2)) := by rw [Nat.mul_comm 2 s, Nat.mul_assoc]
          _ = b + s * t := by rw [← h3]
      rw [e] at this; exact this
    · rename_i h0
      have := FTr.ok_get h2 (t / 2) fn hg
      have e : b + s + 2 * s * (t / 2) = b + s * t := by
        have h4 : ¬ t % 2 = 0 := h0
        have h3 : t = 2 * (t / 2) + 1 := by omega
        calc b + s + 2 * s * (t / 2) = b + (s * (2 * (t / 2)) + s * 1) := by rw [Nat.mul_comm 2 s, Nat.mul_assoc, Nat.mul_one, Nat.add_assoc, Nat.add_comm s]
          _ = b + s * (2 * (t / 2) + 1) := by rw [← Nat.mul_add]
          _ = b + s * t := by rw [← h3]
      rw [e] at this; exact this
theorem ft_of_ok {P : Program} {x : FTr} (h : x.ok P 0 1) : ∀ f fn, x.get f = some fn → P.funcs[f]? = some fn ∧ (fn.name == "runtime.NumGoroutine") = false ∧ fn.body.isSome = true := by
  intro f fn hg
  have := FTr.ok_get h f fn hg
  rw [Nat.zero_add, Nat.one_mul] at this
  exact this

/-- Tables without what is known of functions. -/
def tabs (x : Tr) (f : FTr) (xt : Nat → Option XK) (et : Nat → Option (List (Option IntKind))) (ct : Nat → Option Spec) (un : Nat) : Tabs := ⟨x.get, f.get, ct, xt, et, un⟩
end Go.Hx

/-
  From the row's words to the heap machine's: arguments of plain data, opened.
-/
namespace Go.Hx
open Go Go.RowKit

/-- Plain values: integers of a kind (some), bools (none), each in its bounds. -/
def okK : List (Option IntKind) → List SV → Prop
  | [], [] => True
  | some k :: ks, v :: l => (∃ n, v = .int k n ∧ (Lit.int k n).wf = true) ∧ okK ks l
  | none :: ks, v :: l => (∃ b, v = .bool b) ∧ okK ks l
  | _, _ => False

theorem okK_append : ∀ {ks ks' : List (Option IntKind)} {l l' : List SV}, okK ks l → okK ks' l' → okK (ks ++ ks') (l ++ l')
  | [], ks', [], l', _, h => h
  | some k :: ks, ks', v :: l, l', h, h' => ⟨h.1, okK_append h.2 h'⟩
  | none :: ks, ks', v :: l, l', h, h' => ⟨h.1, okK_append h.2 h'⟩
  | some _ :: _, _, [], _, h, _ => by simp [okK] at h
  | none :: _, _, [], _, h, _ => by simp [okK] at h
  | [], _, _ :: _, _, h, _ => by simp [okK] at h
theorem okK_closed : ∀ {ks : List (Option IntKind)} {l : List SV}, okK ks l → ∀ v ∈ l, SV.okh (fun _ => false) v = true
  | [], [], _ => by simp
  | some k :: ks, v :: l, h => by
    intro u hu
    simp only [List.mem_cons] at hu
    rcases hu with rfl | hu
    · obtain ⟨n, rfl, _⟩ := h.1; rfl
    · exact okK_closed h.2 u hu
  | none :: ks, v :: l, h => by
    intro u hu
    simp only [List.mem_cons] at hu
    rcases hu with rfl | hu
    · obtain ⟨n, rfl⟩ := h.1; rfl
    · exact okK_closed h.2 u hu
  | some _ :: _, [], h => by simp [okK] at h
  | none :: _, [], h => by simp [okK] at h
  | [], _ :: _, h => by simp [okK] at h

/-- What a plain type is made of. -/
def flatK (P : Program) : Nat → TypeId → Option (List (Option IntKind))
  | 0, _ => none
  | n + 1, t => match P.underlying t with
    | some (.int k) => some [some k]
    | some .bool => some [none]
    | some (.struct fs) => fs.toList.foldr (fun f (r : Nat → Option (List (Option IntKind))) off =>
        if f.offset == off then (match flatK P n f.type with
          | some ks => if P.cellsOf f.type == ks.length then (match r (off + ks.length) with | some r' => some (ks ++ r') | none => none) else none
          | none => none) else none) (fun off => if P.cellsOf t == off then some [] else none) 0
    | some (.array m e) => match flatK P n e with
      | some ks => if P.cellsOf e == ks.length && P.cellsOf t == m * ks.length then some ((List.replicate m ks).flatten) else none
      | none => none
    | _ => none

section
variable {H : Type} {enc : TypeId × Value → H} {P : Program} {w : World} {base : Nat} {spare : Nat → Bool} {held : Bool}


theorem flat_open : ∀ (n : Nat) {t : TypeId} {ks : List (Option IntKind)} {fuel : Nat} {cs : List Value} {x : DataW H × List MemPlace}, flatK P n t = some ks → DataW.trod enc P w base spare held fuel t cs = some x →
    ∃ l, okK ks l ∧ cs = SV.trs (fun _ => (0, 0)) l := by
  intro n
  induction n with
  | zero => intro t ks fuel cs x h; simp [flatK] at h
  | succ n ih =>
    intro t ks fuel cs x h hx
    unfold flatK at h
    split at h
    · rename_i k hu
      simp at h; subst h
      obtain ⟨m, rfl, _, hwf⟩ := DataW.trod_int hu hx
      exact ⟨[.int k m], ⟨⟨m, rfl, hwf⟩, trivial⟩, rfl⟩
    · rename_i hu
      simp at h; subst h
      obtain ⟨b, rfl, _⟩ := DataW.trod_bool hu hx
      exact ⟨[.bool b], ⟨⟨b, rfl⟩, trivial⟩, rfl⟩
    · rename_i fs hu
      obtain ⟨xs, m, _, _, hlen, _, hf⟩ := DataW.trod_struct hu hx
      -- the fields, from an offset on
      have key : ∀ (l : List Field) (off : Nat) (ks : List (Option IntKind)), (∀ f ∈ l, ∃ y, DataW.trod enc P w base spare held m f.type ((cs.drop f.offset).take (P.cellsOf f.type)) = some y) →
          l.foldr (fun f (r : Nat → Option (List (Option IntKind))) off =>
            if f.offset == off then (match flatK P n f.type with
              | some ks => if P.cellsOf f.type == ks.length then (match r (off + ks.length) with | some r' => some (ks ++ r') | none => none) else none
              | none => none) else none) (fun off => if P.cellsOf t == off then some [] else none) off = some ks →
          ∃ v, okK ks v ∧ cs.drop off = SV.trs (fun _ => (0, 0)) v := by
        intro l
        induction l with
        | nil =>
          intro off ks _ hk
          simp only [List.foldr_nil] at hk
          split at hk
          · rename_i he
            simp at hk; subst hk
            have he' : P.cellsOf t = off := by simpa using he
            refine ⟨[], trivial, ?_⟩
            rw [List.drop_eq_nil_of_le (by omega)]; rfl
          · simp at hk
        | cons f l ihl =>
          intro off ks hall hk
          simp only [List.foldr_cons] at hk
          split at hk
          · rename_i ho
            have ho' : f.offset = off := by simpa using ho
            split at hk
            · rename_i kf hkf
              split at hk
              · rename_i hc
                have hc' : P.cellsOf f.type = kf.length := by simpa using hc
                split at hk
                · rename_i r' hr
                  simp at hk; subst hk
                  obtain ⟨y, hy⟩ := hall f (by simp)
                  obtain ⟨v1, h1, e1⟩ := ih hkf hy
                  obtain ⟨v2, h2, e2⟩ := ihl (off + kf.length) r' (fun g hg => hall g (by simp [hg])) hr
                  refine ⟨v1 ++ v2, okK_append h1 h2, ?_⟩
                  rw [ho', hc'] at e1
                  rw [trs_append, ← e1, ← e2, ← List.drop_drop, List.take_append_drop]
                · simp at hk
              · simp at hk
            · simp at hk
          · simp at hk
      obtain ⟨v, h1, h2⟩ := key fs.toList 0 ks (fun f hfm => by
        obtain ⟨i, hi⟩ := List.getElem?_of_mem hfm
        have hi' : fs[i]? = some f := by simpa using hi
        have := hf i f hi'
        have hlt : i < xs.length := by
          have := (Array.getElem?_eq_some_iff.1 hi').1
          omega
        rw [List.getElem?_eq_getElem hlt] at this
        exact ⟨_, this⟩) h
      exact ⟨v, h1, by simpa using h2⟩
    · rename_i m e hu
      split at h
      · rename_i ke hke
        split at h
        · rename_i hc
          simp at h; subst h
          simp only [Bool.and_eq_true, beq_iff_eq] at hc
          obtain ⟨xs, m', _, _, hlen, hxl, hf⟩ := DataW.trod_array hu hx
          have hel : ∀ i, i < m → ∃ v, okK ke v ∧ (cs.drop (i * ke.length)).take ke.length = SV.trs (fun _ => (0, 0)) v := by
            intro i hi
            have := hf i hi
            rw [List.getElem?_eq_getElem (by omega), hc.1] at this
            exact ih hke this
          have key : ∀ j, j ≤ m → ∃ v, okK ((List.replicate j ke).flatten) v ∧ cs.take (j * ke.length) = SV.trs (fun _ => (0, 0)) v := by
            intro j
            induction j with
            | zero => intro _; exact ⟨[], trivial, by simp [SV.trs]⟩
            | succ j ihj =>
              intro hj
              obtain ⟨v1, h1, e1⟩ := ihj (by omega)
              obtain ⟨v2, h2, e2⟩ := hel j (by omega)
              refine ⟨v1 ++ v2, ?_, ?_⟩
              · rw [List.replicate_succ', List.flatten_append]
                simpa using okK_append h1 h2
              · rw [Nat.succ_mul, List.take_add, e1, e2, trs_append]
          obtain ⟨v, h1, h2⟩ := key m (Nat.le_refl m)
          refine ⟨v, h1, ?_⟩
          rw [← h2, List.take_of_length_le (by omega)]
        · simp at h
      · simp at h
    · simp at h
end
end Go.Hx

/-
  A call's arguments, as the row hands them in: integers, bools, plain values, slices of plain values.
-/
namespace Go.Hx
open Go Go.RowKit Go.ChangeShapes Go.WideShapes

section
variable {H : Type} {enc : TypeId × Value → H} {P : Program} {w : World} {t : TypeId} {v : Value} {d : DataW H} {ps : List MemPlace}


theorem okK_okhs {ks : List (Option IntKind)} {l : List SV} (h : okK ks l) : SV.okhs (fun _ => false) l = true := (okhs_iff l).2 (okK_closed h)

/-- A plain value that is passed as it is. -/
theorem arg_agg {ks : List (Option IntKind)} (n : Nat) (hk : flatK P n t = some ks) (ha : ∃ cs, v = .agg cs) (h : DataW.Trod enc P w 0 (fun _ => true) true t v d ps) :
    ∃ l, okK ks l ∧ v = SV.tr (fun _ => (0, 0)) (.agg l) := by
  obtain ⟨cs, rfl⟩ := ha
  obtain ⟨fuel, hf⟩ := h
  obtain ⟨l, h1, h2⟩ := flat_open n hk hf
  refine ⟨l, h1, ?_⟩
  simp only [SV.tr, ← h2, Value.cells]

theorem arg_array {m : Nat} {e : TypeId} (ht : P.underlying t = some (.array m e)) {r : Reach} {base : Nat} (h : Value.okWide P w r base t v) : ∃ cs, v = .agg cs := by
  simp only [Value.okWide, ht] at h
  obtain ⟨cs, h1, _⟩ := h
  exact ⟨cs, h1⟩


theorem add_nil {x : Addr} (hs : x.spot = none) (i : Nat) : x.add i = ⟨x.block, x.off + i, none⟩ := by
  obtain ⟨b, o, s⟩ := x
  simp only at hs; subst hs
  exact add_off b o i
theorem spot_none {x : Addr} {u : Value} (h : w.cell? x = some u) : x.spot = none := by
  unfold World.cell? at h
  split at h
  · split at h
    · simp at h
    · rename_i h2; simpa using h2
  · simp at h



/-- A slice of integers. -/
def ArgInts (w : World) (k : IntKind) (a : Option Addr) (len cap : Nat) : Prop :=
  (len = 0 ∧ cap = 0) ∨ ∃ (b o : Nat) (zs : List Int), a = some ⟨b, o, none⟩ ∧ len ≤ cap ∧ 0 < cap ∧ cap ≤ maxLen ∧ b < w.heap.size ∧ zs.length = len ∧ (∀ n ∈ zs, (Lit.int k n).wf = true) ∧
    ∀ i n, zs[i]? = some n → w.cell? ⟨b, o + i, none⟩ = some (.int k n)

theorem arg_ints {e : TypeId} {k : IntKind} {a : Option Addr} {len cap : Nat} (ht : P.underlying t = some (.slice e)) (he : P.underlying e = some (.int k)) (hc : P.cellsOf e = 1)
    (h : DataW.Trod enc P w 0 (fun _ => true) true t (.slice a len cap) d ps) : ArgInts w k a len cap := by
  obtain ⟨fuel, hf⟩ := h
  rcases open_ints ht he hc hf with ⟨h1, _⟩ | ⟨x, l, c, zs, h1, _, hl, hm, hz, _, hcell, hwz⟩
  · simp [Value.cells] at h1
    exact .inl ⟨h1.2.1, h1.2.2⟩
  · simp [Value.cells] at h1
    obtain ⟨rfl, rfl, rfl⟩ := h1
    simp only [if_true] at hz
    by_cases h0 : cap = 0
    · exact .inl ⟨by omega, h0⟩
    have hsp : x.spot = none := by
      have := spot_none (hcell 0 (by omega))
      simpa [Addr.add] using this
    refine .inr ⟨x.block, x.off, zs.take len, ?_, hl, by omega, hm, ?_, by simp; omega, fun n hn => hwz n (List.mem_of_mem_take hn), fun i n hi => ?_⟩
    · obtain ⟨b, o, s⟩ := x
      simp only at hsp; subst hsp; rfl
    · have := hcell 0 (by omega)
      rw [add_nil hsp] at this
      exact block_lt_of_cell (a := ⟨x.block, x.off + 0, none⟩) this
    · rw [List.getElem?_take] at hi
      split at hi
      · rename_i hlt
        have := hcell i (by omega)
        rw [add_nil hsp] at this
        rw [this, List.getD_eq_getElem?_getD, hi]; rfl
      · simp at hi
end


theorem own_one {ρ : Nat → Nat × Nat} {o : SO} (h : o.owned = false) : ∀ b, ¬ Own ρ [HE.obj o] b :=
  own_none fun i u hu => by
    cases i with
    | zero => simp at hu; subst hu; exact h
    | succ i => simp at hu



/-- One slice of integers. -/
theorem calls_ints {P : Program} {f : Nat} {pre post : List SV} {k : IntKind} {w : World} {a : Option Addr} {len cap : Nat} (h : ArgInts w k a len cap)
    (g0 : Gives P f (pre ++ .raw (.slice a 0 0) :: post) [] (Is .tt [])) (hpre : SV.okhs (fun _ => false) pre = true) (hpost : SV.okhs (fun _ => false) post = true)
    (g1 : ∀ (z : List Int), z.length = len → (∀ n ∈ z, (Lit.int k n).wf = true) → len ≤ maxLen → ∃ L, Gives P f (pre ++ .slice 0 0 len cap :: post) [.obj (.winI k z)] (Is .tt L)) :
    Calls P f (SV.trs (fun _ => (0, 0)) pre ++ Value.slice a len cap :: SV.trs (fun _ => (0, 0)) post).toArray w fun e w' => e = .returned (.bool true) ∧ Below w.heap.size w w' := by
  have mono : ∀ (A : Nat → Bool) (l : List SV), SV.okhs (fun _ => false) l = true → SV.okhs A l = true := by
    intro A l hl
    rw [okhs_iff] at hl ⊢
    exact fun v hv => okh_mono (A := fun _ => false) (fun x hx => by simp at hx) v (hl v hv)
  rcases h with ⟨rfl, rfl⟩ | ⟨b, o, z, rfl, hl, h0, hm, hb, hz, hwz, hc⟩
  · refine calls_true (fun _ => (0, 0)) g0 (hsat_nil w _) ?_ (own_none fun i o h => by simp at h) ?_
    · rw [okhs_append, mono _ _ hpre]; simp [SV.okhs, SV.okh, mono _ _ hpost]
    · rw [trs_append]; rfl
  · obtain ⟨L, hg⟩ := g1 z hz hwz (by omega)
    refine calls_true (fun _ => (b, o)) hg (hsat_winI hb hc) ?_ (own_one rfl) ?_
    · rw [okhs_append, mono _ _ hpre]; simp [SV.okhs, SV.okh, mono _ _ hpost, there, HE.there]
    · rw [trs_append, trs_congr (A := fun _ => false) (fun x hx => by simp at hx) pre hpre]
      simp only [SV.trs, SV.tr]
      rw [trs_congr (A := fun _ => false) (fun x hx => by simp at hx) post hpost (ρ := fun _ => (b, o)) (ρ' := fun _ => (0, 0))]
      rfl
end Go.Hx

/-
  A contract over a small heap, in a larger one.
-/
namespace Go.Hx
open Go

theorem gives_frame {P : Program} {f : Nat} {as cargs : List SV} {H Hc L : List HE} {V : SV} (hT : ∃ TE : Nat → TI, ∀ t, TIok P t (TE t)) (hF : Gives P f cargs Hc (Is V L)) (σs : List Nat) (hargs : as = SV.rens (nm σs H) cargs) (hcok : SV.okhs (there Hc) cargs = true)
    (hlen : σs.length = Hc.length) (hobj : allObj Hc = true) (hokc : okHs (there Hc) Hc = true) (hnd : nodupN σs = true) (hsub : subC (nm σs H) H 0 Hc) (hnew : newOk (L.drop σs.length) = true) :
    Gives P f as H (Is (V.ren (nm σs H)) (merge (nm σs H) σs H L)) := by
  intro ρ w hS hok
  obtain ⟨TE, hTE⟩ := hT
  have hsub' : ∀ (h : Nat) (o : SO), Hc[h]? = some (.obj o) → H[sig σs H.length h]? = some (.obj (o.ren (sig σs H.length))) := fun h o ho => by
    have := subC_get hsub h o ho
    simpa [nm] using this
  have hthc : ∀ h, there Hc h = true → there H (sig σs H.length h) = true := fun h hh => by
    obtain ⟨o, ho⟩ := allObj_get hobj (there_lt hh)
    exact there_of_obj (hsub' h o ho)
  have hSc : HSat w (Own (fun x => ρ (sig σs H.length x)) Hc) (fun x => ρ (sig σs H.length x)) Hc w := by
    refine ⟨fun h o ho => ⟨(SO.holds_ren o).1 (hS.objs _ _ (hsub' h o ho)).1, okHs_get hokc ho⟩, fun h hh => hS.size _ (hthc h hh), ?_, fun h o ho hoo => .inl ⟨h, o, ho, hoo, rfl⟩, Fr.refl _ _⟩
    intro h h' o o' hh hh' e
    have := hS.inj _ _ _ _ (hsub' h o hh) (hsub' h' o' hh') e
    have l1 : h < σs.length := by rw [hlen]; exact there_lt (there_of_obj hh)
    have l2 : h' < σs.length := by rw [hlen]; exact there_lt (there_of_obj hh')
    have g1 := sig_lt (b := H.length) l1
    have g2 := sig_lt (b := H.length) l2
    rw [this] at g1
    exact nodupN_get hnd g1 g2
  have he : SV.trs ρ as = SV.trs (fun x => ρ (sig σs H.length x)) cargs := by rw [hargs, trs_rens]; rfl
  rw [he]
  refine Calls.mono (hF (fun x => ρ (sig σs H.length x)) w hSc hcok) fun e w' he => ?_
  cases e with
  | panicked c => exact he
  | outgrown => exact he
  | returned V' =>
    obtain ⟨ρc, Hn, v, ⟨rfl, rfl⟩, rfl, hvok, hSn, hb⟩ := he
    have hs : Sat (E := ⟨P, TE, 0, fun _ _ _ => True, w, Own ρ H, H, ρ, hTE⟩) ρ [] H ⟨#[], []⟩ w := ⟨hS, ⟨fun t v h => by simp [look] at h, rfl, rfl⟩, fun h hh => ⟨rfl, hh⟩⟩
    obtain ⟨ρ', m1, m2, m3, m4⟩ := merge_sat hs hlen hobj hnd hsub' hSn hb hnew
    refine ⟨ρ', _, _, ⟨rfl, rfl⟩, ?_, ?_, m1, fun h hh => ⟨(m2 h hh).symm, m3 h hh⟩⟩
    · rw [tr_ren]
      exact (tr_congr (fun h hh => (m4 h hh).1) v hvok).symm
    · rw [okh_ren]
      exact okh_mono (fun h hh => (m4 h hh).2) v hvok

mutual
theorem ren_closed (σ : Nat → Nat) : ∀ {v : SV}, v.okh (fun _ => false) = true → v.ren σ = v
  | .ptr x o, hv => by simp [SV.okh] at hv
  | .rptr x o i s c, hv => by simp [SV.okh] at hv
  | .bptr x i s c, hv => by simp [SV.okh] at hv
  | .sbuf x s o l, hv => by simp [SV.okh] at hv
  | .slice x o l c, hv => by simp [SV.okh] at hv
  | .map x, hv => by simp [SV.okh] at hv
  | .func fn a c, hv => by simp [SV.okh] at hv; simp [SV.ren, rens_closed σ hv.1, rens_closed σ hv.2]
  | .iface t v, hv => by simp [SV.okh] at hv; simp [SV.ren, ren_closed σ hv]
  | .agg l, hv => by simp [SV.okh] at hv; simp [SV.ren, rens_closed σ hv]
  | .tup l, hv => by simp [SV.okh] at hv; simp [SV.ren, rens_closed σ hv]
  | .tt, _ | .ff, _ | .bool _, _ | .int _ _, _ | .str _, _ | .nilptr, _ | .nilslice, _ | .nilmap, _ | .nilfunc, _ | .niliface, _ | .raw _, _ => by simp [SV.ren]
theorem rens_closed (σ : Nat → Nat) : ∀ {l : List SV}, SV.okhs (fun _ => false) l = true → SV.rens σ l = l
  | [], _ => rfl
  | v :: r, hv => by simp [SV.okhs] at hv; simp [SV.rens, ren_closed σ hv.1, rens_closed σ hv.2]
end

/-- A contract that reaches no memory, in any heap. -/
theorem gives_pure {P : Program} {f : Nat} {args : List SV} {V : SV} (hT : ∃ TE : Nat → TI, ∀ t, TIok P t (TE t)) (h : Gives P f args [] (Is V [])) (ha : SV.okhs (fun _ => false) args = true) (hv : V.okh (fun _ => false) = true) (H : List HE) :
    Gives P f args H (Is V H) := by
  have hth : there ([] : List HE) = fun _ => false := funext fun x => by simp [there]
  have := gives_frame (H := H) hT h [] (rens_closed _ ha).symm (by rw [hth]; exact ha) rfl rfl rfl rfl trivial rfl
  rw [ren_closed _ hv] at this
  simpa [merge, setAll] using this

/-- What a function that reaches no memory gives, as a table's row. -/
def pureS (g : List SV → Option (List Prop × SV)) : Spec := fun args H => match g args with
  | some (ob, v) => some (ob, v, H)
  | none => none

theorem pureS_ok {P : Program} {f : Nat} {g : List SV → Option (List Prop × SV)} (hT : ∃ TE : Nat → TI, ∀ t, TIok P t (TE t))
    (h : ∀ args ob V, g args = some (ob, V) → AllP ob → SV.okhs (fun _ => false) args = true ∧ V.okh (fun _ => false) = true ∧ Gives P f args [] (Is V []))
    {args : List SV} {H : List HE} {ob : List Prop} {V : SV} {L : List HE} (hs : pureS g args H = some (ob, V, L)) (ho : AllP ob) : Gives P f args H (Is V L) := by
  unfold pureS at hs
  split at hs
  · rename_i ob' v hg
    simp at hs
    obtain ⟨rfl, rfl, rfl⟩ := hs
    obtain ⟨h1, h2, h3⟩ := h _ _ _ hg ho
    exact gives_pure hT h3 h1 h2 _
  · simp at hs

theorem wfU {n : Int} (h : (Lit.int .u64 n).wf = true) : 0 ≤ n ∧ n < 18446744073709551616 := by
  simp only [Lit.wf, Bool.and_eq_true, decide_eq_true_eq] at h
  have e1 : IntKind.u64.min = 0 := by decide
  have e2 : IntKind.u64.max = 18446744073709551615 := by decide
  omega
end Go.Hx

/-
  Bits of words, as numbers.
-/
namespace Go.Hx
open Go

theorem wrapU {n : Int} (h1 : 0 ≤ n) (h2 : n < 18446744073709551616) : IntKind.u64.wrap n = n := by
  rw [IntKind.wrap_u64]; omega

theorem ofInt_nat {x : Nat} (h : x < 18446744073709551616) : (BitVec.ofInt 64 (x : Int)).toNat = x := by
  rw [BitVec.ofInt_natCast, BitVec.toNat_ofNat]
  exact Nat.mod_eq_of_lt h

theorem pow64 {n : Nat} (h : n ≤ 64) : 2 ^ n ≤ 18446744073709551616 := Nat.pow_le_pow_right (n := 2) (by decide) h

theorem and_mask {x n : Nat} (hx : x < 18446744073709551616) (hn : n ≤ 64) : ibits .and .u64 (x : Int) ((2 ^ n - 1 : Nat) : Int) = ((x % 2 ^ n : Nat) : Int) := by
  have hp := pow64 hn
  have hp1 : 1 ≤ 2 ^ n := Nat.one_le_two_pow
  have h : (BitVec.ofInt 64 (x : Int) &&& BitVec.ofInt 64 ((2 ^ n - 1 : Nat) : Int)).toNat = x % 2 ^ n := by
    rw [BitVec.toNat_and, ofInt_nat hx, ofInt_nat (by omega)]
    exact Nat.and_two_pow_sub_one_eq_mod _ n
  have h2 : x % 2 ^ n ≤ x := Nat.mod_le _ _
  show IntKind.u64.wrap ((BitVec.ofInt 64 (x : Int) &&& BitVec.ofInt 64 ((2 ^ n - 1 : Nat) : Int)).toNat : Int) = _
  rw [h, wrapU (by omega) (by omega)]



theorem or_low {w v at' : Nat} (hw : w < 2 ^ at') (ha : at' ≤ 64) (hv : v * 2 ^ at' + w < 18446744073709551616) : ibits .or .u64 (w : Int) ((v * 2 ^ at' : Nat) : Int) = ((v * 2 ^ at' + w : Nat) : Int) := by
  have hp := pow64 ha
  have h : (BitVec.ofInt 64 (w : Int) ||| BitVec.ofInt 64 ((v * 2 ^ at' : Nat) : Int)).toNat = v * 2 ^ at' + w := by
    rw [BitVec.toNat_or, ofInt_nat (by omega), ofInt_nat (by omega), Nat.or_comm]
    have := Nat.shiftLeft_add_eq_or_of_lt hw v
    rw [Nat.shiftLeft_eq] at this
    exact this.symm
  show IntKind.u64.wrap ((BitVec.ofInt 64 (w : Int) ||| BitVec.ofInt 64 ((v * 2 ^ at' : Nat) : Int)).toNat : Int) = _
  rw [h, wrapU (by omega) (by omega)]


/-- All ones, so many. -/
theorem ones {n : Nat} (h1 : 1 ≤ n) (h2 : n ≤ 64) : Int.fdiv 18446744073709551615 (2 ^ (min (IntKind.i64.wrap (64 - (n : Int))).toNat IntKind.u64.bits)) = ((2 ^ n - 1 : Nat) : Int) := by
  have e1 : IntKind.i64.wrap (64 - (n : Int)) = ((64 - n : Nat) : Int) := by rw [IntKind.wrap_i64]; omega
  rw [e1]
  show Int.fdiv 18446744073709551615 (2 ^ (min (64 - n) 64)) = _
  have hh : ∀ n : Fin 65, 1 ≤ n.val → (18446744073709551615 : Int).fdiv (2 ^ (min (64 - n.val) 64)) = ((2 ^ n.val - 1 : Nat) : Int) := by decide +kernel
  exact hh ⟨n, by omega⟩ h1
end Go.Hx

/-
  Both ways at a bool that a choice would be spent on.
-/
namespace Go.Hx
open Go

def getP : List Prop → Nat → Prop
  | [], _ => False
  | p :: _, 0 => p
  | _ :: r, n + 1 => getP r n

section
variable {P : Program} {X : Tabs} (hX : TOk P X)
variable {Wb : (Nat → Nat × Nat) → World → Prop} {R : SV → List HE → Prop} {fn : Func} {nt : Nat} {H0 : List HE} {k : List KI} {T : List (Nat × SV)} {H : List HE} {cs : List Ch} {fs : List Fm}
/-- The next choice's bool, both ways. -/
theorem ss_br (cs : List Ch) (n i : Nat) {cs0 : List Ch} {ob : List Prop} {s' : St} {b : Bool} (_ : runY X [] n ⟨cs, fs, fn, nt, H0, k, T, H⟩ = (ob, s')) (_ : getP ob i = (b = true))
    (ht : b = true → SS hX Wb R ⟨cs0, fs, fn, nt, H0, k, T, H⟩) (hf : b = false → SS hX Wb R ⟨cs0, fs, fn, nt, H0, k, T, H⟩) : SS hX Wb R ⟨cs0, fs, fn, nt, H0, k, T, H⟩ := by
  cases b
  · exact hf rfl
  · exact ht rfl
end
end Go.Hx

/-
  Two values of a plain type, compared part by part.
-/
namespace Go.Hx
open Go



section
variable {P : Program} (w : World)




end
end Go.Hx

/-
  Contracts over one or two objects, in a larger heap.
-/
namespace Go.Hx
open Go


section
variable {P : Program} {f : Nat} {ags cargs : List SV} {V : SV} {H : List HE} {o0 o1 p0 p1 : SO} {h0 h1 : Nat} {N : List HE}
theorem frame0 (hT : ∃ TE : Nat → TI, ∀ t, TIok P t (TE t)) (hF : Gives P f ags [] (Is V N)) (hok : SV.okhs (fun _ => false) ags = true) (hn : newOk N = true) :
    Gives P f ags H (Is (V.ren (nm [] H)) (H ++ N.map (HE.ren (nm [] H)))) := by
  have hth : there ([] : List HE) = fun _ => false := funext fun x => by simp [there]
  have := gives_frame (H := H) hT hF [] (rens_closed _ hok).symm (by rw [hth]; exact hok) rfl rfl rfl rfl trivial hn
  simpa [merge, setAll] using this
theorem frame1 (hT : ∃ TE : Nat → TI, ∀ t, TIok P t (TE t)) (hF : Gives P f cargs [.obj o0] (Is V (.obj p0 :: N))) (hargs : ags = SV.rens (nm [h0] H) cargs)
    (hcok : SV.okhs (there [.obj o0]) cargs = true) (hokc : okHs (there [.obj o0]) [.obj o0] = true) (g0 : getH H h0 = some (o0.ren (nm [h0] H))) (hn : newOk N = true) :
    Gives P f ags H (Is (V.ren (nm [h0] H)) (H.set h0 (.obj (p0.ren (nm [h0] H))) ++ N.map (HE.ren (nm [h0] H)))) := by
  have := gives_frame (H := H) hT hF [h0] hargs hcok rfl rfl hokc rfl ⟨g0, trivial⟩ hn
  simpa [merge, setAll, HE.ren] using this
theorem frame2 (hT : ∃ TE : Nat → TI, ∀ t, TIok P t (TE t)) (hF : Gives P f cargs [.obj o0, .obj o1] (Is V (.obj p0 :: .obj p1 :: N))) (hargs : ags = SV.rens (nm [h0, h1] H) cargs)
    (hcok : SV.okhs (there [.obj o0, .obj o1]) cargs = true) (hokc : okHs (there [.obj o0, .obj o1]) [.obj o0, .obj o1] = true) (hnd : nodupN [h0, h1] = true)
    (g0 : getH H h0 = some (o0.ren (nm [h0, h1] H))) (g1 : getH H h1 = some (o1.ren (nm [h0, h1] H))) (hn : newOk N = true) :
    Gives P f ags H (Is (V.ren (nm [h0, h1] H)) ((H.set h0 (.obj (p0.ren (nm [h0, h1] H)))).set h1 (.obj (p1.ren (nm [h0, h1] H))) ++ N.map (HE.ren (nm [h0, h1] H)))) := by
  have := gives_frame (H := H) hT hF [h0, h1] hargs hcok rfl rfl hokc hnd ⟨g0, g1, trivial⟩ hn
  simpa [merge, setAll, HE.ren] using this
theorem frame2n (hT : ∃ TE : Nat → TI, ∀ t, TIok P t (TE t)) (hF : Gives P f cargs [.obj o0, .obj o1] (Is V [.obj p0, .obj p1])) (hargs : ags = SV.rens (nm [h0, h1] H) cargs)
    (hcok : SV.okhs (there [.obj o0, .obj o1]) cargs = true) (hokc : okHs (there [.obj o0, .obj o1]) [.obj o0, .obj o1] = true) (hnd : nodupN [h0, h1] = true)
    (g0 : getH H h0 = some (o0.ren (nm [h0, h1] H))) (g1 : getH H h1 = some (o1.ren (nm [h0, h1] H))) {V' : SV} {q0 q1 : SO} (hV : V.ren (nm [h0, h1] H) = V') (hq0 : p0.ren (nm [h0, h1] H) = q0) (hq1 : p1.ren (nm [h0, h1] H) = q1) :
    Gives P f ags H (Is V' ((H.set h0 (.obj q0)).set h1 (.obj q1))) := by
  have := frame2 (N := []) hT hF hargs hcok hokc hnd g0 g1 rfl
  rw [hV, hq0, hq1] at this
  simpa using this
end
end Go.Hx

/-
  Things that are there or not: pointers, rows, and what they point to.
-/
namespace Go.Hx
open Go

/-- A row that grew, or none. -/
def slV (o : Option (List Int)) (h : Nat) : SV := match o with | none => .nilslice | some l => .sbuf h 1 0 l.length
def slE (o : Option (List Int)) (k : IntKind) (ty : TypeId) : HE := match o with | none => .absent | some l => .obj (.buf k l 1 ty)

section
variable {σ : Nat → Nat} {H H' : List HE} {h i : Nat}
theorem ren_slE {o : Option (List Int)} {k : IntKind} {ty : TypeId} : (slE o k ty).ren σ = slE o k ty := by cases o <;> rfl
theorem subE_same {e : HE} (hg : H[σ i]? = some e) (hr : e.ren σ = e) : subE σ H i e := by
  cases e with
  | absent => trivial
  | opq => simp [subE, there, hg, HE.there]
  | obj o =>
    simp only [HE.ren, HE.obj.injEq] at hr
    simp only [subE, getH_some.2 hg, hr, simG]
    exact simO_refl o
theorem okP_slV {o : Option (List Int)} {k : IntKind} {ty : TypeId} (e : thereF H' h = (slE o k ty).there) : okP (thereF H') (slV o h) := by
  cases o with
  | none => trivial
  | some l => simpa [slV, okP, slE, HE.there] using e
theorem okE_slE {A : Nat → Bool} {o : Option (List Int)} {k : IntKind} {ty : TypeId} : okE A (slE o k ty) := by cases o <;> trivial
end

end Go.Hx

/-
  What is still to be done when a region is reached.
-/
namespace Go.Hx
open Go

def contR (id : Nat) : Code → List (Act → World → Prop) → List KI → Option (List KI)
  | .region j ops d, _, k => match Nat.beq j id with
    | true => some (.code (.region j ops d) :: k)
    | false => none
  | .seq a b, I, k => match contR id a I (.code b :: k) with
    | some r => some r
    | none => contR id b I k
  | .block n b, I, k => contR id b I (.blk n :: k)
  | .cond _ a b, I, k => match contR id a I k with
    | some r => some r
    | none => contR id b I k
  | .loop c, I, k => match I with
    | i :: I => contR id c I (.lp i :: k)
    | [] => none
  | _, _, _ => none
/-- What is still to be done at a region of a function, in loops. -/
def contF (fn : Func) (id : Nat) (I : List (Act → World → Prop)) : List KI := match fn.body with
  | some c => (contR id c I []).getD []
  | none => []
end Go.Hx

/-
  Which bool is it that a walk waits for? (A guess alone: nothing hangs on its being right.)
-/
namespace Go.Hx
open Go

inductive PrR where
  | done (s : St) (kept : List (Nat × Nat))
  | need (i : Nat) (b : Bool)
inductive PrD where
  | ok (cs : List Ch) (T : List (Nat × SV)) (H : List HE) (kept : List (Nat × Nat))
  | need (i : Nat) (b : Bool)
  | dead
inductive PrV where
  | ok (cs : List Ch) (v : SV) (H : List HE) (kept : List (Nat × Nat))
  | need (i : Nat) (b : Bool)
  | dead

/-- How many of the kept ones are older than the newest (p, d). -/
def keptAt (p d : Nat) : List (Nat × Nat) → Option Nat
  | [] => none
  | (q, e) :: r => match Nat.beq p q && Nat.beq d e with
    | true => some r.length
    | false => keptAt p d r
def keep1 (cs : List Ch) (v : SV) (p : Nat) (d : Option Nat) (kept : List (Nat × Nat)) : List (Nat × Nat) :=
  match cs, v, d with
  | [], .bool _, some d => (p, d) :: kept
  | [], .bool _, none => (p, 0) :: kept
  | _, _, _ => kept

def evalP (X : Tabs) (rec : Nat → St → List (Nat × Nat) → PrR) (p : Nat) (cs : List Ch) (f : Nat) (as : List SV) (H : List HE) (kept : List (Nat × Nat)) : PrV :=
  match X.FT f with
  | some fn => match (match X.CT f with | some sp => sp as H | none => none) with
    | some (_, V, L) => match forceHs L with
      | some L' => .ok cs V L' kept
      | none => .dead
    | none => match fn.body, Nat.ble as.length fn.ntmps, argTF nums as with
      | some c, true, some Ta => match rec (p + 1) ⟨cs, [], fn, fn.ntmps, H, [.code c], Ta, H⟩ kept with
        | .need i b => .need i b
        | .done ⟨cs', fs, fn', _, _, k, T, L⟩ kept' => match fs, isRet fn' k, resF X.TE fn'.results.toList T L with
          | [], true, some (_, vs) => .ok cs' (tupF vs) L kept'
          | _, _, _ => .dead
      | _, _, _ => .dead
  | none => .dead

def drawP (X : Tabs) (rec : Nat → St → List (Nat × Nat) → PrR) (p : Nat) (al : List Oper) (nt : Nat) : List Oper → List Ch → List (Nat × SV) → List HE → List (Nat × Nat) → PrD
  | [], cs, T, H, kept => .ok cs T H kept
  | o :: r, cs, T, H, kept => match guardF al T o.guard with
    | 1 => match putD nt o.dst T (.tup []) with
      | some T' => drawP X rec p al nt r cs T' H kept
      | none => .dead
    | 0 => match stepE X T H o.op with
      | some (.val _ v) => match ovr cs v with
        | some (cs', _, v') => match putD nt o.dst T v' with
          | some T' => drawP X rec p al nt r cs' T' H (keep1 cs v p o.dst kept)
          | none => .dead
        | none => .dead
      | some e => match afterF nt o.dst T H e with
        | some (_, T', H') => drawP X rec p al nt r cs T' H' kept
        | none => .dead
      | none => match o.op with
        | .call c => match (match calleeF T c with | some (f, as0) => (match forceL as0 with | some as => some (f, as) | none => none) | none => none) with
          | some (f, as) => match evalP X rec p cs f as H kept with
            | .need i b => .need i b
            | .dead => .dead
            | .ok cs1 V L kept1 => match ovr cs1 V with
              | some (cs', _, V') => match putD nt o.dst T V' with
                | some T' => drawP X rec p al nt r cs' T' L (keep1 cs1 V p o.dst kept1)
                | none => .dead
              | none => .dead
          | none => .dead
        | _ => .dead
    | _ => match guardU al T o.guard with
      | some (d, b) => match keptAt p d kept with
        | some i => .need i b
        | none => .dead
      | none => .dead

def stepP (X : Tabs) (rec : Nat → St → List (Nat × Nat) → PrR) (p : Nat) (s : St) (kept : List (Nat × Nat)) : PrR ⊕ (St × List (Nat × Nat)) :=
  match s with
  | ⟨cs, fs, fn, nt, H0, k, T, H⟩ =>
    match k with
    | .code (.region _ ops true) :: k' => match regOk ops.toList with
      | true => match drawP X rec p ops.toList nt ops.toList cs T H kept with
        | .need i b => .inl (.need i b)
        | .dead => .inl (.done ⟨cs, fs, fn, nt, H0, k, T, H⟩ kept)
        | .ok cs' T' H' kept' => .inr (⟨cs', fs, fn, nt, H0, k', T', H'⟩, kept')
      | false => match splitL ops.toList with
        | none => .inl (.done ⟨cs, fs, fn, nt, H0, k, T, H⟩ kept)
        | some (ini, last) => match drawP X rec p ini nt ini cs T H kept with
          | .need i b => .inl (.need i b)
          | .dead => .inl (.done ⟨cs, fs, fn, nt, H0, k, T, H⟩ kept)
          | .ok cs' T' H' kept' => match stepE X T' H' last.op with
            | none => .inl (.done ⟨cs, fs, fn, nt, H0, k, T, H⟩ kept)
            | some e => match afterF nt last.dst T' H' e with
              | none => .inl (.done ⟨cs, fs, fn, nt, H0, k, T, H⟩ kept)
              | some (_, T2, H2) => .inr (⟨cs', fs, fn, nt, H0, k', T2, H2⟩, kept')
    | _ => match step1 X (fun _ _ _ _ _ => none) ⟨cs, fs, fn, nt, H0, k, T, H⟩ with
      | some (_, s') => .inr (s', kept)
      | none => match cs, k with
        | [], .code (.cond (.tmp t) _ _) :: _ => match look T t with
          | some (.bool b) => .inl (.need kept.length b)
          | _ => .inl (.done ⟨cs, fs, fn, nt, H0, k, T, H⟩ kept)
        | [], .ops all (o :: _) :: _ => match guardU all T o.guard with
          | some (_, b) => .inl (.need kept.length b)
          | none => .inl (.done ⟨cs, fs, fn, nt, H0, k, T, H⟩ kept)
        | _, _ => .inl (.done ⟨cs, fs, fn, nt, H0, k, T, H⟩ kept)

def runP (X : Tabs) (bk : List Bk) : Nat → Nat → St → List (Nat × Nat) → PrR
  | 0, _, s, kept => .done s kept
  | n + 1, p, s, kept => match stopped bk s with
    | true => .done s kept
    | false => match stepP X (fun p s kept => runP X [] n p s kept) p s kept with
      | .inl r => r
      | .inr (s', kept') => runP X bk n p s' kept'
/-- The bool that is waited for, and how many are kept ahead of it. -/
def probe (X : Tabs) (bk : List Bk) (n : Nat) (s : St) : Option (Nat × Bool) :=
  match stepP X (fun p s kept => runP X [] n p s kept) 0 s [] with
  | .inl (.need i b) => some (i, b)
  | .inl _ => none
  | .inr (s', kept) => match runP X bk n 0 s' kept with
    | .need i b => some (i, b)
    | .done _ _ => none

section
variable {P : Program} {X : Tabs} (hX : TOk P X)
variable {Wb : (Nat → Nat × Nat) → World → Prop} {R : SV → List HE → Prop} {fn : Func} {nt : Nat} {H0 : List HE} {k : List KI} {T : List (Nat × SV)} {H : List HE} {fs : List Fm}
/-- Both ways at the bool that is waited for. -/
theorem ss_pb (bk : List Bk) (cs : List Ch) (n : Nat) {cs0 : List Ch} {i : Nat} {b : Bool} (_ : probe X bk n ⟨cs, fs, fn, nt, H0, k, T, H⟩ = some (i, b))
    (ht : b = true → SS hX Wb R ⟨cs0, fs, fn, nt, H0, k, T, H⟩) (hf : b = false → SS hX Wb R ⟨cs0, fs, fn, nt, H0, k, T, H⟩) : SS hX Wb R ⟨cs0, fs, fn, nt, H0, k, T, H⟩ := by
  cases b
  · exact hf rfl
  · exact ht rfl
end
end Go.Hx

/-
  Names found out of a heap; things that are there or not, more.
-/
namespace Go.Hx
open Go



end Go.Hx

/-
  A piece of code, gone through in a small heap: what else there is stays as it is.
-/
namespace Go.Hx
open Go














/-- What never is. -/
def Not2 : SV → List HE → Prop := fun _ _ => False

section
variable {P : Program} {X : Tabs} (hX : TOk P X)
variable {R : SV → List HE → Prop} {fn : Func} {nt : Nat} {H0 : List HE} {k : List KI} {T : List (Nat × SV)} {H : List HE} {cs : List Ch} {I : Act → World → Prop}

theorem not2_Q {ρ : Nat → Nat × Nat} {w : World} {H : List HE} (e : Exit) (a : Act) (w' : World) (h : (FEnv P X.TE hX.te fn nt H Not2 ρ w).Q e a w') : False := by
  simp only [FEnv] at h
  cases e with
  | normal => obtain ⟨_, v, _, ρ', H', v', h1, _⟩ := h; exact h1
  | ret => obtain ⟨_, v, _, ρ', H', v', h1, _⟩ := h; exact h1
  | panic c => exact h.2
  | outgrown => exact h
  | _ => exact h

end
end Go.Hx

/-
  Other names, of which some are of one thing; a value that is forgotten.
-/
namespace Go.Hx
open Go






section
variable {P : Program} {X : Tabs} (hX : TOk P X)
variable {R : SV → List HE → Prop} {fn : Func} {nt : Nat} {H0 : List HE} {k : List KI} {T : List (Nat × SV)} {H : List HE} {cs : List Ch}

end
end Go.Hx

/-
  A call in a world where a variable's cell is known.
-/
namespace Go.Hx
open Go Go.RowKit Go.ChangeShapes Go.WideShapes








section
variable {P : Program} {H : Type} {enc : TypeId × Value → H} {w : World} {t : TypeId} {d : DataW H} {ps : List MemPlace}
end

end Go.Hx

/-
  What a call of Go's library leaves that sets one cell: in handles.
-/
namespace Go.Hx
open Go Go.RowKit


/-- A call that leaves all as it was. -/
theorem fnPost_same {w : World} {ρ : Nat → Nat × Nat} {H : List HE} {V : SV} (hS : HSat w (Own ρ H) ρ H w) (hV : V.okh (there H) = true) : FnPost w ρ H (Is V H) (.returned (V.tr ρ)) w :=
  ⟨ρ, H, V, ⟨rfl, rfl⟩, rfl, hV, hS, fun _ hh => ⟨rfl, hh⟩⟩
end Go.Hx

/-
  Contracts over three objects, in a larger heap; a step of a run over an arena, as a row of the table.
-/
namespace Go.Hx
open Go
section
variable {P : Program} {f : Nat} {ags cargs : List SV} {V : SV} {H : List HE} {o0 o1 o2 p0 p1 p2 : SO} {h0 h1 h2 : Nat} {N : List HE}
end
end Go.Hx

/-
  Code taken apart at a region; a piece of it, gone through in a small heap.
-/
namespace Go.Hx
open Go

section
variable {P : Program} {Q : Exit → Act → World → Prop}
end
section
variable {P : Program} {X : Tabs} (hX : TOk P X)
variable {R : SV → List HE → Prop} {fn : Func} {nt : Nat} {H0 : List HE} {k : List KI} {T : List (Nat × SV)} {H : List HE} {cs : List Ch} {I : Act → World → Prop}
end
end Go.Hx

