/- The heap machine, part 3: values over handles, and how a program of this language goes over them; for every program. -/
import Derived.Test.YtmghcelohnlceaaGreatDoorHyb
/-
  The machine with frames: the run is sound; how it is used.
-/
namespace Go.Hx
open Go

section
variable {P : Program} {X : Tabs} (hX : TOk P X)

theorem bind_back {al : List Oper} (hreg : regOk al = true) {j : Nat} {o : Oper} (ho : al[j]? = some o) {i : Nat} (hi : bindsOn o i = true) : i < j := by
  simp only [regOk, Bool.and_eq_true, List.all_eq_true] at hreg
  have hlt : j < al.length := by
    rcases Nat.lt_or_ge j al.length with h1 | h1
    · exact h1
    · rw [List.getElem?_eq_none h1] at ho; simp at ho
  have := hreg.2 j (List.mem_range.2 hlt)
  rw [ho] at this
  simp only [Bool.and_eq_true, List.all_eq_true] at this
  simp only [bindsOn, List.any_eq_true, Bool.and_eq_true] at hi
  obtain ⟨e, he1, he2, he3⟩ := hi
  have h4 := this.1.1 e he1
  rw [he2] at h4
  have := Nat.eq_of_beq_eq_true he3
  simp at h4
  have h5 : e.on < j := blt_lt (by simpa using h4)
  omega

theorem scanR_ge {al : List Oper} (hreg : regOk al = true) {e : Nat} : ∀ (l : List Oper) (i : Nat) (S : List Nat), (∀ (j : Nat) (o : Oper), l[j]? = some o → al[i + j]? = some o) → (∀ x ∈ S, e ≤ x) → ∀ x ∈ scanR l i S, e ≤ x
  | [], _, _, _, hS => hS
  | o :: r, i, S, hl, hS => by
    have hl' : ∀ j p, r[j]? = some p → al[i + 1 + j]? = some p := fun j p hp => by
      have := hl (j + 1) p (by simpa using hp)
      rw [show i + 1 + j = i + (j + 1) from by omega]; exact this
    have ho : al[i]? = some o := by simpa using hl 0 o (by simp)
    unfold scanR
    split
    · rename_i ha
      refine scanR_ge hreg r (i + 1) (i :: S) hl' ?_
      intro x hx
      simp only [List.mem_cons] at hx
      rcases hx with rfl | hx
      · simp only [anyB, List.any_eq_true, Bool.and_eq_true] at ha
        obtain ⟨ed, h1, h2, h3⟩ := ha
        have q1 := hS ed.on (memN_iff.1 h3)
        have q2 := bind_back hreg ho (i := ed.on) (by
          simp only [bindsOn, List.any_eq_true, Bool.and_eq_true]
          exact ⟨ed, h1, h2, Nat.beq_refl _⟩)
        omega
      · exact hS x hx
    · exact scanR_ge hreg r (i + 1) S hl' hS
theorem reachB_le {al : List Oper} (hreg : regOk al = true) {e f : Nat} (h : reachB al e f = true) : e ≤ f := by
  simp only [reachB, Bool.or_eq_true] at h
  rcases h with h | h
  · rw [Nat.eq_of_beq_eq_true h]; omega
  · exact scanR_ge hreg al 0 [e] (fun j o hj => by simpa using hj) (fun x hx => by simp at hx; omega) f (memN_iff.1 h)

theorem ldChk_all {al : List Oper} {j h : Nat} : ∀ {es : List (Nat × List HE)} {H : List HE} {acc : List Prop}, AllP (ldChk al j h H es acc) → AllP acc ∧
    ∀ (q e : Nat) (Hq L : List HE), (fstE es)[q]? = some e → (H :: es.map (·.2))[q]? = some Hq → (H :: es.map (·.2))[q + 1]? = some L → reachB al e j = false → reachB al j e = false → getH Hq h = getH L h
  | [], H, acc, ha => ⟨ha, fun q e Hq L hq => by simp [fstE] at hq⟩
  | (e, H') :: r, H, acc, ha => by
    simp only [ldChk] at ha
    have step : ∀ {acc'}, AllP (ldChk al j h H' r acc') → (AllP acc' → AllP acc ∧ (reachB al e j = false → reachB al j e = false → getH H h = getH H' h)) → AllP acc ∧
        ∀ (q e' : Nat) (Hq L : List HE), (fstE ((e, H') :: r))[q]? = some e' → (H :: ((e, H') :: r).map (·.2))[q]? = some Hq → (H :: ((e, H') :: r).map (·.2))[q + 1]? = some L → reachB al e' j = false → reachB al j e' = false → getH Hq h = getH L h := by
      intro acc' h1 h2
      obtain ⟨k1, k2⟩ := ldChk_all h1
      obtain ⟨k3, k4⟩ := h2 k1
      refine ⟨k3, fun q e' Hq L hq hHq hL r1 r2 => ?_⟩
      cases q with
      | zero =>
        simp [fstE] at hq hHq hL; subst hq; subst hHq; subst hL
        exact k4 r1 r2
      | succ q => exact k2 q e' Hq L (by simpa [fstE] using hq) (by simpa using hHq) (by simpa using hL) r1 r2
    split at ha
    · rename_i hr
      exact step ha fun h1 => ⟨h1, fun r1 => by rw [hr] at r1; simp at r1⟩
    · split at ha
      · rename_i hr
        exact step ha fun h1 => ⟨h1, fun _ r1 => by rw [hr] at r1; simp at r1⟩
      · exact step ha fun h1 => ⟨fun p hp => h1 p (by simp [hp]), fun _ _ => h1 _ (by simp)⟩

theorem ldAll_all {al : List Oper} {H : List HE} {es : List (Nat × List HE)} : ∀ {lds : List (Nat × Nat)} {acc : List Prop}, AllP (ldAll al H es lds acc) → AllP acc ∧ ∀ j h, (j, h) ∈ lds → ∃ acc', AllP (ldChk al j h H es acc')
  | [], acc, ha => ⟨ha, fun j h hm => by simp at hm⟩
  | (j, h) :: r, acc, ha => by
    simp only [ldAll] at ha
    obtain ⟨h1, h2⟩ := ldAll_all ha
    refine ⟨(ldChk_all h1).1, fun j' h' hm => ?_⟩
    simp only [List.mem_cons, Prod.mk.injEq] at hm
    rcases hm with ⟨rfl, rfl⟩ | hm
    · exact ⟨_, h1⟩
    · exact h2 j' h' hm

theorem meets_spec {al : List Oper} {j : Nat} {o : Oper} : ∀ {l : List Nat} {c : Nat}, meets al j o l c = true → ∀ (q e : Nat), l[q]? = some e → (q < c → reachB al j e = false) ∧ (c ≤ q → reachB al e j = false)
  | [], _, _, q, e, hq => by simp at hq
  | x :: r, 0, h, q, e, hq => by
    simp only [meets, Bool.and_eq_true, Bool.not_eq_true'] at h
    refine ⟨fun h0 => by omega, fun _ => ?_⟩
    cases q with
    | zero => simp at hq; subst hq; exact h.1.2
    | succ q => exact (meets_spec h.2 q e (by simpa using hq)).2 (by omega)
  | x :: r, c + 1, h, q, e, hq => by
    simp only [meets, Bool.and_eq_true, Bool.not_eq_true'] at h
    cases q with
    | zero => simp at hq; subst hq; exact ⟨fun _ => h.1.2, fun h0 => by omega⟩
    | succ q =>
      obtain ⟨k1, k2⟩ := meets_spec h.2 q e (by simpa using hq)
      exact ⟨fun h0 => k1 (by omega), fun h0 => k2 (by omega)⟩

theorem lastE_get : ∀ (es : List (Nat × List HE)) (H : List HE), (H :: es.map (·.2))[(fstE es).length]? = some (lastE H es)
  | [], H => by simp [fstE, lastE]
  | (e, H') :: r, H => by
    have := lastE_get r H'
    simpa [fstE, lastE] using this

theorem drawX_any {rec : St → List Prop × St} (hrec : RecOk hX rec) : DrawAny hX (drawX X rec) := by
  intro fn nt H0 R ρ0 w0 cs cs' al T T' H H' ob k h ho hk
  unfold drawX at h
  split at h
  · rename_i cs1 ob1 Tn es lds hrun
    split at h
    · rename_i hreg heff
      split at h
      case h_2 => simp at h
      rename_i obF HF hfp hfh
      have hfp' := forceP_eq hfp
      have hfh' := forceHs_eq hfh
      subst hfp'
      subst hfh'
      simp at h; obtain ⟨rfl, rfl, rfl, rfl⟩ := h
      obtain ⟨ho1, hld⟩ := ldAll_all ho
      have hdst : dstsOk al = true := by simp only [regOk, Bool.and_eq_true] at hreg; exact hreg.1
      obtain ⟨_, hF⟩ := drawRun_facts hX hrec hrun hdst ho1
      -- what is looked at stands ahead
      have huse : ∀ {j : Nat} {o : Oper}, al[j]? = some o → ∀ t, (t ∈ usesT o.op.operands.toList ∨ t ∈ guardT al o.guard) → ∀ o' ∈ al.drop j, o'.dst ≠ some t := by
        intro j o hj t ht o' ho' hd
        obtain ⟨m, hm⟩ := List.getElem?_of_mem ho'
        rw [List.getElem?_drop] at hm
        have hlt : j < al.length := by
          rcases Nat.lt_or_ge j al.length with h1 | h1
          · exact h1
          · rw [List.getElem?_eq_none h1] at hj; simp at hj
        have hr := hreg
        simp only [regOk, Bool.and_eq_true, List.all_eq_true] at hr
        have := hr.2 j (List.mem_range.2 hlt)
        rw [hj] at this
        simp only [Bool.and_eq_true] at this
        have hb : bindsOn o (j + m) = true := by
          rcases ht with ht | ht
          · exact usesOk_get this.1.2 ht hm hd
          · exact usesOk_get this.2 ht hm hd
        have := bind_back hreg hj hb
        omega
      refine draw_any (E := FEnv P X.TE hX.te fn nt H0 R ρ0 w0) (hps := H :: es.map (·.2)) (effs := fstE es) (Hl := lastE H es) hreg heff (by simp [fstE_map, Nat.beq_refl]) (by simp) (lastE_get es H) ?_ ?_ ?_ hk
      · intro t v hv hd
        rw [← hF.agree t (fun o ho => ?_)]
        · exact hv
        · obtain ⟨i, hi⟩ := List.getElem?_of_mem ho
          exact hd i o hi
      · intro c Hc hc j o hj hmem hmeets
        obtain ⟨Tj, Hj, c0, h1, h2, h3, h4, h5⟩ := hF.quiet j o hj (by simpa using hmem)
        rw [Nat.zero_add] at h5
        have hg : guardF al Tn o.guard = guardF al Tj o.guard := guardF_congr fun t ht => h3 t (huse hj t (.inr ht))
        have hsp := meets_spec hmeets
        refine dstep_qE (X := X) rfl hX.et hreg hj ?_
        rcases h4 with ⟨g1, g2⟩ | ⟨g1, b, v, g2, g3, g4⟩
        · exact .inl ⟨by rw [hg]; exact g1, g2⟩
        · refine .inr ⟨by rw [hg]; exact g1, b, v, ?_, g3, g4⟩
          have hcg : ∀ H, stepE X Tn H o.op = stepE X Tj H o.op := fun H => stepE_congr fun t ht => h3 t (huse hj t (.inl ht))
          rw [hcg]
          refine stepE_heap g2 fun x hx => ?_
          obtain ⟨acc, hacc⟩ := hld j x (h5 g1 x hx)
          have hch := (ldChk_all hacc).2
          have hlen : (fstE es).length = es.length := by rw [fstE_map]; simp
          have get : ∀ q, q ≤ es.length → ∃ Hq, (H :: es.map (·.2))[q]? = some Hq := by
            intro q hq
            have : q < (H :: es.map (·.2)).length := by simp; omega
            exact ⟨_, List.getElem?_eq_getElem this⟩
          have lt_of : ∀ {q : Nat} {Hq : List HE}, (H :: es.map (·.2))[q]? = some Hq → q ≤ es.length := by
            intro q Hq hq
            rcases Nat.lt_or_ge q (H :: es.map (·.2)).length with h1 | h1
            · simp at h1; omega
            · rw [List.getElem?_eq_none h1] at hq; simp at hq
          have step : ∀ q, q < es.length → (q < c → q < c0 → False) → (c0 ≤ q → c ≤ q → False) → ∀ Hq L, (H :: es.map (·.2))[q]? = some Hq → (H :: es.map (·.2))[q + 1]? = some L → getH Hq x = getH L x := by
            intro q hq n1 n2 Hq L hHq hL
            have hqe : q < (fstE es).length := by omega
            have he := List.getElem?_eq_getElem hqe
            have hiff := h2 q _ he
            rw [Nat.zero_add] at hiff
            have hne : (fstE es)[q] ≠ j := by
              intro e
              exact hmem (by rw [← e]; exact List.getElem_mem hqe)
            obtain ⟨m1, m2⟩ := hsp q _ he
            refine hch q _ Hq L he hHq hL ?_ ?_
            · by_cases hqc : c ≤ q
              · exact m2 hqc
              · -- q < c: then c0 ≤ q
                have h0 : ¬ q < c0 := fun h => n1 (by omega) h
                cases hb : reachB al (fstE es)[q] j with
                | false => rfl
                | true =>
                  have := reachB_le hreg hb
                  exact absurd (hiff.2 (by omega)) h0
            · by_cases hqc : q < c
              · exact m1 hqc
              · have h0 : q < c0 := by
                  rcases Nat.lt_or_ge q c0 with h | h
                  · exact h
                  · exact (n2 h (by omega)).elim
                cases hb : reachB al j (fstE es)[q] with
                | false => rfl
                | true =>
                  have := reachB_le hreg hb
                  have := hiff.1 h0
                  omega
          have chain : ∀ n a, (a + n ≤ es.length) → (∀ q, a ≤ q → q < a + n → (q < c → q < c0 → False) ∧ (c0 ≤ q → c ≤ q → False)) → ∀ Ha Hb, (H :: es.map (·.2))[a]? = some Ha → (H :: es.map (·.2))[a + n]? = some Hb → getH Ha x = getH Hb x := by
            intro n
            induction n with
            | zero => intro a _ _ Ha Hb ha hb; rw [Nat.add_zero, ha] at hb; simp at hb; rw [hb]
            | succ n ih =>
              intro a hle hq Ha Hb ha hb
              obtain ⟨Hm, hm⟩ := get (a + n) (by omega)
              rw [ih a (by omega) (fun q h1 h2 => hq q h1 (by omega)) Ha Hm ha hm]
              obtain ⟨n1, n2⟩ := hq (a + n) (by omega) (by omega)
              exact step (a + n) (by omega) n1 n2 Hm Hb hm hb
          have hl1 := lt_of h1
          have hl2 := lt_of hc
          rcases Nat.le_total c c0 with hle | hle
          · exact (chain (c0 - c) c (by omega) (fun q a1 a2 => ⟨fun b1 _ => by omega, fun b1 _ => by omega⟩) Hc Hj hc (by rw [show c + (c0 - c) = c0 from by omega]; exact h1)).symm
          · exact chain (c - c0) c0 (by omega) (fun q a1 a2 => ⟨fun _ b1 => by omega, fun _ b1 => by omega⟩) Hj Hc h1 (by rw [show c0 + (c - c0) = c from by omega]; exact hc)
      · intro c Hc Hc' hc hc' j o hj ho'
        have hje : ∃ L, es[c]? = some (j, L) := by
          rw [fstE_map] at hj
          simp at hj
          exact hj
        obtain ⟨L, hL⟩ := hje
        obtain ⟨j', o2, Tj, Hq, e1, e2, e3, e4, e5, e6⟩ := hF.eff c j L hL
        rw [Nat.zero_add] at e1; subst e1
        rw [ho'] at e2; simp at e2; subst e2
        rw [hc] at e3; simp at e3; subst e3
        have hLc : Hc' = L := by
          have : (H :: es.map (·.2))[c + 1]? = some L := by simp [hL]
          rw [hc'] at this; simpa using this
        subst hLc
        have hg : guardF al Tn o.guard = guardF al Tj o.guard := guardF_congr fun t ht => e4 t (huse ho' t (.inr ht))
        rcases e6 with ⟨e, b, T2, s1, s2, s3, s4⟩ | ⟨cc, f, as, V, s1, s2, ⟨fn', s3, s4, s5⟩, s6, s7⟩
        · have hcg : stepE X Tn Hc o.op = stepE X Tj Hc o.op := stepE_congr fun t ht => e4 t (huse ho' t (.inl ht))
          exact dstep_effE (X := X) rfl hX.et hreg ho' (by rw [hg]; exact e5) (by rw [hcg]; exact s1) s2 s3 s4
        · have hcc : calleeF Tn cc = calleeF Tj cc := callee_congr fun t ht => e4 t (huse ho' t (.inl (by rw [s1]; exact ht)))
          exact dstep_call hreg ho' (by rw [hg]; exact e5) s1 (by rw [hcc]; exact s2) s3 s4 s5 s6 s7
    · simp at h
  · simp at h

theorem drawX_ok {rec : St → List Prop × St} (hrec : RecOk hX rec) : DrawOk hX (drawX X rec) := by
  intro fn nt H0 R ρ0 w0 cs cs' al id T T' H H' ob k h ho hk ρ a w hs
  simp only [WK]
  exact wp_region_any hX.mo (drawX_any hX hrec fn nt H0 R ρ0 w0 cs cs' al T T' H H' ob k h ho hk ρ a w hs)

theorem splitL_eq : ∀ {al ini : List Oper} {last : Oper}, splitL al = some (ini, last) → al = ini ++ [last]
  | [], _, _, h => by simp [splitL] at h
  | [o], _, _, h => by simp [splitL] at h; obtain ⟨rfl, rfl⟩ := h; rfl
  | o :: p :: r, ini, last, h => by
    simp only [splitL] at h
    split at h
    · rename_i i l hr
      simp at h; obtain ⟨rfl, rfl⟩ := h
      have := splitL_eq (al := p :: r) hr
      rw [this]; rfl
    · simp at h

theorem lastB_ok {al : List Oper} {last : Oper} (hr : regOk al = true) (h : lastB al last = true) : LastOk al last ∧ ∀ i, bindsOn last i = true → i < al.length := by
  simp only [lastB, Bool.and_eq_true, List.all_eq_true, List.mem_range] at h
  obtain ⟨⟨h1, h2⟩, h3⟩ := h
  refine ⟨⟨fun j o ho i hi => bind_back hr ho hi, h1, fun j o ho i b hg => ?_⟩, fun i hi => ?_⟩
  · have := h3 o (List.mem_of_getElem? ho)
    rw [hg] at this
    exact blt_lt this
  · simp only [bindsOn, List.any_eq_true, Bool.and_eq_true] at hi
    obtain ⟨e, he1, he2, he3⟩ := hi
    have := h2 e he1
    rw [he2] at this
    have h4 := Nat.eq_of_beq_eq_true he3
    subst h4
    exact blt_lt (by simpa using this)

theorem drawY_ok {rec : St → List Prop × St} (hrec : RecOk hX rec) : DrawOk hX (drawY X rec) := by
  intro fn nt H0 R ρ0 w0 cs cs' al id T T' H H' ob k h ho hk
  unfold drawY at h
  split at h
  · exact drawX_ok hX hrec fn nt H0 R ρ0 w0 cs cs' al id T T' H H' ob k h ho hk
  · split at h
    · simp at h
    · rename_i ini last hsp
      split at h
      · simp at h
      · rename_i hlo
        simp only [Bool.and_eq_true] at hlo
        split at h
        · simp at h
        · rename_i cs1 ob1 Tn H1 hd
          split at h
          · simp at h
          · rename_i hg
            split at h
            · simp at h
            · rename_i e he
              split at h
              · simp at h
              · rename_i b T2 H2 ha
                simp at h; obtain ⟨rfl, rfl, rfl, rfl⟩ := h
                obtain ⟨ho1, ho2⟩ := addOP_all ho
                obtain ⟨hL, hlast⟩ := lastB_ok hlo.1 hlo.2
                have hal := splitL_eq hsp
                subst hal
                have hk' : SW (FEnv P X.TE hX.te fn nt H0 R ρ0 w0) (.ops (ini ++ [last]) [last] :: k) Tn H1 :=
                  sw_op (fun a _ => by unfold Region.wanted; rw [hg]) (fun ρ a w h => stepE_ok rfl hX.et h he) (afterF_eq ha) ho2 (fun ρ a w hs => hk ρ a w hs)
                intro ρ a w hs
                simp only [WK]
                refine wp_region_any hX.mo ?_
                have := drawX_any hX hrec fn nt H0 R ρ0 w0 cs cs1 ini T Tn H H1 ob1 _ hd ho1 hk' ρ a w hs
                have hw := wpAny_last (Q := WK P (FEnv P X.TE hX.te fn nt H0 R ρ0 w0).Q k) hL hlast (fun e he => by cases e <;> first | rfl | exact absurd rfl he) (fun a w hn => by
                  have hn : wpList P (ini ++ [last]).toArray (WK P (FEnv P X.TE hX.te fn nt H0 R ρ0 w0).Q k) [last] a w := hn
                  unfold wpOp
                  have ho : (ini ++ [last]).toArray[ini.length]? = some last := by simp
                  rw [ho]
                  exact hn) _ _ a _ (by simp) this
                have e1 : (ini ++ [last]).toArray.size = ini.toArray.size + 1 := by simp
                have e2 : Array.replicate (ini ++ [last]).toArray.size false = (Array.replicate ini.toArray.size false).push false := by
                  rw [e1, Array.replicate_succ]
                rw [e2, e1]; exact hw

theorem runX_ok : ∀ (n : Nat) (bk : List Bk) (Wb : (Nat → Nat × Nat) → World → Prop) (R0 : SV → List HE → Prop) (s : St) (ob : List Prop), AllP (runX X bk n s ob).1 → SS hX Wb R0 (runX X bk n s ob).2 → SS hX Wb R0 s ∧ AllP ob := by
  intro n
  induction n with
  | zero => intro bk Wb R0 s ob ho hs; exact ⟨hs, ho⟩
  | succ n ih =>
    intro bk Wb R0 s ob ho hs
    have hrec : RecOk hX (fun s => runX X [] n s []) := fun Wb R0 s h1 h2 => (ih [] Wb R0 s [] h1 h2).1
    unfold runX at ho hs
    split at ho
    case h_1 hst => rw [hst] at hs; exact ⟨hs, ho⟩
    rename_i hst
    rw [hst] at hs
    simp only at hs
    split at ho
    · rename_i h1
      rw [h1] at hs
      exact ⟨hs, ho⟩
    · rename_i ob' s' h1
      rw [h1] at hs
      simp only at hs
      split at ho
      · obtain ⟨h2, h3⟩ := ih bk Wb R0 s' _ ho hs
        exact ⟨step1_ok hX (drawY_ok hX hrec) h1 (fun p hp => by simp at hp) h2, h3⟩
      · rename_i hne
        split at ho
        · rename_i ob2 hf
          have hs' : SS hX Wb R0 (runX X bk n s' ob2).2 := by
            split at hs
            · exact absurd rfl hne
            · rw [hf] at hs; exact hs
          have hf' := forceP_eq hf
          subst hf'
          obtain ⟨h2, h3⟩ := ih bk Wb R0 s' _ ho hs'
          obtain ⟨h4, h5⟩ := addLP_all h3
          exact ⟨step1_ok hX (drawY_ok hX hrec) h1 h4 h2, h5⟩
        · rename_i hf
          have hs' : SS hX Wb R0 s := by
            split at hs
            · exact absurd rfl hne
            · rw [hf] at hs; exact hs
          exact ⟨hs', ho⟩

theorem runY_ok (n : Nat) (bk : List Bk) (Wb : (Nat → Nat × Nat) → World → Prop) (R0 : SV → List HE → Prop) (s : St) (ho : AllP (runY X bk n s).1) (hs : SS hX Wb R0 (runY X bk n s).2) : SS hX Wb R0 s := by
  unfold runY at ho hs
  split at ho
  · rename_i h1; rw [h1] at hs; exact hs
  · rename_i ob' s' h1
    rw [h1] at hs
    simp only at hs
    obtain ⟨h2, h3⟩ := runX_ok hX n bk Wb R0 s' _ ho hs
    exact step1_ok hX (drawY_ok hX fun Wb R0 s h1 h2 => (runX_ok hX n [] Wb R0 s [] h1 h2).1) h1 h3 h2

variable {Wb : (Nat → Nat × Nat) → World → Prop} {R : SV → List HE → Prop} {fn : Func} {nt : Nat} {H0 : List HE} {k : List KI} {T : List (Nat × SV)} {H : List HE} {cs : List Ch} {fs : List Fm}

/-- On, as far as it can be told, with these choices. -/
theorem sx (cs : List Ch) (n : Nat) {cs0 : List Ch} {ob : List Prop} {s' : St} (h : runY X [] n ⟨cs, fs, fn, nt, H0, k, T, H⟩ = (ob, s')) (ho : conjP ob) (hs : SS hX Wb R s') : SS hX Wb R ⟨cs0, fs, fn, nt, H0, k, T, H⟩ := by
  have := runY_ok hX n [] Wb R ⟨cs, fs, fn, nt, H0, k, T, H⟩
  rw [h] at this
  exact this (conjP_all ho) hs
/-- The same, to a place at most. -/
theorem sxb (bk : List Bk) (cs : List Ch) (n : Nat) {cs0 : List Ch} {ob : List Prop} {s' : St} (h : runY X bk n ⟨cs, fs, fn, nt, H0, k, T, H⟩ = (ob, s')) (ho : conjP ob) (hs : SS hX Wb R s') : SS hX Wb R ⟨cs0, fs, fn, nt, H0, k, T, H⟩ := by
  have := runY_ok hX n bk Wb R ⟨cs, fs, fn, nt, H0, k, T, H⟩
  rw [h] at this
  exact this (conjP_all ho) hs

/-- Where a function began. -/
def At (ρ0 : Nat → Nat × Nat) (w0 : World) : (Nat → Nat × Nat) → World → Prop := fun ρ w => ρ = ρ0 ∧ w = w0

/-- A function, from its first line. -/
theorem gives_x {f : Nat} {c : Code} {args : List SV} (hf : X.FT f = some fn) (hb : fn.body = some c) (hn : Nat.ble args.length fn.ntmps = true)
    {T0 : List (Nat × SV)} (hT : argTF nums args = some T0) (h : ∀ ρ0 w0, SS hX (At ρ0 w0) R ⟨[], [], fn, fn.ntmps, H, [.code c], T0, H⟩) : Gives P f args H R := by
  rw [argTF_nums hT] at h
  exact fn_intro hX.te (hX.ft f fn hf).1 hb _ rfl hn fun ρ w => h ρ w ρ w ⟨rfl, rfl⟩

theorem ss_sw {ρ0 : Nat → Nat × Nat} {w0 : World} (h : SW (FEnv P X.TE hX.te fn nt H0 R ρ0 w0) k T H) : SS hX (At ρ0 w0) R ⟨cs, [], fn, nt, H0, k, T, H⟩ := by
  rintro ρ w ⟨rfl, rfl⟩; exact h
theorem sw_ss {ρ0 : Nat → Nat × Nat} {w0 : World} (h : SS hX (At ρ0 w0) R ⟨cs, [], fn, nt, H0, k, T, H⟩) : SW (FEnv P X.TE hX.te fn nt H0 R ρ0 w0) k T H := h ρ0 w0 ⟨rfl, rfl⟩

/-- A bool that is not told, both ways. -/
theorem ss_bool (t : Nat) {b : Bool} (hl : look T t = some (.bool b)) (ht : b = true → SS hX Wb R ⟨[], fs, fn, nt, H0, k, (t, .tt) :: T, H⟩) (hf : b = false → SS hX Wb R ⟨[], fs, fn, nt, H0, k, (t, .ff) :: T, H⟩) :
    SS hX Wb R ⟨cs, fs, fn, nt, H0, k, T, H⟩ := fun ρ w hw => sw_bool t hl (fun h => ht h ρ w hw) (fun h => hf h ρ w hw)

/-- A branch upon a bool that is not told. -/
theorem ss_cond {t : Nat} {a c : Code} {b : Bool} (hl : look T t = some (.bool b)) (ht : b = true → SS hX Wb R ⟨[], fs, fn, nt, H0, .code a :: k, (t, .tt) :: T, H⟩) (hf : b = false → SS hX Wb R ⟨[], fs, fn, nt, H0, .code c :: k, (t, .ff) :: T, H⟩) :
    SS hX Wb R ⟨cs, fs, fn, nt, H0, .code (.cond (.tmp t) a c) :: k, T, H⟩ := by
  refine ss_bool hX t hl (fun h => ?_) (fun h => ?_)
  · exact fun ρ w hw ρ1 a1 w1 hs => wp_cond_true (ev_tr hs.ts (x := .tmp t) (v := .tt) (by simp [ev, look_cons])).1 (ht h ρ w hw ρ1 a1 w1 hs)
  · exact fun ρ w hw ρ1 a1 w1 hs => wp_cond_false (ev_tr hs.ts (x := .tmp t) (v := .ff) (by simp [ev, look_cons])).1 (hf h ρ w hw ρ1 a1 w1 hs)

/-- A guard that is not told. -/
theorem ss_guard {all r : List Oper} {o : Oper} {d : Nat} {b : Bool} (hg : guardU all T o.guard = some (d, b)) (ht : b = true → SS hX Wb R ⟨[], fs, fn, nt, H0, .ops all (o :: r) :: k, (d, .tt) :: T, H⟩)
    (hf : b = false → SS hX Wb R ⟨[], fs, fn, nt, H0, .ops all (o :: r) :: k, (d, .ff) :: T, H⟩) : SS hX Wb R ⟨cs, fs, fn, nt, H0, .ops all (o :: r) :: k, T, H⟩ :=
  ss_bool hX d (guardU_look hg) ht hf

/-- Less is known, under other names. -/
theorem ss_sub {ρ0 : Nat → Nat × Nat} {w0 : World} {T' : List (Nat × SV)} {H' : List HE} (σs : List Nat) (hlen : Nat.beq σs.length H'.length = true) (hnd : nodupN σs = true)
    (hb : fromN H0.length 0 σs = true) (hb' : leH H0 H' = true) (hT : subT (sig σs 0) T T') (hH : subH (sig σs 0) H 0 H') (hok1 : okTP (thereF H') T') (hok2 : okHP (thereF H') H')
    (h : SS hX (At ρ0 w0) R ⟨[], [], fn, nt, H0, k, T', H'⟩) : SS hX (At ρ0 w0) R ⟨cs, [], fn, nt, H0, k, T, H⟩ :=
  ss_sw hX (sw_sub (sub_of (E := FEnv P X.TE hX.te fn nt H0 R ρ0 w0) σs hlen hnd hb hb' hT hH hok1 hok2) (sw_ss hX h))

/-- A loop: what is known at its head hangs on x; the round is told by 'back'. -/
theorem ss_loop {ρ0 : Nat → Nat × Nat} {w0 : World} {body : Code} {α : Type} (Tf : α → List (Nat × SV)) (Hf : α → List HE) (Inv : α → Prop) (μ : α → Nat) (x0 : α) (h0 : Inv x0)
    (round : ∀ x, Inv x → ∀ I : Act → World → Prop,
      (∀ x', Inv x' → μ x' < μ x → ∀ cs T H, (Sub (FEnv P X.TE hX.te fn nt H0 R ρ0 w0) T H (Tf x') (Hf x')) → SS hX (At ρ0 w0) R ⟨cs, [], fn, nt, H0, .lp I :: k, T, H⟩) →
      SS hX (At ρ0 w0) R ⟨[], [], fn, nt, H0, .code body :: .lp I :: k, Tf x, Hf x⟩) :
    SS hX (At ρ0 w0) R ⟨cs, [], fn, nt, H0, .code (.loop body) :: k, Tf x0, Hf x0⟩ := by
  refine ss_sw hX (sw_loop (E := FEnv P X.TE hX.te fn nt H0 R ρ0 w0) Tf Hf Inv μ x0 h0 fun x hx => ?_)
  refine sw_ss hX (cs := []) (round x hx _ fun x' h1 h2 cs T H hsub => ss_sw hX (sw_lp x' h1 h2 hsub))

/-- Ways that meet at one place, k'. -/
theorem ss_via {ρ0 : Nat → Nat × Nat} {w0 : World} {k' : List KI} {α : Type} (Tj : α → List (Nat × SV)) (Hj : α → List HE) (Q : α → Prop)
    (first : (∀ x, Q x → ∀ cs T H, (Sub (FEnv P X.TE hX.te fn nt H0 R ρ0 w0) T H (Tj x) (Hj x)) → SS hX (At ρ0 w0) R ⟨cs, [], fn, nt, H0, k', T, H⟩) → SS hX (At ρ0 w0) R ⟨cs, [], fn, nt, H0, k, T, H⟩)
    (rest : ∀ x, Q x → SS hX (At ρ0 w0) R ⟨[], [], fn, nt, H0, k', Tj x, Hj x⟩) : SS hX (At ρ0 w0) R ⟨cs, [], fn, nt, H0, k, T, H⟩ :=
  first fun x hx _cs _ _ hsub => ss_sw hX (sw_sub hsub (sw_ss hX (rest x hx)))

/-- Ways that meet: behind c what is known hangs on x. -/
theorem ss_join {ρ0 : Nat → Nat × Nat} {w0 : World} {c : Code} {α : Type} (Tj : α → List (Nat × SV)) (Hj : α → List HE) (Q : α → Prop)
    (rest : ∀ x, Q x → SS hX (At ρ0 w0) R ⟨[], [], fn, nt, H0, k, Tj x, Hj x⟩)
    (first : ∀ J : Act → World → Prop, (∀ x, Q x → ∀ cs T H, (Sub (FEnv P X.TE hX.te fn nt H0 R ρ0 w0) T H (Tj x) (Hj x)) → SS hX (At ρ0 w0) R ⟨cs, [], fn, nt, H0, .lp J :: k, T, H⟩) →
      SS hX (At ρ0 w0) R ⟨[], [], fn, nt, H0, .code c :: .lp J :: k, T, H⟩) :
    SS hX (At ρ0 w0) R ⟨cs, [], fn, nt, H0, .code c :: k, T, H⟩ := by
  let J : Act → World → Prop := fun a w => ∃ x, Q x ∧ ∃ ρ, Sat (FEnv P X.TE hX.te fn nt H0 R ρ0 w0) ρ (Tj x) (Hj x) a w
  have h1 := sw_ss hX (first J fun x hx cs T H hsub => ss_sw hX fun ρ a w hs => by
    obtain ⟨ρ', hs'⟩ := hsub ρ a w hs
    exact ⟨x, hx, ρ', hs'⟩)
  refine ss_sw hX fun ρ a w hs => ?_
  have h2 := h1 ρ a w hs
  simp only [WK] at h2 ⊢
  refine wp_mono h2 fun e a w hq => ?_
  cases e with
  | normal =>
    obtain ⟨x, hx, ρ', hs'⟩ := hq
    exact sw_ss hX (rest x hx) ρ' a w hs'
  | _ => exact hq

/-- The end. -/
theorem ss_ret {ob : List Prop} {vs : List SV} (hk : isRet fn k = true) (hr : resF X.TE fn.results.toList T H = some (ob, vs)) (ho : conjP ob) (hR : R (tupF vs) H) : SS hX Wb R ⟨cs, [], fn, nt, H0, k, T, H⟩ :=
  sfn_ret hX hk hr (conjP_all ho) hR

/-- The end, told otherwise: the same value, the same heap, under other names. -/
theorem ss_end {V : SV} {L : List HE} {ob : List Prop} {vs : List SV} (σs : List Nat) (hk : isRet fn k = true) (hr : resF X.TE fn.results.toList T H = some (ob, vs)) (ho : conjP ob)
    (hlen : Nat.beq σs.length L.length = true) (hnd : nodupN σs = true) (hb : fromN H0.length 0 σs = true) (hb' : leH H0 L = true)
    (hv : sim (tupF vs) (V.ren (sig σs 0))) (hH : subH (sig σs 0) H 0 L) (hok1 : okP (thereF L) V) (hok2 : okHP (thereF L) L) : SS hX Wb (Is V L) ⟨cs, [], fn, nt, H0, k, T, H⟩ := by
  intro ρ0 w0 hw
  have hsub := subS_of (E := FEnv P X.TE hX.te fn nt H0 (Is V L) ρ0 w0) (T := T) (T' := []) (H := H) (H' := L) σs hlen hnd hb hb' trivial hH trivial hok2
  intro ρ a w hsat
  have post : bodyPost P fn (FnPost w0 ρ0 H0 (Is V L)) .ret a w := by
    obtain ⟨h1, h2⟩ := results_ok hsat hr (conjP_all ho)
    have hs := hsub ρ a w hsat
    have hfun : thereF L = there L := funext (thereF_eq L)
    refine ⟨hsat.ts.def0, _, h1, _, L, V, ⟨rfl, rfl⟩, ?_, by rw [← hfun]; exact okP_okh V hok1, hs.hs, hs.base⟩
    rw [(sim_tr (A := fun _ => true) hv).1, tr_ren]
  unfold isRet at hk
  split at hk
  · exact post
  · split at hk
    · exact wp_ret (WK_ret post _)
    · simp at hk
  · simp at hk
end
end Go.Hx

/-
  The table of functions, as a tree.
-/
namespace Go.Hx
open Go

inductive FTr where
  | leaf (f : Option Func)
  | node (l r : FTr)
def FTr.get : FTr → Nat → Option Func
  | .leaf i, 0 => i
  | .leaf _, _ + 1 => none
  | .node l r, t => match t % 2 with
    | 0 => l.get (t / 2)
    | _ => r.get (t / 2)
def FTr.ok (P : Program) : FTr → Nat → Nat → Prop
  | .leaf i, b, _ => match i with
    | some fn => P.funcs[b]? = some fn ∧ (fn.name == "runtime.NumGoroutine") = false ∧ fn.body.isSome = true
    | none => True
  | .node l r, b, s => l.ok P b (2 * s) ∧ r.ok P (b + s) (2 * s)
theorem FTr.ok_get {P : Program} : ∀ {x : FTr} {b s : Nat}, x.ok P b s → ∀ t fn, x.get t = some fn → P.funcs[b + s * t]? = some fn ∧ (fn.name == "runtime.NumGoroutine") = false ∧ fn.body.isSome = true
  | .leaf i, b, s, h, 0, fn, hg => by
    simp only [FTr.get] at hg
    subst hg
    simpa [FTr.ok] using h
  | .leaf i, b, s, h, t + 1, fn, hg => by simp [FTr.get] at hg
  | .node l r, b, s, h, t, fn, hg => by
    simp only [FTr.get] at hg
    obtain ⟨h1, h2⟩ := h
    split at hg
    · rename_i h0
      have := FTr.ok_get h1 (t / 2) fn hg
      have e : b + 2 * s * (t / 2) = b + s * t := by
        have h3 : t = 2 * (t / 2) := by omega
        calc b + 2 * s * (t / 2) = b + s * (2 * (t / 2)) := by rw [Nat.mul_comm 2 s, Nat.mul_assoc]
          _ = b + s * t := by rw [← h3]
      rw [e] at this; exact this
    · rename_i h0
      have := FTr.ok_get h2 (t / 2) fn hg
      have e : b + s + 2 * s * (t / 2) = b + s * t := by
        have h4 : ¬ t % 2 = 0 := h0
        have h3 : t = 2 * (t / 2) + 1 := by omega
        calc b + s + 2 * s * (t / 2) = b + (s * (2 * (t / 2)) + s * 1) := by rw [Nat.mul_comm 2 s, Nat.mul_assoc, Nat.mul_one, Nat.add_assoc, Nat.add_comm s]
          _ = b + s * (2 * (t / 2) + 1) := by rw [← Nat.mul_add]
          _ = b + s * t := by rw [← h3]
      rw [e] at this; exact this
theorem ft_of_ok {P : Program} {x : FTr} (h : x.ok P 0 1) : ∀ f fn, x.get f = some fn → P.funcs[f]? = some fn ∧ (fn.name == "runtime.NumGoroutine") = false ∧ fn.body.isSome = true := by
  intro f fn hg
  have := FTr.ok_get h f fn hg
  rw [Nat.zero_add, Nat.one_mul] at this
  exact this

/-- Tables without what is known of functions. -/
def tabs (x : Tr) (f : FTr) (xt : Nat → Option XK) (et : Nat → Option (List (Option IntKind))) (ct : Nat → Option Spec) (un : Nat) : Tabs := ⟨x.get, f.get, ct, xt, et, un⟩
end Go.Hx

/-
  From the row's words to the heap machine's: arguments of plain data, opened.
-/
namespace Go.Hx
open Go Go.RowKit

/-- Plain values: integers of a kind (some), bools (none), each in its bounds. -/
def okK : List (Option IntKind) → List SV → Prop
  | [], [] => True
  | some k :: ks, v :: l => (∃ n, v = .int k n ∧ (Lit.int k n).wf = true) ∧ okK ks l
  | none :: ks, v :: l => (∃ b, v = .bool b) ∧ okK ks l
  | _, _ => False

theorem okK_append : ∀ {ks ks' : List (Option IntKind)} {l l' : List SV}, okK ks l → okK ks' l' → okK (ks ++ ks') (l ++ l')
  | [], ks', [], l', _, h => h
  | some k :: ks, ks', v :: l, l', h, h' => ⟨h.1, okK_append h.2 h'⟩
  | none :: ks, ks', v :: l, l', h, h' => ⟨h.1, okK_append h.2 h'⟩
  | some _ :: _, _, [], _, h, _ => by simp [okK] at h
  | none :: _, _, [], _, h, _ => by simp [okK] at h
  | [], _, _ :: _, _, h, _ => by simp [okK] at h
theorem okK_length : ∀ {ks : List (Option IntKind)} {l : List SV}, okK ks l → l.length = ks.length
  | [], [], _ => rfl
  | some k :: ks, v :: l, h => by simp [okK_length h.2]
  | none :: ks, v :: l, h => by simp [okK_length h.2]
  | some _ :: _, [], h => by simp [okK] at h
  | none :: _, [], h => by simp [okK] at h
  | [], _ :: _, h => by simp [okK] at h
theorem okK_closed : ∀ {ks : List (Option IntKind)} {l : List SV}, okK ks l → ∀ v ∈ l, SV.okh (fun _ => false) v = true
  | [], [], _ => by simp
  | some k :: ks, v :: l, h => by
    intro u hu
    simp only [List.mem_cons] at hu
    rcases hu with rfl | hu
    · obtain ⟨n, rfl, _⟩ := h.1; rfl
    · exact okK_closed h.2 u hu
  | none :: ks, v :: l, h => by
    intro u hu
    simp only [List.mem_cons] at hu
    rcases hu with rfl | hu
    · obtain ⟨n, rfl⟩ := h.1; rfl
    · exact okK_closed h.2 u hu
  | some _ :: _, [], h => by simp [okK] at h
  | none :: _, [], h => by simp [okK] at h
  | [], _ :: _, h => by simp [okK] at h
theorem okK_trs {ks : List (Option IntKind)} {l : List SV} (h : okK ks l) (ρ ρ' : Nat → Nat × Nat) : SV.trs ρ l = SV.trs ρ' l :=
  trs_congr (A := fun _ => false) (fun x hx => by simp at hx) l ((okhs_iff l).2 (okK_closed h))

/-- What a plain type is made of. -/
def flatK (P : Program) : Nat → TypeId → Option (List (Option IntKind))
  | 0, _ => none
  | n + 1, t => match P.underlying t with
    | some (.int k) => some [some k]
    | some .bool => some [none]
    | some (.struct fs) => fs.toList.foldr (fun f (r : Nat → Option (List (Option IntKind))) off =>
        if f.offset == off then (match flatK P n f.type with
          | some ks => if P.cellsOf f.type == ks.length then (match r (off + ks.length) with | some r' => some (ks ++ r') | none => none) else none
          | none => none) else none) (fun off => if P.cellsOf t == off then some [] else none) 0
    | some (.array m e) => match flatK P n e with
      | some ks => if P.cellsOf e == ks.length && P.cellsOf t == m * ks.length then some ((List.replicate m ks).flatten) else none
      | none => none
    | _ => none

section
variable {H : Type} {enc : TypeId × Value → H} {P : Program} {w : World} {base : Nat} {spare : Nat → Bool} {held : Bool}

theorem take_drop_all {α : Type} (l : List α) (m s : Nat) (h : l.length = m * s) : ∀ n, n ≤ m → ((List.range n).map fun i => (l.drop (i * s)).take s).flatten = l.take (n * s)
  | 0, _ => by simp
  | n + 1, hn => by
    rw [List.range_succ, List.map_append, List.flatten_append, take_drop_all l m s h n (by omega)]
    simp only [List.map_cons, List.map_nil, List.flatten_cons, List.flatten_nil, List.append_nil]
    rw [Nat.succ_mul, List.take_add]

theorem flat_open : ∀ (n : Nat) {t : TypeId} {ks : List (Option IntKind)} {fuel : Nat} {cs : List Value} {x : DataW H × List MemPlace}, flatK P n t = some ks → DataW.trod enc P w base spare held fuel t cs = some x →
    ∃ l, okK ks l ∧ cs = SV.trs (fun _ => (0, 0)) l := by
  intro n
  induction n with
  | zero => intro t ks fuel cs x h; simp [flatK] at h
  | succ n ih =>
    intro t ks fuel cs x h hx
    unfold flatK at h
    split at h
    · rename_i k hu
      simp at h; subst h
      obtain ⟨m, rfl, _, hwf⟩ := DataW.trod_int hu hx
      exact ⟨[.int k m], ⟨⟨m, rfl, hwf⟩, trivial⟩, rfl⟩
    · rename_i hu
      simp at h; subst h
      obtain ⟨b, rfl, _⟩ := DataW.trod_bool hu hx
      exact ⟨[.bool b], ⟨⟨b, rfl⟩, trivial⟩, rfl⟩
    · rename_i fs hu
      obtain ⟨xs, m, _, _, hlen, _, hf⟩ := DataW.trod_struct hu hx
      -- the fields, from an offset on
      have key : ∀ (l : List Field) (off : Nat) (ks : List (Option IntKind)), (∀ f ∈ l, ∃ y, DataW.trod enc P w base spare held m f.type ((cs.drop f.offset).take (P.cellsOf f.type)) = some y) →
          l.foldr (fun f (r : Nat → Option (List (Option IntKind))) off =>
            if f.offset == off then (match flatK P n f.type with
              | some ks => if P.cellsOf f.type == ks.length then (match r (off + ks.length) with | some r' => some (ks ++ r') | none => none) else none
              | none => none) else none) (fun off => if P.cellsOf t == off then some [] else none) off = some ks →
          ∃ v, okK ks v ∧ cs.drop off = SV.trs (fun _ => (0, 0)) v := by
        intro l
        induction l with
        | nil =>
          intro off ks _ hk
          simp only [List.foldr_nil] at hk
          split at hk
          · rename_i he
            simp at hk; subst hk
            have he' : P.cellsOf t = off := by simpa using he
            refine ⟨[], trivial, ?_⟩
            rw [List.drop_eq_nil_of_le (by omega)]; rfl
          · simp at hk
        | cons f l ihl =>
          intro off ks hall hk
          simp only [List.foldr_cons] at hk
          split at hk
          · rename_i ho
            have ho' : f.offset = off := by simpa using ho
            split at hk
            · rename_i kf hkf
              split at hk
              · rename_i hc
                have hc' : P.cellsOf f.type = kf.length := by simpa using hc
                split at hk
                · rename_i r' hr
                  simp at hk; subst hk
                  obtain ⟨y, hy⟩ := hall f (by simp)
                  obtain ⟨v1, h1, e1⟩ := ih hkf hy
                  obtain ⟨v2, h2, e2⟩ := ihl (off + kf.length) r' (fun g hg => hall g (by simp [hg])) hr
                  refine ⟨v1 ++ v2, okK_append h1 h2, ?_⟩
                  rw [ho', hc'] at e1
                  rw [trs_append, ← e1, ← e2, ← List.drop_drop, List.take_append_drop]
                · simp at hk
              · simp at hk
            · simp at hk
          · simp at hk
      obtain ⟨v, h1, h2⟩ := key fs.toList 0 ks (fun f hfm => by
        obtain ⟨i, hi⟩ := List.getElem?_of_mem hfm
        have hi' : fs[i]? = some f := by simpa using hi
        have := hf i f hi'
        have hlt : i < xs.length := by
          have := (Array.getElem?_eq_some_iff.1 hi').1
          omega
        rw [List.getElem?_eq_getElem hlt] at this
        exact ⟨_, this⟩) h
      exact ⟨v, h1, by simpa using h2⟩
    · rename_i m e hu
      split at h
      · rename_i ke hke
        split at h
        · rename_i hc
          simp at h; subst h
          simp only [Bool.and_eq_true, beq_iff_eq] at hc
          obtain ⟨xs, m', _, _, hlen, hxl, hf⟩ := DataW.trod_array hu hx
          have hel : ∀ i, i < m → ∃ v, okK ke v ∧ (cs.drop (i * ke.length)).take ke.length = SV.trs (fun _ => (0, 0)) v := by
            intro i hi
            have := hf i hi
            rw [List.getElem?_eq_getElem (by omega), hc.1] at this
            exact ih hke this
          have key : ∀ j, j ≤ m → ∃ v, okK ((List.replicate j ke).flatten) v ∧ cs.take (j * ke.length) = SV.trs (fun _ => (0, 0)) v := by
            intro j
            induction j with
            | zero => intro _; exact ⟨[], trivial, by simp [SV.trs]⟩
            | succ j ihj =>
              intro hj
              obtain ⟨v1, h1, e1⟩ := ihj (by omega)
              obtain ⟨v2, h2, e2⟩ := hel j (by omega)
              refine ⟨v1 ++ v2, ?_, ?_⟩
              · rw [List.replicate_succ', List.flatten_append]
                simpa using okK_append h1 h2
              · rw [Nat.succ_mul, List.take_add, e1, e2, trs_append]
          obtain ⟨v, h1, h2⟩ := key m (Nat.le_refl m)
          refine ⟨v, h1, ?_⟩
          rw [← h2, List.take_of_length_le (by omega)]
        · simp at h
      · simp at h
    · simp at h
end
end Go.Hx

/-
  A call's arguments, as the row hands them in: integers, bools, plain values, slices of plain values.
-/
namespace Go.Hx
open Go Go.RowKit Go.ChangeShapes Go.WideShapes

section
variable {H : Type} {enc : TypeId × Value → H} {P : Program} {w : World} {t : TypeId} {v : Value} {d : DataW H} {ps : List MemPlace}

theorem tr_plain {ks : List (Option IntKind)} {l : List SV} (h : okK ks l) (ρ ρ' : Nat → Nat × Nat) {c : Nat} {u : SV} (hc : l[c]? = some u) : u.tr ρ = u.tr ρ' := by
  have := okK_closed h u (List.mem_of_getElem? hc)
  exact tr_congr (A := fun _ => false) (fun x hx => by simp at hx) u this

theorem okK_okhs {ks : List (Option IntKind)} {l : List SV} (h : okK ks l) : SV.okhs (fun _ => false) l = true := (okhs_iff l).2 (okK_closed h)

/-- A plain value that is passed as it is. -/
theorem arg_agg {ks : List (Option IntKind)} (n : Nat) (hk : flatK P n t = some ks) (ha : ∃ cs, v = .agg cs) (h : DataW.Trod enc P w 0 (fun _ => true) true t v d ps) :
    ∃ l, okK ks l ∧ v = SV.tr (fun _ => (0, 0)) (.agg l) := by
  obtain ⟨cs, rfl⟩ := ha
  obtain ⟨fuel, hf⟩ := h
  obtain ⟨l, h1, h2⟩ := flat_open n hk hf
  refine ⟨l, h1, ?_⟩
  simp only [SV.tr, ← h2, Value.cells]

theorem arg_array {m : Nat} {e : TypeId} (ht : P.underlying t = some (.array m e)) {r : Reach} {base : Nat} (h : Value.okWide P w r base t v) : ∃ cs, v = .agg cs := by
  simp only [Value.okWide, ht] at h
  obtain ⟨cs, h1, _⟩ := h
  exact ⟨cs, h1⟩
theorem arg_struct {fs : Array Field} (ht : P.underlying t = some (.struct fs)) {r : Reach} {base : Nat} (h : Value.okWide P w r base t v) : ∃ cs, v = .agg cs := by
  simp only [Value.okWide, ht] at h
  obtain ⟨cs, h1, _⟩ := h
  exact ⟨cs, h1⟩

theorem arg_int {k : IntKind} (ht : P.underlying t = some (.int k)) (h : DataW.Trod enc P w 0 (fun _ => true) true t v d ps) {r : Reach} {base : Nat} (ho : Value.okWide P w r base t v) :
    ∃ n, v = .int k n ∧ (Lit.int k n).wf = true := by
  obtain ⟨n, rfl⟩ := okWide_int ht ho
  obtain ⟨fuel, hf⟩ := h
  obtain ⟨m, h1, _, h2⟩ := DataW.trod_int ht hf
  simp [Value.cells] at h1
  subst h1
  exact ⟨n, rfl, h2⟩

theorem add_nil {x : Addr} (hs : x.spot = none) (i : Nat) : x.add i = ⟨x.block, x.off + i, none⟩ := by
  obtain ⟨b, o, s⟩ := x
  simp only at hs; subst hs
  exact add_off b o i
theorem spot_none {x : Addr} {u : Value} (h : w.cell? x = some u) : x.spot = none := by
  unfold World.cell? at h
  split at h
  · split at h
    · simp at h
    · rename_i h2; simpa using h2
  · simp at h

/-- A slice of rows of plain cells. -/
def ArgRows (w : World) (ks : List (Option IntKind)) (a : Option Addr) (len cap : Nat) : Prop :=
  (len = 0 ∧ cap = 0) ∨ ∃ (b o : Nat) (f : Nat → List SV), a = some ⟨b, o, none⟩ ∧ len ≤ cap ∧ 0 < cap ∧ cap ≤ maxLen ∧ b < w.heap.size ∧
    (∀ i, okK ks (f i)) ∧ ∀ i, i < cap → ∀ (ρ : Nat → Nat × Nat) (c : Nat) (u : SV), (f i)[c]? = some u → w.cell? ⟨b, o + (i * ks.length + c), none⟩ = some (u.tr ρ)

theorem arg_rows {e : TypeId} {ks : List (Option IntKind)} {a : Option Addr} {len cap : Nat} (n : Nat) (ht : P.underlying t = some (.slice e)) (hk : flatK P n e = some ks) (hpos : 0 < ks.length) (hc : P.cellsOf e = ks.length)
    (h : DataW.Trod enc P w 0 (fun _ => true) true t (.slice a len cap) d ps) : ArgRows w ks a len cap := by
  obtain ⟨fuel, hf⟩ := h
  rcases Deep.open_slice ht hf with ⟨h1, _⟩ | ⟨x, l, c, m, nn, D, Pl, h1, _, hl, hm, rfl, _, hx⟩
  · simp [Value.cells] at h1
    exact .inl ⟨h1.2.1, h1.2.2⟩
  · simp [Value.cells] at h1
    obtain ⟨rfl, rfl, rfl⟩ := h1
    have hx : ∀ i, i < cap → ∃ cs', w.cells? 0 (x.add (i * P.cellsOf e)) (P.cellsOf e) = some cs' ∧ DataW.trod enc P w 0 (fun _ => true) true nn e cs' = some (D i, Pl i) := hx
    rw [hc] at hx
    by_cases h0 : cap = 0
    · exact .inl ⟨by omega, h0⟩
    refine .inr ?_
    have hx' : ∀ i, i < cap → ∃ l : List SV, okK ks l ∧ ∀ c u, l[c]? = some u → w.cell? ((x.add (i * ks.length)).add c) = some (u.tr (fun _ => (0, 0))) := by
      intro i hi
      obtain ⟨cs', h2, h3⟩ := hx i hi
      obtain ⟨l, h4, h5⟩ := flat_open n hk h3
      refine ⟨l, h4, fun c u hcu => ?_⟩
      obtain ⟨_, h6, h7⟩ := World.cells?_some h2
      have hlt := (List.getElem?_eq_some_iff.1 hcu).1
      rw [okK_length h4] at hlt
      rw [h7 c hlt, h5, trs_eq_map, List.getElem?_map, hcu]
      rfl
    obtain ⟨f, hf2⟩ := Deep.choose_lt (α := List SV) hx'
    have hsp : x.spot = none := by
      obtain ⟨q1, q2⟩ := hf2 0 (by omega)
      have hlen := okK_length q1
      obtain ⟨u, hu⟩ : ∃ u, (f 0)[0]? = some u := ⟨(f 0)[0]'(by omega), List.getElem?_eq_getElem (by omega)⟩
      have := spot_none (q2 0 u hu)
      simpa [Addr.add] using this
    have hcell : ∀ i c, (x.add (i * ks.length)).add c = ⟨x.block, x.off + (i * ks.length + c), none⟩ := by
      intro i c
      rw [Deep.add_add, add_nil hsp]
    refine ⟨x.block, x.off, fun i => f (if i < cap then i else 0), ?_, hl, by omega, hm, ?_, fun i => ?_, fun i hi ρ c u hcu => ?_⟩
    · obtain ⟨b, o, s⟩ := x
      simp only at hsp; subst hsp; rfl
    · obtain ⟨q1, q2⟩ := hf2 0 (by omega)
      have hlen := okK_length q1
      obtain ⟨u, hu⟩ : ∃ u, (f 0)[0]? = some u := ⟨(f 0)[0]'(by omega), List.getElem?_eq_getElem (by omega)⟩
      have := q2 0 u hu
      rw [hcell] at this
      exact block_lt_of_cell (a := ⟨x.block, x.off + (0 * ks.length + 0), none⟩) this
    · exact (hf2 _ (by split <;> omega)).1
    · simp only [if_pos hi] at hcu
      rw [← hcell, (hf2 i hi).2 c u hcu, tr_plain (hf2 i hi).1 ρ (fun _ => (0, 0)) hcu]

/-- A slice of integers. -/
def ArgInts (w : World) (k : IntKind) (a : Option Addr) (len cap : Nat) : Prop :=
  (len = 0 ∧ cap = 0) ∨ ∃ (b o : Nat) (zs : List Int), a = some ⟨b, o, none⟩ ∧ len ≤ cap ∧ 0 < cap ∧ cap ≤ maxLen ∧ b < w.heap.size ∧ zs.length = len ∧ (∀ n ∈ zs, (Lit.int k n).wf = true) ∧
    ∀ i n, zs[i]? = some n → w.cell? ⟨b, o + i, none⟩ = some (.int k n)

theorem arg_ints {e : TypeId} {k : IntKind} {a : Option Addr} {len cap : Nat} (ht : P.underlying t = some (.slice e)) (he : P.underlying e = some (.int k)) (hc : P.cellsOf e = 1)
    (h : DataW.Trod enc P w 0 (fun _ => true) true t (.slice a len cap) d ps) : ArgInts w k a len cap := by
  obtain ⟨fuel, hf⟩ := h
  rcases open_ints ht he hc hf with ⟨h1, _⟩ | ⟨x, l, c, zs, h1, _, hl, hm, hz, _, hcell, hwz⟩
  · simp [Value.cells] at h1
    exact .inl ⟨h1.2.1, h1.2.2⟩
  · simp [Value.cells] at h1
    obtain ⟨rfl, rfl, rfl⟩ := h1
    simp only [if_true] at hz
    by_cases h0 : cap = 0
    · exact .inl ⟨by omega, h0⟩
    have hsp : x.spot = none := by
      have := spot_none (hcell 0 (by omega))
      simpa [Addr.add] using this
    refine .inr ⟨x.block, x.off, zs.take len, ?_, hl, by omega, hm, ?_, by simp; omega, fun n hn => hwz n (List.mem_of_mem_take hn), fun i n hi => ?_⟩
    · obtain ⟨b, o, s⟩ := x
      simp only at hsp; subst hsp; rfl
    · have := hcell 0 (by omega)
      rw [add_nil hsp] at this
      exact block_lt_of_cell (a := ⟨x.block, x.off + 0, none⟩) this
    · rw [List.getElem?_take] at hi
      split at hi
      · rename_i hlt
        have := hcell i (by omega)
        rw [add_nil hsp] at this
        rw [this, List.getD_eq_getElem?_getD, hi]; rfl
      · simp at hi
end

/-- Windows that are read alone, at places of their own blocks. -/
theorem hsat_rows {w : World} {ks : List (Option IntKind)} {b o n : Nat} {f : Nat → List SV} (hb : b < w.heap.size) (hk : ∀ i, okK ks (f i)) (hc : ∀ i, i < n → ∀ (ρ : Nat → Nat × Nat) (c : Nat) (u : SV), (f i)[c]? = some u → w.cell? ⟨b, o + (i * ks.length + c), none⟩ = some (u.tr ρ)) :
    HSat w (Own (fun _ => (b, o)) [.obj (.rows n ks.length f)]) (fun _ => (b, o)) [.obj (.rows n ks.length f)] w := by
  refine ⟨?_, fun _ _ => hb, ?_, ?_, Fr.refl _ _⟩
  · intro h u hu
    cases h with
    | zero => simp at hu; subst hu; exact ⟨fun i hi c v hv => ⟨okK_closed (hk i) v (List.mem_of_getElem? hv), hc i hi _ c v hv⟩, rfl⟩
    | succ h => simp at hu
  · intro h h' o o' hh hh' _
    have := there_lt (there_of_obj hh)
    have := there_lt (there_of_obj hh')
    simp at *
    omega
  · intro h u hu ho
    cases h with
    | zero => simp at hu; subst hu; simp [SO.owned] at ho
    | succ h => simp at hu

theorem own_one {ρ : Nat → Nat × Nat} {o : SO} (h : o.owned = false) : ∀ b, ¬ Own ρ [HE.obj o] b :=
  own_none fun i u hu => by
    cases i with
    | zero => simp at hu; subst hu; exact h
    | succ i => simp at hu

/-- No slice among the arguments. -/
theorem calls_flat {P : Program} {f : Nat} {args : List SV} {L : List HE} {w : World} (hg : Gives P f args [] (Is .tt L)) (hok : SV.okhs (fun _ => false) args = true) :
    Calls P f (SV.trs (fun _ => (0, 0)) args).toArray w fun e w' => e = .returned (.bool true) ∧ Below w.heap.size w w' :=
  calls_true (fun _ => (0, 0)) hg (hsat_nil w _) (okhs_mono (A := fun _ => false) (fun x hx => by simp at hx) args hok) (own_none fun i o h => by simp at h) rfl

/-- One slice of rows. -/
theorem calls_rows {P : Program} {f : Nat} {pre post : List SV} {ks : List (Option IntKind)} {w : World} {a : Option Addr} {len cap : Nat} (h : ArgRows w ks a len cap)
    (g0 : Gives P f (pre ++ .raw (.slice a 0 0) :: post) [] (Is .tt [])) (hpre : SV.okhs (fun _ => false) pre = true) (hpost : SV.okhs (fun _ => false) post = true)
    (g1 : ∀ (o : Nat → List SV), (∀ i, okK ks (o i)) → len ≤ maxLen → ∃ L, Gives P f (pre ++ .slice 0 0 len cap :: post) [.obj (.rows len ks.length o)] (Is .tt L)) :
    Calls P f (SV.trs (fun _ => (0, 0)) pre ++ Value.slice a len cap :: SV.trs (fun _ => (0, 0)) post).toArray w fun e w' => e = .returned (.bool true) ∧ Below w.heap.size w w' := by
  have mono : ∀ (A : Nat → Bool) (l : List SV), SV.okhs (fun _ => false) l = true → SV.okhs A l = true := by
    intro A l hl
    rw [okhs_iff] at hl ⊢
    exact fun v hv => okh_mono (A := fun _ => false) (fun x hx => by simp at hx) v (hl v hv)
  rcases h with ⟨rfl, rfl⟩ | ⟨b, o, g, rfl, hl, h0, hm, hb, hk, hc⟩
  · refine calls_true (fun _ => (0, 0)) g0 (hsat_nil w _) ?_ (own_none fun i o h => by simp at h) ?_
    · rw [okhs_append, mono _ _ hpre]; simp [SV.okhs, SV.okh, mono _ _ hpost]
    · rw [trs_append]; rfl
  · obtain ⟨L, hg⟩ := g1 g hk (by omega)
    refine calls_true (fun _ => (b, o)) hg (hsat_rows hb hk fun i hi => hc i (by omega)) ?_ (own_one rfl) ?_
    · rw [okhs_append, mono _ _ hpre]; simp [SV.okhs, SV.okh, mono _ _ hpost, there, HE.there]
    · rw [trs_append, trs_congr (A := fun _ => false) (fun x hx => by simp at hx) pre hpre]
      simp only [SV.trs, SV.tr]
      rw [trs_congr (A := fun _ => false) (fun x hx => by simp at hx) post hpost (ρ := fun _ => (b, o)) (ρ' := fun _ => (0, 0))]
      rfl

/-- One slice of integers. -/
theorem calls_ints {P : Program} {f : Nat} {pre post : List SV} {k : IntKind} {w : World} {a : Option Addr} {len cap : Nat} (h : ArgInts w k a len cap)
    (g0 : Gives P f (pre ++ .raw (.slice a 0 0) :: post) [] (Is .tt [])) (hpre : SV.okhs (fun _ => false) pre = true) (hpost : SV.okhs (fun _ => false) post = true)
    (g1 : ∀ (z : List Int), z.length = len → (∀ n ∈ z, (Lit.int k n).wf = true) → len ≤ maxLen → ∃ L, Gives P f (pre ++ .slice 0 0 len cap :: post) [.obj (.winI k z)] (Is .tt L)) :
    Calls P f (SV.trs (fun _ => (0, 0)) pre ++ Value.slice a len cap :: SV.trs (fun _ => (0, 0)) post).toArray w fun e w' => e = .returned (.bool true) ∧ Below w.heap.size w w' := by
  have mono : ∀ (A : Nat → Bool) (l : List SV), SV.okhs (fun _ => false) l = true → SV.okhs A l = true := by
    intro A l hl
    rw [okhs_iff] at hl ⊢
    exact fun v hv => okh_mono (A := fun _ => false) (fun x hx => by simp at hx) v (hl v hv)
  rcases h with ⟨rfl, rfl⟩ | ⟨b, o, z, rfl, hl, h0, hm, hb, hz, hwz, hc⟩
  · refine calls_true (fun _ => (0, 0)) g0 (hsat_nil w _) ?_ (own_none fun i o h => by simp at h) ?_
    · rw [okhs_append, mono _ _ hpre]; simp [SV.okhs, SV.okh, mono _ _ hpost]
    · rw [trs_append]; rfl
  · obtain ⟨L, hg⟩ := g1 z hz hwz (by omega)
    refine calls_true (fun _ => (b, o)) hg (hsat_winI hb hc) ?_ (own_one rfl) ?_
    · rw [okhs_append, mono _ _ hpre]; simp [SV.okhs, SV.okh, mono _ _ hpost, there, HE.there]
    · rw [trs_append, trs_congr (A := fun _ => false) (fun x hx => by simp at hx) pre hpre]
      simp only [SV.trs, SV.tr]
      rw [trs_congr (A := fun _ => false) (fun x hx => by simp at hx) post hpost (ρ := fun _ => (b, o)) (ρ' := fun _ => (0, 0))]
      rfl
end Go.Hx

/-
  A contract over a small heap, in a larger one.
-/
namespace Go.Hx
open Go

theorem gives_frame {P : Program} {f : Nat} {as cargs : List SV} {H Hc L : List HE} {V : SV} (hT : ∃ TE : Nat → TI, ∀ t, TIok P t (TE t)) (hF : Gives P f cargs Hc (Is V L)) (σs : List Nat) (hargs : as = SV.rens (nm σs H) cargs) (hcok : SV.okhs (there Hc) cargs = true)
    (hlen : σs.length = Hc.length) (hobj : allObj Hc = true) (hokc : okHs (there Hc) Hc = true) (hnd : nodupN σs = true) (hsub : subC (nm σs H) H 0 Hc) (hnew : newOk (L.drop σs.length) = true) :
    Gives P f as H (Is (V.ren (nm σs H)) (merge (nm σs H) σs H L)) := by
  intro ρ w hS hok
  obtain ⟨TE, hTE⟩ := hT
  have hsub' : ∀ (h : Nat) (o : SO), Hc[h]? = some (.obj o) → H[sig σs H.length h]? = some (.obj (o.ren (sig σs H.length))) := fun h o ho => by
    have := subC_get hsub h o ho
    simpa [nm] using this
  have hthc : ∀ h, there Hc h = true → there H (sig σs H.length h) = true := fun h hh => by
    obtain ⟨o, ho⟩ := allObj_get hobj (there_lt hh)
    exact there_of_obj (hsub' h o ho)
  have hSc : HSat w (Own (fun x => ρ (sig σs H.length x)) Hc) (fun x => ρ (sig σs H.length x)) Hc w := by
    refine ⟨fun h o ho => ⟨(SO.holds_ren o).1 (hS.objs _ _ (hsub' h o ho)).1, okHs_get hokc ho⟩, fun h hh => hS.size _ (hthc h hh), ?_, fun h o ho hoo => .inl ⟨h, o, ho, hoo, rfl⟩, Fr.refl _ _⟩
    intro h h' o o' hh hh' e
    have := hS.inj _ _ _ _ (hsub' h o hh) (hsub' h' o' hh') e
    have l1 : h < σs.length := by rw [hlen]; exact there_lt (there_of_obj hh)
    have l2 : h' < σs.length := by rw [hlen]; exact there_lt (there_of_obj hh')
    have g1 := sig_lt (b := H.length) l1
    have g2 := sig_lt (b := H.length) l2
    rw [this] at g1
    exact nodupN_get hnd g1 g2
  have he : SV.trs ρ as = SV.trs (fun x => ρ (sig σs H.length x)) cargs := by rw [hargs, trs_rens]; rfl
  rw [he]
  refine Calls.mono (hF (fun x => ρ (sig σs H.length x)) w hSc hcok) fun e w' he => ?_
  cases e with
  | panicked c => exact he
  | outgrown => exact he
  | returned V' =>
    obtain ⟨ρc, Hn, v, ⟨rfl, rfl⟩, rfl, hvok, hSn, hb⟩ := he
    have hs : Sat (E := ⟨P, TE, 0, fun _ _ _ => True, w, Own ρ H, H, ρ, hTE⟩) ρ [] H ⟨#[], []⟩ w := ⟨hS, ⟨fun t v h => by simp [look] at h, rfl, rfl⟩, fun h hh => ⟨rfl, hh⟩⟩
    obtain ⟨ρ', m1, m2, m3, m4⟩ := merge_sat hs hlen hobj hnd hsub' hSn hb hnew
    refine ⟨ρ', _, _, ⟨rfl, rfl⟩, ?_, ?_, m1, fun h hh => ⟨(m2 h hh).symm, m3 h hh⟩⟩
    · rw [tr_ren]
      exact (tr_congr (fun h hh => (m4 h hh).1) v hvok).symm
    · rw [okh_ren]
      exact okh_mono (fun h hh => (m4 h hh).2) v hvok

mutual
theorem ren_closed (σ : Nat → Nat) : ∀ {v : SV}, v.okh (fun _ => false) = true → v.ren σ = v
  | .ptr x o, hv => by simp [SV.okh] at hv
  | .rptr x o i s c, hv => by simp [SV.okh] at hv
  | .bptr x i s c, hv => by simp [SV.okh] at hv
  | .sbuf x s o l, hv => by simp [SV.okh] at hv
  | .slice x o l c, hv => by simp [SV.okh] at hv
  | .map x, hv => by simp [SV.okh] at hv
  | .func fn a c, hv => by simp [SV.okh] at hv; simp [SV.ren, rens_closed σ hv.1, rens_closed σ hv.2]
  | .iface t v, hv => by simp [SV.okh] at hv; simp [SV.ren, ren_closed σ hv]
  | .agg l, hv => by simp [SV.okh] at hv; simp [SV.ren, rens_closed σ hv]
  | .tup l, hv => by simp [SV.okh] at hv; simp [SV.ren, rens_closed σ hv]
  | .tt, _ | .ff, _ | .bool _, _ | .int _ _, _ | .str _, _ | .nilptr, _ | .nilslice, _ | .nilmap, _ | .nilfunc, _ | .niliface, _ | .raw _, _ => by simp [SV.ren]
theorem rens_closed (σ : Nat → Nat) : ∀ {l : List SV}, SV.okhs (fun _ => false) l = true → SV.rens σ l = l
  | [], _ => rfl
  | v :: r, hv => by simp [SV.okhs] at hv; simp [SV.rens, ren_closed σ hv.1, rens_closed σ hv.2]
end

/-- A contract that reaches no memory, in any heap. -/
theorem gives_pure {P : Program} {f : Nat} {args : List SV} {V : SV} (hT : ∃ TE : Nat → TI, ∀ t, TIok P t (TE t)) (h : Gives P f args [] (Is V [])) (ha : SV.okhs (fun _ => false) args = true) (hv : V.okh (fun _ => false) = true) (H : List HE) :
    Gives P f args H (Is V H) := by
  have hth : there ([] : List HE) = fun _ => false := funext fun x => by simp [there]
  have := gives_frame (H := H) hT h [] (rens_closed _ ha).symm (by rw [hth]; exact ha) rfl rfl rfl rfl trivial rfl
  rw [ren_closed _ hv] at this
  simpa [merge, setAll] using this

/-- What a function that reaches no memory gives, as a table's row. -/
def pureS (g : List SV → Option (List Prop × SV)) : Spec := fun args H => match g args with
  | some (ob, v) => some (ob, v, H)
  | none => none

theorem pureS_ok {P : Program} {f : Nat} {g : List SV → Option (List Prop × SV)} (hT : ∃ TE : Nat → TI, ∀ t, TIok P t (TE t))
    (h : ∀ args ob V, g args = some (ob, V) → AllP ob → SV.okhs (fun _ => false) args = true ∧ V.okh (fun _ => false) = true ∧ Gives P f args [] (Is V []))
    {args : List SV} {H : List HE} {ob : List Prop} {V : SV} {L : List HE} (hs : pureS g args H = some (ob, V, L)) (ho : AllP ob) : Gives P f args H (Is V L) := by
  unfold pureS at hs
  split at hs
  · rename_i ob' v hg
    simp at hs
    obtain ⟨rfl, rfl, rfl⟩ := hs
    obtain ⟨h1, h2, h3⟩ := h _ _ _ hg ho
    exact gives_pure hT h3 h1 h2 _
  · simp at hs

theorem wfU {n : Int} (h : (Lit.int .u64 n).wf = true) : 0 ≤ n ∧ n < 18446744073709551616 := by
  simp only [Lit.wf, Bool.and_eq_true, decide_eq_true_eq] at h
  have e1 : IntKind.u64.min = 0 := by decide
  have e2 : IntKind.u64.max = 18446744073709551615 := by decide
  omega
theorem wfI {n : Int} (h : (Lit.int .i64 n).wf = true) : -9223372036854775808 ≤ n ∧ n < 9223372036854775808 := by
  simp only [Lit.wf, Bool.and_eq_true, decide_eq_true_eq] at h
  have e1 : IntKind.i64.min = -9223372036854775808 := by decide
  have e2 : IntKind.i64.max = 9223372036854775807 := by decide
  omega
end Go.Hx

/-
  Bits of words, as numbers.
-/
namespace Go.Hx
open Go

theorem wrapU {n : Int} (h1 : 0 ≤ n) (h2 : n < 18446744073709551616) : IntKind.u64.wrap n = n := by
  rw [IntKind.wrap_u64]; omega

theorem ofInt_nat {x : Nat} (h : x < 18446744073709551616) : (BitVec.ofInt 64 (x : Int)).toNat = x := by
  rw [BitVec.ofInt_natCast, BitVec.toNat_ofNat]
  exact Nat.mod_eq_of_lt h

theorem pow64 {n : Nat} (h : n ≤ 64) : 2 ^ n ≤ 18446744073709551616 := Nat.pow_le_pow_right (n := 2) (by decide) h

theorem and_mask {x n : Nat} (hx : x < 18446744073709551616) (hn : n ≤ 64) : ibits .and .u64 (x : Int) ((2 ^ n - 1 : Nat) : Int) = ((x % 2 ^ n : Nat) : Int) := by
  have hp := pow64 hn
  have hp1 : 1 ≤ 2 ^ n := Nat.one_le_two_pow
  have h : (BitVec.ofInt 64 (x : Int) &&& BitVec.ofInt 64 ((2 ^ n - 1 : Nat) : Int)).toNat = x % 2 ^ n := by
    rw [BitVec.toNat_and, ofInt_nat hx, ofInt_nat (by omega)]
    exact Nat.and_two_pow_sub_one_eq_mod _ n
  have h2 : x % 2 ^ n ≤ x := Nat.mod_le _ _
  show IntKind.u64.wrap ((BitVec.ofInt 64 (x : Int) &&& BitVec.ofInt 64 ((2 ^ n - 1 : Nat) : Int)).toNat : Int) = _
  rw [h, wrapU (by omega) (by omega)]

theorem tb_lt {w at' i : Nat} (h : w < 2 ^ at') (hi : at' ≤ i) : w.testBit i = false :=
  Nat.testBit_lt_two_pow (Nat.lt_of_lt_of_le h (Nat.pow_le_pow_right (by decide) hi))

theorem andNot_low {w y at' : Nat} (hw : w < 2 ^ at') (ha : at' ≤ 64) (hy : y * 2 ^ at' < 18446744073709551616) : ibits .andNot .u64 (w : Int) ((y * 2 ^ at' : Nat) : Int) = (w : Int) := by
  have hp := pow64 ha
  have hw' : w < 18446744073709551616 := by omega
  have h : BitVec.ofInt 64 (w : Int) &&& ~~~BitVec.ofInt 64 ((y * 2 ^ at' : Nat) : Int) = BitVec.ofInt 64 (w : Int) := by
    apply BitVec.eq_of_getLsbD_eq
    intro i hi
    rw [BitVec.getLsbD_and, BitVec.getLsbD_not]
    have e1 : (BitVec.ofInt 64 (w : Int)).getLsbD i = w.testBit i := by rw [← BitVec.testBit_toNat, ofInt_nat hw']
    have e2 : (BitVec.ofInt 64 ((y * 2 ^ at' : Nat) : Int)).getLsbD i = (y * 2 ^ at').testBit i := by rw [← BitVec.testBit_toNat, ofInt_nat hy]
    rw [e1, e2]
    by_cases hi2 : at' ≤ i
    · rw [tb_lt hw hi2]; simp
    · have : (y * 2 ^ at').testBit i = false := by
        rw [Nat.testBit_mul_two_pow]; simp; omega
      rw [this]; simp [hi]
  show IntKind.u64.wrap ((BitVec.ofInt 64 (w : Int) &&& ~~~BitVec.ofInt 64 ((y * 2 ^ at' : Nat) : Int)).toNat : Int) = _
  rw [h, ofInt_nat hw', wrapU (by omega) (by omega)]

theorem or_low {w v at' : Nat} (hw : w < 2 ^ at') (ha : at' ≤ 64) (hv : v * 2 ^ at' + w < 18446744073709551616) : ibits .or .u64 (w : Int) ((v * 2 ^ at' : Nat) : Int) = ((v * 2 ^ at' + w : Nat) : Int) := by
  have hp := pow64 ha
  have h : (BitVec.ofInt 64 (w : Int) ||| BitVec.ofInt 64 ((v * 2 ^ at' : Nat) : Int)).toNat = v * 2 ^ at' + w := by
    rw [BitVec.toNat_or, ofInt_nat (by omega), ofInt_nat (by omega), Nat.or_comm]
    have := Nat.shiftLeft_add_eq_or_of_lt hw v
    rw [Nat.shiftLeft_eq] at this
    exact this.symm
  show IntKind.u64.wrap ((BitVec.ofInt 64 (w : Int) ||| BitVec.ofInt 64 ((v * 2 ^ at' : Nat) : Int)).toNat : Int) = _
  rw [h, wrapU (by omega) (by omega)]

theorem andNot_mask {v n : Nat} (hv : v < 2 ^ n) (hn : n ≤ 64) : ibits .andNot .u64 (v : Int) ((2 ^ n - 1 : Nat) : Int) = 0 := by
  have hp := pow64 hn
  have hp1 : 1 ≤ 2 ^ n := Nat.one_le_two_pow
  have h : BitVec.ofInt 64 (v : Int) &&& ~~~BitVec.ofInt 64 ((2 ^ n - 1 : Nat) : Int) = 0#64 := by
    apply BitVec.eq_of_getLsbD_eq
    intro i hi
    rw [BitVec.getLsbD_and, BitVec.getLsbD_not]
    have e1 : (BitVec.ofInt 64 (v : Int)).getLsbD i = v.testBit i := by rw [← BitVec.testBit_toNat, ofInt_nat (by omega)]
    have e2 : (BitVec.ofInt 64 ((2 ^ n - 1 : Nat) : Int)).getLsbD i = (2 ^ n - 1).testBit i := by rw [← BitVec.testBit_toNat, ofInt_nat (by omega)]
    rw [e1, e2, Nat.testBit_two_pow_sub_one]
    by_cases hi2 : n ≤ i
    · rw [tb_lt hv hi2]; simp
    · have : i < n := by omega
      simp [this]
  show IntKind.u64.wrap ((BitVec.ofInt 64 (v : Int) &&& ~~~BitVec.ofInt 64 ((2 ^ n - 1 : Nat) : Int)).toNat : Int) = _
  rw [h]; rfl

/-- All ones, so many. -/
theorem ones {n : Nat} (h1 : 1 ≤ n) (h2 : n ≤ 64) : Int.fdiv 18446744073709551615 (2 ^ (min (IntKind.i64.wrap (64 - (n : Int))).toNat IntKind.u64.bits)) = ((2 ^ n - 1 : Nat) : Int) := by
  have e1 : IntKind.i64.wrap (64 - (n : Int)) = ((64 - n : Nat) : Int) := by rw [IntKind.wrap_i64]; omega
  rw [e1]
  show Int.fdiv 18446744073709551615 (2 ^ (min (64 - n) 64)) = _
  have hh : ∀ n : Fin 65, 1 ≤ n.val → (18446744073709551615 : Int).fdiv (2 ^ (min (64 - n.val) 64)) = ((2 ^ n.val - 1 : Nat) : Int) := by decide +kernel
  exact hh ⟨n, by omega⟩ h1
end Go.Hx

/-
  Both ways at a bool that a choice would be spent on.
-/
namespace Go.Hx
open Go

def getP : List Prop → Nat → Prop
  | [], _ => False
  | p :: _, 0 => p
  | _ :: r, n + 1 => getP r n

section
variable {P : Program} {X : Tabs} (hX : TOk P X)
variable {Wb : (Nat → Nat × Nat) → World → Prop} {R : SV → List HE → Prop} {fn : Func} {nt : Nat} {H0 : List HE} {k : List KI} {T : List (Nat × SV)} {H : List HE} {cs : List Ch} {fs : List Fm}
/-- The next choice's bool, both ways. -/
theorem ss_br (cs : List Ch) (n i : Nat) {cs0 : List Ch} {ob : List Prop} {s' : St} {b : Bool} (_ : runY X [] n ⟨cs, fs, fn, nt, H0, k, T, H⟩ = (ob, s')) (_ : getP ob i = (b = true))
    (ht : b = true → SS hX Wb R ⟨cs0, fs, fn, nt, H0, k, T, H⟩) (hf : b = false → SS hX Wb R ⟨cs0, fs, fn, nt, H0, k, T, H⟩) : SS hX Wb R ⟨cs0, fs, fn, nt, H0, k, T, H⟩ := by
  cases b
  · exact hf rfl
  · exact ht rfl
/-- The same, to a place at most. -/
theorem ss_brb (bk : List Bk) (cs : List Ch) (n i : Nat) {cs0 : List Ch} {ob : List Prop} {s' : St} {b : Bool} (_ : runY X bk n ⟨cs, fs, fn, nt, H0, k, T, H⟩ = (ob, s')) (_ : getP ob i = (b = true))
    (ht : b = true → SS hX Wb R ⟨cs0, fs, fn, nt, H0, k, T, H⟩) (hf : b = false → SS hX Wb R ⟨cs0, fs, fn, nt, H0, k, T, H⟩) : SS hX Wb R ⟨cs0, fs, fn, nt, H0, k, T, H⟩ := by
  cases b
  · exact hf rfl
  · exact ht rfl
end
end Go.Hx

/-
  Two values of a plain type, compared part by part.
-/
namespace Go.Hx
open Go

def sizeIs (P : Program) (t : TypeId) (n : Nat) : Bool := match P.info? t with | some i => i.size == n | none => false
def eqFs (g : TypeId → Option (Bool × List (Option IntKind))) (P : Program) : List Field → Nat → Option (List (Option IntKind))
  | [], _ => some []
  | f :: r, off => match f.name == "_", Nat.beq f.offset off, g f.type with
    | false, true, some (_, ks) => match sizeIs P f.type ks.length, eqFs g P r (off + ks.length) with
      | true, some r' => some (ks ++ r')
      | _, _ => none
    | _, _, _ => none
/-- What a plain type is made of, where it may be compared; and whether it is of several cells. -/
def eqK (P : Program) : Nat → TypeId → Option (Bool × List (Option IntKind))
  | 0, _ => none
  | n + 1, t => match P.underlying t with
    | some (.int k) => some (false, [some k])
    | some .bool => some (false, [none])
    | some (.struct fs) => match P.stoodInHeld t, eqFs (eqK P n) P fs.toList 0 with
      | false, some ks => some (true, ks)
      | _, _ => none
    | some (.array m e) => match eqK P n e with
      | some (_, ks) => match sizeIs P e ks.length with
        | true => some (true, (List.replicate m ks).flatten)
        | false => none
      | none => none
    | _ => none
def valOf (b : Bool) (l : List Value) : Value := if b then .agg l.toArray else l.headD (.bool false)

theorem EqM_split : ∀ {ks ks' : List (Option IntKind)} {xs ys : List Value} {e : Bool}, EqM (ks ++ ks') xs ys e →
    ∃ e1 e2, EqM ks (xs.take ks.length) (ys.take ks.length) e1 ∧ EqM ks' (xs.drop ks.length) (ys.drop ks.length) e2 ∧ e = (e1 && e2)
  | [], ks', xs, ys, e, h => ⟨true, e, by simp [EqM], by simpa using h, by simp⟩
  | some k :: ks, ks', [], _, e, h => by simp [EqM] at h
  | some k :: ks, ks', _ :: _, [], e, h => by simp [EqM] at h
  | none :: ks, ks', [], _, e, h => by simp [EqM] at h
  | none :: ks, ks', _ :: _, [], e, h => by simp [EqM] at h
  | some k :: ks, ks', x :: xs, y :: ys, e, h => by
    obtain ⟨a, b, e', rfl, rfl, h', rfl⟩ := h
    obtain ⟨e1, e2, q1, q2, rfl⟩ := EqM_split h'
    exact ⟨(a == b) && e1, e2, ⟨a, b, e1, rfl, rfl, q1, rfl⟩, q2, by rw [Bool.and_assoc]⟩
  | none :: ks, ks', x :: xs, y :: ys, e, h => by
    obtain ⟨a, b, e', rfl, rfl, h', rfl⟩ := h
    obtain ⟨e1, e2, q1, q2, rfl⟩ := EqM_split h'
    exact ⟨(a == b) && e1, e2, ⟨a, b, e1, rfl, rfl, q1, rfl⟩, q2, by rw [Bool.and_assoc]⟩
theorem EqM_len : ∀ {ks : List (Option IntKind)} {xs ys : List Value} {e : Bool}, EqM ks xs ys e → xs.length = ks.length ∧ ys.length = ks.length
  | [], [], [], _, _ => ⟨rfl, rfl⟩
  | [], _ :: _, _, e, h => by simp [EqM] at h
  | [], [], _ :: _, e, h => by simp [EqM] at h
  | some k :: ks, [], _, e, h => by simp [EqM] at h
  | some k :: ks, _ :: _, [], e, h => by simp [EqM] at h
  | none :: ks, [], _, e, h => by simp [EqM] at h
  | none :: ks, _ :: _, [], e, h => by simp [EqM] at h
  | some k :: ks, x :: xs, y :: ys, e, h => by
    obtain ⟨a, b, e', rfl, rfl, h', rfl⟩ := h
    have := EqM_len h'
    simp [this.1, this.2]
  | none :: ks, x :: xs, y :: ys, e, h => by
    obtain ⟨a, b, e', rfl, rfl, h', rfl⟩ := h
    have := EqM_len h'
    simp [this.1, this.2]

section
variable {P : Program} (w : World)
theorem sizeIs_run {t : TypeId} {n : Nat} (h : sizeIs P t n = true) : (sizeOf t).run P w = .ok n w := by
  unfold sizeIs at h
  split at h
  · rename_i i hi
    simp [sizeOf, typeInfo, hi, eq_of_beq h]
  · simp at h
theorem eqK_agg {n : Nat} {t : TypeId} {b : Bool} {ks : List (Option IntKind)} (h : eqK P n t = some (b, ks)) : (isAgg t).run P w = .ok b w ∧ (b = false → ks.length = 1) := by
  cases n with
  | zero => simp [eqK] at h
  | succ n =>
    unfold eqK at h
    split at h
    · rename_i k hu
      simp at h; obtain ⟨rfl, rfl⟩ := h
      exact ⟨by simp [isAgg, run_underlying hu], fun _ => rfl⟩
    · rename_i hu
      simp at h; obtain ⟨rfl, rfl⟩ := h
      exact ⟨by simp [isAgg, run_underlying hu], fun _ => rfl⟩
    · rename_i fs hu
      split at h
      · simp at h; obtain ⟨rfl, rfl⟩ := h
        exact ⟨by simp [isAgg, run_underlying hu], fun h => by simp at h⟩
      · simp at h
    · rename_i m e hu
      split at h
      · split at h
        · simp at h; obtain ⟨rfl, rfl⟩ := h
          exact ⟨by simp [isAgg, run_underlying hu], fun h => by simp at h⟩
        · simp at h
      · simp at h
    · simp at h
theorem part_eqK {n : Nat} {t : TypeId} {b : Bool} {ks : List (Option IntKind)} (h : eqK P n t = some (b, ks)) (hs : sizeIs P t ks.length = true) {xs : List Value} {off : Nat} (hl : b = false → off + ks.length ≤ xs.length) :
    (part t xs.toArray off).run P w = .ok (valOf b ((xs.drop off).take ks.length)) w := by
  obtain ⟨h1, h2⟩ := eqK_agg w h
  unfold part
  simp only [Sem.run_bind, h1, Result.andThen_ok]
  cases b with
  | true =>
    simp only [if_true, Sem.run_bind, sizeIs_run w hs, Result.andThen_ok, Sem.run_pure, valOf]
    congr 2
    apply Array.toList_inj.1
    rw [Array.toList_extract]
    simp [List.extract]
  | false =>
    have h3 := h2 rfl
    have hl := hl rfl
    rw [h3] at hl
    have hlt : off < xs.length := by omega
    have e : (xs.drop off).take ks.length = [xs[off]] := by
      rw [h3, List.drop_eq_getElem_cons hlt]; rfl
    simp only [Bool.false_eq_true, if_false, List.getElem?_toArray, List.getElem?_eq_getElem hlt, Sem.run_pure, valOf, e, List.headD_cons]

theorem eqFs_ok {n d : Nat} (ih : ∀ (t : TypeId) (b : Bool) (ks : List (Option IntKind)), eqK P n t = some (b, ks) → ∀ (xs ys : List Value) (e : Bool) (w : World), EqM ks xs ys e → (Op.equalIn d t (valOf b xs) (valOf b ys)).run P w = .ok e w)
    (xs ys : List Value) : ∀ (fs : List Field) (off : Nat) (ks : List (Option IntKind)) (e : Bool) (w : World), eqFs (eqK P n) P fs off = some ks → EqM ks (xs.drop off) (ys.drop off) e →
    (Op.eqFields d xs.toArray ys.toArray fs).run P w = .ok e w
  | [], off, ks, e, w, h, hm => by
    simp [eqFs] at h; subst h
    have hx : e = true := by
      cases hxs : xs.drop off <;> cases hys : ys.drop off <;> rw [hxs, hys] at hm <;> simp [EqM] at hm
      exact hm
    subst hx
    simp [Op.eqFields]
  | f :: fs, off, ks, e, w, h, hm => by
    unfold eqFs at h
    split at h
    · rename_i b kf hn ho hk
      split at h
      · rename_i r' hs hr
        simp at h; subst h
        have ho' := Nat.eq_of_beq_eq_true ho
        obtain ⟨e1, e2, m1, m2, rfl⟩ := EqM_split hm
        have hlen := EqM_len m1
        have hn' : f.name ≠ "_" := by simpa using hn
        simp only [List.length_take, List.length_drop] at hlen
        have q1 := part_eqK w hk hs (xs := xs) (off := off) (fun hb => by have := (eqK_agg w hk).2 hb; omega)
        have q2 := part_eqK w hk hs (xs := ys) (off := off) (fun hb => by have := (eqK_agg w hk).2 hb; omega)
        rw [List.drop_drop, List.drop_drop] at m2
        have q3 := eqFs_ok ih xs ys fs (off + kf.length) r' e2 w hr m2
        simp only [Op.eqFields, hn', ne_eq, not_false_eq_true, if_true, ho', Sem.run_bind, q1, q2, Result.andThen_ok, ih f.type b kf hk _ _ _ _ m1]
        cases e1
        · simp
        · simpa using q3
      · simp at h
    · simp at h

theorem eqItems_ok {n d : Nat} {e : TypeId} {b : Bool} {ks : List (Option IntKind)} (hk : eqK P n e = some (b, ks)) (hs : sizeIs P e ks.length = true)
    (ih : ∀ (xs ys : List Value) (r : Bool) (w : World), EqM ks xs ys r → (Op.equalIn d e (valOf b xs) (valOf b ys)).run P w = .ok r w) (xs ys : List Value) :
    ∀ (m i : Nat) (r : Bool) (w : World), EqM (List.replicate m ks).flatten (xs.drop (i * ks.length)) (ys.drop (i * ks.length)) r →
    (Op.eqItems d e ks.length xs.toArray ys.toArray (List.range' i m)).run P w = .ok r w
  | 0, i, r, w, hm => by
    have hx : r = true := by
      cases hxs : xs.drop (i * ks.length) <;> cases hys : ys.drop (i * ks.length) <;> rw [hxs, hys] at hm <;> simp [EqM] at hm
      exact hm
    subst hx
    simp [Op.eqItems]
  | m + 1, i, r, w, hm => by
    rw [List.replicate_succ, List.flatten_cons] at hm
    obtain ⟨e1, e2, m1, m2, rfl⟩ := EqM_split hm
    have hlen := EqM_len m1
    simp only [List.length_take, List.length_drop] at hlen
    have q1 := part_eqK w hk hs (xs := xs) (off := i * ks.length) (fun hb => by have := (eqK_agg w hk).2 hb; omega)
    have q2 := part_eqK w hk hs (xs := ys) (off := i * ks.length) (fun hb => by have := (eqK_agg w hk).2 hb; omega)
    rw [List.drop_drop, List.drop_drop] at m2
    have q3 := eqItems_ok hk hs ih xs ys m (i + 1) e2 w (by rw [Nat.succ_mul]; exact m2)
    rw [List.range'_succ]
    simp only [Op.eqItems, Sem.run_bind, q1, q2, Result.andThen_ok, ih _ _ _ _ m1]
    cases e1
    · simp
    · simpa using q3

theorem eqK_ok (d0 : Nat) : ∀ (n : Nat) (t : TypeId) (b : Bool) (ks : List (Option IntKind)), eqK P n t = some (b, ks) → ∀ (xs ys : List Value) (e : Bool) (w : World), EqM ks xs ys e →
    (Op.equalIn (d0 + n) t (valOf b xs) (valOf b ys)).run P w = .ok e w
  | 0, t, b, ks, h, xs, ys, e, w, hm => by simp [eqK] at h
  | n + 1, t, b, ks, h, xs, ys, e, w, hm => by
    have ih := eqK_ok d0 n
    unfold eqK at h
    split at h
    · rename_i k hu
      simp at h; obtain ⟨rfl, rfl⟩ := h
      cases xs <;> cases ys <;> simp only [EqM] at hm
      rename_i x xs y ys
      obtain ⟨p, q, e', rfl, rfl, hm', rfl⟩ := hm
      have : e' = true := by cases xs <;> cases ys <;> simp [EqM] at hm'; exact hm'
      subst this
      simp only [valOf, Bool.false_eq_true, if_false, List.headD_cons, Bool.and_true]
      exact run_equalIn_int w _ t k k p q hu
    · rename_i hu
      simp at h; obtain ⟨rfl, rfl⟩ := h
      cases xs <;> cases ys <;> simp only [EqM] at hm
      rename_i x xs y ys
      obtain ⟨p, q, e', rfl, rfl, hm', rfl⟩ := hm
      have : e' = true := by cases xs <;> cases ys <;> simp [EqM] at hm'; exact hm'
      subst this
      simp only [valOf, Bool.false_eq_true, if_false, List.headD_cons, Bool.and_true]
      exact run_equalIn_bool' w _ t p q hu
    · rename_i fs hu
      split at h
      · rename_i ks' hp hf
        simp at h; obtain ⟨rfl, rfl⟩ := h
        have e1 : P.fieldsOf t = fs := by simp [Program.fieldsOf, hu]
        simp only [valOf, if_true]
        rw [← Nat.add_assoc, run_equalIn_struct w _ t _ _ (by rw [e1]; exact hu) hp, e1]
        exact eqFs_ok ih xs ys fs.toList 0 _ e w hf (by simpa using hm)
      · simp at h
    · rename_i m el hu
      split at h
      · rename_i b' kk hk
        split at h
        · rename_i hs
          simp at h; obtain ⟨rfl, rfl⟩ := h
          have hs0 := hs
          unfold sizeIs at hs0
          split at hs0
          · rename_i i hi
            simp only [valOf, if_true]
            have hc : P.cellsOf el = kk.length := by
              have h1 := sizeIs_run (P := P) w hs
              have h2 := run_sizeOf (P := P) w hi
              rw [h1] at h2
              simp at h2
              exact h2.symm
            rw [← Nat.add_assoc, run_equalIn_array w _ _ _ hu hi, hc, List.range_eq_range']
            exact eqItems_ok hk hs (fun xs ys r w hm => ih el b' kk hk xs ys r w hm) xs ys m 0 e w (by simpa using hm)
          · simp at hs0
        · simp at h
      · simp at h
    · simp at h

theorem eqOk_of {t : TypeId} {ks : List (Option IntKind)} (hk : eqK P 6 t = some (true, ks)) (hg : P.eqGuardType P.depth t = false) : EqOk P t ks := by
  refine ⟨fun xs ys e hm op x y w => run_eqGuard_agg w op t x y _ _ hg, fun xs ys e hm w => ?_⟩
  have := eqK_ok (P := P) 9994 6 t true ks hk xs ys e w hm
  simp only [valOf, if_true] at this
  exact this
end
end Go.Hx

/-
  Contracts over one or two objects, in a larger heap.
-/
namespace Go.Hx
open Go

/-- A bool, told or not. -/
def isB : SV → Bool
  | .tt => true
  | .ff => true
  | .bool _ => true
  | _ => false
theorem isB_okh {A : Nat → Bool} {v : SV} (h : isB v = true) : v.okh A = true := by
  cases v <;> simp [isB] at h <;> rfl
theorem isB_okP {A : Nat → Bool} {v : SV} (h : isB v = true) : okP A v := by
  cases v <;> simp [isB] at h <;> trivial
theorem isB_ren {σ : Nat → Nat} {v : SV} (h : isB v = true) : v.ren σ = v := by
  cases v <;> simp [isB] at h <;> rfl

section
variable {P : Program} {f : Nat} {ags cargs : List SV} {V : SV} {H : List HE} {o0 o1 p0 p1 : SO} {h0 h1 : Nat} {N : List HE}
theorem frame0 (hT : ∃ TE : Nat → TI, ∀ t, TIok P t (TE t)) (hF : Gives P f ags [] (Is V N)) (hok : SV.okhs (fun _ => false) ags = true) (hn : newOk N = true) :
    Gives P f ags H (Is (V.ren (nm [] H)) (H ++ N.map (HE.ren (nm [] H)))) := by
  have hth : there ([] : List HE) = fun _ => false := funext fun x => by simp [there]
  have := gives_frame (H := H) hT hF [] (rens_closed _ hok).symm (by rw [hth]; exact hok) rfl rfl rfl rfl trivial hn
  simpa [merge, setAll] using this
theorem frame1 (hT : ∃ TE : Nat → TI, ∀ t, TIok P t (TE t)) (hF : Gives P f cargs [.obj o0] (Is V (.obj p0 :: N))) (hargs : ags = SV.rens (nm [h0] H) cargs)
    (hcok : SV.okhs (there [.obj o0]) cargs = true) (hokc : okHs (there [.obj o0]) [.obj o0] = true) (g0 : getH H h0 = some (o0.ren (nm [h0] H))) (hn : newOk N = true) :
    Gives P f ags H (Is (V.ren (nm [h0] H)) (H.set h0 (.obj (p0.ren (nm [h0] H))) ++ N.map (HE.ren (nm [h0] H)))) := by
  have := gives_frame (H := H) hT hF [h0] hargs hcok rfl rfl hokc rfl ⟨g0, trivial⟩ hn
  simpa [merge, setAll, HE.ren] using this
theorem frame2 (hT : ∃ TE : Nat → TI, ∀ t, TIok P t (TE t)) (hF : Gives P f cargs [.obj o0, .obj o1] (Is V (.obj p0 :: .obj p1 :: N))) (hargs : ags = SV.rens (nm [h0, h1] H) cargs)
    (hcok : SV.okhs (there [.obj o0, .obj o1]) cargs = true) (hokc : okHs (there [.obj o0, .obj o1]) [.obj o0, .obj o1] = true) (hnd : nodupN [h0, h1] = true)
    (g0 : getH H h0 = some (o0.ren (nm [h0, h1] H))) (g1 : getH H h1 = some (o1.ren (nm [h0, h1] H))) (hn : newOk N = true) :
    Gives P f ags H (Is (V.ren (nm [h0, h1] H)) ((H.set h0 (.obj (p0.ren (nm [h0, h1] H)))).set h1 (.obj (p1.ren (nm [h0, h1] H))) ++ N.map (HE.ren (nm [h0, h1] H)))) := by
  have := gives_frame (H := H) hT hF [h0, h1] hargs hcok rfl rfl hokc hnd ⟨g0, g1, trivial⟩ hn
  simpa [merge, setAll, HE.ren] using this
theorem frame2n (hT : ∃ TE : Nat → TI, ∀ t, TIok P t (TE t)) (hF : Gives P f cargs [.obj o0, .obj o1] (Is V [.obj p0, .obj p1])) (hargs : ags = SV.rens (nm [h0, h1] H) cargs)
    (hcok : SV.okhs (there [.obj o0, .obj o1]) cargs = true) (hokc : okHs (there [.obj o0, .obj o1]) [.obj o0, .obj o1] = true) (hnd : nodupN [h0, h1] = true)
    (g0 : getH H h0 = some (o0.ren (nm [h0, h1] H))) (g1 : getH H h1 = some (o1.ren (nm [h0, h1] H))) {V' : SV} {q0 q1 : SO} (hV : V.ren (nm [h0, h1] H) = V') (hq0 : p0.ren (nm [h0, h1] H) = q0) (hq1 : p1.ren (nm [h0, h1] H) = q1) :
    Gives P f ags H (Is V' ((H.set h0 (.obj q0)).set h1 (.obj q1))) := by
  have := frame2 (N := []) hT hF hargs hcok hokc hnd g0 g1 rfl
  rw [hV, hq0, hq1] at this
  simpa using this
end
end Go.Hx

/-
  Things that are there or not: pointers, rows, and what they point to.
-/
namespace Go.Hx
open Go

/-- A pointer, or none. -/
def ptrV {α : Type} (o : Option α) (h : Nat) : SV := match o with | none => .nilptr | some _ => .ptr h 0
def objE (o : Option SO) : HE := match o with | none => .absent | some o => .obj o
/-- A row that grew, or none. -/
def slV (o : Option (List Int)) (h : Nat) : SV := match o with | none => .nilslice | some l => .sbuf h 1 0 l.length
def slE (o : Option (List Int)) (k : IntKind) (ty : TypeId) : HE := match o with | none => .absent | some l => .obj (.buf k l 1 ty)
/-- A pointer to what is not known, or none. -/
def opqV (b : Bool) (h : Nat) : SV := match b with | false => .nilptr | true => .ptr h 0
def opqE (b : Bool) : HE := match b with | false => .absent | true => .opq

section
variable {σ : Nat → Nat} {H H' : List HE} {h i : Nat}
theorem ren_slE {o : Option (List Int)} {k : IntKind} {ty : TypeId} : (slE o k ty).ren σ = slE o k ty := by cases o <;> rfl
theorem ren_opqE {b : Bool} : (opqE b).ren σ = opqE b := by cases b <;> rfl
theorem subE_same {e : HE} (hg : H[σ i]? = some e) (hr : e.ren σ = e) : subE σ H i e := by
  cases e with
  | absent => trivial
  | opq => simp [subE, there, hg, HE.there]
  | obj o =>
    simp only [HE.ren, HE.obj.injEq] at hr
    simp only [subE, getH_some.2 hg, hr, simG]
    exact simO_refl o
theorem sim_same {v : SV} (hr : v.ren σ = v) : sim v (v.ren σ) := by rw [hr]; exact sim_refl v
theorem sim_slV {o : Option (List Int)} (hs : σ h = h) : sim (slV o h) ((slV o h).ren σ) := sim_same (by cases o <;> simp [slV, SV.ren, hs])
theorem sim_ptrV {α : Type} {o : Option α} (hs : σ h = h) : sim (ptrV o h) ((ptrV o h).ren σ) := sim_same (by cases o <;> simp [ptrV, SV.ren, hs])
theorem sim_opqV {b : Bool} (hs : σ h = h) : sim (opqV b h) ((opqV b h).ren σ) := sim_same (by cases b <;> simp [opqV, SV.ren, hs])
theorem okP_slV {o : Option (List Int)} {k : IntKind} {ty : TypeId} (e : thereF H' h = (slE o k ty).there) : okP (thereF H') (slV o h) := by
  cases o with
  | none => trivial
  | some l => simpa [slV, okP, slE, HE.there] using e
theorem okP_ptrV {α : Type} {o : Option α} {f : α → SO} (e : thereF H' h = (objE (o.map f)).there) : okP (thereF H') (ptrV o h) := by
  cases o with
  | none => trivial
  | some l => simpa [ptrV, okP, objE, HE.there] using e
theorem okP_opqV {b : Bool} (e : thereF H' h = (opqE b).there) : okP (thereF H') (opqV b h) := by
  cases b with
  | false => trivial
  | true => simpa [opqV, okP, opqE, HE.there] using e
theorem okE_slE {A : Nat → Bool} {o : Option (List Int)} {k : IntKind} {ty : TypeId} : okE A (slE o k ty) := by cases o <;> trivial
theorem okE_opqE {A : Nat → Bool} {b : Bool} : okE A (opqE b) := by cases b <;> trivial
end

/-- Is it there? -/
def hasL : List Int → Int → Bool
  | [], _ => false
  | x :: r, n => if x = n then true else hasL r n
theorem hasL_iff {n : Int} : ∀ {l : List Int}, hasL l n = true ↔ n ∈ l
  | [] => by simp [hasL]
  | x :: r => by
    simp only [hasL, List.mem_cons]
    split
    · rename_i h; simp [h]
    · rename_i h
      rw [hasL_iff (l := r)]
      constructor
      · exact .inr
      · rintro (rfl | h1)
        · exact absurd rfl h
        · exact h1
theorem hasL_drop {l : List Int} {i : Nat} (h : i < l.length) (n : Int) : hasL (l.drop i) n = if l.getD i 0 = n then true else hasL (l.drop (i + 1)) n := by
  rw [List.drop_eq_getElem_cons h, hasL]
  simp [List.getD_eq_getElem?_getD, h]
def lst (o : Option (List Int)) : List Int := o.getD []
end Go.Hx

/-
  What is still to be done when a region is reached.
-/
namespace Go.Hx
open Go

def contR (id : Nat) : Code → List (Act → World → Prop) → List KI → Option (List KI)
  | .region j ops d, _, k => match Nat.beq j id with
    | true => some (.code (.region j ops d) :: k)
    | false => none
  | .seq a b, I, k => match contR id a I (.code b :: k) with
    | some r => some r
    | none => contR id b I k
  | .block n b, I, k => contR id b I (.blk n :: k)
  | .cond _ a b, I, k => match contR id a I k with
    | some r => some r
    | none => contR id b I k
  | .loop c, I, k => match I with
    | i :: I => contR id c I (.lp i :: k)
    | [] => none
  | _, _, _ => none
/-- What is still to be done at a region of a function, in loops. -/
def contF (fn : Func) (id : Nat) (I : List (Act → World → Prop)) : List KI := match fn.body with
  | some c => (contR id c I []).getD []
  | none => []
end Go.Hx

/-
  Which bool is it that a walk waits for? (A guess alone: nothing hangs on its being right.)
-/
namespace Go.Hx
open Go

inductive PrR where
  | done (s : St) (kept : List (Nat × Nat))
  | need (i : Nat) (b : Bool)
inductive PrD where
  | ok (cs : List Ch) (T : List (Nat × SV)) (H : List HE) (kept : List (Nat × Nat))
  | need (i : Nat) (b : Bool)
  | dead
inductive PrV where
  | ok (cs : List Ch) (v : SV) (H : List HE) (kept : List (Nat × Nat))
  | need (i : Nat) (b : Bool)
  | dead

/-- How many of the kept ones are older than the newest (p, d). -/
def keptAt (p d : Nat) : List (Nat × Nat) → Option Nat
  | [] => none
  | (q, e) :: r => match Nat.beq p q && Nat.beq d e with
    | true => some r.length
    | false => keptAt p d r
def keep1 (cs : List Ch) (v : SV) (p : Nat) (d : Option Nat) (kept : List (Nat × Nat)) : List (Nat × Nat) :=
  match cs, v, d with
  | [], .bool _, some d => (p, d) :: kept
  | [], .bool _, none => (p, 0) :: kept
  | _, _, _ => kept

def evalP (X : Tabs) (rec : Nat → St → List (Nat × Nat) → PrR) (p : Nat) (cs : List Ch) (f : Nat) (as : List SV) (H : List HE) (kept : List (Nat × Nat)) : PrV :=
  match X.FT f with
  | some fn => match (match X.CT f with | some sp => sp as H | none => none) with
    | some (_, V, L) => match forceHs L with
      | some L' => .ok cs V L' kept
      | none => .dead
    | none => match fn.body, Nat.ble as.length fn.ntmps, argTF nums as with
      | some c, true, some Ta => match rec (p + 1) ⟨cs, [], fn, fn.ntmps, H, [.code c], Ta, H⟩ kept with
        | .need i b => .need i b
        | .done ⟨cs', fs, fn', _, _, k, T, L⟩ kept' => match fs, isRet fn' k, resF X.TE fn'.results.toList T L with
          | [], true, some (_, vs) => .ok cs' (tupF vs) L kept'
          | _, _, _ => .dead
      | _, _, _ => .dead
  | none => .dead

def drawP (X : Tabs) (rec : Nat → St → List (Nat × Nat) → PrR) (p : Nat) (al : List Oper) (nt : Nat) : List Oper → List Ch → List (Nat × SV) → List HE → List (Nat × Nat) → PrD
  | [], cs, T, H, kept => .ok cs T H kept
  | o :: r, cs, T, H, kept => match guardF al T o.guard with
    | 1 => match putD nt o.dst T (.tup []) with
      | some T' => drawP X rec p al nt r cs T' H kept
      | none => .dead
    | 0 => match stepE X T H o.op with
      | some (.val _ v) => match ovr cs v with
        | some (cs', _, v') => match putD nt o.dst T v' with
          | some T' => drawP X rec p al nt r cs' T' H (keep1 cs v p o.dst kept)
          | none => .dead
        | none => .dead
      | some e => match afterF nt o.dst T H e with
        | some (_, T', H') => drawP X rec p al nt r cs T' H' kept
        | none => .dead
      | none => match o.op with
        | .call c => match (match calleeF T c with | some (f, as0) => (match forceL as0 with | some as => some (f, as) | none => none) | none => none) with
          | some (f, as) => match evalP X rec p cs f as H kept with
            | .need i b => .need i b
            | .dead => .dead
            | .ok cs1 V L kept1 => match ovr cs1 V with
              | some (cs', _, V') => match putD nt o.dst T V' with
                | some T' => drawP X rec p al nt r cs' T' L (keep1 cs1 V p o.dst kept1)
                | none => .dead
              | none => .dead
          | none => .dead
        | _ => .dead
    | _ => match guardU al T o.guard with
      | some (d, b) => match keptAt p d kept with
        | some i => .need i b
        | none => .dead
      | none => .dead

def stepP (X : Tabs) (rec : Nat → St → List (Nat × Nat) → PrR) (p : Nat) (s : St) (kept : List (Nat × Nat)) : PrR ⊕ (St × List (Nat × Nat)) :=
  match s with
  | ⟨cs, fs, fn, nt, H0, k, T, H⟩ =>
    match k with
    | .code (.region _ ops true) :: k' => match regOk ops.toList with
      | true => match drawP X rec p ops.toList nt ops.toList cs T H kept with
        | .need i b => .inl (.need i b)
        | .dead => .inl (.done ⟨cs, fs, fn, nt, H0, k, T, H⟩ kept)
        | .ok cs' T' H' kept' => .inr (⟨cs', fs, fn, nt, H0, k', T', H'⟩, kept')
      | false => match splitL ops.toList with
        | none => .inl (.done ⟨cs, fs, fn, nt, H0, k, T, H⟩ kept)
        | some (ini, last) => match drawP X rec p ini nt ini cs T H kept with
          | .need i b => .inl (.need i b)
          | .dead => .inl (.done ⟨cs, fs, fn, nt, H0, k, T, H⟩ kept)
          | .ok cs' T' H' kept' => match stepE X T' H' last.op with
            | none => .inl (.done ⟨cs, fs, fn, nt, H0, k, T, H⟩ kept)
            | some e => match afterF nt last.dst T' H' e with
              | none => .inl (.done ⟨cs, fs, fn, nt, H0, k, T, H⟩ kept)
              | some (_, T2, H2) => .inr (⟨cs', fs, fn, nt, H0, k', T2, H2⟩, kept')
    | _ => match step1 X (fun _ _ _ _ _ => none) ⟨cs, fs, fn, nt, H0, k, T, H⟩ with
      | some (_, s') => .inr (s', kept)
      | none => match cs, k with
        | [], .code (.cond (.tmp t) _ _) :: _ => match look T t with
          | some (.bool b) => .inl (.need kept.length b)
          | _ => .inl (.done ⟨cs, fs, fn, nt, H0, k, T, H⟩ kept)
        | [], .ops all (o :: _) :: _ => match guardU all T o.guard with
          | some (_, b) => .inl (.need kept.length b)
          | none => .inl (.done ⟨cs, fs, fn, nt, H0, k, T, H⟩ kept)
        | _, _ => .inl (.done ⟨cs, fs, fn, nt, H0, k, T, H⟩ kept)

def runP (X : Tabs) (bk : List Bk) : Nat → Nat → St → List (Nat × Nat) → PrR
  | 0, _, s, kept => .done s kept
  | n + 1, p, s, kept => match stopped bk s with
    | true => .done s kept
    | false => match stepP X (fun p s kept => runP X [] n p s kept) p s kept with
      | .inl r => r
      | .inr (s', kept') => runP X bk n p s' kept'
/-- The bool that is waited for, and how many are kept ahead of it. -/
def probe (X : Tabs) (bk : List Bk) (n : Nat) (s : St) : Option (Nat × Bool) :=
  match stepP X (fun p s kept => runP X [] n p s kept) 0 s [] with
  | .inl (.need i b) => some (i, b)
  | .inl _ => none
  | .inr (s', kept) => match runP X bk n 0 s' kept with
    | .need i b => some (i, b)
    | .done _ _ => none

section
variable {P : Program} {X : Tabs} (hX : TOk P X)
variable {Wb : (Nat → Nat × Nat) → World → Prop} {R : SV → List HE → Prop} {fn : Func} {nt : Nat} {H0 : List HE} {k : List KI} {T : List (Nat × SV)} {H : List HE} {fs : List Fm}
/-- Both ways at the bool that is waited for. -/
theorem ss_pb (bk : List Bk) (cs : List Ch) (n : Nat) {cs0 : List Ch} {i : Nat} {b : Bool} (_ : probe X bk n ⟨cs, fs, fn, nt, H0, k, T, H⟩ = some (i, b))
    (ht : b = true → SS hX Wb R ⟨cs0, fs, fn, nt, H0, k, T, H⟩) (hf : b = false → SS hX Wb R ⟨cs0, fs, fn, nt, H0, k, T, H⟩) : SS hX Wb R ⟨cs0, fs, fn, nt, H0, k, T, H⟩ := by
  cases b
  · exact hf rfl
  · exact ht rfl
end
end Go.Hx

/-
  Names found out of a heap; things that are there or not, more.
-/
namespace Go.Hx
open Go

/-- The names are told by the heap itself. -/
theorem sub_ofF {E : Env} {T T' : List (Nat × SV)} {H H' : List HE} (F : List HE → Option (List Nat)) {σs : List Nat} (_ : F H = some σs) (hlen : Nat.beq σs.length H'.length = true) (hnd : nodupN σs = true)
    (hb : fromN E.H0.length 0 σs = true) (hb' : leH E.H0 H' = true) (hT : subT (sig σs 0) T T') (hH : subH (sig σs 0) H 0 H') (hok1 : okTP (thereF H') T') (hok2 : okHP (thereF H') H') : Sub E T H T' H' :=
  sub_of σs hlen hnd hb hb' hT hH hok1 hok2

/-- What cell j of object i points to. -/
def hdlF (H : List HE) (i j d : Nat) : Option Nat :=
  match getH H i with
  | some (.cells l _) => match nthF l j with
    | some (.sbuf h _ _ _) => nums[h]?
    | some (.ptr h _) => nums[h]?
    | some (.slice h _ _ _) => nums[h]?
    | _ => some d
  | _ => none

theorem ren_objM {α : Type} {o : Option α} {f : α → SO} {σ : Nat → Nat} (h : ∀ a, (f a).ren σ = f a) : (objE (o.map f)).ren σ = objE (o.map f) := by
  cases o with
  | none => rfl
  | some a => simp [objE, HE.ren, h a]
theorem okE_objM {α : Type} {o : Option α} {f : α → SO} {A : Nat → Bool} (h : ∀ a, okE A (.obj (f a))) : okE A (objE (o.map f)) := by
  cases o with
  | none => trivial
  | some a => exact h a
end Go.Hx

/-
  A piece of code, gone through in a small heap: what else there is stays as it is.
-/
namespace Go.Hx
open Go

/-- What becomes of a place: it is as the small heap has it; it stays; it is dropped. -/
inductive Fl where
  | new | keep | drop
def HE.dim : HE → HE
  | .absent => .absent
  | _ => .opq
def setN : List HE → Nat → HE → List HE
  | [], _, _ => []
  | _ :: r, 0, e => e :: r
  | x :: r, n + 1, e => x :: setN r n e
def dimN : List HE → Nat → List HE
  | [], _ => []
  | x :: r, 0 => x.dim :: r
  | x :: r, n + 1 => x :: dimN r n
theorem setN_eq (e : HE) : ∀ (l : List HE) (n : Nat), setN l n e = l.set n e
  | [], _ => rfl
  | _ :: _, 0 => rfl
  | x :: r, n + 1 => by simp [setN, setN_eq e r n]
theorem dimN_get : ∀ (l : List HE) (n i : Nat), (dimN l n)[i]? = if i = n then l[i]?.map HE.dim else l[i]?
  | [], _, _ => by simp [dimN]
  | x :: r, 0, 0 => by simp [dimN]
  | x :: r, 0, i + 1 => by simp [dimN]
  | x :: r, n + 1, 0 => by simp [dimN]
  | x :: r, n + 1, i + 1 => by simp [dimN, dimN_get r n i]
theorem dimN_length : ∀ (l : List HE) (n : Nat), (dimN l n).length = l.length
  | [], _ => rfl
  | _ :: _, 0 => rfl
  | x :: r, n + 1 => by simp [dimN, dimN_length r n]

def layB (σ : Nat → Nat) : List HE → List Nat → List Fl → List HE → List HE
  | H, s :: ss, .new :: fs, e :: es => layB σ (setN H s (e.ren σ)) ss fs es
  | H, _ :: ss, .keep :: fs, _ :: es => layB σ H ss fs es
  | H, s :: ss, .drop :: fs, _ :: es => layB σ (dimN H s) ss fs es
  | H, _, _, _ => H
def dropL : List HE → List Nat → List HE
  | l, [] => l
  | _ :: r, _ :: s => dropL r s
  | [], _ => []
def renL (σ : Nat → Nat) : List HE → List HE
  | [] => []
  | e :: r => e.ren σ :: renL σ r
def appL : List HE → List HE → List HE
  | [], m => m
  | e :: l, m => e :: appL l m
def mergeB (σ : Nat → Nat) (σs : List Nat) (fs : List Fl) (H Hn : List HE) : List HE := appL (layB σ H σs fs Hn) (renL σ (dropL Hn σs))
def renT (σ : Nat → Nat) : List (Nat × SV) → List (Nat × SV)
  | [] => []
  | (t, v) :: r => (t, v.ren σ) :: renT σ r

theorem dropL_eq : ∀ (l : List HE) (s : List Nat), dropL l s = l.drop s.length
  | l, [] => by simp [dropL]
  | _ :: r, _ :: s => by simp [dropL, dropL_eq r s]
  | [], _ :: _ => by simp [dropL]
theorem renL_eq (σ : Nat → Nat) : ∀ l : List HE, renL σ l = l.map (HE.ren σ)
  | [] => rfl
  | e :: r => by simp [renL, renL_eq σ r]
theorem appL_eq : ∀ l m : List HE, appL l m = l ++ m
  | [], _ => rfl
  | e :: l, m => by simp [appL, appL_eq l m]
theorem layB_length (σ : Nat → Nat) : ∀ (H : List HE) (ss : List Nat) (fs : List Fl) (es : List HE), (layB σ H ss fs es).length = H.length
  | H, s :: ss, .new :: fs, e :: es => by rw [layB, layB_length σ _ ss fs es, setN_eq, List.length_set]
  | H, _ :: ss, .keep :: fs, _ :: es => by rw [layB, layB_length σ _ ss fs es]
  | H, s :: ss, .drop :: fs, _ :: es => by rw [layB, layB_length σ _ ss fs es, dimN_length]
  | H, [], _, _ => by simp [layB]
  | H, _ :: _, [], _ => by simp [layB]
  | H, _ :: _, .new :: _, [] => by simp [layB]
  | H, _ :: _, .keep :: _, [] => by simp [layB]
  | H, _ :: _, .drop :: _, [] => by simp [layB]
theorem layB_other (σ : Nat → Nat) : ∀ (H : List HE) (ss : List Nat) (fs : List Fl) (es : List HE) (x : Nat), x ∉ ss → (layB σ H ss fs es)[x]? = H[x]?
  | H, s :: ss, .new :: fs, e :: es, x, hx => by
    simp at hx
    rw [layB, layB_other σ _ ss fs es x hx.2, setN_eq, List.getElem?_set, if_neg (fun e => hx.1 e.symm)]
  | H, _ :: ss, .keep :: fs, _ :: es, x, hx => by
    simp at hx
    rw [layB, layB_other σ _ ss fs es x hx.2]
  | H, s :: ss, .drop :: fs, _ :: es, x, hx => by
    simp at hx
    rw [layB, layB_other σ _ ss fs es x hx.2, dimN_get, if_neg hx.1]
  | H, [], _, _, _, _ => by simp [layB]
  | H, _ :: _, [], _, _, _ => by simp [layB]
  | H, _ :: _, .new :: _, [], _, _ => by simp [layB]
  | H, _ :: _, .keep :: _, [], _, _ => by simp [layB]
  | H, _ :: _, .drop :: _, [], _, _ => by simp [layB]
theorem layB_at (σ : Nat → Nat) : ∀ (H : List HE) (ss : List Nat) (fs : List Fl) (es : List HE) (i s : Nat) (f : Fl) (e : HE), nodupN ss = true → ss[i]? = some s → fs[i]? = some f → es[i]? = some e → fs.length ≤ es.length → s < H.length →
    (layB σ H ss fs es)[s]? = match f with | .new => some (e.ren σ) | .keep => H[s]? | .drop => H[s]?.map HE.dim
  | H, [], _, _, i, s, f, e, _, h, _, _, _, _ => by simp at h
  | H, _ :: _, [], _, i, s, f, e, _, _, h, _, _, _ => by simp at h
  | H, _ :: _, _ :: _, [], i, s, f, e, _, _, _, h, _, _ => by simp at h
  | H, t :: ss, g :: fs, d :: es, i, s, f, e, hn, hs, hf, he, hle, hlt => by
    simp only [nodupN, Bool.and_eq_true, Bool.not_eq_true'] at hn
    cases i with
    | zero =>
      simp at hs hf he; subst hs; subst hf; subst he
      have hm : t ∉ ss := by intro h; have := memN_iff.2 h; rw [this] at hn; simp at hn
      cases g
      · rw [layB, layB_other σ _ ss fs es t hm, setN_eq]; simp [hlt]
      · rw [layB, layB_other σ _ ss fs es t hm]
      · rw [layB, layB_other σ _ ss fs es t hm, dimN_get, if_pos rfl]
    | succ i =>
      have hts : t ≠ s := by
        intro e1; subst e1
        have hm : t ∈ ss := List.mem_of_getElem? (by simpa using hs)
        have := memN_iff.2 hm; rw [this] at hn; simp at hn
      have hle' : fs.length ≤ es.length := by simp at hle; exact hle
      cases g
      · rw [layB, layB_at σ _ ss fs es i s f e hn.2 (by simpa using hs) (by simpa using hf) (by simpa using he) hle' (by rw [setN_eq]; simpa using hlt), setN_eq, List.getElem?_set, if_neg hts]
      · rw [layB, layB_at σ _ ss fs es i s f e hn.2 (by simpa using hs) (by simpa using hf) (by simpa using he) hle' hlt]
      · rw [layB, layB_at σ _ ss fs es i s f e hn.2 (by simpa using hs) (by simpa using hf) (by simpa using he) hle' (by rw [dimN_length]; exact hlt), dimN_get, if_neg (fun h => hts h.symm)]

def okNew : HE → Prop
  | .obj o => o.owned = true
  | _ => True
def okNews : List HE → Prop
  | [] => True
  | e :: r => okNew e ∧ okNews r
theorem okNews_get : ∀ {l : List HE}, okNews l → ∀ {h : Nat} {o : SO}, l[h]? = some (.obj o) → o.owned = true
  | [], _, h, o, ho => by simp at ho
  | e :: r, hl, 0, o, ho => by simp at ho; subst ho; exact hl.1
  | e :: r, hl, h + 1, o, ho => okNews_get hl.2 (h := h) (by simpa using ho)

/-- What the places are, and what becomes of them. -/
def flOk : List Fl → List HE → List HE → Prop
  | [], [], es => okNews es
  | .new :: fs, .obj _ :: cs, _ :: es => flOk fs cs es
  | .keep :: fs, .opq :: cs, _ :: es => flOk fs cs es
  | .drop :: fs, c :: cs, e :: es => (e.there = true → c.there = true) ∧ flOk fs cs es
  | _, _, _ => False
theorem flOk_len : ∀ {fs : List Fl} {cs es : List HE}, flOk fs cs es → fs.length = cs.length ∧ cs.length ≤ es.length
  | [], [], es, _ => by simp
  | .new :: fs, .obj _ :: cs, _ :: es, h => by have := flOk_len (fs := fs) (cs := cs) (es := es) h; simp; exact this
  | .keep :: fs, .opq :: cs, _ :: es, h => by have := flOk_len (fs := fs) (cs := cs) (es := es) h; simp; exact this
  | .drop :: fs, c :: cs, e :: es, h => by have := flOk_len (fs := fs) (cs := cs) (es := es) h.2; simp; exact this
  | [], _ :: _, _, h => by simp [flOk] at h
  | .new :: _, [], _, h => by simp [flOk] at h
  | .new :: _, .absent :: _, _, h => by simp [flOk] at h
  | .new :: _, .opq :: _, _, h => by simp [flOk] at h
  | .new :: _, .obj _ :: _, [], h => by simp [flOk] at h
  | .keep :: _, [], _, h => by simp [flOk] at h
  | .keep :: _, .absent :: _, _, h => by simp [flOk] at h
  | .keep :: _, .obj _ :: _, _, h => by simp [flOk] at h
  | .keep :: _, .opq :: _, [], h => by simp [flOk] at h
  | .drop :: _, [], _, h => by simp [flOk] at h
  | .drop :: _, _ :: _, [], h => by simp [flOk] at h
theorem flOk_get : ∀ {fs : List Fl} {cs es : List HE}, flOk fs cs es → ∀ {h : Nat} {f : Fl}, fs[h]? = some f → ∃ c e, cs[h]? = some c ∧ es[h]? = some e ∧
    match f with | .new => ∃ o, c = .obj o | .keep => c = .opq | .drop => (e.there = true → c.there = true)
  | [], [], es, _, h, f, hf => by simp at hf
  | .new :: fs, .obj o :: cs, e :: es, hk, 0, f, hf => by simp at hf; subst hf; exact ⟨_, _, rfl, rfl, o, rfl⟩
  | .new :: fs, .obj _ :: cs, _ :: es, hk, h + 1, f, hf => flOk_get (fs := fs) (cs := cs) (es := es) hk (h := h) (by simpa using hf)
  | .keep :: fs, .opq :: cs, e :: es, hk, 0, f, hf => by simp at hf; subst hf; exact ⟨_, _, rfl, rfl, rfl⟩
  | .keep :: fs, .opq :: cs, _ :: es, hk, h + 1, f, hf => flOk_get (fs := fs) (cs := cs) (es := es) hk (h := h) (by simpa using hf)
  | .drop :: fs, c :: cs, e :: es, hk, 0, f, hf => by simp at hf; subst hf; exact ⟨_, _, rfl, rfl, hk.1⟩
  | .drop :: fs, c :: cs, e :: es, hk, h + 1, f, hf => flOk_get (fs := fs) (cs := cs) (es := es) hk.2 (h := h) (by simpa using hf)
  | [], _ :: _, _, hk, _, _, _ => by simp [flOk] at hk
  | .new :: _, [], _, hk, _, _, _ => by simp [flOk] at hk
  | .new :: _, .absent :: _, _, hk, _, _, _ => by simp [flOk] at hk
  | .new :: _, .opq :: _, _, hk, _, _, _ => by simp [flOk] at hk
  | .new :: _, .obj _ :: _, [], hk, _, _, _ => by simp [flOk] at hk
  | .keep :: _, [], _, hk, _, _, _ => by simp [flOk] at hk
  | .keep :: _, .absent :: _, _, hk, _, _, _ => by simp [flOk] at hk
  | .keep :: _, .obj _ :: _, _, hk, _, _, _ => by simp [flOk] at hk
  | .keep :: _, .opq :: _, [], hk, _, _, _ => by simp [flOk] at hk
  | .drop :: _, [], _, hk, _, _, _ => by simp [flOk] at hk
  | .drop :: _, _ :: _, [], hk, _, _, _ => by simp [flOk] at hk
theorem flOk_news : ∀ {fs : List Fl} {cs es : List HE}, flOk fs cs es → okNews (es.drop cs.length)
  | [], [], es, h => by simpa [flOk] using h
  | .new :: fs, .obj _ :: cs, _ :: es, h => by simpa using flOk_news (fs := fs) (cs := cs) (es := es) h
  | .keep :: fs, .opq :: cs, _ :: es, h => by simpa using flOk_news (fs := fs) (cs := cs) (es := es) h
  | .drop :: fs, c :: cs, e :: es, h => by simpa using flOk_news (fs := fs) (cs := cs) (es := es) h.2
  | [], _ :: _, _, h => by simp [flOk] at h
  | .new :: _, [], _, h => by simp [flOk] at h
  | .new :: _, .absent :: _, _, h => by simp [flOk] at h
  | .new :: _, .opq :: _, _, h => by simp [flOk] at h
  | .new :: _, .obj _ :: _, [], h => by simp [flOk] at h
  | .keep :: _, [], _, h => by simp [flOk] at h
  | .keep :: _, .absent :: _, _, h => by simp [flOk] at h
  | .keep :: _, .obj _ :: _, _, h => by simp [flOk] at h
  | .keep :: _, .opq :: _, [], h => by simp [flOk] at h
  | .drop :: _, [], _, h => by simp [flOk] at h
  | .drop :: _, _ :: _, [], h => by simp [flOk] at h

theorem dim_there (e : HE) : e.dim.there = e.there := by cases e <;> rfl
theorem dim_noobj {e : HE} {o : SO} : e.dim ≠ .obj o := by cases e <;> simp [HE.dim]

set_option maxHeartbeats 2000000 in
/-- The small heap, seen in the great one. -/
theorem frame_sat {E : Env} {ρ ρc : Nat → Nat × Nat} {H Hs Hn : List HE} {w w' : World} {σs : List Nat} {T : List (Nat × SV)} {a : Act} {fs : List Fl}
    (hs : Sat E ρ T H a w) (hlen : σs.length = Hs.length) (hnd : nodupN σs = true) (hold : ∀ h, h < σs.length → sig σs H.length h < H.length)
    (hsub : ∀ (h : Nat) (o : SO), Hs[h]? = some (.obj o) → ∃ u, H[sig σs H.length h]? = some (.obj u) ∧ u.owned = o.owned)
    (hsth : ∀ h, there Hs h = true → there H (sig σs H.length h) = true)
    (hc : HSat w (Own (fun x => ρ (sig σs H.length x)) Hs) ρc Hn w')
    (hbase : ∀ h, there Hs h = true → ρc h = ρ (sig σs H.length h) ∧ there Hn h = true) (hfl : flOk fs Hs Hn) :
    ∃ ρ', HSat E.w0 E.bs ρ' (mergeB (sig σs H.length) σs fs H Hn) w' ∧ (∀ x, there H x = true → ρ x = ρ' x) ∧ (∀ x, there H x = true → there (mergeB (sig σs H.length) σs fs H Hn) x = true) ∧
      (∀ h, there Hn h = true → ρ' (sig σs H.length h) = ρc h ∧ there (mergeB (sig σs H.length) σs fs H Hn) (sig σs H.length h) = true) := by
  generalize hσ : sig σs H.length = σ at *
  have hσlt : ∀ h, h < σs.length → σs[h]? = some (σ h) := fun h hh => by rw [← hσ]; exact sig_lt hh
  have hσge : ∀ h, σs.length ≤ h → σ h = H.length + (h - σs.length) := fun h hh => by rw [← hσ]; exact sig_ge hh
  obtain ⟨hl1, hl2⟩ := flOk_len hfl
  have hfs : fs.length = σs.length := by omega
  have hnlen : σs.length ≤ Hn.length := by omega
  have hff : ∀ h, h < σs.length → ∃ f c e, fs[h]? = some f ∧ Hs[h]? = some c ∧ Hn[h]? = some e ∧ match f with | .new => ∃ o, c = .obj o | .keep => c = .opq | .drop => (e.there = true → c.there = true) := fun h hh => by
    have hf : fs[h]? = some (fs[h]'(by omega)) := List.getElem?_eq_getElem _
    obtain ⟨c, e, h1, h2, h3⟩ := flOk_get hfl hf
    exact ⟨_, c, e, hf, h1, h2, h3⟩
  let M := mergeB σ σs fs H Hn
  have hM : M = layB σ H σs fs Hn ++ (Hn.drop σs.length).map (HE.ren σ) := by
    show mergeB σ σs fs H Hn = _
    unfold mergeB
    rw [appL_eq, renL_eq, dropL_eq]
  have hMlt : ∀ x, x < H.length → M[x]? = (layB σ H σs fs Hn)[x]? := fun x hx => by
    rw [hM, List.getElem?_append_left (by rw [layB_length]; exact hx)]
  have hMge : ∀ h, σs.length ≤ h → M[σ h]? = (Hn[h]?).map (HE.ren σ) := fun h hh => by
    rw [hM, hσge h hh, List.getElem?_append_right (by rw [layB_length]; omega), layB_length]
    simp only [Nat.add_sub_cancel_left, List.getElem?_map, List.getElem?_drop]
    rw [show σs.length + (h - σs.length) = h from by omega]
  have hMsig : ∀ h f e, h < σs.length → fs[h]? = some f → Hn[h]? = some e → M[σ h]? = match f with | .new => some (e.ren σ) | .keep => H[σ h]? | .drop => H[σ h]?.map HE.dim := fun h f e hh hf he => by
    rw [hMlt _ (hold h hh)]
    exact layB_at σ H σs fs Hn h (σ h) f e hnd (hσlt h hh) hf he (by omega) (hold h hh)
  have hMoth : ∀ x, x < H.length → x ∉ σs → M[x]? = H[x]? := fun x hx hn => by
    rw [hMlt x hx, layB_other σ H σs fs Hn x hn]
  have hMnone : ∀ x e, M[x]? = some e → H.length ≤ x → ∃ h, σs.length ≤ h ∧ x = σ h ∧ ∃ e', Hn[h]? = some e' ∧ e = e'.ren σ := fun x e he hx => by
    refine ⟨σs.length + (x - H.length), by omega, ?_, ?_⟩
    · rw [hσge _ (by omega)]; omega
    · have h1 := hMge (σs.length + (x - H.length)) (by omega)
      rw [hσge _ (by omega)] at h1
      rw [show H.length + (σs.length + (x - H.length) - σs.length) = x from by omega, he] at h1
      cases hx' : Hn[σs.length + (x - H.length)]? with
      | none => rw [hx'] at h1; simp at h1
      | some e' => rw [hx'] at h1; simp at h1; exact ⟨e', rfl, h1⟩
  have hinj : ∀ g h, g < σs.length → h < σs.length → σ g = σ h → g = h := fun g h h1 h2 e => by
    have e1 := hσlt g h1
    have e2 := hσlt h h2
    rw [e] at e1
    exact nodupN_get hnd e1 e2
  let ρ' : Nat → Nat × Nat := fun x => if x < H.length then ρ x else ρc (x - H.length + σs.length)
  have hthS : ∀ h, h < σs.length → there Hn h = true → there Hs h = true := fun h hl hh => by
    obtain ⟨f, c, e, _, h1, h2, h3⟩ := hff h hl
    have he : e.there = true := by unfold there at hh; rw [h2] at hh; exact hh
    have : c.there = true := by
      cases f
      · obtain ⟨o, rfl⟩ := h3; rfl
      · simp only at h3; subst h3; rfl
      · exact h3 he
    unfold there; rw [h1]; exact this
  have hρ'σ : ∀ h, there Hn h = true → ρ' (σ h) = ρc h := fun h hh => by
    rcases Nat.lt_or_ge h σs.length with hl | hl
    · have := (hbase h (hthS h hl hh)).1
      simp only [ρ']
      rw [if_pos (hold h hl), this]
    · simp only [ρ']
      rw [hσge h hl, if_neg (by omega)]
      congr 1; omega
  have hρ'H : ∀ x, there H x = true → ρ x = ρ' x := fun x hx => by
    simp only [ρ']; rw [if_pos (there_lt hx)]
  have hthM : ∀ h, h < σs.length → there H (σ h) = true → there M (σ h) = true := fun h hl hh => by
    obtain ⟨f, c, e, hf, h1, h2, h3⟩ := hff h hl
    have hm := hMsig h f e hl hf h2
    unfold there at hh ⊢
    rw [hm]
    cases f
    · obtain ⟨o, rfl⟩ := h3
      have := (hbase h (there_of_obj h1)).2
      unfold there at this
      rw [h2] at this
      cases e <;> simp_all [HE.ren, HE.there]
    · exact hh
    · simp only
      cases hx : H[σ h]? with
      | none => rw [hx] at hh; simp at hh
      | some u => rw [hx] at hh; simpa [dim_there] using hh
  have hthN : ∀ h, there Hn h = true → there M (σ h) = true := fun h hh => by
    rcases Nat.lt_or_ge h σs.length with hl | hl
    · exact hthM h hl (hsth h (hthS h hl hh))
    · unfold there at hh ⊢
      rw [hMge h hl]
      cases he : Hn[h]? with
      | none => rw [he] at hh; simp at hh
      | some e => rw [he] at hh; cases e <;> simp_all [HE.ren, HE.there]
  have hthH : ∀ x, there H x = true → there M x = true := fun x hx => by
    by_cases hm : x ∈ σs
    · obtain ⟨h, hh⟩ := List.getElem?_of_mem hm
      have hl : h < σs.length := by
        rcases Nat.lt_or_ge h σs.length with h1 | h1
        · exact h1
        · rw [List.getElem?_eq_none h1] at hh; simp at hh
      have e := hσlt h hl
      rw [hh] at e; simp at e
      subst e
      exact hthM h hl hx
    · have := hMoth x (there_lt hx) hm
      unfold there at *
      rw [this]; exact hx
  -- each handle of M that is known is the great heap's own (and not the small one's), or the small one's
  let Mine : Nat → Prop := fun x => ∀ g, g < σs.length → (∃ o, Hs[g]? = some (HE.obj o)) → x ≠ σ g
  have hcase : ∀ x o, M[x]? = some (HE.obj o) → (H[x]? = some (.obj o) ∧ Mine x) ∨ ∃ h o', x = σ h ∧ Hn[h]? = some (HE.obj o') ∧ o = o'.ren σ ∧ (h < σs.length → ∃ c, Hs[h]? = some (HE.obj c)) := fun x o he => by
    rcases Nat.lt_or_ge x H.length with hx | hx
    · by_cases hm : x ∈ σs
      · obtain ⟨h, hh⟩ := List.getElem?_of_mem hm
        have hl : h < σs.length := by
          rcases Nat.lt_or_ge h σs.length with h1 | h1
          · exact h1
          · rw [List.getElem?_eq_none h1] at hh; simp at hh
        have e1 := hσlt h hl
        rw [hh] at e1; simp at e1
        subst e1
        obtain ⟨f, c, e, hf, h1, h2, h3⟩ := hff h hl
        have hm' := hMsig h f e hl hf h2
        rw [he] at hm'
        cases f
        · right
          simp only at hm'
          obtain ⟨oc, rfl⟩ := h3
          cases e with
          | absent => simp [HE.ren] at hm'
          | opq => simp [HE.ren] at hm'
          | obj o' => simp [HE.ren] at hm'; exact ⟨h, o', rfl, h2, hm', fun _ => ⟨oc, h1⟩⟩
        · left
          refine ⟨hm'.symm, fun g hg hog e4 => ?_⟩
          have := hinj g h hg hl e4.symm
          subst this
          obtain ⟨o4, ho4⟩ := hog
          simp only at h3; subst h3
          rw [h1] at ho4; simp at ho4
        · simp only at hm'
          cases hu : H[σ h]? with
          | none => rw [hu] at hm'; simp at hm'
          | some u => rw [hu] at hm'; simp at hm'; exact absurd hm'.symm dim_noobj
      · left
        refine ⟨by rw [← hMoth x hx hm]; exact he, fun g hg _ e4 => hm ?_⟩
        rw [e4]; exact List.mem_of_getElem? (hσlt g hg)
    · right
      obtain ⟨h, h0, h2, e', h3, h4⟩ := hMnone x _ he hx
      cases e' with
      | absent => simp [HE.ren] at h4
      | opq => simp [HE.ren] at h4
      | obj o' => simp [HE.ren] at h4; exact ⟨h, o', h2, h3, h4, fun hl => absurd hl (by omega)⟩
  have hnotown : ∀ (x : Nat) (ox : SO), H[x]? = some (HE.obj ox) → Mine x → ¬ Own (fun x => ρ (σ x)) Hs (ρ x).1 := fun x ox hx hm ⟨h, o, h1, _, h3⟩ => by
    have hl : h < σs.length := by have := there_lt (there_of_obj h1); omega
    obtain ⟨u, hu, _⟩ := hsub h o h1
    have := hs.hs.inj _ _ _ _ hu hx h3
    exact hm h hl ⟨o, h1⟩ this.symm
  have hsame : ∀ (x : Nat) (ox : SO), H[x]? = some (HE.obj ox) → Mine x → w'.heap[(ρ x).1]? = w.heap[(ρ x).1]? := fun x ox hx hm =>
    hc.fr.same _ (hs.hs.size x (there_of_obj hx)) (hnotown x ox hx hm)
  have hfresh : ∀ (h : Nat) (o : SO), σs.length ≤ h → Hn[h]? = some (HE.obj o) → w.heap.size ≤ (ρc h).1 ∨ ∃ g og, Hs[g]? = some (HE.obj og) ∧ (ρ (σ g)).1 = (ρc h).1 := fun h o hh hob => by
    have hget : (Hn.drop Hs.length)[h - Hs.length]? = some (HE.obj o) := by
      rw [List.getElem?_drop, show Hs.length + (h - Hs.length) = h from by omega]; exact hob
    have h2 := okNews_get (flOk_news hfl) hget
    rcases hc.own h o hob h2 with ⟨g, og, g1, g2, g3⟩ | h3
    · exact .inr ⟨g, og, g1, g3⟩
    · exact .inl h3
  refine ⟨ρ', ⟨?_, ?_, ?_, ?_, ?_⟩, hρ'H, hthH, fun h hh => ⟨hρ'σ h hh, hthN h hh⟩⟩
  · intro x o ho
    rcases hcase x _ ho with ⟨hH, hm⟩ | ⟨h, on, hxe, hn, he, _⟩
    · obtain ⟨h1, h2⟩ := hs.hs.objs x o hH
      refine ⟨?_, SO.okh_mono hthH _ h2⟩
      have h3 := SO.holds_congr hρ'H o h2 h1
      rw [← hρ'H x (there_of_obj hH)]
      exact SO.holds_world (hsame x _ hH hm) _ h3
    · subst he
      obtain ⟨h1, h2⟩ := hc.objs h on hn
      subst hxe
      refine ⟨?_, ?_⟩
      · rw [SO.holds_ren, hρ'σ h (there_of_obj hn)]
        exact SO.holds_congr (fun y hy => (hρ'σ y hy).symm) on h2 h1
      · have : (on.ren σ).okh (there M) = on.okh (fun y => there M (σ y)) := by
          cases on <;> simp [SO.ren, SO.okh, okhs_rens]
        rw [this]
        exact SO.okh_mono hthN on h2
  · intro x hx
    rcases Nat.lt_or_ge x H.length with hxl | hxl
    · -- the handle is one of the great heap's
      by_cases hH : there H x = true
      · rw [← hρ'H x hH]
        have := hs.hs.size x hH
        have := hc.fr.size
        omega
      · exfalso
        have hx' : there M x = true := hx
        by_cases hm : x ∈ σs
        · obtain ⟨h, hh⟩ := List.getElem?_of_mem hm
          have hl : h < σs.length := by
            rcases Nat.lt_or_ge h σs.length with h1 | h1
            · exact h1
            · rw [List.getElem?_eq_none h1] at hh; simp at hh
          have e1 := hσlt h hl
          rw [hh] at e1; simp at e1
          subst e1
          obtain ⟨f, c, e, hf, h1, h2, h3⟩ := hff h hl
          have hm' := hMsig h f e hl hf h2
          unfold there at hx' hH
          rw [hm'] at hx'
          cases f
          · obtain ⟨oc, rfl⟩ := h3
            exact hH (hsth h (there_of_obj h1))
          · exact hH hx'
          · simp only at hx'
            cases hu : H[σ h]? with
            | none => rw [hu] at hx'; simp at hx'
            | some u => rw [hu] at hx' hH; simp [dim_there] at hx'; simp [hx'] at hH
        · have := hMoth x hxl hm
          unfold there at hx' hH
          rw [this] at hx'
          exact hH hx'
    · have hx' : there M x = true := hx
      unfold there at hx'
      cases he : M[x]? with
      | none => rw [he] at hx'; simp at hx'
      | some e =>
        rw [he] at hx'
        obtain ⟨h, h0, h2, e', h3, h4⟩ := hMnone x e he hxl
        have hth : there Hn h = true := by unfold there; rw [h3]; rw [h4] at hx'; cases e' <;> simp_all [HE.ren, HE.there]
        rw [h2, hρ'σ h hth]
        exact hc.size h hth
  · have mix : ∀ (x h : Nat) (ox o : SO), H[x]? = some (HE.obj ox) → Mine x → Hn[h]? = some (HE.obj o) → (h < σs.length → ∃ c, Hs[h]? = some (HE.obj c)) → (ρ x).1 = (ρc h).1 → False := fun x h ox o hx hm hh hcc e => by
      rcases Nat.lt_or_ge h σs.length with hl | hl
      · obtain ⟨c, hc1⟩ := hcc hl
        obtain ⟨u, hu, _⟩ := hsub h c hc1
        rw [(hbase h (there_of_obj hc1)).1] at e
        exact hm h hl ⟨c, hc1⟩ (hs.hs.inj _ _ _ _ hx hu e)
      · have hsz := hs.hs.size x (there_of_obj hx)
        rcases hfresh h o hl hh with h1 | ⟨g, og, g1, g2⟩
        · omega
        · obtain ⟨u, hu, _⟩ := hsub g og g1
          exact hm g (by have := there_lt (there_of_obj g1); omega) ⟨og, g1⟩ (hs.hs.inj _ _ _ _ hx hu (by rw [e, g2]))
    intro x y ox oy hx hy e
    rcases hcase x ox hx with ⟨hx1, hx2⟩ | ⟨h, o1, hxe, hh, _, hhc⟩ <;> rcases hcase y oy hy with ⟨hy1, hy2⟩ | ⟨g, o2, hye, hg, _, hgc⟩
    · rw [← hρ'H x (there_of_obj hx1), ← hρ'H y (there_of_obj hy1)] at e; exact hs.hs.inj x y _ _ hx1 hy1 e
    · rw [← hρ'H x (there_of_obj hx1), hye, hρ'σ g (there_of_obj hg)] at e; exact (mix x g _ _ hx1 hx2 hg hgc e).elim
    · rw [← hρ'H y (there_of_obj hy1), hxe, hρ'σ h (there_of_obj hh)] at e; exact (mix y h _ _ hy1 hy2 hh hhc e.symm).elim
    · rw [hxe, hye, hρ'σ h (there_of_obj hh), hρ'σ g (there_of_obj hg)] at e
      rw [hxe, hye, hc.inj h g _ _ hh hg e]
  · intro x o ho hoo
    rcases hcase x _ ho with ⟨hH, hm⟩ | ⟨h, on, hxe, hn, he, _⟩
    · rw [← hρ'H x (there_of_obj hH)]; exact hs.hs.own x o hH hoo
    · subst he
      rw [SO.owned_ren] at hoo
      rw [hxe, hρ'σ h (there_of_obj hn)]
      rcases hc.own h on hn hoo with ⟨g, og, g1, g2, g3⟩ | h3
      · obtain ⟨u, hu, huo⟩ := hsub g og g1
        have := hs.hs.own _ _ hu (by rw [huo]; exact g2)
        simp only at g3
        rw [g3] at this; exact this
      · right; have := hs.hs.fr.size; omega
  · refine ⟨by have := hs.hs.fr.size; have := hc.fr.size; omega, fun b hb hnb => ?_, hc.fr.io.1.trans hs.hs.fr.io.1, hc.fr.io.2.1.trans hs.hs.fr.io.2.1, hc.fr.io.2.2.trans hs.hs.fr.io.2.2⟩
    rw [hc.fr.same b (by have := hs.hs.fr.size; omega) ?_]
    · exact hs.hs.fr.same b hb hnb
    · rintro ⟨g, og, g1, g2, g3⟩
      obtain ⟨u, hu, huo⟩ := hsub g og g1
      rcases hs.hs.own _ _ hu (by rw [huo]; exact g2) with h1 | h1
      · simp only at g3; rw [g3] at h1; exact hnb h1
      · simp only at g3; rw [g3] at h1; omega

/-- No loops. -/
def onlyCode : List KI → Bool
  | [] => true
  | .code _ :: k => onlyCode k
  | .blk _ :: k => onlyCode k
  | .ops _ _ :: k => onlyCode k
  | _ :: _ => false

theorem upon_mono2 {P : Program} {o : Oper} {a : Act} {K K' : Act → World → Prop} {Q Q' : Exit → Act → World → Prop} (hK : ∀ a w, K a w → K' a w) (hQ : ∀ e a w, Q e a w → Q' e a w) (r : Result Next) (h : o.upon P a K Q r) : o.upon P a K' Q' r := by
  cases r with
  | ok n w =>
    cases n with
    | enter f args =>
      rw [Oper.upon_enter] at h ⊢
      refine Calls.mono h fun e w' he => ?_
      cases e with
      | returned v => exact hK _ _ he
      | panicked c => exact hQ _ _ _ he
      | outgrown => obtain ⟨a, w, h⟩ := he; exact ⟨a, w, hQ _ _ _ h⟩
    | row r as => rw [Oper.upon_row] at h ⊢; exact Rows.mono h fun v w' he => hK _ _ he
    | value v => exact hK _ _ h
    | skip => exact hK _ _ h
    | defer d => exact hK _ _ h
    | _ => exact h
  | halt h' w =>
    cases h' with
    | panic v => exact hQ _ _ _ h
    | _ => exact h

theorem wpList_mono2 {P : Program} {ops : Array Oper} {Q Q' : Exit → Act → World → Prop} (hQ : ∀ e a w, Q e a w → Q' e a w) : ∀ (l : List Oper) (a : Act) (w : World), wpList P ops Q l a w → wpList P ops Q' l a w
  | [], a, w, h => hQ _ _ _ h
  | o :: l, a, w, h => by
    unfold wpList at h ⊢
    split at h
    · rename_i hw
      rw [if_pos hw]
      rcases h with h | ⟨h1, a', w', h2⟩
      · exact .inl (upon_mono2 (fun a w h => wpList_mono2 hQ l a w h) hQ _ h)
      · exact .inr ⟨h1, a', w', hQ _ _ _ h2⟩
    · rename_i hw
      rw [if_neg hw]
      exact wpList_mono2 hQ l _ _ h

theorem wk_frame {P : Program} {Qs Q : Exit → Act → World → Prop} {I J : Act → World → Prop} {k : List KI} (hQ : ∀ e a w, Qs e a w → False) (hJ : ∀ a w, J a w → WK P Q (.lp I :: k) .normal a w) :
    ∀ {K1 : List KI}, onlyCode K1 = true → ∀ e a w, WK P Qs (K1 ++ [.lp J]) e a w → WK P Q (K1 ++ .lp I :: k) e a w
  | [], _, e, a, w, h => by
    cases e with
    | normal => exact hJ a w h
    | _ => exact (hQ _ _ _ h).elim
  | .code c :: K1, hk, e, a, w, h => by
    cases e with
    | normal => exact wp_mono h fun e a w hh => wk_frame hQ hJ (K1 := K1) hk e a w hh
    | _ => exact wk_frame hQ hJ (K1 := K1) hk _ a w h
  | .blk id :: K1, hk, e, a, w, h => by
    cases e with
    | exit i =>
      simp only [List.cons_append, WK] at h ⊢
      split at h
      · rename_i hi; rw [if_pos hi]; exact wk_frame hQ hJ (K1 := K1) hk _ a w h
      · rename_i hi; rw [if_neg hi]; exact wk_frame hQ hJ (K1 := K1) hk _ a w h
    | _ => exact wk_frame hQ hJ (K1 := K1) hk _ a w h
  | .ops all l :: K1, hk, e, a, w, h => by
    cases e with
    | normal => exact wpList_mono2 (fun e a w hh => wk_frame hQ hJ (K1 := K1) hk e a w hh) l a w h
    | _ => exact wk_frame hQ hJ (K1 := K1) hk _ a w h
  | .lp _ :: _, hk, _, _, _, _ => by simp [onlyCode] at hk
  | .again _ _ :: _, hk, _, _, _, _ => by simp [onlyCode] at hk

theorem renT_look (σ : Nat → Nat) : ∀ {T : List (Nat × SV)} {t : Nat} {v : SV}, look (renT σ T) t = some v → ∃ u, look T t = some u ∧ v = u.ren σ
  | [], t, v, h => by simp [renT, look] at h
  | (k, u) :: r, t, v, h => by
    simp only [renT] at h
    rw [look_cons] at h ⊢
    split at h
    · rename_i e; simp at h; subst h; exact ⟨u, by simp [e], rfl⟩
    · rename_i e; rw [if_neg e]; exact renT_look σ h

def allLt (H : List HE) : List Nat → Prop
  | [] => True
  | s :: r => (∃ e, H[s]? = some e) ∧ allLt H r
theorem allLt_get {H : List HE} : ∀ {l : List Nat}, allLt H l → ∀ {i s : Nat}, l[i]? = some s → s < H.length
  | [], _, i, s, h => by simp at h
  | t :: r, hl, 0, s, h => by
    simp at h; subst h
    obtain ⟨e, he⟩ := hl.1
    rcases Nat.lt_or_ge t H.length with h1 | h1
    · exact h1
    · rw [List.getElem?_eq_none h1] at he; simp at he
  | t :: r, hl, i + 1, s, h => allLt_get hl.2 (i := i) (by simpa using h)

/-- What never is. -/
def Not2 : SV → List HE → Prop := fun _ _ => False

section
variable {P : Program} {X : Tabs} (hX : TOk P X)
variable {R : SV → List HE → Prop} {fn : Func} {nt : Nat} {H0 : List HE} {k : List KI} {T : List (Nat × SV)} {H : List HE} {cs : List Ch} {I : Act → World → Prop}

theorem not2_Q {ρ : Nat → Nat × Nat} {w : World} {H : List HE} (e : Exit) (a : Act) (w' : World) (h : (FEnv P X.TE hX.te fn nt H Not2 ρ w).Q e a w') : False := by
  simp only [FEnv] at h
  cases e with
  | normal => obtain ⟨_, v, _, ρ', H', v', h1, _⟩ := h; exact h1
  | ret => obtain ⟨_, v, _, ρ', H', v', h1, _⟩ := h; exact h1
  | panic c => exact h.2
  | outgrown => exact h
  | _ => exact h

/-- A piece of code, gone through in a small heap. -/
theorem ss_frame {ρ0 : Nat → Nat × Nat} {w0 : World} {K1 : List KI} {α : Type} (σs : List Nat) (fs : List Fl) (Ts : List (Nat × SV)) (Hs : List HE)
    (Tj : α → List (Nat × SV)) (Hj : α → List HE) (Q : α → Prop)
    (hK : onlyCode K1 = true) (hlen : Nat.beq σs.length Hs.length = true) (hnd : nodupN σs = true) (hlt : allLt H σs)
    (hT : subT (sig σs H.length) T Ts) (hH : subH (sig σs H.length) H 0 Hs) (hok1 : okTP (thereF Hs) Ts) (hok2 : okHP (thereF Hs) Hs)
    (hfl : ∀ x, Q x → flOk fs Hs (Hj x))
    (body : ∀ ρ1 w1 J, (∀ x, Q x → ∀ cs T H, (Sub (FEnv P X.TE hX.te fn nt Hs Not2 ρ1 w1) T H (Tj x) (Hj x)) → SS hX (At ρ1 w1) Not2 ⟨cs, [], fn, nt, Hs, [.lp J], T, H⟩) →
      SS hX (At ρ1 w1) Not2 ⟨[], [], fn, nt, Hs, K1 ++ [.lp J], Ts, Hs⟩)
    (rest : ∀ x, Q x → SS hX (At ρ0 w0) R ⟨[], [], fn, nt, H0, .lp I :: k, renT (sig σs H.length) (Tj x), mergeB (sig σs H.length) σs fs H (Hj x)⟩) :
    SS hX (At ρ0 w0) R ⟨cs, [], fn, nt, H0, K1 ++ .lp I :: k, T, H⟩ := by
  refine ss_sw hX fun ρ a w hs => ?_
  have hlen' : σs.length = Hs.length := Nat.eq_of_beq_eq_true hlen
  let ρs : Nat → Nat × Nat := fun x => ρ (sig σs H.length x)
  let J : Act → World → Prop := fun a w' => ∃ x, Q x ∧ ∃ ρ', Sat (FEnv P X.TE hX.te fn nt Hs Not2 ρs w) ρ' (Tj x) (Hj x) a w'
  have hb := body ρs w J fun x hx cs T H hsub => ss_sw hX fun ρ1 a1 w1 hs1 => by
    obtain ⟨ρ', hs'⟩ := hsub ρ1 a1 w1 hs1
    exact ⟨x, hx, ρ', hs'⟩
  have hfun : thereF Hs = there Hs := funext (thereF_eq Hs)
  have hok1' := okTP_ok hok1
  have hok2' := okHP_ok hok2
  rw [hfun] at hok1' hok2'
  have hth : ∀ h, there Hs h = true → there H (sig σs H.length h) = true := fun h hh => by
    have := (subH_get hH (h := h)).2 hh
    simpa using this
  have hobj : ∀ {h : Nat} {o : SO}, Hs[h]? = some (.obj o) → ∃ u, H[sig σs H.length h]? = some (.obj u) ∧ simO u (o.ren (sig σs H.length)) := by
    intro h o ho
    have := (subH_get hH (h := h)).1 ho
    simpa using this
  have hsmall : Sat (FEnv P X.TE hX.te fn nt Hs Not2 ρs w) ρs Ts Hs a w := by
    refine ⟨⟨?_, ?_, ?_, ?_, Fr.refl _ _⟩, ⟨?_, hs.ts.num, hs.ts.def0⟩, fun h hh => ⟨rfl, hh⟩⟩
    · intro h o ho
      obtain ⟨u, hu, hsim⟩ := hobj ho
      have := (hs.hs.objs _ _ hu).1
      exact ⟨(SO.holds_ren o).1 ((simO_holds hsim).1 this), okHs_get hok2' ho⟩
    · intro h hh; exact hs.hs.size _ (hth h hh)
    · intro h h' o o' hh hh' e
      obtain ⟨u1, hu1, _⟩ := hobj hh
      obtain ⟨u2, hu2, _⟩ := hobj hh'
      have := hs.hs.inj _ _ _ _ hu1 hu2 e
      have l1 : h < σs.length := by rw [hlen']; exact there_lt (there_of_obj hh)
      have l2 : h' < σs.length := by rw [hlen']; exact there_lt (there_of_obj hh')
      have g1 := sig_lt (b := H.length) l1
      have g2 := sig_lt (b := H.length) l2
      rw [this] at g1
      exact nodupN_get hnd g1 g2
    · intro h o ho hoo
      exact .inl ⟨h, o, ho, hoo, rfl⟩
    · intro t v hv
      obtain ⟨u, hu, hsim⟩ := subT_get hT hv
      obtain ⟨h1, h2⟩ := hs.ts.val t u hu
      exact ⟨by rw [h1, (sim_tr (A := fun _ => true) hsim).1, tr_ren], okT_get hok1' hv⟩
  have hw := sw_ss hX hb ρs a w hsmall
  refine wk_frame (not2_Q hX) (fun a' w' hJ => ?_) hK _ _ _ hw
  obtain ⟨x, hx, ρc, hsc⟩ := hJ
  obtain ⟨ρ', m1, m2, m3, m4⟩ := frame_sat hs hlen' hnd (fun h hh => allLt_get hlt (sig_lt hh)) (fun h o ho => by
      obtain ⟨u, hu, hsim⟩ := hobj ho
      refine ⟨u, hu, ?_⟩
      rw [(simO_holds (ρ := ρ) (w := w) (p := (0, 0)) hsim).2, SO.owned_ren]) hth hsc.hs (fun h hh => hsc.base h hh) (hfl x hx)
  refine sw_ss hX (rest x hx) ρ' a' w' ⟨m1, ⟨?_, hsc.ts.num, hsc.ts.def0⟩, ?_⟩
  · intro t v hv
    obtain ⟨u, hu, rfl⟩ := renT_look _ hv
    obtain ⟨h1, h2⟩ := hsc.ts.val t u hu
    refine ⟨?_, ?_⟩
    · rw [h1, tr_ren, tr_congr (fun h hh => (m4 h hh).1.symm) u h2]
    · rw [okh_ren]; exact okh_mono (fun h hh => (m4 h hh).2) u h2
  · intro h hh
    obtain ⟨q1, q2⟩ := hs.base h hh
    exact ⟨by rw [← m2 h q2]; exact q1, m3 h q2⟩
end
end Go.Hx

/-
  Other names, of which some are of one thing; a value that is forgotten.
-/
namespace Go.Hx
open Go

/-- Among things that are known no two have one name. -/
def memO (s : Nat) : List Nat → List HE → Bool
  | t :: ss, .obj _ :: es => Nat.beq s t || memO s ss es
  | _ :: ss, _ :: es => memO s ss es
  | _, _ => false
def nodupO : List Nat → List HE → Bool
  | s :: ss, .obj _ :: es => !memO s ss es && nodupO ss es
  | _ :: ss, _ :: es => nodupO ss es
  | _, _ => true
theorem memO_get {s : Nat} : ∀ {ss : List Nat} {es : List HE} {i : Nat} {o : SO}, ss[i]? = some s → es[i]? = some (.obj o) → memO s ss es = true
  | [], _, i, o, h, _ => by simp at h
  | t :: ss, [], i, o, _, h => by simp at h
  | t :: ss, e :: es, 0, o, h1, h2 => by
    simp at h1 h2; subst h1; subst h2
    simp [memO]
  | t :: ss, e :: es, i + 1, o, h1, h2 => by
    have := memO_get (s := s) (ss := ss) (es := es) (i := i) (o := o) (by simpa using h1) (by simpa using h2)
    cases e <;> simp [memO, this]
theorem nodupO_get : ∀ {ss : List Nat} {es : List HE}, nodupO ss es = true → ∀ {i j s : Nat} {o o' : SO}, ss[i]? = some s → ss[j]? = some s → es[i]? = some (.obj o) → es[j]? = some (.obj o') → i = j
  | [], _, _, i, j, s, o, o', h, _, _, _ => by simp at h
  | t :: ss, [], _, i, j, s, o, o', _, _, h, _ => by simp at h
  | t :: ss, e :: es, hn, 0, 0, s, o, o', _, _, _, _ => rfl
  | t :: ss, e :: es, hn, 0, j + 1, s, o, o', h1, h2, h3, h4 => by
    simp at h1 h3; subst h1; subst h3
    have := memO_get (s := t) (ss := ss) (es := es) (i := j) (o := o') (by simpa using h2) (by simpa using h4)
    simp [nodupO, this] at hn
  | t :: ss, e :: es, hn, i + 1, 0, s, o, o', h1, h2, h3, h4 => by
    simp at h2 h4; subst h2; subst h4
    have := memO_get (s := t) (ss := ss) (es := es) (i := i) (o := o) (by simpa using h1) (by simpa using h3)
    simp [nodupO, this] at hn
  | t :: ss, e :: es, hn, i + 1, j + 1, s, o, o', h1, h2, h3, h4 => by
    have hn' : nodupO ss es = true := by cases e <;> simp [nodupO] at hn <;> first | exact hn | exact hn.2
    have := nodupO_get hn' (i := i) (j := j) (s := s) (o := o) (o' := o') (by simpa using h1) (by simpa using h2) (by simpa using h3) (by simpa using h4)
    omega

theorem subS_ofD {E : Env} {T T' : List (Nat × SV)} {H H' : List HE} (σs : List Nat) (hlen : Nat.beq σs.length H'.length = true) (hnd : nodupO σs H' = true)
    (hb : fromN E.H0.length 0 σs = true) (hb' : leH E.H0 H' = true)
    (hT : subT (sig σs 0) T T') (hH : subH (sig σs 0) H 0 H') (hok1 : okTP (thereF H') T') (hok2 : okHP (thereF H') H') : SubS E (sig σs 0) T H T' H' := by
  intro ρ a w hs
  have hfun : thereF H' = there H' := funext (thereF_eq H')
  have hok1 := okTP_ok hok1
  have hok2 := okHP_ok hok2
  rw [hfun] at hok1 hok2
  have hlen' := Nat.eq_of_beq_eq_true hlen
  have hth : ∀ h, there H' h = true → there H (sig σs 0 h) = true := by
    intro h hh
    have := (subH_get hH (h := h)).2 hh
    simpa using this
  have hobj : ∀ {h : Nat} {o : SO}, H'[h]? = some (.obj o) → ∃ u, H[sig σs 0 h]? = some (.obj u) ∧ simO u (o.ren (sig σs 0)) := by
    intro h o ho
    have := (subH_get hH (h := h)).1 ho
    simpa using this
  refine ⟨⟨?_, ?_, ?_, ?_, hs.hs.fr⟩, ⟨?_, hs.ts.num, hs.ts.def0⟩, ?_⟩
  · intro h o ho
    obtain ⟨u, hu, hsim⟩ := hobj ho
    have := (hs.hs.objs _ _ hu).1
    exact ⟨(SO.holds_ren o).1 ((simO_holds hsim).1 this), okHs_get hok2 ho⟩
  · intro h hh; exact hs.hs.size _ (hth h hh)
  · intro h h' o o' hh hh' e
    obtain ⟨u1, hu1, _⟩ := hobj hh
    obtain ⟨u2, hu2, _⟩ := hobj hh'
    have := hs.hs.inj _ _ _ _ hu1 hu2 e
    have l1 : h < σs.length := by rw [hlen']; exact there_lt (there_of_obj hh)
    have l2 : h' < σs.length := by rw [hlen']; exact there_lt (there_of_obj hh')
    have g1 := sig_lt (b := 0) l1
    have g2 := sig_lt (b := 0) l2
    rw [this] at g1
    exact nodupO_get hnd g1 g2 hh hh'
  · intro h o ho hoo
    obtain ⟨u, hu, hsim⟩ := hobj ho
    exact hs.hs.own _ _ hu (by rw [(simO_holds (ρ := ρ) (w := w) (p := (0, 0)) hsim).2, SO.owned_ren]; exact hoo)
  · intro t v hv
    obtain ⟨u, hu, hsim⟩ := subT_get hT hv
    obtain ⟨h1, h2⟩ := hs.ts.val t u hu
    exact ⟨by rw [h1, (sim_tr (A := fun _ => true) hsim).1, tr_ren], okT_get hok1 hv⟩
  · intro h hh
    have hlt := there_lt hh
    have g := fromN_get hb hlt
    have l1 : h < σs.length := by
      rcases Nat.lt_or_ge h σs.length with h1 | h1
      · exact h1
      · rw [List.getElem?_eq_none h1] at g; simp at g
    have g1 := sig_lt (b := 0) l1
    rw [g] at g1
    simp at g1
    obtain ⟨q1, q2⟩ := hs.base h hh
    exact ⟨by show ρ (sig σs 0 h) = _; rw [← g1]; exact q1, leH_there hb' h hh⟩

/-- The names are told by the heap itself; of what is not known some may be one. -/
theorem sub_ofD {E : Env} {T T' : List (Nat × SV)} {H H' : List HE} (F : List HE → Option (List Nat)) {σs : List Nat} (_ : F H = some σs) (hlen : Nat.beq σs.length H'.length = true) (hnd : nodupO σs H' = true)
    (hb : fromN E.H0.length 0 σs = true) (hb' : leH E.H0 H' = true) (hT : subT (sig σs 0) T T') (hH : subH (sig σs 0) H 0 H') (hok1 : okTP (thereF H') T') (hok2 : okHP (thereF H') H') : Sub E T H T' H' :=
  (subS_ofD σs hlen hnd hb hb' hT hH hok1 hok2).sub

/-- What is still to be done in this round. -/
def upLp : List KI → List KI
  | [] => []
  | .lp _ :: _ => []
  | x :: k => x :: upLp k

/-- Cell j of object i. -/
def setC (l : List SV) : Nat → SV → List SV := fun j v => match l, j with
  | [], _ => []
  | _ :: r, 0 => v :: r
  | x :: r, j + 1 => x :: setC r j v
theorem setC_get (v : SV) : ∀ (l : List SV) (j i : Nat), (setC l j v)[i]? = if i = j then l[i]?.map (fun _ => v) else l[i]?
  | [], _, _ => by simp [setC]
  | x :: r, 0, 0 => by simp [setC]
  | x :: r, 0, i + 1 => by simp [setC]
  | x :: r, j + 1, 0 => by simp [setC]
  | x :: r, j + 1, i + 1 => by simp [setC, setC_get v r j i]
theorem setC_trs {ρ : Nat → Nat × Nat} {v : SV} : ∀ {l : List SV} {j : Nat} {u : SV}, l[j]? = some u → v.tr ρ = u.tr ρ → SV.trs ρ (setC l j v) = SV.trs ρ l
  | [], _, _, h, _ => by simp at h
  | x :: r, 0, u, h, e => by simp at h; subst h; simp [setC, SV.trs, e]
  | x :: r, j + 1, u, h, e => by simp [setC, SV.trs, setC_trs (l := r) (j := j) (by simpa using h) e]
theorem setC_okhs {A : Nat → Bool} {v : SV} (hv : v.okh A = true) : ∀ {l : List SV} {j : Nat}, SV.okhs A l = true → SV.okhs A (setC l j v) = true
  | [], _, _ => by simp [setC, SV.okhs]
  | x :: r, 0, h => by simp [SV.okhs] at h; simp [setC, SV.okhs, hv, h.2]
  | x :: r, j + 1, h => by simp [SV.okhs] at h; simp [setC, SV.okhs, h.1, setC_okhs hv h.2]

section
variable {P : Program} {X : Tabs} (hX : TOk P X)
variable {R : SV → List HE → Prop} {fn : Func} {nt : Nat} {H0 : List HE} {k : List KI} {T : List (Nat × SV)} {H : List HE} {cs : List Ch}

/-- A cell's value is forgotten: it is some one. -/
theorem ss_raw {ρ0 : Nat → Nat × Nat} {w0 : World} (i j : Nat) {l : List SV} {ty : TypeId} {u : SV} (hi : getH H i = some (.cells l ty)) (hj : nthF l j = some u)
    (h : ∀ v, SS hX (At ρ0 w0) R ⟨cs, [], fn, nt, H0, k, T, setN H i (.obj (.cells (setC l j (.raw v)) ty))⟩) : SS hX (At ρ0 w0) R ⟨cs, [], fn, nt, H0, k, T, H⟩ := by
  refine ss_sw hX fun ρ a w hs => ?_
  have hj' : l[j]? = some u := by rw [← nthF_eq]; exact hj
  have hi' := getH_some.1 hi
  have hlt : i < H.length := there_lt (there_of_obj hi')
  refine sw_ss hX (h (u.tr ρ)) ρ a w ?_
  rw [setN_eq]
  have hth : ∀ x, there (H.set i (.obj (.cells (setC l j (.raw (u.tr ρ))) ty))) x = there H x := fun x => by
    unfold there
    rw [List.getElem?_set]
    split
    · rename_i e; subst e; rw [hi']; first | rfl | (rw [if_pos hlt]; rfl)
    · rfl
  have hthf : there (H.set i (.obj (.cells (setC l j (.raw (u.tr ρ))) ty))) = there H := funext hth
  have hgo : ∀ (x : Nat) (o : SO), (H.set i (.obj (.cells (setC l j (.raw (u.tr ρ))) ty)))[x]? = some (HE.obj o) → ∃ o' : SO, H[x]? = some (HE.obj o') ∧ (o.owned = o'.owned) ∧ (o'.holds ρ w (ρ x) → o.holds ρ w (ρ x)) ∧ (o'.okh (there H) = true → o.okh (there H) = true) := fun x o ho => by
    rw [List.getElem?_set] at ho
    split at ho
    · rename_i e; subst e
      (try rw [if_pos hlt] at ho)
      simp at ho; (try subst ho)
      refine ⟨_, hi', rfl, fun hh => ?_, fun hh => setC_okhs rfl hh⟩
      simp only [SO.holds] at hh ⊢
      rw [setC_trs hj' (v := .raw (u.tr ρ)) rfl]
      exact hh
    · exact ⟨o, ho, rfl, id, id⟩
  refine ⟨⟨?_, ?_, ?_, ?_, hs.hs.fr⟩, ?_, ?_⟩
  · intro x o ho
    obtain ⟨o', h1, h2, h3, h4⟩ := hgo x o ho
    obtain ⟨q1, q2⟩ := hs.hs.objs x o' h1
    rw [hthf]
    exact ⟨h3 q1, h4 q2⟩
  · intro x hx; rw [hth] at hx; exact hs.hs.size x hx
  · intro x y o o' hx hy e
    obtain ⟨p, h1, _⟩ := hgo x o hx
    obtain ⟨q, h2, _⟩ := hgo y o' hy
    exact hs.hs.inj x y p q h1 h2 e
  · intro x o ho hoo
    obtain ⟨p, h1, h2, _⟩ := hgo x o ho
    exact hs.hs.own x p h1 (by rw [← h2]; exact hoo)
  · rw [hthf]; exact hs.ts
  · intro x hx
    rw [hth]
    exact hs.base x hx
end
end Go.Hx

/-
  A call in a world where a variable's cell is known.
-/
namespace Go.Hx
open Go Go.RowKit Go.ChangeShapes Go.WideShapes

/-- The cell of a variable. -/
abbrev pinE (v : Value) : HE := .obj (.pin 0 v)
theorem pin_lt {w : World} {v : Value} (hp : w.cell? ⟨0, 0, none⟩ = some v) : 0 < w.heap.size := by
  rcases Nat.eq_zero_or_pos w.heap.size with h0 | h
  · simp [World.cell?, h0] at hp
  · exact h
theorem hsat_pin {w : World} {v : Value} (hp : w.cell? ⟨0, 0, none⟩ = some v) : HSat w (Own (fun _ => (0, 0)) [pinE v]) (fun _ => (0, 0)) [pinE v] w := by
  refine ⟨?_, fun _ _ => pin_lt hp, ?_, ?_, Fr.refl _ _⟩
  · intro h u hu
    cases h with
    | zero => simp at hu; subst hu; exact ⟨⟨rfl, hp⟩, rfl⟩
    | succ h => simp at hu
  · intro h h' o o' hh hh' _
    have := there_lt (there_of_obj hh)
    have := there_lt (there_of_obj hh')
    simp at *
    omega
  · intro h u hu ho
    cases h with
    | zero => simp at hu; subst hu; simp [SO.owned] at ho
    | succ h => simp at hu

/-- Something that is not owned, and the cell. -/
theorem hsat_two {w : World} {v : Value} {o : SO} {p : Nat × Nat} (hp : w.cell? ⟨0, 0, none⟩ = some v) (ho : o.owned = false) (hk : o.okh (fun _ => false) = true)
    (hs : HSat w (Own (fun _ => p) [.obj o]) (fun _ => p) [.obj o] w) (hne : p.1 ≠ 0) :
    HSat w (Own (fun h => if h = 0 then p else (0, 0)) [.obj o, pinE v]) (fun h => if h = 0 then p else (0, 0)) [.obj o, pinE v] w := by
  have h0 := (hs.objs 0 o rfl).1
  have h0s : p.1 < w.heap.size := hs.size 0 rfl
  refine ⟨?_, fun h _ => ?_, ?_, ?_, Fr.refl _ _⟩
  · intro h u hu
    rcases h with _ | _ | h
    · simp at hu; subst hu
      refine ⟨?_, SO.okh_mono (A := fun _ => false) (fun x hx => by simp at hx) o hk⟩
      exact SO.holds_congr (A := fun _ => false) (fun x hx => by simp at hx) o hk h0
    · simp at hu; subst hu; exact ⟨⟨rfl, hp⟩, rfl⟩
    · simp at hu
  · show (if h = 0 then p else (0, 0)).1 < _; split
    · exact h0s
    · exact pin_lt hp
  · intro h h' o o' hh hh' e
    rcases h with _ | _ | h <;> rcases h' with _ | _ | h' <;> simp at * <;> omega
  · intro h u hu hoo
    rcases h with _ | _ | h
    · simp at hu; subst hu; rw [ho] at hoo; simp at hoo
    · simp at hu; subst hu; simp [SO.owned] at hoo
    · simp at hu

theorem okhs_none (A : Nat → Bool) (l : List SV) (hl : SV.okhs (fun _ => false) l = true) : SV.okhs A l = true := by
  rw [okhs_iff] at hl ⊢
  exact fun v hv => okh_mono (A := fun _ => false) (fun x hx => by simp at hx) v (hl v hv)

theorem calls_flatP {P : Program} {f : Nat} {args : List SV} {L : List HE} {w : World} {v : Value} (hp : w.cell? ⟨0, 0, none⟩ = some v) (hg : Gives P f args [pinE v] (Is .tt L)) (hok : SV.okhs (fun _ => false) args = true) :
    Calls P f (SV.trs (fun _ => (0, 0)) args).toArray w fun e w' => e = .returned (.bool true) ∧ Below w.heap.size w w' :=
  calls_true (fun _ => (0, 0)) hg (hsat_pin hp) (okhs_none _ _ hok) (own_none fun i o h => by
    rcases i with _ | i
    · simp at h; subst h; rfl
    · simp at h) rfl

/-- No number, and no bool, lies in the variable's block. -/
theorem pin_ne {w : World} {v : Value} {ty : TypeId} {fr : Nat × Nat} (h0 : w.heap[0]? = some (.cells #[v] ty fr)) (hv : ∃ t u, v = .iface t u) {b o : Nat} {u : Value}
    (hu : w.cell? ⟨b, o, none⟩ = some u) (hni : ∀ t x, u ≠ .iface t x) : b ≠ 0 := by
  rintro rfl
  obtain ⟨t, x, rfl⟩ := hv
  simp only [World.cell?, h0] at hu
  rcases o with _ | o
  · simp at hu; exact hni t x hu.symm
  · simp at hu
theorem pin_cell {w : World} {v : Value} {ty : TypeId} {fr : Nat × Nat} (h0 : w.heap[0]? = some (.cells #[v] ty fr)) : w.cell? ⟨0, 0, none⟩ = some v := by
  simp [World.cell?, h0]
theorem okK_first : ∀ {ks : List (Option IntKind)} {l : List SV}, okK ks l → 0 < ks.length → ∃ u, l[0]? = some u ∧ ∀ ρ t x, u.tr ρ ≠ .iface t x
  | [], _, _, h => by simp at h
  | some k :: ks, l, h, _ => by
    rcases l with _ | ⟨a, l⟩
    · simp [okK] at h
    · simp only [okK] at h
      obtain ⟨⟨n, rfl, _⟩, _⟩ := h
      exact ⟨_, rfl, fun ρ t x => by simp [SV.tr]⟩
  | none :: ks, l, h, _ => by
    rcases l with _ | ⟨a, l⟩
    · simp [okK] at h
    · simp only [okK] at h
      obtain ⟨⟨n, rfl⟩, _⟩ := h
      exact ⟨_, rfl, fun ρ t x => by simp [SV.tr]⟩

theorem own_two {ρ : Nat → Nat × Nat} {o : SO} {v : Value} (h : o.owned = false) : ∀ b, ¬ Own ρ [HE.obj o, pinE v] b :=
  own_none fun i u hu => by
    rcases i with _ | _ | i
    · simp at hu; subst hu; exact h
    · simp at hu; subst hu; rfl
    · simp at hu

/-- One slice of rows. -/
theorem calls_rowsP {P : Program} {f : Nat} {pre post : List SV} {ks : List (Option IntKind)} {w : World} {a : Option Addr} {len cap : Nat} {v : Value} {ty : TypeId} {fr : Nat × Nat}
    (hp : w.heap[0]? = some (.cells #[v] ty fr)) (hv : ∃ t u, v = .iface t u) (hks : 0 < ks.length) (h : ArgRows w ks a len cap)
    (g0 : ∃ L, Gives P f (pre ++ .raw (.slice a 0 0) :: post) [pinE v] (Is .tt L)) (hpre : SV.okhs (fun _ => false) pre = true) (hpost : SV.okhs (fun _ => false) post = true)
    (g1 : ∀ (o : Nat → List SV), (∀ i, okK ks (o i)) → len ≤ maxLen → ∃ L, Gives P f (pre ++ .slice 0 0 len cap :: post) [.obj (.rows len ks.length o), pinE v] (Is .tt L)) :
    Calls P f (SV.trs (fun _ => (0, 0)) pre ++ Value.slice a len cap :: SV.trs (fun _ => (0, 0)) post).toArray w fun e w' => e = .returned (.bool true) ∧ Below w.heap.size w w' := by
  have hc0 := pin_cell hp
  rcases h with ⟨rfl, rfl⟩ | ⟨b, o, g, rfl, hl, h0, hm, hb, hk, hc⟩
  · obtain ⟨L, g0⟩ := g0
    refine calls_true (fun _ => (0, 0)) g0 (hsat_pin hc0) ?_ (own_one rfl) ?_
    · rw [okhs_append, okhs_none _ _ hpre]; simp [SV.okhs, SV.okh, okhs_none _ _ hpost]
    · rw [trs_append]; rfl
  · obtain ⟨L, hg⟩ := g1 g hk (by omega)
    have hne : b ≠ 0 := by
      obtain ⟨u, hu, hni⟩ := okK_first (hk 0) hks
      exact pin_ne hp hv (hc 0 (by omega) (fun _ => (0, 0)) 0 u hu) (hni _)
    refine calls_true (fun h => if h = 0 then (b, o) else (0, 0)) hg (hsat_two hc0 rfl rfl (hsat_rows hb hk fun i hi => hc i (by omega)) hne) ?_ (own_two rfl) ?_
    · rw [okhs_append, okhs_none _ _ hpre]; simp [SV.okhs, SV.okh, okhs_none _ _ hpost, there, HE.there]
    · rw [trs_append, trs_congr (A := fun _ => false) (fun x hx => by simp at hx) pre hpre]
      simp only [SV.trs, SV.tr]
      rw [trs_congr (A := fun _ => false) (fun x hx => by simp at hx) post hpost (ρ := fun h => if h = 0 then (b, o) else (0, 0)) (ρ' := fun _ => (0, 0))]
      rfl

section
variable {P : Program} {H : Type} {enc : TypeId × Value → H} {w : World} {t : TypeId} {d : DataW H} {ps : List MemPlace}
/-- A slice's first place. -/
theorem arg_ints_first {e : TypeId} {k : IntKind} {a : Option Addr} {len cap : Nat} (ht : P.underlying t = some (.slice e)) (he : P.underlying e = some (.int k)) (hc : P.cellsOf e = 1)
    (h : DataW.Trod enc P w 0 (fun _ => true) true t (.slice a len cap) d ps) (h0 : 0 < cap) : ∃ b o n, a = some ⟨b, o, none⟩ ∧ w.cell? ⟨b, o, none⟩ = some (.int k n) := by
  obtain ⟨fuel, hf⟩ := h
  rcases open_ints ht he hc hf with ⟨h1, _⟩ | ⟨x, l, c, zs, h1, _, hl, hm, hz, _, hcell, hwz⟩
  · simp [Value.cells] at h1
    omega
  · simp [Value.cells] at h1
    obtain ⟨rfl, rfl, rfl⟩ := h1
    simp only [if_true] at hz
    have hsp : x.spot = none := by
      have := spot_none (hcell 0 (by omega))
      simpa [Addr.add] using this
    have := hcell 0 (by omega)
    rw [add_nil hsp] at this
    refine ⟨x.block, x.off, _, ?_, this⟩
    obtain ⟨b, o, s⟩ := x
    simp only at hsp; subst hsp; rfl
end

/-- One slice of integers. -/
theorem calls_intsP {P : Program} {f : Nat} {pre post : List SV} {k : IntKind} {w : World} {a : Option Addr} {len cap : Nat} {v : Value} {ty : TypeId} {fr : Nat × Nat}
    (hp : w.heap[0]? = some (.cells #[v] ty fr)) (hv : ∃ t u, v = .iface t u) (hf : 0 < cap → ∃ b o n, a = some ⟨b, o, none⟩ ∧ w.cell? ⟨b, o, none⟩ = some (.int k n)) (h : ArgInts w k a len cap)
    (g0 : ∃ L, Gives P f (pre ++ .raw (.slice a 0 0) :: post) [pinE v] (Is .tt L)) (hpre : SV.okhs (fun _ => false) pre = true) (hpost : SV.okhs (fun _ => false) post = true)
    (g1 : ∀ (z : List Int), z.length = len → (∀ n ∈ z, (Lit.int k n).wf = true) → len ≤ maxLen → ∃ L, Gives P f (pre ++ .slice 0 0 len cap :: post) [.obj (.winI k z), pinE v] (Is .tt L)) :
    Calls P f (SV.trs (fun _ => (0, 0)) pre ++ Value.slice a len cap :: SV.trs (fun _ => (0, 0)) post).toArray w fun e w' => e = .returned (.bool true) ∧ Below w.heap.size w w' := by
  have hc0 := pin_cell hp
  rcases h with ⟨rfl, rfl⟩ | ⟨b, o, z, rfl, hl, h0, hm, hb, hz, hwz, hc⟩
  · obtain ⟨L, g0⟩ := g0
    refine calls_true (fun _ => (0, 0)) g0 (hsat_pin hc0) ?_ (own_one rfl) ?_
    · rw [okhs_append, okhs_none _ _ hpre]; simp [SV.okhs, SV.okh, okhs_none _ _ hpost]
    · rw [trs_append]; rfl
  · obtain ⟨L, hg⟩ := g1 z hz hwz (by omega)
    have hne : b ≠ 0 := by
      obtain ⟨b', o', n, e, hu⟩ := hf h0
      simp at e
      obtain ⟨rfl, rfl⟩ := e
      exact pin_ne hp hv hu (fun t x => by simp)
    refine calls_true (fun h => if h = 0 then (b, o) else (0, 0)) hg (hsat_two hc0 rfl rfl (hsat_winI hb hc) hne) ?_ (own_two rfl) ?_
    · rw [okhs_append, okhs_none _ _ hpre]; simp [SV.okhs, SV.okh, okhs_none _ _ hpost, there, HE.there]
    · rw [trs_append, trs_congr (A := fun _ => false) (fun x hx => by simp at hx) pre hpre]
      simp only [SV.trs, SV.tr]
      rw [trs_congr (A := fun _ => false) (fun x hx => by simp at hx) post hpost (ρ := fun h => if h = 0 then (b, o) else (0, 0)) (ρ' := fun _ => (0, 0))]
      rfl
end Go.Hx

/-
  What a call of Go's library leaves that sets one cell: in handles.
-/
namespace Go.Hx
open Go Go.RowKit

theorem there_cons {e e' : HE} {R : List HE} (h : e.there = e'.there) : there (e :: R) = there (e' :: R) := by
  funext x
  rcases x with _ | x <;> simp [there, h]
/-- A call that sets the first thing's one cell, and makes new blocks. -/
theorem fnPost_setL {w w1 : World} {ρ : Nat → Nat × Nat} {c n : Int} {E : TypeId} {R : List HE} (hS : HSat w (Own ρ (.obj (.cells [.int .i64 c] E) :: R)) ρ (.obj (.cells [.int .i64 c] E) :: R) w)
    (hb : Below w.heap.size w w1) : FnPost w ρ (.obj (.cells [.int .i64 c] E) :: R) (Is .tt (.obj (.cells [.int .i64 n] E) :: R)) (.returned (.bool true)) (w1.setCell ⟨(ρ 0).1, 0, none⟩ (.int .i64 n)) := by
  obtain ⟨⟨h01, h02⟩, _⟩ := hS.objs 0 _ rfl
  have hlt := hS.size 0 rfl
  have hcell : w1.heap[(ρ 0).1]? = some (.cells #[.int .i64 c] E (0, 0)) := by rw [hb.block _ hlt, h02]; rfl
  have hset := one_setCell (u := .int .i64 n) hcell
  have hoth : ∀ k, k < w.heap.size → k ≠ (ρ 0).1 → (w1.setCell ⟨(ρ 0).1, 0, none⟩ (.int .i64 n)).heap[k]? = w.heap[k]? := fun k hk hn => by
    rw [Below.heap_setCell _ _ _ _ hn, hb.block k hk]
  have hsz : (w1.setCell ⟨(ρ 0).1, 0, none⟩ (.int .i64 n)).heap.size = w1.heap.size := by simp [World.setCell]
  have hth : there (HE.obj (.cells [.int .i64 n] E) :: R) = there (.obj (.cells [.int .i64 c] E) :: R) := there_cons rfl
  refine ⟨ρ, _, .tt, ⟨rfl, rfl⟩, rfl, rfl, ⟨?_, ?_, ?_, ?_, ?_⟩, fun h hh => ⟨rfl, ?_⟩⟩
  · intro h o ho
    rw [hth]
    rcases h with _ | h
    · simp at ho; subst ho
      exact ⟨⟨h01, hset⟩, rfl⟩
    · have ho' : (HE.obj (.cells [.int .i64 c] E) :: R)[h + 1]? = some (.obj o) := by simpa using ho
      obtain ⟨q1, q2⟩ := hS.objs (h + 1) o ho'
      have hne : (ρ (h + 1)).1 ≠ (ρ 0).1 := fun e => by have := hS.inj (h + 1) 0 _ _ ho' rfl e; omega
      exact ⟨SO.holds_world (hoth _ (hS.size _ (there_of_obj ho')) hne) o q1, q2⟩
  · intro h hh
    rw [hth] at hh
    have := hS.size h hh
    rw [hsz]
    exact Nat.lt_of_lt_of_le this hb.size
  · intro h h' o o' hh hh' e
    rcases h with _ | h <;> rcases h' with _ | h'
    · rfl
    · exact hS.inj 0 (h' + 1) _ _ rfl (by simpa using hh') e
    · exact hS.inj (h + 1) 0 _ _ (by simpa using hh) rfl e
    · exact hS.inj (h + 1) (h' + 1) _ _ (by simpa using hh) (by simpa using hh') e
  · intro h o ho hoo
    rcases h with _ | h
    · exact hS.own 0 _ rfl rfl
    · exact hS.own (h + 1) o (by simpa using ho) hoo
  · refine ⟨by rw [hsz]; exact hb.size, fun b hbl hn => ?_, hb.os, hb.tape, hb.output⟩
    refine hoth b hbl fun e => hn ?_
    exact ⟨0, _, rfl, rfl, e.symm⟩
  · rw [hth]; exact hh

/-- A call that leaves all as it was. -/
theorem fnPost_same {w : World} {ρ : Nat → Nat × Nat} {H : List HE} {V : SV} (hS : HSat w (Own ρ H) ρ H w) (hV : V.okh (there H) = true) : FnPost w ρ H (Is V H) (.returned (V.tr ρ)) w :=
  ⟨ρ, H, V, ⟨rfl, rfl⟩, rfl, hV, hS, fun _ hh => ⟨rfl, hh⟩⟩
end Go.Hx

/-
  Things that are there or not, under two names; what is forgotten.
-/
namespace Go.Hx
open Go

section
variable {σ σ' : Nat → Nat} {h h' : Nat} {H : List HE} {i : Nat}
theorem ren_slVe {o : Option (List Int)} : (slV o h).ren σ = slV o (σ h) := by cases o <;> rfl
theorem ren_ptrVe {α : Type} {o : Option α} : (ptrV o h).ren σ = ptrV o (σ h) := by cases o <;> rfl
theorem ren_obj (o : SO) : (HE.obj o).ren σ = .obj (o.ren σ) := rfl
theorem sim_slVr {o : Option (List Int)} (hs : σ h = h') : sim (slV o h') ((slV o h).ren σ) := by rw [ren_slVe, hs]; exact sim_refl _
theorem sim_ptrVr {α : Type} {o : Option α} (hs : σ h = h') : sim (ptrV o h') ((ptrV o h).ren σ) := by rw [ren_ptrVe, hs]; exact sim_refl _
theorem sim_slV3 {o : Option (List Int)} (hs : σ' h' = σ h) : sim ((slV o h').ren σ') ((slV o h).ren σ) := by rw [ren_slVe, ren_slVe, hs]; exact sim_refl _
theorem sim_ptrV3 {α : Type} {o : Option α} (hs : σ' h' = σ h) : sim ((ptrV o h').ren σ') ((ptrV o h).ren σ) := by rw [ren_ptrVe, ren_ptrVe, hs]; exact sim_refl _
theorem subE_r {e : HE} (hg : H[σ i]? = some (e.ren σ')) (h1 : e.ren σ' = e) (h2 : e.ren σ = e) : subE σ H i e := subE_same (by rw [hg, h1]) h2
theorem dim_of {e : HE} : e.dim.there = true → e.there = true := by rw [dim_there]; exact id
theorem okNew_slE {o : Option (List Int)} {k : IntKind} {ty : TypeId} : okNew (slE o k ty) := by cases o <;> first | trivial | rfl
theorem okNew_objM {α : Type} {o : Option α} {f : α → SO} (hf : ∀ x, (f x).owned = true) : okNew (objE (o.map f)) := by
  cases o with
  | none => trivial
  | some x => exact hf x
end
end Go.Hx

/-
  Contracts over three objects, in a larger heap; a step of a run over an arena, as a row of the table.
-/
namespace Go.Hx
open Go
section
variable {P : Program} {f : Nat} {ags cargs : List SV} {V : SV} {H : List HE} {o0 o1 o2 p0 p1 p2 : SO} {h0 h1 h2 : Nat} {N : List HE}
theorem frame3 (hT : ∃ TE : Nat → TI, ∀ t, TIok P t (TE t)) (hF : Gives P f cargs [.obj o0, .obj o1, .obj o2] (Is V (.obj p0 :: .obj p1 :: .obj p2 :: N))) (hargs : ags = SV.rens (nm [h0, h1, h2] H) cargs)
    (hcok : SV.okhs (there [.obj o0, .obj o1, .obj o2]) cargs = true) (hokc : okHs (there [.obj o0, .obj o1, .obj o2]) [.obj o0, .obj o1, .obj o2] = true) (hnd : nodupN [h0, h1, h2] = true)
    (g0 : getH H h0 = some (o0.ren (nm [h0, h1, h2] H))) (g1 : getH H h1 = some (o1.ren (nm [h0, h1, h2] H))) (g2 : getH H h2 = some (o2.ren (nm [h0, h1, h2] H))) (hn : newOk N = true) :
    Gives P f ags H (Is (V.ren (nm [h0, h1, h2] H)) (((H.set h0 (.obj (p0.ren (nm [h0, h1, h2] H)))).set h1 (.obj (p1.ren (nm [h0, h1, h2] H)))).set h2 (.obj (p2.ren (nm [h0, h1, h2] H))) ++ N.map (HE.ren (nm [h0, h1, h2] H)))) := by
  have := gives_frame (H := H) hT hF [h0, h1, h2] hargs hcok rfl rfl hokc hnd ⟨g0, g1, g2, trivial⟩ hn
  simpa [merge, setAll, HE.ren] using this
theorem frame3n (hT : ∃ TE : Nat → TI, ∀ t, TIok P t (TE t)) (hF : Gives P f cargs [.obj o0, .obj o1, .obj o2] (Is V [.obj p0, .obj p1, .obj p2])) (hargs : ags = SV.rens (nm [h0, h1, h2] H) cargs)
    (hcok : SV.okhs (there [.obj o0, .obj o1, .obj o2]) cargs = true) (hokc : okHs (there [.obj o0, .obj o1, .obj o2]) [.obj o0, .obj o1, .obj o2] = true) (hnd : nodupN [h0, h1, h2] = true)
    (g0 : getH H h0 = some (o0.ren (nm [h0, h1, h2] H))) (g1 : getH H h1 = some (o1.ren (nm [h0, h1, h2] H))) (g2 : getH H h2 = some (o2.ren (nm [h0, h1, h2] H)))
    {V' : SV} {q0 q1 q2 : SO} (hV : V.ren (nm [h0, h1, h2] H) = V') (hq0 : p0.ren (nm [h0, h1, h2] H) = q0) (hq1 : p1.ren (nm [h0, h1, h2] H) = q1) (hq2 : p2.ren (nm [h0, h1, h2] H) = q2) :
    Gives P f ags H (Is V' (((H.set h0 (.obj q0)).set h1 (.obj q1)).set h2 (.obj q2))) := by
  have := frame3 (N := []) hT hF hargs hcok hokc hnd g0 g1 g2 rfl
  rw [hV, hq0, hq1, hq2] at this
  simpa using this
end
theorem nm_at0 {h0 h1 h2 : Nat} {H : List HE} : nm [h0, h1, h2] H 0 = h0 := rfl
theorem nm_at1 {h0 h1 h2 : Nat} {H : List HE} : nm [h0, h1, h2] H 1 = h1 := rfl
theorem nm_at2 {h0 h1 h2 : Nat} {H : List HE} : nm [h0, h1, h2] H 2 = h2 := rfl
end Go.Hx

/-
  Code taken apart at a region; a piece of it, gone through in a small heap.
-/
namespace Go.Hx
open Go

/-- What follows one on another, written out. -/
def flatC : Code → List KI
  | .seq a b => flatC a ++ flatC b
  | c => [.code c]
def flatS : List KI → List KI
  | [] => []
  | .code c :: k => flatC c ++ flatS k
  | x :: k => x :: flatS k
/-- Up to a region, and from it on. -/
def isReg (id : Nat) : KI → Bool
  | .code (.region j _ _) => Nat.beq j id
  | _ => false
def preK (id : Nat) : List KI → List KI
  | [] => []
  | x :: k => match isReg id x with
    | true => []
    | false => x :: preK id k
def postK (id : Nat) : List KI → List KI
  | [] => []
  | x :: k => match isReg id x with
    | true => x :: k
    | false => postK id k
theorem pre_post (id : Nat) : ∀ k : List KI, preK id k ++ postK id k = k
  | [] => rfl
  | x :: k => by
    simp only [preK, postK]
    split
    · rfl
    · simp [pre_post id k]
section
variable {P : Program} {Q : Exit → Act → World → Prop}
theorem flat_pass : ∀ (c : Code) (k : List KI) {e : Exit} {a : Act} {w : World}, e ≠ .normal → (WK P Q (flatC c ++ k) e a w ↔ WK P Q k e a w) := by
  intro c
  induction c with
  | seq x y ihx ihy =>
    intro k e a w he
    simp only [flatC, List.append_assoc]
    rw [ihx _ he, ihy _ he]
  | _ =>
    intro k e a w he
    cases e with
    | normal => exact absurd rfl he
    | _ => exact Iff.rfl
theorem flat_mono : ∀ (c : Code) {k1 k2 : List KI}, (∀ e a w, WK P Q k1 e a w → WK P Q k2 e a w) → ∀ e a w, WK P Q (flatC c ++ k1) e a w → WK P Q (flatC c ++ k2) e a w := by
  intro c
  induction c with
  | seq x y ihx ihy =>
    intro k1 k2 h e a w hh
    simp only [flatC, List.append_assoc] at hh ⊢
    exact ihx (ihy h) e a w hh
  | _ =>
    intro k1 k2 h e a w hh
    cases e with
    | normal => exact wp_mono hh fun e a w q => h e a w q
    | _ => exact h _ a w hh
theorem flatC_wk : ∀ (c : Code) {k : List KI} {a : Act} {w : World}, WK P Q (flatC c ++ k) .normal a w → WK P Q (.code c :: k) .normal a w := by
  intro c
  induction c with
  | seq x y ihx ihy =>
    intro k a w h
    refine WK_seq (ihx ?_)
    simp only [flatC, List.append_assoc] at h
    refine flat_mono x (fun e a w q => ?_) _ _ _ h
    cases e with
    | normal => exact ihy q
    | _ => exact (flat_pass y k (by simp)).1 q
  | _ => intro k a w h; exact h
theorem unr_mono2 {Q1 Q2 : Exit → Act → World → Prop} {c : Code} (hq : ∀ e a w, Q1 e a w → Q2 e a w) : ∀ (n : Nat) (a : Act) (w : World), unr P Q1 c n a w → unr P Q2 c n a w
  | 0, _, _, h => h
  | n + 1, a, w, h => wp_mono h fun e a w q => by
    cases e with
    | normal => exact unr_mono2 hq n a w q
    | _ => exact hq _ a w q
theorem flatS_wk : ∀ (k : List KI) (e : Exit) (a : Act) (w : World), WK P Q (flatS k) e a w → WK P Q k e a w := by
  intro k
  induction k with
  | nil => intro e a w h; exact h
  | cons x k ih =>
    intro e a w h
    cases x with
    | code c =>
      cases e with
      | normal => exact flatC_wk c (flat_mono c (fun e a w q => ih e a w q) _ _ _ h)
      | _ => exact ih _ a w ((flat_pass c (flatS k) (by simp)).1 h)
    | blk id =>
      cases e with
      | exit i =>
        simp only [flatS, WK] at h ⊢
        split at h
        · rename_i hi; rw [if_pos hi]; exact ih _ a w h
        · rename_i hi; rw [if_neg hi]; exact ih _ a w h
      | _ => exact ih _ a w h
    | ops all l =>
      cases e with
      | normal => exact wpList_mono2 (fun e a w hh => ih e a w hh) l a w h
      | _ => exact ih _ a w h
    | lp I =>
      cases e with
      | normal => exact h
      | _ => exact ih _ a w h
    | again c n =>
      cases e with
      | normal => exact unr_mono2 (fun e a w hh => ih e a w hh) n a w h
      | _ => exact ih _ a w h
end
theorem wk_frame2 {P : Program} {Qs Q : Exit → Act → World → Prop} {J : Act → World → Prop} {K2 : List KI} (hQ : ∀ e a w, Qs e a w → False) (hJ : ∀ a w, J a w → WK P Q K2 .normal a w) :
    ∀ {K1 : List KI}, onlyCode K1 = true → ∀ e a w, WK P Qs (K1 ++ [.lp J]) e a w → WK P Q (K1 ++ K2) e a w
  | [], _, e, a, w, h => by
    cases e with
    | normal => exact hJ a w h
    | _ => exact (hQ _ _ _ h).elim
  | .code c :: K1, hk, e, a, w, h => by
    cases e with
    | normal => exact wp_mono h fun e a w hh => wk_frame2 hQ hJ (K1 := K1) hk e a w hh
    | _ => exact wk_frame2 hQ hJ (K1 := K1) hk _ a w h
  | .blk id :: K1, hk, e, a, w, h => by
    cases e with
    | exit i =>
      simp only [List.cons_append, WK] at h ⊢
      split at h
      · rename_i hi; rw [if_pos hi]; exact wk_frame2 hQ hJ (K1 := K1) hk _ a w h
      · rename_i hi; rw [if_neg hi]; exact wk_frame2 hQ hJ (K1 := K1) hk _ a w h
    | _ => exact wk_frame2 hQ hJ (K1 := K1) hk _ a w h
  | .ops all l :: K1, hk, e, a, w, h => by
    cases e with
    | normal => exact wpList_mono2 (fun e a w hh => wk_frame2 hQ hJ (K1 := K1) hk e a w hh) l a w h
    | _ => exact wk_frame2 hQ hJ (K1 := K1) hk _ a w h
  | .lp _ :: _, hk, _, _, _, _ => by simp [onlyCode] at hk
  | .again _ _ :: _, hk, _, _, _, _ => by simp [onlyCode] at hk
section
variable {P : Program} {X : Tabs} (hX : TOk P X)
variable {R : SV → List HE → Prop} {fn : Func} {nt : Nat} {H0 : List HE} {k : List KI} {T : List (Nat × SV)} {H : List HE} {cs : List Ch} {I : Act → World → Prop}
/-- The code that is left, written out. -/
theorem ss_flat {ρ0 : Nat → Nat × Nat} {w0 : World} {k' : List KI} (hk : k' = flatS k) (h : SS hX (At ρ0 w0) R ⟨[], [], fn, nt, H0, k', T, H⟩) : SS hX (At ρ0 w0) R ⟨cs, [], fn, nt, H0, k, T, H⟩ := by
  subst hk
  exact ss_sw hX fun ρ a w hs => flatS_wk _ _ _ _ (sw_ss hX h ρ a w hs)
/-- .. apart at a region. -/
theorem ss_split {ρ0 : Nat → Nat × Nat} {w0 : World} (id : Nat) (h : SS hX (At ρ0 w0) R ⟨[], [], fn, nt, H0, preK id (flatS k) ++ postK id (flatS k), T, H⟩) : SS hX (At ρ0 w0) R ⟨cs, [], fn, nt, H0, k, T, H⟩ :=
  ss_flat hX (pre_post id (flatS k)) h
/-- A piece of code, gone through in a small heap. -/
theorem ss_frame2 {ρ0 : Nat → Nat × Nat} {w0 : World} {K1 K2 : List KI} {α : Type} (σs : List Nat) (fs : List Fl) (Ts : List (Nat × SV)) (Hs : List HE)
    (Tj : α → List (Nat × SV)) (Hj : α → List HE) (Q : α → Prop)
    (hK : onlyCode K1 = true) (hlen : Nat.beq σs.length Hs.length = true) (hnd : nodupN σs = true) (hlt : allLt H σs)
    (hT : subT (sig σs H.length) T Ts) (hH : subH (sig σs H.length) H 0 Hs) (hok1 : okTP (thereF Hs) Ts) (hok2 : okHP (thereF Hs) Hs)
    (hfl : ∀ x, Q x → flOk fs Hs (Hj x))
    (body : ∀ ρ1 w1 J, (∀ x, Q x → ∀ cs T H, (Sub (FEnv P X.TE hX.te fn nt Hs Not2 ρ1 w1) T H (Tj x) (Hj x)) → SS hX (At ρ1 w1) Not2 ⟨cs, [], fn, nt, Hs, [.lp J], T, H⟩) →
      SS hX (At ρ1 w1) Not2 ⟨[], [], fn, nt, Hs, K1 ++ [.lp J], Ts, Hs⟩)
    (rest : ∀ x, Q x → SS hX (At ρ0 w0) R ⟨[], [], fn, nt, H0, K2, renT (sig σs H.length) (Tj x), mergeB (sig σs H.length) σs fs H (Hj x)⟩) :
    SS hX (At ρ0 w0) R ⟨cs, [], fn, nt, H0, K1 ++ K2, T, H⟩ := by
  refine ss_sw hX fun ρ a w hs => ?_
  have hlen' : σs.length = Hs.length := Nat.eq_of_beq_eq_true hlen
  let ρs : Nat → Nat × Nat := fun x => ρ (sig σs H.length x)
  let J : Act → World → Prop := fun a w' => ∃ x, Q x ∧ ∃ ρ', Sat (FEnv P X.TE hX.te fn nt Hs Not2 ρs w) ρ' (Tj x) (Hj x) a w'
  have hb := body ρs w J fun x hx cs T H hsub => ss_sw hX fun ρ1 a1 w1 hs1 => by
    obtain ⟨ρ', hs'⟩ := hsub ρ1 a1 w1 hs1
    exact ⟨x, hx, ρ', hs'⟩
  have hfun : thereF Hs = there Hs := funext (thereF_eq Hs)
  have hok1' := okTP_ok hok1
  have hok2' := okHP_ok hok2
  rw [hfun] at hok1' hok2'
  have hth : ∀ h, there Hs h = true → there H (sig σs H.length h) = true := fun h hh => by
    have := (subH_get hH (h := h)).2 hh
    simpa using this
  have hobj : ∀ {h : Nat} {o : SO}, Hs[h]? = some (.obj o) → ∃ u, H[sig σs H.length h]? = some (.obj u) ∧ simO u (o.ren (sig σs H.length)) := by
    intro h o ho
    have := (subH_get hH (h := h)).1 ho
    simpa using this
  have hsmall : Sat (FEnv P X.TE hX.te fn nt Hs Not2 ρs w) ρs Ts Hs a w := by
    refine ⟨⟨?_, ?_, ?_, ?_, Fr.refl _ _⟩, ⟨?_, hs.ts.num, hs.ts.def0⟩, fun h hh => ⟨rfl, hh⟩⟩
    · intro h o ho
      obtain ⟨u, hu, hsim⟩ := hobj ho
      have := (hs.hs.objs _ _ hu).1
      exact ⟨(SO.holds_ren o).1 ((simO_holds hsim).1 this), okHs_get hok2' ho⟩
    · intro h hh; exact hs.hs.size _ (hth h hh)
    · intro h h' o o' hh hh' e
      obtain ⟨u1, hu1, _⟩ := hobj hh
      obtain ⟨u2, hu2, _⟩ := hobj hh'
      have := hs.hs.inj _ _ _ _ hu1 hu2 e
      have l1 : h < σs.length := by rw [hlen']; exact there_lt (there_of_obj hh)
      have l2 : h' < σs.length := by rw [hlen']; exact there_lt (there_of_obj hh')
      have g1 := sig_lt (b := H.length) l1
      have g2 := sig_lt (b := H.length) l2
      rw [this] at g1
      exact nodupN_get hnd g1 g2
    · intro h o ho hoo
      exact .inl ⟨h, o, ho, hoo, rfl⟩
    · intro t v hv
      obtain ⟨u, hu, hsim⟩ := subT_get hT hv
      obtain ⟨h1, h2⟩ := hs.ts.val t u hu
      exact ⟨by rw [h1, (sim_tr (A := fun _ => true) hsim).1, tr_ren], okT_get hok1' hv⟩
  have hw := sw_ss hX hb ρs a w hsmall
  refine wk_frame2 (not2_Q hX) (fun a' w' hJ => ?_) hK _ _ _ hw
  obtain ⟨x, hx, ρc, hsc⟩ := hJ
  obtain ⟨ρ', m1, m2, m3, m4⟩ := frame_sat hs hlen' hnd (fun h hh => allLt_get hlt (sig_lt hh)) (fun h o ho => by
      obtain ⟨u, hu, hsim⟩ := hobj ho
      refine ⟨u, hu, ?_⟩
      rw [(simO_holds (ρ := ρ) (w := w) (p := (0, 0)) hsim).2, SO.owned_ren]) hth hsc.hs (fun h hh => hsc.base h hh) (hfl x hx)
  refine sw_ss hX (rest x hx) ρ' a' w' ⟨m1, ⟨?_, hsc.ts.num, hsc.ts.def0⟩, ?_⟩
  · intro t v hv
    obtain ⟨u, hu, rfl⟩ := renT_look _ hv
    obtain ⟨h1, h2⟩ := hsc.ts.val t u hu
    refine ⟨?_, ?_⟩
    · rw [h1, tr_ren, tr_congr (fun h hh => (m4 h hh).1.symm) u h2]
    · rw [okh_ren]; exact okh_mono (fun h hh => (m4 h hh).2) u h2
  · intro h hh
    obtain ⟨q1, q2⟩ := hs.base h hh
    exact ⟨by rw [← m2 h q2]; exact q1, m3 h q2⟩
end
end Go.Hx

/-
  Regions that draw, where one cell is made that no call waits for and that waits for no call.
-/
namespace Go.Hx
open Go

/-- What may have been done where the cell is not made yet. -/
def StOk (al : List Oper) (ia : Nat) (effs : List Nat) (c : Nat) (b : Bool) : Prop := b = false → ∀ q e, q < c → effs[q]? = some e → reachB al ia e = false

section
variable {E : Env} {al : List Oper} {Tn : List (Nat × SV)} {D : Nat → Bool} {ρ : Nat → Nat × Nat} {H : List HE} {a : Act} {w : World}

theorem draw_any2 {k : List KI} {T : List (Nat × SV)} {hp : Nat → Bool → List HE} {effs : List Nat} {ia : Nat} {oa : Oper}
    (hreg : regOk al = true) (heffs : effsOk al effs = true) (hia : al[ia]? = some oa) (hna : ia ∉ effs) (h0 : hp 0 false = H)
    (hT : ∀ t v, look Tn t = some v → (∀ (i : Nat) (o : Oper), al[i]? = some o → o.dst ≠ some t) → look T t = some v)
    (hq : ∀ (c : Nat) (b : Bool) (j : Nat) (o : Oper), c ≤ effs.length → al[j]? = some o → j ∉ effs → j ≠ ia → meets al j o effs c = true → StOk al ia effs c b → (b = false → reachB al ia j = false) → DStep E al Tn j o (hp c b) (hp c b))
    (he : ∀ (c : Nat) (b : Bool) (j : Nat) (o : Oper), effs[c]? = some j → al[j]? = some o → StOk al ia effs c b → (b = false → reachB al ia j = false) → DStep E al Tn j o (hp c b) (hp (c + 1) b))
    (ha : ∀ (c : Nat), c ≤ effs.length → meets al ia oa effs c = true → StOk al ia effs c false → DStep E al Tn ia oa (hp c false) (hp c true))
    (hk : SW E k Tn (hp effs.length true)) : ∀ ρ a w, Sat E ρ T H a w → wpAny E.P .any al.toArray (WK E.P E.Q k) al.toArray.size (Array.replicate al.toArray.size false) a { w with drawn := w.drawn + 1 } := by
  intro ρ a w hs
  have hreg' := hreg
  simp only [regOk, Bool.and_eq_true, List.all_eq_true] at hreg'
  have hback : ∀ (j : Nat) (o : Oper), al[j]? = some o → ∀ i, bindsOn o i = true → i < j := by
    intro j o ho i hi
    have hlt : j < al.length := by
      rcases Nat.lt_or_ge j al.length with h1 | h1
      · exact h1
      · rw [List.getElem?_eq_none h1] at ho; simp at ho
    have := hreg'.2 j (List.mem_range.2 hlt)
    rw [ho] at this
    simp only [Bool.and_eq_true, List.all_eq_true] at this
    simp only [bindsOn, List.any_eq_true, Bool.and_eq_true] at hi
    obtain ⟨e, he1, he2, he3⟩ := hi
    have h4 := this.1.1 e he1
    rw [he2] at h4
    have := Nat.eq_of_beq_eq_true he3
    simp at h4
    have h5 : e.on < j := blt_lt (by simpa using h4)
    omega
  have hialt : ia < al.length := by
    rcases Nat.lt_or_ge ia al.length with h1 | h1
    · exact h1
    · rw [List.getElem?_eq_none h1] at hia; simp at hia
  -- the walk over all orders
  have key : ∀ (fuel : Nat) (listed : Array Bool) (ρ : Nat → Nat × Nat) (a : Act) (w : World), listed.size = al.length →
      ((List.range al.length).filter fun i => !(listed.getD i true)).length = fuel →
      Down al (fun i => listed.getD i false) → DSat E al Tn (fun i => listed.getD i false) ρ (hp (cnt (fun i => listed.getD i false) effs) (listed.getD ia false)) a w →
      wpAny E.P .any al.toArray (WK E.P E.Q k) fuel listed a w := by
    intro fuel
    induction fuel with
    | zero =>
      intro listed ρ a w hsz hf hdown hD
      have hall : ∀ i, i < al.length → listed.getD i false = true := by
        intro i hi
        have hnil := List.eq_nil_of_length_eq_zero hf
        rw [List.filter_eq_nil_iff] at hnil
        have := hnil i (List.mem_range.2 hi)
        have hi' : i < listed.size := by omega
        simp [Array.getD, hi'] at this ⊢
        exact this
      have hcnt : cnt (fun i => listed.getD i false) effs = effs.length := by
        refine cnt_spec (fun q e hq' he' => ?_) (fun e he' => by simp at he') (Nat.le_refl _)
        have : ∀ {l : List Nat}, effsOk al l = true → ∀ e ∈ l, e < al.length := by
          intro l
          induction l with
          | nil => intro _ e he; simp at he
          | cons x r ih =>
            intro h e he
            simp only [List.mem_cons] at he
            cases r with
            | nil => simp only [effsOk] at h; simp at he; subst he; exact blt_lt h
            | cons y s =>
              simp only [effsOk, Bool.and_eq_true] at h
              rcases he with rfl | he
              · exact blt_lt h.1.1
              · exact ih h.2 e he
        exact hall e (this heffs e (List.mem_of_getElem? he'))
      rw [hcnt, hall ia hialt] at hD
      refine ⟨?_, hk ρ a w ⟨hD.hs, ⟨fun t v hv => hD.val t v hv fun i o hi _ => hall i ?_, hD.num, hD.def0⟩, hD.base⟩⟩
      · unfold Region.ready
        rw [List.filter_eq_nil_iff]
        intro i hi
        simp only [List.size_toArray, List.mem_range] at hi
        have := hall i hi
        have hi' : i < listed.size := by omega
        simp [Array.getD, hi'] at this ⊢
        intro h; rw [this] at h; simp at h
      · rcases Nat.lt_or_ge i al.length with h1 | h1
        · exact h1
        · rw [List.getElem?_eq_none h1] at hi; simp at hi
    | succ fuel ih =>
      intro listed ρ a w hsz hf hdown hD
      refine ⟨fun hr => ?_, fun j hj => ?_⟩
      · -- somebody is ready
        exfalso
        have hex : ∃ i, i < al.length ∧ listed.getD i false = false := by
          have : ((List.range al.length).filter fun i => !(listed.getD i true)) ≠ [] := by intro h; rw [h] at hf; simp at hf
          obtain ⟨i, hi⟩ := List.exists_mem_of_ne_nil _ this
          rw [List.mem_filter, List.mem_range] at hi
          refine ⟨i, hi.1, ?_⟩
          have hi' : i < listed.size := by omega
          have := hi.2
          simp [Array.getD, hi'] at this ⊢
          exact this
        have hmin : ∀ n, ∀ i, i = n → i < al.length → listed.getD i false = false → False := by
          intro n
          induction n using Nat.strongRecOn with
          | _ n ihn =>
            intro i hin hi hli
            have hmem : i ∉ Region.ready .any al.toArray listed := by rw [hr]; simp
            unfold Region.ready at hmem
            rw [List.mem_filter] at hmem
            apply hmem
            simp only [List.size_toArray, List.mem_range]
            refine ⟨hi, ?_⟩
            have hi' : i < listed.size := by omega
            have ho : al[i]? = some al[i] := List.getElem?_eq_getElem hi
            simp only [Bool.and_eq_true, Bool.not_eq_true', List.getElem?_toArray, ho, Option.map_some, Option.getD_some, Array.all_eq_true']
            refine ⟨by simp [Array.getD, hi'] at hli ⊢; exact hli, ?_⟩
            intro e he
            by_cases hb : Region.binds .any e = true
            · simp only [hb, Bool.not_true, Bool.false_or]
              have hbo : bindsOn al[i] e.on = true := by
                simp only [bindsOn, List.any_eq_true, Bool.and_eq_true]
                exact ⟨e, by simpa using he, hb, Nat.beq_refl _⟩
              have hlt := hback i _ ho e.on hbo
              cases hle : listed.getD e.on false with
              | true => rfl
              | false => exact (ihn e.on (by omega) e.on rfl (by omega) hle).elim
            · simp only [Bool.not_eq_true] at hb; simp [hb]
        obtain ⟨i, hi1, hi2⟩ := hex
        exact hmin i i rfl hi1 hi2
      · unfold Region.ready at hj
        rw [List.mem_filter] at hj
        simp only [List.size_toArray, List.mem_range] at hj
        obtain ⟨hjn, hjr⟩ := hj
        have hj' : j < listed.size := by omega
        have ho : al[j]? = some al[j] := List.getElem?_eq_getElem hjn
        simp only [Bool.and_eq_true, Bool.not_eq_true', List.getElem?_toArray, ho, Option.map_some, Option.getD_some, Array.all_eq_true'] at hjr
        have hjl : listed.getD j false = false := by have := hjr.1; simp [Array.getD, hj'] at this ⊢; exact this
        have hdeps : ∀ i, bindsOn al[j] i = true → listed.getD i false = true := by
          intro i hi
          simp only [bindsOn, List.any_eq_true, Bool.and_eq_true] at hi
          obtain ⟨e, he1, he2, he3⟩ := hi
          have := hjr.2 e (by simpa using he1)
          rw [he2] at this
          have h3 := Nat.eq_of_beq_eq_true he3
          subst h3
          simpa using this
        have hD' : (fun i => (listed.setIfInBounds j true).getD i false) = fun i => listed.getD i false || Nat.beq i j := by
          funext i
          by_cases e : j = i
          · subst e; simp [Array.getD, hj', Nat.beq_refl]
          · have hb : Nat.beq i j = false := by
              cases h : Nat.beq i j with
              | false => rfl
              | true => exact absurd (Nat.eq_of_beq_eq_true h).symm e
            rw [hb]
            by_cases hi : i < listed.size
            · simp [Array.getD, hi, e]
            · simp [Array.getD, hi]
        have hcount : ((List.range al.length).filter fun i => !((listed.setIfInBounds j true).getD i true)).length = fuel := by
          have h1 : (List.range al.length).filter (fun i => !(listed.getD i true)) = (List.range al.length).filter (fun i => !(listed.getD i true)) := rfl
          have hperm : ∀ l : List Nat, l.Nodup → (∀ i ∈ l, i < al.length) → j ∈ l → (l.filter fun i => !(listed.getD i true)).length = (l.filter fun i => !((listed.setIfInBounds j true).getD i true)).length + 1 := by
            intro l
            induction l with
            | nil => intro _ _ h; simp at h
            | cons x r ihr =>
              intro hnd hlt hmem
              rw [List.nodup_cons] at hnd
              by_cases e : x = j
              · subst e
                have h2 : (!(listed.getD x true)) = true := by simpa using hjr.1
                have h3 : (!((listed.setIfInBounds x true).getD x true)) = false := by simp [Array.getD, hj']
                rw [List.filter_cons, List.filter_cons, h2, h3]
                simp only [if_true, List.length_cons]
                congr 1
                apply congrArg List.length
                apply List.filter_congr
                intro i hi
                have : x ≠ i := by intro e; subst e; exact hnd.1 hi
                by_cases hil : i < listed.size
                · simp [Array.getD, hil, this]
                · simp [Array.getD, hil]
              · have hm' : j ∈ r := by simp at hmem; rcases hmem with h | h; exact absurd h.symm e; exact h
                have ih2 := ihr hnd.2 (fun i hi => hlt i (by simp [hi])) hm'
                have h4 : (!(listed.getD x true)) = (!((listed.setIfInBounds j true).getD x true)) := by
                  have : j ≠ x := fun h => e h.symm
                  by_cases hil : x < listed.size
                  · simp [Array.getD, hil, this]
                  · simp [Array.getD, hil]
                rw [List.filter_cons, List.filter_cons, ← h4]
                split
                · rw [List.length_cons, List.length_cons, ih2]
                · exact ih2
          have := hperm (List.range al.length) List.nodup_range (fun i hi => List.mem_range.1 hi) (List.mem_range.2 hjn)
          omega
        have hdown' : Down al (fun i => (listed.setIfInBounds j true).getD i false) := by
          rw [hD']
          intro i o hi hDi i' hb
          simp only [Bool.or_eq_true] at hDi ⊢
          rcases hDi with h | h
          · exact .inl (hdown i o hi h i' hb)
          · have := Nat.eq_of_beq_eq_true h; subst this
            rw [ho] at hi; simp at hi; subst hi
            exact .inl (hdeps i' hb)
        have hstep : DStep E al Tn j al[j] (hp (cnt (fun i => listed.getD i false) effs) (listed.getD ia false)) (hp (cnt (fun i => (listed.setIfInBounds j true).getD i false) effs) ((listed.setIfInBounds j true).getD ia false)) →
            wpOp E.P al.toArray (WK E.P E.Q k) j (wpAny E.P .any al.toArray (WK E.P E.Q k) fuel (listed.setIfInBounds j true)) a w := by
          intro hst
          refine hst _ ρ a w _ _ hD hdeps hjl fun ρ' a' w' hD2 => ?_
          refine ih _ ρ' a' w' (by simpa using hsz) hcount hdown' ?_
          rw [← hD'] at hD2; exact hD2
        have hdown2 : Down al (fun i => listed.getD i false || Nat.beq i j) := by rw [← hD']; exact hdown'
        have hok : StOk al ia effs (cnt (fun i => listed.getD i false) effs) (listed.getD ia false) := by
          intro hb q e hq' he'
          cases hbe : reachB al ia e with
          | false => rfl
          | true =>
            have := reachB_down hdown hbe (cnt_lt_true hq' he')
            rw [hb] at this; simp at this
        have hoff : j ≠ ia → listed.getD ia false = false → reachB al ia j = false := by
          intro hne hb
          cases hbe : reachB al ia j with
          | false => rfl
          | true =>
            have := reachB_down hdown2 hbe (by simp [Nat.beq_refl])
            simp only [Bool.or_eq_true] at this
            rcases this with h | h
            · rw [hb] at h; simp at h
            · exact absurd (Nat.eq_of_beq_eq_true h).symm hne
        have hkeep : j ≠ ia → (listed.setIfInBounds j true).getD ia false = listed.getD ia false := by
          intro hne
          have := congrFun hD' ia
          rw [this]
          have hb : Nat.beq ia j = false := by
            cases h : Nat.beq ia j with
            | false => rfl
            | true => exact absurd (Nat.eq_of_beq_eq_true h).symm hne
          rw [hb, Bool.or_false]
        by_cases hmem : j ∈ effs
        · obtain ⟨p, hpp⟩ := List.getElem?_of_mem hmem
          have hpl : p < effs.length := by
            rcases Nat.lt_or_ge p effs.length with h1 | h1
            · exact h1
            · rw [List.getElem?_eq_none h1] at hpp; simp at hpp
          have hbefore : ∀ q e, q ≤ p → effs[q]? = some e → (listed.getD e false || Nat.beq e j) = true := effs_before hdown2 heffs hpp (by simp [Nat.beq_refl])
          have hnodup : ∀ q, q < p → effs[q]? ≠ some j := by
            intro q hqp hqj
            -- e_q binds the next; the chain rises
            have rise : ∀ {l : List Nat}, effsOk al l = true → ∀ {q p : Nat} {x y : Nat}, q < p → l[q]? = some x → l[p]? = some y → x < y := by
              intro l
              induction l with
              | nil => intro _ q p x y _ hx; simp at hx
              | cons u r ihr =>
                intro h q p x y hqp hx hy
                cases p with
                | zero => omega
                | succ p =>
                  cases r with
                  | nil => simp at hy
                  | cons v s =>
                    simp only [effsOk, Bool.and_eq_true] at h
                    have huv : u < v := blt_lt h.1.2.1
                    cases q with
                    | succ q => exact ihr h.2 (q := q) (p := p) (by omega) (by simpa using hx) (by simpa using hy)
                    | zero =>
                      simp at hx; subst hx
                      cases p with
                      | zero => simp at hy; subst hy; exact huv
                      | succ p =>
                        have := ihr h.2 (q := 0) (p := p + 1) (x := v) (y := y) (by omega) (by simp) (by simpa using hy)
                        omega
            have := rise heffs hqp hqj hpp
            omega
          have hc : cnt (fun i => listed.getD i false) effs = p := by
            refine cnt_spec (fun q e hqp hqe => ?_) (fun e hpe => ?_) (by omega)
            · have := hbefore q e (by omega) hqe
              simp only [Bool.or_eq_true] at this
              rcases this with h | h
              · exact h
              · have := Nat.eq_of_beq_eq_true h; subst this; exact absurd hqe (hnodup q hqp)
            · rw [hpp] at hpe; simp at hpe; subst hpe; exact hjl
          have hc' : cnt (fun i => (listed.setIfInBounds j true).getD i false) effs = p + 1 := by
            rw [hD']
            refine cnt_spec (fun q e hqp hqe => hbefore q e (by omega) hqe) (fun e hpe => ?_) (by omega)
            simp only [Bool.or_eq_false_iff]
            constructor
            · cases hle : listed.getD e false with
              | false => rfl
              | true =>
                have := effs_before hdown heffs hpe hle p j (by omega) hpp
                rw [hjl] at this; simp at this
            · cases hb : Nat.beq e j with
              | false => rfl
              | true =>
                have h := Nat.eq_of_beq_eq_true hb
                subst h
                exfalso
                have rise2 := effs_before (D := fun i => listed.getD i false || Nat.beq i e) hdown2 heffs hpe (by simp [Nat.beq_refl]) p e (by omega) hpp
                -- the same index twice in a rising chain
                have rise : ∀ {l : List Nat}, effsOk al l = true → ∀ {q p : Nat} {x y : Nat}, q < p → l[q]? = some x → l[p]? = some y → x < y := by
                  intro l
                  induction l with
                  | nil => intro _ q p x y _ hx; simp at hx
                  | cons u r ihr =>
                    intro h q p x y hqp hx hy
                    cases p with
                    | zero => omega
                    | succ p =>
                      cases r with
                      | nil => simp at hy
                      | cons v s =>
                        simp only [effsOk, Bool.and_eq_true] at h
                        have huv : u < v := blt_lt h.1.2.1
                        cases q with
                        | succ q => exact ihr h.2 (q := q) (p := p) (by omega) (by simpa using hx) (by simpa using hy)
                        | zero =>
                          simp at hx; subst hx
                          cases p with
                          | zero => simp at hy; subst hy; exact huv
                          | succ p =>
                            have := ihr h.2 (q := 0) (p := p + 1) (x := v) (y := y) (by omega) (by simp) (by simpa using hy)
                            omega
                have := rise heffs (Nat.lt_succ_self p) hpp hpe
                omega
          have hne : j ≠ ia := fun e => hna (e ▸ hmem)
          refine hstep ?_
          rw [hc', hc, hkeep hne]
          rw [hc] at hok
          exact he p _ j _ hpp ho hok (hoff hne)
        · have hc' : cnt (fun i => (listed.setIfInBounds j true).getD i false) effs = cnt (fun i => listed.getD i false) effs := by
            rw [hD']
            refine (cnt_congr fun e hemem => ?_).symm
            have : Nat.beq e j = false := by
              cases hb : Nat.beq e j with
              | false => rfl
              | true => have := Nat.eq_of_beq_eq_true hb; subst this; exact absurd hemem hmem
            simp [this]
          have hm := meets_cnt hdown ho hjl hdeps heffs hmem
          refine hstep ?_
          rw [hc']
          by_cases hne : j = ia
          · subst hne
            have hon : (listed.setIfInBounds j true).getD j false = true := by
              have := congrFun hD' j
              rw [this]; simp [Nat.beq_refl]
            rw [hon, hjl]
            rw [hjl] at hok
            have hoo : al[j] = oa := by rw [ho] at hia; simpa using hia
            rw [hoo] at hm ⊢
            exact ha _ (cnt_le _) hm hok
          · rw [hkeep hne]
            exact hq _ _ j _ (cnt_le _) ho hmem hne hm hok (hoff hne)
  refine key _ _ ρ a { w with drawn := w.drawn + 1 } (by simp) ?_ ?_ ?_
  · simp only [List.size_toArray]
    have : ((List.range al.length).filter fun i => !((Array.replicate al.length false).getD i true)) = List.range al.length := by
      rw [List.filter_eq_self]
      intro i hi
      have := List.mem_range.1 hi
      simp [Array.getD, this]
    rw [this]; simp
  · intro i o _ hi
    by_cases h : i < al.length <;> simp [Array.getD, h] at hi
  · have hc : cnt (fun i => (Array.replicate al.toArray.size false).getD i false) effs = 0 := by
      cases effs with
      | nil => rfl
      | cons x r =>
        simp only [cnt]
        rw [if_neg]
        by_cases h : x < al.length <;> simp [Array.getD, h]
    have hd0 : (Array.replicate al.toArray.size false).getD ia false = false := by
      by_cases h : ia < al.length <;> simp [Array.getD, h]
    rw [hc, hd0, h0]
    refine ⟨?_, ?_, hs.ts.num, hs.ts.def0, hs.base⟩
    · have h1 := hs.hs
      refine ⟨fun h o ho => ⟨SO.holds_world rfl _ (h1.objs h o ho).1, (h1.objs h o ho).2⟩, h1.size, h1.inj, h1.own, ⟨h1.fr.size, h1.fr.same, h1.fr.io⟩⟩
    · intro t v hv hav
      refine hs.ts.val t v (hT t v hv fun i o hi hd => ?_)
      have := hav i o hi hd
      by_cases h : i < al.length <;> simp [Array.getD, h] at this

end

theorem HSat.fill {w0 w : World} {bs : Nat → Prop} {ρ : Nat → Nat × Nat} {H : List HE} {o : SO} {ob : Obj} {n : Nat} (hS : HSat w0 bs ρ H w) (hn : H[n]? = some .absent)
    (hok : o.okh (there H) = true) (hh : o.holds ρ (w.alloc ob) (w.heap.size, 0)) :
    HSat w0 bs (upd ρ n (w.heap.size, 0)) (H.set n (.obj o)) (w.alloc ob) ∧ (∀ x, there H x = true → ρ x = upd ρ n (w.heap.size, 0) x) ∧ (∀ x, there H x = true → there (H.set n (.obj o)) x = true) ∧ there (H.set n (.obj o)) n = true := by
  have hnt : there H n = false := by simp [there, hn, HE.there]
  have hlt : n < H.length := by
    rcases Nat.lt_or_ge n H.length with h1 | h1
    · exact h1
    · rw [List.getElem?_eq_none h1] at hn; simp at hn
  have hagree : ∀ x, there H x = true → ρ x = upd ρ n (w.heap.size, 0) x := by
    intro x hx
    unfold upd
    rw [if_neg (fun e => by subst e; rw [hnt] at hx; simp at hx)]
  have hmono : ∀ x, there H x = true → there (H.set n (.obj o)) x = true := fun x hx => there_set hx
  have hat : ∀ x, x ≠ n → (H.set n (.obj o))[x]? = H[x]? := by
    intro x hx
    rw [List.getElem?_set, if_neg (fun e => hx e.symm)]
  have hself : (H.set n (.obj o))[n]? = some (.obj o) := by rw [List.getElem?_set]; simp [hlt]
  have hback : ∀ x, there (H.set n (.obj o)) x = true → x ≠ n → there H x = true := by
    intro x hx hne
    unfold there at *
    rw [hat x hne] at hx
    exact hx
  refine ⟨⟨?_, ?_, ?_, ?_, ?_⟩, hagree, hmono, there_of_obj hself⟩
  · intro x ox hx
    by_cases e : x = n
    · subst e
      rw [hself] at hx
      simp at hx
      subst hx
      refine ⟨?_, SO.okh_mono hmono _ hok⟩
      have := SO.holds_congr (w := w.alloc ob) (p := (w.heap.size, 0)) hagree o hok hh
      simpa [upd] using this
    · rw [hat x e] at hx
      obtain ⟨h1, h2⟩ := hS.objs x ox hx
      refine ⟨?_, SO.okh_mono hmono _ h2⟩
      have h3 := SO.holds_congr hagree ox h2 h1
      rw [← hagree x (there_of_obj hx)]
      exact SO.holds_world (heap_alloc_old w ob (hS.size x (there_of_obj hx))) _ h3
  · intro x hx
    by_cases e : x = n
    · subst e; simp [upd]
    · have h1 := hback x hx e
      rw [← hagree x h1]
      have := hS.size x h1
      simp; omega
  · have hobj : ∀ (x : Nat) (ox : SO), (H.set n (HE.obj o))[x]? = some (HE.obj ox) → x ≠ n → H[x]? = some (HE.obj ox) := by
      intro x ox hx hne
      rw [hat x hne] at hx
      exact hx
    intro x y ox oy hx hy e
    by_cases ex : x = n <;> by_cases ey : y = n
    · rw [ex, ey]
    · have h1 := hobj y oy hy ey
      rw [← hagree y (there_of_obj h1), ex] at e
      have := hS.size y (there_of_obj h1)
      simp [upd] at e; omega
    · have h1 := hobj x ox hx ex
      rw [← hagree x (there_of_obj h1), ey] at e
      have := hS.size x (there_of_obj h1)
      simp [upd] at e; omega
    · have h1 := hobj x ox hx ex
      have h2 := hobj y oy hy ey
      rw [← hagree x (there_of_obj h1), ← hagree y (there_of_obj h2)] at e
      exact hS.inj x y _ _ h1 h2 e
  · intro x ox hx hox
    by_cases e : x = n
    · subst e; right; simp [upd]; exact hS.fr.size
    · rw [hat x e] at hx
      rw [← hagree x (there_of_obj hx)]
      exact hS.own x ox hx hox
  · exact (hS.push (o := o) (ob := ob) hok hh).fr

theorem HSat.room {w0 w : World} {bs : Nat → Prop} {ρ : Nat → Nat × Nat} {H : List HE} (hS : HSat w0 bs ρ H w) :
    HSat w0 bs ρ (H ++ [.absent]) w ∧ ∀ x, there (H ++ [.absent]) x = there H x := by
  have hth : ∀ x, there (H ++ [.absent]) x = there H x := by
    intro x
    unfold there
    rw [List.getElem?_append]
    split
    · rfl
    · rename_i h
      rw [List.getElem?_eq_none (by omega : H.length ≤ x)]
      cases h2 : ([HE.absent] : List HE)[x - H.length]? with
      | none => rfl
      | some e =>
        have := List.mem_of_getElem? h2
        simp at this; subst this; rfl
  have hobj : ∀ (x : Nat) (ox : SO), (H ++ [HE.absent])[x]? = some (HE.obj ox) → H[x]? = some (HE.obj ox) := by
    intro x ox hx
    rw [List.getElem?_append] at hx
    split at hx
    · exact hx
    · have := List.mem_of_getElem? hx
      simp at this
  have hfun : there (H ++ [.absent]) = there H := funext hth
  refine ⟨⟨fun x ox hx => ?_, fun x hx => hS.size x (by rw [← hth]; exact hx), fun x y ox oy hx hy e => hS.inj x y ox oy (hobj x ox hx) (hobj y oy hy) e, fun x ox hx ho => hS.own x ox (hobj x ox hx) ho, hS.fr⟩, hth⟩
  rw [hfun]; exact hS.objs x ox (hobj x ox hx)

section
variable {E : Env} {al : List Oper} {Tn : List (Nat × SV)} {D : Nat → Bool} {ρ : Nat → Nat × Nat} {H : List HE} {a : Act} {w : World}

theorem dstep_fill {X : Tabs} (hTE : E.TE = X.TE) (hET : ∀ t ks, X.ET t = some ks → EqOk E.P t ks) (hreg : regOk al = true) {j n : Nat} {o : Oper} (hj : al[j]? = some o) (hg : o.guard = none) {o' : SO}
    (he : stepE X Tn H o.op = some (.newp o')) (hn : H[n]? = some .absent) (hd : ∀ d, o.dst = some d → look Tn d = some (.ptr n 0) ∧ Nat.blt d E.nt = true) : DStep E al Tn j o H (H.set n (.obj o')) := by
  intro D ρ a w K Q hs hD hDj hK
  obtain ⟨hc1, hc2⟩ := hs.ext_cut hreg hj hD
  have hsc : stepE X (cutT Tn (usesT o.op.operands.toList)) H o.op = stepE X Tn H o.op := stepE_congr look_cut_eq
  rw [← hsc] at he
  unfold wpOp
  simp only [List.getElem?_toArray, hj]
  rw [if_pos (by unfold Region.wanted; rw [hg])]
  left
  obtain ⟨h1, h2, ob, h3, h4⟩ := stepE_ok hTE hET hc1 he
  unfold Oper.wp
  rw [h3, Oper.upon_value]
  obtain ⟨p1, p2, p3, p4⟩ := hs.hs.fill hn (ob := ob) h2 h4
  have := (hs.ext p1 p2 p3).putD hreg hj (v := .ptr n 0) (by
    cases hdd : o.dst with
    | none => trivial
    | some d =>
      obtain ⟨g1, g2⟩ := hd d hdd
      exact ⟨⟨_, g1, rfl, by simpa [SV.okh] using p4⟩, blt_lt g2⟩)
  simp only [SV.tr, upd, if_true, Nat.zero_add] at this
  exact hK _ _ _ this
end

/-- One operation of a region that draws, as the text's order meets it: choices, what must be true, temporaries, the heap if it is an effect, what a load reads. -/
def stepD (X : Tabs) (rec : St → List Prop × St) (al : List Oper) (nt : Nat) (cs : List Ch) (T : List (Nat × SV)) (H : List HE) (o : Oper) :
    Option (List Ch × List Prop × List (Nat × SV) × Option (List HE) × Option Nat) :=
  match guardF al T o.guard with
  | 1 => match putD nt o.dst T (.tup []) with
    | some T' => some (cs, [], T', none, none)
    | none => none
  | 0 => match stepE X T H o.op with
    | some (.val b v) => match ovr cs v with
      | some (cs', b', v') => match putD nt o.dst T v' with
        | some T' => some (cs', addOP b' (addOP b []), T', none, ldOf T o.op)
        | none => none
      | none => none
    | some e => match afterF nt o.dst T H e with
      | some (b, T', H') => some (cs, addOP b [], T', some H', none)
      | none => none
    | none => match o.op with
      | .call c => match (match calleeF T c with | some (f, as0) => (match forceL as0 with | some as => some (f, as) | none => none) | none => none) with
        | some (f, as) => match evalF X rec cs f as H with
          | some (cs1, ob1, V, L) => match ovr cs1 V with
            | some (cs', b', V') => match putD nt o.dst T V' with
              | some T' => some (cs', addOP b' ob1, T', some L, none)
              | none => none
            | none => none
          | none => none
        | none => none
      | _ => none
  | _ => none

section
variable {P : Program} {X : Tabs} (hX : TOk P X)

theorem stepD_ok {rec : St → List Prop × St} (hrec : RecOk hX rec) {al : List Oper} {nt : Nat} {cs cs' : List Ch} {T T' : List (Nat × SV)} {H : List HE} {o : Oper} {ob : List Prop} {e : Option (List HE)} {ld : Option Nat}
    (h : stepD X rec al nt cs T H o = some (cs', ob, T', e, ld)) (ho : AllP ob) :
    (∀ t, o.dst ≠ some t → look T' t = look T t) ∧
      (e = none → Q1 X nt al T' T H o ∧ (guardF al T o.guard = 0 → ∀ h, ldOf T o.op = some h → ld = some h)) ∧ (∀ H', e = some H' → E1 P X nt al T' T o H H') := by
  unfold stepD at h
  split at h
  · rename_i hg
    split at h
    · rename_i T1 hT
      simp at h; obtain ⟨rfl, rfl, rfl, rfl, rfl⟩ := h
      obtain ⟨g1, g2⟩ := putD_look hT
      exact ⟨g1, fun _ => ⟨.inl ⟨hg, g2⟩, fun hg' => by rw [hg] at hg'; simp at hg'⟩, fun _ he => by simp at he⟩
    · simp at h
  · rename_i hg
    split at h
    · rename_i b v he
      split at h
      · rename_i cs1 b' v' hov
        split at h
        · rename_i T1 hT
          simp at h; obtain ⟨rfl, rfl, rfl, rfl, rfl⟩ := h
          obtain ⟨g1, g2⟩ := putD_look hT
          obtain ⟨ho2, hb'⟩ := addOP_all ho
          obtain ⟨_, hb⟩ := addOP_all ho2
          obtain ⟨s1, _⟩ := ovr_ok hov hb'
          refine ⟨g1, fun _ => ⟨.inr ⟨hg, b, v, he, hb, fun d hd => ?_⟩, fun _ h hh => hh⟩, fun _ he => by simp at he⟩
          obtain ⟨k1, k2⟩ := g2 d hd
          exact ⟨by rw [k1]; exact s1, k2⟩
        · simp at h
      · simp at h
    · rename_i ef hne he
      split at h
      · rename_i b T1 H1 ha
        simp at h; obtain ⟨rfl, rfl, rfl, rfl, rfl⟩ := h
        obtain ⟨_, hb⟩ := addOP_all ho
        refine ⟨afterF_look ha, fun he => by simp at he, fun H' hH => ?_⟩
        simp at hH; subst hH
        exact ⟨hg, .inl ⟨ef, b, T1, he, ha, hb, fun d hd => rfl⟩⟩
      · simp at h
    · split at h
      · rename_i c hop
        split at h
        · rename_i f as hc0
          have hc : calleeF T c = some (f, as) := by
            split at hc0
            · rename_i f' as0 hcc
              split at hc0
              · rename_i as1 hfl
                simp at hc0; obtain ⟨rfl, rfl⟩ := hc0
                rw [hcc, forceL_eq hfl]
              · simp at hc0
            · simp at hc0
          split at h
          · rename_i cs1 ob1 V L hev
            split at h
            · rename_i cs2 b' V' hov
              split at h
              · rename_i T1 hT
                simp at h; obtain ⟨rfl, rfl, rfl, rfl, rfl⟩ := h
                obtain ⟨ho2, hb'⟩ := addOP_all ho
                obtain ⟨hG, hfn⟩ := evalF_ok hX hrec hev ho2
                obtain ⟨_, s2⟩ := ovr_ok hov hb'
                obtain ⟨g1, g2⟩ := putD_look hT
                refine ⟨g1, fun he => by simp at he, fun H' hH => ?_⟩
                simp at hH; subst hH
                exact ⟨hg, .inr ⟨c, f, as, V', hop, hc, hfn, hG.same s2, g2⟩⟩
              · simp at h
            · simp at h
          · simp at h
        · simp at h
      · simp at h
  · simp at h
end

def skT (d : Option Nat) (Tk T : List (Nat × SV)) : List (Nat × SV) :=
  match d with
  | none => T
  | some d => match look Tk d with
    | some v => (d, v) :: T
    | none => T
theorem skT_look {d : Option Nat} {Tk T : List (Nat × SV)} : ∀ t, d ≠ some t → look (skT d Tk T) t = look T t := by
  intro t ht
  unfold skT
  split
  · rfl
  · rename_i d'
    split
    · rw [look_cons]
      have : ¬ d' = t := fun e => ht (by rw [e])
      simp [this]
    · rfl

/-- The text's order, the cell (ia, handle n) aside; 'off': the cell is not made yet, and what waits for it is passed by. -/
def drawRun2 (X : Tabs) (rec : St → List Prop × St) (al : List Oper) (nt ia n : Nat) (off : Bool) (Tk : List (Nat × SV)) : List Oper → Nat → List Ch → List (Nat × SV) → List HE → List Prop →
    Option (List Ch × List Prop × List (Nat × SV) × List (Nat × List HE) × List (Nat × Nat))
  | [], _, cs, T, _, ob => some (cs, ob, T, [], [])
  | o :: r, i, cs, T, H, ob => match Nat.beq i ia with
    | true => match putD nt o.dst T (.ptr n 0) with
      | some T' => drawRun2 X rec al nt ia n off Tk r (i + 1) cs T' H ob
      | none => none
    | false => match off && reachB al ia i with
      | true => drawRun2 X rec al nt ia n off Tk r (i + 1) cs (skT o.dst Tk T) H ob
      | false => match stepD X rec al nt cs T H o with
        | none => none
        | some (cs', ob', T', e, ld) => match e with
          | some H' => match drawRun2 X rec al nt ia n off Tk r (i + 1) cs' T' H' (addLP ob' ob) with
            | some (cs2, ob2, Tn, es, lds) => some (cs2, ob2, Tn, (i, H') :: es, lds)
            | none => none
          | none => match ld with
            | none => drawRun2 X rec al nt ia n off Tk r (i + 1) cs' T' H (addLP ob' ob)
            | some h => match drawRun2 X rec al nt ia n off Tk r (i + 1) cs' T' H (addLP ob' ob) with
              | some (cs2, ob2, Tn, es, lds) => some (cs2, ob2, Tn, es, (i, h) :: lds)
              | none => none

structure Facts2 (P : Program) (X : Tabs) (nt : Nat) (al : List Oper) (ia n : Nat) (off : Bool) (Tn : List (Nat × SV)) (l : List Oper) (i : Nat) (T : List (Nat × SV)) (H : List HE) (es : List (Nat × List HE)) (lds : List (Nat × Nat)) : Prop where
  agree : ∀ t, (∀ o ∈ l, o.dst ≠ some t) → look Tn t = look T t
  quiet : ∀ (j : Nat) (o : Oper), l[j]? = some o → i + j ≠ ia → (off && reachB al ia (i + j)) = false → (i + j) ∉ fstE es → ∃ (Tj : List (Nat × SV)) (Hj : List HE) (c : Nat), (H :: es.map (·.2))[c]? = some Hj ∧ (∀ (q e : Nat), (fstE es)[q]? = some e → (q < c ↔ e < i + j)) ∧
    (∀ t, (∀ o' ∈ l.drop j, o'.dst ≠ some t) → look Tn t = look Tj t) ∧ Q1 X nt al Tn Tj Hj o ∧ (guardF al Tj o.guard = 0 → ∀ h, ldOf Tj o.op = some h → (i + j, h) ∈ lds)
  eff : ∀ (q e : Nat) (L : List HE), es[q]? = some (e, L) → (e ≠ ia ∧ (off && reachB al ia e) = false) ∧ ∃ (j : Nat) (o : Oper) (Tj : List (Nat × SV)) (Hq : List HE), e = i + j ∧ l[j]? = some o ∧ (H :: es.map (·.2))[q]? = some Hq ∧
    (∀ t, (∀ o' ∈ l.drop j, o'.dst ≠ some t) → look Tn t = look Tj t) ∧ E1 P X nt al Tn Tj o Hq L
  cell : ∀ (j : Nat) (o : Oper), l[j]? = some o → i + j = ia → ∀ d, o.dst = some d → look Tn d = some (.ptr n 0) ∧ Nat.blt d nt = true

section
variable {P : Program} {X : Tabs} {nt : Nat} {al : List Oper} {ia n : Nat} {off : Bool} {Tn : List (Nat × SV)} {r : List Oper} {o : Oper} {i : Nat} {T T' : List (Nat × SV)} {H H' : List HE} {es : List (Nat × List HE)} {lds : List (Nat × Nat)}

theorem facts2_ge (h : Facts2 P X nt al ia n off Tn r i T H es lds) : ∀ (q e : Nat), (fstE es)[q]? = some e → i ≤ e := by
  intro q e hq
  rw [fstE_map] at hq
  simp at hq
  obtain ⟨L, hL⟩ := hq
  obtain ⟨_, j, _, _, _, h1, _⟩ := h.eff q e L hL
  omega

theorem facts2_agree (h : Facts2 P X nt al ia n off Tn r (i + 1) T' H' es lds) (hT : ∀ t, o.dst ≠ some t → look T' t = look T t) : ∀ t, (∀ o' ∈ o :: r, o'.dst ≠ some t) → look Tn t = look T t := by
  intro t ht
  rw [h.agree t (fun o' ho' => ht o' (by simp [ho'])), hT t (ht o (by simp))]

/-- An operation passed by, or the cell, ahead. -/
theorem facts2_skip (h : Facts2 P X nt al ia n off Tn r (i + 1) T' H es lds) (hT : ∀ t, o.dst ≠ some t → look T' t = look T t) (hs : i = ia ∨ (off && reachB al ia i) = true)
    (hcell : i = ia → ∀ d, o.dst = some d → look Tn d = some (.ptr n 0) ∧ Nat.blt d nt = true) : Facts2 P X nt al ia n off Tn (o :: r) i T H es lds := by
  refine ⟨facts2_agree h hT, ?_, ?_, ?_⟩
  · intro j p hp hne hsk hn
    cases j with
    | zero =>
      rcases hs with h1 | h1
      · exact absurd h1 hne
      · rw [Nat.add_zero] at hsk; rw [h1] at hsk; simp at hsk
    | succ j =>
      have hp' : r[j]? = some p := by simpa using hp
      rw [show i + (j + 1) = i + 1 + j from by omega] at hne hsk hn ⊢
      obtain ⟨Tj, Hj, c, h1, h2, h3, h4, h5⟩ := h.quiet j p hp' hne hsk hn
      exact ⟨Tj, Hj, c, h1, h2, fun t ht => h3 t (by simpa using ht), h4, h5⟩
  · intro q e L he
    obtain ⟨h0, j, p, Tj, Hq, h1, h2, h3, h4, h5⟩ := h.eff q e L he
    exact ⟨h0, j + 1, p, Tj, Hq, by omega, by simpa using h2, h3, fun t ht => h4 t (by simpa using ht), h5⟩
  · intro j p hp hj
    cases j with
    | zero => simp at hp; subst hp; exact hcell (by omega)
    | succ j => exact h.cell j p (by simpa using hp) (by omega)

/-- A quiet operation ahead. -/
theorem facts2_quiet (h : Facts2 P X nt al ia n off Tn r (i + 1) T' H es lds) (hT : ∀ t, o.dst ≠ some t → look T' t = look T t) (hne : i ≠ ia) (hq : Q1 X nt al Tn T H o)
    {lds' : List (Nat × Nat)} (hl : ∀ p ∈ lds, p ∈ lds') (hld : guardF al T o.guard = 0 → ∀ h, ldOf T o.op = some h → (i, h) ∈ lds') : Facts2 P X nt al ia n off Tn (o :: r) i T H es lds' := by
  refine ⟨facts2_agree h hT, ?_, ?_, ?_⟩
  · intro j p hp hne hsk hn
    cases j with
    | zero =>
      simp at hp; subst hp
      refine ⟨T, H, 0, by simp, ?_, fun t ht => facts2_agree h hT t (by simpa using ht), hq, hld⟩
      intro q e he
      have := facts2_ge h q e he
      constructor
      · intro h0; omega
      · intro h0; omega
    | succ j =>
      have hp' : r[j]? = some p := by simpa using hp
      rw [show i + (j + 1) = i + 1 + j from by omega] at hne hsk hn ⊢
      obtain ⟨Tj, Hj, c, h1, h2, h3, h4, h5⟩ := h.quiet j p hp' hne hsk hn
      exact ⟨Tj, Hj, c, h1, h2, fun t ht => h3 t (by simpa using ht), h4, fun hg h' hh => hl _ (h5 hg h' hh)⟩
  · intro q e L he
    obtain ⟨h0, j, p, Tj, Hq, h1, h2, h3, h4, h5⟩ := h.eff q e L he
    exact ⟨h0, j + 1, p, Tj, Hq, by omega, by simpa using h2, h3, fun t ht => h4 t (by simpa using ht), h5⟩
  · intro j p hp hj
    cases j with
    | zero => exact absurd (by omega) hne
    | succ j => exact h.cell j p (by simpa using hp) (by omega)

/-- An effect ahead. -/
theorem facts2_eff (h : Facts2 P X nt al ia n off Tn r (i + 1) T' H' es lds) (hT : ∀ t, o.dst ≠ some t → look T' t = look T t) (hne : i ≠ ia) (hsk : (off && reachB al ia i) = false) (he : E1 P X nt al Tn T o H H') :
    Facts2 P X nt al ia n off Tn (o :: r) i T H ((i, H') :: es) lds := by
  refine ⟨facts2_agree h hT, ?_, ?_, ?_⟩
  · intro j p hp hne' hsk' hn
    cases j with
    | zero => simp [fstE] at hn
    | succ j =>
      have hp' : r[j]? = some p := by simpa using hp
      rw [show i + (j + 1) = i + 1 + j from by omega] at hne' hsk' hn ⊢
      obtain ⟨Tj, Hj, c, h1, h2, h3, h4, h5⟩ := h.quiet j p hp' hne' hsk' (by
        simp only [fstE, List.mem_cons, not_or] at hn
        exact hn.2)
      refine ⟨Tj, Hj, c + 1, by simpa using h1, ?_, fun t ht => h3 t (by simpa using ht), h4, h5⟩
      intro q e hq
      cases q with
      | zero => simp [fstE] at hq; subst hq; constructor <;> intro _ <;> omega
      | succ q =>
        have := h2 q e (by simpa [fstE] using hq)
        rw [← this]; omega
  · intro q e L hq
    cases q with
    | zero =>
      simp at hq; obtain ⟨rfl, rfl⟩ := hq
      exact ⟨⟨hne, hsk⟩, 0, o, T, H, by omega, by simp, by simp, fun t ht => facts2_agree h hT t (by simpa using ht), he⟩
    | succ q =>
      obtain ⟨h0, j, p, Tj, Hq, h1, h2, h3, h4, h5⟩ := h.eff q e L (by simpa using hq)
      exact ⟨h0, j + 1, p, Tj, Hq, by omega, by simpa using h2, by simpa using h3, fun t ht => h4 t (by simpa using ht), h5⟩
  · intro j p hp hj
    cases j with
    | zero => exact absurd (by omega) hne
    | succ j => exact h.cell j p (by simpa using hp) (by omega)

theorem q1_congr {Tm : List (Nat × SV)} {Tj : List (Nat × SV)} (h : Q1 X nt al Tm Tj H o) (hT : ∀ d, o.dst = some d → look Tn d = look Tm d) : Q1 X nt al Tn Tj H o := by
  rcases h with ⟨h1, h2⟩ | ⟨h1, ob, v, h2, h3, h4⟩
  · exact .inl ⟨h1, fun d hd => by rw [hT d hd]; exact h2 d hd⟩
  · exact .inr ⟨h1, ob, v, h2, h3, fun d hd => by rw [hT d hd]; exact h4 d hd⟩
theorem e1_congr {Tm : List (Nat × SV)} {Tj : List (Nat × SV)} {L : List HE} (h : E1 P X nt al Tm Tj o H L) (hT : ∀ d, o.dst = some d → look Tn d = look Tm d) : E1 P X nt al Tn Tj o H L := by
  obtain ⟨h0, h | h⟩ := h
  · obtain ⟨e, ob, T', h1, h2, h3, h4⟩ := h
    exact ⟨h0, .inl ⟨e, ob, T', h1, h2, h3, fun d hd => by rw [hT d hd]; exact h4 d hd⟩⟩
  · obtain ⟨c, f, as, V, h1, h2, h3, h4, h5⟩ := h
    exact ⟨h0, .inr ⟨c, f, as, V, h1, h2, h3, h4, fun d hd => by rw [hT d hd]; exact h5 d hd⟩⟩

theorem drawRun2_facts (hX : TOk P X) {rec : St → List Prop × St} (hrec : RecOk hX rec) {Tk : List (Nat × SV)} : ∀ {l : List Oper} {i : Nat} {cs : List Ch} {T : List (Nat × SV)} {H : List HE} {ob : List Prop}
    {cs' : List Ch} {ob' : List Prop} {Tn : List (Nat × SV)} {es : List (Nat × List HE)} {lds : List (Nat × Nat)},
    drawRun2 X rec al nt ia n off Tk l i cs T H ob = some (cs', ob', Tn, es, lds) → dstsOk l = true → AllP ob' → AllP ob ∧ Facts2 P X nt al ia n off Tn l i T H es lds := by
  intro l
  induction l with
  | nil =>
    intro i cs T H ob cs' ob' Tn es lds h _ ho
    simp [drawRun2] at h
    obtain ⟨rfl, rfl, rfl, rfl, rfl⟩ := h
    exact ⟨ho, fun _ _ => rfl, fun j o hj => by simp at hj, fun q e L hq => by simp at hq, fun j o hj => by simp at hj⟩
  | cons o r ih =>
    intro i cs T H ob cs' ob' Tn es lds h hdl ho
    obtain ⟨hdr, hd0⟩ := dstsOk_cons hdl
    unfold drawRun2 at h
    split at h
    · rename_i hi
      have hi := Nat.eq_of_beq_eq_true hi
      split at h
      · rename_i T1 hT
        obtain ⟨h1, h2⟩ := ih h hdr ho
        obtain ⟨g1, g2⟩ := putD_look hT
        refine ⟨h1, facts2_skip h2 g1 (.inl hi) fun _ d hd => ?_⟩
        obtain ⟨k1, k2⟩ := g2 d hd
        exact ⟨by rw [h2.agree d (hd0 d hd)]; exact k1, k2⟩
      · simp at h
    · rename_i hi
      have hi : i ≠ ia := fun e => by subst e; simp [Nat.beq_refl] at hi
      split at h
      · rename_i hsk
        obtain ⟨h1, h2⟩ := ih h hdr ho
        exact ⟨h1, facts2_skip h2 skT_look (.inr hsk) fun e => absurd e hi⟩
      · rename_i hsk
        split at h
        · simp at h
        · rename_i cs1 ob1 T1 e ld hst
          split at h
          · rename_i H1
            split at h
            · rename_i cs2 ob2 Tn2 es2 lds2 hr
              simp at h; obtain ⟨rfl, rfl, rfl, rfl, rfl⟩ := h
              obtain ⟨h1, h2⟩ := ih hr hdr ho
              obtain ⟨ho1, ho2⟩ := addLP_all h1
              obtain ⟨s1, _, s3⟩ := stepD_ok hX hrec hst ho1
              exact ⟨ho2, facts2_eff h2 s1 hi hsk (e1_congr (s3 _ rfl) fun d hd => h2.agree d (hd0 d hd))⟩
            · simp at h
          · split at h
            · obtain ⟨h1, h2⟩ := ih h hdr ho
              obtain ⟨ho1, ho2⟩ := addLP_all h1
              obtain ⟨s1, s2, _⟩ := stepD_ok hX hrec hst ho1
              obtain ⟨s3, s4⟩ := s2 rfl
              exact ⟨ho2, facts2_quiet h2 s1 hi (q1_congr s3 fun d hd => h2.agree d (hd0 d hd)) (fun p hp => hp) fun hg h' hh => by have := s4 hg h' hh; simp at this⟩
            · rename_i h'
              split at h
              · rename_i cs2 ob2 Tn2 es2 lds2 hr
                simp at h; obtain ⟨rfl, rfl, rfl, rfl, rfl⟩ := h
                obtain ⟨h1, h2⟩ := ih hr hdr ho
                obtain ⟨ho1, ho2⟩ := addLP_all h1
                obtain ⟨s1, s2, _⟩ := stepD_ok hX hrec hst ho1
                obtain ⟨s3, s4⟩ := s2 rfl
                exact ⟨ho2, facts2_quiet h2 s1 hi (q1_congr s3 fun d hd => h2.agree d (hd0 d hd)) (fun p hp => by simp [hp]) fun hg x hh => by have := s4 hg x hh; simp at this; subst this; simp⟩
              · simp at h
end

section
variable {E : Env} {X : Tabs} {al : List Oper} {ia n : Nat} {off : Bool} {Tn Tr : List (Nat × SV)} {T : List (Nat × SV)} {H : List HE} {es : List (Nat × List HE)} {lds : List (Nat × Nat)}

/-- What is looked at stands ahead. -/
theorem use_back (hreg : regOk al = true) : ∀ {j : Nat} {o : Oper}, al[j]? = some o → ∀ t, (t ∈ usesT o.op.operands.toList ∨ t ∈ guardT al o.guard) → ∀ o' ∈ al.drop j, o'.dst ≠ some t := by
  intro j o hj t ht o' ho' hd
  obtain ⟨m, hm⟩ := List.getElem?_of_mem ho'
  rw [List.getElem?_drop] at hm
  have hlt : j < al.length := by
    rcases Nat.lt_or_ge j al.length with h1 | h1
    · exact h1
    · rw [List.getElem?_eq_none h1] at hj; simp at hj
  have hr := hreg
  simp only [regOk, Bool.and_eq_true, List.all_eq_true] at hr
  have := hr.2 j (List.mem_range.2 hlt)
  rw [hj] at this
  simp only [Bool.and_eq_true] at this
  have hb : bindsOn o (j + m) = true := by
    rcases ht with ht | ht
    · exact usesOk_get this.1.2 ht hm hd
    · exact usesOk_get this.2 ht hm hd
  have := bind_back hreg hj hb
  omega

theorem run_quiet (hreg : regOk al = true) (hF : Facts2 E.P X E.nt al ia n off Tr al 0 T H es lds) (hld : ∀ j h, (j, h) ∈ lds → ∃ acc, AllP (ldChk al j h H es acc)) (hTn : ∀ t, look Tn t = look Tr t)
    {c : Nat} {Hc : List HE} {j : Nat} {o : Oper} (hj : al[j]? = some o) (hne : j ≠ ia) (hsk : (off && reachB al ia j) = false) (hmem : j ∉ fstE es) (hc : (H :: es.map (·.2))[c]? = some Hc)
    (hsp : ∀ q e, (fstE es)[q]? = some e → (q < c → reachB al j e = false) ∧ (c ≤ q → reachB al e j = false)) : qE X E.nt al Tn Hc o := by
  obtain ⟨Tj, Hj, c0, h1, h2, h3, h4, h5⟩ := hF.quiet j o hj (by simpa using hne) (by simpa using hsk) (by simpa using hmem)
  rw [Nat.zero_add] at h5
  have hg : guardF al Tn o.guard = guardF al Tj o.guard := guardF_congr fun t ht => by rw [hTn]; exact h3 t (use_back hreg hj t (.inr ht))
  rcases h4 with ⟨g1, g2⟩ | ⟨g1, b, v, g2, g3, g4⟩
  · exact .inl ⟨by rw [hg]; exact g1, fun d hd => by rw [hTn]; exact g2 d hd⟩
  · refine .inr ⟨by rw [hg]; exact g1, b, v, ?_, g3, fun d hd => by rw [hTn]; exact g4 d hd⟩
    have hcg : ∀ H, stepE X Tn H o.op = stepE X Tj H o.op := fun H => stepE_congr fun t ht => by rw [hTn]; exact h3 t (use_back hreg hj t (.inl ht))
    rw [hcg]
    refine stepE_heap g2 fun x hx => ?_
    obtain ⟨acc, hacc⟩ := hld j x (h5 g1 x hx)
    have hch := (ldChk_all hacc).2
    have hlen : (fstE es).length = es.length := by rw [fstE_map]; simp
    have get : ∀ q, q ≤ es.length → ∃ Hq, (H :: es.map (·.2))[q]? = some Hq := by
      intro q hq
      have : q < (H :: es.map (·.2)).length := by simp; omega
      exact ⟨_, List.getElem?_eq_getElem this⟩
    have lt_of : ∀ {q : Nat} {Hq : List HE}, (H :: es.map (·.2))[q]? = some Hq → q ≤ es.length := by
      intro q Hq hq
      rcases Nat.lt_or_ge q (H :: es.map (·.2)).length with h1 | h1
      · simp at h1; omega
      · rw [List.getElem?_eq_none h1] at hq; simp at hq
    have step : ∀ q, q < es.length → (q < c → q < c0 → False) → (c0 ≤ q → c ≤ q → False) → ∀ Hq L, (H :: es.map (·.2))[q]? = some Hq → (H :: es.map (·.2))[q + 1]? = some L → getH Hq x = getH L x := by
      intro q hq n1 n2 Hq L hHq hL
      have hqe : q < (fstE es).length := by omega
      have he := List.getElem?_eq_getElem hqe
      have hiff := h2 q _ he
      rw [Nat.zero_add] at hiff
      have hne : (fstE es)[q] ≠ j := by
        intro e
        exact hmem (by rw [← e]; exact List.getElem_mem hqe)
      obtain ⟨m1, m2⟩ := hsp q _ he
      refine hch q _ Hq L he hHq hL ?_ ?_
      · by_cases hqc : c ≤ q
        · exact m2 hqc
        · have h0 : ¬ q < c0 := fun h => n1 (by omega) h
          cases hb : reachB al (fstE es)[q] j with
          | false => rfl
          | true =>
            have := reachB_le hreg hb
            exact absurd (hiff.2 (by omega)) h0
      · by_cases hqc : q < c
        · exact m1 hqc
        · have h0 : q < c0 := by
            rcases Nat.lt_or_ge q c0 with h | h
            · exact h
            · exact (n2 h (by omega)).elim
          cases hb : reachB al j (fstE es)[q] with
          | false => rfl
          | true =>
            have := reachB_le hreg hb
            have := hiff.1 h0
            omega
    have chain : ∀ n a, (a + n ≤ es.length) → (∀ q, a ≤ q → q < a + n → (q < c → q < c0 → False) ∧ (c0 ≤ q → c ≤ q → False)) → ∀ Ha Hb, (H :: es.map (·.2))[a]? = some Ha → (H :: es.map (·.2))[a + n]? = some Hb → getH Ha x = getH Hb x := by
      intro n
      induction n with
      | zero => intro a _ _ Ha Hb ha hb; rw [Nat.add_zero, ha] at hb; simp at hb; rw [hb]
      | succ n ih =>
        intro a hle hq Ha Hb ha hb
        obtain ⟨Hm, hm⟩ := get (a + n) (by omega)
        rw [ih a (by omega) (fun q h1 h2 => hq q h1 (by omega)) Ha Hm ha hm]
        obtain ⟨n1, n2⟩ := hq (a + n) (by omega) (by omega)
        exact step (a + n) (by omega) n1 n2 Hm Hb hm hb
    have hl1 := lt_of h1
    have hl2 := lt_of hc
    rcases Nat.le_total c c0 with hle | hle
    · exact (chain (c0 - c) c (by omega) (fun q a1 a2 => ⟨fun b1 _ => by omega, fun b1 _ => by omega⟩) Hc Hj hc (by rw [show c + (c0 - c) = c0 from by omega]; exact h1)).symm
    · exact chain (c - c0) c0 (by omega) (fun q a1 a2 => ⟨fun _ b1 => by omega, fun _ b1 => by omega⟩) Hj Hc h1 (by rw [show c0 + (c - c0) = c from by omega]; exact hc)

theorem run_eff (hTE : E.TE = X.TE) (hET : ∀ t ks, X.ET t = some ks → EqOk E.P t ks) (hreg : regOk al = true) (hF : Facts2 E.P X E.nt al ia n off Tr al 0 T H es lds) (hTn : ∀ t, look Tn t = look Tr t)
    {c : Nat} {Hc Hc' : List HE} {j : Nat} {o : Oper} (hj : (fstE es)[c]? = some j) (ho' : al[j]? = some o) (hc : (H :: es.map (·.2))[c]? = some Hc) (hc' : (H :: es.map (·.2))[c + 1]? = some Hc') : DStep E al Tn j o Hc Hc' := by
  have hje : ∃ L, es[c]? = some (j, L) := by
    rw [fstE_map] at hj
    simp at hj
    exact hj
  obtain ⟨L, hL⟩ := hje
  obtain ⟨_, j', o2, Tj, Hq, e1, e2, e3, e4, e5, e6⟩ := hF.eff c j L hL
  rw [Nat.zero_add] at e1; subst e1
  rw [ho'] at e2; simp at e2; subst e2
  rw [hc] at e3; simp at e3; subst e3
  have hLc : Hc' = L := by
    have : (H :: es.map (·.2))[c + 1]? = some L := by simp [hL]
    rw [hc'] at this; simpa using this
  subst hLc
  have hg : guardF al Tn o.guard = guardF al Tj o.guard := guardF_congr fun t ht => by rw [hTn]; exact e4 t (use_back hreg ho' t (.inr ht))
  rcases e6 with ⟨e, b, T2, s1, s2, s3, s4⟩ | ⟨cc, f, as, V, s1, s2, ⟨fn', s3, s4, s5⟩, s6, s7⟩
  · have hcg : stepE X Tn Hc o.op = stepE X Tj Hc o.op := stepE_congr fun t ht => by rw [hTn]; exact e4 t (use_back hreg ho' t (.inl ht))
    exact dstep_effE (X := X) hTE hET hreg ho' (by rw [hg]; exact e5) (by rw [hcg]; exact s1) s2 s3 (fun d hd => by rw [hTn]; exact s4 d hd)
  · have hcc : calleeF Tn cc = calleeF Tj cc := callee_congr fun t ht => by rw [hTn]; exact e4 t (use_back hreg ho' t (.inl (by rw [s1]; exact ht)))
    exact dstep_call hreg ho' (by rw [hg]; exact e5) s1 (by rw [hcc]; exact s2) s3 s4 s5 s6 (fun d hd => by rw [hTn]; exact s7 d hd)
end

def prefN : List Nat → List Nat → Bool
  | [], _ => true
  | x :: r, l => match l with
    | [] => false
    | y :: s => Nat.beq x y && prefN r s
theorem prefN_get : ∀ {a b : List Nat}, prefN a b = true → ∀ (q e : Nat), a[q]? = some e → b[q]? = some e
  | [], _, _, q, e, h => by simp at h
  | x :: r, [], h, q, e, _ => by simp [prefN] at h
  | x :: r, y :: s, h, q, e, he => by
    simp only [prefN, Bool.and_eq_true] at h
    cases q with
    | zero => simp at he ⊢; rw [← he]; exact (Nat.eq_of_beq_eq_true h.1).symm
    | succ q => simpa using prefN_get h.2 q e (by simpa using he)
def sufR (al : List Oper) (ia : Nat) : List Nat → List Nat → Bool
  | [], l => l.all fun e => reachB al ia e
  | _ :: r, l => match l with
    | [] => true
    | _ :: s => sufR al ia r s
theorem sufR_get {al : List Oper} {ia : Nat} : ∀ {a b : List Nat}, sufR al ia a b = true → ∀ (q e : Nat), a.length ≤ q → b[q]? = some e → reachB al ia e = true
  | [], b, h, q, e, _, he => by
    simp only [sufR, List.all_eq_true] at h
    exact h e (List.mem_of_getElem? he)
  | x :: r, [], _, q, e, _, he => by simp at he
  | x :: r, y :: s, h, q, e, hq, he => by
    simp only [sufR] at h
    cases q with
    | zero => simp at hq
    | succ q => exact sufR_get h q e (by simpa using hq) (by simpa using he)

/-- The heaps with the cell are those without, and the cell. -/
def filChk (n : Nat) (x : HE) : List HE → List (Nat × List HE) → List HE → List (Nat × List HE) → List Prop → List Prop
  | Hf, [], Ho, _, acc => (Hf.set n x = Ho) :: acc
  | Hf, (_, Hf') :: rf, Ho, eo, acc => match eo with
    | [] => False :: acc
    | (_, Ho') :: ro => filChk n x Hf' rf Ho' ro ((Hf.set n x = Ho) :: acc)
theorem filChk_all {n : Nat} {x : HE} : ∀ {ef : List (Nat × List HE)} {Hf Ho : List HE} {eo : List (Nat × List HE)} {acc : List Prop}, AllP (filChk n x Hf ef Ho eo acc) →
    AllP acc ∧ ∀ (c : Nat) (Hc : List HE), (Hf :: ef.map (·.2))[c]? = some Hc → (Ho :: eo.map (·.2))[c]? = some (Hc.set n x)
  | [], Hf, Ho, eo, acc, h => by
    simp only [filChk] at h
    refine ⟨fun p hp => h p (by simp [hp]), fun c Hc hc => ?_⟩
    cases c with
    | zero => simp at hc ⊢; rw [← hc]; exact (h (Hf.set n x = Ho) (by simp)).symm
    | succ c => simp at hc
  | (_, Hf') :: rf, Hf, Ho, [], acc, h => by
    simp only [filChk] at h
    exact (h False (by simp)).elim
  | (_, Hf') :: rf, Hf, Ho, (_, Ho') :: ro, acc, h => by
    simp only [filChk] at h
    obtain ⟨h1, h2⟩ := filChk_all h
    refine ⟨fun p hp => h1 p (by simp [hp]), fun c Hc hc => ?_⟩
    cases c with
    | zero => simp at hc ⊢; rw [← hc]; exact (h1 (Hf.set n x = Ho) (by simp)).symm
    | succ c => simpa using h2 c Hc (by simpa using hc)

def absN : List HE → Nat → Bool
  | [], _ => false
  | x :: _, 0 => match x with | .absent => true | _ => false
  | _ :: r, n + 1 => absN r n
theorem absN_get : ∀ {H : List HE} {n : Nat}, absN H n = true → H[n]? = some .absent
  | [], _, h => by simp [absN] at h
  | x :: _, 0, h => by cases x <;> simp [absN] at h ⊢
  | _ :: r, n + 1, h => by simpa using absN_get (H := r) (n := n) (by simpa [absN] using h)

def dstEq (Tf Tn : List (Nat × SV)) : List Oper → List Prop → List Prop
  | [], acc => acc
  | o :: r, acc => match o.dst with
    | none => dstEq Tf Tn r acc
    | some d => dstEq Tf Tn r ((look Tn d = look Tf d) :: acc)
theorem dstEq_all {Tf Tn : List (Nat × SV)} : ∀ {l : List Oper} {acc : List Prop}, AllP (dstEq Tf Tn l acc) → AllP acc ∧ ∀ o ∈ l, ∀ d, o.dst = some d → look Tn d = look Tf d
  | [], acc, h => ⟨h, fun o ho => by simp at ho⟩
  | o :: r, acc, h => by
    simp only [dstEq] at h
    split at h
    · rename_i hd
      obtain ⟨h1, h2⟩ := dstEq_all h
      refine ⟨h1, fun p hp d hpd => ?_⟩
      simp only [List.mem_cons] at hp
      rcases hp with rfl | hp
      · rw [hd] at hpd; simp at hpd
      · exact h2 p hp d hpd
    · rename_i d' hd
      obtain ⟨h1, h2⟩ := dstEq_all h
      refine ⟨fun p hp => h1 p (by simp [hp]), fun p hp d hpd => ?_⟩
      simp only [List.mem_cons] at hp
      rcases hp with rfl | hp
      · rw [hd] at hpd; simp at hpd; subst hpd; exact h1 _ (by simp)
      · exact h2 p hp d hpd

theorem stepE_alloc {X : Tabs} {T T' : List (Nat × SV)} {H H' : List HE} {op : Op} {t : TypeId} (h : op = .alloc t) : stepE X T H op = stepE X T' H' op := by
  subst h; rfl

/-- A region that draws where operation ia makes a cell that has no order against the calls. -/
def drawZ (X : Tabs) (rec : St → List Prop × St) (ia : Nat) : DrawF := fun cs al nt T H =>
  match al[ia]? with
  | none => none
  | some oa => match oa.op, oa.guard with
    | .alloc t, none => match stepE X [] [] (.alloc t), lenO H nums with
      | some (.newp o'), some n => match forceHs (H ++ [.obj o']), forceHs (H ++ [.absent]) with
        | some Ho, some Hf => match drawRun2 X rec al nt ia n false [] al 0 cs T Ho [] with
          | none => none
          | some (cs', ob, Tn, es, lds) => match drawRun2 X rec al nt ia n true Tn al 0 cs T Hf [] with
            | none => none
            | some (_, ob2, Tf, ef, lf) => match (regOk al && effsOk al (fstE es)) && (prefN (fstE ef) (fstE es) && sufR al ia (fstE ef) (fstE es)) && (absN Hf n && ef.all fun p => absN p.2 n) with
              | false => none
              | true => match forceP (dstEq Tf Tn al (filChk n (.obj o') Hf ef Ho es (ldAll al Ho es lds (ldAll al Hf ef lf (addLP ob2 ob))))), forceHs (lastE Ho es) with
                | some ob', some H' => some (cs', ob', Tn, H')
                | _, _ => none
        | _, _ => none
      | _, _ => none
    | _, _ => none

section
variable {P : Program} {X : Tabs} (hX : TOk P X)

theorem drawZ_any {rec : St → List Prop × St} (hrec : RecOk hX rec) (ia : Nat) : DrawAny hX (drawZ X rec ia) := by
  intro fn nt H0 R ρ0 w0 cs cs' al T T' H H' ob k h ho hk
  unfold drawZ at h
  split at h
  · simp at h
  rename_i oa hia
  split at h
  case h_2 => simp at h
  rename_i t hop hguard
  split at h
  case h_2 => simp at h
  rename_i o' n hnew hlen
  split at h
  case h_2 => simp at h
  rename_i Ho Hf hHo hHf
  have hHo := forceHs_eq hHo
  have hHf := forceHs_eq hHf
  subst hHo
  subst hHf
  split at h
  · simp at h
  rename_i cs1 ob1 Tn es lds hrun
  split at h
  · simp at h
  rename_i cs2 ob2 Tf ef lf hrun2
  split at h
  · simp at h
  rename_i hchk
  split at h
  case h_2 => simp at h
  rename_i obF HF hfp hfh
  have hfp := forceP_eq hfp
  have hfh := forceHs_eq hfh
  subst hfp
  subst hfh
  simp at h; obtain ⟨rfl, rfl, rfl, rfl⟩ := h
  have hn : n = H.length := lenO_eq hlen
  simp only [Bool.and_eq_true, List.all_eq_true] at hchk
  obtain ⟨⟨⟨hreg, heff⟩, hpre, hsuf⟩, habs0, habs⟩ := hchk
  obtain ⟨ho1, hdst⟩ := dstEq_all ho
  obtain ⟨ho2, hfil⟩ := filChk_all ho1
  obtain ⟨ho3, hldo⟩ := ldAll_all ho2
  obtain ⟨ho4, hldf⟩ := ldAll_all ho3
  obtain ⟨hof, hoo⟩ := addLP_all ho4
  have hd1 : dstsOk al = true := by have := hreg; simp only [regOk, Bool.and_eq_true] at this; exact this.1
  obtain ⟨_, hF⟩ := drawRun2_facts (P := P) hX hrec hrun hd1 hoo
  obtain ⟨_, hG⟩ := drawRun2_facts (P := P) hX hrec hrun2 hd1 hof
  have hTT : ∀ t, look Tn t = look Tf t := by
    intro t
    by_cases he : ∃ o ∈ al, o.dst = some t
    · obtain ⟨o, ho, hd⟩ := he
      exact hdst o ho t hd
    · have hno : ∀ o ∈ al, o.dst ≠ some t := fun o ho hd => he ⟨o, ho, hd⟩
      rw [hF.agree t hno, hG.agree t hno]
  have hlf : (fstE ef).length = ef.length := by rw [fstE_map]; simp
  have hle : (fstE es).length = es.length := by rw [fstE_map]; simp
  have hna : ia ∉ fstE es := by
    intro hm
    rw [fstE_map, List.mem_map] at hm
    obtain ⟨p, hp1, hp2⟩ := hm
    obtain ⟨q, hq⟩ := List.getElem?_of_mem hp1
    exact (hF.eff q p.1 p.2 (by rw [hq])).1.1 hp2
  let hp : Nat → Bool → List HE := fun c b => if b then (((H ++ [HE.obj o']) :: es.map (·.2))[c]?).getD [] else (((H ++ [HE.absent]) :: ef.map (·.2))[c]?).getD []
  have hpo : ∀ c, c ≤ es.length → (((H ++ [HE.obj o']) :: es.map (·.2))[c]?) = some (hp c true) := by
    intro c hc
    have : c < ((H ++ [HE.obj o']) :: es.map (·.2)).length := by simp; omega
    simp only [hp, if_true]
    rw [List.getElem?_eq_getElem this]; rfl
  have hpf : ∀ c, c ≤ ef.length → (((H ++ [HE.absent]) :: ef.map (·.2))[c]?) = some (hp c false) := by
    intro c hc
    have : c < ((H ++ [HE.absent]) :: ef.map (·.2)).length := by simp; omega
    simp only [hp, Bool.false_eq_true, if_false]
    rw [List.getElem?_eq_getElem this]; rfl
  have hcl : ∀ c, c ≤ (fstE es).length → StOk al ia (fstE es) c false → c ≤ ef.length := by
    intro c hc hok
    rcases Nat.lt_or_ge ef.length c with h1 | h1
    · exfalso
      have hlt : ef.length < (fstE es).length := by omega
      have he := List.getElem?_eq_getElem hlt
      have := hsuf
      have h2 := sufR_get hsuf ef.length _ (by omega) he
      have h3 := hok rfl ef.length _ h1 he
      rw [h3] at h2; simp at h2
    · exact h1
  intro ρ a w hs
  have hroom := hs.hs.room
  have hs' : Sat (FEnv P X.TE hX.te fn nt H0 R ρ0 w0) ρ T (H ++ [.absent]) a w := by
    have hfun : there (H ++ [.absent]) = there H := funext hroom.2
    exact ⟨hroom.1, by rw [hfun]; exact hs.ts, fun x hx => by obtain ⟨q1, q2⟩ := hs.base x hx; exact ⟨q1, by rw [hfun]; exact q2⟩⟩
  refine draw_any2 (E := FEnv P X.TE hX.te fn nt H0 R ρ0 w0) (hp := hp) (effs := fstE es) (ia := ia) (oa := oa) (Tn := Tn) hreg heff hia hna (by simp [hp]) ?_ ?_ ?_ ?_ ?_ ρ a w hs'
  · intro t v hv hd
    rw [← hF.agree t (fun o ho => ?_)]
    · exact hv
    · obtain ⟨i, hi⟩ := List.getElem?_of_mem ho
      exact hd i o hi
  · intro c b j o hc hj hmem hne hm hok hoff
    refine dstep_qE (X := X) rfl hX.et hreg hj ?_
    have hsp := meets_spec hm
    cases b with
    | true => exact run_quiet (E := FEnv P X.TE hX.te fn nt H0 R ρ0 w0) hreg hF hldo (fun _ => rfl) hj hne (by simp) hmem (hpo c (by omega)) hsp
    | false =>
      have hcf := hcl c hc hok
      refine run_quiet (E := FEnv P X.TE hX.te fn nt H0 R ρ0 w0) hreg hG hldf hTT hj hne (by simpa using hoff rfl) (fun hm' => hmem ?_) (hpf c hcf) (fun q e hq => hsp q e (prefN_get hpre q e hq))
      obtain ⟨q, hq⟩ := List.getElem?_of_mem hm'
      exact List.mem_of_getElem? (prefN_get hpre q j hq)
  · intro c b j o hj ho' hok hoff
    have hce : c < es.length := by
      rcases Nat.lt_or_ge c (fstE es).length with h1 | h1
      · omega
      · rw [List.getElem?_eq_none h1] at hj; simp at hj
    cases b with
    | true => exact run_eff (E := FEnv P X.TE hX.te fn nt H0 R ρ0 w0) rfl hX.et hreg hF (fun _ => rfl) hj ho' (hpo c (by omega)) (hpo (c + 1) (by omega))
    | false =>
      have hcf : c < ef.length := by
        rcases Nat.lt_or_ge c ef.length with h1 | h1
        · exact h1
        · have := sufR_get hsuf c j (by omega) hj
          rw [hoff rfl] at this; simp at this
      have hjf : (fstE ef)[c]? = some j := by
        have hlt : c < (fstE ef).length := by omega
        have he := List.getElem?_eq_getElem hlt
        have := prefN_get hpre c _ he
        rw [hj] at this; simp at this
        rw [he, ← this]
      exact run_eff (E := FEnv P X.TE hX.te fn nt H0 R ρ0 w0) rfl hX.et hreg hG hTT hjf ho' (hpf c (by omega)) (hpf (c + 1) (by omega))
  · intro c hc hm hok
    have hcf := hcl c hc hok
    have hset : hp c true = (hp c false).set n (.obj o') := by
      have h1 := hfil c _ (hpf c hcf)
      have h2 := hpo c (by omega)
      rw [h1] at h2
      simp at h2; exact h2.symm
    rw [hset]
    refine dstep_fill (E := FEnv P X.TE hX.te fn nt H0 R ρ0 w0) (X := X) rfl hX.et hreg hia hguard (by rw [stepE_alloc (T' := []) (H' := []) hop, hop]; exact hnew) ?_ ?_
    · cases c with
      | zero => simp only [hp]; simpa using absN_get habs0
      | succ c =>
        have hlt : c < ef.length := by omega
        have h1 := hpf (c + 1) hcf
        simp only [List.getElem?_cons_succ, List.getElem?_map] at h1
        rw [List.getElem?_eq_getElem hlt] at h1
        simp at h1
        rw [← h1]
        exact absN_get (habs _ (List.getElem_mem hlt))
    · exact fun d hd => hF.cell ia oa hia (by omega) d hd
  · have : hp (fstE es).length true = lastE (H ++ [.obj o']) es := by
      have h1 := hpo (fstE es).length (by omega)
      rw [lastE_get] at h1
      simpa using h1.symm
    rw [this]; exact hk

variable {Wb : (Nat → Nat × Nat) → World → Prop} {R : SV → List HE → Prop} {fn : Func} {nt : Nat} {H0 : List HE} {k : List KI} {T : List (Nat × SV)} {H : List HE} {cs : List Ch} {fs : List Fm}

/-- A region that draws, where operation ia makes a cell that has no order against the calls. -/
theorem ss_drawZ (ia : Nat) (cs : List Ch) (m : Nat) {cs0 cs' : List Ch} {ob : List Prop} {T' : List (Nat × SV)} {H' : List HE} {id : Nat} {ops : Array Oper}
    (h : drawZ X (fun s => runX X [] m s []) ia cs ops.toList nt T H = some (cs', ob, T', H')) (ho : conjP ob) (hs : SS hX Wb R ⟨cs', fs, fn, nt, H0, k, T', H'⟩) :
    SS hX Wb R ⟨cs0, fs, fn, nt, H0, .code (.region id ops true) :: k, T, H⟩ := by
  intro ρ0 w0 hw ρ a w hsat
  have hrec : RecOk hX (fun s => runX X [] m s []) := fun Wb R0 s h1 h2 => (runX_ok hX m [] Wb R0 s [] h1 h2).1
  simp only [WK]
  have := drawZ_any hX hrec ia fn nt H0 (Rof hX Wb R fs) ρ0 w0 cs cs' ops.toList T T' H H' ob k h (conjP_all ho) (hs ρ0 w0 hw) ρ a w hsat
  have h2 := wp_region_any (id := id) hX.mo this
  rw [Array.toArray_toList] at h2
  exact h2
end
end Go.Hx

/-
  Regions gone through by the machine, in frames of rounds, and in frames with deferred calls.
-/
namespace Go.Hx
open Go

/-- The frames that are gone over: a function's own (none), or a round's. -/
def Fw (rd : Option Nat) : Fence := { Fence.wide with round := rd }
theorem callsIn_fw {rd : Option Nat} {n : Nat} {P : Program} {f : FuncId} {args : Array Value} {w : World} {R : Ending → World → Prop} : CallsIn (Fw rd) n P f args w R ↔ Calls P f args w R :=
  (show CallsIn Fence.wide n P f args w R ↔ Calls P f args w R from callsIn_wide)
theorem rowsIn_fw {rd : Option Nat} {n : Nat} {P : Program} {row : String} {args : Array Value} {w : World} {R : Value → World → Prop} (h : Rows P row args w R) : RowsIn (Fw rd) n P row args w R :=
  fun c cs _ => let ⟨v, w', r, s⟩ := h c cs; ⟨v, w', r, (show StepsIn (Machine.fenced P Fence.wide) P _ _ from stepsIn_wide.2 s)⟩
def ndO (o : Oper) : Bool := match o.op with
  | .defer _ => false
  | _ => true
theorem ndO_ne {o : Oper} (h : ndO o = true) : ∀ c, o.op ≠ .defer c := by
  intro c e
  simp [ndO, e] at h
def regNd : List Oper → Bool
  | [] => true
  | o :: r => match ndO o with
    | true => regNd r
    | false => false
theorem regNd_mem : ∀ {l : List Oper}, regNd l = true → ∀ o ∈ l, ndO o = true
  | [], _, o, h => by simp at h
  | p :: r, h, o, ho => by
    simp only [regNd] at h
    split at h
    · rename_i hp
      simp only [List.mem_cons] at ho
      rcases ho with rfl | ho
      · exact hp
      · exact regNd_mem h o ho
    · simp at h
section
variable {rd : Option Nat} {P : Program} {D : List Deferred} {Qs Q : Exit → Act → World → Prop}
/-- With more deferred calls. -/
def lift (D : List Deferred) (a : Act) : Act := { a with defers := a.defers ++ D }
theorem lift_put {a : Act} {dst : Option Tmp} {v : Value} : lift D (a.put dst v) = (lift D a).put dst v := by cases dst <;> rfl
theorem lift_eval {a : Act} : (lift D a).eval = a.eval := by funext o; cases o <;> rfl
theorem nq_of (hQ : ∀ e a w, Qs e a w → e = .normal) {e : Exit} {a : Act} {w : World} (he : e ≠ .normal) (h : Qs e a w) : False := he (hQ _ _ _ h)
theorem nl_of (hQ : ∀ e a w, Qs e a w → e = .normal) : ¬ LetsOut Qs := fun ⟨_, _, hq⟩ => nq_of hQ (by simp) hq
/-- What an operation comes to, with more deferred calls. -/
theorem upon_in {o : Oper} {a : Act} {K K' : Act → World → Prop} (hQ : ∀ e a w, Qs e a w → e = .normal) (hK : ∀ a w, K a w → K' (lift D a) w) {r : Result Next}
    (h : o.upon P a K Qs r) : o.uponIn (Fw rd) 0 P (lift D a) K' Q r := by
  unfold Oper.upon at h
  split at h
  · rw [Oper.uponIn_value, ← lift_put]; exact hK _ _ h
  · rw [Oper.uponIn_skip, ← lift_put]; exact hK _ _ h
  · rw [Oper.uponIn_defer]
    have := hK _ _ h
    rw [lift_put] at this
    exact this
  · refine ⟨fun e => by simp [Fw, Fence.wide] at e, callsIn_fw.2 (Calls.mono h fun e w' he => ?_)⟩
    cases e with
    | returned v =>
      show K' ((lift D a).put o.dst v) w'
      rw [← lift_put]; exact hK _ _ he
    | panicked c => exact (nq_of hQ (by simp) he).elim
    | outgrown => exact (nl_of hQ he).elim
  · exact ⟨fun e => by simp [Fw, Fence.wide] at e, (rowsIn_fw h).mono fun v w' he => by rw [← lift_put]; exact hK _ _ he⟩
  · exact (nq_of hQ (by simp) h).elim
  · exact h.elim
theorem wp_in {o : Oper} {a : Act} {w : World} {K K' : Act → World → Prop} (hQ : ∀ e a w, Qs e a w → e = .normal) (hn : ndO o = true) (hK : ∀ a w, K a w → K' (lift D a) w) (h : o.wp P a w K Qs) : o.wpIn (Fw rd) 0 P (lift D a) w K' Q :=
  ⟨fun _ _ => trivial, by rw [Oper.semAt_eq _ _ _ (ndO_ne hn), lift_eval]; exact upon_in hQ hK h⟩
theorem wl_in {ops : Array Oper} (hQ : ∀ e a w, Qs e a w → e = .normal) (hq : ∀ a w, Qs .normal a w → Q .normal (lift D a) w) : ∀ {l : List Oper}, (∀ o ∈ l, ndO o = true) → ∀ {a : Act} {w : World}, wpList P ops Qs l a w → wpListIn (Fw rd) 0 P ops Q l (lift D a) w
  | [], _, _, _, h => hq _ _ h
  | o :: rest, hn, a, w, h => by
    unfold wpList at h
    unfold wpListIn
    have e : (lift D a).tmps = a.tmps := rfl
    rw [e]
    split
    · rename_i hw
      rw [if_pos hw] at h
      rcases h with h | h
      · exact wp_in hQ (hn o (by simp)) (fun a w hh => wl_in hQ hq (fun o ho => hn o (by simp [ho])) hh) h
      · exact (nl_of hQ h.2).elim
    · rename_i hw
      rw [if_neg hw] at h
      refine ⟨fun _ _ => trivial, ?_⟩
      rw [← lift_put]
      exact wl_in hQ hq (fun o ho => hn o (by simp [ho])) h
theorem wo_in {ops : Array Oper} {i : Nat} {K K' : Act → World → Prop} (hQ : ∀ e a w, Qs e a w → e = .normal) (hn : regNd ops.toList = true) (hK : ∀ a w, K a w → K' (lift D a) w) {a : Act} {w : World} (h : wpOp P ops Qs i K a w) : wpOpIn (Fw rd) 0 P ops Q i K' (lift D a) w := by
  unfold wpOp at h
  unfold wpOpIn
  have e : (lift D a).tmps = a.tmps := rfl
  split
  · rename_i hi
    rw [hi] at h
    exact hK _ _ h
  · rename_i o hi
    rw [hi] at h
    dsimp only at h
    rw [e]
    split
    · rename_i hw
      rw [if_pos hw] at h
      rcases h with h | h
      · exact wp_in hQ (regNd_mem hn o (by have := Array.mem_of_getElem? hi; simpa using this)) hK h
      · exact (nl_of hQ h.2).elim
    · rename_i hw
      rw [if_neg hw] at h
      refine ⟨fun _ _ => trivial, ?_⟩
      rw [← lift_put]
      exact hK _ _ h
theorem wn_in {md : Region.Mode} {ops : Array Oper} (hQ : ∀ e a w, Qs e a w → e = .normal) (hq : ∀ a w, Qs .normal a w → Q .normal (lift D a) w) (hn : regNd ops.toList = true) : ∀ (fuel : Nat) (listed : Array Bool) (a : Act) (w : World), wpAny P md ops Qs fuel listed a w → wpAnyIn (Fw rd) 0 P md ops Q fuel listed (lift D a) w
  | 0, _, _, _, h => ⟨h.1, hq _ _ h.2⟩
  | fuel + 1, _, _, _, h => ⟨fun e => hq _ _ (h.1 e), fun i hi => wo_in hQ hn (fun _ _ hh => wn_in hQ hq hn fuel _ _ _ hh) (h.2 i hi)⟩
end
section
variable {P : Program} {X : Tabs} (hX : TOk P X) {fn : Func} {nt : Nat} {H : List HE} {T T1 : List (Nat × SV)} {H1 : List HE} {ρ : Nat → Nat × Nat} {W : World} {a : Act} {rd : Option Nat} {D : List Deferred} {Q : Exit → Act → World → Prop}
theorem wk_lp_normal {J : Act → World → Prop} (e : Exit) (a : Act) (w : World) (h : WK P (FEnv P X.TE hX.te fn nt H Not2 ρ W).Q [.lp J] e a w) : e = .normal := by
  cases e with
  | normal => rfl
  | _ => exact (not2_Q hX _ _ _ h).elim
/-- A region gone through by the machine, in whatever frame. -/
theorem region_in {id : Nat} {ops : Array Oper} (hn : regNd ops.toList = true) (hs : Sat (FEnv P X.TE hX.te fn nt H Not2 ρ W) ρ T H a W)
    (h : ∀ J : Act → World → Prop, (∀ cs T H', Sub (FEnv P X.TE hX.te fn nt H Not2 ρ W) T H' T1 H1 → SS hX (At ρ W) Not2 ⟨cs, [], fn, nt, H, [.lp J], T, H'⟩) → SS hX (At ρ W) Not2 ⟨[], [], fn, nt, H, [.ops ops.toList ops.toList, .lp J], T, H⟩)
    (hq : ∀ ρ' a' w', Sat (FEnv P X.TE hX.te fn nt H Not2 ρ W) ρ' T1 H1 a' w' → Q .normal (lift D a') w') : (Code.region id ops false).wpIn (Fw rd) 0 P Q (lift D a) W := by
  let J : Act → World → Prop := fun a' w' => ∃ ρ', Sat (FEnv P X.TE hX.te fn nt H Not2 ρ W) ρ' T1 H1 a' w'
  have hw := sw_ss hX (h J fun cs T H' hsub => ss_sw hX fun ρ1 a1 w1 hs1 => hsub ρ1 a1 w1 hs1) ρ a W hs
  refine wpIn_region_list (wl_in (fun e a w => wk_lp_normal hX e a w) (fun a' w' hJ => ?_) (regNd_mem hn) (by
    have h2 : wpList P ops.toList.toArray (WK P (FEnv P X.TE hX.te fn nt H Not2 ρ W).Q [.lp J]) ops.toList a W := hw
    rw [Array.toArray_toList] at h2
    exact h2))
  obtain ⟨ρ', hs'⟩ := hJ
  exact hq ρ' a' w' hs'
/-- .. that draws. -/
theorem region_any_in {id : Nat} {ops : Array Oper} (m : Nat) (cs : List Ch) {cs' : List Ch} {ob : List Prop} (hn : regNd ops.toList = true) (hs : Sat (FEnv P X.TE hX.te fn nt H Not2 ρ W) ρ T H a W)
    (h : drawX X (fun s => runX X [] m s []) cs ops.toList nt T H = some (cs', ob, T1, H1)) (ho : conjP ob)
    (hq : ∀ ρ' a' w', Sat (FEnv P X.TE hX.te fn nt H Not2 ρ W) ρ' T1 H1 a' w' → Q .normal (lift D a') w') : (Code.region id ops true).wpIn (Fw rd) 0 P Q (lift D a) W := by
  let J : Act → World → Prop := fun a' w' => ∃ ρ', Sat (FEnv P X.TE hX.te fn nt H Not2 ρ W) ρ' T1 H1 a' w'
  have hrec : RecOk hX (fun s => runX X [] m s []) := fun Wb R0 s h1 h2 => (runX_ok hX m [] Wb R0 s [] h1 h2).1
  have hw := drawX_any hX hrec fn nt H Not2 ρ W cs cs' ops.toList T T1 H H1 ob [.lp J] h (conjP_all ho) (fun ρ1 a1 w1 hs1 => ⟨ρ1, hs1⟩) ρ a W hs
  rw [Array.toArray_toList] at hw
  refine wpIn_region_any hX.mo (wn_in (fun e a w => wk_lp_normal hX e a w) (fun a' w' hJ => ?_) hn _ _ _ _ hw)
  obtain ⟨ρ', hs'⟩ := hJ
  exact hq ρ' a' w' hs'
end
end Go.Hx

