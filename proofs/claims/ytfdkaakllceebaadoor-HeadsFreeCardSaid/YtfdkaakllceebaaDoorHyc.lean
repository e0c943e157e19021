/- The heap machine, part 3: values over handles, and how a program of this language goes over them; for every program. -/
import Derived.Test.YtfdkaakllceebaaDoorHyb
/-
  The machine with frames: the run is sound; how it is used.
-/
namespace Go.Hx
open Go

section
variable {P : Program} {X : Tabs} (hX : TOk P X)

theorem bind_back {al : List Oper} (hreg : regOk al = true) {j : Nat} {o : Oper} (ho : al[j]? = some o) {i : Nat} (hi : bindsOn o i = true) : i < j := by
  simp only [regOk, Bool.and_eq_true, List.all_eq_true] at hreg
  have hlt : j < al.length := by
    rcases Nat.lt_or_ge j al.length with h1 | h1
    · exact h1
    · rw [List.getElem?_eq_none h1] at ho; simp at ho
  have := hreg.2 j (List.mem_range.2 hlt)
  rw [ho] at this
  simp only [Bool.and_eq_true, List.all_eq_true] at this
  simp only [bindsOn, List.any_eq_true, Bool.and_eq_true] at hi
  obtain ⟨e, he1, he2, he3⟩ := hi
  have h4 := this.1.1 e he1
  rw [he2] at h4
  have := Nat.eq_of_beq_eq_true he3
  simp at h4
  have h5 : e.on < j := blt_lt (by simpa using h4)
  omega

theorem scanR_ge {al : List Oper} (hreg : regOk al = true) {e : Nat} : ∀ (l : List Oper) (i : Nat) (S : List Nat), (∀ (j : Nat) (o : Oper), l[j]? = some o → al[i + j]? = some o) → (∀ x ∈ S, e ≤ x) → ∀ x ∈ scanR l i S, e ≤ x
  | [], _, _, _, hS => hS
  | o :: r, i, S, hl, hS => by
    have hl' : ∀ j p, r[j]? = some p → al[i + 1 + j]? = some p := fun j p hp => by
      have := hl (j + 1) p (by simpa using hp)
      rw [show i + 1 + j = i + (j + 1) from by omega]; exact this
    have ho : al[i]? = some o := by simpa using hl 0 o (by simp)
    unfold scanR
    split
    · rename_i ha
      refine scanR_ge hreg r (i + 1) (i :: S) hl' ?_
      intro x hx
      simp only [List.mem_cons] at hx
      rcases hx with rfl | hx
      · simp only [anyB, List.any_eq_true, Bool.and_eq_true] at ha
        obtain ⟨ed, h1, h2, h3⟩ := ha
        have q1 := hS ed.on (memN_iff.1 h3)
        have q2 := bind_back hreg ho (i := ed.on) (by
          simp only [bindsOn, List.any_eq_true, Bool.and_eq_true]
          exact ⟨ed, h1, h2, Nat.beq_refl _⟩)
        omega
      · exact hS x hx
    · exact scanR_ge hreg r (i + 1) S hl' hS
theorem reachB_le {al : List Oper} (hreg : regOk al = true) {e f : Nat} (h : reachB al e f = true) : e ≤ f := by
  simp only [reachB, Bool.or_eq_true] at h
  rcases h with h | h
  · rw [Nat.eq_of_beq_eq_true h]; omega
  · exact scanR_ge hreg al 0 [e] (fun j o hj => by simpa using hj) (fun x hx => by simp at hx; omega) f (memN_iff.1 h)

theorem ldChk_all {al : List Oper} {j h : Nat} : ∀ {es : List (Nat × List HE)} {H : List HE} {acc : List Prop}, AllP (ldChk al j h H es acc) → AllP acc ∧
    ∀ (q e : Nat) (Hq L : List HE), (fstE es)[q]? = some e → (H :: es.map (·.2))[q]? = some Hq → (H :: es.map (·.2))[q + 1]? = some L → reachB al e j = false → reachB al j e = false → getH Hq h = getH L h
  | [], H, acc, ha => ⟨ha, fun q e Hq L hq => by simp [fstE] at hq⟩
  | (e, H') :: r, H, acc, ha => by
    simp only [ldChk] at ha
    have step : ∀ {acc'}, AllP (ldChk al j h H' r acc') → (AllP acc' → AllP acc ∧ (reachB al e j = false → reachB al j e = false → getH H h = getH H' h)) → AllP acc ∧
        ∀ (q e' : Nat) (Hq L : List HE), (fstE ((e, H') :: r))[q]? = some e' → (H :: ((e, H') :: r).map (·.2))[q]? = some Hq → (H :: ((e, H') :: r).map (·.2))[q + 1]? = some L → reachB al e' j = false → reachB al j e' = false → getH Hq h = getH L h := by
      intro acc' h1 h2
      obtain ⟨k1, k2⟩ := ldChk_all h1
      obtain ⟨k3, k4⟩ := h2 k1
      refine ⟨k3, fun q e' Hq L hq hHq hL r1 r2 => ?_⟩
      cases q with
      | zero =>
        simp [fstE] at hq hHq hL; subst hq; subst hHq; subst hL
        exact k4 r1 r2
      | succ q => exact k2 q e' Hq L (by simpa [fstE] using hq) (by simpa using hHq) (by simpa using hL) r1 r2
    split at ha
    · rename_i hr
      exact step ha fun h1 => ⟨h1, fun r1 => by rw [hr] at r1; simp at r1⟩
    · split at ha
      · rename_i hr
        exact step ha fun h1 => ⟨h1, fun _ r1 => by rw [hr] at r1; simp at r1⟩
      · exact step ha fun h1 => ⟨fun p hp => h1 p (by simp [hp]), fun _ _ => h1 _ (by simp)⟩

theorem ldAll_all {al : List Oper} {H : List HE} {es : List (Nat × List HE)} : ∀ {lds : List (Nat × Nat)} {acc : List Prop}, AllP (ldAll al H es lds acc) → AllP acc ∧ ∀ j h, (j, h) ∈ lds → ∃ acc', AllP (ldChk al j h H es acc')
  | [], acc, ha => ⟨ha, fun j h hm => by simp at hm⟩
  | (j, h) :: r, acc, ha => by
    simp only [ldAll] at ha
    obtain ⟨h1, h2⟩ := ldAll_all ha
    refine ⟨(ldChk_all h1).1, fun j' h' hm => ?_⟩
    simp only [List.mem_cons, Prod.mk.injEq] at hm
    rcases hm with ⟨rfl, rfl⟩ | hm
    · exact ⟨_, h1⟩
    · exact h2 j' h' hm

theorem meets_spec {al : List Oper} {j : Nat} {o : Oper} : ∀ {l : List Nat} {c : Nat}, meets al j o l c = true → ∀ (q e : Nat), l[q]? = some e → (q < c → reachB al j e = false) ∧ (c ≤ q → reachB al e j = false)
  | [], _, _, q, e, hq => by simp at hq
  | x :: r, 0, h, q, e, hq => by
    simp only [meets, Bool.and_eq_true, Bool.not_eq_true'] at h
    refine ⟨fun h0 => by omega, fun _ => ?_⟩
    cases q with
    | zero => simp at hq; subst hq; exact h.1.2
    | succ q => exact (meets_spec h.2 q e (by simpa using hq)).2 (by omega)
  | x :: r, c + 1, h, q, e, hq => by
    simp only [meets, Bool.and_eq_true, Bool.not_eq_true'] at h
    cases q with
    | zero => simp at hq; subst hq; exact ⟨fun _ => h.1.2, fun h0 => by omega⟩
    | succ q =>
      obtain ⟨k1, k2⟩ := meets_spec h.2 q e (by simpa using hq)
      exact ⟨fun h0 => k1 (by omega), fun h0 => k2 (by omega)⟩

theorem lastE_get : ∀ (es : List (Nat × List HE)) (H : List HE), (H :: es.map (·.2))[(fstE es).length]? = some (lastE H es)
  | [], H => by simp [fstE, lastE]
  | (e, H') :: r, H => by
    have := lastE_get r H'
    simpa [fstE, lastE] using this

theorem drawX_any {rec : St → List Prop × St} (hrec : RecOk hX rec) : DrawAny hX (drawX X rec) := by
  intro fn nt H0 R ρ0 w0 cs cs' al T T' H H' ob k h ho hk
  unfold drawX at h
  split at h
  · rename_i cs1 ob1 Tn es lds hrun
    split at h
    · rename_i hreg heff
      split at h
      case h_2 => simp at h
      rename_i obF HF hfp hfh
      have hfp' := forceP_eq hfp
      have hfh' := forceHs_eq hfh
      subst hfp'
      subst hfh'
      simp at h; obtain ⟨rfl, rfl, rfl, rfl⟩ := h
      obtain ⟨ho1, hld⟩ := ldAll_all ho
      have hdst : dstsOk al = true := by simp only [regOk, Bool.and_eq_true] at hreg; exact hreg.1
      obtain ⟨_, hF⟩ := drawRun_facts hX hrec hrun hdst ho1
      -- what is looked at stands ahead
      have huse : ∀ {j : Nat} {o : Oper}, al[j]? = some o → ∀ t, (t ∈ usesT o.op.operands.toList ∨ t ∈ guardT al o.guard) → ∀ o' ∈ al.drop j, o'.dst ≠ some t := by
        intro j o hj t ht o' ho' hd
        obtain ⟨m, hm⟩ := List.getElem?_of_mem ho'
        rw [List.getElem?_drop] at hm
        have hlt : j < al.length := by
          rcases Nat.lt_or_ge j al.length with h1 | h1
          · exact h1
          · rw [List.getElem?_eq_none h1] at hj; simp at hj
        have hr := hreg
        simp only [regOk, Bool.and_eq_true, List.all_eq_true] at hr
        have := hr.2 j (List.mem_range.2 hlt)
        rw [hj] at this
        simp only [Bool.and_eq_true] at this
        have hb : bindsOn o (j + m) = true := by
          rcases ht with ht | ht
          · exact usesOk_get this.1.2 ht hm hd
          · exact usesOk_get this.2 ht hm hd
        have := bind_back hreg hj hb
        omega
      refine draw_any (E := FEnv P X.TE hX.te fn nt H0 R ρ0 w0) (hps := H :: es.map (·.2)) (effs := fstE es) (Hl := lastE H es) hreg heff (by simp [fstE_map, Nat.beq_refl]) (by simp) (lastE_get es H) ?_ ?_ ?_ hk
      · intro t v hv hd
        rw [← hF.agree t (fun o ho => ?_)]
        · exact hv
        · obtain ⟨i, hi⟩ := List.getElem?_of_mem ho
          exact hd i o hi
      · intro c Hc hc j o hj hmem hmeets
        obtain ⟨Tj, Hj, c0, h1, h2, h3, h4, h5⟩ := hF.quiet j o hj (by simpa using hmem)
        rw [Nat.zero_add] at h5
        have hg : guardF al Tn o.guard = guardF al Tj o.guard := guardF_congr fun t ht => h3 t (huse hj t (.inr ht))
        have hsp := meets_spec hmeets
        refine dstep_qE (X := X) rfl hX.et hreg hj ?_
        rcases h4 with ⟨g1, g2⟩ | ⟨g1, b, v, g2, g3, g4⟩
        · exact .inl ⟨by rw [hg]; exact g1, g2⟩
        · refine .inr ⟨by rw [hg]; exact g1, b, v, ?_, g3, g4⟩
          have hcg : ∀ H, stepE X Tn H o.op = stepE X Tj H o.op := fun H => stepE_congr fun t ht => h3 t (huse hj t (.inl ht))
          rw [hcg]
          refine stepE_heap g2 fun x hx => ?_
          obtain ⟨acc, hacc⟩ := hld j x (h5 g1 x hx)
          have hch := (ldChk_all hacc).2
          have hlen : (fstE es).length = es.length := by rw [fstE_map]; simp
          have get : ∀ q, q ≤ es.length → ∃ Hq, (H :: es.map (·.2))[q]? = some Hq := by
            intro q hq
            have : q < (H :: es.map (·.2)).length := by simp; omega
            exact ⟨_, List.getElem?_eq_getElem this⟩
          have lt_of : ∀ {q : Nat} {Hq : List HE}, (H :: es.map (·.2))[q]? = some Hq → q ≤ es.length := by
            intro q Hq hq
            rcases Nat.lt_or_ge q (H :: es.map (·.2)).length with h1 | h1
            · simp at h1; omega
            · rw [List.getElem?_eq_none h1] at hq; simp at hq
          have step : ∀ q, q < es.length → (q < c → q < c0 → False) → (c0 ≤ q → c ≤ q → False) → ∀ Hq L, (H :: es.map (·.2))[q]? = some Hq → (H :: es.map (·.2))[q + 1]? = some L → getH Hq x = getH L x := by
            intro q hq n1 n2 Hq L hHq hL
            have hqe : q < (fstE es).length := by omega
            have he := List.getElem?_eq_getElem hqe
            have hiff := h2 q _ he
            rw [Nat.zero_add] at hiff
            have hne : (fstE es)[q] ≠ j := by
              intro e
              exact hmem (by rw [← e]; exact List.getElem_mem hqe)
            obtain ⟨m1, m2⟩ := hsp q _ he
            refine hch q _ Hq L he hHq hL ?_ ?_
            · by_cases hqc : c ≤ q
              · exact m2 hqc
              · -- q < c: then c0 ≤ q
                have h0 : ¬ q < c0 := fun h => n1 (by omega) h
                cases hb : reachB al (fstE es)[q] j with
                | false => rfl
                | true =>
                  have := reachB_le hreg hb
                  exact absurd (hiff.2 (by omega)) h0
            · by_cases hqc : q < c
              · exact m1 hqc
              · have h0 : q < c0 := by
                  rcases Nat.lt_or_ge q c0 with h | h
                  · exact h
                  · exact (n2 h (by omega)).elim
                cases hb : reachB al j (fstE es)[q] with
                | false => rfl
                | true =>
                  have := reachB_le hreg hb
                  have := hiff.1 h0
                  omega
          have chain : ∀ n a, (a + n ≤ es.length) → (∀ q, a ≤ q → q < a + n → (q < c → q < c0 → False) ∧ (c0 ≤ q → c ≤ q → False)) → ∀ Ha Hb, (H :: es.map (·.2))[a]? = some Ha → (H :: es.map (·.2))[a + n]? = some Hb → getH Ha x = getH Hb x := by
            intro n
            induction n with
            | zero => intro a _ _ Ha Hb ha hb; rw [Nat.add_zero, ha] at hb; simp at hb; rw [hb]
            | succ n ih =>
              intro a hle hq Ha Hb ha hb
              obtain ⟨Hm, hm⟩ := get (a + n) (by omega)
              rw [ih a (by omega) (fun q h1 h2 => hq q h1 (by omega)) Ha Hm ha hm]
              obtain ⟨n1, n2⟩ := hq (a + n) (by omega) (by omega)
              exact step (a + n) (by omega) n1 n2 Hm Hb hm hb
          have hl1 := lt_of h1
          have hl2 := lt_of hc
          rcases Nat.le_total c c0 with hle | hle
          · exact (chain (c0 - c) c (by omega) (fun q a1 a2 => ⟨fun b1 _ => by omega, fun b1 _ => by omega⟩) Hc Hj hc (by rw [show c + (c0 - c) = c0 from by omega]; exact h1)).symm
          · exact chain (c - c0) c0 (by omega) (fun q a1 a2 => ⟨fun _ b1 => by omega, fun _ b1 => by omega⟩) Hj Hc h1 (by rw [show c0 + (c - c0) = c from by omega]; exact hc)
      · intro c Hc Hc' hc hc' j o hj ho'
        have hje : ∃ L, es[c]? = some (j, L) := by
          rw [fstE_map] at hj
          simp at hj
          exact hj
        obtain ⟨L, hL⟩ := hje
        obtain ⟨j', o2, Tj, Hq, e1, e2, e3, e4, e5, e6⟩ := hF.eff c j L hL
        rw [Nat.zero_add] at e1; subst e1
        rw [ho'] at e2; simp at e2; subst e2
        rw [hc] at e3; simp at e3; subst e3
        have hLc : Hc' = L := by
          have : (H :: es.map (·.2))[c + 1]? = some L := by simp [hL]
          rw [hc'] at this; simpa using this
        subst hLc
        have hg : guardF al Tn o.guard = guardF al Tj o.guard := guardF_congr fun t ht => e4 t (huse ho' t (.inr ht))
        rcases e6 with ⟨e, b, T2, s1, s2, s3, s4⟩ | ⟨cc, f, as, V, s1, s2, ⟨fn', s3, s4, s5⟩, s6, s7⟩
        · have hcg : stepE X Tn Hc o.op = stepE X Tj Hc o.op := stepE_congr fun t ht => e4 t (huse ho' t (.inl ht))
          exact dstep_effE (X := X) rfl hX.et hreg ho' (by rw [hg]; exact e5) (by rw [hcg]; exact s1) s2 s3 s4
        · have hcc : calleeF Tn cc = calleeF Tj cc := callee_congr fun t ht => e4 t (huse ho' t (.inl (by rw [s1]; exact ht)))
          exact dstep_call hreg ho' (by rw [hg]; exact e5) s1 (by rw [hcc]; exact s2) s3 s4 s5 s6 s7
    · simp at h
  · simp at h

theorem drawX_ok {rec : St → List Prop × St} (hrec : RecOk hX rec) : DrawOk hX (drawX X rec) := by
  intro fn nt H0 R ρ0 w0 cs cs' al id T T' H H' ob k h ho hk ρ a w hs
  simp only [WK]
  exact wp_region_any hX.mo (drawX_any hX hrec fn nt H0 R ρ0 w0 cs cs' al T T' H H' ob k h ho hk ρ a w hs)

theorem splitL_eq : ∀ {al ini : List Oper} {last : Oper}, splitL al = some (ini, last) → al = ini ++ [last]
  | [], _, _, h => by simp [splitL] at h
  | [o], _, _, h => by simp [splitL] at h; obtain ⟨rfl, rfl⟩ := h; rfl
  | o :: p :: r, ini, last, h => by
    simp only [splitL] at h
    split at h
    · rename_i i l hr
      simp at h; obtain ⟨rfl, rfl⟩ := h
      have := splitL_eq (al := p :: r) hr
      rw [this]; rfl
    · simp at h

theorem lastB_ok {al : List Oper} {last : Oper} (hr : regOk al = true) (h : lastB al last = true) : LastOk al last ∧ ∀ i, bindsOn last i = true → i < al.length := by
  simp only [lastB, Bool.and_eq_true, List.all_eq_true, List.mem_range] at h
  obtain ⟨⟨h1, h2⟩, h3⟩ := h
  refine ⟨⟨fun j o ho i hi => bind_back hr ho hi, h1, fun j o ho i b hg => ?_⟩, fun i hi => ?_⟩
  · have := h3 o (List.mem_of_getElem? ho)
    rw [hg] at this
    exact blt_lt this
  · simp only [bindsOn, List.any_eq_true, Bool.and_eq_true] at hi
    obtain ⟨e, he1, he2, he3⟩ := hi
    have := h2 e he1
    rw [he2] at this
    have h4 := Nat.eq_of_beq_eq_true he3
    subst h4
    exact blt_lt (by simpa using this)

theorem drawY_ok {rec : St → List Prop × St} (hrec : RecOk hX rec) : DrawOk hX (drawY X rec) := by
  intro fn nt H0 R ρ0 w0 cs cs' al id T T' H H' ob k h ho hk
  unfold drawY at h
  split at h
  · exact drawX_ok hX hrec fn nt H0 R ρ0 w0 cs cs' al id T T' H H' ob k h ho hk
  · split at h
    · simp at h
    · rename_i ini last hsp
      split at h
      · simp at h
      · rename_i hlo
        simp only [Bool.and_eq_true] at hlo
        split at h
        · simp at h
        · rename_i cs1 ob1 Tn H1 hd
          split at h
          · simp at h
          · rename_i hg
            split at h
            · simp at h
            · rename_i e he
              split at h
              · simp at h
              · rename_i b T2 H2 ha
                simp at h; obtain ⟨rfl, rfl, rfl, rfl⟩ := h
                obtain ⟨ho1, ho2⟩ := addOP_all ho
                obtain ⟨hL, hlast⟩ := lastB_ok hlo.1 hlo.2
                have hal := splitL_eq hsp
                subst hal
                have hk' : SW (FEnv P X.TE hX.te fn nt H0 R ρ0 w0) (.ops (ini ++ [last]) [last] :: k) Tn H1 :=
                  sw_op (fun a _ => by unfold Region.wanted; rw [hg]) (fun ρ a w h => stepE_ok rfl hX.et h he) (afterF_eq ha) ho2 (fun ρ a w hs => hk ρ a w hs)
                intro ρ a w hs
                simp only [WK]
                refine wp_region_any hX.mo ?_
                have := drawX_any hX hrec fn nt H0 R ρ0 w0 cs cs1 ini T Tn H H1 ob1 _ hd ho1 hk' ρ a w hs
                have hw := wpAny_last (Q := WK P (FEnv P X.TE hX.te fn nt H0 R ρ0 w0).Q k) hL hlast (fun e he => by cases e <;> first | rfl | exact absurd rfl he) (fun a w hn => by
                  have hn : wpList P (ini ++ [last]).toArray (WK P (FEnv P X.TE hX.te fn nt H0 R ρ0 w0).Q k) [last] a w := hn
                  unfold wpOp
                  have ho : (ini ++ [last]).toArray[ini.length]? = some last := by simp
                  rw [ho]
                  exact hn) _ _ a _ (by simp) this
                have e1 : (ini ++ [last]).toArray.size = ini.toArray.size + 1 := by simp
                have e2 : Array.replicate (ini ++ [last]).toArray.size false = (Array.replicate ini.toArray.size false).push false := by
                  rw [e1, Array.replicate_succ]
                rw [e2, e1]; exact hw

theorem runX_ok : ∀ (n : Nat) (bk : List Bk) (Wb : (Nat → Nat × Nat) → World → Prop) (R0 : SV → List HE → Prop) (s : St) (ob : List Prop), AllP (runX X bk n s ob).1 → SS hX Wb R0 (runX X bk n s ob).2 → SS hX Wb R0 s ∧ AllP ob := by
  intro n
  induction n with
  | zero => intro bk Wb R0 s ob ho hs; exact ⟨hs, ho⟩
  | succ n ih =>
    intro bk Wb R0 s ob ho hs
    have hrec : RecOk hX (fun s => runX X [] n s []) := fun Wb R0 s h1 h2 => (ih [] Wb R0 s [] h1 h2).1
    unfold runX at ho hs
    split at ho
    case h_1 hst => rw [hst] at hs; exact ⟨hs, ho⟩
    rename_i hst
    rw [hst] at hs
    simp only at hs
    split at ho
    · rename_i h1
      rw [h1] at hs
      exact ⟨hs, ho⟩
    · rename_i ob' s' h1
      rw [h1] at hs
      simp only at hs
      split at ho
      · obtain ⟨h2, h3⟩ := ih bk Wb R0 s' _ ho hs
        exact ⟨step1_ok hX (drawY_ok hX hrec) h1 (fun p hp => by simp at hp) h2, h3⟩
      · rename_i hne
        split at ho
        · rename_i ob2 hf
          have hs' : SS hX Wb R0 (runX X bk n s' ob2).2 := by
            split at hs
            · exact absurd rfl hne
            · rw [hf] at hs; exact hs
          have hf' := forceP_eq hf
          subst hf'
          obtain ⟨h2, h3⟩ := ih bk Wb R0 s' _ ho hs'
          obtain ⟨h4, h5⟩ := addLP_all h3
          exact ⟨step1_ok hX (drawY_ok hX hrec) h1 h4 h2, h5⟩
        · rename_i hf
          have hs' : SS hX Wb R0 s := by
            split at hs
            · exact absurd rfl hne
            · rw [hf] at hs; exact hs
          exact ⟨hs', ho⟩

theorem runY_ok (n : Nat) (bk : List Bk) (Wb : (Nat → Nat × Nat) → World → Prop) (R0 : SV → List HE → Prop) (s : St) (ho : AllP (runY X bk n s).1) (hs : SS hX Wb R0 (runY X bk n s).2) : SS hX Wb R0 s := by
  unfold runY at ho hs
  split at ho
  · rename_i h1; rw [h1] at hs; exact hs
  · rename_i ob' s' h1
    rw [h1] at hs
    simp only at hs
    obtain ⟨h2, h3⟩ := runX_ok hX n bk Wb R0 s' _ ho hs
    exact step1_ok hX (drawY_ok hX fun Wb R0 s h1 h2 => (runX_ok hX n [] Wb R0 s [] h1 h2).1) h1 h3 h2

variable {Wb : (Nat → Nat × Nat) → World → Prop} {R : SV → List HE → Prop} {fn : Func} {nt : Nat} {H0 : List HE} {k : List KI} {T : List (Nat × SV)} {H : List HE} {cs : List Ch} {fs : List Fm}

/-- On, as far as it can be told, with these choices. -/
theorem sx (cs : List Ch) (n : Nat) {cs0 : List Ch} {ob : List Prop} {s' : St} (h : runY X [] n ⟨cs, fs, fn, nt, H0, k, T, H⟩ = (ob, s')) (ho : conjP ob) (hs : SS hX Wb R s') : SS hX Wb R ⟨cs0, fs, fn, nt, H0, k, T, H⟩ := by
  have := runY_ok hX n [] Wb R ⟨cs, fs, fn, nt, H0, k, T, H⟩
  rw [h] at this
  exact this (conjP_all ho) hs
/-- The same, to a place at most. -/
theorem sxb (bk : List Bk) (cs : List Ch) (n : Nat) {cs0 : List Ch} {ob : List Prop} {s' : St} (h : runY X bk n ⟨cs, fs, fn, nt, H0, k, T, H⟩ = (ob, s')) (ho : conjP ob) (hs : SS hX Wb R s') : SS hX Wb R ⟨cs0, fs, fn, nt, H0, k, T, H⟩ := by
  have := runY_ok hX n bk Wb R ⟨cs, fs, fn, nt, H0, k, T, H⟩
  rw [h] at this
  exact this (conjP_all ho) hs

/-- Where a function began. -/
def At (ρ0 : Nat → Nat × Nat) (w0 : World) : (Nat → Nat × Nat) → World → Prop := fun ρ w => ρ = ρ0 ∧ w = w0

/-- A function, from its first line. -/
theorem gives_x {f : Nat} {c : Code} {args : List SV} (hf : X.FT f = some fn) (hb : fn.body = some c) (hn : Nat.ble args.length fn.ntmps = true)
    {T0 : List (Nat × SV)} (hT : argTF nums args = some T0) (h : ∀ ρ0 w0, SS hX (At ρ0 w0) R ⟨[], [], fn, fn.ntmps, H, [.code c], T0, H⟩) : Gives P f args H R := by
  rw [argTF_nums hT] at h
  exact fn_intro hX.te (hX.ft f fn hf).1 hb _ rfl hn fun ρ w => h ρ w ρ w ⟨rfl, rfl⟩

theorem ss_sw {ρ0 : Nat → Nat × Nat} {w0 : World} (h : SW (FEnv P X.TE hX.te fn nt H0 R ρ0 w0) k T H) : SS hX (At ρ0 w0) R ⟨cs, [], fn, nt, H0, k, T, H⟩ := by
  rintro ρ w ⟨rfl, rfl⟩; exact h
theorem sw_ss {ρ0 : Nat → Nat × Nat} {w0 : World} (h : SS hX (At ρ0 w0) R ⟨cs, [], fn, nt, H0, k, T, H⟩) : SW (FEnv P X.TE hX.te fn nt H0 R ρ0 w0) k T H := h ρ0 w0 ⟨rfl, rfl⟩

/-- A bool that is not told, both ways. -/
theorem ss_bool (t : Nat) {b : Bool} (hl : look T t = some (.bool b)) (ht : b = true → SS hX Wb R ⟨[], fs, fn, nt, H0, k, (t, .tt) :: T, H⟩) (hf : b = false → SS hX Wb R ⟨[], fs, fn, nt, H0, k, (t, .ff) :: T, H⟩) :
    SS hX Wb R ⟨cs, fs, fn, nt, H0, k, T, H⟩ := fun ρ w hw => sw_bool t hl (fun h => ht h ρ w hw) (fun h => hf h ρ w hw)

/-- A branch upon a bool that is not told. -/
theorem ss_cond {t : Nat} {a c : Code} {b : Bool} (hl : look T t = some (.bool b)) (ht : b = true → SS hX Wb R ⟨[], fs, fn, nt, H0, .code a :: k, (t, .tt) :: T, H⟩) (hf : b = false → SS hX Wb R ⟨[], fs, fn, nt, H0, .code c :: k, (t, .ff) :: T, H⟩) :
    SS hX Wb R ⟨cs, fs, fn, nt, H0, .code (.cond (.tmp t) a c) :: k, T, H⟩ := by
  refine ss_bool hX t hl (fun h => ?_) (fun h => ?_)
  · exact fun ρ w hw ρ1 a1 w1 hs => wp_cond_true (ev_tr hs.ts (x := .tmp t) (v := .tt) (by simp [ev, look_cons])).1 (ht h ρ w hw ρ1 a1 w1 hs)
  · exact fun ρ w hw ρ1 a1 w1 hs => wp_cond_false (ev_tr hs.ts (x := .tmp t) (v := .ff) (by simp [ev, look_cons])).1 (hf h ρ w hw ρ1 a1 w1 hs)

/-- A guard that is not told. -/
theorem ss_guard {all r : List Oper} {o : Oper} {d : Nat} {b : Bool} (hg : guardU all T o.guard = some (d, b)) (ht : b = true → SS hX Wb R ⟨[], fs, fn, nt, H0, .ops all (o :: r) :: k, (d, .tt) :: T, H⟩)
    (hf : b = false → SS hX Wb R ⟨[], fs, fn, nt, H0, .ops all (o :: r) :: k, (d, .ff) :: T, H⟩) : SS hX Wb R ⟨cs, fs, fn, nt, H0, .ops all (o :: r) :: k, T, H⟩ :=
  ss_bool hX d (guardU_look hg) ht hf

/-- Less is known, under other names. -/
theorem ss_sub {ρ0 : Nat → Nat × Nat} {w0 : World} {T' : List (Nat × SV)} {H' : List HE} (σs : List Nat) (hlen : Nat.beq σs.length H'.length = true) (hnd : nodupN σs = true)
    (hb : fromN H0.length 0 σs = true) (hb' : leH H0 H' = true) (hT : subT (sig σs 0) T T') (hH : subH (sig σs 0) H 0 H') (hok1 : okTP (thereF H') T') (hok2 : okHP (thereF H') H')
    (h : SS hX (At ρ0 w0) R ⟨[], [], fn, nt, H0, k, T', H'⟩) : SS hX (At ρ0 w0) R ⟨cs, [], fn, nt, H0, k, T, H⟩ :=
  ss_sw hX (sw_sub (sub_of (E := FEnv P X.TE hX.te fn nt H0 R ρ0 w0) σs hlen hnd hb hb' hT hH hok1 hok2) (sw_ss hX h))

/-- A loop: what is known at its head hangs on x; the round is told by 'back'. -/
theorem ss_loop {ρ0 : Nat → Nat × Nat} {w0 : World} {body : Code} {α : Type} (Tf : α → List (Nat × SV)) (Hf : α → List HE) (Inv : α → Prop) (μ : α → Nat) (x0 : α) (h0 : Inv x0)
    (round : ∀ x, Inv x → ∀ I : Act → World → Prop,
      (∀ x', Inv x' → μ x' < μ x → ∀ cs T H, (Sub (FEnv P X.TE hX.te fn nt H0 R ρ0 w0) T H (Tf x') (Hf x')) → SS hX (At ρ0 w0) R ⟨cs, [], fn, nt, H0, .lp I :: k, T, H⟩) →
      SS hX (At ρ0 w0) R ⟨[], [], fn, nt, H0, .code body :: .lp I :: k, Tf x, Hf x⟩) :
    SS hX (At ρ0 w0) R ⟨cs, [], fn, nt, H0, .code (.loop body) :: k, Tf x0, Hf x0⟩ := by
  refine ss_sw hX (sw_loop (E := FEnv P X.TE hX.te fn nt H0 R ρ0 w0) Tf Hf Inv μ x0 h0 fun x hx => ?_)
  refine sw_ss hX (cs := []) (round x hx _ fun x' h1 h2 cs T H hsub => ss_sw hX (sw_lp x' h1 h2 hsub))

/-- Ways that meet at one place, k'. -/
theorem ss_via {ρ0 : Nat → Nat × Nat} {w0 : World} {k' : List KI} {α : Type} (Tj : α → List (Nat × SV)) (Hj : α → List HE) (Q : α → Prop)
    (first : (∀ x, Q x → ∀ cs T H, (Sub (FEnv P X.TE hX.te fn nt H0 R ρ0 w0) T H (Tj x) (Hj x)) → SS hX (At ρ0 w0) R ⟨cs, [], fn, nt, H0, k', T, H⟩) → SS hX (At ρ0 w0) R ⟨cs, [], fn, nt, H0, k, T, H⟩)
    (rest : ∀ x, Q x → SS hX (At ρ0 w0) R ⟨[], [], fn, nt, H0, k', Tj x, Hj x⟩) : SS hX (At ρ0 w0) R ⟨cs, [], fn, nt, H0, k, T, H⟩ :=
  first fun x hx _cs _ _ hsub => ss_sw hX (sw_sub hsub (sw_ss hX (rest x hx)))

/-- Ways that meet: behind c what is known hangs on x. -/
theorem ss_join {ρ0 : Nat → Nat × Nat} {w0 : World} {c : Code} {α : Type} (Tj : α → List (Nat × SV)) (Hj : α → List HE) (Q : α → Prop)
    (rest : ∀ x, Q x → SS hX (At ρ0 w0) R ⟨[], [], fn, nt, H0, k, Tj x, Hj x⟩)
    (first : ∀ J : Act → World → Prop, (∀ x, Q x → ∀ cs T H, (Sub (FEnv P X.TE hX.te fn nt H0 R ρ0 w0) T H (Tj x) (Hj x)) → SS hX (At ρ0 w0) R ⟨cs, [], fn, nt, H0, .lp J :: k, T, H⟩) →
      SS hX (At ρ0 w0) R ⟨[], [], fn, nt, H0, .code c :: .lp J :: k, T, H⟩) :
    SS hX (At ρ0 w0) R ⟨cs, [], fn, nt, H0, .code c :: k, T, H⟩ := by
  let J : Act → World → Prop := fun a w => ∃ x, Q x ∧ ∃ ρ, Sat (FEnv P X.TE hX.te fn nt H0 R ρ0 w0) ρ (Tj x) (Hj x) a w
  have h1 := sw_ss hX (first J fun x hx cs T H hsub => ss_sw hX fun ρ a w hs => by
    obtain ⟨ρ', hs'⟩ := hsub ρ a w hs
    exact ⟨x, hx, ρ', hs'⟩)
  refine ss_sw hX fun ρ a w hs => ?_
  have h2 := h1 ρ a w hs
  simp only [WK] at h2 ⊢
  refine wp_mono h2 fun e a w hq => ?_
  cases e with
  | normal =>
    obtain ⟨x, hx, ρ', hs'⟩ := hq
    exact sw_ss hX (rest x hx) ρ' a w hs'
  | _ => exact hq

/-- The end. -/
theorem ss_ret {ob : List Prop} {vs : List SV} (hk : isRet fn k = true) (hr : resF X.TE fn.results.toList T H = some (ob, vs)) (ho : conjP ob) (hR : R (tupF vs) H) : SS hX Wb R ⟨cs, [], fn, nt, H0, k, T, H⟩ :=
  sfn_ret hX hk hr (conjP_all ho) hR

/-- The end, told otherwise: the same value, the same heap, under other names. -/
theorem ss_end {V : SV} {L : List HE} {ob : List Prop} {vs : List SV} (σs : List Nat) (hk : isRet fn k = true) (hr : resF X.TE fn.results.toList T H = some (ob, vs)) (ho : conjP ob)
    (hlen : Nat.beq σs.length L.length = true) (hnd : nodupN σs = true) (hb : fromN H0.length 0 σs = true) (hb' : leH H0 L = true)
    (hv : sim (tupF vs) (V.ren (sig σs 0))) (hH : subH (sig σs 0) H 0 L) (hok1 : okP (thereF L) V) (hok2 : okHP (thereF L) L) : SS hX Wb (Is V L) ⟨cs, [], fn, nt, H0, k, T, H⟩ := by
  intro ρ0 w0 hw
  have hsub := subS_of (E := FEnv P X.TE hX.te fn nt H0 (Is V L) ρ0 w0) (T := T) (T' := []) (H := H) (H' := L) σs hlen hnd hb hb' trivial hH trivial hok2
  intro ρ a w hsat
  have post : bodyPost P fn (FnPost w0 ρ0 H0 (Is V L)) .ret a w := by
    obtain ⟨h1, h2⟩ := results_ok hsat hr (conjP_all ho)
    have hs := hsub ρ a w hsat
    have hfun : thereF L = there L := funext (thereF_eq L)
    refine ⟨hsat.ts.def0, _, h1, _, L, V, ⟨rfl, rfl⟩, ?_, by rw [← hfun]; exact okP_okh V hok1, hs.hs, hs.base⟩
    rw [(sim_tr (A := fun _ => true) hv).1, tr_ren]
  unfold isRet at hk
  split at hk
  · exact post
  · split at hk
    · exact wp_ret (WK_ret post _)
    · simp at hk
  · simp at hk
end
end Go.Hx

/-
  The table of functions, as a tree.
-/
namespace Go.Hx
open Go

inductive FTr where
  | leaf (f : Option Func)
  | node (l r : FTr)
def FTr.get : FTr → Nat → Option Func
  | .leaf i, 0 => i
  | .leaf _, _ + 1 => none
  | .node l r, t => match t % 2 with
    | 0 => l.get (t / 2)
    | _ => r.get (t / 2)
def FTr.ok (P : Program) : FTr → Nat → Nat → Prop
  | .leaf i, b, _ => match i with
    | some fn => P.funcs[b]? = some fn ∧ (fn.name == "runtime.NumGoroutine") = false ∧ fn.body.isSome = true
    | none => True
  | .node l r, b, s => l.ok P b (2 * s) ∧ r.ok P (b + s) (2 * s)
theorem FTr.ok_get {P : Program} : ∀ {x : FTr} {b s : Nat}, x.ok P b s → ∀ t fn, x.get t = some fn → P.funcs[b + s * t]? = some fn ∧ (fn.name == "runtime.NumGoroutine") = false ∧ fn.body.isSome = true
  | .leaf i, b, s, h, 0, fn, hg => by
    simp only [FTr.get] at hg
    subst hg
    simpa [FTr.ok] using h
  | .leaf i, b, s, h, t + 1, fn, hg => by simp [FTr.get] at hg
  | .node l r, b, s, h, t, fn, hg => by
    simp only [FTr.get] at hg
    obtain ⟨h1, h2⟩ := h
    split at hg
    · rename_i h0
      have := FTr.ok_get h1 (t / 2) fn hg
      have e : b + 2 * s * (t / 2) = b + s * t := by
        have h3 : t = 2 * (t / 2) := by omega
        calc b + 2 * s * (t / 2) = b + s * (2 * (t / 2)) := by rw [Nat.mul_comm 2 s, Nat.mul_assoc]
          _ = b + s * t := by rw [← h3]
      rw [e] at this; exact this
    · rename_i h0
      have := FTr.ok_get h2 (t / 2) fn hg
      have e : b + s + 2 * s * (t / 2) = b + s * t := by
        have h4 : ¬ t % 2 = 0 := h0
        have h3 : t = 2 * (t / 2) + 1 := by omega
        calc b + s + 2 * s * (t / 2) = b + (s * (2 * (t / 2)) + s * 1) := by rw [Nat.mul_comm 2 s, Nat.mul_assoc, Nat.mul_one, Nat.add_assoc, Nat.add_comm s]
          _ = b + s * (2 * (t / 2) + 1) := by rw [← Nat.mul_add]
          _ = b + s * t := by rw [← h3]
      rw [e] at this; exact this
theorem ft_of_ok {P : Program} {x : FTr} (h : x.ok P 0 1) : ∀ f fn, x.get f = some fn → P.funcs[f]? = some fn ∧ (fn.name == "runtime.NumGoroutine") = false ∧ fn.body.isSome = true := by
  intro f fn hg
  have := FTr.ok_get h f fn hg
  rw [Nat.zero_add, Nat.one_mul] at this
  exact this

/-- Tables without what is known of functions. -/
def tabs (x : Tr) (f : FTr) (xt : Nat → Option XK) (et : Nat → Option (List (Option IntKind))) (ct : Nat → Option Spec) (un : Nat) : Tabs := ⟨x.get, f.get, ct, xt, et, un⟩
end Go.Hx

/-
  From the row's words to the heap machine's: arguments of plain data, opened.
-/
namespace Go.Hx
open Go Go.RowKit

/-- Plain values: integers of a kind (some), bools (none), each in its bounds. -/
def okK : List (Option IntKind) → List SV → Prop
  | [], [] => True
  | some k :: ks, v :: l => (∃ n, v = .int k n ∧ (Lit.int k n).wf = true) ∧ okK ks l
  | none :: ks, v :: l => (∃ b, v = .bool b) ∧ okK ks l
  | _, _ => False

theorem okK_append : ∀ {ks ks' : List (Option IntKind)} {l l' : List SV}, okK ks l → okK ks' l' → okK (ks ++ ks') (l ++ l')
  | [], ks', [], l', _, h => h
  | some k :: ks, ks', v :: l, l', h, h' => ⟨h.1, okK_append h.2 h'⟩
  | none :: ks, ks', v :: l, l', h, h' => ⟨h.1, okK_append h.2 h'⟩
  | some _ :: _, _, [], _, h, _ => by simp [okK] at h
  | none :: _, _, [], _, h, _ => by simp [okK] at h
  | [], _, _ :: _, _, h, _ => by simp [okK] at h
theorem okK_length : ∀ {ks : List (Option IntKind)} {l : List SV}, okK ks l → l.length = ks.length
  | [], [], _ => rfl
  | some k :: ks, v :: l, h => by simp [okK_length h.2]
  | none :: ks, v :: l, h => by simp [okK_length h.2]
  | some _ :: _, [], h => by simp [okK] at h
  | none :: _, [], h => by simp [okK] at h
  | [], _ :: _, h => by simp [okK] at h
theorem okK_closed : ∀ {ks : List (Option IntKind)} {l : List SV}, okK ks l → ∀ v ∈ l, SV.okh (fun _ => false) v = true
  | [], [], _ => by simp
  | some k :: ks, v :: l, h => by
    intro u hu
    simp only [List.mem_cons] at hu
    rcases hu with rfl | hu
    · obtain ⟨n, rfl, _⟩ := h.1; rfl
    · exact okK_closed h.2 u hu
  | none :: ks, v :: l, h => by
    intro u hu
    simp only [List.mem_cons] at hu
    rcases hu with rfl | hu
    · obtain ⟨n, rfl⟩ := h.1; rfl
    · exact okK_closed h.2 u hu
  | some _ :: _, [], h => by simp [okK] at h
  | none :: _, [], h => by simp [okK] at h
  | [], _ :: _, h => by simp [okK] at h
theorem okK_trs {ks : List (Option IntKind)} {l : List SV} (h : okK ks l) (ρ ρ' : Nat → Nat × Nat) : SV.trs ρ l = SV.trs ρ' l :=
  trs_congr (A := fun _ => false) (fun x hx => by simp at hx) l ((okhs_iff l).2 (okK_closed h))

/-- What a plain type is made of. -/
def flatK (P : Program) : Nat → TypeId → Option (List (Option IntKind))
  | 0, _ => none
  | n + 1, t => match P.underlying t with
    | some (.int k) => some [some k]
    | some .bool => some [none]
    | some (.struct fs) => fs.toList.foldr (fun f (r : Nat → Option (List (Option IntKind))) off =>
        if f.offset == off then (match flatK P n f.type with
          | some ks => if P.cellsOf f.type == ks.length then (match r (off + ks.length) with | some r' => some (ks ++ r') | none => none) else none
          | none => none) else none) (fun off => if P.cellsOf t == off then some [] else none) 0
    | some (.array m e) => match flatK P n e with
      | some ks => if P.cellsOf e == ks.length && P.cellsOf t == m * ks.length then some ((List.replicate m ks).flatten) else none
      | none => none
    | _ => none

section
variable {H : Type} {enc : TypeId × Value → H} {P : Program} {w : World} {base : Nat} {spare : Nat → Bool} {held : Bool}

theorem take_drop_all {α : Type} (l : List α) (m s : Nat) (h : l.length = m * s) : ∀ n, n ≤ m → ((List.range n).map fun i => (l.drop (i * s)).take s).flatten = l.take (n * s)
  | 0, _ => by simp
  | n + 1, hn => by
    rw [List.range_succ, List.map_append, List.flatten_append, take_drop_all l m s h n (by omega)]
    simp only [List.map_cons, List.map_nil, List.flatten_cons, List.flatten_nil, List.append_nil]
    rw [Nat.succ_mul, List.take_add]

theorem flat_open : ∀ (n : Nat) {t : TypeId} {ks : List (Option IntKind)} {fuel : Nat} {cs : List Value} {x : DataW H × List MemPlace}, flatK P n t = some ks → DataW.trod enc P w base spare held fuel t cs = some x →
    ∃ l, okK ks l ∧ cs = SV.trs (fun _ => (0, 0)) l := by
  intro n
  induction n with
  | zero => intro t ks fuel cs x h; simp [flatK] at h
  | succ n ih =>
    intro t ks fuel cs x h hx
    unfold flatK at h
    split at h
    · rename_i k hu
      simp at h; subst h
      obtain ⟨m, rfl, _, hwf⟩ := DataW.trod_int hu hx
      exact ⟨[.int k m], ⟨⟨m, rfl, hwf⟩, trivial⟩, rfl⟩
    · rename_i hu
      simp at h; subst h
      obtain ⟨b, rfl, _⟩ := DataW.trod_bool hu hx
      exact ⟨[.bool b], ⟨⟨b, rfl⟩, trivial⟩, rfl⟩
    · rename_i fs hu
      obtain ⟨xs, m, _, _, hlen, _, hf⟩ := DataW.trod_struct hu hx
      -- the fields, from an offset on
      have key : ∀ (l : List Field) (off : Nat) (ks : List (Option IntKind)), (∀ f ∈ l, ∃ y, DataW.trod enc P w base spare held m f.type ((cs.drop f.offset).take (P.cellsOf f.type)) = some y) →
          l.foldr (fun f (r : Nat → Option (List (Option IntKind))) off =>
            if f.offset == off then (match flatK P n f.type with
              | some ks => if P.cellsOf f.type == ks.length then (match r (off + ks.length) with | some r' => some (ks ++ r') | none => none) else none
              | none => none) else none) (fun off => if P.cellsOf t == off then some [] else none) off = some ks →
          ∃ v, okK ks v ∧ cs.drop off = SV.trs (fun _ => (0, 0)) v := by
        intro l
        induction l with
        | nil =>
          intro off ks _ hk
          simp only [List.foldr_nil] at hk
          split at hk
          · rename_i he
            simp at hk; subst hk
            have he' : P.cellsOf t = off := by simpa using he
            refine ⟨[], trivial, ?_⟩
            rw [List.drop_eq_nil_of_le (by omega)]; rfl
          · simp at hk
        | cons f l ihl =>
          intro off ks hall hk
          simp only [List.foldr_cons] at hk
          split at hk
          · rename_i ho
            have ho' : f.offset = off := by simpa using ho
            split at hk
            · rename_i kf hkf
              split at hk
              · rename_i hc
                have hc' : P.cellsOf f.type = kf.length := by simpa using hc
                split at hk
                · rename_i r' hr
                  simp at hk; subst hk
                  obtain ⟨y, hy⟩ := hall f (by simp)
                  obtain ⟨v1, h1, e1⟩ := ih hkf hy
                  obtain ⟨v2, h2, e2⟩ := ihl (off + kf.length) r' (fun g hg => hall g (by simp [hg])) hr
                  refine ⟨v1 ++ v2, okK_append h1 h2, ?_⟩
                  rw [ho', hc'] at e1
                  rw [trs_append, ← e1, ← e2, ← List.drop_drop, List.take_append_drop]
                · simp at hk
              · simp at hk
            · simp at hk
          · simp at hk
      obtain ⟨v, h1, h2⟩ := key fs.toList 0 ks (fun f hfm => by
        obtain ⟨i, hi⟩ := List.getElem?_of_mem hfm
        have hi' : fs[i]? = some f := by simpa using hi
        have := hf i f hi'
        have hlt : i < xs.length := by
          have := (Array.getElem?_eq_some_iff.1 hi').1
          omega
        rw [List.getElem?_eq_getElem hlt] at this
        exact ⟨_, this⟩) h
      exact ⟨v, h1, by simpa using h2⟩
    · rename_i m e hu
      split at h
      · rename_i ke hke
        split at h
        · rename_i hc
          simp at h; subst h
          simp only [Bool.and_eq_true, beq_iff_eq] at hc
          obtain ⟨xs, m', _, _, hlen, hxl, hf⟩ := DataW.trod_array hu hx
          have hel : ∀ i, i < m → ∃ v, okK ke v ∧ (cs.drop (i * ke.length)).take ke.length = SV.trs (fun _ => (0, 0)) v := by
            intro i hi
            have := hf i hi
            rw [List.getElem?_eq_getElem (by omega), hc.1] at this
            exact ih hke this
          have key : ∀ j, j ≤ m → ∃ v, okK ((List.replicate j ke).flatten) v ∧ cs.take (j * ke.length) = SV.trs (fun _ => (0, 0)) v := by
            intro j
            induction j with
            | zero => intro _; exact ⟨[], trivial, by simp [SV.trs]⟩
            | succ j ihj =>
              intro hj
              obtain ⟨v1, h1, e1⟩ := ihj (by omega)
              obtain ⟨v2, h2, e2⟩ := hel j (by omega)
              refine ⟨v1 ++ v2, ?_, ?_⟩
              · rw [List.replicate_succ', List.flatten_append]
                simpa using okK_append h1 h2
              · rw [Nat.succ_mul, List.take_add, e1, e2, trs_append]
          obtain ⟨v, h1, h2⟩ := key m (Nat.le_refl m)
          refine ⟨v, h1, ?_⟩
          rw [← h2, List.take_of_length_le (by omega)]
        · simp at h
      · simp at h
    · simp at h
end
end Go.Hx

/-
  A call's arguments, as the row hands them in: integers, bools, plain values, slices of plain values.
-/
namespace Go.Hx
open Go Go.RowKit Go.ChangeShapes Go.WideShapes

section
variable {H : Type} {enc : TypeId × Value → H} {P : Program} {w : World} {t : TypeId} {v : Value} {d : DataW H} {ps : List MemPlace}

theorem tr_plain {ks : List (Option IntKind)} {l : List SV} (h : okK ks l) (ρ ρ' : Nat → Nat × Nat) {c : Nat} {u : SV} (hc : l[c]? = some u) : u.tr ρ = u.tr ρ' := by
  have := okK_closed h u (List.mem_of_getElem? hc)
  exact tr_congr (A := fun _ => false) (fun x hx => by simp at hx) u this

theorem okK_okhs {ks : List (Option IntKind)} {l : List SV} (h : okK ks l) : SV.okhs (fun _ => false) l = true := (okhs_iff l).2 (okK_closed h)

/-- A plain value that is passed as it is. -/
theorem arg_agg {ks : List (Option IntKind)} (n : Nat) (hk : flatK P n t = some ks) (ha : ∃ cs, v = .agg cs) (h : DataW.Trod enc P w 0 (fun _ => true) true t v d ps) :
    ∃ l, okK ks l ∧ v = SV.tr (fun _ => (0, 0)) (.agg l) := by
  obtain ⟨cs, rfl⟩ := ha
  obtain ⟨fuel, hf⟩ := h
  obtain ⟨l, h1, h2⟩ := flat_open n hk hf
  refine ⟨l, h1, ?_⟩
  simp only [SV.tr, ← h2, Value.cells]

theorem arg_array {m : Nat} {e : TypeId} (ht : P.underlying t = some (.array m e)) {r : Reach} {base : Nat} (h : Value.okWide P w r base t v) : ∃ cs, v = .agg cs := by
  simp only [Value.okWide, ht] at h
  obtain ⟨cs, h1, _⟩ := h
  exact ⟨cs, h1⟩
theorem arg_struct {fs : Array Field} (ht : P.underlying t = some (.struct fs)) {r : Reach} {base : Nat} (h : Value.okWide P w r base t v) : ∃ cs, v = .agg cs := by
  simp only [Value.okWide, ht] at h
  obtain ⟨cs, h1, _⟩ := h
  exact ⟨cs, h1⟩

theorem arg_int {k : IntKind} (ht : P.underlying t = some (.int k)) (h : DataW.Trod enc P w 0 (fun _ => true) true t v d ps) {r : Reach} {base : Nat} (ho : Value.okWide P w r base t v) :
    ∃ n, v = .int k n ∧ (Lit.int k n).wf = true := by
  obtain ⟨n, rfl⟩ := okWide_int ht ho
  obtain ⟨fuel, hf⟩ := h
  obtain ⟨m, h1, _, h2⟩ := DataW.trod_int ht hf
  simp [Value.cells] at h1
  subst h1
  exact ⟨n, rfl, h2⟩

theorem add_nil {x : Addr} (hs : x.spot = none) (i : Nat) : x.add i = ⟨x.block, x.off + i, none⟩ := by
  obtain ⟨b, o, s⟩ := x
  simp only at hs; subst hs
  exact add_off b o i
theorem spot_none {x : Addr} {u : Value} (h : w.cell? x = some u) : x.spot = none := by
  unfold World.cell? at h
  split at h
  · split at h
    · simp at h
    · rename_i h2; simpa using h2
  · simp at h

/-- A slice of rows of plain cells. -/
def ArgRows (w : World) (ks : List (Option IntKind)) (a : Option Addr) (len cap : Nat) : Prop :=
  (len = 0 ∧ cap = 0) ∨ ∃ (b o : Nat) (f : Nat → List SV), a = some ⟨b, o, none⟩ ∧ len ≤ cap ∧ 0 < cap ∧ cap ≤ maxLen ∧ b < w.heap.size ∧
    (∀ i, okK ks (f i)) ∧ ∀ i, i < cap → ∀ (ρ : Nat → Nat × Nat) (c : Nat) (u : SV), (f i)[c]? = some u → w.cell? ⟨b, o + (i * ks.length + c), none⟩ = some (u.tr ρ)

theorem arg_rows {e : TypeId} {ks : List (Option IntKind)} {a : Option Addr} {len cap : Nat} (n : Nat) (ht : P.underlying t = some (.slice e)) (hk : flatK P n e = some ks) (hpos : 0 < ks.length) (hc : P.cellsOf e = ks.length)
    (h : DataW.Trod enc P w 0 (fun _ => true) true t (.slice a len cap) d ps) : ArgRows w ks a len cap := by
  obtain ⟨fuel, hf⟩ := h
  rcases Deep.open_slice ht hf with ⟨h1, _⟩ | ⟨x, l, c, m, nn, D, Pl, h1, _, hl, hm, rfl, _, hx⟩
  · simp [Value.cells] at h1
    exact .inl ⟨h1.2.1, h1.2.2⟩
  · simp [Value.cells] at h1
    obtain ⟨rfl, rfl, rfl⟩ := h1
    have hx : ∀ i, i < cap → ∃ cs', w.cells? 0 (x.add (i * P.cellsOf e)) (P.cellsOf e) = some cs' ∧ DataW.trod enc P w 0 (fun _ => true) true nn e cs' = some (D i, Pl i) := hx
    rw [hc] at hx
    by_cases h0 : cap = 0
    · exact .inl ⟨by omega, h0⟩
    refine .inr ?_
    have hx' : ∀ i, i < cap → ∃ l : List SV, okK ks l ∧ ∀ c u, l[c]? = some u → w.cell? ((x.add (i * ks.length)).add c) = some (u.tr (fun _ => (0, 0))) := by
      intro i hi
      obtain ⟨cs', h2, h3⟩ := hx i hi
      obtain ⟨l, h4, h5⟩ := flat_open n hk h3
      refine ⟨l, h4, fun c u hcu => ?_⟩
      obtain ⟨_, h6, h7⟩ := World.cells?_some h2
      have hlt := (List.getElem?_eq_some_iff.1 hcu).1
      rw [okK_length h4] at hlt
      rw [h7 c hlt, h5, trs_eq_map, List.getElem?_map, hcu]
      rfl
    obtain ⟨f, hf2⟩ := Deep.choose_lt (α := List SV) hx'
    have hsp : x.spot = none := by
      obtain ⟨q1, q2⟩ := hf2 0 (by omega)
      have hlen := okK_length q1
      obtain ⟨u, hu⟩ : ∃ u, (f 0)[0]? = some u := ⟨(f 0)[0]'(by omega), List.getElem?_eq_getElem (by omega)⟩
      have := spot_none (q2 0 u hu)
      simpa [Addr.add] using this
    have hcell : ∀ i c, (x.add (i * ks.length)).add c = ⟨x.block, x.off + (i * ks.length + c), none⟩ := by
      intro i c
      rw [Deep.add_add, add_nil hsp]
    refine ⟨x.block, x.off, fun i => f (if i < cap then i else 0), ?_, hl, by omega, hm, ?_, fun i => ?_, fun i hi ρ c u hcu => ?_⟩
    · obtain ⟨b, o, s⟩ := x
      simp only at hsp; subst hsp; rfl
    · obtain ⟨q1, q2⟩ := hf2 0 (by omega)
      have hlen := okK_length q1
      obtain ⟨u, hu⟩ : ∃ u, (f 0)[0]? = some u := ⟨(f 0)[0]'(by omega), List.getElem?_eq_getElem (by omega)⟩
      have := q2 0 u hu
      rw [hcell] at this
      exact block_lt_of_cell (a := ⟨x.block, x.off + (0 * ks.length + 0), none⟩) this
    · exact (hf2 _ (by split <;> omega)).1
    · simp only [if_pos hi] at hcu
      rw [← hcell, (hf2 i hi).2 c u hcu, tr_plain (hf2 i hi).1 ρ (fun _ => (0, 0)) hcu]

/-- A slice of integers. -/
def ArgInts (w : World) (k : IntKind) (a : Option Addr) (len cap : Nat) : Prop :=
  (len = 0 ∧ cap = 0) ∨ ∃ (b o : Nat) (zs : List Int), a = some ⟨b, o, none⟩ ∧ len ≤ cap ∧ 0 < cap ∧ cap ≤ maxLen ∧ b < w.heap.size ∧ zs.length = len ∧ (∀ n ∈ zs, (Lit.int k n).wf = true) ∧
    ∀ i n, zs[i]? = some n → w.cell? ⟨b, o + i, none⟩ = some (.int k n)

theorem arg_ints {e : TypeId} {k : IntKind} {a : Option Addr} {len cap : Nat} (ht : P.underlying t = some (.slice e)) (he : P.underlying e = some (.int k)) (hc : P.cellsOf e = 1)
    (h : DataW.Trod enc P w 0 (fun _ => true) true t (.slice a len cap) d ps) : ArgInts w k a len cap := by
  obtain ⟨fuel, hf⟩ := h
  rcases open_ints ht he hc hf with ⟨h1, _⟩ | ⟨x, l, c, zs, h1, _, hl, hm, hz, _, hcell, hwz⟩
  · simp [Value.cells] at h1
    exact .inl ⟨h1.2.1, h1.2.2⟩
  · simp [Value.cells] at h1
    obtain ⟨rfl, rfl, rfl⟩ := h1
    simp only [if_true] at hz
    by_cases h0 : cap = 0
    · exact .inl ⟨by omega, h0⟩
    have hsp : x.spot = none := by
      have := spot_none (hcell 0 (by omega))
      simpa [Addr.add] using this
    refine .inr ⟨x.block, x.off, zs.take len, ?_, hl, by omega, hm, ?_, by simp; omega, fun n hn => hwz n (List.mem_of_mem_take hn), fun i n hi => ?_⟩
    · obtain ⟨b, o, s⟩ := x
      simp only at hsp; subst hsp; rfl
    · have := hcell 0 (by omega)
      rw [add_nil hsp] at this
      exact block_lt_of_cell (a := ⟨x.block, x.off + 0, none⟩) this
    · rw [List.getElem?_take] at hi
      split at hi
      · rename_i hlt
        have := hcell i (by omega)
        rw [add_nil hsp] at this
        rw [this, List.getD_eq_getElem?_getD, hi]; rfl
      · simp at hi
end

/-- Windows that are read alone, at places of their own blocks. -/
theorem hsat_rows {w : World} {ks : List (Option IntKind)} {b o n : Nat} {f : Nat → List SV} (hb : b < w.heap.size) (hk : ∀ i, okK ks (f i)) (hc : ∀ i, i < n → ∀ (ρ : Nat → Nat × Nat) (c : Nat) (u : SV), (f i)[c]? = some u → w.cell? ⟨b, o + (i * ks.length + c), none⟩ = some (u.tr ρ)) :
    HSat w (Own (fun _ => (b, o)) [.obj (.rows n ks.length f)]) (fun _ => (b, o)) [.obj (.rows n ks.length f)] w := by
  refine ⟨?_, fun _ _ => hb, ?_, ?_, Fr.refl _ _⟩
  · intro h u hu
    cases h with
    | zero => simp at hu; subst hu; exact ⟨fun i hi c v hv => ⟨okK_closed (hk i) v (List.mem_of_getElem? hv), hc i hi _ c v hv⟩, rfl⟩
    | succ h => simp at hu
  · intro h h' o o' hh hh' _
    have := there_lt (there_of_obj hh)
    have := there_lt (there_of_obj hh')
    simp at *
    omega
  · intro h u hu ho
    cases h with
    | zero => simp at hu; subst hu; simp [SO.owned] at ho
    | succ h => simp at hu

theorem own_one {ρ : Nat → Nat × Nat} {o : SO} (h : o.owned = false) : ∀ b, ¬ Own ρ [HE.obj o] b :=
  own_none fun i u hu => by
    cases i with
    | zero => simp at hu; subst hu; exact h
    | succ i => simp at hu

/-- No slice among the arguments. -/
theorem calls_flat {P : Program} {f : Nat} {args : List SV} {L : List HE} {w : World} (hg : Gives P f args [] (Is .tt L)) (hok : SV.okhs (fun _ => false) args = true) :
    Calls P f (SV.trs (fun _ => (0, 0)) args).toArray w fun e w' => e = .returned (.bool true) ∧ Below w.heap.size w w' :=
  calls_true (fun _ => (0, 0)) hg (hsat_nil w _) (okhs_mono (A := fun _ => false) (fun x hx => by simp at hx) args hok) (own_none fun i o h => by simp at h) rfl

/-- One slice of rows. -/
theorem calls_rows {P : Program} {f : Nat} {pre post : List SV} {ks : List (Option IntKind)} {w : World} {a : Option Addr} {len cap : Nat} (h : ArgRows w ks a len cap)
    (g0 : Gives P f (pre ++ .raw (.slice a 0 0) :: post) [] (Is .tt [])) (hpre : SV.okhs (fun _ => false) pre = true) (hpost : SV.okhs (fun _ => false) post = true)
    (g1 : ∀ (o : Nat → List SV), (∀ i, okK ks (o i)) → len ≤ maxLen → ∃ L, Gives P f (pre ++ .slice 0 0 len cap :: post) [.obj (.rows len ks.length o)] (Is .tt L)) :
    Calls P f (SV.trs (fun _ => (0, 0)) pre ++ Value.slice a len cap :: SV.trs (fun _ => (0, 0)) post).toArray w fun e w' => e = .returned (.bool true) ∧ Below w.heap.size w w' := by
  have mono : ∀ (A : Nat → Bool) (l : List SV), SV.okhs (fun _ => false) l = true → SV.okhs A l = true := by
    intro A l hl
    rw [okhs_iff] at hl ⊢
    exact fun v hv => okh_mono (A := fun _ => false) (fun x hx => by simp at hx) v (hl v hv)
  rcases h with ⟨rfl, rfl⟩ | ⟨b, o, g, rfl, hl, h0, hm, hb, hk, hc⟩
  · refine calls_true (fun _ => (0, 0)) g0 (hsat_nil w _) ?_ (own_none fun i o h => by simp at h) ?_
    · rw [okhs_append, mono _ _ hpre]; simp [SV.okhs, SV.okh, mono _ _ hpost]
    · rw [trs_append]; rfl
  · obtain ⟨L, hg⟩ := g1 g hk (by omega)
    refine calls_true (fun _ => (b, o)) hg (hsat_rows hb hk fun i hi => hc i (by omega)) ?_ (own_one rfl) ?_
    · rw [okhs_append, mono _ _ hpre]; simp [SV.okhs, SV.okh, mono _ _ hpost, there, HE.there]
    · rw [trs_append, trs_congr (A := fun _ => false) (fun x hx => by simp at hx) pre hpre]
      simp only [SV.trs, SV.tr]
      rw [trs_congr (A := fun _ => false) (fun x hx => by simp at hx) post hpost (ρ := fun _ => (b, o)) (ρ' := fun _ => (0, 0))]
      rfl

/-- One slice of integers. -/
theorem calls_ints {P : Program} {f : Nat} {pre post : List SV} {k : IntKind} {w : World} {a : Option Addr} {len cap : Nat} (h : ArgInts w k a len cap)
    (g0 : Gives P f (pre ++ .raw (.slice a 0 0) :: post) [] (Is .tt [])) (hpre : SV.okhs (fun _ => false) pre = true) (hpost : SV.okhs (fun _ => false) post = true)
    (g1 : ∀ (z : List Int), z.length = len → (∀ n ∈ z, (Lit.int k n).wf = true) → len ≤ maxLen → ∃ L, Gives P f (pre ++ .slice 0 0 len cap :: post) [.obj (.winI k z)] (Is .tt L)) :
    Calls P f (SV.trs (fun _ => (0, 0)) pre ++ Value.slice a len cap :: SV.trs (fun _ => (0, 0)) post).toArray w fun e w' => e = .returned (.bool true) ∧ Below w.heap.size w w' := by
  have mono : ∀ (A : Nat → Bool) (l : List SV), SV.okhs (fun _ => false) l = true → SV.okhs A l = true := by
    intro A l hl
    rw [okhs_iff] at hl ⊢
    exact fun v hv => okh_mono (A := fun _ => false) (fun x hx => by simp at hx) v (hl v hv)
  rcases h with ⟨rfl, rfl⟩ | ⟨b, o, z, rfl, hl, h0, hm, hb, hz, hwz, hc⟩
  · refine calls_true (fun _ => (0, 0)) g0 (hsat_nil w _) ?_ (own_none fun i o h => by simp at h) ?_
    · rw [okhs_append, mono _ _ hpre]; simp [SV.okhs, SV.okh, mono _ _ hpost]
    · rw [trs_append]; rfl
  · obtain ⟨L, hg⟩ := g1 z hz hwz (by omega)
    refine calls_true (fun _ => (b, o)) hg (hsat_winI hb hc) ?_ (own_one rfl) ?_
    · rw [okhs_append, mono _ _ hpre]; simp [SV.okhs, SV.okh, mono _ _ hpost, there, HE.there]
    · rw [trs_append, trs_congr (A := fun _ => false) (fun x hx => by simp at hx) pre hpre]
      simp only [SV.trs, SV.tr]
      rw [trs_congr (A := fun _ => false) (fun x hx => by simp at hx) post hpost (ρ := fun _ => (b, o)) (ρ' := fun _ => (0, 0))]
      rfl
end Go.Hx

/-
  A contract over a small heap, in a larger one.
-/
namespace Go.Hx
open Go

theorem gives_frame {P : Program} {f : Nat} {as cargs : List SV} {H Hc L : List HE} {V : SV} (hT : ∃ TE : Nat → TI, ∀ t, TIok P t (TE t)) (hF : Gives P f cargs Hc (Is V L)) (σs : List Nat) (hargs : as = SV.rens (nm σs H) cargs) (hcok : SV.okhs (there Hc) cargs = true)
    (hlen : σs.length = Hc.length) (hobj : allObj Hc = true) (hokc : okHs (there Hc) Hc = true) (hnd : nodupN σs = true) (hsub : subC (nm σs H) H 0 Hc) (hnew : newOk (L.drop σs.length) = true) :
    Gives P f as H (Is (V.ren (nm σs H)) (merge (nm σs H) σs H L)) := by
  intro ρ w hS hok
  obtain ⟨TE, hTE⟩ := hT
  have hsub' : ∀ (h : Nat) (o : SO), Hc[h]? = some (.obj o) → H[sig σs H.length h]? = some (.obj (o.ren (sig σs H.length))) := fun h o ho => by
    have := subC_get hsub h o ho
    simpa [nm] using this
  have hthc : ∀ h, there Hc h = true → there H (sig σs H.length h) = true := fun h hh => by
    obtain ⟨o, ho⟩ := allObj_get hobj (there_lt hh)
    exact there_of_obj (hsub' h o ho)
  have hSc : HSat w (Own (fun x => ρ (sig σs H.length x)) Hc) (fun x => ρ (sig σs H.length x)) Hc w := by
    refine ⟨fun h o ho => ⟨(SO.holds_ren o).1 (hS.objs _ _ (hsub' h o ho)).1, okHs_get hokc ho⟩, fun h hh => hS.size _ (hthc h hh), ?_, fun h o ho hoo => .inl ⟨h, o, ho, hoo, rfl⟩, Fr.refl _ _⟩
    intro h h' o o' hh hh' e
    have := hS.inj _ _ _ _ (hsub' h o hh) (hsub' h' o' hh') e
    have l1 : h < σs.length := by rw [hlen]; exact there_lt (there_of_obj hh)
    have l2 : h' < σs.length := by rw [hlen]; exact there_lt (there_of_obj hh')
    have g1 := sig_lt (b := H.length) l1
    have g2 := sig_lt (b := H.length) l2
    rw [this] at g1
    exact nodupN_get hnd g1 g2
  have he : SV.trs ρ as = SV.trs (fun x => ρ (sig σs H.length x)) cargs := by rw [hargs, trs_rens]; rfl
  rw [he]
  refine Calls.mono (hF (fun x => ρ (sig σs H.length x)) w hSc hcok) fun e w' he => ?_
  cases e with
  | panicked c => exact he
  | outgrown => exact he
  | returned V' =>
    obtain ⟨ρc, Hn, v, ⟨rfl, rfl⟩, rfl, hvok, hSn, hb⟩ := he
    have hs : Sat (E := ⟨P, TE, 0, fun _ _ _ => True, w, Own ρ H, H, ρ, hTE⟩) ρ [] H ⟨#[], []⟩ w := ⟨hS, ⟨fun t v h => by simp [look] at h, rfl, rfl⟩, fun h hh => ⟨rfl, hh⟩⟩
    obtain ⟨ρ', m1, m2, m3, m4⟩ := merge_sat hs hlen hobj hnd hsub' hSn hb hnew
    refine ⟨ρ', _, _, ⟨rfl, rfl⟩, ?_, ?_, m1, fun h hh => ⟨(m2 h hh).symm, m3 h hh⟩⟩
    · rw [tr_ren]
      exact (tr_congr (fun h hh => (m4 h hh).1) v hvok).symm
    · rw [okh_ren]
      exact okh_mono (fun h hh => (m4 h hh).2) v hvok

mutual
theorem ren_closed (σ : Nat → Nat) : ∀ {v : SV}, v.okh (fun _ => false) = true → v.ren σ = v
  | .ptr x o, hv => by simp [SV.okh] at hv
  | .rptr x o i s c, hv => by simp [SV.okh] at hv
  | .bptr x i s c, hv => by simp [SV.okh] at hv
  | .sbuf x s o l, hv => by simp [SV.okh] at hv
  | .slice x o l c, hv => by simp [SV.okh] at hv
  | .map x, hv => by simp [SV.okh] at hv
  | .func fn a c, hv => by simp [SV.okh] at hv; simp [SV.ren, rens_closed σ hv.1, rens_closed σ hv.2]
  | .iface t v, hv => by simp [SV.okh] at hv; simp [SV.ren, ren_closed σ hv]
  | .agg l, hv => by simp [SV.okh] at hv; simp [SV.ren, rens_closed σ hv]
  | .tup l, hv => by simp [SV.okh] at hv; simp [SV.ren, rens_closed σ hv]
  | .tt, _ | .ff, _ | .bool _, _ | .int _ _, _ | .str _, _ | .nilptr, _ | .nilslice, _ | .nilmap, _ | .nilfunc, _ | .niliface, _ | .raw _, _ => by simp [SV.ren]
theorem rens_closed (σ : Nat → Nat) : ∀ {l : List SV}, SV.okhs (fun _ => false) l = true → SV.rens σ l = l
  | [], _ => rfl
  | v :: r, hv => by simp [SV.okhs] at hv; simp [SV.rens, ren_closed σ hv.1, rens_closed σ hv.2]
end

/-- A contract that reaches no memory, in any heap. -/
theorem gives_pure {P : Program} {f : Nat} {args : List SV} {V : SV} (hT : ∃ TE : Nat → TI, ∀ t, TIok P t (TE t)) (h : Gives P f args [] (Is V [])) (ha : SV.okhs (fun _ => false) args = true) (hv : V.okh (fun _ => false) = true) (H : List HE) :
    Gives P f args H (Is V H) := by
  have hth : there ([] : List HE) = fun _ => false := funext fun x => by simp [there]
  have := gives_frame (H := H) hT h [] (rens_closed _ ha).symm (by rw [hth]; exact ha) rfl rfl rfl rfl trivial rfl
  rw [ren_closed _ hv] at this
  simpa [merge, setAll] using this

/-- What a function that reaches no memory gives, as a table's row. -/
def pureS (g : List SV → Option (List Prop × SV)) : Spec := fun args H => match g args with
  | some (ob, v) => some (ob, v, H)
  | none => none

theorem pureS_ok {P : Program} {f : Nat} {g : List SV → Option (List Prop × SV)} (hT : ∃ TE : Nat → TI, ∀ t, TIok P t (TE t))
    (h : ∀ args ob V, g args = some (ob, V) → AllP ob → SV.okhs (fun _ => false) args = true ∧ V.okh (fun _ => false) = true ∧ Gives P f args [] (Is V []))
    {args : List SV} {H : List HE} {ob : List Prop} {V : SV} {L : List HE} (hs : pureS g args H = some (ob, V, L)) (ho : AllP ob) : Gives P f args H (Is V L) := by
  unfold pureS at hs
  split at hs
  · rename_i ob' v hg
    simp at hs
    obtain ⟨rfl, rfl, rfl⟩ := hs
    obtain ⟨h1, h2, h3⟩ := h _ _ _ hg ho
    exact gives_pure hT h3 h1 h2 _
  · simp at hs

theorem wfU {n : Int} (h : (Lit.int .u64 n).wf = true) : 0 ≤ n ∧ n < 18446744073709551616 := by
  simp only [Lit.wf, Bool.and_eq_true, decide_eq_true_eq] at h
  have e1 : IntKind.u64.min = 0 := by decide
  have e2 : IntKind.u64.max = 18446744073709551615 := by decide
  omega
theorem wfI {n : Int} (h : (Lit.int .i64 n).wf = true) : -9223372036854775808 ≤ n ∧ n < 9223372036854775808 := by
  simp only [Lit.wf, Bool.and_eq_true, decide_eq_true_eq] at h
  have e1 : IntKind.i64.min = -9223372036854775808 := by decide
  have e2 : IntKind.i64.max = 9223372036854775807 := by decide
  omega
end Go.Hx

/-
  Bits of words, as numbers.
-/
namespace Go.Hx
open Go

theorem wrapU {n : Int} (h1 : 0 ≤ n) (h2 : n < 18446744073709551616) : IntKind.u64.wrap n = n := by
  rw [IntKind.wrap_u64]; omega

theorem ofInt_nat {x : Nat} (h : x < 18446744073709551616) : (BitVec.ofInt 64 (x : Int)).toNat = x := by
  rw [BitVec.ofInt_natCast, BitVec.toNat_ofNat]
  exact Nat.mod_eq_of_lt h

theorem pow64 {n : Nat} (h : n ≤ 64) : 2 ^ n ≤ 18446744073709551616 := Nat.pow_le_pow_right (n := 2) (by decide) h

theorem and_mask {x n : Nat} (hx : x < 18446744073709551616) (hn : n ≤ 64) : ibits .and .u64 (x : Int) ((2 ^ n - 1 : Nat) : Int) = ((x % 2 ^ n : Nat) : Int) := by
  have hp := pow64 hn
  have hp1 : 1 ≤ 2 ^ n := Nat.one_le_two_pow
  have h : (BitVec.ofInt 64 (x : Int) &&& BitVec.ofInt 64 ((2 ^ n - 1 : Nat) : Int)).toNat = x % 2 ^ n := by
    rw [BitVec.toNat_and, ofInt_nat hx, ofInt_nat (by omega)]
    exact Nat.and_two_pow_sub_one_eq_mod _ n
  have h2 : x % 2 ^ n ≤ x := Nat.mod_le _ _
  show IntKind.u64.wrap ((BitVec.ofInt 64 (x : Int) &&& BitVec.ofInt 64 ((2 ^ n - 1 : Nat) : Int)).toNat : Int) = _
  rw [h, wrapU (by omega) (by omega)]

theorem tb_lt {w at' i : Nat} (h : w < 2 ^ at') (hi : at' ≤ i) : w.testBit i = false :=
  Nat.testBit_lt_two_pow (Nat.lt_of_lt_of_le h (Nat.pow_le_pow_right (by decide) hi))

theorem andNot_low {w y at' : Nat} (hw : w < 2 ^ at') (ha : at' ≤ 64) (hy : y * 2 ^ at' < 18446744073709551616) : ibits .andNot .u64 (w : Int) ((y * 2 ^ at' : Nat) : Int) = (w : Int) := by
  have hp := pow64 ha
  have hw' : w < 18446744073709551616 := by omega
  have h : BitVec.ofInt 64 (w : Int) &&& ~~~BitVec.ofInt 64 ((y * 2 ^ at' : Nat) : Int) = BitVec.ofInt 64 (w : Int) := by
    apply BitVec.eq_of_getLsbD_eq
    intro i hi
    rw [BitVec.getLsbD_and, BitVec.getLsbD_not]
    have e1 : (BitVec.ofInt 64 (w : Int)).getLsbD i = w.testBit i := by rw [← BitVec.testBit_toNat, ofInt_nat hw']
    have e2 : (BitVec.ofInt 64 ((y * 2 ^ at' : Nat) : Int)).getLsbD i = (y * 2 ^ at').testBit i := by rw [← BitVec.testBit_toNat, ofInt_nat hy]
    rw [e1, e2]
    by_cases hi2 : at' ≤ i
    · rw [tb_lt hw hi2]; simp
    · have : (y * 2 ^ at').testBit i = false := by
        rw [Nat.testBit_mul_two_pow]; simp; omega
      rw [this]; simp [hi]
  show IntKind.u64.wrap ((BitVec.ofInt 64 (w : Int) &&& ~~~BitVec.ofInt 64 ((y * 2 ^ at' : Nat) : Int)).toNat : Int) = _
  rw [h, ofInt_nat hw', wrapU (by omega) (by omega)]

theorem or_low {w v at' : Nat} (hw : w < 2 ^ at') (ha : at' ≤ 64) (hv : v * 2 ^ at' + w < 18446744073709551616) : ibits .or .u64 (w : Int) ((v * 2 ^ at' : Nat) : Int) = ((v * 2 ^ at' + w : Nat) : Int) := by
  have hp := pow64 ha
  have h : (BitVec.ofInt 64 (w : Int) ||| BitVec.ofInt 64 ((v * 2 ^ at' : Nat) : Int)).toNat = v * 2 ^ at' + w := by
    rw [BitVec.toNat_or, ofInt_nat (by omega), ofInt_nat (by omega), Nat.or_comm]
    have := Nat.shiftLeft_add_eq_or_of_lt hw v
    rw [Nat.shiftLeft_eq] at this
    exact this.symm
  show IntKind.u64.wrap ((BitVec.ofInt 64 (w : Int) ||| BitVec.ofInt 64 ((v * 2 ^ at' : Nat) : Int)).toNat : Int) = _
  rw [h, wrapU (by omega) (by omega)]

theorem andNot_mask {v n : Nat} (hv : v < 2 ^ n) (hn : n ≤ 64) : ibits .andNot .u64 (v : Int) ((2 ^ n - 1 : Nat) : Int) = 0 := by
  have hp := pow64 hn
  have hp1 : 1 ≤ 2 ^ n := Nat.one_le_two_pow
  have h : BitVec.ofInt 64 (v : Int) &&& ~~~BitVec.ofInt 64 ((2 ^ n - 1 : Nat) : Int) = 0#64 := by
    apply BitVec.eq_of_getLsbD_eq
    intro i hi
    rw [BitVec.getLsbD_and, BitVec.getLsbD_not]
    have e1 : (BitVec.ofInt 64 (v : Int)).getLsbD i = v.testBit i := by rw [← BitVec.testBit_toNat, ofInt_nat (by omega)]
    have e2 : (BitVec.ofInt 64 ((2 ^ n - 1 : Nat) : Int)).getLsbD i = (2 ^ n - 1).testBit i := by rw [← BitVec.testBit_toNat, ofInt_nat (by omega)]
    rw [e1, e2, Nat.testBit_two_pow_sub_one]
    by_cases hi2 : n ≤ i
    · rw [tb_lt hv hi2]; simp
    · have : i < n := by omega
      simp [this]
  show IntKind.u64.wrap ((BitVec.ofInt 64 (v : Int) &&& ~~~BitVec.ofInt 64 ((2 ^ n - 1 : Nat) : Int)).toNat : Int) = _
  rw [h]; rfl

/-- All ones, so many. -/
theorem ones {n : Nat} (h1 : 1 ≤ n) (h2 : n ≤ 64) : Int.fdiv 18446744073709551615 (2 ^ (min (IntKind.i64.wrap (64 - (n : Int))).toNat IntKind.u64.bits)) = ((2 ^ n - 1 : Nat) : Int) := by
  have e1 : IntKind.i64.wrap (64 - (n : Int)) = ((64 - n : Nat) : Int) := by rw [IntKind.wrap_i64]; omega
  rw [e1]
  show Int.fdiv 18446744073709551615 (2 ^ (min (64 - n) 64)) = _
  have hh : ∀ n : Fin 65, 1 ≤ n.val → (18446744073709551615 : Int).fdiv (2 ^ (min (64 - n.val) 64)) = ((2 ^ n.val - 1 : Nat) : Int) := by decide +kernel
  exact hh ⟨n, by omega⟩ h1
end Go.Hx

/-
  Both ways at a bool that a choice would be spent on.
-/
namespace Go.Hx
open Go

def getP : List Prop → Nat → Prop
  | [], _ => False
  | p :: _, 0 => p
  | _ :: r, n + 1 => getP r n

section
variable {P : Program} {X : Tabs} (hX : TOk P X)
variable {Wb : (Nat → Nat × Nat) → World → Prop} {R : SV → List HE → Prop} {fn : Func} {nt : Nat} {H0 : List HE} {k : List KI} {T : List (Nat × SV)} {H : List HE} {cs : List Ch} {fs : List Fm}
/-- The next choice's bool, both ways. -/
theorem ss_br (cs : List Ch) (n i : Nat) {cs0 : List Ch} {ob : List Prop} {s' : St} {b : Bool} (_ : runY X [] n ⟨cs, fs, fn, nt, H0, k, T, H⟩ = (ob, s')) (_ : getP ob i = (b = true))
    (ht : b = true → SS hX Wb R ⟨cs0, fs, fn, nt, H0, k, T, H⟩) (hf : b = false → SS hX Wb R ⟨cs0, fs, fn, nt, H0, k, T, H⟩) : SS hX Wb R ⟨cs0, fs, fn, nt, H0, k, T, H⟩ := by
  cases b
  · exact hf rfl
  · exact ht rfl
/-- The same, to a place at most. -/
theorem ss_brb (bk : List Bk) (cs : List Ch) (n i : Nat) {cs0 : List Ch} {ob : List Prop} {s' : St} {b : Bool} (_ : runY X bk n ⟨cs, fs, fn, nt, H0, k, T, H⟩ = (ob, s')) (_ : getP ob i = (b = true))
    (ht : b = true → SS hX Wb R ⟨cs0, fs, fn, nt, H0, k, T, H⟩) (hf : b = false → SS hX Wb R ⟨cs0, fs, fn, nt, H0, k, T, H⟩) : SS hX Wb R ⟨cs0, fs, fn, nt, H0, k, T, H⟩ := by
  cases b
  · exact hf rfl
  · exact ht rfl
end
end Go.Hx

/-
  Two values of a plain type, compared part by part.
-/
namespace Go.Hx
open Go

def sizeIs (P : Program) (t : TypeId) (n : Nat) : Bool := match P.info? t with | some i => i.size == n | none => false
def eqFs (g : TypeId → Option (Bool × List (Option IntKind))) (P : Program) : List Field → Nat → Option (List (Option IntKind))
  | [], _ => some []
  | f :: r, off => match f.name == "_", Nat.beq f.offset off, g f.type with
    | false, true, some (_, ks) => match sizeIs P f.type ks.length, eqFs g P r (off + ks.length) with
      | true, some r' => some (ks ++ r')
      | _, _ => none
    | _, _, _ => none
/-- What a plain type is made of, where it may be compared; and whether it is of several cells. -/
def eqK (P : Program) : Nat → TypeId → Option (Bool × List (Option IntKind))
  | 0, _ => none
  | n + 1, t => match P.underlying t with
    | some (.int k) => some (false, [some k])
    | some .bool => some (false, [none])
    | some (.struct fs) => match P.stoodInHeld t, eqFs (eqK P n) P fs.toList 0 with
      | false, some ks => some (true, ks)
      | _, _ => none
    | some (.array m e) => match eqK P n e with
      | some (_, ks) => match sizeIs P e ks.length with
        | true => some (true, (List.replicate m ks).flatten)
        | false => none
      | none => none
    | _ => none
def valOf (b : Bool) (l : List Value) : Value := if b then .agg l.toArray else l.headD (.bool false)

theorem EqM_split : ∀ {ks ks' : List (Option IntKind)} {xs ys : List Value} {e : Bool}, EqM (ks ++ ks') xs ys e →
    ∃ e1 e2, EqM ks (xs.take ks.length) (ys.take ks.length) e1 ∧ EqM ks' (xs.drop ks.length) (ys.drop ks.length) e2 ∧ e = (e1 && e2)
  | [], ks', xs, ys, e, h => ⟨true, e, by simp [EqM], by simpa using h, by simp⟩
  | some k :: ks, ks', [], _, e, h => by simp [EqM] at h
  | some k :: ks, ks', _ :: _, [], e, h => by simp [EqM] at h
  | none :: ks, ks', [], _, e, h => by simp [EqM] at h
  | none :: ks, ks', _ :: _, [], e, h => by simp [EqM] at h
  | some k :: ks, ks', x :: xs, y :: ys, e, h => by
    obtain ⟨a, b, e', rfl, rfl, h', rfl⟩ := h
    obtain ⟨e1, e2, q1, q2, rfl⟩ := EqM_split h'
    exact ⟨(a == b) && e1, e2, ⟨a, b, e1, rfl, rfl, q1, rfl⟩, q2, by rw [Bool.and_assoc]⟩
  | none :: ks, ks', x :: xs, y :: ys, e, h => by
    obtain ⟨a, b, e', rfl, rfl, h', rfl⟩ := h
    obtain ⟨e1, e2, q1, q2, rfl⟩ := EqM_split h'
    exact ⟨(a == b) && e1, e2, ⟨a, b, e1, rfl, rfl, q1, rfl⟩, q2, by rw [Bool.and_assoc]⟩
theorem EqM_len : ∀ {ks : List (Option IntKind)} {xs ys : List Value} {e : Bool}, EqM ks xs ys e → xs.length = ks.length ∧ ys.length = ks.length
  | [], [], [], _, _ => ⟨rfl, rfl⟩
  | [], _ :: _, _, e, h => by simp [EqM] at h
  | [], [], _ :: _, e, h => by simp [EqM] at h
  | some k :: ks, [], _, e, h => by simp [EqM] at h
  | some k :: ks, _ :: _, [], e, h => by simp [EqM] at h
  | none :: ks, [], _, e, h => by simp [EqM] at h
  | none :: ks, _ :: _, [], e, h => by simp [EqM] at h
  | some k :: ks, x :: xs, y :: ys, e, h => by
    obtain ⟨a, b, e', rfl, rfl, h', rfl⟩ := h
    have := EqM_len h'
    simp [this.1, this.2]
  | none :: ks, x :: xs, y :: ys, e, h => by
    obtain ⟨a, b, e', rfl, rfl, h', rfl⟩ := h
    have := EqM_len h'
    simp [this.1, this.2]

section
variable {P : Program} (w : World)
theorem sizeIs_run {t : TypeId} {n : Nat} (h : sizeIs P t n = true) : (sizeOf t).run P w = .ok n w := by
  unfold sizeIs at h
  split at h
  · rename_i i hi
    simp [sizeOf, typeInfo, hi, eq_of_beq h]
  · simp at h
theorem eqK_agg {n : Nat} {t : TypeId} {b : Bool} {ks : List (Option IntKind)} (h : eqK P n t = some (b, ks)) : (isAgg t).run P w = .ok b w ∧ (b = false → ks.length = 1) := by
  cases n with
  | zero => simp [eqK] at h
  | succ n =>
    unfold eqK at h
    split at h
    · rename_i k hu
      simp at h; obtain ⟨rfl, rfl⟩ := h
      exact ⟨by simp [isAgg, run_underlying hu], fun _ => rfl⟩
    · rename_i hu
      simp at h; obtain ⟨rfl, rfl⟩ := h
      exact ⟨by simp [isAgg, run_underlying hu], fun _ => rfl⟩
    · rename_i fs hu
      split at h
      · simp at h; obtain ⟨rfl, rfl⟩ := h
        exact ⟨by simp [isAgg, run_underlying hu], fun h => by simp at h⟩
      · simp at h
    · rename_i m e hu
      split at h
      · split at h
        · simp at h; obtain ⟨rfl, rfl⟩ := h
          exact ⟨by simp [isAgg, run_underlying hu], fun h => by simp at h⟩
        · simp at h
      · simp at h
    · simp at h
theorem part_eqK {n : Nat} {t : TypeId} {b : Bool} {ks : List (Option IntKind)} (h : eqK P n t = some (b, ks)) (hs : sizeIs P t ks.length = true) {xs : List Value} {off : Nat} (hl : b = false → off + ks.length ≤ xs.length) :
    (part t xs.toArray off).run P w = .ok (valOf b ((xs.drop off).take ks.length)) w := by
  obtain ⟨h1, h2⟩ := eqK_agg w h
  unfold part
  simp only [Sem.run_bind, h1, Result.andThen_ok]
  cases b with
  | true =>
    simp only [if_true, Sem.run_bind, sizeIs_run w hs, Result.andThen_ok, Sem.run_pure, valOf]
    congr 2
    apply Array.toList_inj.1
    rw [Array.toList_extract]
    simp [List.extract]
  | false =>
    have h3 := h2 rfl
    have hl := hl rfl
    rw [h3] at hl
    have hlt : off < xs.length := by omega
    have e : (xs.drop off).take ks.length = [xs[off]] := by
      rw [h3, List.drop_eq_getElem_cons hlt]; rfl
    simp only [Bool.false_eq_true, if_false, List.getElem?_toArray, List.getElem?_eq_getElem hlt, Sem.run_pure, valOf, e, List.headD_cons]

theorem eqFs_ok {n d : Nat} (ih : ∀ (t : TypeId) (b : Bool) (ks : List (Option IntKind)), eqK P n t = some (b, ks) → ∀ (xs ys : List Value) (e : Bool) (w : World), EqM ks xs ys e → (Op.equalIn d t (valOf b xs) (valOf b ys)).run P w = .ok e w)
    (xs ys : List Value) : ∀ (fs : List Field) (off : Nat) (ks : List (Option IntKind)) (e : Bool) (w : World), eqFs (eqK P n) P fs off = some ks → EqM ks (xs.drop off) (ys.drop off) e →
    (Op.eqFields d xs.toArray ys.toArray fs).run P w = .ok e w
  | [], off, ks, e, w, h, hm => by
    simp [eqFs] at h; subst h
    have hx : e = true := by
      cases hxs : xs.drop off <;> cases hys : ys.drop off <;> rw [hxs, hys] at hm <;> simp [EqM] at hm
      exact hm
    subst hx
    simp [Op.eqFields]
  | f :: fs, off, ks, e, w, h, hm => by
    unfold eqFs at h
    split at h
    · rename_i b kf hn ho hk
      split at h
      · rename_i r' hs hr
        simp at h; subst h
        have ho' := Nat.eq_of_beq_eq_true ho
        obtain ⟨e1, e2, m1, m2, rfl⟩ := EqM_split hm
        have hlen := EqM_len m1
        have hn' : f.name ≠ "_" := by simpa using hn
        simp only [List.length_take, List.length_drop] at hlen
        have q1 := part_eqK w hk hs (xs := xs) (off := off) (fun hb => by have := (eqK_agg w hk).2 hb; omega)
        have q2 := part_eqK w hk hs (xs := ys) (off := off) (fun hb => by have := (eqK_agg w hk).2 hb; omega)
        rw [List.drop_drop, List.drop_drop] at m2
        have q3 := eqFs_ok ih xs ys fs (off + kf.length) r' e2 w hr m2
        simp only [Op.eqFields, hn', ne_eq, not_false_eq_true, if_true, ho', Sem.run_bind, q1, q2, Result.andThen_ok, ih f.type b kf hk _ _ _ _ m1]
        cases e1
        · simp
        · simpa using q3
      · simp at h
    · simp at h

theorem eqItems_ok {n d : Nat} {e : TypeId} {b : Bool} {ks : List (Option IntKind)} (hk : eqK P n e = some (b, ks)) (hs : sizeIs P e ks.length = true)
    (ih : ∀ (xs ys : List Value) (r : Bool) (w : World), EqM ks xs ys r → (Op.equalIn d e (valOf b xs) (valOf b ys)).run P w = .ok r w) (xs ys : List Value) :
    ∀ (m i : Nat) (r : Bool) (w : World), EqM (List.replicate m ks).flatten (xs.drop (i * ks.length)) (ys.drop (i * ks.length)) r →
    (Op.eqItems d e ks.length xs.toArray ys.toArray (List.range' i m)).run P w = .ok r w
  | 0, i, r, w, hm => by
    have hx : r = true := by
      cases hxs : xs.drop (i * ks.length) <;> cases hys : ys.drop (i * ks.length) <;> rw [hxs, hys] at hm <;> simp [EqM] at hm
      exact hm
    subst hx
    simp [Op.eqItems]
  | m + 1, i, r, w, hm => by
    rw [List.replicate_succ, List.flatten_cons] at hm
    obtain ⟨e1, e2, m1, m2, rfl⟩ := EqM_split hm
    have hlen := EqM_len m1
    simp only [List.length_take, List.length_drop] at hlen
    have q1 := part_eqK w hk hs (xs := xs) (off := i * ks.length) (fun hb => by have := (eqK_agg w hk).2 hb; omega)
    have q2 := part_eqK w hk hs (xs := ys) (off := i * ks.length) (fun hb => by have := (eqK_agg w hk).2 hb; omega)
    rw [List.drop_drop, List.drop_drop] at m2
    have q3 := eqItems_ok hk hs ih xs ys m (i + 1) e2 w (by rw [Nat.succ_mul]; exact m2)
    rw [List.range'_succ]
    simp only [Op.eqItems, Sem.run_bind, q1, q2, Result.andThen_ok, ih _ _ _ _ m1]
    cases e1
    · simp
    · simpa using q3

theorem eqK_ok (d0 : Nat) : ∀ (n : Nat) (t : TypeId) (b : Bool) (ks : List (Option IntKind)), eqK P n t = some (b, ks) → ∀ (xs ys : List Value) (e : Bool) (w : World), EqM ks xs ys e →
    (Op.equalIn (d0 + n) t (valOf b xs) (valOf b ys)).run P w = .ok e w
  | 0, t, b, ks, h, xs, ys, e, w, hm => by simp [eqK] at h
  | n + 1, t, b, ks, h, xs, ys, e, w, hm => by
    have ih := eqK_ok d0 n
    unfold eqK at h
    split at h
    · rename_i k hu
      simp at h; obtain ⟨rfl, rfl⟩ := h
      cases xs <;> cases ys <;> simp only [EqM] at hm
      rename_i x xs y ys
      obtain ⟨p, q, e', rfl, rfl, hm', rfl⟩ := hm
      have : e' = true := by cases xs <;> cases ys <;> simp [EqM] at hm'; exact hm'
      subst this
      simp only [valOf, Bool.false_eq_true, if_false, List.headD_cons, Bool.and_true]
      exact run_equalIn_int w _ t k k p q hu
    · rename_i hu
      simp at h; obtain ⟨rfl, rfl⟩ := h
      cases xs <;> cases ys <;> simp only [EqM] at hm
      rename_i x xs y ys
      obtain ⟨p, q, e', rfl, rfl, hm', rfl⟩ := hm
      have : e' = true := by cases xs <;> cases ys <;> simp [EqM] at hm'; exact hm'
      subst this
      simp only [valOf, Bool.false_eq_true, if_false, List.headD_cons, Bool.and_true]
      exact run_equalIn_bool' w _ t p q hu
    · rename_i fs hu
      split at h
      · rename_i ks' hp hf
        simp at h; obtain ⟨rfl, rfl⟩ := h
        have e1 : P.fieldsOf t = fs := by simp [Program.fieldsOf, hu]
        simp only [valOf, if_true]
        rw [← Nat.add_assoc, run_equalIn_struct w _ t _ _ (by rw [e1]; exact hu) hp, e1]
        exact eqFs_ok ih xs ys fs.toList 0 _ e w hf (by simpa using hm)
      · simp at h
    · rename_i m el hu
      split at h
      · rename_i b' kk hk
        split at h
        · rename_i hs
          simp at h; obtain ⟨rfl, rfl⟩ := h
          have hs0 := hs
          unfold sizeIs at hs0
          split at hs0
          · rename_i i hi
            simp only [valOf, if_true]
            have hc : P.cellsOf el = kk.length := by
              have h1 := sizeIs_run (P := P) w hs
              have h2 := run_sizeOf (P := P) w hi
              rw [h1] at h2
              simp at h2
              exact h2.symm
            rw [← Nat.add_assoc, run_equalIn_array w _ _ _ hu hi, hc, List.range_eq_range']
            exact eqItems_ok hk hs (fun xs ys r w hm => ih el b' kk hk xs ys r w hm) xs ys m 0 e w (by simpa using hm)
          · simp at hs0
        · simp at h
      · simp at h
    · simp at h

theorem eqOk_of {t : TypeId} {ks : List (Option IntKind)} (hk : eqK P 6 t = some (true, ks)) (hg : P.eqGuardType P.depth t = false) : EqOk P t ks := by
  refine ⟨fun xs ys e hm op x y w => run_eqGuard_agg w op t x y _ _ hg, fun xs ys e hm w => ?_⟩
  have := eqK_ok (P := P) 9994 6 t true ks hk xs ys e w hm
  simp only [valOf, if_true] at this
  exact this
end
end Go.Hx

/-
  Contracts over one or two objects, in a larger heap.
-/
namespace Go.Hx
open Go

/-- A bool, told or not. -/
def isB : SV → Bool
  | .tt => true
  | .ff => true
  | .bool _ => true
  | _ => false
theorem isB_okh {A : Nat → Bool} {v : SV} (h : isB v = true) : v.okh A = true := by
  cases v <;> simp [isB] at h <;> rfl
theorem isB_okP {A : Nat → Bool} {v : SV} (h : isB v = true) : okP A v := by
  cases v <;> simp [isB] at h <;> trivial
theorem isB_ren {σ : Nat → Nat} {v : SV} (h : isB v = true) : v.ren σ = v := by
  cases v <;> simp [isB] at h <;> rfl

section
variable {P : Program} {f : Nat} {ags cargs : List SV} {V : SV} {H : List HE} {o0 o1 p0 p1 : SO} {h0 h1 : Nat} {N : List HE}
theorem frame0 (hT : ∃ TE : Nat → TI, ∀ t, TIok P t (TE t)) (hF : Gives P f ags [] (Is V N)) (hok : SV.okhs (fun _ => false) ags = true) (hn : newOk N = true) :
    Gives P f ags H (Is (V.ren (nm [] H)) (H ++ N.map (HE.ren (nm [] H)))) := by
  have hth : there ([] : List HE) = fun _ => false := funext fun x => by simp [there]
  have := gives_frame (H := H) hT hF [] (rens_closed _ hok).symm (by rw [hth]; exact hok) rfl rfl rfl rfl trivial hn
  simpa [merge, setAll] using this
theorem frame1 (hT : ∃ TE : Nat → TI, ∀ t, TIok P t (TE t)) (hF : Gives P f cargs [.obj o0] (Is V (.obj p0 :: N))) (hargs : ags = SV.rens (nm [h0] H) cargs)
    (hcok : SV.okhs (there [.obj o0]) cargs = true) (hokc : okHs (there [.obj o0]) [.obj o0] = true) (g0 : getH H h0 = some (o0.ren (nm [h0] H))) (hn : newOk N = true) :
    Gives P f ags H (Is (V.ren (nm [h0] H)) (H.set h0 (.obj (p0.ren (nm [h0] H))) ++ N.map (HE.ren (nm [h0] H)))) := by
  have := gives_frame (H := H) hT hF [h0] hargs hcok rfl rfl hokc rfl ⟨g0, trivial⟩ hn
  simpa [merge, setAll, HE.ren] using this
theorem frame2 (hT : ∃ TE : Nat → TI, ∀ t, TIok P t (TE t)) (hF : Gives P f cargs [.obj o0, .obj o1] (Is V (.obj p0 :: .obj p1 :: N))) (hargs : ags = SV.rens (nm [h0, h1] H) cargs)
    (hcok : SV.okhs (there [.obj o0, .obj o1]) cargs = true) (hokc : okHs (there [.obj o0, .obj o1]) [.obj o0, .obj o1] = true) (hnd : nodupN [h0, h1] = true)
    (g0 : getH H h0 = some (o0.ren (nm [h0, h1] H))) (g1 : getH H h1 = some (o1.ren (nm [h0, h1] H))) (hn : newOk N = true) :
    Gives P f ags H (Is (V.ren (nm [h0, h1] H)) ((H.set h0 (.obj (p0.ren (nm [h0, h1] H)))).set h1 (.obj (p1.ren (nm [h0, h1] H))) ++ N.map (HE.ren (nm [h0, h1] H)))) := by
  have := gives_frame (H := H) hT hF [h0, h1] hargs hcok rfl rfl hokc hnd ⟨g0, g1, trivial⟩ hn
  simpa [merge, setAll, HE.ren] using this
theorem frame2n (hT : ∃ TE : Nat → TI, ∀ t, TIok P t (TE t)) (hF : Gives P f cargs [.obj o0, .obj o1] (Is V [.obj p0, .obj p1])) (hargs : ags = SV.rens (nm [h0, h1] H) cargs)
    (hcok : SV.okhs (there [.obj o0, .obj o1]) cargs = true) (hokc : okHs (there [.obj o0, .obj o1]) [.obj o0, .obj o1] = true) (hnd : nodupN [h0, h1] = true)
    (g0 : getH H h0 = some (o0.ren (nm [h0, h1] H))) (g1 : getH H h1 = some (o1.ren (nm [h0, h1] H))) {V' : SV} {q0 q1 : SO} (hV : V.ren (nm [h0, h1] H) = V') (hq0 : p0.ren (nm [h0, h1] H) = q0) (hq1 : p1.ren (nm [h0, h1] H) = q1) :
    Gives P f ags H (Is V' ((H.set h0 (.obj q0)).set h1 (.obj q1))) := by
  have := frame2 (N := []) hT hF hargs hcok hokc hnd g0 g1 rfl
  rw [hV, hq0, hq1] at this
  simpa using this
end
end Go.Hx

/-
  Things that are there or not: pointers, rows, and what they point to.
-/
namespace Go.Hx
open Go

/-- A pointer, or none. -/
def ptrV {α : Type} (o : Option α) (h : Nat) : SV := match o with | none => .nilptr | some _ => .ptr h 0
def objE (o : Option SO) : HE := match o with | none => .absent | some o => .obj o
/-- A row that grew, or none. -/
def slV (o : Option (List Int)) (h : Nat) : SV := match o with | none => .nilslice | some l => .sbuf h 1 0 l.length
def slE (o : Option (List Int)) (k : IntKind) (ty : TypeId) : HE := match o with | none => .absent | some l => .obj (.buf k l 1 ty)
/-- A pointer to what is not known, or none. -/
def opqV (b : Bool) (h : Nat) : SV := match b with | false => .nilptr | true => .ptr h 0
def opqE (b : Bool) : HE := match b with | false => .absent | true => .opq

section
variable {σ : Nat → Nat} {H H' : List HE} {h i : Nat}
theorem ren_slE {o : Option (List Int)} {k : IntKind} {ty : TypeId} : (slE o k ty).ren σ = slE o k ty := by cases o <;> rfl
theorem ren_opqE {b : Bool} : (opqE b).ren σ = opqE b := by cases b <;> rfl
theorem subE_same {e : HE} (hg : H[σ i]? = some e) (hr : e.ren σ = e) : subE σ H i e := by
  cases e with
  | absent => trivial
  | opq => simp [subE, there, hg, HE.there]
  | obj o =>
    simp only [HE.ren, HE.obj.injEq] at hr
    simp only [subE, getH_some.2 hg, hr, simG]
    exact simO_refl o
theorem sim_same {v : SV} (hr : v.ren σ = v) : sim v (v.ren σ) := by rw [hr]; exact sim_refl v
theorem sim_slV {o : Option (List Int)} (hs : σ h = h) : sim (slV o h) ((slV o h).ren σ) := sim_same (by cases o <;> simp [slV, SV.ren, hs])
theorem sim_ptrV {α : Type} {o : Option α} (hs : σ h = h) : sim (ptrV o h) ((ptrV o h).ren σ) := sim_same (by cases o <;> simp [ptrV, SV.ren, hs])
theorem sim_opqV {b : Bool} (hs : σ h = h) : sim (opqV b h) ((opqV b h).ren σ) := sim_same (by cases b <;> simp [opqV, SV.ren, hs])
theorem okP_slV {o : Option (List Int)} {k : IntKind} {ty : TypeId} (e : thereF H' h = (slE o k ty).there) : okP (thereF H') (slV o h) := by
  cases o with
  | none => trivial
  | some l => simpa [slV, okP, slE, HE.there] using e
theorem okP_ptrV {α : Type} {o : Option α} {f : α → SO} (e : thereF H' h = (objE (o.map f)).there) : okP (thereF H') (ptrV o h) := by
  cases o with
  | none => trivial
  | some l => simpa [ptrV, okP, objE, HE.there] using e
theorem okP_opqV {b : Bool} (e : thereF H' h = (opqE b).there) : okP (thereF H') (opqV b h) := by
  cases b with
  | false => trivial
  | true => simpa [opqV, okP, opqE, HE.there] using e
theorem okE_slE {A : Nat → Bool} {o : Option (List Int)} {k : IntKind} {ty : TypeId} : okE A (slE o k ty) := by cases o <;> trivial
theorem okE_opqE {A : Nat → Bool} {b : Bool} : okE A (opqE b) := by cases b <;> trivial
end

/-- Is it there? -/
def hasL : List Int → Int → Bool
  | [], _ => false
  | x :: r, n => if x = n then true else hasL r n
theorem hasL_iff {n : Int} : ∀ {l : List Int}, hasL l n = true ↔ n ∈ l
  | [] => by simp [hasL]
  | x :: r => by
    simp only [hasL, List.mem_cons]
    split
    · rename_i h; simp [h]
    · rename_i h
      rw [hasL_iff (l := r)]
      constructor
      · exact .inr
      · rintro (rfl | h1)
        · exact absurd rfl h
        · exact h1
theorem hasL_drop {l : List Int} {i : Nat} (h : i < l.length) (n : Int) : hasL (l.drop i) n = if l.getD i 0 = n then true else hasL (l.drop (i + 1)) n := by
  rw [List.drop_eq_getElem_cons h, hasL]
  simp [List.getD_eq_getElem?_getD, h]
def lst (o : Option (List Int)) : List Int := o.getD []
end Go.Hx

/-
  What is still to be done when a region is reached.
-/
namespace Go.Hx
open Go

def contR (id : Nat) : Code → List (Act → World → Prop) → List KI → Option (List KI)
  | .region j ops d, _, k => match Nat.beq j id with
    | true => some (.code (.region j ops d) :: k)
    | false => none
  | .seq a b, I, k => match contR id a I (.code b :: k) with
    | some r => some r
    | none => contR id b I k
  | .block n b, I, k => contR id b I (.blk n :: k)
  | .cond _ a b, I, k => match contR id a I k with
    | some r => some r
    | none => contR id b I k
  | .loop c, I, k => match I with
    | i :: I => contR id c I (.lp i :: k)
    | [] => none
  | _, _, _ => none
/-- What is still to be done at a region of a function, in loops. -/
def contF (fn : Func) (id : Nat) (I : List (Act → World → Prop)) : List KI := match fn.body with
  | some c => (contR id c I []).getD []
  | none => []
end Go.Hx

/-
  Which bool is it that a walk waits for? (A guess alone: nothing hangs on its being right.)
-/
namespace Go.Hx
open Go

inductive PrR where
  | done (s : St) (kept : List (Nat × Nat))
  | need (i : Nat) (b : Bool)
inductive PrD where
  | ok (cs : List Ch) (T : List (Nat × SV)) (H : List HE) (kept : List (Nat × Nat))
  | need (i : Nat) (b : Bool)
  | dead
inductive PrV where
  | ok (cs : List Ch) (v : SV) (H : List HE) (kept : List (Nat × Nat))
  | need (i : Nat) (b : Bool)
  | dead

/-- How many of the kept ones are older than the newest (p, d). -/
def keptAt (p d : Nat) : List (Nat × Nat) → Option Nat
  | [] => none
  | (q, e) :: r => match Nat.beq p q && Nat.beq d e with
    | true => some r.length
    | false => keptAt p d r
def keep1 (cs : List Ch) (v : SV) (p : Nat) (d : Option Nat) (kept : List (Nat × Nat)) : List (Nat × Nat) :=
  match cs, v, d with
  | [], .bool _, some d => (p, d) :: kept
  | [], .bool _, none => (p, 0) :: kept
  | _, _, _ => kept

def evalP (X : Tabs) (rec : Nat → St → List (Nat × Nat) → PrR) (p : Nat) (cs : List Ch) (f : Nat) (as : List SV) (H : List HE) (kept : List (Nat × Nat)) : PrV :=
  match X.FT f with
  | some fn => match (match X.CT f with | some sp => sp as H | none => none) with
    | some (_, V, L) => match forceHs L with
      | some L' => .ok cs V L' kept
      | none => .dead
    | none => match fn.body, Nat.ble as.length fn.ntmps, argTF nums as with
      | some c, true, some Ta => match rec (p + 1) ⟨cs, [], fn, fn.ntmps, H, [.code c], Ta, H⟩ kept with
        | .need i b => .need i b
        | .done ⟨cs', fs, fn', _, _, k, T, L⟩ kept' => match fs, isRet fn' k, resF X.TE fn'.results.toList T L with
          | [], true, some (_, vs) => .ok cs' (tupF vs) L kept'
          | _, _, _ => .dead
      | _, _, _ => .dead
  | none => .dead

def drawP (X : Tabs) (rec : Nat → St → List (Nat × Nat) → PrR) (p : Nat) (al : List Oper) (nt : Nat) : List Oper → List Ch → List (Nat × SV) → List HE → List (Nat × Nat) → PrD
  | [], cs, T, H, kept => .ok cs T H kept
  | o :: r, cs, T, H, kept => match guardF al T o.guard with
    | 1 => match putD nt o.dst T (.tup []) with
      | some T' => drawP X rec p al nt r cs T' H kept
      | none => .dead
    | 0 => match stepE X T H o.op with
      | some (.val _ v) => match ovr cs v with
        | some (cs', _, v') => match putD nt o.dst T v' with
          | some T' => drawP X rec p al nt r cs' T' H (keep1 cs v p o.dst kept)
          | none => .dead
        | none => .dead
      | some e => match afterF nt o.dst T H e with
        | some (_, T', H') => drawP X rec p al nt r cs T' H' kept
        | none => .dead
      | none => match o.op with
        | .call c => match (match calleeF T c with | some (f, as0) => (match forceL as0 with | some as => some (f, as) | none => none) | none => none) with
          | some (f, as) => match evalP X rec p cs f as H kept with
            | .need i b => .need i b
            | .dead => .dead
            | .ok cs1 V L kept1 => match ovr cs1 V with
              | some (cs', _, V') => match putD nt o.dst T V' with
                | some T' => drawP X rec p al nt r cs' T' L (keep1 cs1 V p o.dst kept1)
                | none => .dead
              | none => .dead
          | none => .dead
        | _ => .dead
    | _ => match guardU al T o.guard with
      | some (d, b) => match keptAt p d kept with
        | some i => .need i b
        | none => .dead
      | none => .dead

def stepP (X : Tabs) (rec : Nat → St → List (Nat × Nat) → PrR) (p : Nat) (s : St) (kept : List (Nat × Nat)) : PrR ⊕ (St × List (Nat × Nat)) :=
  match s with
  | ⟨cs, fs, fn, nt, H0, k, T, H⟩ =>
    match k with
    | .code (.region _ ops true) :: k' => match regOk ops.toList with
      | true => match drawP X rec p ops.toList nt ops.toList cs T H kept with
        | .need i b => .inl (.need i b)
        | .dead => .inl (.done ⟨cs, fs, fn, nt, H0, k, T, H⟩ kept)
        | .ok cs' T' H' kept' => .inr (⟨cs', fs, fn, nt, H0, k', T', H'⟩, kept')
      | false => match splitL ops.toList with
        | none => .inl (.done ⟨cs, fs, fn, nt, H0, k, T, H⟩ kept)
        | some (ini, last) => match drawP X rec p ini nt ini cs T H kept with
          | .need i b => .inl (.need i b)
          | .dead => .inl (.done ⟨cs, fs, fn, nt, H0, k, T, H⟩ kept)
          | .ok cs' T' H' kept' => match stepE X T' H' last.op with
            | none => .inl (.done ⟨cs, fs, fn, nt, H0, k, T, H⟩ kept)
            | some e => match afterF nt last.dst T' H' e with
              | none => .inl (.done ⟨cs, fs, fn, nt, H0, k, T, H⟩ kept)
              | some (_, T2, H2) => .inr (⟨cs', fs, fn, nt, H0, k', T2, H2⟩, kept')
    | _ => match step1 X (fun _ _ _ _ _ => none) ⟨cs, fs, fn, nt, H0, k, T, H⟩ with
      | some (_, s') => .inr (s', kept)
      | none => match cs, k with
        | [], .code (.cond (.tmp t) _ _) :: _ => match look T t with
          | some (.bool b) => .inl (.need kept.length b)
          | _ => .inl (.done ⟨cs, fs, fn, nt, H0, k, T, H⟩ kept)
        | [], .ops all (o :: _) :: _ => match guardU all T o.guard with
          | some (_, b) => .inl (.need kept.length b)
          | none => .inl (.done ⟨cs, fs, fn, nt, H0, k, T, H⟩ kept)
        | _, _ => .inl (.done ⟨cs, fs, fn, nt, H0, k, T, H⟩ kept)

def runP (X : Tabs) (bk : List Bk) : Nat → Nat → St → List (Nat × Nat) → PrR
  | 0, _, s, kept => .done s kept
  | n + 1, p, s, kept => match stopped bk s with
    | true => .done s kept
    | false => match stepP X (fun p s kept => runP X [] n p s kept) p s kept with
      | .inl r => r
      | .inr (s', kept') => runP X bk n p s' kept'
/-- The bool that is waited for, and how many are kept ahead of it. -/
def probe (X : Tabs) (bk : List Bk) (n : Nat) (s : St) : Option (Nat × Bool) :=
  match stepP X (fun p s kept => runP X [] n p s kept) 0 s [] with
  | .inl (.need i b) => some (i, b)
  | .inl _ => none
  | .inr (s', kept) => match runP X bk n 0 s' kept with
    | .need i b => some (i, b)
    | .done _ _ => none

section
variable {P : Program} {X : Tabs} (hX : TOk P X)
variable {Wb : (Nat → Nat × Nat) → World → Prop} {R : SV → List HE → Prop} {fn : Func} {nt : Nat} {H0 : List HE} {k : List KI} {T : List (Nat × SV)} {H : List HE} {fs : List Fm}
/-- Both ways at the bool that is waited for. -/
theorem ss_pb (bk : List Bk) (cs : List Ch) (n : Nat) {cs0 : List Ch} {i : Nat} {b : Bool} (_ : probe X bk n ⟨cs, fs, fn, nt, H0, k, T, H⟩ = some (i, b))
    (ht : b = true → SS hX Wb R ⟨cs0, fs, fn, nt, H0, k, T, H⟩) (hf : b = false → SS hX Wb R ⟨cs0, fs, fn, nt, H0, k, T, H⟩) : SS hX Wb R ⟨cs0, fs, fn, nt, H0, k, T, H⟩ := by
  cases b
  · exact hf rfl
  · exact ht rfl
end
end Go.Hx

/-
  Names found out of a heap; things that are there or not, more.
-/
namespace Go.Hx
open Go

/-- The names are told by the heap itself. -/
theorem sub_ofF {E : Env} {T T' : List (Nat × SV)} {H H' : List HE} (F : List HE → Option (List Nat)) {σs : List Nat} (_ : F H = some σs) (hlen : Nat.beq σs.length H'.length = true) (hnd : nodupN σs = true)
    (hb : fromN E.H0.length 0 σs = true) (hb' : leH E.H0 H' = true) (hT : subT (sig σs 0) T T') (hH : subH (sig σs 0) H 0 H') (hok1 : okTP (thereF H') T') (hok2 : okHP (thereF H') H') : Sub E T H T' H' :=
  sub_of σs hlen hnd hb hb' hT hH hok1 hok2

/-- What cell j of object i points to. -/
def hdlF (H : List HE) (i j d : Nat) : Option Nat :=
  match getH H i with
  | some (.cells l _) => match nthF l j with
    | some (.sbuf h _ _ _) => nums[h]?
    | some (.ptr h _) => nums[h]?
    | some (.slice h _ _ _) => nums[h]?
    | _ => some d
  | _ => none

theorem ren_objM {α : Type} {o : Option α} {f : α → SO} {σ : Nat → Nat} (h : ∀ a, (f a).ren σ = f a) : (objE (o.map f)).ren σ = objE (o.map f) := by
  cases o with
  | none => rfl
  | some a => simp [objE, HE.ren, h a]
theorem okE_objM {α : Type} {o : Option α} {f : α → SO} {A : Nat → Bool} (h : ∀ a, okE A (.obj (f a))) : okE A (objE (o.map f)) := by
  cases o with
  | none => trivial
  | some a => exact h a
end Go.Hx

/-
  A piece of code, gone through in a small heap: what else there is stays as it is.
-/
namespace Go.Hx
open Go

/-- What becomes of a place: it is as the small heap has it; it stays; it is dropped. -/
inductive Fl where
  | new | keep | drop
def HE.dim : HE → HE
  | .absent => .absent
  | _ => .opq
def setN : List HE → Nat → HE → List HE
  | [], _, _ => []
  | _ :: r, 0, e => e :: r
  | x :: r, n + 1, e => x :: setN r n e
def dimN : List HE → Nat → List HE
  | [], _ => []
  | x :: r, 0 => x.dim :: r
  | x :: r, n + 1 => x :: dimN r n
theorem setN_eq (e : HE) : ∀ (l : List HE) (n : Nat), setN l n e = l.set n e
  | [], _ => rfl
  | _ :: _, 0 => rfl
  | x :: r, n + 1 => by simp [setN, setN_eq e r n]
theorem dimN_get : ∀ (l : List HE) (n i : Nat), (dimN l n)[i]? = if i = n then l[i]?.map HE.dim else l[i]?
  | [], _, _ => by simp [dimN]
  | x :: r, 0, 0 => by simp [dimN]
  | x :: r, 0, i + 1 => by simp [dimN]
  | x :: r, n + 1, 0 => by simp [dimN]
  | x :: r, n + 1, i + 1 => by simp [dimN, dimN_get r n i]
theorem dimN_length : ∀ (l : List HE) (n : Nat), (dimN l n).length = l.length
  | [], _ => rfl
  | _ :: _, 0 => rfl
  | x :: r, n + 1 => by simp [dimN, dimN_length r n]

def layB (σ : Nat → Nat) : List HE → List Nat → List Fl → List HE → List HE
  | H, s :: ss, .new :: fs, e :: es => layB σ (setN H s (e.ren σ)) ss fs es
  | H, _ :: ss, .keep :: fs, _ :: es => layB σ H ss fs es
  | H, s :: ss, .drop :: fs, _ :: es => layB σ (dimN H s) ss fs es
  | H, _, _, _ => H
def dropL : List HE → List Nat → List HE
  | l, [] => l
  | _ :: r, _ :: s => dropL r s
  | [], _ => []
def renL (σ : Nat → Nat) : List HE → List HE
  | [] => []
  | e :: r => e.ren σ :: renL σ r
def appL : List HE → List HE → List HE
  | [], m => m
  | e :: l, m => e :: appL l m
def mergeB (σ : Nat → Nat) (σs : List Nat) (fs : List Fl) (H Hn : List HE) : List HE := appL (layB σ H σs fs Hn) (renL σ (dropL Hn σs))
def renT (σ : Nat → Nat) : List (Nat × SV) → List (Nat × SV)
  | [] => []
  | (t, v) :: r => (t, v.ren σ) :: renT σ r

theorem dropL_eq : ∀ (l : List HE) (s : List Nat), dropL l s = l.drop s.length
  | l, [] => by simp [dropL]
  | _ :: r, _ :: s => by simp [dropL, dropL_eq r s]
  | [], _ :: _ => by simp [dropL]
theorem renL_eq (σ : Nat → Nat) : ∀ l : List HE, renL σ l = l.map (HE.ren σ)
  | [] => rfl
  | e :: r => by simp [renL, renL_eq σ r]
theorem appL_eq : ∀ l m : List HE, appL l m = l ++ m
  | [], _ => rfl
  | e :: l, m => by simp [appL, appL_eq l m]
theorem layB_length (σ : Nat → Nat) : ∀ (H : List HE) (ss : List Nat) (fs : List Fl) (es : List HE), (layB σ H ss fs es).length = H.length
  | H, s :: ss, .new :: fs, e :: es => by rw [layB, layB_length σ _ ss fs es, setN_eq, List.length_set]
  | H, _ :: ss, .keep :: fs, _ :: es => by rw [layB, layB_length σ _ ss fs es]
  | H, s :: ss, .drop :: fs, _ :: es => by rw [layB, layB_length σ _ ss fs es, dimN_length]
  | H, [], _, _ => by simp [layB]
  | H, _ :: _, [], _ => by simp [layB]
  | H, _ :: _, .new :: _, [] => by simp [layB]
  | H, _ :: _, .keep :: _, [] => by simp [layB]
  | H, _ :: _, .drop :: _, [] => by simp [layB]
theorem layB_other (σ : Nat → Nat) : ∀ (H : List HE) (ss : List Nat) (fs : List Fl) (es : List HE) (x : Nat), x ∉ ss → (layB σ H ss fs es)[x]? = H[x]?
  | H, s :: ss, .new :: fs, e :: es, x, hx => by
    simp at hx
    rw [layB, layB_other σ _ ss fs es x hx.2, setN_eq, List.getElem?_set, if_neg (fun e => hx.1 e.symm)]
  | H, _ :: ss, .keep :: fs, _ :: es, x, hx => by
    simp at hx
    rw [layB, layB_other σ _ ss fs es x hx.2]
  | H, s :: ss, .drop :: fs, _ :: es, x, hx => by
    simp at hx
    rw [layB, layB_other σ _ ss fs es x hx.2, dimN_get, if_neg hx.1]
  | H, [], _, _, _, _ => by simp [layB]
  | H, _ :: _, [], _, _, _ => by simp [layB]
  | H, _ :: _, .new :: _, [], _, _ => by simp [layB]
  | H, _ :: _, .keep :: _, [], _, _ => by simp [layB]
  | H, _ :: _, .drop :: _, [], _, _ => by simp [layB]
theorem layB_at (σ : Nat → Nat) : ∀ (H : List HE) (ss : List Nat) (fs : List Fl) (es : List HE) (i s : Nat) (f : Fl) (e : HE), nodupN ss = true → ss[i]? = some s → fs[i]? = some f → es[i]? = some e → fs.length ≤ es.length → s < H.length →
    (layB σ H ss fs es)[s]? = match f with | .new => some (e.ren σ) | .keep => H[s]? | .drop => H[s]?.map HE.dim
  | H, [], _, _, i, s, f, e, _, h, _, _, _, _ => by simp at h
  | H, _ :: _, [], _, i, s, f, e, _, _, h, _, _, _ => by simp at h
  | H, _ :: _, _ :: _, [], i, s, f, e, _, _, _, h, _, _ => by simp at h
  | H, t :: ss, g :: fs, d :: es, i, s, f, e, hn, hs, hf, he, hle, hlt => by
    simp only [nodupN, Bool.and_eq_true, Bool.not_eq_true'] at hn
    cases i with
    | zero =>
      simp at hs hf he; subst hs; subst hf; subst he
      have hm : t ∉ ss := by intro h; have := memN_iff.2 h; rw [this] at hn; simp at hn
      cases g
      · rw [layB, layB_other σ _ ss fs es t hm, setN_eq]; simp [hlt]
      · rw [layB, layB_other σ _ ss fs es t hm]
      · rw [layB, layB_other σ _ ss fs es t hm, dimN_get, if_pos rfl]
    | succ i =>
      have hts : t ≠ s := by
        intro e1; subst e1
        have hm : t ∈ ss := List.mem_of_getElem? (by simpa using hs)
        have := memN_iff.2 hm; rw [this] at hn; simp at hn
      have hle' : fs.length ≤ es.length := by simp at hle; exact hle
      cases g
      · rw [layB, layB_at σ _ ss fs es i s f e hn.2 (by simpa using hs) (by simpa using hf) (by simpa using he) hle' (by rw [setN_eq]; simpa using hlt), setN_eq, List.getElem?_set, if_neg hts]
      · rw [layB, layB_at σ _ ss fs es i s f e hn.2 (by simpa using hs) (by simpa using hf) (by simpa using he) hle' hlt]
      · rw [layB, layB_at σ _ ss fs es i s f e hn.2 (by simpa using hs) (by simpa using hf) (by simpa using he) hle' (by rw [dimN_length]; exact hlt), dimN_get, if_neg (fun h => hts h.symm)]

def okNew : HE → Prop
  | .obj o => o.owned = true
  | _ => True
def okNews : List HE → Prop
  | [] => True
  | e :: r => okNew e ∧ okNews r
theorem okNews_get : ∀ {l : List HE}, okNews l → ∀ {h : Nat} {o : SO}, l[h]? = some (.obj o) → o.owned = true
  | [], _, h, o, ho => by simp at ho
  | e :: r, hl, 0, o, ho => by simp at ho; subst ho; exact hl.1
  | e :: r, hl, h + 1, o, ho => okNews_get hl.2 (h := h) (by simpa using ho)

/-- What the places are, and what becomes of them. -/
def flOk : List Fl → List HE → List HE → Prop
  | [], [], es => okNews es
  | .new :: fs, .obj _ :: cs, _ :: es => flOk fs cs es
  | .keep :: fs, .opq :: cs, _ :: es => flOk fs cs es
  | .drop :: fs, c :: cs, e :: es => (e.there = true → c.there = true) ∧ flOk fs cs es
  | _, _, _ => False
theorem flOk_len : ∀ {fs : List Fl} {cs es : List HE}, flOk fs cs es → fs.length = cs.length ∧ cs.length ≤ es.length
  | [], [], es, _ => by simp
  | .new :: fs, .obj _ :: cs, _ :: es, h => by have := flOk_len (fs := fs) (cs := cs) (es := es) h; simp; exact this
  | .keep :: fs, .opq :: cs, _ :: es, h => by have := flOk_len (fs := fs) (cs := cs) (es := es) h; simp; exact this
  | .drop :: fs, c :: cs, e :: es, h => by have := flOk_len (fs := fs) (cs := cs) (es := es) h.2; simp; exact this
  | [], _ :: _, _, h => by simp [flOk] at h
  | .new :: _, [], _, h => by simp [flOk] at h
  | .new :: _, .absent :: _, _, h => by simp [flOk] at h
  | .new :: _, .opq :: _, _, h => by simp [flOk] at h
  | .new :: _, .obj _ :: _, [], h => by simp [flOk] at h
  | .keep :: _, [], _, h => by simp [flOk] at h
  | .keep :: _, .absent :: _, _, h => by simp [flOk] at h
  | .keep :: _, .obj _ :: _, _, h => by simp [flOk] at h
  | .keep :: _, .opq :: _, [], h => by simp [flOk] at h
  | .drop :: _, [], _, h => by simp [flOk] at h
  | .drop :: _, _ :: _, [], h => by simp [flOk] at h
theorem flOk_get : ∀ {fs : List Fl} {cs es : List HE}, flOk fs cs es → ∀ {h : Nat} {f : Fl}, fs[h]? = some f → ∃ c e, cs[h]? = some c ∧ es[h]? = some e ∧
    match f with | .new => ∃ o, c = .obj o | .keep => c = .opq | .drop => (e.there = true → c.there = true)
  | [], [], es, _, h, f, hf => by simp at hf
  | .new :: fs, .obj o :: cs, e :: es, hk, 0, f, hf => by simp at hf; subst hf; exact ⟨_, _, rfl, rfl, o, rfl⟩
  | .new :: fs, .obj _ :: cs, _ :: es, hk, h + 1, f, hf => flOk_get (fs := fs) (cs := cs) (es := es) hk (h := h) (by simpa using hf)
  | .keep :: fs, .opq :: cs, e :: es, hk, 0, f, hf => by simp at hf; subst hf; exact ⟨_, _, rfl, rfl, rfl⟩
  | .keep :: fs, .opq :: cs, _ :: es, hk, h + 1, f, hf => flOk_get (fs := fs) (cs := cs) (es := es) hk (h := h) (by simpa using hf)
  | .drop :: fs, c :: cs, e :: es, hk, 0, f, hf => by simp at hf; subst hf; exact ⟨_, _, rfl, rfl, hk.1⟩
  | .drop :: fs, c :: cs, e :: es, hk, h + 1, f, hf => flOk_get (fs := fs) (cs := cs) (es := es) hk.2 (h := h) (by simpa using hf)
  | [], _ :: _, _, hk, _, _, _ => by simp [flOk] at hk
  | .new :: _, [], _, hk, _, _, _ => by simp [flOk] at hk
  | .new :: _, .absent :: _, _, hk, _, _, _ => by simp [flOk] at hk
  | .new :: _, .opq :: _, _, hk, _, _, _ => by simp [flOk] at hk
  | .new :: _, .obj _ :: _, [], hk, _, _, _ => by simp [flOk] at hk
  | .keep :: _, [], _, hk, _, _, _ => by simp [flOk] at hk
  | .keep :: _, .absent :: _, _, hk, _, _, _ => by simp [flOk] at hk
  | .keep :: _, .obj _ :: _, _, hk, _, _, _ => by simp [flOk] at hk
  | .keep :: _, .opq :: _, [], hk, _, _, _ => by simp [flOk] at hk
  | .drop :: _, [], _, hk, _, _, _ => by simp [flOk] at hk
  | .drop :: _, _ :: _, [], hk, _, _, _ => by simp [flOk] at hk
theorem flOk_news : ∀ {fs : List Fl} {cs es : List HE}, flOk fs cs es → okNews (es.drop cs.length)
  | [], [], es, h => by simpa [flOk] using h
  | .new :: fs, .obj _ :: cs, _ :: es, h => by simpa using flOk_news (fs := fs) (cs := cs) (es := es) h
  | .keep :: fs, .opq :: cs, _ :: es, h => by simpa using flOk_news (fs := fs) (cs := cs) (es := es) h
  | .drop :: fs, c :: cs, e :: es, h => by simpa using flOk_news (fs := fs) (cs := cs) (es := es) h.2
  | [], _ :: _, _, h => by simp [flOk] at h
  | .new :: _, [], _, h => by simp [flOk] at h
  | .new :: _, .absent :: _, _, h => by simp [flOk] at h
  | .new :: _, .opq :: _, _, h => by simp [flOk] at h
  | .new :: _, .obj _ :: _, [], h => by simp [flOk] at h
  | .keep :: _, [], _, h => by simp [flOk] at h
  | .keep :: _, .absent :: _, _, h => by simp [flOk] at h
  | .keep :: _, .obj _ :: _, _, h => by simp [flOk] at h
  | .keep :: _, .opq :: _, [], h => by simp [flOk] at h
  | .drop :: _, [], _, h => by simp [flOk] at h
  | .drop :: _, _ :: _, [], h => by simp [flOk] at h

theorem dim_there (e : HE) : e.dim.there = e.there := by cases e <;> rfl
theorem dim_noobj {e : HE} {o : SO} : e.dim ≠ .obj o := by cases e <;> simp [HE.dim]

set_option maxHeartbeats 2000000 in
/-- The small heap, seen in the great one. -/
theorem frame_sat {E : Env} {ρ ρc : Nat → Nat × Nat} {H Hs Hn : List HE} {w w' : World} {σs : List Nat} {T : List (Nat × SV)} {a : Act} {fs : List Fl}
    (hs : Sat E ρ T H a w) (hlen : σs.length = Hs.length) (hnd : nodupN σs = true) (hold : ∀ h, h < σs.length → sig σs H.length h < H.length)
    (hsub : ∀ (h : Nat) (o : SO), Hs[h]? = some (.obj o) → ∃ u, H[sig σs H.length h]? = some (.obj u) ∧ u.owned = o.owned)
    (hsth : ∀ h, there Hs h = true → there H (sig σs H.length h) = true)
    (hc : HSat w (Own (fun x => ρ (sig σs H.length x)) Hs) ρc Hn w')
    (hbase : ∀ h, there Hs h = true → ρc h = ρ (sig σs H.length h) ∧ there Hn h = true) (hfl : flOk fs Hs Hn) :
    ∃ ρ', HSat E.w0 E.bs ρ' (mergeB (sig σs H.length) σs fs H Hn) w' ∧ (∀ x, there H x = true → ρ x = ρ' x) ∧ (∀ x, there H x = true → there (mergeB (sig σs H.length) σs fs H Hn) x = true) ∧
      (∀ h, there Hn h = true → ρ' (sig σs H.length h) = ρc h ∧ there (mergeB (sig σs H.length) σs fs H Hn) (sig σs H.length h) = true) := by
  generalize hσ : sig σs H.length = σ at *
  have hσlt : ∀ h, h < σs.length → σs[h]? = some (σ h) := fun h hh => by rw [← hσ]; exact sig_lt hh
  have hσge : ∀ h, σs.length ≤ h → σ h = H.length + (h - σs.length) := fun h hh => by rw [← hσ]; exact sig_ge hh
  obtain ⟨hl1, hl2⟩ := flOk_len hfl
  have hfs : fs.length = σs.length := by omega
  have hnlen : σs.length ≤ Hn.length := by omega
  have hff : ∀ h, h < σs.length → ∃ f c e, fs[h]? = some f ∧ Hs[h]? = some c ∧ Hn[h]? = some e ∧ match f with | .new => ∃ o, c = .obj o | .keep => c = .opq | .drop => (e.there = true → c.there = true) := fun h hh => by
    have hf : fs[h]? = some (fs[h]'(by omega)) := List.getElem?_eq_getElem _
    obtain ⟨c, e, h1, h2, h3⟩ := flOk_get hfl hf
    exact ⟨_, c, e, hf, h1, h2, h3⟩
  let M := mergeB σ σs fs H Hn
  have hM : M = layB σ H σs fs Hn ++ (Hn.drop σs.length).map (HE.ren σ) := by
    show mergeB σ σs fs H Hn = _
    unfold mergeB
    rw [appL_eq, renL_eq, dropL_eq]
  have hMlt : ∀ x, x < H.length → M[x]? = (layB σ H σs fs Hn)[x]? := fun x hx => by
    rw [hM, List.getElem?_append_left (by rw [layB_length]; exact hx)]
  have hMge : ∀ h, σs.length ≤ h → M[σ h]? = (Hn[h]?).map (HE.ren σ) := fun h hh => by
    rw [hM, hσge h hh, List.getElem?_append_right (by rw [layB_length]; omega), layB_length]
    simp only [Nat.add_sub_cancel_left, List.getElem?_map, List.getElem?_drop]
    rw [show σs.length + (h - σs.length) = h from by omega]
  have hMsig : ∀ h f e, h < σs.length → fs[h]? = some f → Hn[h]? = some e → M[σ h]? = match f with | .new => some (e.ren σ) | .keep => H[σ h]? | .drop => H[σ h]?.map HE.dim := fun h f e hh hf he => by
    rw [hMlt _ (hold h hh)]
    exact layB_at σ H σs fs Hn h (σ h) f e hnd (hσlt h hh) hf he (by omega) (hold h hh)
  have hMoth : ∀ x, x < H.length → x ∉ σs → M[x]? = H[x]? := fun x hx hn => by
    rw [hMlt x hx, layB_other σ H σs fs Hn x hn]
  have hMnone : ∀ x e, M[x]? = some e → H.length ≤ x → ∃ h, σs.length ≤ h ∧ x = σ h ∧ ∃ e', Hn[h]? = some e' ∧ e = e'.ren σ := fun x e he hx => by
    refine ⟨σs.length + (x - H.length), by omega, ?_, ?_⟩
    · rw [hσge _ (by omega)]; omega
    · have h1 := hMge (σs.length + (x - H.length)) (by omega)
      rw [hσge _ (by omega)] at h1
      rw [show H.length + (σs.length + (x - H.length) - σs.length) = x from by omega, he] at h1
      cases hx' : Hn[σs.length + (x - H.length)]? with
      | none => rw [hx'] at h1; simp at h1
      | some e' => rw [hx'] at h1; simp at h1; exact ⟨e', rfl, h1⟩
  have hinj : ∀ g h, g < σs.length → h < σs.length → σ g = σ h → g = h := fun g h h1 h2 e => by
    have e1 := hσlt g h1
    have e2 := hσlt h h2
    rw [e] at e1
    exact nodupN_get hnd e1 e2
  let ρ' : Nat → Nat × Nat := fun x => if x < H.length then ρ x else ρc (x - H.length + σs.length)
  have hthS : ∀ h, h < σs.length → there Hn h = true → there Hs h = true := fun h hl hh => by
    obtain ⟨f, c, e, _, h1, h2, h3⟩ := hff h hl
    have he : e.there = true := by unfold there at hh; rw [h2] at hh; exact hh
    have : c.there = true := by
      cases f
      · obtain ⟨o, rfl⟩ := h3; rfl
      · simp only at h3; subst h3; rfl
      · exact h3 he
    unfold there; rw [h1]; exact this
  have hρ'σ : ∀ h, there Hn h = true → ρ' (σ h) = ρc h := fun h hh => by
    rcases Nat.lt_or_ge h σs.length with hl | hl
    · have := (hbase h (hthS h hl hh)).1
      simp only [ρ']
      rw [if_pos (hold h hl), this]
    · simp only [ρ']
      rw [hσge h hl, if_neg (by omega)]
      congr 1; omega
  have hρ'H : ∀ x, there H x = true → ρ x = ρ' x := fun x hx => by
    simp only [ρ']; rw [if_pos (there_lt hx)]
  have hthM : ∀ h, h < σs.length → there H (σ h) = true → there M (σ h) = true := fun h hl hh => by
    obtain ⟨f, c, e, hf, h1, h2, h3⟩ := hff h hl
    have hm := hMsig h f e hl hf h2
    unfold there at hh ⊢
    rw [hm]
    cases f
    · obtain ⟨o, rfl⟩ := h3
      have := (hbase h (there_of_obj h1)).2
      unfold there at this
      rw [h2] at this
      cases e <;> simp_all [HE.ren, HE.there]
    · exact hh
    · simp only
      cases hx : H[σ h]? with
      | none => rw [hx] at hh; simp at hh
      | some u => rw [hx] at hh; simpa [dim_there] using hh
  have hthN : ∀ h, there Hn h = true → there M (σ h) = true := fun h hh => by
    rcases Nat.lt_or_ge h σs.length with hl | hl
    · exact hthM h hl (hsth h (hthS h hl hh))
    · unfold there at hh ⊢
      rw [hMge h hl]
      cases he : Hn[h]? with
      | none => rw [he] at hh; simp at hh
      | some e => rw [he] at hh; cases e <;> simp_all [HE.ren, HE.there]
  have hthH : ∀ x, there H x = true → there M x = true := fun x hx => by
    by_cases hm : x ∈ σs
    · obtain ⟨h, hh⟩ := List.getElem?_of_mem hm
      have hl : h < σs.length := by
        rcases Nat.lt_or_ge h σs.length with h1 | h1
        · exact h1
        · rw [List.getElem?_eq_none h1] at hh; simp at hh
      have e := hσlt h hl
      rw [hh] at e; simp at e
      subst e
      exact hthM h hl hx
    · have := hMoth x (there_lt hx) hm
      unfold there at *
      rw [this]; exact hx
  -- each handle of M that is known is the great heap's own (and not the small one's), or the small one's
  let Mine : Nat → Prop := fun x => ∀ g, g < σs.length → (∃ o, Hs[g]? = some (HE.obj o)) → x ≠ σ g
  have hcase : ∀ x o, M[x]? = some (HE.obj o) → (H[x]? = some (.obj o) ∧ Mine x) ∨ ∃ h o', x = σ h ∧ Hn[h]? = some (HE.obj o') ∧ o = o'.ren σ ∧ (h < σs.length → ∃ c, Hs[h]? = some (HE.obj c)) := fun x o he => by
    rcases Nat.lt_or_ge x H.length with hx | hx
    · by_cases hm : x ∈ σs
      · obtain ⟨h, hh⟩ := List.getElem?_of_mem hm
        have hl : h < σs.length := by
          rcases Nat.lt_or_ge h σs.length with h1 | h1
          · exact h1
          · rw [List.getElem?_eq_none h1] at hh; simp at hh
        have e1 := hσlt h hl
        rw [hh] at e1; simp at e1
        subst e1
        obtain ⟨f, c, e, hf, h1, h2, h3⟩ := hff h hl
        have hm' := hMsig h f e hl hf h2
        rw [he] at hm'
        cases f
        · right
          simp only at hm'
          obtain ⟨oc, rfl⟩ := h3
          cases e with
          | absent => simp [HE.ren] at hm'
          | opq => simp [HE.ren] at hm'
          | obj o' => simp [HE.ren] at hm'; exact ⟨h, o', rfl, h2, hm', fun _ => ⟨oc, h1⟩⟩
        · left
          refine ⟨hm'.symm, fun g hg hog e4 => ?_⟩
          have := hinj g h hg hl e4.symm
          subst this
          obtain ⟨o4, ho4⟩ := hog
          simp only at h3; subst h3
          rw [h1] at ho4; simp at ho4
        · simp only at hm'
          cases hu : H[σ h]? with
          | none => rw [hu] at hm'; simp at hm'
          | some u => rw [hu] at hm'; simp at hm'; exact absurd hm'.symm dim_noobj
      · left
        refine ⟨by rw [← hMoth x hx hm]; exact he, fun g hg _ e4 => hm ?_⟩
        rw [e4]; exact List.mem_of_getElem? (hσlt g hg)
    · right
      obtain ⟨h, h0, h2, e', h3, h4⟩ := hMnone x _ he hx
      cases e' with
      | absent => simp [HE.ren] at h4
      | opq => simp [HE.ren] at h4
      | obj o' => simp [HE.ren] at h4; exact ⟨h, o', h2, h3, h4, fun hl => absurd hl (by omega)⟩
  have hnotown : ∀ (x : Nat) (ox : SO), H[x]? = some (HE.obj ox) → Mine x → ¬ Own (fun x => ρ (σ x)) Hs (ρ x).1 := fun x ox hx hm ⟨h, o, h1, _, h3⟩ => by
    have hl : h < σs.length := by have := there_lt (there_of_obj h1); omega
    obtain ⟨u, hu, _⟩ := hsub h o h1
    have := hs.hs.inj _ _ _ _ hu hx h3
    exact hm h hl ⟨o, h1⟩ this.symm
  have hsame : ∀ (x : Nat) (ox : SO), H[x]? = some (HE.obj ox) → Mine x → w'.heap[(ρ x).1]? = w.heap[(ρ x).1]? := fun x ox hx hm =>
    hc.fr.same _ (hs.hs.size x (there_of_obj hx)) (hnotown x ox hx hm)
  have hfresh : ∀ (h : Nat) (o : SO), σs.length ≤ h → Hn[h]? = some (HE.obj o) → w.heap.size ≤ (ρc h).1 ∨ ∃ g og, Hs[g]? = some (HE.obj og) ∧ (ρ (σ g)).1 = (ρc h).1 := fun h o hh hob => by
    have hget : (Hn.drop Hs.length)[h - Hs.length]? = some (HE.obj o) := by
      rw [List.getElem?_drop, show Hs.length + (h - Hs.length) = h from by omega]; exact hob
    have h2 := okNews_get (flOk_news hfl) hget
    rcases hc.own h o hob h2 with ⟨g, og, g1, g2, g3⟩ | h3
    · exact .inr ⟨g, og, g1, g3⟩
    · exact .inl h3
  refine ⟨ρ', ⟨?_, ?_, ?_, ?_, ?_⟩, hρ'H, hthH, fun h hh => ⟨hρ'σ h hh, hthN h hh⟩⟩
  · intro x o ho
    rcases hcase x _ ho with ⟨hH, hm⟩ | ⟨h, on, hxe, hn, he, _⟩
    · obtain ⟨h1, h2⟩ := hs.hs.objs x o hH
      refine ⟨?_, SO.okh_mono hthH _ h2⟩
      have h3 := SO.holds_congr hρ'H o h2 h1
      rw [← hρ'H x (there_of_obj hH)]
      exact SO.holds_world (hsame x _ hH hm) _ h3
    · subst he
      obtain ⟨h1, h2⟩ := hc.objs h on hn
      subst hxe
      refine ⟨?_, ?_⟩
      · rw [SO.holds_ren, hρ'σ h (there_of_obj hn)]
        exact SO.holds_congr (fun y hy => (hρ'σ y hy).symm) on h2 h1
      · have : (on.ren σ).okh (there M) = on.okh (fun y => there M (σ y)) := by
          cases on <;> simp [SO.ren, SO.okh, okhs_rens]
        rw [this]
        exact SO.okh_mono hthN on h2
  · intro x hx
    rcases Nat.lt_or_ge x H.length with hxl | hxl
    · -- the handle is one of the great heap's
      by_cases hH : there H x = true
      · rw [← hρ'H x hH]
        have := hs.hs.size x hH
        have := hc.fr.size
        omega
      · exfalso
        have hx' : there M x = true := hx
        by_cases hm : x ∈ σs
        · obtain ⟨h, hh⟩ := List.getElem?_of_mem hm
          have hl : h < σs.length := by
            rcases Nat.lt_or_ge h σs.length with h1 | h1
            · exact h1
            · rw [List.getElem?_eq_none h1] at hh; simp at hh
          have e1 := hσlt h hl
          rw [hh] at e1; simp at e1
          subst e1
          obtain ⟨f, c, e, hf, h1, h2, h3⟩ := hff h hl
          have hm' := hMsig h f e hl hf h2
          unfold there at hx' hH
          rw [hm'] at hx'
          cases f
          · obtain ⟨oc, rfl⟩ := h3
            exact hH (hsth h (there_of_obj h1))
          · exact hH hx'
          · simp only at hx'
            cases hu : H[σ h]? with
            | none => rw [hu] at hx'; simp at hx'
            | some u => rw [hu] at hx' hH; simp [dim_there] at hx'; simp [hx'] at hH
        · have := hMoth x hxl hm
          unfold there at hx' hH
          rw [this] at hx'
          exact hH hx'
    · have hx' : there M x = true := hx
      unfold there at hx'
      cases he : M[x]? with
      | none => rw [he] at hx'; simp at hx'
      | some e =>
        rw [he] at hx'
        obtain ⟨h, h0, h2, e', h3, h4⟩ := hMnone x e he hxl
        have hth : there Hn h = true := by unfold there; rw [h3]; rw [h4] at hx'; cases e' <;> simp_all [HE.ren, HE.there]
        rw [h2, hρ'σ h hth]
        exact hc.size h hth
  · have mix : ∀ (x h : Nat) (ox o : SO), H[x]? = some (HE.obj ox) → Mine x → Hn[h]? = some (HE.obj o) → (h < σs.length → ∃ c, Hs[h]? = some (HE.obj c)) → (ρ x).1 = (ρc h).1 → False := fun x h ox o hx hm hh hcc e => by
      rcases Nat.lt_or_ge h σs.length with hl | hl
      · obtain ⟨c, hc1⟩ := hcc hl
        obtain ⟨u, hu, _⟩ := hsub h c hc1
        rw [(hbase h (there_of_obj hc1)).1] at e
        exact hm h hl ⟨c, hc1⟩ (hs.hs.inj _ _ _ _ hx hu e)
      · have hsz := hs.hs.size x (there_of_obj hx)
        rcases hfresh h o hl hh with h1 | ⟨g, og, g1, g2⟩
        · omega
        · obtain ⟨u, hu, _⟩ := hsub g og g1
          exact hm g (by have := there_lt (there_of_obj g1); omega) ⟨og, g1⟩ (hs.hs.inj _ _ _ _ hx hu (by rw [e, g2]))
    intro x y ox oy hx hy e
    rcases hcase x ox hx with ⟨hx1, hx2⟩ | ⟨h, o1, hxe, hh, _, hhc⟩ <;> rcases hcase y oy hy with ⟨hy1, hy2⟩ | ⟨g, o2, hye, hg, _, hgc⟩
    · rw [← hρ'H x (there_of_obj hx1), ← hρ'H y (there_of_obj hy1)] at e; exact hs.hs.inj x y _ _ hx1 hy1 e
    · rw [← hρ'H x (there_of_obj hx1), hye, hρ'σ g (there_of_obj hg)] at e; exact (mix x g _ _ hx1 hx2 hg hgc e).elim
    · rw [← hρ'H y (there_of_obj hy1), hxe, hρ'σ h (there_of_obj hh)] at e; exact (mix y h _ _ hy1 hy2 hh hhc e.symm).elim
    · rw [hxe, hye, hρ'σ h (there_of_obj hh), hρ'σ g (there_of_obj hg)] at e
      rw [hxe, hye, hc.inj h g _ _ hh hg e]
  · intro x o ho hoo
    rcases hcase x _ ho with ⟨hH, hm⟩ | ⟨h, on, hxe, hn, he, _⟩
    · rw [← hρ'H x (there_of_obj hH)]; exact hs.hs.own x o hH hoo
    · subst he
      rw [SO.owned_ren] at hoo
      rw [hxe, hρ'σ h (there_of_obj hn)]
      rcases hc.own h on hn hoo with ⟨g, og, g1, g2, g3⟩ | h3
      · obtain ⟨u, hu, huo⟩ := hsub g og g1
        have := hs.hs.own _ _ hu (by rw [huo]; exact g2)
        simp only at g3
        rw [g3] at this; exact this
      · right; have := hs.hs.fr.size; omega
  · refine ⟨by have := hs.hs.fr.size; have := hc.fr.size; omega, fun b hb hnb => ?_, hc.fr.io.1.trans hs.hs.fr.io.1, hc.fr.io.2.1.trans hs.hs.fr.io.2.1, hc.fr.io.2.2.trans hs.hs.fr.io.2.2⟩
    rw [hc.fr.same b (by have := hs.hs.fr.size; omega) ?_]
    · exact hs.hs.fr.same b hb hnb
    · rintro ⟨g, og, g1, g2, g3⟩
      obtain ⟨u, hu, huo⟩ := hsub g og g1
      rcases hs.hs.own _ _ hu (by rw [huo]; exact g2) with h1 | h1
      · simp only at g3; rw [g3] at h1; exact hnb h1
      · simp only at g3; rw [g3] at h1; omega

/-- No loops. -/
def onlyCode : List KI → Bool
  | [] => true
  | .code _ :: k => onlyCode k
  | .blk _ :: k => onlyCode k
  | .ops _ _ :: k => onlyCode k
  | _ :: _ => false

theorem upon_mono2 {P : Program} {o : Oper} {a : Act} {K K' : Act → World → Prop} {Q Q' : Exit → Act → World → Prop} (hK : ∀ a w, K a w → K' a w) (hQ : ∀ e a w, Q e a w → Q' e a w) (r : Result Next) (h : o.upon P a K Q r) : o.upon P a K' Q' r := by
  cases r with
  | ok n w =>
    cases n with
    | enter f args =>
      rw [Oper.upon_enter] at h ⊢
      refine Calls.mono h fun e w' he => ?_
      cases e with
      | returned v => exact hK _ _ he
      | panicked c => exact hQ _ _ _ he
      | outgrown => obtain ⟨a, w, h⟩ := he; exact ⟨a, w, hQ _ _ _ h⟩
    | row r as => rw [Oper.upon_row] at h ⊢; exact Rows.mono h fun v w' he => hK _ _ he
    | value v => exact hK _ _ h
    | skip => exact hK _ _ h
    | defer d => exact hK _ _ h
    | _ => exact h
  | halt h' w =>
    cases h' with
    | panic v => exact hQ _ _ _ h
    | _ => exact h

theorem wpList_mono2 {P : Program} {ops : Array Oper} {Q Q' : Exit → Act → World → Prop} (hQ : ∀ e a w, Q e a w → Q' e a w) : ∀ (l : List Oper) (a : Act) (w : World), wpList P ops Q l a w → wpList P ops Q' l a w
  | [], a, w, h => hQ _ _ _ h
  | o :: l, a, w, h => by
    unfold wpList at h ⊢
    split at h
    · rename_i hw
      rw [if_pos hw]
      rcases h with h | ⟨h1, a', w', h2⟩
      · exact .inl (upon_mono2 (fun a w h => wpList_mono2 hQ l a w h) hQ _ h)
      · exact .inr ⟨h1, a', w', hQ _ _ _ h2⟩
    · rename_i hw
      rw [if_neg hw]
      exact wpList_mono2 hQ l _ _ h

theorem wk_frame {P : Program} {Qs Q : Exit → Act → World → Prop} {I J : Act → World → Prop} {k : List KI} (hQ : ∀ e a w, Qs e a w → False) (hJ : ∀ a w, J a w → WK P Q (.lp I :: k) .normal a w) :
    ∀ {K1 : List KI}, onlyCode K1 = true → ∀ e a w, WK P Qs (K1 ++ [.lp J]) e a w → WK P Q (K1 ++ .lp I :: k) e a w
  | [], _, e, a, w, h => by
    cases e with
    | normal => exact hJ a w h
    | _ => exact (hQ _ _ _ h).elim
  | .code c :: K1, hk, e, a, w, h => by
    cases e with
    | normal => exact wp_mono h fun e a w hh => wk_frame hQ hJ (K1 := K1) hk e a w hh
    | _ => exact wk_frame hQ hJ (K1 := K1) hk _ a w h
  | .blk id :: K1, hk, e, a, w, h => by
    cases e with
    | exit i =>
      simp only [List.cons_append, WK] at h ⊢
      split at h
      · rename_i hi; rw [if_pos hi]; exact wk_frame hQ hJ (K1 := K1) hk _ a w h
      · rename_i hi; rw [if_neg hi]; exact wk_frame hQ hJ (K1 := K1) hk _ a w h
    | _ => exact wk_frame hQ hJ (K1 := K1) hk _ a w h
  | .ops all l :: K1, hk, e, a, w, h => by
    cases e with
    | normal => exact wpList_mono2 (fun e a w hh => wk_frame hQ hJ (K1 := K1) hk e a w hh) l a w h
    | _ => exact wk_frame hQ hJ (K1 := K1) hk _ a w h
  | .lp _ :: _, hk, _, _, _, _ => by simp [onlyCode] at hk
  | .again _ _ :: _, hk, _, _, _, _ => by simp [onlyCode] at hk

theorem renT_look (σ : Nat → Nat) : ∀ {T : List (Nat × SV)} {t : Nat} {v : SV}, look (renT σ T) t = some v → ∃ u, look T t = some u ∧ v = u.ren σ
  | [], t, v, h => by simp [renT, look] at h
  | (k, u) :: r, t, v, h => by
    simp only [renT] at h
    rw [look_cons] at h ⊢
    split at h
    · rename_i e; simp at h; subst h; exact ⟨u, by simp [e], rfl⟩
    · rename_i e; rw [if_neg e]; exact renT_look σ h

def allLt (H : List HE) : List Nat → Prop
  | [] => True
  | s :: r => (∃ e, H[s]? = some e) ∧ allLt H r
theorem allLt_get {H : List HE} : ∀ {l : List Nat}, allLt H l → ∀ {i s : Nat}, l[i]? = some s → s < H.length
  | [], _, i, s, h => by simp at h
  | t :: r, hl, 0, s, h => by
    simp at h; subst h
    obtain ⟨e, he⟩ := hl.1
    rcases Nat.lt_or_ge t H.length with h1 | h1
    · exact h1
    · rw [List.getElem?_eq_none h1] at he; simp at he
  | t :: r, hl, i + 1, s, h => allLt_get hl.2 (i := i) (by simpa using h)

/-- What never is. -/
def Not2 : SV → List HE → Prop := fun _ _ => False

section
variable {P : Program} {X : Tabs} (hX : TOk P X)
variable {R : SV → List HE → Prop} {fn : Func} {nt : Nat} {H0 : List HE} {k : List KI} {T : List (Nat × SV)} {H : List HE} {cs : List Ch} {I : Act → World → Prop}

theorem not2_Q {ρ : Nat → Nat × Nat} {w : World} {H : List HE} (e : Exit) (a : Act) (w' : World) (h : (FEnv P X.TE hX.te fn nt H Not2 ρ w).Q e a w') : False := by
  simp only [FEnv] at h
  cases e with
  | normal => obtain ⟨_, v, _, ρ', H', v', h1, _⟩ := h; exact h1
  | ret => obtain ⟨_, v, _, ρ', H', v', h1, _⟩ := h; exact h1
  | panic c => exact h.2
  | outgrown => exact h
  | _ => exact h

/-- A piece of code, gone through in a small heap. -/
theorem ss_frame {ρ0 : Nat → Nat × Nat} {w0 : World} {K1 : List KI} {α : Type} (σs : List Nat) (fs : List Fl) (Ts : List (Nat × SV)) (Hs : List HE)
    (Tj : α → List (Nat × SV)) (Hj : α → List HE) (Q : α → Prop)
    (hK : onlyCode K1 = true) (hlen : Nat.beq σs.length Hs.length = true) (hnd : nodupN σs = true) (hlt : allLt H σs)
    (hT : subT (sig σs H.length) T Ts) (hH : subH (sig σs H.length) H 0 Hs) (hok1 : okTP (thereF Hs) Ts) (hok2 : okHP (thereF Hs) Hs)
    (hfl : ∀ x, Q x → flOk fs Hs (Hj x))
    (body : ∀ ρ1 w1 J, (∀ x, Q x → ∀ cs T H, (Sub (FEnv P X.TE hX.te fn nt Hs Not2 ρ1 w1) T H (Tj x) (Hj x)) → SS hX (At ρ1 w1) Not2 ⟨cs, [], fn, nt, Hs, [.lp J], T, H⟩) →
      SS hX (At ρ1 w1) Not2 ⟨[], [], fn, nt, Hs, K1 ++ [.lp J], Ts, Hs⟩)
    (rest : ∀ x, Q x → SS hX (At ρ0 w0) R ⟨[], [], fn, nt, H0, .lp I :: k, renT (sig σs H.length) (Tj x), mergeB (sig σs H.length) σs fs H (Hj x)⟩) :
    SS hX (At ρ0 w0) R ⟨cs, [], fn, nt, H0, K1 ++ .lp I :: k, T, H⟩ := by
  refine ss_sw hX fun ρ a w hs => ?_
  have hlen' : σs.length = Hs.length := Nat.eq_of_beq_eq_true hlen
  let ρs : Nat → Nat × Nat := fun x => ρ (sig σs H.length x)
  let J : Act → World → Prop := fun a w' => ∃ x, Q x ∧ ∃ ρ', Sat (FEnv P X.TE hX.te fn nt Hs Not2 ρs w) ρ' (Tj x) (Hj x) a w'
  have hb := body ρs w J fun x hx cs T H hsub => ss_sw hX fun ρ1 a1 w1 hs1 => by
    obtain ⟨ρ', hs'⟩ := hsub ρ1 a1 w1 hs1
    exact ⟨x, hx, ρ', hs'⟩
  have hfun : thereF Hs = there Hs := funext (thereF_eq Hs)
  have hok1' := okTP_ok hok1
  have hok2' := okHP_ok hok2
  rw [hfun] at hok1' hok2'
  have hth : ∀ h, there Hs h = true → there H (sig σs H.length h) = true := fun h hh => by
    have := (subH_get hH (h := h)).2 hh
    simpa using this
  have hobj : ∀ {h : Nat} {o : SO}, Hs[h]? = some (.obj o) → ∃ u, H[sig σs H.length h]? = some (.obj u) ∧ simO u (o.ren (sig σs H.length)) := by
    intro h o ho
    have := (subH_get hH (h := h)).1 ho
    simpa using this
  have hsmall : Sat (FEnv P X.TE hX.te fn nt Hs Not2 ρs w) ρs Ts Hs a w := by
    refine ⟨⟨?_, ?_, ?_, ?_, Fr.refl _ _⟩, ⟨?_, hs.ts.num, hs.ts.def0⟩, fun h hh => ⟨rfl, hh⟩⟩
    · intro h o ho
      obtain ⟨u, hu, hsim⟩ := hobj ho
      have := (hs.hs.objs _ _ hu).1
      exact ⟨(SO.holds_ren o).1 ((simO_holds hsim).1 this), okHs_get hok2' ho⟩
    · intro h hh; exact hs.hs.size _ (hth h hh)
    · intro h h' o o' hh hh' e
      obtain ⟨u1, hu1, _⟩ := hobj hh
      obtain ⟨u2, hu2, _⟩ := hobj hh'
      have := hs.hs.inj _ _ _ _ hu1 hu2 e
      have l1 : h < σs.length := by rw [hlen']; exact there_lt (there_of_obj hh)
      have l2 : h' < σs.length := by rw [hlen']; exact there_lt (there_of_obj hh')
      have g1 := sig_lt (b := H.length) l1
      have g2 := sig_lt (b := H.length) l2
      rw [this] at g1
      exact nodupN_get hnd g1 g2
    · intro h o ho hoo
      exact .inl ⟨h, o, ho, hoo, rfl⟩
    · intro t v hv
      obtain ⟨u, hu, hsim⟩ := subT_get hT hv
      obtain ⟨h1, h2⟩ := hs.ts.val t u hu
      exact ⟨by rw [h1, (sim_tr (A := fun _ => true) hsim).1, tr_ren], okT_get hok1' hv⟩
  have hw := sw_ss hX hb ρs a w hsmall
  refine wk_frame (not2_Q hX) (fun a' w' hJ => ?_) hK _ _ _ hw
  obtain ⟨x, hx, ρc, hsc⟩ := hJ
  obtain ⟨ρ', m1, m2, m3, m4⟩ := frame_sat hs hlen' hnd (fun h hh => allLt_get hlt (sig_lt hh)) (fun h o ho => by
      obtain ⟨u, hu, hsim⟩ := hobj ho
      refine ⟨u, hu, ?_⟩
      rw [(simO_holds (ρ := ρ) (w := w) (p := (0, 0)) hsim).2, SO.owned_ren]) hth hsc.hs (fun h hh => hsc.base h hh) (hfl x hx)
  refine sw_ss hX (rest x hx) ρ' a' w' ⟨m1, ⟨?_, hsc.ts.num, hsc.ts.def0⟩, ?_⟩
  · intro t v hv
    obtain ⟨u, hu, rfl⟩ := renT_look _ hv
    obtain ⟨h1, h2⟩ := hsc.ts.val t u hu
    refine ⟨?_, ?_⟩
    · rw [h1, tr_ren, tr_congr (fun h hh => (m4 h hh).1.symm) u h2]
    · rw [okh_ren]; exact okh_mono (fun h hh => (m4 h hh).2) u h2
  · intro h hh
    obtain ⟨q1, q2⟩ := hs.base h hh
    exact ⟨by rw [← m2 h q2]; exact q1, m3 h q2⟩
end
end Go.Hx

/-
  Other names, of which some are of one thing; a value that is forgotten.
-/
namespace Go.Hx
open Go

/-- Among things that are known no two have one name. -/
def memO (s : Nat) : List Nat → List HE → Bool
  | t :: ss, .obj _ :: es => Nat.beq s t || memO s ss es
  | _ :: ss, _ :: es => memO s ss es
  | _, _ => false
def nodupO : List Nat → List HE → Bool
  | s :: ss, .obj _ :: es => !memO s ss es && nodupO ss es
  | _ :: ss, _ :: es => nodupO ss es
  | _, _ => true
theorem memO_get {s : Nat} : ∀ {ss : List Nat} {es : List HE} {i : Nat} {o : SO}, ss[i]? = some s → es[i]? = some (.obj o) → memO s ss es = true
  | [], _, i, o, h, _ => by simp at h
  | t :: ss, [], i, o, _, h => by simp at h
  | t :: ss, e :: es, 0, o, h1, h2 => by
    simp at h1 h2; subst h1; subst h2
    simp [memO]
  | t :: ss, e :: es, i + 1, o, h1, h2 => by
    have := memO_get (s := s) (ss := ss) (es := es) (i := i) (o := o) (by simpa using h1) (by simpa using h2)
    cases e <;> simp [memO, this]
theorem nodupO_get : ∀ {ss : List Nat} {es : List HE}, nodupO ss es = true → ∀ {i j s : Nat} {o o' : SO}, ss[i]? = some s → ss[j]? = some s → es[i]? = some (.obj o) → es[j]? = some (.obj o') → i = j
  | [], _, _, i, j, s, o, o', h, _, _, _ => by simp at h
  | t :: ss, [], _, i, j, s, o, o', _, _, h, _ => by simp at h
  | t :: ss, e :: es, hn, 0, 0, s, o, o', _, _, _, _ => rfl
  | t :: ss, e :: es, hn, 0, j + 1, s, o, o', h1, h2, h3, h4 => by
    simp at h1 h3; subst h1; subst h3
    have := memO_get (s := t) (ss := ss) (es := es) (i := j) (o := o') (by simpa using h2) (by simpa using h4)
    simp [nodupO, this] at hn
  | t :: ss, e :: es, hn, i + 1, 0, s, o, o', h1, h2, h3, h4 => by
    simp at h2 h4; subst h2; subst h4
    have := memO_get (s := t) (ss := ss) (es := es) (i := i) (o := o) (by simpa using h1) (by simpa using h3)
    simp [nodupO, this] at hn
  | t :: ss, e :: es, hn, i + 1, j + 1, s, o, o', h1, h2, h3, h4 => by
    have hn' : nodupO ss es = true := by cases e <;> simp [nodupO] at hn <;> first | exact hn | exact hn.2
    have := nodupO_get hn' (i := i) (j := j) (s := s) (o := o) (o' := o') (by simpa using h1) (by simpa using h2) (by simpa using h3) (by simpa using h4)
    omega

theorem subS_ofD {E : Env} {T T' : List (Nat × SV)} {H H' : List HE} (σs : List Nat) (hlen : Nat.beq σs.length H'.length = true) (hnd : nodupO σs H' = true)
    (hb : fromN E.H0.length 0 σs = true) (hb' : leH E.H0 H' = true)
    (hT : subT (sig σs 0) T T') (hH : subH (sig σs 0) H 0 H') (hok1 : okTP (thereF H') T') (hok2 : okHP (thereF H') H') : SubS E (sig σs 0) T H T' H' := by
  intro ρ a w hs
  have hfun : thereF H' = there H' := funext (thereF_eq H')
  have hok1 := okTP_ok hok1
  have hok2 := okHP_ok hok2
  rw [hfun] at hok1 hok2
  have hlen' := Nat.eq_of_beq_eq_true hlen
  have hth : ∀ h, there H' h = true → there H (sig σs 0 h) = true := by
    intro h hh
    have := (subH_get hH (h := h)).2 hh
    simpa using this
  have hobj : ∀ {h : Nat} {o : SO}, H'[h]? = some (.obj o) → ∃ u, H[sig σs 0 h]? = some (.obj u) ∧ simO u (o.ren (sig σs 0)) := by
    intro h o ho
    have := (subH_get hH (h := h)).1 ho
    simpa using this
  refine ⟨⟨?_, ?_, ?_, ?_, hs.hs.fr⟩, ⟨?_, hs.ts.num, hs.ts.def0⟩, ?_⟩
  · intro h o ho
    obtain ⟨u, hu, hsim⟩ := hobj ho
    have := (hs.hs.objs _ _ hu).1
    exact ⟨(SO.holds_ren o).1 ((simO_holds hsim).1 this), okHs_get hok2 ho⟩
  · intro h hh; exact hs.hs.size _ (hth h hh)
  · intro h h' o o' hh hh' e
    obtain ⟨u1, hu1, _⟩ := hobj hh
    obtain ⟨u2, hu2, _⟩ := hobj hh'
    have := hs.hs.inj _ _ _ _ hu1 hu2 e
    have l1 : h < σs.length := by rw [hlen']; exact there_lt (there_of_obj hh)
    have l2 : h' < σs.length := by rw [hlen']; exact there_lt (there_of_obj hh')
    have g1 := sig_lt (b := 0) l1
    have g2 := sig_lt (b := 0) l2
    rw [this] at g1
    exact nodupO_get hnd g1 g2 hh hh'
  · intro h o ho hoo
    obtain ⟨u, hu, hsim⟩ := hobj ho
    exact hs.hs.own _ _ hu (by rw [(simO_holds (ρ := ρ) (w := w) (p := (0, 0)) hsim).2, SO.owned_ren]; exact hoo)
  · intro t v hv
    obtain ⟨u, hu, hsim⟩ := subT_get hT hv
    obtain ⟨h1, h2⟩ := hs.ts.val t u hu
    exact ⟨by rw [h1, (sim_tr (A := fun _ => true) hsim).1, tr_ren], okT_get hok1 hv⟩
  · intro h hh
    have hlt := there_lt hh
    have g := fromN_get hb hlt
    have l1 : h < σs.length := by
      rcases Nat.lt_or_ge h σs.length with h1 | h1
      · exact h1
      · rw [List.getElem?_eq_none h1] at g; simp at g
    have g1 := sig_lt (b := 0) l1
    rw [g] at g1
    simp at g1
    obtain ⟨q1, q2⟩ := hs.base h hh
    exact ⟨by show ρ (sig σs 0 h) = _; rw [← g1]; exact q1, leH_there hb' h hh⟩

/-- The names are told by the heap itself; of what is not known some may be one. -/
theorem sub_ofD {E : Env} {T T' : List (Nat × SV)} {H H' : List HE} (F : List HE → Option (List Nat)) {σs : List Nat} (_ : F H = some σs) (hlen : Nat.beq σs.length H'.length = true) (hnd : nodupO σs H' = true)
    (hb : fromN E.H0.length 0 σs = true) (hb' : leH E.H0 H' = true) (hT : subT (sig σs 0) T T') (hH : subH (sig σs 0) H 0 H') (hok1 : okTP (thereF H') T') (hok2 : okHP (thereF H') H') : Sub E T H T' H' :=
  (subS_ofD σs hlen hnd hb hb' hT hH hok1 hok2).sub

/-- What is still to be done in this round. -/
def upLp : List KI → List KI
  | [] => []
  | .lp _ :: _ => []
  | x :: k => x :: upLp k

/-- Cell j of object i. -/
def setC (l : List SV) : Nat → SV → List SV := fun j v => match l, j with
  | [], _ => []
  | _ :: r, 0 => v :: r
  | x :: r, j + 1 => x :: setC r j v
theorem setC_get (v : SV) : ∀ (l : List SV) (j i : Nat), (setC l j v)[i]? = if i = j then l[i]?.map (fun _ => v) else l[i]?
  | [], _, _ => by simp [setC]
  | x :: r, 0, 0 => by simp [setC]
  | x :: r, 0, i + 1 => by simp [setC]
  | x :: r, j + 1, 0 => by simp [setC]
  | x :: r, j + 1, i + 1 => by simp [setC, setC_get v r j i]
theorem setC_trs {ρ : Nat → Nat × Nat} {v : SV} : ∀ {l : List SV} {j : Nat} {u : SV}, l[j]? = some u → v.tr ρ = u.tr ρ → SV.trs ρ (setC l j v) = SV.trs ρ l
  | [], _, _, h, _ => by simp at h
  | x :: r, 0, u, h, e => by simp at h; subst h; simp [setC, SV.trs, e]
  | x :: r, j + 1, u, h, e => by simp [setC, SV.trs, setC_trs (l := r) (j := j) (by simpa using h) e]
theorem setC_okhs {A : Nat → Bool} {v : SV} (hv : v.okh A = true) : ∀ {l : List SV} {j : Nat}, SV.okhs A l = true → SV.okhs A (setC l j v) = true
  | [], _, _ => by simp [setC, SV.okhs]
  | x :: r, 0, h => by simp [SV.okhs] at h; simp [setC, SV.okhs, hv, h.2]
  | x :: r, j + 1, h => by simp [SV.okhs] at h; simp [setC, SV.okhs, h.1, setC_okhs hv h.2]

section
variable {P : Program} {X : Tabs} (hX : TOk P X)
variable {R : SV → List HE → Prop} {fn : Func} {nt : Nat} {H0 : List HE} {k : List KI} {T : List (Nat × SV)} {H : List HE} {cs : List Ch}

/-- A cell's value is forgotten: it is some one. -/
theorem ss_raw {ρ0 : Nat → Nat × Nat} {w0 : World} (i j : Nat) {l : List SV} {ty : TypeId} {u : SV} (hi : getH H i = some (.cells l ty)) (hj : nthF l j = some u)
    (h : ∀ v, SS hX (At ρ0 w0) R ⟨cs, [], fn, nt, H0, k, T, setN H i (.obj (.cells (setC l j (.raw v)) ty))⟩) : SS hX (At ρ0 w0) R ⟨cs, [], fn, nt, H0, k, T, H⟩ := by
  refine ss_sw hX fun ρ a w hs => ?_
  have hj' : l[j]? = some u := by rw [← nthF_eq]; exact hj
  have hi' := getH_some.1 hi
  have hlt : i < H.length := there_lt (there_of_obj hi')
  refine sw_ss hX (h (u.tr ρ)) ρ a w ?_
  rw [setN_eq]
  have hth : ∀ x, there (H.set i (.obj (.cells (setC l j (.raw (u.tr ρ))) ty))) x = there H x := fun x => by
    unfold there
    rw [List.getElem?_set]
    split
    · rename_i e; subst e; rw [hi']; first | rfl | (rw [if_pos hlt]; rfl)
    · rfl
  have hthf : there (H.set i (.obj (.cells (setC l j (.raw (u.tr ρ))) ty))) = there H := funext hth
  have hgo : ∀ (x : Nat) (o : SO), (H.set i (.obj (.cells (setC l j (.raw (u.tr ρ))) ty)))[x]? = some (HE.obj o) → ∃ o' : SO, H[x]? = some (HE.obj o') ∧ (o.owned = o'.owned) ∧ (o'.holds ρ w (ρ x) → o.holds ρ w (ρ x)) ∧ (o'.okh (there H) = true → o.okh (there H) = true) := fun x o ho => by
    rw [List.getElem?_set] at ho
    split at ho
    · rename_i e; subst e
      (try rw [if_pos hlt] at ho)
      simp at ho; (try subst ho)
      refine ⟨_, hi', rfl, fun hh => ?_, fun hh => setC_okhs rfl hh⟩
      simp only [SO.holds] at hh ⊢
      rw [setC_trs hj' (v := .raw (u.tr ρ)) rfl]
      exact hh
    · exact ⟨o, ho, rfl, id, id⟩
  refine ⟨⟨?_, ?_, ?_, ?_, hs.hs.fr⟩, ?_, ?_⟩
  · intro x o ho
    obtain ⟨o', h1, h2, h3, h4⟩ := hgo x o ho
    obtain ⟨q1, q2⟩ := hs.hs.objs x o' h1
    rw [hthf]
    exact ⟨h3 q1, h4 q2⟩
  · intro x hx; rw [hth] at hx; exact hs.hs.size x hx
  · intro x y o o' hx hy e
    obtain ⟨p, h1, _⟩ := hgo x o hx
    obtain ⟨q, h2, _⟩ := hgo y o' hy
    exact hs.hs.inj x y p q h1 h2 e
  · intro x o ho hoo
    obtain ⟨p, h1, h2, _⟩ := hgo x o ho
    exact hs.hs.own x p h1 (by rw [← h2]; exact hoo)
  · rw [hthf]; exact hs.ts
  · intro x hx
    rw [hth]
    exact hs.base x hx
end
end Go.Hx

/-
  A call in a world where a variable's cell is known.
-/
namespace Go.Hx
open Go Go.RowKit Go.ChangeShapes Go.WideShapes

/-- The cell of a variable. -/
abbrev pinE (v : Value) : HE := .obj (.pin 0 v)
theorem pin_lt {w : World} {v : Value} (hp : w.cell? ⟨0, 0, none⟩ = some v) : 0 < w.heap.size := by
  rcases Nat.eq_zero_or_pos w.heap.size with h0 | h
  · simp [World.cell?, h0] at hp
  · exact h
theorem hsat_pin {w : World} {v : Value} (hp : w.cell? ⟨0, 0, none⟩ = some v) : HSat w (Own (fun _ => (0, 0)) [pinE v]) (fun _ => (0, 0)) [pinE v] w := by
  refine ⟨?_, fun _ _ => pin_lt hp, ?_, ?_, Fr.refl _ _⟩
  · intro h u hu
    cases h with
    | zero => simp at hu; subst hu; exact ⟨⟨rfl, hp⟩, rfl⟩
    | succ h => simp at hu
  · intro h h' o o' hh hh' _
    have := there_lt (there_of_obj hh)
    have := there_lt (there_of_obj hh')
    simp at *
    omega
  · intro h u hu ho
    cases h with
    | zero => simp at hu; subst hu; simp [SO.owned] at ho
    | succ h => simp at hu

/-- Something that is not owned, and the cell. -/
theorem hsat_two {w : World} {v : Value} {o : SO} {p : Nat × Nat} (hp : w.cell? ⟨0, 0, none⟩ = some v) (ho : o.owned = false) (hk : o.okh (fun _ => false) = true)
    (hs : HSat w (Own (fun _ => p) [.obj o]) (fun _ => p) [.obj o] w) (hne : p.1 ≠ 0) :
    HSat w (Own (fun h => if h = 0 then p else (0, 0)) [.obj o, pinE v]) (fun h => if h = 0 then p else (0, 0)) [.obj o, pinE v] w := by
  have h0 := (hs.objs 0 o rfl).1
  have h0s : p.1 < w.heap.size := hs.size 0 rfl
  refine ⟨?_, fun h _ => ?_, ?_, ?_, Fr.refl _ _⟩
  · intro h u hu
    rcases h with _ | _ | h
    · simp at hu; subst hu
      refine ⟨?_, SO.okh_mono (A := fun _ => false) (fun x hx => by simp at hx) o hk⟩
      exact SO.holds_congr (A := fun _ => false) (fun x hx => by simp at hx) o hk h0
    · simp at hu; subst hu; exact ⟨⟨rfl, hp⟩, rfl⟩
    · simp at hu
  · show (if h = 0 then p else (0, 0)).1 < _; split
    · exact h0s
    · exact pin_lt hp
  · intro h h' o o' hh hh' e
    rcases h with _ | _ | h <;> rcases h' with _ | _ | h' <;> simp at * <;> omega
  · intro h u hu hoo
    rcases h with _ | _ | h
    · simp at hu; subst hu; rw [ho] at hoo; simp at hoo
    · simp at hu; subst hu; simp [SO.owned] at hoo
    · simp at hu

theorem okhs_none (A : Nat → Bool) (l : List SV) (hl : SV.okhs (fun _ => false) l = true) : SV.okhs A l = true := by
  rw [okhs_iff] at hl ⊢
  exact fun v hv => okh_mono (A := fun _ => false) (fun x hx => by simp at hx) v (hl v hv)

theorem calls_flatP {P : Program} {f : Nat} {args : List SV} {L : List HE} {w : World} {v : Value} (hp : w.cell? ⟨0, 0, none⟩ = some v) (hg : Gives P f args [pinE v] (Is .tt L)) (hok : SV.okhs (fun _ => false) args = true) :
    Calls P f (SV.trs (fun _ => (0, 0)) args).toArray w fun e w' => e = .returned (.bool true) ∧ Below w.heap.size w w' :=
  calls_true (fun _ => (0, 0)) hg (hsat_pin hp) (okhs_none _ _ hok) (own_none fun i o h => by
    rcases i with _ | i
    · simp at h; subst h; rfl
    · simp at h) rfl

/-- No number, and no bool, lies in the variable's block. -/
theorem pin_ne {w : World} {v : Value} {ty : TypeId} {fr : Nat × Nat} (h0 : w.heap[0]? = some (.cells #[v] ty fr)) (hv : ∃ t u, v = .iface t u) {b o : Nat} {u : Value}
    (hu : w.cell? ⟨b, o, none⟩ = some u) (hni : ∀ t x, u ≠ .iface t x) : b ≠ 0 := by
  rintro rfl
  obtain ⟨t, x, rfl⟩ := hv
  simp only [World.cell?, h0] at hu
  rcases o with _ | o
  · simp at hu; exact hni t x hu.symm
  · simp at hu
theorem pin_cell {w : World} {v : Value} {ty : TypeId} {fr : Nat × Nat} (h0 : w.heap[0]? = some (.cells #[v] ty fr)) : w.cell? ⟨0, 0, none⟩ = some v := by
  simp [World.cell?, h0]
theorem okK_first : ∀ {ks : List (Option IntKind)} {l : List SV}, okK ks l → 0 < ks.length → ∃ u, l[0]? = some u ∧ ∀ ρ t x, u.tr ρ ≠ .iface t x
  | [], _, _, h => by simp at h
  | some k :: ks, l, h, _ => by
    rcases l with _ | ⟨a, l⟩
    · simp [okK] at h
    · simp only [okK] at h
      obtain ⟨⟨n, rfl, _⟩, _⟩ := h
      exact ⟨_, rfl, fun ρ t x => by simp [SV.tr]⟩
  | none :: ks, l, h, _ => by
    rcases l with _ | ⟨a, l⟩
    · simp [okK] at h
    · simp only [okK] at h
      obtain ⟨⟨n, rfl⟩, _⟩ := h
      exact ⟨_, rfl, fun ρ t x => by simp [SV.tr]⟩

theorem own_two {ρ : Nat → Nat × Nat} {o : SO} {v : Value} (h : o.owned = false) : ∀ b, ¬ Own ρ [HE.obj o, pinE v] b :=
  own_none fun i u hu => by
    rcases i with _ | _ | i
    · simp at hu; subst hu; exact h
    · simp at hu; subst hu; rfl
    · simp at hu

/-- One slice of rows. -/
theorem calls_rowsP {P : Program} {f : Nat} {pre post : List SV} {ks : List (Option IntKind)} {w : World} {a : Option Addr} {len cap : Nat} {v : Value} {ty : TypeId} {fr : Nat × Nat}
    (hp : w.heap[0]? = some (.cells #[v] ty fr)) (hv : ∃ t u, v = .iface t u) (hks : 0 < ks.length) (h : ArgRows w ks a len cap)
    (g0 : ∃ L, Gives P f (pre ++ .raw (.slice a 0 0) :: post) [pinE v] (Is .tt L)) (hpre : SV.okhs (fun _ => false) pre = true) (hpost : SV.okhs (fun _ => false) post = true)
    (g1 : ∀ (o : Nat → List SV), (∀ i, okK ks (o i)) → len ≤ maxLen → ∃ L, Gives P f (pre ++ .slice 0 0 len cap :: post) [.obj (.rows len ks.length o), pinE v] (Is .tt L)) :
    Calls P f (SV.trs (fun _ => (0, 0)) pre ++ Value.slice a len cap :: SV.trs (fun _ => (0, 0)) post).toArray w fun e w' => e = .returned (.bool true) ∧ Below w.heap.size w w' := by
  have hc0 := pin_cell hp
  rcases h with ⟨rfl, rfl⟩ | ⟨b, o, g, rfl, hl, h0, hm, hb, hk, hc⟩
  · obtain ⟨L, g0⟩ := g0
    refine calls_true (fun _ => (0, 0)) g0 (hsat_pin hc0) ?_ (own_one rfl) ?_
    · rw [okhs_append, okhs_none _ _ hpre]; simp [SV.okhs, SV.okh, okhs_none _ _ hpost]
    · rw [trs_append]; rfl
  · obtain ⟨L, hg⟩ := g1 g hk (by omega)
    have hne : b ≠ 0 := by
      obtain ⟨u, hu, hni⟩ := okK_first (hk 0) hks
      exact pin_ne hp hv (hc 0 (by omega) (fun _ => (0, 0)) 0 u hu) (hni _)
    refine calls_true (fun h => if h = 0 then (b, o) else (0, 0)) hg (hsat_two hc0 rfl rfl (hsat_rows hb hk fun i hi => hc i (by omega)) hne) ?_ (own_two rfl) ?_
    · rw [okhs_append, okhs_none _ _ hpre]; simp [SV.okhs, SV.okh, okhs_none _ _ hpost, there, HE.there]
    · rw [trs_append, trs_congr (A := fun _ => false) (fun x hx => by simp at hx) pre hpre]
      simp only [SV.trs, SV.tr]
      rw [trs_congr (A := fun _ => false) (fun x hx => by simp at hx) post hpost (ρ := fun h => if h = 0 then (b, o) else (0, 0)) (ρ' := fun _ => (0, 0))]
      rfl

section
variable {P : Program} {H : Type} {enc : TypeId × Value → H} {w : World} {t : TypeId} {d : DataW H} {ps : List MemPlace}
/-- A slice's first place. -/
theorem arg_ints_first {e : TypeId} {k : IntKind} {a : Option Addr} {len cap : Nat} (ht : P.underlying t = some (.slice e)) (he : P.underlying e = some (.int k)) (hc : P.cellsOf e = 1)
    (h : DataW.Trod enc P w 0 (fun _ => true) true t (.slice a len cap) d ps) (h0 : 0 < cap) : ∃ b o n, a = some ⟨b, o, none⟩ ∧ w.cell? ⟨b, o, none⟩ = some (.int k n) := by
  obtain ⟨fuel, hf⟩ := h
  rcases open_ints ht he hc hf with ⟨h1, _⟩ | ⟨x, l, c, zs, h1, _, hl, hm, hz, _, hcell, hwz⟩
  · simp [Value.cells] at h1
    omega
  · simp [Value.cells] at h1
    obtain ⟨rfl, rfl, rfl⟩ := h1
    simp only [if_true] at hz
    have hsp : x.spot = none := by
      have := spot_none (hcell 0 (by omega))
      simpa [Addr.add] using this
    have := hcell 0 (by omega)
    rw [add_nil hsp] at this
    refine ⟨x.block, x.off, _, ?_, this⟩
    obtain ⟨b, o, s⟩ := x
    simp only at hsp; subst hsp; rfl
end

/-- One slice of integers. -/
theorem calls_intsP {P : Program} {f : Nat} {pre post : List SV} {k : IntKind} {w : World} {a : Option Addr} {len cap : Nat} {v : Value} {ty : TypeId} {fr : Nat × Nat}
    (hp : w.heap[0]? = some (.cells #[v] ty fr)) (hv : ∃ t u, v = .iface t u) (hf : 0 < cap → ∃ b o n, a = some ⟨b, o, none⟩ ∧ w.cell? ⟨b, o, none⟩ = some (.int k n)) (h : ArgInts w k a len cap)
    (g0 : ∃ L, Gives P f (pre ++ .raw (.slice a 0 0) :: post) [pinE v] (Is .tt L)) (hpre : SV.okhs (fun _ => false) pre = true) (hpost : SV.okhs (fun _ => false) post = true)
    (g1 : ∀ (z : List Int), z.length = len → (∀ n ∈ z, (Lit.int k n).wf = true) → len ≤ maxLen → ∃ L, Gives P f (pre ++ .slice 0 0 len cap :: post) [.obj (.winI k z), pinE v] (Is .tt L)) :
    Calls P f (SV.trs (fun _ => (0, 0)) pre ++ Value.slice a len cap :: SV.trs (fun _ => (0, 0)) post).toArray w fun e w' => e = .returned (.bool true) ∧ Below w.heap.size w w' := by
  have hc0 := pin_cell hp
  rcases h with ⟨rfl, rfl⟩ | ⟨b, o, z, rfl, hl, h0, hm, hb, hz, hwz, hc⟩
  · obtain ⟨L, g0⟩ := g0
    refine calls_true (fun _ => (0, 0)) g0 (hsat_pin hc0) ?_ (own_one rfl) ?_
    · rw [okhs_append, okhs_none _ _ hpre]; simp [SV.okhs, SV.okh, okhs_none _ _ hpost]
    · rw [trs_append]; rfl
  · obtain ⟨L, hg⟩ := g1 z hz hwz (by omega)
    have hne : b ≠ 0 := by
      obtain ⟨b', o', n, e, hu⟩ := hf h0
      simp at e
      obtain ⟨rfl, rfl⟩ := e
      exact pin_ne hp hv hu (fun t x => by simp)
    refine calls_true (fun h => if h = 0 then (b, o) else (0, 0)) hg (hsat_two hc0 rfl rfl (hsat_winI hb hc) hne) ?_ (own_two rfl) ?_
    · rw [okhs_append, okhs_none _ _ hpre]; simp [SV.okhs, SV.okh, okhs_none _ _ hpost, there, HE.there]
    · rw [trs_append, trs_congr (A := fun _ => false) (fun x hx => by simp at hx) pre hpre]
      simp only [SV.trs, SV.tr]
      rw [trs_congr (A := fun _ => false) (fun x hx => by simp at hx) post hpost (ρ := fun h => if h = 0 then (b, o) else (0, 0)) (ρ' := fun _ => (0, 0))]
      rfl
end Go.Hx

/-
  What a call of Go's library leaves that sets one cell: in handles.
-/
namespace Go.Hx
open Go Go.RowKit

theorem there_cons {e e' : HE} {R : List HE} (h : e.there = e'.there) : there (e :: R) = there (e' :: R) := by
  funext x
  rcases x with _ | x <;> simp [there, h]
/-- A call that sets the first thing's one cell, and makes new blocks. -/
theorem fnPost_setL {w w1 : World} {ρ : Nat → Nat × Nat} {c n : Int} {E : TypeId} {R : List HE} (hS : HSat w (Own ρ (.obj (.cells [.int .i64 c] E) :: R)) ρ (.obj (.cells [.int .i64 c] E) :: R) w)
    (hb : Below w.heap.size w w1) : FnPost w ρ (.obj (.cells [.int .i64 c] E) :: R) (Is .tt (.obj (.cells [.int .i64 n] E) :: R)) (.returned (.bool true)) (w1.setCell ⟨(ρ 0).1, 0, none⟩ (.int .i64 n)) := by
  obtain ⟨⟨h01, h02⟩, _⟩ := hS.objs 0 _ rfl
  have hlt := hS.size 0 rfl
  have hcell : w1.heap[(ρ 0).1]? = some (.cells #[.int .i64 c] E (0, 0)) := by rw [hb.block _ hlt, h02]; rfl
  have hset := one_setCell (u := .int .i64 n) hcell
  have hoth : ∀ k, k < w.heap.size → k ≠ (ρ 0).1 → (w1.setCell ⟨(ρ 0).1, 0, none⟩ (.int .i64 n)).heap[k]? = w.heap[k]? := fun k hk hn => by
    rw [Below.heap_setCell _ _ _ _ hn, hb.block k hk]
  have hsz : (w1.setCell ⟨(ρ 0).1, 0, none⟩ (.int .i64 n)).heap.size = w1.heap.size := by simp [World.setCell]
  have hth : there (HE.obj (.cells [.int .i64 n] E) :: R) = there (.obj (.cells [.int .i64 c] E) :: R) := there_cons rfl
  refine ⟨ρ, _, .tt, ⟨rfl, rfl⟩, rfl, rfl, ⟨?_, ?_, ?_, ?_, ?_⟩, fun h hh => ⟨rfl, ?_⟩⟩
  · intro h o ho
    rw [hth]
    rcases h with _ | h
    · simp at ho; subst ho
      exact ⟨⟨h01, hset⟩, rfl⟩
    · have ho' : (HE.obj (.cells [.int .i64 c] E) :: R)[h + 1]? = some (.obj o) := by simpa using ho
      obtain ⟨q1, q2⟩ := hS.objs (h + 1) o ho'
      have hne : (ρ (h + 1)).1 ≠ (ρ 0).1 := fun e => by have := hS.inj (h + 1) 0 _ _ ho' rfl e; omega
      exact ⟨SO.holds_world (hoth _ (hS.size _ (there_of_obj ho')) hne) o q1, q2⟩
  · intro h hh
    rw [hth] at hh
    have := hS.size h hh
    rw [hsz]
    exact Nat.lt_of_lt_of_le this hb.size
  · intro h h' o o' hh hh' e
    rcases h with _ | h <;> rcases h' with _ | h'
    · rfl
    · exact hS.inj 0 (h' + 1) _ _ rfl (by simpa using hh') e
    · exact hS.inj (h + 1) 0 _ _ (by simpa using hh) rfl e
    · exact hS.inj (h + 1) (h' + 1) _ _ (by simpa using hh) (by simpa using hh') e
  · intro h o ho hoo
    rcases h with _ | h
    · exact hS.own 0 _ rfl rfl
    · exact hS.own (h + 1) o (by simpa using ho) hoo
  · refine ⟨by rw [hsz]; exact hb.size, fun b hbl hn => ?_, hb.os, hb.tape, hb.output⟩
    refine hoth b hbl fun e => hn ?_
    exact ⟨0, _, rfl, rfl, e.symm⟩
  · rw [hth]; exact hh

/-- A call that leaves all as it was. -/
theorem fnPost_same {w : World} {ρ : Nat → Nat × Nat} {H : List HE} {V : SV} (hS : HSat w (Own ρ H) ρ H w) (hV : V.okh (there H) = true) : FnPost w ρ H (Is V H) (.returned (V.tr ρ)) w :=
  ⟨ρ, H, V, ⟨rfl, rfl⟩, rfl, hV, hS, fun _ hh => ⟨rfl, hh⟩⟩
end Go.Hx

/-
  Things that are there or not, under two names; what is forgotten.
-/
namespace Go.Hx
open Go

section
variable {σ σ' : Nat → Nat} {h h' : Nat} {H : List HE} {i : Nat}
theorem ren_slVe {o : Option (List Int)} : (slV o h).ren σ = slV o (σ h) := by cases o <;> rfl
theorem ren_ptrVe {α : Type} {o : Option α} : (ptrV o h).ren σ = ptrV o (σ h) := by cases o <;> rfl
theorem ren_obj (o : SO) : (HE.obj o).ren σ = .obj (o.ren σ) := rfl
theorem sim_slVr {o : Option (List Int)} (hs : σ h = h') : sim (slV o h') ((slV o h).ren σ) := by rw [ren_slVe, hs]; exact sim_refl _
theorem sim_ptrVr {α : Type} {o : Option α} (hs : σ h = h') : sim (ptrV o h') ((ptrV o h).ren σ) := by rw [ren_ptrVe, hs]; exact sim_refl _
theorem sim_slV3 {o : Option (List Int)} (hs : σ' h' = σ h) : sim ((slV o h').ren σ') ((slV o h).ren σ) := by rw [ren_slVe, ren_slVe, hs]; exact sim_refl _
theorem sim_ptrV3 {α : Type} {o : Option α} (hs : σ' h' = σ h) : sim ((ptrV o h').ren σ') ((ptrV o h).ren σ) := by rw [ren_ptrVe, ren_ptrVe, hs]; exact sim_refl _
theorem subE_r {e : HE} (hg : H[σ i]? = some (e.ren σ')) (h1 : e.ren σ' = e) (h2 : e.ren σ = e) : subE σ H i e := subE_same (by rw [hg, h1]) h2
theorem dim_of {e : HE} : e.dim.there = true → e.there = true := by rw [dim_there]; exact id
theorem okNew_slE {o : Option (List Int)} {k : IntKind} {ty : TypeId} : okNew (slE o k ty) := by cases o <;> first | trivial | rfl
theorem okNew_objM {α : Type} {o : Option α} {f : α → SO} (hf : ∀ x, (f x).owned = true) : okNew (objE (o.map f)) := by
  cases o with
  | none => trivial
  | some x => exact hf x
end
end Go.Hx

/-
  Contracts over three objects, in a larger heap; a step of a run over an arena, as a row of the table.
-/
namespace Go.Hx
open Go
section
variable {P : Program} {f : Nat} {ags cargs : List SV} {V : SV} {H : List HE} {o0 o1 o2 p0 p1 p2 : SO} {h0 h1 h2 : Nat} {N : List HE}
theorem frame3 (hT : ∃ TE : Nat → TI, ∀ t, TIok P t (TE t)) (hF : Gives P f cargs [.obj o0, .obj o1, .obj o2] (Is V (.obj p0 :: .obj p1 :: .obj p2 :: N))) (hargs : ags = SV.rens (nm [h0, h1, h2] H) cargs)
    (hcok : SV.okhs (there [.obj o0, .obj o1, .obj o2]) cargs = true) (hokc : okHs (there [.obj o0, .obj o1, .obj o2]) [.obj o0, .obj o1, .obj o2] = true) (hnd : nodupN [h0, h1, h2] = true)
    (g0 : getH H h0 = some (o0.ren (nm [h0, h1, h2] H))) (g1 : getH H h1 = some (o1.ren (nm [h0, h1, h2] H))) (g2 : getH H h2 = some (o2.ren (nm [h0, h1, h2] H))) (hn : newOk N = true) :
    Gives P f ags H (Is (V.ren (nm [h0, h1, h2] H)) (((H.set h0 (.obj (p0.ren (nm [h0, h1, h2] H)))).set h1 (.obj (p1.ren (nm [h0, h1, h2] H)))).set h2 (.obj (p2.ren (nm [h0, h1, h2] H))) ++ N.map (HE.ren (nm [h0, h1, h2] H)))) := by
  have := gives_frame (H := H) hT hF [h0, h1, h2] hargs hcok rfl rfl hokc hnd ⟨g0, g1, g2, trivial⟩ hn
  simpa [merge, setAll, HE.ren] using this
theorem frame3n (hT : ∃ TE : Nat → TI, ∀ t, TIok P t (TE t)) (hF : Gives P f cargs [.obj o0, .obj o1, .obj o2] (Is V [.obj p0, .obj p1, .obj p2])) (hargs : ags = SV.rens (nm [h0, h1, h2] H) cargs)
    (hcok : SV.okhs (there [.obj o0, .obj o1, .obj o2]) cargs = true) (hokc : okHs (there [.obj o0, .obj o1, .obj o2]) [.obj o0, .obj o1, .obj o2] = true) (hnd : nodupN [h0, h1, h2] = true)
    (g0 : getH H h0 = some (o0.ren (nm [h0, h1, h2] H))) (g1 : getH H h1 = some (o1.ren (nm [h0, h1, h2] H))) (g2 : getH H h2 = some (o2.ren (nm [h0, h1, h2] H)))
    {V' : SV} {q0 q1 q2 : SO} (hV : V.ren (nm [h0, h1, h2] H) = V') (hq0 : p0.ren (nm [h0, h1, h2] H) = q0) (hq1 : p1.ren (nm [h0, h1, h2] H) = q1) (hq2 : p2.ren (nm [h0, h1, h2] H) = q2) :
    Gives P f ags H (Is V' (((H.set h0 (.obj q0)).set h1 (.obj q1)).set h2 (.obj q2))) := by
  have := frame3 (N := []) hT hF hargs hcok hokc hnd g0 g1 g2 rfl
  rw [hV, hq0, hq1, hq2] at this
  simpa using this
end
theorem nm_at0 {h0 h1 h2 : Nat} {H : List HE} : nm [h0, h1, h2] H 0 = h0 := rfl
theorem nm_at1 {h0 h1 h2 : Nat} {H : List HE} : nm [h0, h1, h2] H 1 = h1 := rfl
theorem nm_at2 {h0 h1 h2 : Nat} {H : List HE} : nm [h0, h1, h2] H 2 = h2 := rfl
end Go.Hx

/-
  Code taken apart at a region; a piece of it, gone through in a small heap.
-/
namespace Go.Hx
open Go

/-- What follows one on another, written out. -/
def flatC : Code → List KI
  | .seq a b => flatC a ++ flatC b
  | c => [.code c]
def flatS : List KI → List KI
  | [] => []
  | .code c :: k => flatC c ++ flatS k
  | x :: k => x :: flatS k
/-- Up to a region, and from it on. -/
def isReg (id : Nat) : KI → Bool
  | .code (.region j _ _) => Nat.beq j id
  | _ => false
def preK (id : Nat) : List KI → List KI
  | [] => []
  | x :: k => match isReg id x with
    | true => []
    | false => x :: preK id k
def postK (id : Nat) : List KI → List KI
  | [] => []
  | x :: k => match isReg id x with
    | true => x :: k
    | false => postK id k
theorem pre_post (id : Nat) : ∀ k : List KI, preK id k ++ postK id k = k
  | [] => rfl
  | x :: k => by
    simp only [preK, postK]
    split
    · rfl
    · simp [pre_post id k]
section
variable {P : Program} {Q : Exit → Act → World → Prop}
theorem flat_pass : ∀ (c : Code) (k : List KI) {e : Exit} {a : Act} {w : World}, e ≠ .normal → (WK P Q (flatC c ++ k) e a w ↔ WK P Q k e a w) := by
  intro c
  induction c with
  | seq x y ihx ihy =>
    intro k e a w he
    simp only [flatC, List.append_assoc]
    rw [ihx _ he, ihy _ he]
  | _ =>
    intro k e a w he
    cases e with
    | normal => exact absurd rfl he
    | _ => exact Iff.rfl
theorem flat_mono : ∀ (c : Code) {k1 k2 : List KI}, (∀ e a w, WK P Q k1 e a w → WK P Q k2 e a w) → ∀ e a w, WK P Q (flatC c ++ k1) e a w → WK P Q (flatC c ++ k2) e a w := by
  intro c
  induction c with
  | seq x y ihx ihy =>
    intro k1 k2 h e a w hh
    simp only [flatC, List.append_assoc] at hh ⊢
    exact ihx (ihy h) e a w hh
  | _ =>
    intro k1 k2 h e a w hh
    cases e with
    | normal => exact wp_mono hh fun e a w q => h e a w q
    | _ => exact h _ a w hh
theorem flatC_wk : ∀ (c : Code) {k : List KI} {a : Act} {w : World}, WK P Q (flatC c ++ k) .normal a w → WK P Q (.code c :: k) .normal a w := by
  intro c
  induction c with
  | seq x y ihx ihy =>
    intro k a w h
    refine WK_seq (ihx ?_)
    simp only [flatC, List.append_assoc] at h
    refine flat_mono x (fun e a w q => ?_) _ _ _ h
    cases e with
    | normal => exact ihy q
    | _ => exact (flat_pass y k (by simp)).1 q
  | _ => intro k a w h; exact h
theorem unr_mono2 {Q1 Q2 : Exit → Act → World → Prop} {c : Code} (hq : ∀ e a w, Q1 e a w → Q2 e a w) : ∀ (n : Nat) (a : Act) (w : World), unr P Q1 c n a w → unr P Q2 c n a w
  | 0, _, _, h => h
  | n + 1, a, w, h => wp_mono h fun e a w q => by
    cases e with
    | normal => exact unr_mono2 hq n a w q
    | _ => exact hq _ a w q
theorem flatS_wk : ∀ (k : List KI) (e : Exit) (a : Act) (w : World), WK P Q (flatS k) e a w → WK P Q k e a w := by
  intro k
  induction k with
  | nil => intro e a w h; exact h
  | cons x k ih =>
    intro e a w h
    cases x with
    | code c =>
      cases e with
      | normal => exact flatC_wk c (flat_mono c (fun e a w q => ih e a w q) _ _ _ h)
      | _ => exact ih _ a w ((flat_pass c (flatS k) (by simp)).1 h)
    | blk id =>
      cases e with
      | exit i =>
        simp only [flatS, WK] at h ⊢
        split at h
        · rename_i hi; rw [if_pos hi]; exact ih _ a w h
        · rename_i hi; rw [if_neg hi]; exact ih _ a w h
      | _ => exact ih _ a w h
    | ops all l =>
      cases e with
      | normal => exact wpList_mono2 (fun e a w hh => ih e a w hh) l a w h
      | _ => exact ih _ a w h
    | lp I =>
      cases e with
      | normal => exact h
      | _ => exact ih _ a w h
    | again c n =>
      cases e with
      | normal => exact unr_mono2 (fun e a w hh => ih e a w hh) n a w h
      | _ => exact ih _ a w h
end
theorem wk_frame2 {P : Program} {Qs Q : Exit → Act → World → Prop} {J : Act → World → Prop} {K2 : List KI} (hQ : ∀ e a w, Qs e a w → False) (hJ : ∀ a w, J a w → WK P Q K2 .normal a w) :
    ∀ {K1 : List KI}, onlyCode K1 = true → ∀ e a w, WK P Qs (K1 ++ [.lp J]) e a w → WK P Q (K1 ++ K2) e a w
  | [], _, e, a, w, h => by
    cases e with
    | normal => exact hJ a w h
    | _ => exact (hQ _ _ _ h).elim
  | .code c :: K1, hk, e, a, w, h => by
    cases e with
    | normal => exact wp_mono h fun e a w hh => wk_frame2 hQ hJ (K1 := K1) hk e a w hh
    | _ => exact wk_frame2 hQ hJ (K1 := K1) hk _ a w h
  | .blk id :: K1, hk, e, a, w, h => by
    cases e with
    | exit i =>
      simp only [List.cons_append, WK] at h ⊢
      split at h
      · rename_i hi; rw [if_pos hi]; exact wk_frame2 hQ hJ (K1 := K1) hk _ a w h
      · rename_i hi; rw [if_neg hi]; exact wk_frame2 hQ hJ (K1 := K1) hk _ a w h
    | _ => exact wk_frame2 hQ hJ (K1 := K1) hk _ a w h
  | .ops all l :: K1, hk, e, a, w, h => by
    cases e with
    | normal => exact wpList_mono2 (fun e a w hh => wk_frame2 hQ hJ (K1 := K1) hk e a w hh) l a w h
    | _ => exact wk_frame2 hQ hJ (K1 := K1) hk _ a w h
  | .lp _ :: _, hk, _, _, _, _ => by simp [onlyCode] at hk
  | .again _ _ :: _, hk, _, _, _, _ => by simp [onlyCode] at hk
section
variable {P : Program} {X : Tabs} (hX : TOk P X)
variable {R : SV → List HE → Prop} {fn : Func} {nt : Nat} {H0 : List HE} {k : List KI} {T : List (Nat × SV)} {H : List HE} {cs : List Ch} {I : Act → World → Prop}
/-- The code that is left, written out. -/
theorem ss_flat {ρ0 : Nat → Nat × Nat} {w0 : World} {k' : List KI} (hk : k' = flatS k) (h : SS hX (At ρ0 w0) R ⟨[], [], fn, nt, H0, k', T, H⟩) : SS hX (At ρ0 w0) R ⟨cs, [], fn, nt, H0, k, T, H⟩ := by
  subst hk
  exact ss_sw hX fun ρ a w hs => flatS_wk _ _ _ _ (sw_ss hX h ρ a w hs)
/-- .. apart at a region. -/
theorem ss_split {ρ0 : Nat → Nat × Nat} {w0 : World} (id : Nat) (h : SS hX (At ρ0 w0) R ⟨[], [], fn, nt, H0, preK id (flatS k) ++ postK id (flatS k), T, H⟩) : SS hX (At ρ0 w0) R ⟨cs, [], fn, nt, H0, k, T, H⟩ :=
  ss_flat hX (pre_post id (flatS k)) h
/-- A piece of code, gone through in a small heap. -/
theorem ss_frame2 {ρ0 : Nat → Nat × Nat} {w0 : World} {K1 K2 : List KI} {α : Type} (σs : List Nat) (fs : List Fl) (Ts : List (Nat × SV)) (Hs : List HE)
    (Tj : α → List (Nat × SV)) (Hj : α → List HE) (Q : α → Prop)
    (hK : onlyCode K1 = true) (hlen : Nat.beq σs.length Hs.length = true) (hnd : nodupN σs = true) (hlt : allLt H σs)
    (hT : subT (sig σs H.length) T Ts) (hH : subH (sig σs H.length) H 0 Hs) (hok1 : okTP (thereF Hs) Ts) (hok2 : okHP (thereF Hs) Hs)
    (hfl : ∀ x, Q x → flOk fs Hs (Hj x))
    (body : ∀ ρ1 w1 J, (∀ x, Q x → ∀ cs T H, (Sub (FEnv P X.TE hX.te fn nt Hs Not2 ρ1 w1) T H (Tj x) (Hj x)) → SS hX (At ρ1 w1) Not2 ⟨cs, [], fn, nt, Hs, [.lp J], T, H⟩) →
      SS hX (At ρ1 w1) Not2 ⟨[], [], fn, nt, Hs, K1 ++ [.lp J], Ts, Hs⟩)
    (rest : ∀ x, Q x → SS hX (At ρ0 w0) R ⟨[], [], fn, nt, H0, K2, renT (sig σs H.length) (Tj x), mergeB (sig σs H.length) σs fs H (Hj x)⟩) :
    SS hX (At ρ0 w0) R ⟨cs, [], fn, nt, H0, K1 ++ K2, T, H⟩ := by
  refine ss_sw hX fun ρ a w hs => ?_
  have hlen' : σs.length = Hs.length := Nat.eq_of_beq_eq_true hlen
  let ρs : Nat → Nat × Nat := fun x => ρ (sig σs H.length x)
  let J : Act → World → Prop := fun a w' => ∃ x, Q x ∧ ∃ ρ', Sat (FEnv P X.TE hX.te fn nt Hs Not2 ρs w) ρ' (Tj x) (Hj x) a w'
  have hb := body ρs w J fun x hx cs T H hsub => ss_sw hX fun ρ1 a1 w1 hs1 => by
    obtain ⟨ρ', hs'⟩ := hsub ρ1 a1 w1 hs1
    exact ⟨x, hx, ρ', hs'⟩
  have hfun : thereF Hs = there Hs := funext (thereF_eq Hs)
  have hok1' := okTP_ok hok1
  have hok2' := okHP_ok hok2
  rw [hfun] at hok1' hok2'
  have hth : ∀ h, there Hs h = true → there H (sig σs H.length h) = true := fun h hh => by
    have := (subH_get hH (h := h)).2 hh
    simpa using this
  have hobj : ∀ {h : Nat} {o : SO}, Hs[h]? = some (.obj o) → ∃ u, H[sig σs H.length h]? = some (.obj u) ∧ simO u (o.ren (sig σs H.length)) := by
    intro h o ho
    have := (subH_get hH (h := h)).1 ho
    simpa using this
  have hsmall : Sat (FEnv P X.TE hX.te fn nt Hs Not2 ρs w) ρs Ts Hs a w := by
    refine ⟨⟨?_, ?_, ?_, ?_, Fr.refl _ _⟩, ⟨?_, hs.ts.num, hs.ts.def0⟩, fun h hh => ⟨rfl, hh⟩⟩
    · intro h o ho
      obtain ⟨u, hu, hsim⟩ := hobj ho
      have := (hs.hs.objs _ _ hu).1
      exact ⟨(SO.holds_ren o).1 ((simO_holds hsim).1 this), okHs_get hok2' ho⟩
    · intro h hh; exact hs.hs.size _ (hth h hh)
    · intro h h' o o' hh hh' e
      obtain ⟨u1, hu1, _⟩ := hobj hh
      obtain ⟨u2, hu2, _⟩ := hobj hh'
      have := hs.hs.inj _ _ _ _ hu1 hu2 e
      have l1 : h < σs.length := by rw [hlen']; exact there_lt (there_of_obj hh)
      have l2 : h' < σs.length := by rw [hlen']; exact there_lt (there_of_obj hh')
      have g1 := sig_lt (b := H.length) l1
      have g2 := sig_lt (b := H.length) l2
      rw [this] at g1
      exact nodupN_get hnd g1 g2
    · intro h o ho hoo
      exact .inl ⟨h, o, ho, hoo, rfl⟩
    · intro t v hv
      obtain ⟨u, hu, hsim⟩ := subT_get hT hv
      obtain ⟨h1, h2⟩ := hs.ts.val t u hu
      exact ⟨by rw [h1, (sim_tr (A := fun _ => true) hsim).1, tr_ren], okT_get hok1' hv⟩
  have hw := sw_ss hX hb ρs a w hsmall
  refine wk_frame2 (not2_Q hX) (fun a' w' hJ => ?_) hK _ _ _ hw
  obtain ⟨x, hx, ρc, hsc⟩ := hJ
  obtain ⟨ρ', m1, m2, m3, m4⟩ := frame_sat hs hlen' hnd (fun h hh => allLt_get hlt (sig_lt hh)) (fun h o ho => by
      obtain ⟨u, hu, hsim⟩ := hobj ho
      refine ⟨u, hu, ?_⟩
      rw [(simO_holds (ρ := ρ) (w := w) (p := (0, 0)) hsim).2, SO.owned_ren]) hth hsc.hs (fun h hh => hsc.base h hh) (hfl x hx)
  refine sw_ss hX (rest x hx) ρ' a' w' ⟨m1, ⟨?_, hsc.ts.num, hsc.ts.def0⟩, ?_⟩
  · intro t v hv
    obtain ⟨u, hu, rfl⟩ := renT_look _ hv
    obtain ⟨h1, h2⟩ := hsc.ts.val t u hu
    refine ⟨?_, ?_⟩
    · rw [h1, tr_ren, tr_congr (fun h hh => (m4 h hh).1.symm) u h2]
    · rw [okh_ren]; exact okh_mono (fun h hh => (m4 h hh).2) u h2
  · intro h hh
    obtain ⟨q1, q2⟩ := hs.base h hh
    exact ⟨by rw [← m2 h q2]; exact q1, m3 h q2⟩
end
end Go.Hx

/-
  Regions gone through by the machine, in frames of rounds, and in frames with deferred calls.
-/
namespace Go.Hx
open Go

/-- The frames that are gone over: a function's own (none), or a round's. -/
def Fw (rd : Option Nat) : Fence := { Fence.wide with round := rd }
theorem callsIn_fw {rd : Option Nat} {n : Nat} {P : Program} {f : FuncId} {args : Array Value} {w : World} {R : Ending → World → Prop} : CallsIn (Fw rd) n P f args w R ↔ Calls P f args w R :=
  (show CallsIn Fence.wide n P f args w R ↔ Calls P f args w R from callsIn_wide)
theorem rowsIn_fw {rd : Option Nat} {n : Nat} {P : Program} {row : String} {args : Array Value} {w : World} {R : Value → World → Prop} (h : Rows P row args w R) : RowsIn (Fw rd) n P row args w R :=
  fun c cs _ => let ⟨v, w', r, s⟩ := h c cs; ⟨v, w', r, (show StepsIn (Machine.fenced P Fence.wide) P _ _ from stepsIn_wide.2 s)⟩
def ndO (o : Oper) : Bool := match o.op with
  | .defer _ => false
  | _ => true
theorem ndO_ne {o : Oper} (h : ndO o = true) : ∀ c, o.op ≠ .defer c := by
  intro c e
  simp [ndO, e] at h
def regNd : List Oper → Bool
  | [] => true
  | o :: r => match ndO o with
    | true => regNd r
    | false => false
theorem regNd_mem : ∀ {l : List Oper}, regNd l = true → ∀ o ∈ l, ndO o = true
  | [], _, o, h => by simp at h
  | p :: r, h, o, ho => by
    simp only [regNd] at h
    split at h
    · rename_i hp
      simp only [List.mem_cons] at ho
      rcases ho with rfl | ho
      · exact hp
      · exact regNd_mem h o ho
    · simp at h
section
variable {rd : Option Nat} {P : Program} {D : List Deferred} {Qs Q : Exit → Act → World → Prop}
/-- With more deferred calls. -/
def lift (D : List Deferred) (a : Act) : Act := { a with defers := a.defers ++ D }
theorem lift_put {a : Act} {dst : Option Tmp} {v : Value} : lift D (a.put dst v) = (lift D a).put dst v := by cases dst <;> rfl
theorem lift_eval {a : Act} : (lift D a).eval = a.eval := by funext o; cases o <;> rfl
theorem nq_of (hQ : ∀ e a w, Qs e a w → e = .normal) {e : Exit} {a : Act} {w : World} (he : e ≠ .normal) (h : Qs e a w) : False := he (hQ _ _ _ h)
theorem nl_of (hQ : ∀ e a w, Qs e a w → e = .normal) : ¬ LetsOut Qs := fun ⟨_, _, hq⟩ => nq_of hQ (by simp) hq
/-- What an operation comes to, with more deferred calls. -/
theorem upon_in {o : Oper} {a : Act} {K K' : Act → World → Prop} (hQ : ∀ e a w, Qs e a w → e = .normal) (hK : ∀ a w, K a w → K' (lift D a) w) {r : Result Next}
    (h : o.upon P a K Qs r) : o.uponIn (Fw rd) 0 P (lift D a) K' Q r := by
  unfold Oper.upon at h
  split at h
  · rw [Oper.uponIn_value, ← lift_put]; exact hK _ _ h
  · rw [Oper.uponIn_skip, ← lift_put]; exact hK _ _ h
  · rw [Oper.uponIn_defer]
    have := hK _ _ h
    rw [lift_put] at this
    exact this
  · refine ⟨fun e => by simp [Fw, Fence.wide] at e, callsIn_fw.2 (Calls.mono h fun e w' he => ?_)⟩
    cases e with
    | returned v =>
      show K' ((lift D a).put o.dst v) w'
      rw [← lift_put]; exact hK _ _ he
    | panicked c => exact (nq_of hQ (by simp) he).elim
    | outgrown => exact (nl_of hQ he).elim
  · exact ⟨fun e => by simp [Fw, Fence.wide] at e, (rowsIn_fw h).mono fun v w' he => by rw [← lift_put]; exact hK _ _ he⟩
  · exact (nq_of hQ (by simp) h).elim
  · exact h.elim
theorem wp_in {o : Oper} {a : Act} {w : World} {K K' : Act → World → Prop} (hQ : ∀ e a w, Qs e a w → e = .normal) (hn : ndO o = true) (hK : ∀ a w, K a w → K' (lift D a) w) (h : o.wp P a w K Qs) : o.wpIn (Fw rd) 0 P (lift D a) w K' Q :=
  ⟨fun _ _ => trivial, by rw [Oper.semAt_eq _ _ _ (ndO_ne hn), lift_eval]; exact upon_in hQ hK h⟩
theorem wl_in {ops : Array Oper} (hQ : ∀ e a w, Qs e a w → e = .normal) (hq : ∀ a w, Qs .normal a w → Q .normal (lift D a) w) : ∀ {l : List Oper}, (∀ o ∈ l, ndO o = true) → ∀ {a : Act} {w : World}, wpList P ops Qs l a w → wpListIn (Fw rd) 0 P ops Q l (lift D a) w
  | [], _, _, _, h => hq _ _ h
  | o :: rest, hn, a, w, h => by
    unfold wpList at h
    unfold wpListIn
    have e : (lift D a).tmps = a.tmps := rfl
    rw [e]
    split
    · rename_i hw
      rw [if_pos hw] at h
      rcases h with h | h
      · exact wp_in hQ (hn o (by simp)) (fun a w hh => wl_in hQ hq (fun o ho => hn o (by simp [ho])) hh) h
      · exact (nl_of hQ h.2).elim
    · rename_i hw
      rw [if_neg hw] at h
      refine ⟨fun _ _ => trivial, ?_⟩
      rw [← lift_put]
      exact wl_in hQ hq (fun o ho => hn o (by simp [ho])) h
theorem wo_in {ops : Array Oper} {i : Nat} {K K' : Act → World → Prop} (hQ : ∀ e a w, Qs e a w → e = .normal) (hn : regNd ops.toList = true) (hK : ∀ a w, K a w → K' (lift D a) w) {a : Act} {w : World} (h : wpOp P ops Qs i K a w) : wpOpIn (Fw rd) 0 P ops Q i K' (lift D a) w := by
  unfold wpOp at h
  unfold wpOpIn
  have e : (lift D a).tmps = a.tmps := rfl
  split
  · rename_i hi
    rw [hi] at h
    exact hK _ _ h
  · rename_i o hi
    rw [hi] at h
    dsimp only at h
    rw [e]
    split
    · rename_i hw
      rw [if_pos hw] at h
      rcases h with h | h
      · exact wp_in hQ (regNd_mem hn o (by have := Array.mem_of_getElem? hi; simpa using this)) hK h
      · exact (nl_of hQ h.2).elim
    · rename_i hw
      rw [if_neg hw] at h
      refine ⟨fun _ _ => trivial, ?_⟩
      rw [← lift_put]
      exact hK _ _ h
theorem wn_in {md : Region.Mode} {ops : Array Oper} (hQ : ∀ e a w, Qs e a w → e = .normal) (hq : ∀ a w, Qs .normal a w → Q .normal (lift D a) w) (hn : regNd ops.toList = true) : ∀ (fuel : Nat) (listed : Array Bool) (a : Act) (w : World), wpAny P md ops Qs fuel listed a w → wpAnyIn (Fw rd) 0 P md ops Q fuel listed (lift D a) w
  | 0, _, _, _, h => ⟨h.1, hq _ _ h.2⟩
  | fuel + 1, _, _, _, h => ⟨fun e => hq _ _ (h.1 e), fun i hi => wo_in hQ hn (fun _ _ hh => wn_in hQ hq hn fuel _ _ _ hh) (h.2 i hi)⟩
end
section
variable {P : Program} {X : Tabs} (hX : TOk P X) {fn : Func} {nt : Nat} {H : List HE} {T T1 : List (Nat × SV)} {H1 : List HE} {ρ : Nat → Nat × Nat} {W : World} {a : Act} {rd : Option Nat} {D : List Deferred} {Q : Exit → Act → World → Prop}
theorem wk_lp_normal {J : Act → World → Prop} (e : Exit) (a : Act) (w : World) (h : WK P (FEnv P X.TE hX.te fn nt H Not2 ρ W).Q [.lp J] e a w) : e = .normal := by
  cases e with
  | normal => rfl
  | _ => exact (not2_Q hX _ _ _ h).elim
/-- A region gone through by the machine, in whatever frame. -/
theorem region_in {id : Nat} {ops : Array Oper} (hn : regNd ops.toList = true) (hs : Sat (FEnv P X.TE hX.te fn nt H Not2 ρ W) ρ T H a W)
    (h : ∀ J : Act → World → Prop, (∀ cs T H', Sub (FEnv P X.TE hX.te fn nt H Not2 ρ W) T H' T1 H1 → SS hX (At ρ W) Not2 ⟨cs, [], fn, nt, H, [.lp J], T, H'⟩) → SS hX (At ρ W) Not2 ⟨[], [], fn, nt, H, [.ops ops.toList ops.toList, .lp J], T, H⟩)
    (hq : ∀ ρ' a' w', Sat (FEnv P X.TE hX.te fn nt H Not2 ρ W) ρ' T1 H1 a' w' → Q .normal (lift D a') w') : (Code.region id ops false).wpIn (Fw rd) 0 P Q (lift D a) W := by
  let J : Act → World → Prop := fun a' w' => ∃ ρ', Sat (FEnv P X.TE hX.te fn nt H Not2 ρ W) ρ' T1 H1 a' w'
  have hw := sw_ss hX (h J fun cs T H' hsub => ss_sw hX fun ρ1 a1 w1 hs1 => hsub ρ1 a1 w1 hs1) ρ a W hs
  refine wpIn_region_list (wl_in (fun e a w => wk_lp_normal hX e a w) (fun a' w' hJ => ?_) (regNd_mem hn) (by
    have h2 : wpList P ops.toList.toArray (WK P (FEnv P X.TE hX.te fn nt H Not2 ρ W).Q [.lp J]) ops.toList a W := hw
    rw [Array.toArray_toList] at h2
    exact h2))
  obtain ⟨ρ', hs'⟩ := hJ
  exact hq ρ' a' w' hs'
/-- .. that draws. -/
theorem region_any_in {id : Nat} {ops : Array Oper} (m : Nat) (cs : List Ch) {cs' : List Ch} {ob : List Prop} (hn : regNd ops.toList = true) (hs : Sat (FEnv P X.TE hX.te fn nt H Not2 ρ W) ρ T H a W)
    (h : drawX X (fun s => runX X [] m s []) cs ops.toList nt T H = some (cs', ob, T1, H1)) (ho : conjP ob)
    (hq : ∀ ρ' a' w', Sat (FEnv P X.TE hX.te fn nt H Not2 ρ W) ρ' T1 H1 a' w' → Q .normal (lift D a') w') : (Code.region id ops true).wpIn (Fw rd) 0 P Q (lift D a) W := by
  let J : Act → World → Prop := fun a' w' => ∃ ρ', Sat (FEnv P X.TE hX.te fn nt H Not2 ρ W) ρ' T1 H1 a' w'
  have hrec : RecOk hX (fun s => runX X [] m s []) := fun Wb R0 s h1 h2 => (runX_ok hX m [] Wb R0 s [] h1 h2).1
  have hw := drawX_any hX hrec fn nt H Not2 ρ W cs cs' ops.toList T T1 H H1 ob [.lp J] h (conjP_all ho) (fun ρ1 a1 w1 hs1 => ⟨ρ1, hs1⟩) ρ a W hs
  rw [Array.toArray_toList] at hw
  refine wpIn_region_any hX.mo (wn_in (fun e a w => wk_lp_normal hX e a w) (fun a' w' hJ => ?_) hn _ _ _ _ hw)
  obtain ⟨ρ', hs'⟩ := hJ
  exact hq ρ' a' w' hs'
end
end Go.Hx

/-
  A walk in whatever frame, beside blocks that are kept (a loop's record, its deferred calls): states, and their steps.
-/
namespace Go.Hx
open Go

/-- What is left to do, in the fenced layer. -/
def WKi (rd : Option Nat) (P : Program) (Q : Exit → Act → World → Prop) : List KI → Exit → Act → World → Prop
  | [] => Q
  | .code c :: k => fun e a w => match e with
    | .normal => c.wpIn (Fw rd) 0 P (WKi rd P Q k) a w
    | e => WKi rd P Q k e a w
  | .blk id :: k => fun e a w => match e with
    | .exit i => if i = id then WKi rd P Q k .normal a w else WKi rd P Q k (.exit i) a w
    | e => WKi rd P Q k e a w
  | .lp I :: k => fun e a w => match e with
    | .normal => I a w
    | e => WKi rd P Q k e a w
  | .ops all rest :: k => fun e a w => match e with
    | .normal => wpListIn (Fw rd) 0 P all.toArray (WKi rd P Q k) rest a w
    | e => WKi rd P Q k e a w
  | .again _ _ :: k => WKi rd P Q k
/-- Blocks that are kept: what they are, and that nothing that is named lies there. -/
def Kept (K : List (Nat × Obj)) (ρ : Nat → Nat × Nat) (H : List HE) (W : World) : Prop :=
  ∀ p ∈ K, W.heap[p.1]? = some p.2 ∧ ∀ (h : Nat) (o : SO), H[h]? = some (.obj o) → (ρ h).1 ≠ p.1
/-- What is new is owned. -/
def newOwn : List HE → List HE → Bool
  | _, [] => true
  | [], .obj o :: r => match o.owned with
    | true => newOwn [] r
    | false => false
  | [], _ :: r => newOwn [] r
  | .obj _ :: H, _ :: r => newOwn H r
  | _ :: H, .obj o :: r => match o.owned with
    | true => newOwn H r
    | false => false
  | _ :: H, _ :: r => newOwn H r
theorem newOwn_get : ∀ {H H1 : List HE}, newOwn H H1 = true → ∀ {h : Nat} {o : SO}, H1[h]? = some (.obj o) → o.owned = true ∨ ∃ o', H[h]? = some (.obj o')
  | _, [], _, h, o, e => by simp at e
  | [], x :: r, hn, h, o, e => by
    cases h with
    | zero =>
      simp only [List.getElem?_cons_zero, Option.some.injEq] at e
      subst e
      simp only [newOwn] at hn
      split at hn
      · rename_i q; exact .inl q
      · simp at hn
    | succ h =>
      simp only [List.getElem?_cons_succ] at e
      have hn' : newOwn [] r = true := by
        cases x with
        | obj o2 =>
          simp only [newOwn] at hn
          split at hn
          · exact hn
          · simp at hn
        | _ => exact hn
      rcases newOwn_get hn' e with q | ⟨o', q⟩
      · exact .inl q
      · simp at q
  | y :: H, x :: r, hn, h, o, e => by
    cases h with
    | zero =>
      simp only [List.getElem?_cons_zero, Option.some.injEq] at e
      subst e
      cases y with
      | obj o2 => exact .inr ⟨o2, rfl⟩
      | _ =>
        simp only [newOwn] at hn
        split at hn
        · rename_i q; exact .inl q
        · simp at hn
    | succ h =>
      simp only [List.getElem?_cons_succ] at e
      have hn' : newOwn H r = true := by
        cases y with
        | obj o2 => cases x <;> exact hn
        | _ =>
          cases x with
          | obj o2 =>
            simp only [newOwn] at hn
            split at hn
            · exact hn
            · simp at hn
          | _ => exact hn
      exact newOwn_get hn' e
theorem HSat.rebase {w0 W : World} {bs : Nat → Prop} {ρ : Nat → Nat × Nat} {H : List HE} (h : HSat w0 bs ρ H W) : HSat W (Own ρ H) ρ H W :=
  ⟨h.objs, h.size, h.inj, fun x o hx ho => .inl ⟨x, o, hx, ho, rfl⟩, Fr.refl _ _⟩
theorem HSat.comp {w0 W W' : World} {bs : Nat → Prop} {ρ ρ' : Nat → Nat × Nat} {H H1 : List HE} (h : HSat w0 bs ρ H W) (h2 : HSat W (Own ρ H) ρ' H1 W') : HSat w0 bs ρ' H1 W' := by
  refine ⟨h2.objs, h2.size, h2.inj, fun x o hx ho => ?_, ⟨Nat.le_trans h.fr.size h2.fr.size, fun b hb hn => ?_, ?_⟩⟩
  · rcases h2.own x o hx ho with ⟨y, oy, hy, hoy, e⟩ | q
    · rw [← e]; exact h.own y oy hy hoy
    · exact .inr (Nat.le_trans h.fr.size q)
  · rw [h2.fr.same b (Nat.lt_of_lt_of_le hb h.fr.size) ?_, h.fr.same b hb hn]
    rintro ⟨y, oy, hy, hoy, e⟩
    rcases h.own y oy hy hoy with q | q
    · exact hn (by rw [← e]; exact q)
    · rw [e] at q; omega
  · obtain ⟨a1, a2, a3⟩ := h.fr.io
    obtain ⟨b1, b2, b3⟩ := h2.fr.io
    exact ⟨b1.trans a1, b2.trans a2, b3.trans a3⟩
theorem Kept.next {K : List (Nat × Obj)} {W W' : World} {ρ ρ' : Nat → Nat × Nat} {H H1 : List HE} (h : Kept K ρ H W) (h2 : HSat W (Own ρ H) ρ' H1 W') (hb : ∀ x, there H x = true → ρ' x = ρ x ∧ there H1 x = true) (hn : newOwn H H1 = true) : Kept K ρ' H1 W' := by
  intro p hp
  obtain ⟨k1, k2⟩ := h p hp
  have hlt : p.1 < W.heap.size := (Array.getElem?_eq_some_iff.1 k1).1
  have hno : ¬ Own ρ H p.1 := fun ⟨y, oy, hy, _, e⟩ => k2 y oy hy e
  refine ⟨by rw [h2.fr.same _ hlt hno]; exact k1, fun x o hx e => ?_⟩
  rcases newOwn_get hn hx with q | ⟨o', q⟩
  · rcases h2.own x o hx q with q2 | q2
    · rw [e] at q2; exact hno q2
    · rw [e] at q2; omega
  · rw [(hb x (there_of_obj q)).1] at e
    exact k2 x o' q e

section
variable {P : Program} {X : Tabs} (hX : TOk P X)
/-- A state: whatever is as it is told goes on to what is wanted. -/
def SI (rd : Option Nat) (D : List Deferred) (Q : Exit → Act → World → Prop) (w0 : World) (bs : Nat → Prop) (H0 : List HE) (ρ0 : Nat → Nat × Nat) (nt : Nat) (K : List (Nat × Obj)) (k : List KI) (T : List (Nat × SV)) (H : List HE) : Prop :=
  ∀ ρ a W, HSat w0 bs ρ H W → TSat ρ (there H) nt T a → (∀ h, there H0 h = true → ρ h = ρ0 h ∧ there H h = true) → Kept K ρ H W → WKi rd P Q k .normal (lift D a) W
variable {rd : Option Nat} {D : List Deferred} {Q : Exit → Act → World → Prop} {w0 : World} {bs : Nat → Prop} {H0 : List HE} {ρ0 : Nat → Nat × Nat} {fn : Func} {nt : Nat} {K : List (Nat × Obj)} {k k' : List KI} {T T1 : List (Nat × SV)} {H H1 : List HE}
theorem WKi_unwind {id : Nat} {a : Act} {w : World} : ∀ {k k' : List KI}, unwind id k = some k' → WKi rd P Q k' .normal a w → WKi rd P Q k (.exit id) a w
  | [], _, h, _ => by simp [unwind] at h
  | .blk i :: k, k', h, hw => by
    simp only [unwind] at h
    split at h
    · rename_i hb
      simp at h; subst h
      have := Nat.eq_of_beq_eq_true hb
      simp only [WKi]
      rw [if_pos this.symm]; exact hw
    · rename_i hb
      simp only [WKi]
      have : ¬ id = i := by intro e; subst e; simp at hb
      rw [if_neg this]
      exact WKi_unwind h hw
  | .code _ :: k, k', h, hw => WKi_unwind (k := k) h hw
  | .ops _ _ :: k, k', h, hw => WKi_unwind (k := k) h hw
  | .lp _ :: k, k', h, hw => WKi_unwind (k := k) h hw
  | .again _ _ :: k, k', h, hw => WKi_unwind (k := k) h hw
theorem si_seq {x y : Code} (h : (SI (P := P) rd D Q w0 bs H0 ρ0 nt K) (.code x :: .code y :: k) T H) : (SI (P := P) rd D Q w0 bs H0 ρ0 nt K) (.code (.seq x y) :: k) T H := fun ρ a W h1 h2 h3 h4 => by
  have hh := h ρ a W h1 h2 h3 h4
  simp only [WKi] at *
  refine wpIn_seq (wpIn_mono hh fun e a w hq => ?_)
  cases e <;> exact hq
theorem si_block {x : Code} {id : Nat} (h : (SI (P := P) rd D Q w0 bs H0 ρ0 nt K) (.code x :: .blk id :: k) T H) : (SI (P := P) rd D Q w0 bs H0 ρ0 nt K) (.code (.block id x) :: k) T H := fun ρ a W h1 h2 h3 h4 => by
  have hh := h ρ a W h1 h2 h3 h4
  simp only [WKi] at *
  refine wpIn_block (wpIn_mono hh fun e a w hq => ?_)
  cases e <;> exact hq
theorem si_skip (h : (SI (P := P) rd D Q w0 bs H0 ρ0 nt K) k T H) : (SI (P := P) rd D Q w0 bs H0 ρ0 nt K) (.code .skip :: k) T H := fun ρ a W h1 h2 h3 h4 => by
  simp only [WKi]; exact wpIn_skip (h ρ a W h1 h2 h3 h4)
theorem si_blk {id : Nat} (h : (SI (P := P) rd D Q w0 bs H0 ρ0 nt K) k T H) : (SI (P := P) rd D Q w0 bs H0 ρ0 nt K) (.blk id :: k) T H := fun ρ a W h1 h2 h3 h4 => by
  simp only [WKi]; exact h ρ a W h1 h2 h3 h4
theorem si_exit {id : Nat} (hu : unwind id k = some k') (h : (SI (P := P) rd D Q w0 bs H0 ρ0 nt K) k' T H) : (SI (P := P) rd D Q w0 bs H0 ρ0 nt K) (.code (.exit id) :: k) T H := fun ρ a W h1 h2 h3 h4 => by
  simp only [WKi]; exact wpIn_exit (WKi_unwind hu (h ρ a W h1 h2 h3 h4))
theorem look_eval {ρ : Nat → Nat × Nat} {a : Act} {A : Nat → Bool} {t : Nat} {v : SV} (hs : TSat ρ A nt T a) (hl : look T t = some v) : (lift D a).eval (.tmp t) = v.tr ρ := by
  have := (hs.val t v hl).1
  rw [lift_eval]
  simp [Act.eval, Array.getD_eq_getD_getElem?, this]
theorem si_tt {t : Nat} {x y : Code} (hl : look T t = some .tt) (h : (SI (P := P) rd D Q w0 bs H0 ρ0 nt K) (.code x :: k) T H) : (SI (P := P) rd D Q w0 bs H0 ρ0 nt K) (.code (.cond (.tmp t) x y) :: k) T H := fun ρ a W h1 h2 h3 h4 => by
  have hh := h ρ a W h1 h2 h3 h4
  simp only [WKi] at *
  exact wpIn_cond_true (by rw [look_eval h2 hl]; rfl) hh
theorem si_ff {t : Nat} {x y : Code} (hl : look T t = some .ff) (h : (SI (P := P) rd D Q w0 bs H0 ρ0 nt K) (.code y :: k) T H) : (SI (P := P) rd D Q w0 bs H0 ρ0 nt K) (.code (.cond (.tmp t) x y) :: k) T H := fun ρ a W h1 h2 h3 h4 => by
  have hh := h ρ a W h1 h2 h3 h4
  simp only [WKi] at *
  exact wpIn_cond_false (by rw [look_eval h2 hl]; rfl) hh
theorem si_at (h : ∀ ρ a W, HSat w0 bs ρ H W → TSat ρ (there H) nt T a → (∀ h, there H0 h = true → ρ h = ρ0 h ∧ there H h = true) → Kept K ρ H W → WKi rd P Q k .normal (lift D a) W) : (SI (P := P) rd D Q w0 bs H0 ρ0 nt K) k T H := h
/-- Behind a region. -/
theorem si_next {ρ ρ' : Nat → Nat × Nat} {a' : Act} {W W' : World} (h : (SI (P := P) rd D Q w0 bs H0 ρ0 nt K) k T1 H1) (hno : newOwn H H1 = true) (h1 : HSat w0 bs ρ H W) (h3 : ∀ h, there H0 h = true → ρ h = ρ0 h ∧ there H h = true) (h4 : Kept K ρ H W)
    (hs : Sat (FEnv P X.TE hX.te fn nt H Not2 ρ W) ρ' T1 H1 a' W') : WKi rd P Q k .normal (lift D a') W' := by
  have hb : ∀ x, there H x = true → ρ' x = ρ x ∧ there H1 x = true := hs.base
  exact h ρ' a' W' (h1.comp hs.hs) hs.ts (fun x hx => ⟨(hb x (h3 x hx).2).1.trans (h3 x hx).1, (hb x (h3 x hx).2).2⟩) (h4.next hs.hs hb hno)
theorem si_region {id : Nat} {ops : Array Oper} (hn : regNd ops.toList = true) (hno : newOwn H H1 = true)
    (h : ∀ ρ W (J : Act → World → Prop), (∀ cs T' H', Sub (FEnv P X.TE hX.te fn nt H Not2 ρ W) T' H' T1 H1 → SS hX (At ρ W) Not2 ⟨cs, [], fn, nt, H, [.lp J], T', H'⟩) → SS hX (At ρ W) Not2 ⟨[], [], fn, nt, H, [.ops ops.toList ops.toList, .lp J], T, H⟩)
    (hk : (SI (P := P) rd D Q w0 bs H0 ρ0 nt K) k T1 H1) : (SI (P := P) rd D Q w0 bs H0 ρ0 nt K) (.code (.region id ops false) :: k) T H := fun ρ a W h1 h2 h3 h4 => by
  simp only [WKi]
  exact region_in hX hn ⟨h1.rebase, h2, fun x hx => ⟨rfl, hx⟩⟩ (h ρ W) fun ρ' a' w' hs' => si_next hX hk hno h1 h3 h4 hs'
include hX in
theorem si_any (fn : Func) {id : Nat} {ops : Array Oper} (m : Nat) (cs : List Ch) {cs' : List Ch} {ob : List Prop} (hn : regNd ops.toList = true) (hno : newOwn H H1 = true)
    (h : drawX X (fun s => runX X [] m s []) cs ops.toList nt T H = some (cs', ob, T1, H1)) (ho : conjP ob)
    (hk : (SI (P := P) rd D Q w0 bs H0 ρ0 nt K) k T1 H1) : (SI (P := P) rd D Q w0 bs H0 ρ0 nt K) (.code (.region id ops true) :: k) T H := fun ρ a W h1 h2 h3 h4 => by
  simp only [WKi]
  exact region_any_in hX (fn := fn) m cs hn ⟨h1.rebase, h2, fun x hx => ⟨rfl, hx⟩⟩ h ho fun ρ' a' w' hs' => si_next hX hk hno h1 h3 h4 hs'
end
end Go.Hx

/-
  A range over a function: the statement, a round, a call of yield.
-/
namespace Go.Hx
open Go

section
variable {P : Program} {rd : Option Nat} {D : List Deferred} {Q : Exit → Act → World → Prop} {w0 : World} {bs : Nat → Prop} {H0 : List HE} {ρ0 : Nat → Nat × Nat} {nt : Nat} {K : List (Nat × Obj)} {k k' : List KI} {T T1 : List (Nat × SV)} {H H1 : List HE}
structure SatK (w0 : World) (bs : Nat → Prop) (H0 : List HE) (ρ0 : Nat → Nat × Nat) (nt : Nat) (K : List (Nat × Obj)) (ρ : Nat → Nat × Nat) (T : List (Nat × SV)) (H : List HE) (a : Act) (W : World) : Prop where
  hs : HSat w0 bs ρ H W
  ts : TSat ρ (there H) nt T a
  base : ∀ h, there H0 h = true → ρ h = ρ0 h ∧ there H h = true
  kept : Kept K ρ H W
theorem SI.at (h : (SI (P := P) rd D Q w0 bs H0 ρ0 nt K) k T H) {ρ : Nat → Nat × Nat} {a : Act} {W : World} (hs : SatK w0 bs H0 ρ0 nt K ρ T H a W) : WKi rd P Q k .normal (lift D a) W := h ρ a W hs.hs hs.ts hs.base hs.kept
theorem SI.of (h : ∀ ρ a W, SatK w0 bs H0 ρ0 nt K ρ T H a W → WKi rd P Q k .normal (lift D a) W) : (SI (P := P) rd D Q w0 bs H0 ρ0 nt K) k T H := fun ρ a W h1 h2 h3 h4 => h ρ a W ⟨h1, h2, h3, h4⟩
theorem WKi_ret {a : Act} {w : World} (h : Q .ret a w) : ∀ k : List KI, WKi rd P Q k .ret a w
  | [] => h
  | .code _ :: k => WKi_ret h k
  | .blk _ :: k => WKi_ret h k
  | .ops _ _ :: k => WKi_ret h k
  | .lp _ :: k => WKi_ret h k
  | .again _ _ :: k => WKi_ret h k
theorem si_ret (h : ∀ ρ a W, SatK w0 bs H0 ρ0 nt K ρ T H a W → Q .ret (lift D a) W) : (SI (P := P) rd D Q w0 bs H0 ρ0 nt K) (.code .ret :: k) T H := SI.of fun ρ a W hs => by
  simp only [WKi]; exact wpIn_ret (WKi_ret (h ρ a W hs) k)
/-- Less is known. -/
theorem si_sub (σ : (Nat → Nat × Nat) → Nat → Nat × Nat) (hsub : ∀ ρ a W, SatK w0 bs H0 ρ0 nt K ρ T H a W → SatK w0 bs H0 ρ0 nt K (σ ρ) T1 H1 a W) (h : (SI (P := P) rd D Q w0 bs H0 ρ0 nt K) k T1 H1) : (SI (P := P) rd D Q w0 bs H0 ρ0 nt K) k T H := SI.of fun ρ a W hs => h.at (hsub ρ a W hs)
theorem si_loop {body : Code} {α : Type} (Tf : α → List (Nat × SV)) (Hf : α → List HE) (Inv : α → Prop) (μ : α → Nat) (x0 : α) (h0 : Inv x0)
    (round : ∀ x, Inv x → ∀ I : Act → World → Prop, (∀ x', Inv x' → μ x' < μ x → (SI (P := P) rd D Q w0 bs H0 ρ0 nt K) (.lp I :: k) (Tf x') (Hf x')) → (SI (P := P) rd D Q w0 bs H0 ρ0 nt K) (.code body :: .lp I :: k) (Tf x) (Hf x)) :
    (SI (P := P) rd D Q w0 bs H0 ρ0 nt K) (.code (.loop body) :: k) (Tf x0) (Hf x0) := SI.of fun ρ a W hs => by
  classical
  let I : Act → World → Prop := fun a' w => ∃ x, Inv x ∧ ∃ ρ a, a' = lift D a ∧ SatK w0 bs H0 ρ0 nt K ρ (Tf x) (Hf x) a w
  let M : Act → World → Nat → Prop := fun a' w n => ∃ x, μ x = n ∧ Inv x ∧ ∃ ρ a, a' = lift D a ∧ SatK w0 bs H0 ρ0 nt K ρ (Tf x) (Hf x) a w
  have least : ∀ a w, I a w → ∃ n, M a w n ∧ ∀ m, M a w m → n ≤ m := by
    intro a w ⟨x, hx, hsx⟩
    have : ∀ n, ∀ x, μ x = n → Inv x → (∃ ρ a0, a = lift D a0 ∧ SatK w0 bs H0 ρ0 nt K ρ (Tf x) (Hf x) a0 w) → ∃ n, M a w n ∧ ∀ m, M a w m → n ≤ m := by
      intro n
      induction n using Nat.strongRecOn with
      | _ n ih =>
        intro x hn hx hsx
        by_cases hex : ∃ m, m < n ∧ M a w m
        · obtain ⟨m, hm, y, hy1, hy2, hy3⟩ := hex
          exact ih m hm y hy1 hy2 hy3
        · exact ⟨n, ⟨x, hn, hx, hsx⟩, fun m hm => by
            rcases Nat.lt_or_ge m n with h | h
            · exact absurd ⟨m, h, hm⟩ hex
            · exact h⟩
    exact this _ x rfl hx hsx
  let mu : Act → World → Nat := fun a w => if h : ∃ n, M a w n ∧ ∀ m, M a w m → n ≤ m then h.choose else 0
  have hmu : ∀ a w, I a w → M a w (mu a w) ∧ ∀ m, M a w m → mu a w ≤ m := by
    intro a w hI
    have h := least a w hI
    simp only [mu, dif_pos h]
    exact h.choose_spec
  simp only [WKi]
  refine wpIn_loop I mu ⟨x0, h0, ρ, a, rfl, hs⟩ ?_
  intro a1 w1 hI
  obtain ⟨⟨x, hx1, hx2, ρ1, a2, rfl, hx3⟩, _⟩ := hmu a1 w1 hI
  have := (round x hx2 (fun a' w => ∃ x', Inv x' ∧ μ x' < μ x ∧ ∃ ρ a, a' = lift D a ∧ SatK w0 bs H0 ρ0 nt K ρ (Tf x') (Hf x') a w) fun x' h1 h2 => SI.of fun ρ' a' W' hs' => by
    simp only [WKi]; exact ⟨x', h1, h2, ρ', a', rfl, hs'⟩).at hx3
  simp only [WKi] at this
  refine wpIn_mono this fun e a' w' hq => ?_
  cases e with
  | normal =>
    obtain ⟨x', h1, h2, h3⟩ := hq
    have hI' : I a' w' := ⟨x', h1, h3⟩
    refine ⟨hI', ?_⟩
    have := (hmu a' w' hI').2 (μ x') ⟨x', rfl, h1, h3⟩
    omega
  | _ => exact hq
/-- Blocks that are kept lie as they lay. -/
theorem HSat.putKept {W : World} {ρ : Nat → Nat × Nat} {l : Nat} {o : Obj} (h : HSat w0 bs ρ H W) (hl : w0.heap.size ≤ l ∨ bs l) (hn : ∀ (x : Nat) (ox : SO), H[x]? = some (.obj ox) → (ρ x).1 ≠ l) : HSat w0 bs ρ H (W.putObj l o) := by
  refine ⟨fun x ox hx => ?_, fun x hx => by rw [World.putObj_size]; exact h.size x hx, h.inj, h.own, ⟨by rw [World.putObj_size]; exact h.fr.size, fun b hb hnb => ?_, h.fr.io⟩⟩
  · obtain ⟨h1, h2⟩ := h.objs x ox hx
    exact ⟨ox.holds_world (World.putObj_heap_other (hn x ox hx)) h1, h2⟩
  · rw [World.putObj_heap_other (by rintro rfl; rcases hl with q | q; omega; exact hnb q)]
    exact h.fr.same b hb hnb
theorem lift_nil {a : Act} : lift [] a = a := by simp [lift]
/-! Operations, one part after the other. -/
theorem wl_append {F : Fence} {n : Nat} {ops : Array Oper} {Q' : Exit → Act → World → Prop} : ∀ {l1 l2 : List Oper} {a : Act} {w : World}, wpListIn F n P ops (fun e a w => e = .normal ∧ wpListIn F n P ops Q' l2 a w) l1 a w → wpListIn F n P ops Q' (l1 ++ l2) a w
  | [], _, _, _, h => h.2
  | o :: r, l2, a, w, h => by
    unfold wpListIn at h
    rw [List.cons_append]
    unfold wpListIn
    split
    · rename_i hw
      rw [if_pos hw] at h
      obtain ⟨h1, h2⟩ := h
      refine ⟨h1, ?_⟩
      generalize (o.semAt F.round a.eval).run P w = res at h2 ⊢
      unfold Oper.uponIn at h2 ⊢
      split at h2
      · exact wl_append h2
      · exact wl_append h2
      · exact wl_append h2
      · refine ⟨h2.1, CallsIn.mono h2.2 fun e w' he => ?_⟩
        cases e with
        | returned v => exact wl_append he
        | panicked c => exact absurd he.1 (by simp)
        | outgrown => obtain ⟨a, w, hq, _⟩ := he; simp at hq
      · exact ⟨h2.1, h2.2.mono fun v w' he => wl_append he⟩
      · refine ⟨h2.1, h2.2.mono fun e w' he => ?_⟩
        cases e with
        | returned v => exact wl_append he
        | panicked c => exact absurd he.1 (by simp)
        | outgrown => obtain ⟨a, w, hq, _⟩ := he; simp at hq
      · exact absurd h2.1 (by simp)
      · exact h2.elim
    · rename_i hw
      rw [if_neg hw] at h
      exact ⟨h.1, wl_append h.2⟩
theorem si_ops {id : Nat} {ops : Array Oper} (h : (SI (P := P) rd D Q w0 bs H0 ρ0 nt K) (.ops ops.toList ops.toList :: k) T H) : (SI (P := P) rd D Q w0 bs H0 ρ0 nt K) (.code (.region id ops false) :: k) T H := SI.of fun ρ a W hs => by
  have := h.at hs
  simp only [WKi] at this ⊢
  rw [Array.toArray_toList] at this
  exact wpIn_region_list this
theorem si_ops_nil {all : List Oper} (h : (SI (P := P) rd D Q w0 bs H0 ρ0 nt K) k T H) : (SI (P := P) rd D Q w0 bs H0 ρ0 nt K) (.ops all [] :: k) T H := SI.of fun ρ a W hs => by
  have := h.at hs
  simp only [WKi]
  exact this
/-- What begins a round, behind the assignments. -/
def beginJ (P : Program) (l : Nat) (body : Code) (R : Ending → World → Prop) : Act → World → Prop := fun a₁ w₁ => ∃ w₂, (Instr.beginRound l).run P w₁ = .ok () w₂ ∧ body.wpIn (Fw (some l)) 0 P (roundPost P l R) a₁ w₂
theorem round_in {l f : Nat} {tm : Array Value} {assign body : Code} {R : Ending → World → Prop} {W : World} {ρ : Nat → Nat × Nat}
    (h : SI (P := P) (some l) [] (fun _ _ _ => False) w0 bs H0 ρ0 nt K [.code assign, .lp (beginJ P l body R)] T H) (hs : SatK w0 bs H0 ρ0 nt K ρ T H { tmps := tm, defers := [] } W) : RoundIn Fence.wide 0 P l f tm assign body W R := by
  refine roundIn_of_wpIn trivial ?_
  have := h.at hs
  rw [lift_nil] at this
  simp only [WKi] at this
  refine wpIn_mono (show assign.wpIn (Fw (some l)) 0 P _ _ _ from this) fun e a w hq => ?_
  cases e with
  | normal => exact hq
  | _ => exact hq
theorem si_begin {l : Nat} {r : Loop} {body : Code} {R : Ending → World → Prop} (hl : w0.heap.size ≤ l ∨ bs l) (hr : r.state = .ready) (hK : ∀ p ∈ K, p.1 ≠ l)
    (h : SI (P := P) (some l) [] (roundPost P l R) w0 bs H0 ρ0 nt ((l, .loop { r with state := .busy }) :: K) [.code body] T H) :
    SI (P := P) (some l) [] (fun _ _ _ => False) w0 bs H0 ρ0 nt ((l, .loop r) :: K) [.lp (beginJ P l body R)] T H := SI.of fun ρ a W hs => by
  obtain ⟨k1, k2⟩ := hs.kept (l, .loop r) (List.mem_cons_self ..)
  have hlt : l < W.heap.size := (Array.getElem?_eq_some_iff.1 k1).1
  simp only [WKi]
  refine ⟨_, run_beginRound k1 hr, ?_⟩
  have := h.at (ρ := ρ) (a := a) (W := W.putObj l (.loop { r with state := .busy })) ⟨hs.hs.putKept hl k2, hs.ts, hs.base, fun p hp => ?_⟩
  · simp only [WKi] at this
    exact this
  · simp only [List.mem_cons] at hp
    rcases hp with rfl | hp
    · exact ⟨World.putObj_heap_same hlt, k2⟩
    · obtain ⟨q1, q2⟩ := hs.kept p (List.mem_cons_of_mem _ hp)
      exact ⟨by rw [World.putObj_heap_other (hK p hp)]; exact q1, q2⟩
theorem si_round_end {l : Nat} {r : Loop} {R : Ending → World → Prop} (h : ∀ ρ a W, SatK w0 bs H0 ρ0 nt ((l, .loop r) :: K) ρ T H a W → R (.returned (.bool true)) (W.putObj l (.loop { r with state := .ready, pending := none }))) :
    SI (P := P) (some l) [] (roundPost P l R) w0 bs H0 ρ0 nt ((l, .loop r) :: K) [] T H := SI.of fun ρ a W hs => by
  obtain ⟨k1, k2⟩ := hs.kept (l, .loop r) (List.mem_cons_self ..)
  exact ⟨_, _, run_endRound none k1, h ρ a W hs⟩
/-- An exit that nothing in a round catches. -/
def noBlk (id : Nat) : List KI → Bool
  | [] => true
  | .blk i :: k => match Nat.beq i id with
    | true => false
    | false => noBlk id k
  | _ :: k => noBlk id k
theorem WKi_out {id : Nat} {a : Act} {w : World} (h : Q (.exit id) a w) : ∀ {k : List KI}, noBlk id k = true → WKi rd P Q k (.exit id) a w
  | [], _ => h
  | .blk i :: k, hn => by
    simp only [noBlk] at hn
    split at hn
    · simp at hn
    · rename_i hb
      simp only [WKi]
      have : ¬ id = i := by intro e; subst e; simp at hb
      rw [if_neg this]
      exact WKi_out h hn
  | .code _ :: k, hn => WKi_out (k := k) h hn
  | .ops _ _ :: k, hn => WKi_out (k := k) h hn
  | .lp _ :: k, hn => WKi_out (k := k) h hn
  | .again _ _ :: k, hn => WKi_out (k := k) h hn
theorem si_round_out {l id : Nat} {r : Loop} {R : Ending → World → Prop} (hn : noBlk id k = true) (h : ∀ ρ a W, SatK w0 bs H0 ρ0 nt ((l, .loop r) :: K) ρ T H a W → R (.returned (.bool false)) (W.putObj l (.loop { r with state := .done, pending := some (.exit id) }))) :
    SI (P := P) (some l) [] (roundPost P l R) w0 bs H0 ρ0 nt ((l, .loop r) :: K) (.code (.exit id) :: k) T H := SI.of fun ρ a W hs => by
  obtain ⟨k1, k2⟩ := hs.kept (l, .loop r) (List.mem_cons_self ..)
  simp only [WKi]
  exact wpIn_exit (WKi_out ⟨_, _, run_endRound (some (.exit id)) k1, h ρ a W hs⟩ hn)
end
end Go.Hx

/-
  A call of yield; the statement that ranges over a function.
-/
namespace Go.Hx
open Go

theorem yield_run {P : Program} {A : Nat → Bool} {nt : Nat} {T : List (Nat × SV)} {o : Oper} {c : Call} {l : Nat} {as : List SV} {r : Loop} {x : Operand} (hop : o.op = .call c) (hcal : c.callee = .value x)
    (hx : ev T x = some (.raw (.func (.yield l) #[] #[]))) (has : evs T c.args.toList = some as) (hn : as.length = r.params.size) {ρ : Nat → Nat × Nat} {a : Act} {w : World} (hs : TSat ρ A nt T a) (hl : w.heap[l]? = some (.loop r)) :
    (execOp a.eval o).run P w = .ok (.round l r.fn ((r.params.zip (SV.trs ρ as).toArray).foldl (fun tmps (t, a) => tmps.setIfInBounds t a) r.tmps) r.assign r.body) w := by
  obtain ⟨h1, h2⟩ := ev_tr hs hx
  obtain ⟨h3, h4⟩ := evs_tr hs has
  have hmap : c.args.map a.eval = (SV.trs ρ as).toArray := by rw [toArr_map, h3]
  have hy := run_yield (P := P) (args := (SV.trs ρ as).toArray) hl (by simp [trs_length, hn])
  simp only [execOp, hop, Sem.run_bind]
  simp only [resolve, hcal, h1, SV.tr, Deferred.ofValue, hmap, Sem.run_pure, Result.andThen_ok, invoke]
  simpa using hy
section
variable {P : Program} {X : Tabs} (hX : TOk P X) {rd : Option Nat} {D : List Deferred} {Q : Exit → Act → World → Prop} {w0 : World} {bs : Nat → Prop} {H0 : List HE} {ρ0 : Nat → Nat × Nat} {fn : Func} {nt : Nat} {K : List (Nat × Obj)} {k k' : List KI} {T T1 : List (Nat × SV)} {H H1 : List HE}
/-- A part of a region, gone through by the machine. -/
theorem si_ops_run {all pre post : List Oper} (hn : regNd pre = true) (hno : newOwn H H1 = true)
    (h : ∀ ρ W (J : Act → World → Prop), (∀ cs T' H', Sub (FEnv P X.TE hX.te fn nt H Not2 ρ W) T' H' T1 H1 → SS hX (At ρ W) Not2 ⟨cs, [], fn, nt, H, [.lp J], T', H'⟩) → SS hX (At ρ W) Not2 ⟨[], [], fn, nt, H, [.ops all pre, .lp J], T, H⟩)
    (hk : (SI (P := P) rd D Q w0 bs H0 ρ0 nt K) (.ops all post :: k) T1 H1) : (SI (P := P) rd D Q w0 bs H0 ρ0 nt K) (.ops all (pre ++ post) :: k) T H := SI.of fun ρ a W hs => by
  simp only [WKi]
  have hs0 : Sat (FEnv P X.TE hX.te fn nt H Not2 ρ W) ρ T H a W := ⟨hs.hs.rebase, hs.ts, fun x hx => ⟨rfl, hx⟩⟩
  let J : Act → World → Prop := fun a' w' => ∃ ρ', Sat (FEnv P X.TE hX.te fn nt H Not2 ρ W) ρ' T1 H1 a' w'
  have hw := sw_ss hX (h ρ W J fun cs T H' hsub => ss_sw hX fun ρ1 a1 w1 hs1 => hsub ρ1 a1 w1 hs1) ρ a W hs0
  refine wl_append (wl_in (Qs := WK P (FEnv P X.TE hX.te fn nt H Not2 ρ W).Q [.lp J]) (fun e a w => wk_lp_normal hX e a w) (fun a' w' hJ => ?_) (regNd_mem hn) hw)
  obtain ⟨ρ', hs'⟩ := hJ
  have := si_next hX (fn := fn) hk hno hs.hs hs.base hs.kept hs'
  simp only [WKi] at this
  exact ⟨rfl, this⟩
/-- A call of yield. -/
theorem si_ops_yield {all post : List Oper} {o : Oper} {c : Call} {l : Nat} {as : List SV} {r : Loop} {x : Operand} (hop : o.op = .call c) (hcal : c.callee = .value x) (hg : guardF all T o.guard = 0)
    (hx : ev T x = some (.raw (.func (.yield l) #[] #[]))) (has : evs T c.args.toList = some as) (hn : as.length = r.params.size)
    (h : ∀ ρ a W, SatK w0 bs H0 ρ0 nt ((l, .loop r) :: K) ρ T H a W →
      RoundIn Fence.wide 0 P l r.fn ((r.params.zip (SV.trs ρ as).toArray).foldl (fun tmps (t, a) => tmps.setIfInBounds t a) r.tmps) r.assign r.body W fun e W' => match e with
        | .returned v => wpListIn (Fw rd) 0 P all.toArray (WKi rd P Q k) post (lift D (a.put o.dst v)) W'
        | _ => False) :
    SI (P := P) rd D Q w0 bs H0 ρ0 nt ((l, .loop r) :: K) (.ops all (o :: post) :: k) T H := SI.of fun ρ a W hs => by
  obtain ⟨k1, _⟩ := hs.kept (l, .loop r) (List.mem_cons_self ..)
  have hd : ∀ c, o.op ≠ .defer c := fun c e => by rw [hop] at e; cases e
  have hrun := yield_run (P := P) hop hcal hx has hn hs.ts k1
  have hw : Region.wanted o (yielded all.toArray (lift D a).tmps) = true := by
    have := guard_wanted (E := ⟨P, fun _ => TI.none, nt, Q, w0, bs, H0, ρ0, fun t => TIok.of_check (i := TI.none) (by simp [checkT, TI.none])⟩) (ρ := ρ) (T := T) (H := H) (a := a) (w := W) ⟨hs.hs, hs.ts, hs.base⟩ hg
    exact this
  simp only [WKi]
  unfold wpListIn
  rw [if_pos hw]
  refine ⟨fun _ _ => trivial, ?_⟩
  rw [Oper.semAt_eq _ _ _ hd, lift_eval, hrun, Oper.uponIn_round]
  refine ⟨fun e => by simp [Fw, Fence.wide] at e, ?_⟩
  refine RoundIn.mono (show RoundIn (Fw rd) 0 P l _ _ _ _ W _ from h ρ a W hs) fun e W' he => ?_
  cases e with
  | returned v =>
    show wpListIn (Fw rd) 0 P all.toArray (WKi rd P Q k) post ((lift D a).put o.dst v) W'
    rw [← lift_put]; exact he
  | panicked c => exact he.elim
  | outgrown => exact he.elim
/-- The mark of a loop's deferred calls. -/
def markD (b : Nat) : Deferred := { target := .collected b, args := #[] }
def recL (fid : FuncId) (tm : Array Value) (ps : Array Tmp) (assign body : Code) (b : Nat) : Loop := { state := .ready, pending := none, fn := fid, tmps := tm, params := ps, assign := assign, body := body, defers := b }
/-- The statement that ranges over a function. -/
theorem si_range {g tf : Nat} {caps : List SV} {fng : Func} {ps : Array Tmp} {assign body : Code} (hl : look T tf = some (.func (.func g) [] caps)) (hfn : P.funcs[g]? = some fng) (hb : fng.body.isSome = true) (hname : (fng.name == "runtime.NumGoroutine") = false)
    (h : ∀ ρ a W fid, SatK w0 bs H0 ρ0 nt K ρ T H a W → Calls P g (#[.func (.yield (W.heap.size + 1)) #[] #[]] ++ (SV.trs ρ caps).toArray) ((W.alloc (.deferred (some []))).alloc (.loop (recL fid a.tmps ps assign body W.heap.size))) fun e W2 => match e with
      | .returned _ => ∃ jump W3, (Instr.endLoop (W.heap.size + 1)).run P W2 = .ok jump W3 ∧ (match jump with
        | none => WKi none P Q k .normal (lift [markD W.heap.size] a) W3
        | some c => WKi none P Q (.code c :: k) .normal (lift [markD W.heap.size] a) W3)
      | _ => False) :
    SI (P := P) none [] Q w0 bs H0 ρ0 nt K (.code (.rangeFunc (.tmp tf) ps assign body) :: k) T H := SI.of fun ρ a W hs => by
  simp only [WKi]
  rw [lift_nil]
  refine wpIn_rangeFunc fun fid _ => ?_
  have hev : a.eval (.tmp tf) = .func (.func g) #[] (SV.trs ρ caps).toArray := by
    have := look_eval (D := []) hs.ts hl
    rw [lift_nil] at this
    rw [this]; rfl
  have hd0 : a.defers = [] := hs.ts.def0
  have hnone : ¬ fng.body = none := by intro e; rw [e] at hb; simp at hb
  have hn' : ¬ fng.name = "runtime.NumGoroutine" := by intro e; rw [e] at hname; simp at hname
  refine ⟨W.heap.size + 1, [markD W.heap.size], (W.alloc (.deferred (some []))).alloc (.loop (recL fid a.tmps ps assign body W.heap.size)), { target := .fn (.func g) (SV.trs ρ caps).toArray, args := #[.func (.yield (W.heap.size + 1)) #[] #[]] }, (W.alloc (.deferred (some []))).alloc (.loop (recL fid a.tmps ps assign body W.heap.size)), g, #[.func (.yield (W.heap.size + 1)) #[] #[]] ++ (SV.trs ρ caps).toArray, (W.alloc (.deferred (some []))).alloc (.loop (recL fid a.tmps ps assign body W.heap.size)), run_enterLoop_outer fid a.tmps ps assign body, ?_, fun f' _ => trivial, ?_, fun e => by simp [Fw, Fence.wide] at e, ?_⟩
  · show (Deferred.ofValue (a.eval (.tmp tf)) _).run P _ = _
    rw [hev]
    simp [Deferred.ofValue, Sem.run_pure, Act.eval]
  · simp [invoke, callFunc, Sem.run_bind, run_program, hfn, hn', hnone]
  · refine callsIn_fw.2 (Calls.mono (h ρ a W fid hs) fun e W2 he => ?_)
    cases e with
    | returned v =>
      obtain ⟨jump, W3, he1, he2⟩ := he
      refine ⟨jump, W3, he1, ?_⟩
      have e3 : ({ a with defers := [markD W.heap.size] ++ a.defers } : Act) = lift [markD W.heap.size] a := by simp [lift, hd0]
      rw [e3]
      cases jump with
      | none => exact he2
      | some c => simp only [WKi] at he2; exact he2
    | panicked c => exact he.elim
    | outgrown => exact he.elim
end
end Go.Hx

/-
  A range over a function: into the function that is ranged over, and out of it; a function with a loop's mark.
-/
namespace Go.Hx
open Go

section
variable {P : Program} {rd : Option Nat} {D : List Deferred} {Q : Exit → Act → World → Prop} {w0 : World} {bs : Nat → Prop} {H0 : List HE} {ρ0 : Nat → Nat × Nat} {nt : Nat} {K : List (Nat × Obj)} {k k' : List KI} {T T1 : List (Nat × SV)} {H H1 : List HE}
theorem argSat {ρ : Nat → Nat × Nat} {A : Nat → Bool} {args : List SV} (hok : SV.okhs A args = true) (hn : args.length ≤ nt) : TSat ρ A nt (argT 0 args) { tmps := (SV.trs ρ args).toArray ++ Array.replicate (nt - (SV.trs ρ args).toArray.size) undef, defers := [] } := by
  refine ⟨?_, ?_, rfl⟩
  · intro t v hv
    obtain ⟨_, h2⟩ := argT_get hv
    simp only [Nat.sub_zero] at h2
    refine ⟨?_, (okhs_iff args).1 hok v (List.mem_of_getElem? h2)⟩
    have hlt : t < args.length := by
      rcases Nat.lt_or_ge t args.length with h1 | h1
      · exact h1
      · rw [List.getElem?_eq_none h1] at h2; simp at h2
    rw [Array.getElem?_append_left (by simp [trs_length]; exact hlt)]
    simp [trs_eq_map, h2]
  · simp [trs_length]; omega
/-- A function is gone into, whatever is wanted of it. -/
theorem si_intro {g : Nat} {fng : Func} {c : Code} {as : List SV} {R : Ending → World → Prop} {ρ : Nat → Nat × Nat} {W : World} (hf : P.funcs[g]? = some fng) (hb : fng.body = some c) (hn : as.length ≤ fng.ntmps) (hok : SV.okhs (there H) as = true)
    (hs : HSat w0 bs ρ H W) (hbase : ∀ h, there H0 h = true → ρ h = ρ0 h ∧ there H h = true) (hk : Kept K ρ H W)
    (h : SI (P := P) none [] (bodyPostM (Fw none) 0 P fng R) w0 bs H0 ρ0 fng.ntmps K [.code c] (argT 0 as) H) : Calls P g (SV.trs ρ as).toArray W R := by
  refine callsIn_fw.1 (callsIn_of_wp_marks (F := Fw none) (n := 0) hf hb trivial ?_)
  have := h.at (ρ := ρ) (W := W) ⟨hs, argSat hok hn, hbase, hk⟩
  rw [lift_nil] at this
  simp only [WKi] at this
  refine wpIn_mono this fun e a w hq => ?_
  cases e <;> exact hq
theorem SatK.putL {ρ : Nat → Nat × Nat} {a : Act} {W : World} {l : Nat} {o o' : Obj} (hs : SatK w0 bs H0 ρ0 nt ((l, o) :: K) ρ T H a W) (hl : w0.heap.size ≤ l ∨ bs l) (hK : ∀ p ∈ K, p.1 ≠ l) : SatK w0 bs H0 ρ0 nt ((l, o') :: K) ρ T H a (W.putObj l o') := by
  obtain ⟨k1, k2⟩ := hs.kept (l, o) (List.mem_cons_self ..)
  have hlt : l < W.heap.size := (Array.getElem?_eq_some_iff.1 k1).1
  refine ⟨hs.hs.putKept hl k2, hs.ts, hs.base, fun p hp => ?_⟩
  simp only [List.mem_cons] at hp
  rcases hp with rfl | hp
  · exact ⟨World.putObj_heap_same hlt, k2⟩
  · obtain ⟨q1, q2⟩ := hs.kept p (List.mem_cons_of_mem _ hp)
    exact ⟨by rw [World.putObj_heap_other (hK p hp)]; exact q1, q2⟩
/-- What a round knows of its parameters. -/
def putP : List Nat → List SV → List (Nat × SV) → List (Nat × SV)
  | p :: ps, v :: vs, T => putP ps vs ((p, v) :: T)
  | _, _, T => T
def psLt (n : Nat) : List Nat → Bool
  | [] => true
  | p :: r => match Nat.ble (p + 1) n with
    | true => psLt n r
    | false => false
theorem putP_sat {ρ : Nat → Nat × Nat} {A : Nat → Bool} : ∀ {ps : List Nat} {vs : List SV} {T : List (Nat × SV)} {tm : Array Value}, TSat ρ A nt T { tmps := tm, defers := [] } → SV.okhs A vs = true → psLt nt ps = true →
    TSat ρ A nt (putP ps vs T) { tmps := (ps.zip (SV.trs ρ vs)).foldl (fun tmps (t, a) => tmps.setIfInBounds t a) tm, defers := [] }
  | [], vs, T, tm, h, _, _ => by cases vs <;> exact h
  | p :: ps, [], T, tm, h, _, _ => h
  | p :: ps, v :: vs, T, tm, h, hv, hp => by
    simp only [SV.okhs, Bool.and_eq_true] at hv
    simp only [psLt] at hp
    split at hp
    · rename_i hb
      have hlt : p < nt := Nat.le_of_ble_eq_true hb
      have h2 := h.put hlt hv.1
      exact putP_sat (ps := ps) (vs := vs) (T := (p, v) :: T) (tm := tm.setIfInBounds p (v.tr ρ)) h2 hv.2 hp
    · simp at hp
/-- A call of yield: a round. -/
theorem si_yield {all post : List Oper} {o : Oper} {c : Call} {l d nto : Nat} {as : List SV} {r : Loop} {x : Operand} {To : List (Nat × SV)} (hop : o.op = .call c) (hcal : c.callee = .value x) (hg : guardF all T o.guard = 0)
    (hx : ev T x = some (.raw (.func (.yield l) #[] #[]))) (has : evs T c.args.toList = some as) (hn : as.length = r.params.size) (hst : r.state = .ready) (hd : o.dst = some d) (hdn : d < nt)
    (hl : w0.heap.size ≤ l ∨ bs l) (hK : ∀ p ∈ K, p.1 ≠ l) (hps : psLt nto r.params.toList = true) (ho : TSat ρ0 (there H0) nto To { tmps := r.tmps, defers := [] })
    (h : ∀ (ρ : Nat → Nat × Nat) (Qr : Exit → Act → World → Prop) (J : Act → World → Prop),
      (∀ T2 H1, SI (P := P) (some l) [] Qr w0 bs H ρ nto ((l, .loop { r with state := .busy }) :: K) [.code r.body] T2 H1 → SI (P := P) (some l) [] (fun _ _ _ => False) w0 bs H ρ nto ((l, .loop r) :: K) [.lp J] T2 H1) →
      (∀ T2 H1, SI (P := P) rd D Q w0 bs H0 ρ0 nt ((l, .loop { r with state := .ready, pending := none }) :: K) (.ops all post :: k) ((d, .tt) :: T) H1 → SI (P := P) (some l) [] Qr w0 bs H ρ nto ((l, .loop { r with state := .busy }) :: K) [] T2 H1) →
      (∀ id T2 H1 kk, noBlk id kk = true → SI (P := P) rd D Q w0 bs H0 ρ0 nt ((l, .loop { r with state := .done, pending := some (.exit id) }) :: K) (.ops all post :: k) ((d, .ff) :: T) H1 → SI (P := P) (some l) [] Qr w0 bs H ρ nto ((l, .loop { r with state := .busy }) :: K) (.code (.exit id) :: kk) T2 H1) →
      SI (P := P) (some l) [] (fun _ _ _ => False) w0 bs H ρ nto ((l, .loop r) :: K) [.code r.assign, .lp J] (putP r.params.toList as To) H) :
    SI (P := P) rd D Q w0 bs H0 ρ0 nt ((l, .loop r) :: K) (.ops all (o :: post) :: k) T H := by
  refine si_ops_yield hop hcal hg hx has hn fun ρ a W hs => ?_
  have hok := (evs_tr hs.ts has).2
  have ho2 : TSat ρ (there H) nto To { tmps := r.tmps, defers := [] } := ho.ext (fun y hy => (hs.base y hy).1.symm) (fun y hy => (hs.base y hy).2)
  have hp := putP_sat (ps := r.params.toList) (vs := as) ho2 hok hps
  have e1 : (r.params.toList.zip (SV.trs ρ as)).foldl (fun tmps (t, a) => tmps.setIfInBounds t a) r.tmps = (r.params.zip (SV.trs ρ as).toArray).foldl (fun tmps (t, a) => tmps.setIfInBounds t a) r.tmps := by
    rw [← Array.foldl_toList]
    simp [Array.toList_zip]
  rw [e1] at hp
  have next : ∀ {b : Bool} {vb : SV} {r2 : Loop} {ρ' : Nat → Nat × Nat} {a' : Act} {W' : World} {T2 : List (Nat × SV)} {H1 : List HE}, vb.tr ρ' = .bool b → vb.okh (there H1) = true →
      SI (P := P) rd D Q w0 bs H0 ρ0 nt ((l, .loop r2) :: K) (.ops all post :: k) ((d, vb) :: T) H1 → SatK w0 bs H ρ nto ((l, .loop { r with state := .busy }) :: K) ρ' T2 H1 a' W' →
      wpListIn (Fw rd) 0 P all.toArray (WKi rd P Q k) post (lift D (a.put o.dst (.bool b))) (W'.putObj l (.loop r2)) := by
    intro b vb r2 ρ' a' W' T2 H1 hv hvo hsi hs'
    have hs2 := hs'.putL (o' := .loop r2) hl hK
    have ht : TSat ρ' (there H1) nt T a := hs.ts.ext (fun y hy => (hs'.base y hy).1.symm) (fun y hy => (hs'.base y hy).2)
    have := hsi.at (ρ := ρ') (a := a.put (some d) (vb.tr ρ')) (W := W'.putObj l (.loop r2)) ⟨hs2.hs, ht.put hdn hvo, fun y hy => ⟨(hs'.base y (hs.base y hy).2).1.trans (hs.base y hy).1, (hs'.base y (hs.base y hy).2).2⟩, hs2.kept⟩
    simp only [WKi] at this
    rw [hd, ← hv]
    exact this
  refine round_in (h ρ _ _ (fun T2 H1 hb => si_begin hl hst hK hb) (fun T2 H1 hsi => ?_) (fun id T2 H1 kk hnb hsi => ?_)) ⟨hs.hs, hp, fun y hy => ⟨rfl, hy⟩, hs.kept⟩
  · exact si_round_end fun ρ' a' W' hs' => next (vb := .tt) rfl rfl hsi hs'
  · exact si_round_out hnb fun ρ' a' W' hs' => next (vb := .ff) rfl rfl hsi hs'
theorem alloc_old {W : World} {o : Obj} {b : Nat} (h : b < W.heap.size) : (W.alloc o).heap[b]? = W.heap[b]? := by
  show (W.heap.push o)[b]? = _
  rw [Array.getElem?_push_lt h]
  simp [h]
/-- The world of a function that is ranged over. -/
def loopW (W : World) (r : Loop) : World := (W.alloc (.deferred (some []))).alloc (.loop r)
theorem loopW_size {W : World} {r : Loop} : (loopW W r).heap.size = W.heap.size + 2 := by simp [loopW]
theorem loopW_old {W : World} {r : Loop} {b : Nat} (h : b < W.heap.size) : (loopW W r).heap[b]? = W.heap[b]? := by
  rw [loopW, alloc_old (by simp; omega), alloc_old h]
theorem loopW_sat {W : World} {r : Loop} {ρ : Nat → Nat × Nat} (h : HSat w0 bs ρ H W) : HSat (loopW W r) (fun b => Own ρ H b ∨ b = W.heap.size + 1) ρ H (loopW W r) := by
  refine ⟨fun x ox hx => ?_, fun x hx => by rw [loopW_size]; have := h.size x hx; omega, h.inj, fun x o hx ho => .inl (.inl ⟨x, o, hx, ho, rfl⟩), Fr.refl _ _⟩
  obtain ⟨h1, h2⟩ := h.objs x ox hx
  exact ⟨ox.holds_world (loopW_old (h.size x (there_of_obj hx))) h1, h2⟩
theorem loopW_kept {W : World} {r : Loop} {ρ : Nat → Nat × Nat} (h : HSat w0 bs ρ H W) : Kept [(W.heap.size + 1, .loop r), (W.heap.size, .deferred (some []))] ρ H (loopW W r) := by
  intro p hp
  simp only [List.mem_cons, List.not_mem_nil, or_false] at hp
  rcases hp with rfl | rfl
  · refine ⟨?_, fun x o hx e => ?_⟩
    · have := World.alloc_heap_new (W.alloc (.deferred (some []))) (.loop r)
      rw [World.size_alloc] at this
      exact this
    · have := h.size x (there_of_obj hx); simp at e; omega
  · refine ⟨?_, fun x o hx e => ?_⟩
    · show ((W.alloc (.deferred (some []))).alloc (.loop r)).heap[W.heap.size]? = _
      rw [alloc_old (by simp), World.alloc_heap_new]
    · have := h.size x (there_of_obj hx); simp at e; omega
theorem loopW_back {W W' : World} {r : Loop} {ρ ρ' : Nat → Nat × Nat} (h2 : HSat (loopW W r) (fun b => Own ρ H b ∨ b = W.heap.size + 1) ρ' H1 W') : HSat W (Own ρ H) ρ' H1 W' := by
  refine ⟨h2.objs, h2.size, h2.inj, fun x o hx ho => ?_, ⟨?_, fun b hb hn => ?_, ?_⟩⟩
  · rcases h2.own x o hx ho with (q | q) | q
    · exact .inl q
    · exact .inr (by omega)
    · rw [loopW_size] at q; exact .inr (by omega)
  · have := h2.fr.size; rw [loopW_size] at this; omega
  · rw [h2.fr.same b (by rw [loopW_size]; omega) (by rintro (q | q); exact hn q; omega), loopW_old hb]
  · exact h2.fr.io
/-- What comes behind a loop. -/
def beyond (k : List KI) : Option Code → List KI
  | none => k
  | some c => .code c :: k
/-- A range over a function. -/
theorem si_over {g tf : Nat} {caps : List SV} {fng : Func} {cg : Code} {ps : Array Tmp} {assign body : Code} (hl : look T tf = some (.func (.func g) [] caps)) (hfn : P.funcs[g]? = some fng) (hb : fng.body = some cg) (hname : (fng.name == "runtime.NumGoroutine") = false)
    (hres : fng.results = #[]) (hcn : Nat.ble (caps.length + 1) fng.ntmps = true)
    (h : ∀ ρ (a : Act) (W1 : World) (l b : Nat) (bs1 : Nat → Prop) (fid : FuncId) (Qi : Exit → Act → World → Prop), TSat ρ (there H) nt T a → b ≠ l → bs1 l →
      (∀ T2 H2 (r2 : Loop), r2.state ≠ .busy → newOwn H H2 = true → (∀ b', w0.heap.size ≤ b' → SI (P := P) none [markD b'] Q w0 bs H0 ρ0 nt ((b', .deferred (some [])) :: K) (beyond k r2.pending) T H2) →
        SI (P := P) none [] Qi W1 bs1 H ρ fng.ntmps [(l, .loop r2), (b, .deferred (some []))] [] T2 H2 ∧ ∀ kk, SI (P := P) none [] Qi W1 bs1 H ρ fng.ntmps [(l, .loop r2), (b, .deferred (some []))] (.code .ret :: kk) T2 H2) →
      SI (P := P) none [] Qi W1 bs1 H ρ fng.ntmps [(l, .loop (recL fid a.tmps ps assign body b)), (b, .deferred (some []))] [.code cg] (argT 0 (.raw (.func (.yield l) #[] #[]) :: caps)) H) :
    SI (P := P) none [] Q w0 bs H0 ρ0 nt K (.code (.rangeFunc (.tmp tf) ps assign body) :: k) T H := by
  refine si_range hl hfn (by rw [hb]; rfl) hname fun ρ a W fid hs => ?_
  have e1 : (#[.func (.yield (W.heap.size + 1)) #[] #[]] ++ (SV.trs ρ caps).toArray : Array Value) = (SV.trs ρ (.raw (.func (.yield (W.heap.size + 1)) #[] #[]) :: caps)).toArray := by
    simp [SV.trs, SV.tr]
  rw [e1]
  refine si_intro (K := [(W.heap.size + 1, .loop (recL fid a.tmps ps assign body W.heap.size)), (W.heap.size, .deferred (some []))]) (w0 := loopW W (recL fid a.tmps ps assign body W.heap.size)) (bs := fun b => Own ρ H b ∨ b = W.heap.size + 1) (H := H) (H0 := H) (ρ0 := ρ) hfn hb (by have := Nat.le_of_ble_eq_true hcn; simp; omega) ?_ (loopW_sat hs.hs) (fun _ hh => ⟨rfl, hh⟩) (loopW_kept hs.hs) ?_
  · simp only [SV.okhs, Bool.and_eq_true]
    have := (hs.ts.val tf _ hl).2
    simp only [SV.okh, Bool.and_eq_true] at this
    exact ⟨rfl, this.2⟩
  · refine h ρ a _ (W.heap.size + 1) W.heap.size _ fid _ hs.ts (by omega) (.inr rfl) fun T2 H2 r2 hr2 hno hbey => ?_
    have key : ∀ ρ' a' W', SatK (loopW W (recL fid a.tmps ps assign body W.heap.size)) (fun b => Own ρ H b ∨ b = W.heap.size + 1) H ρ fng.ntmps [(W.heap.size + 1, .loop r2), (W.heap.size, .deferred (some []))] ρ' T2 H2 a' W' →
        ∃ v, (results fng a'.tmps).run P W' = .ok v W' ∧ ∃ jump W3, (Instr.endLoop (W.heap.size + 1)).run P W' = .ok jump W3 ∧ (match jump with
          | none => WKi none P Q k .normal (lift [markD W.heap.size] a) W3
          | some c => WKi none P Q (.code c :: k) .normal (lift [markD W.heap.size] a) W3) := by
      intro ρ' a' W' hs'
      obtain ⟨k1, _⟩ := hs'.kept (W.heap.size + 1, .loop r2) (List.mem_cons_self ..)
      refine ⟨_, by rw [results_none hres], _, _, run_endLoop k1 hr2, ?_⟩
      have hs3 := hs'.putL (o' := .loop { r2 with state := .exhausted }) (.inr (.inr rfl)) (by intro p hp; simp at hp; subst hp; simp)
      have hb2 := loopW_back hs3.hs
      obtain ⟨k3, k4⟩ := hs3.kept (W.heap.size, .deferred (some [])) (by simp)
      have hk2 := hs.kept.next hb2 hs'.base hno
      have := (hbey W.heap.size hs.hs.fr.size).at (ρ := ρ') (a := a) (W := W'.putObj (W.heap.size + 1) (.loop { r2 with state := .exhausted })) ⟨hs.hs.comp hb2, hs.ts.ext (fun y hy => (hs'.base y hy).1.symm) (fun y hy => (hs'.base y hy).2), fun y hy => ⟨(hs'.base y (hs.base y hy).2).1.trans (hs.base y hy).1, (hs'.base y (hs.base y hy).2).2⟩, fun p hp => ?_⟩
      · cases hpe : r2.pending with
        | none => rw [hpe] at this; exact this
        | some c => rw [hpe] at this; exact this
      · simp only [List.mem_cons] at hp
        rcases hp with rfl | hp
        · exact ⟨k3, k4⟩
        · exact hk2 p hp
    have hret : ∀ (e : Exit), (e = .ret ∨ e = .normal) → ∀ ρ' a' W', SatK (loopW W (recL fid a.tmps ps assign body W.heap.size)) (fun b => Own ρ H b ∨ b = W.heap.size + 1) H ρ fng.ntmps [(W.heap.size + 1, .loop r2), (W.heap.size, .deferred (some []))] ρ' T2 H2 a' W' →
        bodyPostM (Fw none) 0 P fng (fun e W2 => match e with
          | .returned _ => ∃ jump W3, (Instr.endLoop (W.heap.size + 1)).run P W2 = .ok jump W3 ∧ (match jump with
            | none => WKi none P Q k .normal (lift [markD W.heap.size] a) W3
            | some c => WKi none P Q (.code c :: k) .normal (lift [markD W.heap.size] a) W3)
          | _ => False) e (lift [] a') W' := by
      intro e he ρ' a' W' hs'
      have hd0 : a'.defers = [] := hs'.ts.def0
      obtain ⟨v, hv1, hv2⟩ := key ρ' a' W' hs'
      rcases he with rfl | rfl <;>
      · simp only [bodyPostM, lift, hd0, List.append_nil, LeavesInM, LeavesIn]
        exact ⟨v, hv1, hv2⟩
    exact ⟨SI.of fun ρ' a' W' hs' => by simp only [WKi]; exact hret _ (.inr rfl) ρ' a' W' hs', fun kk => si_ret fun ρ' a' W' hs' => hret _ (.inl rfl) ρ' a' W' hs'⟩
end
section
variable {P : Program} {X : Tabs} (hX : TOk P X) {fn : Func} {k : List KI} {T : List (Nat × SV)} {H H0 : List HE} {R : SV → List HE → Prop} {ρ0 : Nat → Nat × Nat} {w0 : World}
/-- What a function gives whose code has a range over a function. -/
theorem si_fn {f : Nat} {c : Code} {args : List SV} (hf : P.funcs[f]? = some fn) (hb : fn.body = some c) (hn : Nat.ble args.length fn.ntmps = true)
    (h : ∀ ρ w, SI (P := P) none [] (bodyPostM (Fw none) 0 P fn (FnPost w ρ H0 R)) w (Own ρ H0) H0 ρ fn.ntmps [] [.code c] (argT 0 args) H0) : Gives P f args H0 R := fun ρ w hS hok =>
  si_intro (K := []) hf hb (Nat.le_of_ble_eq_true hn) hok hS (fun _ hx => ⟨rfl, hx⟩) (fun _ hp => by simp at hp) (h ρ w)
/-- The end, in front of a loop. -/
theorem si_fn_ret {nt : Nat} (h : SS hX (At ρ0 w0) R ⟨[], [], fn, nt, H0, [], T, H⟩) : SI (P := P) none [] (bodyPostM (Fw none) 0 P fn (FnPost w0 ρ0 H0 R)) w0 (Own ρ0 H0) H0 ρ0 nt [] (.code .ret :: k) T H := si_ret fun ρ a W hs => by
  have hp : bodyPost P fn (FnPost w0 ρ0 H0 R) .normal a W := sw_ss hX h ρ a W ⟨hs.hs, hs.ts, hs.base⟩
  obtain ⟨h1, v, h2, h3⟩ := hp
  simp only [bodyPostM, lift, h1, List.append_nil, LeavesInM, LeavesIn]
  exact ⟨v, h2, h3⟩
/-- The end, behind a loop. -/
theorem si_mark_ret {nt b : Nat} (hb : w0.heap.size ≤ b) (h : SS hX (At ρ0 w0) R ⟨[], [], fn, nt, H0, [], T, H⟩) : SI (P := P) none [markD b] (bodyPostM (Fw none) 0 P fn (FnPost w0 ρ0 H0 R)) w0 (Own ρ0 H0) H0 ρ0 nt [(b, .deferred (some []))] (.code .ret :: k) T H := si_ret fun ρ a W hs => by
  obtain ⟨k1, _⟩ := hs.kept (b, .deferred (some [])) (by simp)
  have hs2 := hs.putL (o' := .deferred none) (.inl hb) (by simp)
  have hp : bodyPost P fn (FnPost w0 ρ0 H0 R) .normal a (W.putObj b (.deferred none)) := sw_ss hX h ρ a _ ⟨hs2.hs, hs2.ts, hs2.base⟩
  obtain ⟨h1, v, h2, h3⟩ := hp
  simp only [bodyPostM, lift, h1, List.nil_append, LeavesInM, LeavesIn]
  exact ⟨by simp, .inl ⟨b, _, rfl, run_takeDeferred k1, v, h2, h3⟩⟩
/-- .. at the code's end. -/
theorem si_mark_end {nt b : Nat} (hb : w0.heap.size ≤ b) (h : SS hX (At ρ0 w0) R ⟨[], [], fn, nt, H0, [], T, H⟩) : SI (P := P) none [markD b] (bodyPostM (Fw none) 0 P fn (FnPost w0 ρ0 H0 R)) w0 (Own ρ0 H0) H0 ρ0 nt [(b, .deferred (some []))] [] T H := SI.of fun ρ a W hs => by
  obtain ⟨k1, _⟩ := hs.kept (b, .deferred (some [])) (by simp)
  have hs2 := hs.putL (o' := .deferred none) (.inl hb) (by simp)
  have hp : bodyPost P fn (FnPost w0 ρ0 H0 R) .normal a (W.putObj b (.deferred none)) := sw_ss hX h ρ a _ ⟨hs2.hs, hs2.ts, hs2.base⟩
  obtain ⟨h1, v, h2, h3⟩ := hp
  simp only [WKi, bodyPostM, lift, h1, List.nil_append, LeavesInM, LeavesIn]
  exact ⟨by simp, .inl ⟨b, _, rfl, run_takeDeferred k1, v, h2, h3⟩⟩
end
end Go.Hx

/-
  A statement list with labels, where nothing is gone to; the walker's way through regions in any frame.
-/
namespace Go.Hx
open Go

section
variable {P : Program} {F : Fence} {n : Nat} {b : Frame} {a : Act} {k : List Item} {cs : List Frame} {w : World} {Q : Exit → Act → World → Prop}
theorem stepR_scope {c : Code} : step P (lone (b.atR a (.code (.scope c) :: k)) cs w) = .next (lone (b.atR a (.code c :: .inScope c :: k)) cs w) :=
  step_lone_go (by simp [stepG, stepG.exec, Frame.atR])
theorem stepR_inScope {c : Code} : step P (lone (b.atR a (.inScope c :: k)) cs w) = .next (lone (b.atR a k) cs w) :=
  step_lone_go (by simp [stepG, stepG.exec, Frame.atR])
theorem wpIn_scope {c : Code} (hQ : ∀ l a w, ¬ Q (.goto l) a w) (h : c.wpIn F n P Q a w) : (Code.scope c).wpIn F n P Q a w := by
  intro b k cs hro hb hr
  have h0 : (lone (b.atR a (.code (.scope c) :: k)) cs w).fenced P F := fenced_calm hb hr rfl
  obtain ⟨e, a₁, w₁, hq, harr⟩ := h b (.inScope c :: k) cs hro hb hr
  cases e with
  | normal => exact ⟨.normal, a₁, w₁, hq, .head h0 stepR_scope (StepsIn.trans harr (.one (fenced_calm hb hr rfl) stepR_inScope))⟩
  | exit id =>
    have hx : exitTo id (.inScope c :: k) = exitTo id k := by simp [exitTo]
    exact ⟨_, a₁, w₁, hq, fun k' hk => .head h0 stepR_scope (harr.1 k' (by rw [hx]; exact hk)),
      fun hr' hk => let ⟨k₁, h1, h2⟩ := harr.2 hr' (by rw [hx]; exact hk); ⟨k₁, h1, .head h0 stepR_scope h2⟩⟩
  | goto l => exact (hQ _ _ _ hq).elim
  | ret => exact ⟨_, a₁, w₁, hq, .of_steps (.one h0 stepR_scope) harr⟩
  | panic ch => exact ⟨_, a₁, w₁, hq, .of_steps (.one h0 stepR_scope) harr⟩
  | outgrown => exact ⟨_, a₁, w₁, hq, .of_steps (.one h0 stepR_scope) harr⟩
end
section
variable {P : Program} {X : Tabs} (hX : TOk P X) {rd : Option Nat} {D : List Deferred} {Q : Exit → Act → World → Prop} {w0 : World} {bs : Nat → Prop} {H0 : List HE} {ρ0 : Nat → Nat × Nat} {fn : Func} {nt : Nat} {K : List (Nat × Obj)} {k : List KI} {T T1 : List (Nat × SV)} {H H1 : List HE}
theorem wki_goto {l : Nat} {a : Act} {w : World} : ∀ {k : List KI}, WKi rd P Q k (.goto l) a w → Q (.goto l) a w
  | [], h => h
  | .code _ :: k, h => wki_goto (k := k) h
  | .blk _ :: k, h => wki_goto (k := k) h
  | .lp _ :: k, h => wki_goto (k := k) h
  | .ops _ _ :: k, h => wki_goto (k := k) h
  | .again _ _ :: k, h => wki_goto (k := k) h
theorem si_scope {c : Code} (hQ : ∀ l a w, ¬ Q (.goto l) a w) (h : (SI (P := P) rd D Q w0 bs H0 ρ0 nt K) (.code c :: k) T H) : (SI (P := P) rd D Q w0 bs H0 ρ0 nt K) (.code (.scope c) :: k) T H := SI.of fun ρ a W hs => by
  have := h.at hs
  simp only [WKi] at this ⊢
  refine wpIn_scope (fun l a w hg => hQ l a w (wki_goto (P := P) (rd := rd) (k := k) hg)) (wpIn_mono this fun e a w hq => ?_)
  cases e <;> exact hq
theorem si_label {l : Nat} (h : (SI (P := P) rd D Q w0 bs H0 ρ0 nt K) k T H) : (SI (P := P) rd D Q w0 bs H0 ρ0 nt K) (.code (.label l) :: k) T H := SI.of fun ρ a W hs => by
  simp only [WKi]; exact wpIn_label (h.at hs)
theorem si_cond {t : Nat} {b : Bool} {x y : Code} (hl : look T t = some (.bool b)) (ht : b = true → (SI (P := P) rd D Q w0 bs H0 ρ0 nt K) (.code x :: k) T H) (hf : b = false → (SI (P := P) rd D Q w0 bs H0 ρ0 nt K) (.code y :: k) T H) : (SI (P := P) rd D Q w0 bs H0 ρ0 nt K) (.code (.cond (.tmp t) x y) :: k) T H := SI.of fun ρ a W hs => by
  have he : (lift D a).eval (.tmp t) = .bool b := look_eval hs.ts hl
  cases b with
  | true =>
    have := (ht rfl).at hs
    simp only [WKi] at *
    exact wpIn_cond_true he this
  | false =>
    have := (hf rfl).at hs
    simp only [WKi] at *
    exact wpIn_cond_false he this
include hX in
/-- The same, told otherwise: under other names, less. -/
theorem si_told (σs : List Nat) (hlen : Nat.beq σs.length H1.length = true) (hnd : nodupN σs = true) (hb : fromN H0.length 0 σs = true) (hb' : leH H0 H1 = true)
    (hT : subT (sig σs 0) T T1) (hH : subH (sig σs 0) H 0 H1) (hok1 : okTP (thereF H1) T1) (hok2 : okHP (thereF H1) H1) (h : (SI (P := P) rd D Q w0 bs H0 ρ0 nt K) k T1 H1) : (SI (P := P) rd D Q w0 bs H0 ρ0 nt K) k T H := si_sub (fun ρ x => ρ (sig σs 0 x)) (fun ρ a W hs => by
  have q := subS_of (E := ⟨P, X.TE, nt, Q, w0, bs, H0, ρ0, hX.te⟩) σs hlen hnd hb hb' hT hH hok1 hok2 ρ a W ⟨hs.hs, hs.ts, hs.base⟩
  refine ⟨q.hs, q.ts, q.base, fun p hp => ?_⟩
  obtain ⟨k1, k2⟩ := hs.kept p hp
  refine ⟨k1, fun x o hx => ?_⟩
  obtain ⟨u, hu, _⟩ := (subH_get hH (h := x)).1 hx
  rw [Nat.zero_add] at hu
  exact k2 _ u hu) h
/-- A region's operations in two parts. -/
theorem si_split {all l : List Oper} (n : Nat) (h : (SI (P := P) rd D Q w0 bs H0 ρ0 nt K) (.ops all (l.take n ++ l.drop n) :: k) T H) : (SI (P := P) rd D Q w0 bs H0 ρ0 nt K) (.ops all l :: k) T H := by rwa [List.take_append_drop] at h
theorem newOwn_same : ∀ H : List HE, newOwn H H = true
  | [] => rfl
  | .obj _ :: r => newOwn_same r
  | .opq :: r => newOwn_same r
  | .absent :: r => newOwn_same r
theorem noGoto_fn {fn : Func} {R : Ending → World → Prop} {F : Fence} {n : Nat} : ∀ l a w, ¬ bodyPostM F n P fn R (.goto l) a w := fun _ _ _ h => h
end
section
variable {P : Program} {X : Tabs} (hX : TOk P X) {fn : Func} {cs : List Ch} {nt : Nat} {T : List (Nat × SV)} {H H0 : List HE} {Wb : (Nat → Nat × Nat) → World → Prop}
/-- The end behind a loop: what is told. -/
theorem ss_end0 {V : SV} {L : List HE} {ob : List Prop} {vs : List SV} (σs : List Nat) (hr : resF X.TE fn.results.toList T H = some (ob, vs)) (ho : conjP ob)
    (hlen : Nat.beq σs.length L.length = true) (hnd : nodupN σs = true) (hb : fromN H0.length 0 σs = true) (hb' : leH H0 L = true)
    (hv : sim (tupF vs) (V.ren (sig σs 0))) (hH : subH (sig σs 0) H 0 L) (hok1 : okP (thereF L) V) (hok2 : okHP (thereF L) L) : SS hX Wb (Is V L) ⟨cs, [], fn, nt, H0, [], T, H⟩ := by
  intro ρ0 w0 hw
  have hsub := subS_of (E := FEnv P X.TE hX.te fn nt H0 (Is V L) ρ0 w0) (T := T) (T' := []) (H := H) (H' := L) σs hlen hnd hb hb' trivial hH trivial hok2
  intro ρ a w hsat
  have post : bodyPost P fn (FnPost w0 ρ0 H0 (Is V L)) .ret a w := by
    obtain ⟨h1, h2⟩ := results_ok hsat hr (conjP_all ho)
    have hs := hsub ρ a w hsat
    have hfun : thereF L = there L := funext (thereF_eq L)
    refine ⟨hsat.ts.def0, _, h1, _, L, V, ⟨rfl, rfl⟩, ?_, by rw [← hfun]; exact okP_okh V hok1, hs.hs, hs.base⟩
    rw [(sim_tr (A := fun _ => true) hv).1, tr_ren]
  exact post
end
end Go.Hx

