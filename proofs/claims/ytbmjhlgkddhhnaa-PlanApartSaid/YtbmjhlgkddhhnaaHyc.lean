/- The heap machine, part 3: values over handles, and how a program of this language goes over them; for every program. -/
import Derived.Test.YtbmjhlgkddhhnaaHyb
/-
  The machine with frames: the run is sound; how it is used.
-/
namespace Go.Hx
open Go

section
variable {P : Program} {X : Tabs} (hX : TOk P X)

theorem bind_back {al : List Oper} (hreg : regOk al = true) {j : Nat} {o : Oper} (ho : al[j]? = some o) {i : Nat} (hi : bindsOn o i = true) : i < j := by
  simp only [regOk, Bool.and_eq_true, List.all_eq_true] at hreg
  have hlt : j < al.length := by
    rcases Nat.lt_or_ge j al.length with h1 | h1
    · exact h1
    · rw [List.getElem?_eq_none h1] at ho; simp at ho
  have := hreg.2 j (List.mem_range.2 hlt)
  rw [ho] at this
  simp only [Bool.and_eq_true, List.all_eq_true] at this
  simp only [bindsOn, List.any_eq_true, Bool.and_eq_true] at hi
  obtain ⟨e, he1, he2, he3⟩ := hi
  have h4 := this.1.1 e he1
  rw [he2] at h4
  have := Nat.eq_of_beq_eq_true he3
  simp at h4
  have h5 : e.on < j := blt_lt (by simpa using h4)
  omega

theorem scanR_ge {al : List Oper} (hreg : regOk al = true) {e : Nat} : ∀ (l : List Oper) (i : Nat) (S : List Nat), (∀ (j : Nat) (o : Oper), l[j]? = some o → al[i + j]? = some o) → (∀ x ∈ S, e ≤ x) → ∀ x ∈ scanR l i S, e ≤ x
  | [], _, _, _, hS => hS
  | o :: r, i, S, hl, hS => by
    have hl' : ∀ j p, r[j]? = some p → al[i + 1 + j]? = some p := fun j p hp => by
      have := hl (j + 1) p (by simpa using hp)
      rw [show i + 1 + j = i + (j + 1) from by omega]; exact this
    have ho : al[i]? = some o := by simpa using hl 0 o (by simp)
    unfold scanR
    split
    · rename_i ha
      refine scanR_ge hreg r (i + 1) (i :: S) hl' ?_
      intro x hx
      simp only [List.mem_cons] at hx
      rcases hx with rfl | hx
      · simp only [anyB, List.any_eq_true, Bool.and_eq_true] at ha
        obtain ⟨ed, h1, h2, h3⟩ := ha
        have q1 := hS ed.on (memN_iff.1 h3)
        have q2 := bind_back hreg ho (i := ed.on) (by
          simp only [bindsOn, List.any_eq_true, Bool.and_eq_true]
          exact ⟨ed, h1, h2, Nat.beq_refl _⟩)
        omega
      · exact hS x hx
    · exact scanR_ge hreg r (i + 1) S hl' hS
theorem reachB_le {al : List Oper} (hreg : regOk al = true) {e f : Nat} (h : reachB al e f = true) : e ≤ f := by
  simp only [reachB, Bool.or_eq_true] at h
  rcases h with h | h
  · rw [Nat.eq_of_beq_eq_true h]; omega
  · exact scanR_ge hreg al 0 [e] (fun j o hj => by simpa using hj) (fun x hx => by simp at hx; omega) f (memN_iff.1 h)

theorem ldChk_all {al : List Oper} {j h : Nat} : ∀ {es : List (Nat × List HE)} {H : List HE} {acc : List Prop}, AllP (ldChk al j h H es acc) → AllP acc ∧
    ∀ (q e : Nat) (Hq L : List HE), (fstE es)[q]? = some e → (H :: es.map (·.2))[q]? = some Hq → (H :: es.map (·.2))[q + 1]? = some L → reachB al e j = false → reachB al j e = false → getH Hq h = getH L h
  | [], H, acc, ha => ⟨ha, fun q e Hq L hq => by simp [fstE] at hq⟩
  | (e, H') :: r, H, acc, ha => by
    simp only [ldChk] at ha
    have step : ∀ {acc'}, AllP (ldChk al j h H' r acc') → (AllP acc' → AllP acc ∧ (reachB al e j = false → reachB al j e = false → getH H h = getH H' h)) → AllP acc ∧
        ∀ (q e' : Nat) (Hq L : List HE), (fstE ((e, H') :: r))[q]? = some e' → (H :: ((e, H') :: r).map (·.2))[q]? = some Hq → (H :: ((e, H') :: r).map (·.2))[q + 1]? = some L → reachB al e' j = false → reachB al j e' = false → getH Hq h = getH L h := by
      intro acc' h1 h2
      obtain ⟨k1, k2⟩ := ldChk_all h1
      obtain ⟨k3, k4⟩ := h2 k1
      refine ⟨k3, fun q e' Hq L hq hHq hL r1 r2 => ?_⟩
      cases q with
      | zero =>
        simp [fstE] at hq hHq hL; subst hq; subst hHq; subst hL
        exact k4 r1 r2
      | succ q => exact k2 q e' Hq L (by simpa [fstE] using hq) (by simpa using hHq) (by simpa using hL) r1 r2
    split at ha
    · rename_i hr
      exact step ha fun h1 => ⟨h1, fun r1 => by rw [hr] at r1; simp at r1⟩
    · split at ha
      · rename_i hr
        exact step ha fun h1 => ⟨h1, fun _ r1 => by rw [hr] at r1; simp at r1⟩
      · exact step ha fun h1 => ⟨fun p hp => h1 p (by simp [hp]), fun _ _ => h1 _ (by simp)⟩

theorem ldAll_all {al : List Oper} {H : List HE} {es : List (Nat × List HE)} : ∀ {lds : List (Nat × Nat)} {acc : List Prop}, AllP (ldAll al H es lds acc) → AllP acc ∧ ∀ j h, (j, h) ∈ lds → ∃ acc', AllP (ldChk al j h H es acc')
  | [], acc, ha => ⟨ha, fun j h hm => by simp at hm⟩
  | (j, h) :: r, acc, ha => by
    simp only [ldAll] at ha
    obtain ⟨h1, h2⟩ := ldAll_all ha
    refine ⟨(ldChk_all h1).1, fun j' h' hm => ?_⟩
    simp only [List.mem_cons, Prod.mk.injEq] at hm
    rcases hm with ⟨rfl, rfl⟩ | hm
    · exact ⟨_, h1⟩
    · exact h2 j' h' hm

theorem meets_spec {al : List Oper} {j : Nat} {o : Oper} : ∀ {l : List Nat} {c : Nat}, meets al j o l c = true → ∀ (q e : Nat), l[q]? = some e → (q < c → reachB al j e = false) ∧ (c ≤ q → reachB al e j = false)
  | [], _, _, q, e, hq => by simp at hq
  | x :: r, 0, h, q, e, hq => by
    simp only [meets, Bool.and_eq_true, Bool.not_eq_true'] at h
    refine ⟨fun h0 => by omega, fun _ => ?_⟩
    cases q with
    | zero => simp at hq; subst hq; exact h.1.2
    | succ q => exact (meets_spec h.2 q e (by simpa using hq)).2 (by omega)
  | x :: r, c + 1, h, q, e, hq => by
    simp only [meets, Bool.and_eq_true, Bool.not_eq_true'] at h
    cases q with
    | zero => simp at hq; subst hq; exact ⟨fun _ => h.1.2, fun h0 => by omega⟩
    | succ q =>
      obtain ⟨k1, k2⟩ := meets_spec h.2 q e (by simpa using hq)
      exact ⟨fun h0 => k1 (by omega), fun h0 => k2 (by omega)⟩

theorem lastE_get : ∀ (es : List (Nat × List HE)) (H : List HE), (H :: es.map (·.2))[(fstE es).length]? = some (lastE H es)
  | [], H => by simp [fstE, lastE]
  | (e, H') :: r, H => by
    have := lastE_get r H'
    simpa [fstE, lastE] using this

theorem drawX_any {rec : St → List Prop × St} (hrec : RecOk hX rec) : DrawAny hX (drawX X rec) := by
  intro fn nt H0 R ρ0 w0 cs cs' al T T' H H' ob k h ho hk
  unfold drawX at h
  split at h
  · rename_i cs1 ob1 Tn es lds hrun
    split at h
    · rename_i hreg heff
      split at h
      case h_2 => simp at h
      rename_i obF HF hfp hfh
      have hfp' := forceP_eq hfp
      have hfh' := forceHs_eq hfh
      subst hfp'
      subst hfh'
      simp at h; obtain ⟨rfl, rfl, rfl, rfl⟩ := h
      obtain ⟨ho1, hld⟩ := ldAll_all ho
      have hdst : dstsOk al = true := by simp only [regOk, Bool.and_eq_true] at hreg; exact hreg.1
      obtain ⟨_, hF⟩ := drawRun_facts hX hrec hrun hdst ho1
      -- what is looked at stands ahead
      have huse : ∀ {j : Nat} {o : Oper}, al[j]? = some o → ∀ t, (t ∈ usesT o.op.operands.toList ∨ t ∈ guardT al o.guard) → ∀ o' ∈ al.drop j, o'.dst ≠ some t := by
        intro j o hj t ht o' ho' hd
        obtain ⟨m, hm⟩ := List.getElem?_of_mem ho'
        rw [List.getElem?_drop] at hm
        have hlt : j < al.length := by
          rcases Nat.lt_or_ge j al.length with h1 | h1
          · exact h1
          · rw [List.getElem?_eq_none h1] at hj; simp at hj
        have hr := hreg
        simp only [regOk, Bool.and_eq_true, List.all_eq_true] at hr
        have := hr.2 j (List.mem_range.2 hlt)
        rw [hj] at this
        simp only [Bool.and_eq_true] at this
        have hb : bindsOn o (j + m) = true := by
          rcases ht with ht | ht
          · exact usesOk_get this.1.2 ht hm hd
          · exact usesOk_get this.2 ht hm hd
        have := bind_back hreg hj hb
        omega
      refine draw_any (E := FEnv P X.TE hX.te fn nt H0 R ρ0 w0) (hps := H :: es.map (·.2)) (effs := fstE es) (Hl := lastE H es) hreg heff (by simp [fstE_map, Nat.beq_refl]) (by simp) (lastE_get es H) ?_ ?_ ?_ hk
      · intro t v hv hd
        rw [← hF.agree t (fun o ho => ?_)]
        · exact hv
        · obtain ⟨i, hi⟩ := List.getElem?_of_mem ho
          exact hd i o hi
      · intro c Hc hc j o hj hmem hmeets
        obtain ⟨Tj, Hj, c0, h1, h2, h3, h4, h5⟩ := hF.quiet j o hj (by simpa using hmem)
        rw [Nat.zero_add] at h5
        have hg : guardF al Tn o.guard = guardF al Tj o.guard := guardF_congr fun t ht => h3 t (huse hj t (.inr ht))
        have hsp := meets_spec hmeets
        refine dstep_qE (X := X) rfl hX.et hreg hj ?_
        rcases h4 with ⟨g1, g2⟩ | ⟨g1, b, v, g2, g3, g4⟩
        · exact .inl ⟨by rw [hg]; exact g1, g2⟩
        · refine .inr ⟨by rw [hg]; exact g1, b, v, ?_, g3, g4⟩
          have hcg : ∀ H, stepE X Tn H o.op = stepE X Tj H o.op := fun H => stepE_congr fun t ht => h3 t (huse hj t (.inl ht))
          rw [hcg]
          refine stepE_heap g2 fun x hx => ?_
          obtain ⟨acc, hacc⟩ := hld j x (h5 g1 x hx)
          have hch := (ldChk_all hacc).2
          have hlen : (fstE es).length = es.length := by rw [fstE_map]; simp
          have get : ∀ q, q ≤ es.length → ∃ Hq, (H :: es.map (·.2))[q]? = some Hq := by
            intro q hq
            have : q < (H :: es.map (·.2)).length := by simp; omega
            exact ⟨_, List.getElem?_eq_getElem this⟩
          have lt_of : ∀ {q : Nat} {Hq : List HE}, (H :: es.map (·.2))[q]? = some Hq → q ≤ es.length := by
            intro q Hq hq
            rcases Nat.lt_or_ge q (H :: es.map (·.2)).length with h1 | h1
            · simp at h1; omega
            · rw [List.getElem?_eq_none h1] at hq; simp at hq
          have step : ∀ q, q < es.length → (q < c → q < c0 → False) → (c0 ≤ q → c ≤ q → False) → ∀ Hq L, (H :: es.map (·.2))[q]? = some Hq → (H :: es.map (·.2))[q + 1]? = some L → getH Hq x = getH L x := by
            intro q hq n1 n2 Hq L hHq hL
            have hqe : q < (fstE es).length := by omega
            have he := List.getElem?_eq_getElem hqe
            have hiff := h2 q _ he
            rw [Nat.zero_add] at hiff
            have hne : (fstE es)[q] ≠ j := by
              intro e
              exact hmem (by rw [← e]; exact List.getElem_mem hqe)
            obtain ⟨m1, m2⟩ := hsp q _ he
            refine hch q _ Hq L he hHq hL ?_ ?_
            · by_cases hqc : c ≤ q
              · exact m2 hqc
              · -- q < c: then c0 ≤ q
                have h0 : ¬ q < c0 := fun h => n1 (by omega) h
                cases hb : reachB al (fstE es)[q] j with
                | false => rfl
                | true =>
                  have := reachB_le hreg hb
                  exact absurd (hiff.2 (by omega)) h0
            · by_cases hqc : q < c
              · exact m1 hqc
              · have h0 : q < c0 := by
                  rcases Nat.lt_or_ge q c0 with h | h
                  · exact h
                  · exact (n2 h (by omega)).elim
                cases hb : reachB al j (fstE es)[q] with
                | false => rfl
                | true =>
                  have := reachB_le hreg hb
                  have := hiff.1 h0
                  omega
          have chain : ∀ n a, (a + n ≤ es.length) → (∀ q, a ≤ q → q < a + n → (q < c → q < c0 → False) ∧ (c0 ≤ q → c ≤ q → False)) → ∀ Ha Hb, (H :: es.map (·.2))[a]? = some Ha → (H :: es.map (·.2))[a + n]? = some Hb → getH Ha x = getH Hb x := by
            intro n
            induction n with
            | zero => intro a _ _ Ha Hb ha hb; rw [Nat.add_zero, ha] at hb; simp at hb; rw [hb]
            | succ n ih =>
              intro a hle hq Ha Hb ha hb
              obtain ⟨Hm, hm⟩ := get (a + n) (by omega)
              rw [ih a (by omega) (fun q h1 h2 => hq q h1 (by omega)) Ha Hm ha hm]
              obtain ⟨n1, n2⟩ := hq (a + n) (by omega) (by omega)
              exact step (a + n) (by omega) n1 n2 Hm Hb hm hb
          have hl1 := lt_of h1
          have hl2 := lt_of hc
          rcases Nat.le_total c c0 with hle | hle
          · exact (chain (c0 - c) c (by omega) (fun q a1 a2 => ⟨fun b1 _ => by omega, fun b1 _ => by omega⟩) Hc Hj hc (by rw [show c + (c0 - c) = c0 from by omega]; exact h1)).symm
          · exact chain (c - c0) c0 (by omega) (fun q a1 a2 => ⟨fun _ b1 => by omega, fun _ b1 => by omega⟩) Hj Hc h1 (by rw [show c0 + (c - c0) = c from by omega]; exact hc)
      · intro c Hc Hc' hc hc' j o hj ho'
        have hje : ∃ L, es[c]? = some (j, L) := by
          rw [fstE_map] at hj
          simp at hj
          exact hj
        obtain ⟨L, hL⟩ := hje
        obtain ⟨j', o2, Tj, Hq, e1, e2, e3, e4, e5, e6⟩ := hF.eff c j L hL
        rw [Nat.zero_add] at e1; subst e1
        rw [ho'] at e2; simp at e2; subst e2
        rw [hc] at e3; simp at e3; subst e3
        have hLc : Hc' = L := by
          have : (H :: es.map (·.2))[c + 1]? = some L := by simp [hL]
          rw [hc'] at this; simpa using this
        subst hLc
        have hg : guardF al Tn o.guard = guardF al Tj o.guard := guardF_congr fun t ht => e4 t (huse ho' t (.inr ht))
        rcases e6 with ⟨e, b, T2, s1, s2, s3, s4⟩ | ⟨cc, f, as, V, s1, s2, ⟨fn', s3, s4, s5⟩, s6, s7⟩
        · have hcg : stepE X Tn Hc o.op = stepE X Tj Hc o.op := stepE_congr fun t ht => e4 t (huse ho' t (.inl ht))
          exact dstep_effE (X := X) rfl hX.et hreg ho' (by rw [hg]; exact e5) (by rw [hcg]; exact s1) s2 s3 s4
        · have hcc : calleeF Tn cc = calleeF Tj cc := callee_congr fun t ht => e4 t (huse ho' t (.inl (by rw [s1]; exact ht)))
          exact dstep_call hreg ho' (by rw [hg]; exact e5) s1 (by rw [hcc]; exact s2) s3 s4 s5 s6 s7
    · simp at h
  · simp at h

theorem drawX_ok {rec : St → List Prop × St} (hrec : RecOk hX rec) : DrawOk hX (drawX X rec) := by
  intro fn nt H0 R ρ0 w0 cs cs' al id T T' H H' ob k h ho hk ρ a w hs
  simp only [WK]
  exact wp_region_any hX.mo (drawX_any hX hrec fn nt H0 R ρ0 w0 cs cs' al T T' H H' ob k h ho hk ρ a w hs)

theorem splitL_eq : ∀ {al ini : List Oper} {last : Oper}, splitL al = some (ini, last) → al = ini ++ [last]
  | [], _, _, h => by simp [splitL] at h
  | [o], _, _, h => by simp [splitL] at h; obtain ⟨rfl, rfl⟩ := h; rfl
  | o :: p :: r, ini, last, h => by
    simp only [splitL] at h
    split at h
    · rename_i i l hr
      simp at h; obtain ⟨rfl, rfl⟩ := h
      have := splitL_eq (al := p :: r) hr
      rw [this]; rfl
    · simp at h

theorem lastB_ok {al : List Oper} {last : Oper} (hr : regOk al = true) (h : lastB al last = true) : LastOk al last ∧ ∀ i, bindsOn last i = true → i < al.length := by
  simp only [lastB, Bool.and_eq_true, List.all_eq_true, List.mem_range] at h
  obtain ⟨⟨h1, h2⟩, h3⟩ := h
  refine ⟨⟨fun j o ho i hi => bind_back hr ho hi, h1, fun j o ho i b hg => ?_⟩, fun i hi => ?_⟩
  · have := h3 o (List.mem_of_getElem? ho)
    rw [hg] at this
    exact blt_lt this
  · simp only [bindsOn, List.any_eq_true, Bool.and_eq_true] at hi
    obtain ⟨e, he1, he2, he3⟩ := hi
    have := h2 e he1
    rw [he2] at this
    have h4 := Nat.eq_of_beq_eq_true he3
    subst h4
    exact blt_lt (by simpa using this)

theorem drawY_ok {rec : St → List Prop × St} (hrec : RecOk hX rec) : DrawOk hX (drawY X rec) := by
  intro fn nt H0 R ρ0 w0 cs cs' al id T T' H H' ob k h ho hk
  unfold drawY at h
  split at h
  · exact drawX_ok hX hrec fn nt H0 R ρ0 w0 cs cs' al id T T' H H' ob k h ho hk
  · split at h
    · simp at h
    · rename_i ini last hsp
      split at h
      · simp at h
      · rename_i hlo
        simp only [Bool.and_eq_true] at hlo
        split at h
        · simp at h
        · rename_i cs1 ob1 Tn H1 hd
          split at h
          · simp at h
          · rename_i hg
            split at h
            · simp at h
            · rename_i e he
              split at h
              · simp at h
              · rename_i b T2 H2 ha
                simp at h; obtain ⟨rfl, rfl, rfl, rfl⟩ := h
                obtain ⟨ho1, ho2⟩ := addOP_all ho
                obtain ⟨hL, hlast⟩ := lastB_ok hlo.1 hlo.2
                have hal := splitL_eq hsp
                subst hal
                have hk' : SW (FEnv P X.TE hX.te fn nt H0 R ρ0 w0) (.ops (ini ++ [last]) [last] :: k) Tn H1 :=
                  sw_op (fun a _ => by unfold Region.wanted; rw [hg]) (fun ρ a w h => stepE_ok rfl hX.et h he) (afterF_eq ha) ho2 (fun ρ a w hs => hk ρ a w hs)
                intro ρ a w hs
                simp only [WK]
                refine wp_region_any hX.mo ?_
                have := drawX_any hX hrec fn nt H0 R ρ0 w0 cs cs1 ini T Tn H H1 ob1 _ hd ho1 hk' ρ a w hs
                have hw := wpAny_last (Q := WK P (FEnv P X.TE hX.te fn nt H0 R ρ0 w0).Q k) hL hlast (fun e he => by cases e <;> first | rfl | exact absurd rfl he) (fun a w hn => by
                  have hn : wpList P (ini ++ [last]).toArray (WK P (FEnv P X.TE hX.te fn nt H0 R ρ0 w0).Q k) [last] a w := hn
                  unfold wpOp
                  have ho : (ini ++ [last]).toArray[ini.length]? = some last := by simp
                  rw [ho]
                  exact hn) _ _ a _ (by simp) this
                have e1 : (ini ++ [last]).toArray.size = ini.toArray.size + 1 := by simp
                have e2 : Array.replicate (ini ++ [last]).toArray.size false = (Array.replicate ini.toArray.size false).push false := by
                  rw [e1, Array.replicate_succ]
                rw [e2, e1]; exact hw

theorem runX_ok : ∀ (n : Nat) (bk : List Bk) (Wb : (Nat → Nat × Nat) → World → Prop) (R0 : SV → List HE → Prop) (s : St) (ob : List Prop), AllP (runX X bk n s ob).1 → SS hX Wb R0 (runX X bk n s ob).2 → SS hX Wb R0 s ∧ AllP ob := by
  intro n
  induction n with
  | zero => intro bk Wb R0 s ob ho hs; exact ⟨hs, ho⟩
  | succ n ih =>
    intro bk Wb R0 s ob ho hs
    have hrec : RecOk hX (fun s => runX X [] n s []) := fun Wb R0 s h1 h2 => (ih [] Wb R0 s [] h1 h2).1
    unfold runX at ho hs
    split at ho
    case h_1 hst => rw [hst] at hs; exact ⟨hs, ho⟩
    rename_i hst
    rw [hst] at hs
    simp only at hs
    split at ho
    · rename_i h1
      rw [h1] at hs
      exact ⟨hs, ho⟩
    · rename_i ob' s' h1
      rw [h1] at hs
      simp only at hs
      split at ho
      · obtain ⟨h2, h3⟩ := ih bk Wb R0 s' _ ho hs
        exact ⟨step1_ok hX (drawY_ok hX hrec) h1 (fun p hp => by simp at hp) h2, h3⟩
      · rename_i hne
        split at ho
        · rename_i ob2 hf
          have hs' : SS hX Wb R0 (runX X bk n s' ob2).2 := by
            split at hs
            · exact absurd rfl hne
            · rw [hf] at hs; exact hs
          have hf' := forceP_eq hf
          subst hf'
          obtain ⟨h2, h3⟩ := ih bk Wb R0 s' _ ho hs'
          obtain ⟨h4, h5⟩ := addLP_all h3
          exact ⟨step1_ok hX (drawY_ok hX hrec) h1 h4 h2, h5⟩
        · rename_i hf
          have hs' : SS hX Wb R0 s := by
            split at hs
            · exact absurd rfl hne
            · rw [hf] at hs; exact hs
          exact ⟨hs', ho⟩

theorem runY_ok (n : Nat) (bk : List Bk) (Wb : (Nat → Nat × Nat) → World → Prop) (R0 : SV → List HE → Prop) (s : St) (ho : AllP (runY X bk n s).1) (hs : SS hX Wb R0 (runY X bk n s).2) : SS hX Wb R0 s := by
  unfold runY at ho hs
  split at ho
  · rename_i h1; rw [h1] at hs; exact hs
  · rename_i ob' s' h1
    rw [h1] at hs
    simp only at hs
    obtain ⟨h2, h3⟩ := runX_ok hX n bk Wb R0 s' _ ho hs
    exact step1_ok hX (drawY_ok hX fun Wb R0 s h1 h2 => (runX_ok hX n [] Wb R0 s [] h1 h2).1) h1 h3 h2

variable {Wb : (Nat → Nat × Nat) → World → Prop} {R : SV → List HE → Prop} {fn : Func} {nt : Nat} {H0 : List HE} {k : List KI} {T : List (Nat × SV)} {H : List HE} {cs : List Ch} {fs : List Fm}

/-- On, as far as it can be told, with these choices. -/
theorem sx (cs : List Ch) (n : Nat) {cs0 : List Ch} {ob : List Prop} {s' : St} (h : runY X [] n ⟨cs, fs, fn, nt, H0, k, T, H⟩ = (ob, s')) (ho : conjP ob) (hs : SS hX Wb R s') : SS hX Wb R ⟨cs0, fs, fn, nt, H0, k, T, H⟩ := by
  have := runY_ok hX n [] Wb R ⟨cs, fs, fn, nt, H0, k, T, H⟩
  rw [h] at this
  exact this (conjP_all ho) hs
/-- The same, to a place at most. -/
theorem sxb (bk : List Bk) (cs : List Ch) (n : Nat) {cs0 : List Ch} {ob : List Prop} {s' : St} (h : runY X bk n ⟨cs, fs, fn, nt, H0, k, T, H⟩ = (ob, s')) (ho : conjP ob) (hs : SS hX Wb R s') : SS hX Wb R ⟨cs0, fs, fn, nt, H0, k, T, H⟩ := by
  have := runY_ok hX n bk Wb R ⟨cs, fs, fn, nt, H0, k, T, H⟩
  rw [h] at this
  exact this (conjP_all ho) hs

/-- Where a function began. -/
def At (ρ0 : Nat → Nat × Nat) (w0 : World) : (Nat → Nat × Nat) → World → Prop := fun ρ w => ρ = ρ0 ∧ w = w0

/-- A function, from its first line. -/
theorem gives_x {f : Nat} {c : Code} {args : List SV} (hf : X.FT f = some fn) (hb : fn.body = some c) (hn : Nat.ble args.length fn.ntmps = true)
    {T0 : List (Nat × SV)} (hT : argTF nums args = some T0) (h : ∀ ρ0 w0, SS hX (At ρ0 w0) R ⟨[], [], fn, fn.ntmps, H, [.code c], T0, H⟩) : Gives P f args H R := by
  rw [argTF_nums hT] at h
  exact fn_intro hX.te (hX.ft f fn hf).1 hb _ rfl hn fun ρ w => h ρ w ρ w ⟨rfl, rfl⟩

theorem ss_sw {ρ0 : Nat → Nat × Nat} {w0 : World} (h : SW (FEnv P X.TE hX.te fn nt H0 R ρ0 w0) k T H) : SS hX (At ρ0 w0) R ⟨cs, [], fn, nt, H0, k, T, H⟩ := by
  rintro ρ w ⟨rfl, rfl⟩; exact h
theorem sw_ss {ρ0 : Nat → Nat × Nat} {w0 : World} (h : SS hX (At ρ0 w0) R ⟨cs, [], fn, nt, H0, k, T, H⟩) : SW (FEnv P X.TE hX.te fn nt H0 R ρ0 w0) k T H := h ρ0 w0 ⟨rfl, rfl⟩

/-- A bool that is not told, both ways. -/
theorem ss_bool (t : Nat) {b : Bool} (hl : look T t = some (.bool b)) (ht : b = true → SS hX Wb R ⟨[], fs, fn, nt, H0, k, (t, .tt) :: T, H⟩) (hf : b = false → SS hX Wb R ⟨[], fs, fn, nt, H0, k, (t, .ff) :: T, H⟩) :
    SS hX Wb R ⟨cs, fs, fn, nt, H0, k, T, H⟩ := fun ρ w hw => sw_bool t hl (fun h => ht h ρ w hw) (fun h => hf h ρ w hw)

/-- A branch upon a bool that is not told. -/
theorem ss_cond {t : Nat} {a c : Code} {b : Bool} (hl : look T t = some (.bool b)) (ht : b = true → SS hX Wb R ⟨[], fs, fn, nt, H0, .code a :: k, (t, .tt) :: T, H⟩) (hf : b = false → SS hX Wb R ⟨[], fs, fn, nt, H0, .code c :: k, (t, .ff) :: T, H⟩) :
    SS hX Wb R ⟨cs, fs, fn, nt, H0, .code (.cond (.tmp t) a c) :: k, T, H⟩ := by
  refine ss_bool hX t hl (fun h => ?_) (fun h => ?_)
  · exact fun ρ w hw ρ1 a1 w1 hs => wp_cond_true (ev_tr hs.ts (x := .tmp t) (v := .tt) (by simp [ev, look_cons])).1 (ht h ρ w hw ρ1 a1 w1 hs)
  · exact fun ρ w hw ρ1 a1 w1 hs => wp_cond_false (ev_tr hs.ts (x := .tmp t) (v := .ff) (by simp [ev, look_cons])).1 (hf h ρ w hw ρ1 a1 w1 hs)

/-- A guard that is not told. -/
theorem ss_guard {all r : List Oper} {o : Oper} {d : Nat} {b : Bool} (hg : guardU all T o.guard = some (d, b)) (ht : b = true → SS hX Wb R ⟨[], fs, fn, nt, H0, .ops all (o :: r) :: k, (d, .tt) :: T, H⟩)
    (hf : b = false → SS hX Wb R ⟨[], fs, fn, nt, H0, .ops all (o :: r) :: k, (d, .ff) :: T, H⟩) : SS hX Wb R ⟨cs, fs, fn, nt, H0, .ops all (o :: r) :: k, T, H⟩ :=
  ss_bool hX d (guardU_look hg) ht hf

/-- Less is known, under other names. -/
theorem ss_sub {ρ0 : Nat → Nat × Nat} {w0 : World} {T' : List (Nat × SV)} {H' : List HE} (σs : List Nat) (hlen : Nat.beq σs.length H'.length = true) (hnd : nodupN σs = true)
    (hb : fromN H0.length 0 σs = true) (hb' : leH H0 H' = true) (hT : subT (sig σs 0) T T') (hH : subH (sig σs 0) H 0 H') (hok1 : okTP (thereF H') T') (hok2 : okHP (thereF H') H')
    (h : SS hX (At ρ0 w0) R ⟨[], [], fn, nt, H0, k, T', H'⟩) : SS hX (At ρ0 w0) R ⟨cs, [], fn, nt, H0, k, T, H⟩ :=
  ss_sw hX (sw_sub (sub_of (E := FEnv P X.TE hX.te fn nt H0 R ρ0 w0) σs hlen hnd hb hb' hT hH hok1 hok2) (sw_ss hX h))

/-- A loop: what is known at its head hangs on x; the round is told by 'back'. -/
theorem ss_loop {ρ0 : Nat → Nat × Nat} {w0 : World} {body : Code} {α : Type} (Tf : α → List (Nat × SV)) (Hf : α → List HE) (Inv : α → Prop) (μ : α → Nat) (x0 : α) (h0 : Inv x0)
    (round : ∀ x, Inv x → ∀ I : Act → World → Prop,
      (∀ x', Inv x' → μ x' < μ x → ∀ cs T H, (Sub (FEnv P X.TE hX.te fn nt H0 R ρ0 w0) T H (Tf x') (Hf x')) → SS hX (At ρ0 w0) R ⟨cs, [], fn, nt, H0, .lp I :: k, T, H⟩) →
      SS hX (At ρ0 w0) R ⟨[], [], fn, nt, H0, .code body :: .lp I :: k, Tf x, Hf x⟩) :
    SS hX (At ρ0 w0) R ⟨cs, [], fn, nt, H0, .code (.loop body) :: k, Tf x0, Hf x0⟩ := by
  refine ss_sw hX (sw_loop (E := FEnv P X.TE hX.te fn nt H0 R ρ0 w0) Tf Hf Inv μ x0 h0 fun x hx => ?_)
  refine sw_ss hX (cs := []) (round x hx _ fun x' h1 h2 cs T H hsub => ss_sw hX (sw_lp x' h1 h2 hsub))

/-- Ways that meet at one place, k'. -/
theorem ss_via {ρ0 : Nat → Nat × Nat} {w0 : World} {k' : List KI} {α : Type} (Tj : α → List (Nat × SV)) (Hj : α → List HE) (Q : α → Prop)
    (first : (∀ x, Q x → ∀ cs T H, (Sub (FEnv P X.TE hX.te fn nt H0 R ρ0 w0) T H (Tj x) (Hj x)) → SS hX (At ρ0 w0) R ⟨cs, [], fn, nt, H0, k', T, H⟩) → SS hX (At ρ0 w0) R ⟨cs, [], fn, nt, H0, k, T, H⟩)
    (rest : ∀ x, Q x → SS hX (At ρ0 w0) R ⟨[], [], fn, nt, H0, k', Tj x, Hj x⟩) : SS hX (At ρ0 w0) R ⟨cs, [], fn, nt, H0, k, T, H⟩ :=
  first fun x hx cs _ _ hsub => ss_sw hX (sw_sub hsub (sw_ss hX (rest x hx)))

/-- Ways that meet: behind c what is known hangs on x. -/
theorem ss_join {ρ0 : Nat → Nat × Nat} {w0 : World} {c : Code} {α : Type} (Tj : α → List (Nat × SV)) (Hj : α → List HE) (Q : α → Prop)
    (rest : ∀ x, Q x → SS hX (At ρ0 w0) R ⟨[], [], fn, nt, H0, k, Tj x, Hj x⟩)
    (first : ∀ J : Act → World → Prop, (∀ x, Q x → ∀ cs T H, (Sub (FEnv P X.TE hX.te fn nt H0 R ρ0 w0) T H (Tj x) (Hj x)) → SS hX (At ρ0 w0) R ⟨cs, [], fn, nt, H0, .lp J :: k, T, H⟩) →
      SS hX (At ρ0 w0) R ⟨[], [], fn, nt, H0, .code c :: .lp J :: k, T, H⟩) :
    SS hX (At ρ0 w0) R ⟨cs, [], fn, nt, H0, .code c :: k, T, H⟩ := by
  let J : Act → World → Prop := fun a w => ∃ x, Q x ∧ ∃ ρ, Sat (FEnv P X.TE hX.te fn nt H0 R ρ0 w0) ρ (Tj x) (Hj x) a w
  have h1 := sw_ss hX (first J fun x hx cs T H hsub => ss_sw hX fun ρ a w hs => by
    obtain ⟨ρ', hs'⟩ := hsub ρ a w hs
    exact ⟨x, hx, ρ', hs'⟩)
  refine ss_sw hX fun ρ a w hs => ?_
  have h2 := h1 ρ a w hs
  simp only [WK] at h2 ⊢
  refine wp_mono h2 fun e a w hq => ?_
  cases e with
  | normal =>
    obtain ⟨x, hx, ρ', hs'⟩ := hq
    exact sw_ss hX (rest x hx) ρ' a w hs'
  | _ => exact hq

/-- The end. -/
theorem ss_ret {ob : List Prop} {vs : List SV} (hk : isRet fn k = true) (hr : resF X.TE fn.results.toList T H = some (ob, vs)) (ho : conjP ob) (hR : R (tupF vs) H) : SS hX Wb R ⟨cs, [], fn, nt, H0, k, T, H⟩ :=
  sfn_ret hX hk hr (conjP_all ho) hR

/-- The end, told otherwise: the same value, the same heap, under other names. -/
theorem ss_end {V : SV} {L : List HE} {ob : List Prop} {vs : List SV} (σs : List Nat) (hk : isRet fn k = true) (hr : resF X.TE fn.results.toList T H = some (ob, vs)) (ho : conjP ob)
    (hlen : Nat.beq σs.length L.length = true) (hnd : nodupN σs = true) (hb : fromN H0.length 0 σs = true) (hb' : leH H0 L = true)
    (hv : sim (tupF vs) (V.ren (sig σs 0))) (hH : subH (sig σs 0) H 0 L) (hok1 : okP (thereF L) V) (hok2 : okHP (thereF L) L) : SS hX Wb (Is V L) ⟨cs, [], fn, nt, H0, k, T, H⟩ := by
  intro ρ0 w0 hw
  have hsub := subS_of (E := FEnv P X.TE hX.te fn nt H0 (Is V L) ρ0 w0) (T := T) (T' := []) (H := H) (H' := L) σs hlen hnd hb hb' trivial hH trivial hok2
  intro ρ a w hsat
  have post : bodyPost P fn (FnPost w0 ρ0 H0 (Is V L)) .ret a w := by
    obtain ⟨h1, h2⟩ := results_ok hsat hr (conjP_all ho)
    have hs := hsub ρ a w hsat
    have hfun : thereF L = there L := funext (thereF_eq L)
    refine ⟨hsat.ts.def0, _, h1, _, L, V, ⟨rfl, rfl⟩, ?_, by rw [← hfun]; exact okP_okh V hok1, hs.hs, hs.base⟩
    rw [(sim_tr (A := fun _ => true) hv).1, tr_ren]
  unfold isRet at hk
  split at hk
  · exact post
  · split at hk
    · exact wp_ret (WK_ret post _)
    · simp at hk
  · simp at hk
end
end Go.Hx

/-
  The table of functions, as a tree.
-/
namespace Go.Hx
open Go

inductive FTr where
  | leaf (f : Option Func)
  | node (l r : FTr)
def FTr.get : FTr → Nat → Option Func
  | .leaf i, 0 => i
  | .leaf _, _ + 1 => none
  | .node l r, t => match t % 2 with
    | 0 => l.get (t / 2)
    | _ => r.get (t / 2)
def FTr.ok (P : Program) : FTr → Nat → Nat → Prop
  | .leaf i, b, _ => match i with
    | some fn => P.funcs[b]? = some fn ∧ (fn.name == "runtime.NumGoroutine") = false ∧ fn.body.isSome = true
    | none => True
  | .node l r, b, s => l.ok P b (2 * s) ∧ r.ok P (b + s) (2 * s)
theorem FTr.ok_get {P : Program} : ∀ {x : FTr} {b s : Nat}, x.ok P b s → ∀ t fn, x.get t = some fn → P.funcs[b + s * t]? = some fn ∧ (fn.name == "runtime.NumGoroutine") = false ∧ fn.body.isSome = true
  | .leaf i, b, s, h, 0, fn, hg => by
    simp only [FTr.get] at hg
    subst hg
    simpa [FTr.ok] using h
  | .leaf i, b, s, h, t + 1, fn, hg => by simp [FTr.get] at hg
  | .node l r, b, s, h, t, fn, hg => by
    simp only [FTr.get] at hg
    obtain ⟨h1, h2⟩ := h
    split at hg
    · rename_i h0
      have := FTr.ok_get h1 (t / 2) fn hg
      have e : b + 2 * s * (t / 2) = b + s * t := by
        have h3 : t = 2 * (t / 2) := by omega
        calc b + 2 * s * (t / 2) = b + s * (2 * (t / 2)) := by rw [Nat.mul_comm 2 s, Nat.mul_assoc]
          _ = b + s * t := by rw [← h3]
      rw [e] at this; exact this
    · rename_i h0
      have := FTr.ok_get h2 (t / 2) fn hg
      have e : b + s + 2 * s * (t / 2) = b + s * t := by
        have h4 : ¬ t % 2 = 0 := h0
        have h3 : t = 2 * (t / 2) + 1 := by omega
        calc b + s + 2 * s * (t / 2) = b + (s * (2 * (t / 2)) + s * 1) := by rw [Nat.mul_comm 2 s, Nat.mul_assoc, Nat.mul_one, Nat.add_assoc, Nat.add_comm s]
          _ = b + s * (2 * (t / 2) + 1) := by rw [← Nat.mul_add]
          _ = b + s * t := by rw [← h3]
      rw [e] at this; exact this
theorem ft_of_ok {P : Program} {x : FTr} (h : x.ok P 0 1) : ∀ f fn, x.get f = some fn → P.funcs[f]? = some fn ∧ (fn.name == "runtime.NumGoroutine") = false ∧ fn.body.isSome = true := by
  intro f fn hg
  have := FTr.ok_get h f fn hg
  rw [Nat.zero_add, Nat.one_mul] at this
  exact this

/-- Tables without what is known of functions. -/
def tabs (x : Tr) (f : FTr) (xt : Nat → Option XK) (et : Nat → Option (List (Option IntKind))) (ct : Nat → Option Spec) (un : Nat) : Tabs := ⟨x.get, f.get, ct, xt, et, un⟩
end Go.Hx

/-
  From the row's words to the heap machine's: arguments of plain data, opened.
-/
namespace Go.Hx
open Go Go.RowKit

/-- Plain values: integers of a kind (some), bools (none), each in its bounds. -/
def okK : List (Option IntKind) → List SV → Prop
  | [], [] => True
  | some k :: ks, v :: l => (∃ n, v = .int k n ∧ (Lit.int k n).wf = true) ∧ okK ks l
  | none :: ks, v :: l => (∃ b, v = .bool b) ∧ okK ks l
  | _, _ => False

theorem okK_append : ∀ {ks ks' : List (Option IntKind)} {l l' : List SV}, okK ks l → okK ks' l' → okK (ks ++ ks') (l ++ l')
  | [], ks', [], l', _, h => h
  | some k :: ks, ks', v :: l, l', h, h' => ⟨h.1, okK_append h.2 h'⟩
  | none :: ks, ks', v :: l, l', h, h' => ⟨h.1, okK_append h.2 h'⟩
  | some _ :: _, _, [], _, h, _ => by simp [okK] at h
  | none :: _, _, [], _, h, _ => by simp [okK] at h
  | [], _, _ :: _, _, h, _ => by simp [okK] at h
theorem okK_length : ∀ {ks : List (Option IntKind)} {l : List SV}, okK ks l → l.length = ks.length
  | [], [], _ => rfl
  | some k :: ks, v :: l, h => by simp [okK_length h.2]
  | none :: ks, v :: l, h => by simp [okK_length h.2]
  | some _ :: _, [], h => by simp [okK] at h
  | none :: _, [], h => by simp [okK] at h
  | [], _ :: _, h => by simp [okK] at h
theorem okK_closed : ∀ {ks : List (Option IntKind)} {l : List SV}, okK ks l → ∀ v ∈ l, SV.okh (fun _ => false) v = true
  | [], [], _ => by simp
  | some k :: ks, v :: l, h => by
    intro u hu
    simp only [List.mem_cons] at hu
    rcases hu with rfl | hu
    · obtain ⟨n, rfl, _⟩ := h.1; rfl
    · exact okK_closed h.2 u hu
  | none :: ks, v :: l, h => by
    intro u hu
    simp only [List.mem_cons] at hu
    rcases hu with rfl | hu
    · obtain ⟨n, rfl⟩ := h.1; rfl
    · exact okK_closed h.2 u hu
  | some _ :: _, [], h => by simp [okK] at h
  | none :: _, [], h => by simp [okK] at h
  | [], _ :: _, h => by simp [okK] at h
theorem okK_trs {ks : List (Option IntKind)} {l : List SV} (h : okK ks l) (ρ ρ' : Nat → Nat × Nat) : SV.trs ρ l = SV.trs ρ' l :=
  trs_congr (A := fun _ => false) (fun x hx => by simp at hx) l ((okhs_iff l).2 (okK_closed h))

/-- What a plain type is made of. -/
def flatK (P : Program) : Nat → TypeId → Option (List (Option IntKind))
  | 0, _ => none
  | n + 1, t => match P.underlying t with
    | some (.int k) => some [some k]
    | some .bool => some [none]
    | some (.struct fs) => fs.toList.foldr (fun f (r : Nat → Option (List (Option IntKind))) off =>
        if f.offset == off then (match flatK P n f.type with
          | some ks => if P.cellsOf f.type == ks.length then (match r (off + ks.length) with | some r' => some (ks ++ r') | none => none) else none
          | none => none) else none) (fun off => if P.cellsOf t == off then some [] else none) 0
    | some (.array m e) => match flatK P n e with
      | some ks => if P.cellsOf e == ks.length && P.cellsOf t == m * ks.length then some ((List.replicate m ks).flatten) else none
      | none => none
    | _ => none

section
variable {H : Type} {enc : TypeId × Value → H} {P : Program} {w : World} {base : Nat} {spare : Nat → Bool} {held : Bool}

theorem take_drop_all {α : Type} (l : List α) (m s : Nat) (h : l.length = m * s) : ∀ n, n ≤ m → ((List.range n).map fun i => (l.drop (i * s)).take s).flatten = l.take (n * s)
  | 0, _ => by simp
  | n + 1, hn => by
    rw [List.range_succ, List.map_append, List.flatten_append, take_drop_all l m s h n (by omega)]
    simp only [List.map_cons, List.map_nil, List.flatten_cons, List.flatten_nil, List.append_nil]
    rw [Nat.succ_mul, List.take_add]

theorem flat_open : ∀ (n : Nat) {t : TypeId} {ks : List (Option IntKind)} {fuel : Nat} {cs : List Value} {x : DataW H × List MemPlace}, flatK P n t = some ks → DataW.trod enc P w base spare held fuel t cs = some x →
    ∃ l, okK ks l ∧ cs = SV.trs (fun _ => (0, 0)) l := by
  intro n
  induction n with
  | zero => intro t ks fuel cs x h; simp [flatK] at h
  | succ n ih =>
    intro t ks fuel cs x h hx
    unfold flatK at h
    split at h
    · rename_i k hu
      simp at h; subst h
      obtain ⟨m, rfl, _, hwf⟩ := DataW.trod_int hu hx
      exact ⟨[.int k m], ⟨⟨m, rfl, hwf⟩, trivial⟩, rfl⟩
    · rename_i hu
      simp at h; subst h
      obtain ⟨b, rfl, _⟩ := DataW.trod_bool hu hx
      exact ⟨[.bool b], ⟨⟨b, rfl⟩, trivial⟩, rfl⟩
    · rename_i fs hu
      obtain ⟨xs, m, _, _, hlen, _, hf⟩ := DataW.trod_struct hu hx
      -- the fields, from an offset on
      have key : ∀ (l : List Field) (off : Nat) (ks : List (Option IntKind)), (∀ f ∈ l, ∃ y, DataW.trod enc P w base spare held m f.type ((cs.drop f.offset).take (P.cellsOf f.type)) = some y) →
          l.foldr (fun f (r : Nat → Option (List (Option IntKind))) off =>
            if f.offset == off then (match flatK P n f.type with
              | some ks => if P.cellsOf f.type == ks.length then (match r (off + ks.length) with | some r' => some (ks ++ r') | none => none) else none
              | none => none) else none) (fun off => if P.cellsOf t == off then some [] else none) off = some ks →
          ∃ v, okK ks v ∧ cs.drop off = SV.trs (fun _ => (0, 0)) v := by
        intro l
        induction l with
        | nil =>
          intro off ks _ hk
          simp only [List.foldr_nil] at hk
          split at hk
          · rename_i he
            simp at hk; subst hk
            have he' : P.cellsOf t = off := by simpa using he
            refine ⟨[], trivial, ?_⟩
            rw [List.drop_eq_nil_of_le (by omega)]; rfl
          · simp at hk
        | cons f l ihl =>
          intro off ks hall hk
          simp only [List.foldr_cons] at hk
          split at hk
          · rename_i ho
            have ho' : f.offset = off := by simpa using ho
            split at hk
            · rename_i kf hkf
              split at hk
              · rename_i hc
                have hc' : P.cellsOf f.type = kf.length := by simpa using hc
                split at hk
                · rename_i r' hr
                  simp at hk; subst hk
                  obtain ⟨y, hy⟩ := hall f (by simp)
                  obtain ⟨v1, h1, e1⟩ := ih hkf hy
                  obtain ⟨v2, h2, e2⟩ := ihl (off + kf.length) r' (fun g hg => hall g (by simp [hg])) hr
                  refine ⟨v1 ++ v2, okK_append h1 h2, ?_⟩
                  rw [ho', hc'] at e1
                  rw [trs_append, ← e1, ← e2, ← List.drop_drop, List.take_append_drop]
                · simp at hk
              · simp at hk
            · simp at hk
          · simp at hk
      obtain ⟨v, h1, h2⟩ := key fs.toList 0 ks (fun f hfm => by
        obtain ⟨i, hi⟩ := List.getElem?_of_mem hfm
        have hi' : fs[i]? = some f := by simpa using hi
        have := hf i f hi'
        have hlt : i < xs.length := by
          have := (Array.getElem?_eq_some_iff.1 hi').1
          omega
        rw [List.getElem?_eq_getElem hlt] at this
        exact ⟨_, this⟩) h
      exact ⟨v, h1, by simpa using h2⟩
    · rename_i m e hu
      split at h
      · rename_i ke hke
        split at h
        · rename_i hc
          simp at h; subst h
          simp only [Bool.and_eq_true, beq_iff_eq] at hc
          obtain ⟨xs, m', _, _, hlen, hxl, hf⟩ := DataW.trod_array hu hx
          have hel : ∀ i, i < m → ∃ v, okK ke v ∧ (cs.drop (i * ke.length)).take ke.length = SV.trs (fun _ => (0, 0)) v := by
            intro i hi
            have := hf i hi
            rw [List.getElem?_eq_getElem (by omega), hc.1] at this
            exact ih hke this
          have key : ∀ j, j ≤ m → ∃ v, okK ((List.replicate j ke).flatten) v ∧ cs.take (j * ke.length) = SV.trs (fun _ => (0, 0)) v := by
            intro j
            induction j with
            | zero => intro _; exact ⟨[], trivial, by simp [SV.trs]⟩
            | succ j ihj =>
              intro hj
              obtain ⟨v1, h1, e1⟩ := ihj (by omega)
              obtain ⟨v2, h2, e2⟩ := hel j (by omega)
              refine ⟨v1 ++ v2, ?_, ?_⟩
              · rw [List.replicate_succ', List.flatten_append]
                simpa using okK_append h1 h2
              · rw [Nat.succ_mul, List.take_add, e1, e2, trs_append]
          obtain ⟨v, h1, h2⟩ := key m (Nat.le_refl m)
          refine ⟨v, h1, ?_⟩
          rw [← h2, List.take_of_length_le (by omega)]
        · simp at h
      · simp at h
    · simp at h
end
end Go.Hx

/-
  A call's arguments, as the row hands them in: integers, bools, plain values, slices of plain values.
-/
namespace Go.Hx
open Go Go.RowKit Go.ChangeShapes Go.WideShapes

section
variable {H : Type} {enc : TypeId × Value → H} {P : Program} {w : World} {t : TypeId} {v : Value} {d : DataW H} {ps : List MemPlace}

theorem tr_plain {ks : List (Option IntKind)} {l : List SV} (h : okK ks l) (ρ ρ' : Nat → Nat × Nat) {c : Nat} {u : SV} (hc : l[c]? = some u) : u.tr ρ = u.tr ρ' := by
  have := okK_closed h u (List.mem_of_getElem? hc)
  exact tr_congr (A := fun _ => false) (fun x hx => by simp at hx) u this

theorem okK_okhs {ks : List (Option IntKind)} {l : List SV} (h : okK ks l) : SV.okhs (fun _ => false) l = true := (okhs_iff l).2 (okK_closed h)

/-- A plain value that is passed as it is. -/
theorem arg_agg {ks : List (Option IntKind)} (n : Nat) (hk : flatK P n t = some ks) (ha : ∃ cs, v = .agg cs) (h : DataW.Trod enc P w 0 (fun _ => true) true t v d ps) :
    ∃ l, okK ks l ∧ v = SV.tr (fun _ => (0, 0)) (.agg l) := by
  obtain ⟨cs, rfl⟩ := ha
  obtain ⟨fuel, hf⟩ := h
  obtain ⟨l, h1, h2⟩ := flat_open n hk hf
  refine ⟨l, h1, ?_⟩
  simp only [SV.tr, ← h2, Value.cells]

theorem arg_array {m : Nat} {e : TypeId} (ht : P.underlying t = some (.array m e)) {r : Reach} {base : Nat} (h : Value.okWide P w r base t v) : ∃ cs, v = .agg cs := by
  simp only [Value.okWide, ht] at h
  obtain ⟨cs, h1, _⟩ := h
  exact ⟨cs, h1⟩
theorem arg_struct {fs : Array Field} (ht : P.underlying t = some (.struct fs)) {r : Reach} {base : Nat} (h : Value.okWide P w r base t v) : ∃ cs, v = .agg cs := by
  simp only [Value.okWide, ht] at h
  obtain ⟨cs, h1, _⟩ := h
  exact ⟨cs, h1⟩

theorem arg_int {k : IntKind} (ht : P.underlying t = some (.int k)) (h : DataW.Trod enc P w 0 (fun _ => true) true t v d ps) {r : Reach} {base : Nat} (ho : Value.okWide P w r base t v) :
    ∃ n, v = .int k n ∧ (Lit.int k n).wf = true := by
  obtain ⟨n, rfl⟩ := okWide_int ht ho
  obtain ⟨fuel, hf⟩ := h
  obtain ⟨m, h1, _, h2⟩ := DataW.trod_int ht hf
  simp [Value.cells] at h1
  subst h1
  exact ⟨n, rfl, h2⟩

theorem add_nil {x : Addr} (hs : x.spot = none) (i : Nat) : x.add i = ⟨x.block, x.off + i, none⟩ := by
  obtain ⟨b, o, s⟩ := x
  simp only at hs; subst hs
  exact add_off b o i
theorem spot_none {x : Addr} {u : Value} (h : w.cell? x = some u) : x.spot = none := by
  unfold World.cell? at h
  split at h
  · split at h
    · simp at h
    · rename_i h2; simpa using h2
  · simp at h

/-- A slice of rows of plain cells. -/
def ArgRows (w : World) (ks : List (Option IntKind)) (a : Option Addr) (len cap : Nat) : Prop :=
  (len = 0 ∧ cap = 0) ∨ ∃ (b o : Nat) (f : Nat → List SV), a = some ⟨b, o, none⟩ ∧ len ≤ cap ∧ 0 < cap ∧ cap ≤ maxLen ∧ b < w.heap.size ∧
    (∀ i, okK ks (f i)) ∧ ∀ i, i < cap → ∀ (ρ : Nat → Nat × Nat) (c : Nat) (u : SV), (f i)[c]? = some u → w.cell? ⟨b, o + (i * ks.length + c), none⟩ = some (u.tr ρ)

theorem arg_rows {e : TypeId} {ks : List (Option IntKind)} {a : Option Addr} {len cap : Nat} (n : Nat) (ht : P.underlying t = some (.slice e)) (hk : flatK P n e = some ks) (hpos : 0 < ks.length) (hc : P.cellsOf e = ks.length)
    (h : DataW.Trod enc P w 0 (fun _ => true) true t (.slice a len cap) d ps) : ArgRows w ks a len cap := by
  obtain ⟨fuel, hf⟩ := h
  rcases Deep.open_slice ht hf with ⟨h1, _⟩ | ⟨x, l, c, m, nn, D, Pl, h1, _, hl, hm, rfl, _, hx⟩
  · simp [Value.cells] at h1
    exact .inl ⟨h1.2.1, h1.2.2⟩
  · simp [Value.cells] at h1
    obtain ⟨rfl, rfl, rfl⟩ := h1
    have hx : ∀ i, i < cap → ∃ cs', w.cells? 0 (x.add (i * P.cellsOf e)) (P.cellsOf e) = some cs' ∧ DataW.trod enc P w 0 (fun _ => true) true nn e cs' = some (D i, Pl i) := hx
    rw [hc] at hx
    by_cases h0 : cap = 0
    · exact .inl ⟨by omega, h0⟩
    refine .inr ?_
    have hx' : ∀ i, i < cap → ∃ l : List SV, okK ks l ∧ ∀ c u, l[c]? = some u → w.cell? ((x.add (i * ks.length)).add c) = some (u.tr (fun _ => (0, 0))) := by
      intro i hi
      obtain ⟨cs', h2, h3⟩ := hx i hi
      obtain ⟨l, h4, h5⟩ := flat_open n hk h3
      refine ⟨l, h4, fun c u hcu => ?_⟩
      obtain ⟨_, h6, h7⟩ := World.cells?_some h2
      have hlt := (List.getElem?_eq_some_iff.1 hcu).1
      rw [okK_length h4] at hlt
      rw [h7 c hlt, h5, trs_eq_map, List.getElem?_map, hcu]
      rfl
    obtain ⟨f, hf2⟩ := Deep.choose_lt (α := List SV) hx'
    have hsp : x.spot = none := by
      obtain ⟨q1, q2⟩ := hf2 0 (by omega)
      have hlen := okK_length q1
      obtain ⟨u, hu⟩ : ∃ u, (f 0)[0]? = some u := ⟨(f 0)[0]'(by omega), List.getElem?_eq_getElem (by omega)⟩
      have := spot_none (q2 0 u hu)
      simpa [Addr.add] using this
    have hcell : ∀ i c, (x.add (i * ks.length)).add c = ⟨x.block, x.off + (i * ks.length + c), none⟩ := by
      intro i c
      rw [Deep.add_add, add_nil hsp]
    refine ⟨x.block, x.off, fun i => f (if i < cap then i else 0), ?_, hl, by omega, hm, ?_, fun i => ?_, fun i hi ρ c u hcu => ?_⟩
    · obtain ⟨b, o, s⟩ := x
      simp only at hsp; subst hsp; rfl
    · obtain ⟨q1, q2⟩ := hf2 0 (by omega)
      have hlen := okK_length q1
      obtain ⟨u, hu⟩ : ∃ u, (f 0)[0]? = some u := ⟨(f 0)[0]'(by omega), List.getElem?_eq_getElem (by omega)⟩
      have := q2 0 u hu
      rw [hcell] at this
      exact block_lt_of_cell (a := ⟨x.block, x.off + (0 * ks.length + 0), none⟩) this
    · exact (hf2 _ (by split <;> omega)).1
    · simp only [if_pos hi] at hcu
      rw [← hcell, (hf2 i hi).2 c u hcu, tr_plain (hf2 i hi).1 ρ (fun _ => (0, 0)) hcu]

/-- A slice of integers. -/
def ArgInts (w : World) (k : IntKind) (a : Option Addr) (len cap : Nat) : Prop :=
  (len = 0 ∧ cap = 0) ∨ ∃ (b o : Nat) (zs : List Int), a = some ⟨b, o, none⟩ ∧ len ≤ cap ∧ 0 < cap ∧ cap ≤ maxLen ∧ b < w.heap.size ∧ zs.length = len ∧ (∀ n ∈ zs, (Lit.int k n).wf = true) ∧
    ∀ i n, zs[i]? = some n → w.cell? ⟨b, o + i, none⟩ = some (.int k n)

theorem arg_ints {e : TypeId} {k : IntKind} {a : Option Addr} {len cap : Nat} (ht : P.underlying t = some (.slice e)) (he : P.underlying e = some (.int k)) (hc : P.cellsOf e = 1)
    (h : DataW.Trod enc P w 0 (fun _ => true) true t (.slice a len cap) d ps) : ArgInts w k a len cap := by
  obtain ⟨fuel, hf⟩ := h
  rcases open_ints ht he hc hf with ⟨h1, _⟩ | ⟨x, l, c, zs, h1, _, hl, hm, hz, _, hcell, hwz⟩
  · simp [Value.cells] at h1
    exact .inl ⟨h1.2.1, h1.2.2⟩
  · simp [Value.cells] at h1
    obtain ⟨rfl, rfl, rfl⟩ := h1
    simp only [if_true] at hz
    by_cases h0 : cap = 0
    · exact .inl ⟨by omega, h0⟩
    have hsp : x.spot = none := by
      have := spot_none (hcell 0 (by omega))
      simpa [Addr.add] using this
    refine .inr ⟨x.block, x.off, zs.take len, ?_, hl, by omega, hm, ?_, by simp; omega, fun n hn => hwz n (List.mem_of_mem_take hn), fun i n hi => ?_⟩
    · obtain ⟨b, o, s⟩ := x
      simp only at hsp; subst hsp; rfl
    · have := hcell 0 (by omega)
      rw [add_nil hsp] at this
      exact block_lt_of_cell (a := ⟨x.block, x.off + 0, none⟩) this
    · rw [List.getElem?_take] at hi
      split at hi
      · rename_i hlt
        have := hcell i (by omega)
        rw [add_nil hsp] at this
        rw [this, List.getD_eq_getElem?_getD, hi]; rfl
      · simp at hi
end

/-- Windows that are read alone, at places of their own blocks. -/
theorem hsat_rows {w : World} {ks : List (Option IntKind)} {b o n : Nat} {f : Nat → List SV} (hb : b < w.heap.size) (hk : ∀ i, okK ks (f i)) (hc : ∀ i, i < n → ∀ (ρ : Nat → Nat × Nat) (c : Nat) (u : SV), (f i)[c]? = some u → w.cell? ⟨b, o + (i * ks.length + c), none⟩ = some (u.tr ρ)) :
    HSat w (Own (fun _ => (b, o)) [.obj (.rows n ks.length f)]) (fun _ => (b, o)) [.obj (.rows n ks.length f)] w := by
  refine ⟨?_, fun _ _ => hb, ?_, ?_, Fr.refl _ _⟩
  · intro h u hu
    cases h with
    | zero => simp at hu; subst hu; exact ⟨fun i hi c v hv => ⟨okK_closed (hk i) v (List.mem_of_getElem? hv), hc i hi _ c v hv⟩, rfl⟩
    | succ h => simp at hu
  · intro h h' o o' hh hh' _
    have := there_lt (there_of_obj hh)
    have := there_lt (there_of_obj hh')
    simp at *
    omega
  · intro h u hu ho
    cases h with
    | zero => simp at hu; subst hu; simp [SO.owned] at ho
    | succ h => simp at hu

theorem own_one {ρ : Nat → Nat × Nat} {o : SO} (h : o.owned = false) : ∀ b, ¬ Own ρ [HE.obj o] b :=
  own_none fun i u hu => by
    cases i with
    | zero => simp at hu; subst hu; exact h
    | succ i => simp at hu

/-- No slice among the arguments. -/
theorem calls_flat {P : Program} {f : Nat} {args : List SV} {L : List HE} {w : World} (hg : Gives P f args [] (Is .tt L)) (hok : SV.okhs (fun _ => false) args = true) :
    Calls P f (SV.trs (fun _ => (0, 0)) args).toArray w fun e w' => e = .returned (.bool true) ∧ Below w.heap.size w w' :=
  calls_true (fun _ => (0, 0)) hg (hsat_nil w _) (okhs_mono (A := fun _ => false) (fun x hx => by simp at hx) args hok) (own_none fun i o h => by simp at h) rfl

/-- One slice of rows. -/
theorem calls_rows {P : Program} {f : Nat} {pre post : List SV} {ks : List (Option IntKind)} {w : World} {a : Option Addr} {len cap : Nat} (h : ArgRows w ks a len cap)
    (g0 : Gives P f (pre ++ .raw (.slice a 0 0) :: post) [] (Is .tt [])) (hpre : SV.okhs (fun _ => false) pre = true) (hpost : SV.okhs (fun _ => false) post = true)
    (g1 : ∀ (o : Nat → List SV), (∀ i, okK ks (o i)) → len ≤ maxLen → ∃ L, Gives P f (pre ++ .slice 0 0 len cap :: post) [.obj (.rows len ks.length o)] (Is .tt L)) :
    Calls P f (SV.trs (fun _ => (0, 0)) pre ++ Value.slice a len cap :: SV.trs (fun _ => (0, 0)) post).toArray w fun e w' => e = .returned (.bool true) ∧ Below w.heap.size w w' := by
  have mono : ∀ (A : Nat → Bool) (l : List SV), SV.okhs (fun _ => false) l = true → SV.okhs A l = true := by
    intro A l hl
    rw [okhs_iff] at hl ⊢
    exact fun v hv => okh_mono (A := fun _ => false) (fun x hx => by simp at hx) v (hl v hv)
  rcases h with ⟨rfl, rfl⟩ | ⟨b, o, g, rfl, hl, h0, hm, hb, hk, hc⟩
  · refine calls_true (fun _ => (0, 0)) g0 (hsat_nil w _) ?_ (own_none fun i o h => by simp at h) ?_
    · rw [okhs_append, mono _ _ hpre]; simp [SV.okhs, SV.okh, mono _ _ hpost]
    · rw [trs_append]; rfl
  · obtain ⟨L, hg⟩ := g1 g hk (by omega)
    refine calls_true (fun _ => (b, o)) hg (hsat_rows hb hk fun i hi => hc i (by omega)) ?_ (own_one rfl) ?_
    · rw [okhs_append, mono _ _ hpre]; simp [SV.okhs, SV.okh, mono _ _ hpost, there, HE.there]
    · rw [trs_append, trs_congr (A := fun _ => false) (fun x hx => by simp at hx) pre hpre]
      simp only [SV.trs, SV.tr]
      rw [trs_congr (A := fun _ => false) (fun x hx => by simp at hx) post hpost (ρ := fun _ => (b, o)) (ρ' := fun _ => (0, 0))]
      rfl

/-- One slice of integers. -/
theorem calls_ints {P : Program} {f : Nat} {pre post : List SV} {k : IntKind} {w : World} {a : Option Addr} {len cap : Nat} (h : ArgInts w k a len cap)
    (g0 : Gives P f (pre ++ .raw (.slice a 0 0) :: post) [] (Is .tt [])) (hpre : SV.okhs (fun _ => false) pre = true) (hpost : SV.okhs (fun _ => false) post = true)
    (g1 : ∀ (z : List Int), z.length = len → (∀ n ∈ z, (Lit.int k n).wf = true) → len ≤ maxLen → ∃ L, Gives P f (pre ++ .slice 0 0 len cap :: post) [.obj (.winI k z)] (Is .tt L)) :
    Calls P f (SV.trs (fun _ => (0, 0)) pre ++ Value.slice a len cap :: SV.trs (fun _ => (0, 0)) post).toArray w fun e w' => e = .returned (.bool true) ∧ Below w.heap.size w w' := by
  have mono : ∀ (A : Nat → Bool) (l : List SV), SV.okhs (fun _ => false) l = true → SV.okhs A l = true := by
    intro A l hl
    rw [okhs_iff] at hl ⊢
    exact fun v hv => okh_mono (A := fun _ => false) (fun x hx => by simp at hx) v (hl v hv)
  rcases h with ⟨rfl, rfl⟩ | ⟨b, o, z, rfl, hl, h0, hm, hb, hz, hwz, hc⟩
  · refine calls_true (fun _ => (0, 0)) g0 (hsat_nil w _) ?_ (own_none fun i o h => by simp at h) ?_
    · rw [okhs_append, mono _ _ hpre]; simp [SV.okhs, SV.okh, mono _ _ hpost]
    · rw [trs_append]; rfl
  · obtain ⟨L, hg⟩ := g1 z hz hwz (by omega)
    refine calls_true (fun _ => (b, o)) hg (hsat_winI hb hc) ?_ (own_one rfl) ?_
    · rw [okhs_append, mono _ _ hpre]; simp [SV.okhs, SV.okh, mono _ _ hpost, there, HE.there]
    · rw [trs_append, trs_congr (A := fun _ => false) (fun x hx => by simp at hx) pre hpre]
      simp only [SV.trs, SV.tr]
      rw [trs_congr (A := fun _ => false) (fun x hx => by simp at hx) post hpost (ρ := fun _ => (b, o)) (ρ' := fun _ => (0, 0))]
      rfl
end Go.Hx

/-
  A contract over a small heap, in a larger one.
-/
namespace Go.Hx
open Go

theorem gives_frame {P : Program} {f : Nat} {as cargs : List SV} {H Hc L : List HE} {V : SV} (hT : ∃ TE : Nat → TI, ∀ t, TIok P t (TE t)) (hF : Gives P f cargs Hc (Is V L)) (σs : List Nat) (hargs : as = SV.rens (nm σs H) cargs) (hcok : SV.okhs (there Hc) cargs = true)
    (hlen : σs.length = Hc.length) (hobj : allObj Hc = true) (hokc : okHs (there Hc) Hc = true) (hnd : nodupN σs = true) (hsub : subC (nm σs H) H 0 Hc) (hnew : newOk (L.drop σs.length) = true) :
    Gives P f as H (Is (V.ren (nm σs H)) (merge (nm σs H) σs H L)) := by
  intro ρ w hS hok
  obtain ⟨TE, hTE⟩ := hT
  have hsub' : ∀ (h : Nat) (o : SO), Hc[h]? = some (.obj o) → H[sig σs H.length h]? = some (.obj (o.ren (sig σs H.length))) := fun h o ho => by
    have := subC_get hsub h o ho
    simpa [nm] using this
  have hthc : ∀ h, there Hc h = true → there H (sig σs H.length h) = true := fun h hh => by
    obtain ⟨o, ho⟩ := allObj_get hobj (there_lt hh)
    exact there_of_obj (hsub' h o ho)
  have hSc : HSat w (Own (fun x => ρ (sig σs H.length x)) Hc) (fun x => ρ (sig σs H.length x)) Hc w := by
    refine ⟨fun h o ho => ⟨(SO.holds_ren o).1 (hS.objs _ _ (hsub' h o ho)).1, okHs_get hokc ho⟩, fun h hh => hS.size _ (hthc h hh), ?_, fun h o ho hoo => .inl ⟨h, o, ho, hoo, rfl⟩, Fr.refl _ _⟩
    intro h h' o o' hh hh' e
    have := hS.inj _ _ _ _ (hsub' h o hh) (hsub' h' o' hh') e
    have l1 : h < σs.length := by rw [hlen]; exact there_lt (there_of_obj hh)
    have l2 : h' < σs.length := by rw [hlen]; exact there_lt (there_of_obj hh')
    have g1 := sig_lt (b := H.length) l1
    have g2 := sig_lt (b := H.length) l2
    rw [this] at g1
    exact nodupN_get hnd g1 g2
  have he : SV.trs ρ as = SV.trs (fun x => ρ (sig σs H.length x)) cargs := by rw [hargs, trs_rens]; rfl
  rw [he]
  refine Calls.mono (hF (fun x => ρ (sig σs H.length x)) w hSc hcok) fun e w' he => ?_
  cases e with
  | panicked c => exact he
  | outgrown => exact he
  | returned V' =>
    obtain ⟨ρc, Hn, v, ⟨rfl, rfl⟩, rfl, hvok, hSn, hb⟩ := he
    have hs : Sat (E := ⟨P, TE, 0, fun _ _ _ => True, w, Own ρ H, H, ρ, hTE⟩) ρ [] H ⟨#[], []⟩ w := ⟨hS, ⟨fun t v h => by simp [look] at h, rfl, rfl⟩, fun h hh => ⟨rfl, hh⟩⟩
    obtain ⟨ρ', m1, m2, m3, m4⟩ := merge_sat hs hlen hobj hnd hsub' hSn hb hnew
    refine ⟨ρ', _, _, ⟨rfl, rfl⟩, ?_, ?_, m1, fun h hh => ⟨(m2 h hh).symm, m3 h hh⟩⟩
    · rw [tr_ren]
      exact (tr_congr (fun h hh => (m4 h hh).1) v hvok).symm
    · rw [okh_ren]
      exact okh_mono (fun h hh => (m4 h hh).2) v hvok

mutual
theorem ren_closed (σ : Nat → Nat) : ∀ {v : SV}, v.okh (fun _ => false) = true → v.ren σ = v
  | .ptr x o, hv => by simp [SV.okh] at hv
  | .rptr x o i s c, hv => by simp [SV.okh] at hv
  | .bptr x i s c, hv => by simp [SV.okh] at hv
  | .sbuf x s o l, hv => by simp [SV.okh] at hv
  | .slice x o l c, hv => by simp [SV.okh] at hv
  | .map x, hv => by simp [SV.okh] at hv
  | .func fn a c, hv => by simp [SV.okh] at hv; simp [SV.ren, rens_closed σ hv.1, rens_closed σ hv.2]
  | .iface t v, hv => by simp [SV.okh] at hv; simp [SV.ren, ren_closed σ hv]
  | .agg l, hv => by simp [SV.okh] at hv; simp [SV.ren, rens_closed σ hv]
  | .tup l, hv => by simp [SV.okh] at hv; simp [SV.ren, rens_closed σ hv]
  | .tt, _ | .ff, _ | .bool _, _ | .int _ _, _ | .str _, _ | .nilptr, _ | .nilslice, _ | .nilmap, _ | .nilfunc, _ | .niliface, _ | .raw _, _ => by simp [SV.ren]
theorem rens_closed (σ : Nat → Nat) : ∀ {l : List SV}, SV.okhs (fun _ => false) l = true → SV.rens σ l = l
  | [], _ => rfl
  | v :: r, hv => by simp [SV.okhs] at hv; simp [SV.rens, ren_closed σ hv.1, rens_closed σ hv.2]
end

/-- A contract that reaches no memory, in any heap. -/
theorem gives_pure {P : Program} {f : Nat} {args : List SV} {V : SV} (hT : ∃ TE : Nat → TI, ∀ t, TIok P t (TE t)) (h : Gives P f args [] (Is V [])) (ha : SV.okhs (fun _ => false) args = true) (hv : V.okh (fun _ => false) = true) (H : List HE) :
    Gives P f args H (Is V H) := by
  have hth : there ([] : List HE) = fun _ => false := funext fun x => by simp [there]
  have := gives_frame (H := H) hT h [] (rens_closed _ ha).symm (by rw [hth]; exact ha) rfl rfl rfl rfl trivial rfl
  rw [ren_closed _ hv] at this
  simpa [merge, setAll] using this

/-- What a function that reaches no memory gives, as a table's row. -/
def pureS (g : List SV → Option (List Prop × SV)) : Spec := fun args H => match g args with
  | some (ob, v) => some (ob, v, H)
  | none => none

theorem pureS_ok {P : Program} {f : Nat} {g : List SV → Option (List Prop × SV)} (hT : ∃ TE : Nat → TI, ∀ t, TIok P t (TE t))
    (h : ∀ args ob V, g args = some (ob, V) → AllP ob → SV.okhs (fun _ => false) args = true ∧ V.okh (fun _ => false) = true ∧ Gives P f args [] (Is V []))
    {args : List SV} {H : List HE} {ob : List Prop} {V : SV} {L : List HE} (hs : pureS g args H = some (ob, V, L)) (ho : AllP ob) : Gives P f args H (Is V L) := by
  unfold pureS at hs
  split at hs
  · rename_i ob' v hg
    simp at hs
    obtain ⟨rfl, rfl, rfl⟩ := hs
    obtain ⟨h1, h2, h3⟩ := h _ _ _ hg ho
    exact gives_pure hT h3 h1 h2 _
  · simp at hs

theorem wfU {n : Int} (h : (Lit.int .u64 n).wf = true) : 0 ≤ n ∧ n < 18446744073709551616 := by
  simp only [Lit.wf, Bool.and_eq_true, decide_eq_true_eq] at h
  have e1 : IntKind.u64.min = 0 := by decide
  have e2 : IntKind.u64.max = 18446744073709551615 := by decide
  omega
theorem wfI {n : Int} (h : (Lit.int .i64 n).wf = true) : -9223372036854775808 ≤ n ∧ n < 9223372036854775808 := by
  simp only [Lit.wf, Bool.and_eq_true, decide_eq_true_eq] at h
  have e1 : IntKind.i64.min = -9223372036854775808 := by decide
  have e2 : IntKind.i64.max = 9223372036854775807 := by decide
  omega
end Go.Hx

