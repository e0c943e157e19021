/- FindPlays: runs that find, and list, go on step by step as the document says, whatever becomes of the directory between their steps. -/
import Derived.Test.YtkkddjchkkaagaaGreatDoorPlaysList
import Derived.Test.YtkkddjchkkaagaaGreatDoorPlaysFind
import Derived.Test.YtkkddjchkkaagaaGreatDoorPlaysWorld
import Derived.Test.YtkkddjchkkaagaaGreatDoorFailsSteps
import Derived.Test.YtkkddjchkkaagaaGreatDoorFailsRows
import Derived.Test.YtkkddjchkkaagaaGreatDoorMakeWords

namespace Go.Proofs.YtkkddjchkkaagaaGreatDoor
open Go Go.Hx
set_option maxRecDepth 8000
theorem lt_dn {T : Nat} {R st : Int} {s : LS} {W : List Int} {r : LR} (hr : lStep T R s W st = r) (he : s.er = 0) (e0 : r.s.ph = 0) : (r.s.er = 0 → r.s.told = s.told) ∧ (¬ r.s.er = 0 → r.s.told = none) := by
  subst hr
  unfold lStep at e0 ⊢
  split
  · rename_i e1
    rw [if_pos e1] at e0
    dsimp only at e0 ⊢
    unfold lFail at e0 ⊢
    repeat' split
    all_goals simp_all
  · rename_i e1
    rw [if_neg e1] at e0
    split
    · rename_i e2
      rw [if_pos e2] at e0
      dsimp only at e0
      split at e0 <;> omega
    · rename_i e2
      rw [if_neg e2] at e0
      dsimp only at e0 ⊢
      unfold lFail at e0 ⊢
      repeat' split
      all_goals simp_all
theorem lt_pos {T : Nat} {R st : Int} {s : LS} {W : List Int} (h : ∀ l, s.told = some l → 0 < l.length) : ∀ l, (lStep T R s W st).s.told = some l → 0 < l.length := by
  intro l hl
  unfold lStep at hl
  split at hl
  · dsimp only at hl
    unfold lFail at hl
    repeat' split at hl
    all_goals simp at hl
  · split at hl
    · dsimp only at hl
      split at hl
      · simp at hl; subst hl; simp
      · exact h l hl
    · dsimp only at hl
      unfold lFail at hl
      repeat' split at hl
      all_goals first | exact h l hl | simp at hl
theorem dLF_none {s : LS} {W : List Int} (h : mvB s W = false) {r : Option (List Int)} {T : Nat} {R st : Int} {d0 : List Int} (hr : (lStep T R s W st).s.told = r) (hl : ∃ l0, s.told = some l0) (hn : ∃ l, r = some l) (p1 : s.ph = 1 ∨ s.ph = 2 ∨ s.ph = 4) : dLF s W (some d0) = some d0 := by
  obtain ⟨l, rfl⟩ := hn
  obtain ⟨l0, hl⟩ := hl
  unfold dLF
  rcases p1 with e | e | e
  · exfalso
    unfold lStep at hr
    rw [if_pos e] at hr
    dsimp only at hr
    split at hr
    · unfold lFail at hr; split at hr <;> simp at hr
    · simp at hr
  · rw [if_neg (by omega), if_pos e]
    unfold mvB at h
    rw [decide_eq_true e, Bool.true_and] at h
    rw [if_neg (by rw [h]; decide)]
  · rw [if_neg (by omega), if_neg (by omega)]
    unfold lStep at hr
    rw [if_neg (by omega), if_neg (by omega)] at hr
    dsimp only at hr
    split
    · rfl
    · rename_i g
      rw [if_neg g] at hr
      unfold lFail at hr; split at hr <;> simp at hr
section
variable {T : Nat} {R : Int} {N cap : Nat} {key : Int} {o : Nat → Int × Int × Int × Bool} {x : XP} {ρ : Nat → Nat × Nat} {w : World} {I : Act → World → Prop}
theorem plist (h : PInv T R N (cRem 1 12 key) x) (hin : x.i < N) (hi : x.i < 120) {a : Nat} (J : ∀ p, PJ p T R N cap key o x ρ w I) : ∃ p, PU 41 a p T R N cap key o x ρ w I := by
  obtain ⟨m1, m2, m3⟩ := lt_mv (rfl : lStep T R x.z.l x.z.W x.z.st = _)
  have he := h.dl.er
  have t1 := h.b.t1
  have p1 := h.lc.p1
  obtain ⟨a1, a2⟩ := dli_step (R := R) (W := x.z.W) (st := x.z.st) t1 p1 h.dl
  have no2 : dLF x.z.l x.z.W x.z.dL = none ↔ (lStep T R x.z.l x.z.W x.z.st).s.told = none := by
    by_cases e0 : (lStep T R x.z.l x.z.W x.z.st).s.ph = 0
    · exact (a2 e0).1
    · exact (a1 e0).no
  have htn2 : ∀ l, (lStep T R x.z.l x.z.W x.z.st).s.told = some l → 0 < l.length := lt_pos h.tn
  rcases ht : x.z.l.told with _ | l0
  · have hd : x.z.dL = none := h.dl.no.2 ht
    by_cases e0 : (lStep T R x.z.l x.z.W x.z.st).s.ph = 0
    · have mv := m3 e0
      have t2 : (lStep T R x.z.l x.z.W x.z.st).s.told = none := by
        rcases m2 mv with q | q
        · exact q
        · rw [q, ht]
      by_cases e1 : (lStep T R x.z.l x.z.W x.z.st).s.er = 0
      · exact plF h hin hi ht hd mv rfl t2 (no2.2 t2) htn2 e0 e1 J
      · exact plH h hin hi ht hd mv rfl t2 (no2.2 t2) htn2 e0 e1 J
    · rcases hmv : mvB x.z.l x.z.W with _ | _
      · have t2 : (lStep T R x.z.l x.z.W x.z.st).s.told = none := by
          rcases m2 hmv with q | q
          · exact q
          · rw [q, ht]
        exact plA h hin hi ht hd hmv rfl t2 (no2.2 t2) htn2 e0 J
      · obtain ⟨l', t2⟩ := m1 hmv
        rcases hd2 : dLF x.z.l x.z.W x.z.dL with _ | d'
        · rw [no2.1 hd2] at t2; cases t2
        · exact plB h hin hi ht hd hmv rfl t2 hd2 htn2 e0 J
  · rcases hd : x.z.dL with _ | d0
    · rw [h.dl.no.1 hd] at ht; cases ht
    by_cases e0 : (lStep T R x.z.l x.z.W x.z.st).s.ph = 0
    · have mv := m3 e0
      obtain ⟨d1, d2⟩ := lt_dn (rfl : lStep T R x.z.l x.z.W x.z.st = _) he e0
      by_cases e1 : (lStep T R x.z.l x.z.W x.z.st).s.er = 0
      · have t2 : (lStep T R x.z.l x.z.W x.z.st).s.told = some l0 := by rw [d1 e1, ht]
        exact plG h hin hi ht hd mv rfl t2 (by rw [hd]; exact dLF_none mv t2 ⟨_, ht⟩ ⟨_, rfl⟩ p1) htn2 e0 e1 J
      · exact plI h hin hi ht hd mv rfl (d2 e1) (no2.2 (d2 e1)) htn2 e0 e1 J
    · rcases hmv : mvB x.z.l x.z.W with _ | _
      · rcases m2 hmv with q | q
        · exact plC h hin hi ht hd hmv rfl q (no2.2 q) htn2 e0 J
        · have t2 : (lStep T R x.z.l x.z.W x.z.st).s.told = some l0 := by rw [q, ht]
          exact plD h hin hi ht hd hmv rfl t2 (by rw [hd]; exact dLF_none hmv t2 ⟨_, ht⟩ ⟨_, rfl⟩ p1) htn2 e0 J
      · obtain ⟨l', t2⟩ := m1 hmv
        rcases hd2 : dLF x.z.l x.z.W x.z.dL with _ | d'
        · rw [no2.1 hd2] at t2; cases t2
        · exact plE h hin hi ht hd hmv rfl t2 hd2 htn2 e0 J
theorem pfind (h : PInv T R N (cRem 1 12 key) x) (hin : x.i < N) (hi : x.i < 120) {a : Nat} (J : ∀ p, PJ p T R N cap key o x ρ w I) : ∃ p, PU 20 a p T R N cap key o x ρ w I := by
  obtain ⟨s1, s2⟩ := sf_f h.b.t1 h.b.t8 h.b.r1 h.b.r4 h.fc.k1 h.fc.k2
  by_cases e0 : (fStep T R (startV (T : Int) 4 1 2 4 1 6 0 R x.z.f.key).toNat x.z.f x.z.W x.z.st).s.ph = 0
  · by_cases e1 : (fStep T R (startV (T : Int) 4 1 2 4 1 6 0 R x.z.f.key).toNat x.z.f x.z.W x.z.st).s.er = 0
    · exact pft h hin hi s1 s2 rfl rfl e0 e1 J
    · exact pff h hin hi s1 s2 rfl rfl e0 e1 J
  · exact pfn h hin hi s1 s2 rfl rfl e0 J
theorem pkind (h : PInv T R N (cRem 1 12 key) x) (hin : x.i < N) (hi : x.i < 120) {a : Nat} (ha : a < T) (J : ∀ p, PJ p T R N cap key o x ρ w I) : ∃ p, PU 19 a p T R N cap key o x ρ w I := by
  have h7 := and7 (o x.i).1
  have hc : ibits .and .i64 (o x.i).1 7 = 0 ∨ ibits .and .i64 (o x.i).1 7 = 1 ∨ ibits .and .i64 (o x.i).1 7 = 2 ∨ ibits .and .i64 (o x.i).1 7 = 3 ∨ ibits .and .i64 (o x.i).1 7 = 4 ∨ ibits .and .i64 (o x.i).1 7 = 5 ∨ ibits .and .i64 (o x.i).1 7 = 6 ∨ ibits .and .i64 (o x.i).1 7 = 7 := by omega
  rcases hc with hm | hm | hm | hm | hm | hm | hm | hm
  · exact pm0 h hin hi ha hm (pfind h hin hi J)
  · exact pm1 h hin hi ha hm (pfind h hin hi J)
  · exact pm2 h hin hi ha hm (pfind h hin hi J)
  · exact pm3 h hin hi ha hm (plist h hin hi J)
  · exact pm4 h hin hi ha hm (plist h hin hi J)
  · exact pk5 h hin hi ha hm J
  · exact pk6 h hin hi ha hm J
  · exact pk7 h hin hi ha hm J
theorem pturn (h : PInv T R N (cRem 1 12 key) x) (hin : x.i < N) (hi : x.i < 120) (J : ∀ p, PJ p T R N cap key o x ρ w I) : ∃ p, PG p T R N cap key o x ρ w I := by
  obtain ⟨c0, c1⟩ := cModB (T : Int) (o x.i).2.1 (by have := h.b.t1; omega) (by have := h.b.t8; omega)
  have ea : cMod (T : Int) (o x.i).2.1 = (((cMod (T : Int) (o x.i).2.1).toNat : Nat) : Int) := by omega
  have ha : (cMod (T : Int) (o x.i).2.1).toNat < T := by omega
  exact ps1 h hin hi ha ea (pkind h hin hi ha J)
end
def awF9S : List SV → Option (List Prop × SV)
  | [] => some ([], .tt)
  | _ => none
theorem awF9S_ok : PureOk 15 awF9S := by
  intro args ob V hs ho
  unfold awF9S at hs
  split at hs
  · simp only [Option.some.injEq, Prod.mk.injEq] at hs
    obtain ⟨rfl, rfl⟩ := hs
    exact ⟨rfl, rfl, awake19_fn⟩
  · simp at hs
def cfFS : List SV → Option (List Prop × SV)
  | [.agg [.int .i64 l0, .int .i64 l1]] => some ([], C9 (cAnd 7 l0) 4 1 2 4 1 6 0 (cAnd 3 l1))
  | _ => none
theorem cfFS_ok : PureOk 24 cfFS := by
  intro args ob V hs ho
  unfold cfFS at hs
  split at hs
  · simp only [Option.some.injEq, Prod.mk.injEq] at hs
    obtain ⟨rfl, rfl⟩ := hs
    exact ⟨rfl, rfl, config19_fn _ _⟩
  · simp at hs
def ctFp : Nat → Option Hx.Spec
  | 15 => some (pureS awF9S)
  | 24 => some (pureS cfFS)
  | 143 => some (pureS rightS)
  | 112 => some (pureS rightS)
  | 84 => some (pureS startS)
  | 110 => some (pureS rstartS)
  | 27 => some (makeS)
  | 34 => some (rmakeS)
  | _ => none
theorem ctFp_ok : ∀ f s args H ob V L, ctFp f = some s → s args H = some (ob, V, L) → AllP ob → Gives Tryz.prog f args H (Is V L) := by
  intro f s args H ob V L h hs ho
  unfold ctFp at h
  split at h
  · simp at h; subst h; exact pureS_ok ⟨_, hTE⟩ (awF9S_ok) hs ho
  · simp at h; subst h; exact pureS_ok ⟨_, hTE⟩ (cfFS_ok) hs ho
  · simp at h; subst h; exact pureS_ok ⟨_, hTE⟩ (rightS_ok right143) hs ho
  · simp at h; subst h; exact pureS_ok ⟨_, hTE⟩ (rightS_ok right112) hs ho
  · simp at h; subst h; exact pureS_ok ⟨_, hTE⟩ (startS_ok) hs ho
  · simp at h; subst h; exact pureS_ok ⟨_, hTE⟩ (rstartS_ok) hs ho
  · simp at h; subst h; exact makeS_ok hs ho
  · simp at h; subst h; exact rmakeS_ok hs ho
  · simp at h
noncomputable def XFp : Tabs := tabs tr ft xt (fun _ => none) ctFp 20
theorem hXFp : TOk Tryz.prog (XFp) := ⟨hTE, hFT, ctFp_ok, hXT, fun t ks h => by simp [XFp, tabs] at h, mixed⟩
theorem cfgF_cases (q0 q1 : Int) : ∃ T : Nat, 1 ≤ T ∧ T ≤ 8 ∧ cAnd 7 q0 = (T : Int) ∧ 1 ≤ cAnd 3 q1 ∧ cAnd 3 q1 ≤ 4 := by
  have h7 := cAnd7 q0
  have h3 := cAnd3 q1
  exact ⟨(cAnd 7 q0).toNat, by omega, by omega, by omega, by omega, by omega⟩
def zP (T : Nat) (R key : Int) : Pq := ⟨(mkA (T : Int) 4 1 2 4 1 6 0 R).W, (mkA (T : Int) 4 1 2 4 1 6 0 R).st, 2, (mkA (T : Int) 4 1 2 4 1 6 0 R).wd, (mkA (T : Int) 4 1 2 4 1 6 0 R).vl, true, ⟨key, 1, 0, 0, 0, 0, 0, false, 0, 0⟩, 0, ⟨1, 0, 0, 0, none, 0, 0⟩, none⟩
theorem mkF_len {T : Nat} {R : Int} (t1 : 1 ≤ T) (t8 : T ≤ 8) : (mkA (T : Int) 4 1 2 4 1 6 0 R).W.length = 11 + 10 * T := by
  rw [mkA_len]
  unfold sizeV
  omega
theorem mkF_fb {T : Nat} {R : Int} (t1 : 1 ≤ T) (t8 : T ≤ 8) (r1 : 1 ≤ R) (r4 : R ≤ 4) : FB T R (mkA (T : Int) 4 1 2 4 1 6 0 R).W (mkA (T : Int) 4 1 2 4 1 6 0 R).st := by
  have hr := right_FR t1 t8 r1 r4
  have hst := mkA_st hr
  exact ⟨t1, t8, r1, r4, mkF_len t1 t8, mkA_bd hr, by omega, by omega⟩
theorem p0_ok {T : Nat} {R : Int} {N : Nat} {key : Int} (t1 : 1 ≤ T) (t8 : T ≤ 8) (r1 : 1 ≤ R) (r4 : R ≤ 4) (k1 : 1 ≤ key) (k2 : key ≤ 2147483647) : PInv T R N key ⟨0, zP T R key⟩ := by
  have hr := right_FR t1 t8 r1 r4
  have hst := mkA_st hr
  exact ⟨mkF_fb t1 t8 r1 r4, by dsimp only [zP]; omega, fc_new k1 k2 r1, lc_new r1, rfl, df_new, dl_new t1, (fun l q => by cases q), Nat.zero_le _, Nat.zero_le _⟩
set_option maxHeartbeats 8000000 in
theorem findPlays_fn (q0 q1 : Int) (N cap : Nat) (o : Nat → Int × Int × Int × Bool) (key : Int) : Gives Tryz.prog 6 [L2 q0 q1, .slice 0 0 N cap, .int .i64 key] [.obj (.rows N 4 (acF o)), pinE RTV] (Is .tt [.obj (.rows N 4 (acF o)), pinE RTV]) := by
  have hX := hXFp
  obtain ⟨T, t1, t8, eT, r1, r4⟩ := cfgF_cases q0 q1
  generalize hR : cAnd 3 q1 = R at r1 r4
  have hr := right_FR t1 t8 r1 r4
  obtain ⟨kq1, kq2⟩ := cRemB 1 12 key (by decide) (by decide) (by decide) (by decide)
  have kn2 : cRem 1 12 key ≤ 2147483647 := by omega
  have sn := start_nn hr kq1 kn2
  have sn2 : ¬ startV (T : Int) 4 1 2 4 1 6 0 R (cRem 1 12 key) = -1 := by omega
  have sn3 : ¬ startV (T : Int) 4 1 2 4 1 6 0 R (cRem 1 12 key) < 0 := by omega
  have ek : IntKind.i64.wrap (1 + (IntKind.i64.wrap (key.tmod 12 + 12)).tmod 12) = cRem 1 12 key := rfl
  refine gives_x hX (fn := Tryz.f6) rfl rfl rfl rfl fun ρ w => ?_
  refine sxb hX [.l] [.F, .F, .F, .F] 4000 rfl (by (simp [conjP, eT, hR, hr, ek, sn2, sn3] <;> omega)) ?_
  simp only [eT, hR]
  refine ss_sub hX (T' := ppT N cap (cRem 1 12 key) ⟨0, zP T R (cRem 1 12 key)⟩) (H' := pK N o T R ⟨0, zP T R (cRem 1 12 key)⟩) [0, 1, 3, 5, 4, 7, 6, 9, 14, 12, 60, 16, 61] rfl rfl rfl rfl ?tt ?hh ?ot ?ok ?_
  case tt => exact clhP
  case hh => exact clhP
  case ot => exact clkP
  case ok => exact clkP
  refine ss_loop hX (ppT N cap (cRem 1 12 key)) (pK N o T R) (PInv T R N (cRem 1 12 key)) (fun x => 120 - x.i) _ (p0_ok t1 t8 r1 r4 kq1 kn2) ?_
  intro x hx I back
  by_cases hlt : x.i < N ∧ x.i < 120
  · obtain ⟨p, hp⟩ := pturn (cap := cap) (o := o) (ρ := ρ) (w := w) (I := I) hx hlt.1 hlt.2 (fun p x' hx' hi' cs TT H hsub => ss_sw (hXPl p) (sw_ss hX (back x' hx' (by show 120 - x'.i < 120 - x.i; omega) cs TT H hsub)))
    refine sxb hX [.r 15] [] 100 rfl trivial ?_
    exact ss_sw hX (sw_ss (hXPl p) (cs := []) hp)
  · have hn : (x.i : Int) < (N : Int) → ¬ (x.i : Int) < 120 := fun q q2 => hlt ⟨by omega, by omega⟩
    dsimp only [ppT, pK, ppH]
    refine sx hX [] 4000 rfl (by (simp [-List.getD_eq_getElem?_getD, -List.length_eq_zero_iff, conjP])) ?_
    refine ss_pb hX [] [] 4000 rfl (fun hb0 => ?_) (fun hb0 => ?_)
    · try simp [-List.getD_eq_getElem?_getD, -List.length_eq_zero_iff] at hb0
      refine sx hX [.T] 4000 rfl (by (simp [-List.getD_eq_getElem?_getD, -List.length_eq_zero_iff, conjP, addOP, hb0])) ?_
      refine sx hX [.F] 4000 rfl (by (simp [-List.getD_eq_getElem?_getD, -List.length_eq_zero_iff, conjP, addOP, hn, hb0])) ?_
      (refine ss_end hX [0, 1] rfl rfl trivial rfl rfl rfl rfl ?tt ?hh ?ot ?ok; (case tt => exact clhP); (case hh => exact clhP); (case ot => exact clkP); (case ok => exact clkP))
    · try simp [-List.getD_eq_getElem?_getD, -List.length_eq_zero_iff] at hb0
      refine sx hX [.F] 4000 rfl (by (simp [-List.getD_eq_getElem?_getD, -List.length_eq_zero_iff, conjP, addOP, hb0])) ?_
      (refine ss_end hX [0, 1] rfl rfl trivial rfl rfl rfl rfl ?tt ?hh ?ot ?ok; (case tt => exact clhP); (case hh => exact clhP); (case ot => exact clkP); (case ok => exact clkP))
set_option maxHeartbeats 8000000 in
theorem findPlays_nil (q0 q1 : Int) (a : Option Addr) (key : Int) : Gives Tryz.prog 6 [L2 q0 q1, .raw (.slice a 0 0), .int .i64 key] [pinE RTV] (Is .tt [pinE RTV]) := by
  have hX := hXFp
  obtain ⟨T, t1, t8, eT, r1, r4⟩ := cfgF_cases q0 q1
  generalize hR : cAnd 3 q1 = R at r1 r4
  have hr := right_FR t1 t8 r1 r4
  obtain ⟨kq1, kq2⟩ := cRemB 1 12 key (by decide) (by decide) (by decide) (by decide)
  have kn2 : cRem 1 12 key ≤ 2147483647 := by omega
  have sn := start_nn hr kq1 kn2
  have sn2 : ¬ startV (T : Int) 4 1 2 4 1 6 0 R (cRem 1 12 key) = -1 := by omega
  have sn3 : ¬ startV (T : Int) 4 1 2 4 1 6 0 R (cRem 1 12 key) < 0 := by omega
  have ek : IntKind.i64.wrap (1 + (IntKind.i64.wrap (key.tmod 12 + 12)).tmod 12) = cRem 1 12 key := rfl
  refine gives_x hX (fn := Tryz.f6) rfl rfl rfl rfl fun ρ w => ?_
  refine sx hX [] 4000 rfl (by (simp [-List.getD_eq_getElem?_getD, -List.length_eq_zero_iff, conjP, eT, hR, hr])) ?_
  refine sx hX [.F] 4000 rfl (by (simp [-List.getD_eq_getElem?_getD, -List.length_eq_zero_iff, conjP, addOP, eT, hR, ek, sn2])) ?_
  refine sx hX [.F] 4000 rfl (by (simp [-List.getD_eq_getElem?_getD, -List.length_eq_zero_iff, conjP, eT, hR, hr, ek] <;> (first | omega | ((repeat' (refine And.intro ?_ ?_)) <;> (first | omega | exact decide_eq_false (by omega) | exact decide_eq_true (by omega)))))) ?_
  refine sx hX [.F] 4000 rfl (by (simp [-List.getD_eq_getElem?_getD, -List.length_eq_zero_iff, conjP, addOP, eT, hR, ek, sn3])) ?_
  refine sx hX [.F] 4000 rfl (by (simp [-List.getD_eq_getElem?_getD, -List.length_eq_zero_iff, conjP, addOP, eT, hR, hr])) ?_
  refine sx hX [.F] 4000 rfl (by (simp [-List.getD_eq_getElem?_getD, -List.length_eq_zero_iff, conjP, addOP])) ?_
  (refine ss_end hX [0] rfl rfl trivial rfl rfl rfl rfl ?tt ?hh ?ot ?ok; (case tt => first | exact beq_self_eq_true _ | exact clhP); (case hh => exact clhP); (case ot => exact clkP); (case ok => exact clkP))
end Go.Proofs.YtkkddjchkkaagaaGreatDoor
namespace Go.Proofs.YtkkddjchkkaagaaGreatDoor.findPlays
open Go Go.Hx
abbrev ks54 : List (Option IntKind) := [some .i64, some .i64, some .i64, none]
theorem row_of (l : List SV) (h : okK ks54 l) : ∃ o : Int × Int × Int × Bool, l = acF (fun _ => o) 0 := by
  rcases l with _ | ⟨a, _ | ⟨b, _ | ⟨c, _ | ⟨d, _ | ⟨e, r⟩⟩⟩⟩⟩ <;> simp only [okK, and_false] at h
  obtain ⟨⟨n1, rfl, _⟩, ⟨n2, rfl, _⟩, ⟨n3, rfl, _⟩, ⟨n4, rfl⟩, _⟩ := h
  exact ⟨(n1, n2, n3, n4), rfl⟩
theorem rows_of (o : Nat → List SV) (h : ∀ i, okK ks54 (o i)) : ∃ q : Nat → Int × Int × Int × Bool, o = acF q :=
  ⟨fun i => Classical.choose (row_of (o i) (h i)), funext fun i => Classical.choose_spec (row_of (o i) (h i))⟩
theorem walk_nil (a : Option Addr) (l : List SV) (h : okK [some .i64, some .i64] l) (m : Int) (_ : (Lit.int .i64 m).wf = true) : ∃ L, Gives Tryz.prog 6 [.agg l, .raw (.slice a 0 0), .int .i64 m] [pinE RTV] (Is .tt L) := by
  rcases l with _ | ⟨x, _ | ⟨y, _ | ⟨z, r⟩⟩⟩ <;> simp only [okK, and_false] at h
  obtain ⟨⟨n0, rfl, _⟩, ⟨n1, rfl, _⟩, _⟩ := h
  exact ⟨_, findPlays_nil n0 n1 a m⟩
theorem walk (l : List SV) (h : okK [some .i64, some .i64] l) (m : Int) (_ : (Lit.int .i64 m).wf = true) (o : Nat → List SV) (ho : ∀ i, okK ks54 (o i)) (len cap : Nat) (_ : len ≤ maxLen) : ∃ L, Gives Tryz.prog 6 [.agg l, .slice 0 0 len cap, .int .i64 m] [.obj (.rows len 4 o), pinE RTV] (Is .tt L) := by
  rcases l with _ | ⟨x, _ | ⟨y, _ | ⟨z, r⟩⟩⟩ <;> simp only [okK, and_false] at h
  obtain ⟨⟨n0, rfl, _⟩, ⟨n1, rfl, _⟩, _⟩ := h
  obtain ⟨q, rfl⟩ := rows_of o ho
  exact ⟨_, findPlays_fn n0 n1 len cap q m⟩
end Go.Proofs.YtkkddjchkkaagaaGreatDoor.findPlays
