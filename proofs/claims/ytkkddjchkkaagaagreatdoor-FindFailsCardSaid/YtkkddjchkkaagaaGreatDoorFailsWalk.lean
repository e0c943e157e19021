/- FindFails: an attempt fails only if the number is odd, or was changed: a run is done with ErrRetry only if that was so as often as there are attempts. -/
import Derived.Test.YtkkddjchkkaagaaGreatDoorFailsSteps
import Derived.Test.YtkkddjchkkaagaaGreatDoorFailsTurns
import Derived.Test.YtkkddjchkkaagaaGreatDoorRefArena
import Derived.Test.YtkkddjchkkaagaaGreatDoorMakeWords
namespace Go.Proofs.YtkkddjchkkaagaaGreatDoor
open Go Go.Hx
set_option maxRecDepth 8000
theorem lt_dn {T : Nat} {R st : Int} {s : LS} {W : List Int} {r : LR} (hr : lStep T R s W st = r) (he : s.er = 0) (e0 : r.s.ph = 0) : (r.s.er = 0 → r.s.told = s.told) ∧ (¬ r.s.er = 0 → r.s.told = none) := by
  subst hr
  unfold lStep at e0 ⊢
  split
  · rename_i e1
    rw [if_pos e1] at e0
    dsimp only at e0 ⊢
    unfold lFail at e0 ⊢
    repeat' split
    all_goals simp_all
  · rename_i e1
    rw [if_neg e1] at e0
    split
    · rename_i e2
      rw [if_pos e2] at e0
      dsimp only at e0
      split at e0 <;> omega
    · rename_i e2
      rw [if_neg e2] at e0
      dsimp only at e0 ⊢
      unfold lFail at e0 ⊢
      repeat' split
      all_goals simp_all
section
variable {T : Nat} {R : Int} {N cap : Nat} {key : Int} {o : Nat → Int × Int × Int × Bool} {x : XS} {ρ : Nat → Nat × Nat} {w : World} {I : Act → World → Prop}
theorem flist (h : FInv T R N (cRem 1 12 key) 1 x) (hin : x.i < N) (hi : x.i < 100) {a : Nat} (J : ∀ p, FJ p T R N cap key o x ρ w I) : ∃ p, FU 36 a p T R N cap key o x ρ w I := by
  obtain ⟨m1, m2, m3⟩ := lt_mv (rfl : lStep T R x.z.l x.z.W x.z.st = _)
  have he := h.la.2.2.1
  rcases ht : x.z.l.told with _ | l0
  · by_cases e0 : (lStep T R x.z.l x.z.W x.z.st).s.ph = 0
    · have mv := m3 e0
      have t2 : (lStep T R x.z.l x.z.W x.z.st).s.told = none := by
        rcases m2 mv with q | q
        · exact q
        · rw [q, ht]
      by_cases e1 : (lStep T R x.z.l x.z.W x.z.st).s.er = 0
      · exact liF h hin hi ht mv rfl t2 e0 e1 J
      · exact liH h hin hi ht mv rfl t2 e0 e1 J
    · rcases hmv : mvB x.z.l x.z.W with _ | _
      · have t2 : (lStep T R x.z.l x.z.W x.z.st).s.told = none := by
          rcases m2 hmv with q | q
          · exact q
          · rw [q, ht]
        exact liA h hin hi ht hmv rfl t2 e0 J
      · obtain ⟨l', t2⟩ := m1 hmv
        exact liB h hin hi ht hmv rfl t2 e0 J
  · by_cases e0 : (lStep T R x.z.l x.z.W x.z.st).s.ph = 0
    · have mv := m3 e0
      obtain ⟨d1, d2⟩ := lt_dn (rfl : lStep T R x.z.l x.z.W x.z.st = _) he e0
      by_cases e1 : (lStep T R x.z.l x.z.W x.z.st).s.er = 0
      · exact liG h hin hi ht mv rfl (by rw [d1 e1, ht]) e0 e1 J
      · exact liI h hin hi ht mv rfl (d2 e1) e0 e1 J
    · rcases hmv : mvB x.z.l x.z.W with _ | _
      · rcases m2 hmv with q | q
        · exact liC h hin hi ht hmv rfl q e0 J
        · exact liD h hin hi ht hmv rfl (by rw [q, ht]) e0 J
      · obtain ⟨l', t2⟩ := m1 hmv
        exact liE h hin hi ht hmv rfl t2 e0 J
theorem ffind (h : FInv T R N (cRem 1 12 key) 1 x) (hin : x.i < N) (hi : x.i < 100) {a : Nat} (J : ∀ p, FJ p T R N cap key o x ρ w I) : ∃ p, FU 19 a p T R N cap key o x ρ w I := by
  obtain ⟨s1, s2⟩ := sf_f h.b.t1 h.b.t8 h.b.r1 h.b.r4 h.fc.k1 h.fc.k2
  by_cases e0 : (fStep T R (startV (T : Int) 4 1 2 4 1 6 0 R x.z.f.key).toNat x.z.f x.z.W x.z.st).s.ph = 0
  · by_cases e1 : (fStep T R (startV (T : Int) 4 1 2 4 1 6 0 R x.z.f.key).toNat x.z.f x.z.W x.z.st).s.er = 0
    · exact fit h hin hi s1 s2 rfl e0 e1 J
    · exact fif h hin hi s1 s2 rfl e0 e1 J
  · exact fin h hin hi s1 s2 rfl e0 J
theorem fkind (h : FInv T R N (cRem 1 12 key) 1 x) (hin : x.i < N) (hi : x.i < 100) {a : Nat} (ha : a < T) (J : ∀ p, FJ p T R N cap key o x ρ w I) : ∃ p, FU 18 a p T R N cap key o x ρ w I := by
  have h7 := and7 (o x.i).1
  have hc : ibits .and .i64 (o x.i).1 7 = 0 ∨ ibits .and .i64 (o x.i).1 7 = 1 ∨ ibits .and .i64 (o x.i).1 7 = 2 ∨ ibits .and .i64 (o x.i).1 7 = 3 ∨ ibits .and .i64 (o x.i).1 7 = 4 ∨ ibits .and .i64 (o x.i).1 7 = 5 ∨ ibits .and .i64 (o x.i).1 7 = 6 ∨ ibits .and .i64 (o x.i).1 7 = 7 := by omega
  rcases hc with hm | hm | hm | hm | hm | hm | hm | hm
  · exact fm0 h hin hi ha hm (ffind h hin hi J)
  · exact fm1 h hin hi ha hm (ffind h hin hi J)
  · exact fm2 h hin hi ha hm (ffind h hin hi J)
  · exact fm3 h hin hi ha hm (flist h hin hi J)
  · exact fm4 h hin hi ha hm (flist h hin hi J)
  · exact fk5 h hin hi ha hm J
  · exact fk6 h hin hi ha hm J
  · exact fk7 h hin hi ha hm J
theorem fturn (h : FInv T R N (cRem 1 12 key) 0 x) (hin : x.i < N) (hi : x.i < 100) (J : ∀ p, FJ p T R N cap key o x ρ w I) : ∃ p, FG p T R N cap key o x ρ w I := by
  obtain ⟨c0, c1⟩ := cModB (T : Int) (o x.i).2.1 (by have := h.b.t1; omega) (by have := h.b.t8; omega)
  have ea : cMod (T : Int) (o x.i).2.1 = (((cMod (T : Int) (o x.i).2.1).toNat : Nat) : Int) := by omega
  have ha : (cMod (T : Int) (o x.i).2.1).toNat < T := by omega
  have go : ∀ x', FInv T R N (cRem 1 12 key) 1 x' → x'.i = x.i → ∃ p, FU 18 (cMod (T : Int) (o x.i).2.1).toNat p T R N cap key o x' ρ w I := fun x' h' e => fkind h' (by rw [e]; exact hin) (by rw [e]; exact hi) ha (fun p x'' hx hi2 => J p x'' hx (by rw [hi2, e]))
  by_cases g : x.sq % 2 = 1
  · exact fs1o h hin hi ha ea g go
  · exact fs1e h hin hi ha ea g go
end
theorem arLen_fn {W : List Int} {st kd wd vl : Int} {ch : Bool} : Gives Tryz.prog 33 [.ptr 0 0] [AOx 1 W st kd wd vl ch, WO W] (Is (.int .i64 (W.length : Int)) [AOx 1 W st kd wd vl ch, WO W]) := by
  refine gives_x hXR (fn := Tryz.f33) rfl rfl rfl rfl fun ρ w => ?_
  refine sx hXR [] 4000 rfl (by (simp [-List.getD_eq_getElem?_getD, -List.length_eq_zero_iff, conjP])) ?_
  (exact ss_end hXR [0, 1] rfl rfl trivial rfl rfl rfl rfl (by (repeat' (first | exact rfl | exact trivial | exact sim_refl _ | refine And.intro ?_ ?_))) (by (repeat' (first | exact rfl | exact trivial | exact sim_refl _ | refine And.intro ?_ ?_))) (by (repeat' (first | exact rfl | exact trivial | exact sim_refl _ | refine And.intro ?_ ?_))) (by (repeat' (first | exact rfl | exact trivial | exact sim_refl _ | refine And.intro ?_ ?_))))
def arLenS : Hx.Spec := fun args H => match args with
  | [.ptr h 0] => match arP H h with
    | some (hw, ⟨W, st, kd, wd, vl, ch⟩, ob) => some (ob, .int .i64 (W.length : Int), (H.set h (AOx hw W st kd wd vl ch)).set hw (WO W))
    | none => none
  | _ => none
theorem arLenS_ok {args : List SV} {H : List HE} {ob : List Prop} {V : SV} {L : List HE} (hs : arLenS args H = some (ob, V, L)) (ho : AllP ob) : Gives Tryz.prog 33 args H (Is V L) := by
  unfold arLenS at hs
  split at hs
  · rename_i _ h
    split at hs
    · rename_i _ hw W st kd wd vl ch ob' hp
      simp only [Option.some.injEq, Prod.mk.injEq] at hs
      obtain ⟨rfl, rfl, rfl⟩ := hs
      obtain ⟨_, g1, g2, g3⟩ := arP_ok hp ho
      exact frame2n (H := H) (h0 := h) (h1 := hw) ⟨_, hTE⟩ arLen_fn rfl rfl rfl g3 g1 g2 rfl rfl rfl
    · simp at hs
  · simp at hs
def awF9S : List SV → Option (List Prop × SV)
  | [] => some ([], .tt)
  | _ => none
theorem awF9S_ok : PureOk 15 awF9S := by
  intro args ob V hs ho
  unfold awF9S at hs
  split at hs
  · simp only [Option.some.injEq, Prod.mk.injEq] at hs
    obtain ⟨rfl, rfl⟩ := hs
    exact ⟨rfl, rfl, awake19_fn⟩
  · simp at hs
def cfFS : List SV → Option (List Prop × SV)
  | [.agg [.int .i64 l0, .int .i64 l1]] => some ([], C9 (cAnd 7 l0) 4 1 2 4 1 6 0 (cAnd 3 l1))
  | _ => none
theorem cfFS_ok : PureOk 24 cfFS := by
  intro args ob V hs ho
  unfold cfFS at hs
  split at hs
  · simp only [Option.some.injEq, Prod.mk.injEq] at hs
    obtain ⟨rfl, rfl⟩ := hs
    exact ⟨rfl, rfl, config19_fn _ _⟩
  · simp at hs
def ctFa : Nat → Option Hx.Spec
  | 15 => some (pureS awF9S)
  | 24 => some (pureS cfFS)
  | 143 => some (pureS rightS)
  | 84 => some (pureS startS)
  | 27 => some (makeS)
  | 33 => some (arLenS)
  | 34 => some (rmakeS)
  | _ => none
theorem ctFa_ok : ∀ f s args H ob V L, ctFa f = some s → s args H = some (ob, V, L) → AllP ob → Gives Tryz.prog f args H (Is V L) := by
  intro f s args H ob V L h hs ho
  unfold ctFa at h
  split at h
  · simp at h; subst h; exact pureS_ok ⟨_, hTE⟩ (awF9S_ok) hs ho
  · simp at h; subst h; exact pureS_ok ⟨_, hTE⟩ (cfFS_ok) hs ho
  · simp at h; subst h; exact pureS_ok ⟨_, hTE⟩ (rightS_ok right143) hs ho
  · simp at h; subst h; exact pureS_ok ⟨_, hTE⟩ (startS_ok) hs ho
  · simp at h; subst h; exact makeS_ok hs ho
  · simp at h; subst h; exact arLenS_ok hs ho
  · simp at h; subst h; exact rmakeS_ok hs ho
  · simp at h
noncomputable def XFa : Tabs := tabs tr ft xt (fun _ => none) ctFa 20
theorem hXFa : TOk Tryz.prog (XFa) := ⟨hTE, hFT, ctFa_ok, hXT, fun t ks h => by simp [XFa, tabs] at h, mixed⟩
theorem cfgF_cases (q0 q1 : Int) : ∃ T : Nat, 1 ≤ T ∧ T ≤ 8 ∧ cAnd 7 q0 = (T : Int) ∧ 1 ≤ cAnd 3 q1 ∧ cAnd 3 q1 ≤ 4 := by
  have h7 := cAnd7 q0
  have h3 := cAnd3 q1
  exact ⟨(cAnd 7 q0).toNat, by omega, by omega, by omega, by omega, by omega⟩
def zF (T : Nat) (R key : Int) : Fq := ⟨(mkA (T : Int) 4 1 2 4 1 6 0 R).W, (mkA (T : Int) 4 1 2 4 1 6 0 R).st, 2, (mkA (T : Int) 4 1 2 4 1 6 0 R).wd, (mkA (T : Int) 4 1 2 4 1 6 0 R).vl, true, ⟨key, 1, 0, 0, 0, 0, 0, false, 0, 0⟩, ⟨1, 0, 0, 0, none, 0, 0⟩, 0, 0⟩
theorem mkF_len {T : Nat} {R : Int} (t1 : 1 ≤ T) (t8 : T ≤ 8) : (mkA (T : Int) 4 1 2 4 1 6 0 R).W.length = 11 + 10 * T := by
  rw [mkA_len]
  unfold sizeV
  omega
theorem mkF_fb {T : Nat} {R : Int} (t1 : 1 ≤ T) (t8 : T ≤ 8) (r1 : 1 ≤ R) (r4 : R ≤ 4) : FB T R (mkA (T : Int) 4 1 2 4 1 6 0 R).W (mkA (T : Int) 4 1 2 4 1 6 0 R).st := by
  have hr := right_FR t1 t8 r1 r4
  have hst := mkA_st hr
  exact ⟨t1, t8, r1, r4, mkF_len t1 t8, mkA_bd hr, by omega, by omega⟩
theorem f0_ok {T : Nat} {R : Int} {N : Nat} {key : Int} (t1 : 1 ≤ T) (t8 : T ≤ 8) (r1 : 1 ≤ R) (r4 : R ≤ 4) (k1 : 1 ≤ key) (k2 : key ≤ 2147483647) : FInv T R N key 0 ⟨0, zF T R key, 0⟩ := by
  have hr := right_FR t1 t8 r1 r4
  have hst := mkA_st hr
  have w2 : (mkA (T : Int) 4 1 2 4 1 6 0 R).W.getD 2 0 = 0 := mkA_zero hr (.inl rfl)
  exact ⟨mkF_fb t1 t8 r1 r4, by dsimp only [zF]; omega, fc_new k1 k2 r1, lc_new r1, rfl, w2, Int.le_refl 0, Int.le_refl 0, fa_new, la_new, fun q => absurd q (by decide), fun q => absurd q (by decide), Int.le_refl 0, Int.le_refl 0, by dsimp only [zF]; omega, by dsimp only [zF]; omega, Nat.zero_le _, Nat.zero_le _⟩
set_option maxHeartbeats 8000000 in
theorem findFails_fn (q0 q1 : Int) (N cap : Nat) (o : Nat → Int × Int × Int × Bool) (key : Int) : Gives Tryz.prog 4 [L2 q0 q1, .slice 0 0 N cap, .int .i64 key] [.obj (.rows N 4 (acF o)), pinE RTV] (Is .tt [.obj (.rows N 4 (acF o)), pinE RTV]) := by
  have hX := hXFa
  obtain ⟨T, t1, t8, eT, r1, r4⟩ := cfgF_cases q0 q1
  generalize hR : cAnd 3 q1 = R at r1 r4
  have hr := right_FR t1 t8 r1 r4
  obtain ⟨kq1, kq2⟩ := cRemB 1 12 key (by decide) (by decide) (by decide) (by decide)
  have kn2 : cRem 1 12 key ≤ 2147483647 := by omega
  have sn := start_nn hr kq1 kn2
  have sn2 : ¬ startV (T : Int) 4 1 2 4 1 6 0 R (cRem 1 12 key) = -1 := by omega
  have ek : IntKind.i64.wrap (1 + (IntKind.i64.wrap (key.tmod 12 + 12)).tmod 12) = cRem 1 12 key := rfl
  refine gives_x hX (fn := Tryz.f4) rfl rfl rfl rfl fun ρ w => ?_
  refine sxb hX [.l] [.F, .F, .F] 4000 rfl (by simp [conjP, eT, hR, hr, ek, sn2]) ?_
  simp only [eT, hR]
  refine ss_sub hX (T' := ffT N cap key ⟨0, zF T R (cRem 1 12 key), 0⟩) (H' := fK N o T R ⟨0, zF T R (cRem 1 12 key), 0⟩) [0, 1, 3, 5, 4, 7, 10, 60, 11] rfl rfl rfl rfl ?tt ?hh ?ot ?ok ?_
  case tt => exact clhG
  case hh => exact clhG
  case ot => exact clkG
  case ok => exact clkG
  refine ss_loop hX (ffT N cap key) (fK N o T R) (FInv T R N (cRem 1 12 key) 0) (fun x => 100 - x.i) _ (f0_ok t1 t8 r1 r4 kq1 kn2) ?_
  intro x hx I back
  by_cases hlt : x.i < N ∧ x.i < 100
  · obtain ⟨p, hp⟩ := fturn (cap := cap) (o := o) (ρ := ρ) (w := w) (I := I) hx hlt.1 hlt.2 (fun p x' hx' hi' cs TT H hsub => ss_sw (hXFf p) (sw_ss hX (back x' hx' (by show 100 - x'.i < 100 - x.i; omega) cs TT H hsub)))
    refine sxb hX [.r 11] [] 100 rfl trivial ?_
    exact ss_sw hX (sw_ss (hXFf p) (cs := []) hp)
  · have hn : (x.i : Int) < (N : Int) → ¬ (x.i : Int) < 100 := fun q q2 => hlt ⟨by omega, by omega⟩
    have hl : x.z.W.length = (mkA (T : Int) 4 1 2 4 1 6 0 R).W.length := by rw [mkF_len t1 t8]; exact hx.b.hl
    have hl2 : ((x.z.W.length : Int) == ((mkA (T : Int) 4 1 2 4 1 6 0 R).W.length : Int)) = true := by rw [hl]; simp
    dsimp only [ffT, fK, ffH]
    refine sx hX [] 4000 rfl (by (simp [-List.getD_eq_getElem?_getD, -List.length_eq_zero_iff, conjP])) ?_
    refine ss_pb hX [] [] 4000 rfl (fun hb0 => ?_) (fun hb0 => ?_)
    · try simp [-List.getD_eq_getElem?_getD, -List.length_eq_zero_iff] at hb0
      refine sx hX [.T] 4000 rfl (by (simp [-List.getD_eq_getElem?_getD, -List.length_eq_zero_iff, conjP, addOP, hb0])) ?_
      refine sx hX [.F] 4000 rfl (by (simp [-List.getD_eq_getElem?_getD, -List.length_eq_zero_iff, conjP, getH, HE.so, hn, hr, hl, hb0])) ?_
      (refine ss_end hX [0, 1] rfl rfl trivial rfl rfl rfl rfl ?tt ?hh ?ot ?ok; (case tt => first | exact hl2 | exact clhG); (case hh => exact clhG); (case ot => exact clkG); (case ok => exact clkG))
    · try simp [-List.getD_eq_getElem?_getD, -List.length_eq_zero_iff] at hb0
      refine sx hX [.F] 4000 rfl (by (simp [-List.getD_eq_getElem?_getD, -List.length_eq_zero_iff, conjP, getH, HE.so, hr, hl, hb0])) ?_
      (refine ss_end hX [0, 1] rfl rfl trivial rfl rfl rfl rfl ?tt ?hh ?ot ?ok; (case tt => first | exact hl2 | exact clhG); (case hh => exact clhG); (case ot => exact clkG); (case ok => exact clkG))
set_option maxHeartbeats 8000000 in
theorem findFails_nil (q0 q1 : Int) (a : Option Addr) (key : Int) : Gives Tryz.prog 4 [L2 q0 q1, .raw (.slice a 0 0), .int .i64 key] [pinE RTV] (Is .tt [pinE RTV]) := by
  have hX := hXFa
  obtain ⟨T, t1, t8, eT, r1, r4⟩ := cfgF_cases q0 q1
  generalize hR : cAnd 3 q1 = R at r1 r4
  have hr := right_FR t1 t8 r1 r4
  obtain ⟨kq1, kq2⟩ := cRemB 1 12 key (by decide) (by decide) (by decide) (by decide)
  have kn2 : cRem 1 12 key ≤ 2147483647 := by omega
  have sn := start_nn hr kq1 kn2
  have sn2 : ¬ startV (T : Int) 4 1 2 4 1 6 0 R (cRem 1 12 key) = -1 := by omega
  have ek : IntKind.i64.wrap (1 + (IntKind.i64.wrap (key.tmod 12 + 12)).tmod 12) = cRem 1 12 key := rfl
  refine gives_x hX (fn := Tryz.f4) rfl rfl rfl rfl fun ρ w => ?_
  refine sx hX [] 4000 rfl (by (simp [-List.getD_eq_getElem?_getD, -List.length_eq_zero_iff, conjP, eT, hR, hr])) ?_
  refine sx hX [.F] 4000 rfl (by (simp [-List.getD_eq_getElem?_getD, -List.length_eq_zero_iff, conjP, addOP, eT, hR, ek, sn2])) ?_
  refine sx hX [.F] 4000 rfl (by (simp [-List.getD_eq_getElem?_getD, -List.length_eq_zero_iff, conjP, addOP, eT, hR, hr])) ?_
  refine sx hX [.F] 4000 rfl (by (simp [-List.getD_eq_getElem?_getD, -List.length_eq_zero_iff, conjP, getH, HE.so, eT, hR, hr])) ?_
  (refine ss_end hX [0] rfl rfl trivial rfl rfl rfl rfl ?tt ?hh ?ot ?ok; (case tt => exact beq_self_eq_true _); (case hh => exact clhG); (case ot => exact clkG); (case ok => exact clkG))
end Go.Proofs.YtkkddjchkkaagaaGreatDoor
namespace Go.Proofs.YtkkddjchkkaagaaGreatDoor.findFails
open Go Go.Hx
abbrev ks54 : List (Option IntKind) := [some .i64, some .i64, some .i64, none]
theorem row_of (l : List SV) (h : okK ks54 l) : ∃ o : Int × Int × Int × Bool, l = acF (fun _ => o) 0 := by
  rcases l with _ | ⟨a, _ | ⟨b, _ | ⟨c, _ | ⟨d, _ | ⟨e, r⟩⟩⟩⟩⟩ <;> simp only [okK, and_false] at h
  obtain ⟨⟨n1, rfl, _⟩, ⟨n2, rfl, _⟩, ⟨n3, rfl, _⟩, ⟨n4, rfl⟩, _⟩ := h
  exact ⟨(n1, n2, n3, n4), rfl⟩
theorem rows_of (o : Nat → List SV) (h : ∀ i, okK ks54 (o i)) : ∃ q : Nat → Int × Int × Int × Bool, o = acF q :=
  ⟨fun i => Classical.choose (row_of (o i) (h i)), funext fun i => Classical.choose_spec (row_of (o i) (h i))⟩
theorem walk_nil (a : Option Addr) (l : List SV) (h : okK [some .i64, some .i64] l) (m : Int) (_ : (Lit.int .i64 m).wf = true) : ∃ L, Gives Tryz.prog 4 [.agg l, .raw (.slice a 0 0), .int .i64 m] [pinE RTV] (Is .tt L) := by
  rcases l with _ | ⟨x, _ | ⟨y, _ | ⟨z, r⟩⟩⟩ <;> simp only [okK, and_false] at h
  obtain ⟨⟨n0, rfl, _⟩, ⟨n1, rfl, _⟩, _⟩ := h
  exact ⟨_, findFails_nil n0 n1 a m⟩
theorem walk (l : List SV) (h : okK [some .i64, some .i64] l) (m : Int) (_ : (Lit.int .i64 m).wf = true) (o : Nat → List SV) (ho : ∀ i, okK ks54 (o i)) (len cap : Nat) (_ : len ≤ maxLen) : ∃ L, Gives Tryz.prog 4 [.agg l, .slice 0 0 len cap, .int .i64 m] [.obj (.rows len 4 o), pinE RTV] (Is .tt L) := by
  rcases l with _ | ⟨x, _ | ⟨y, _ | ⟨z, r⟩⟩⟩ <;> simp only [okK, and_false] at h
  obtain ⟨⟨n0, rfl, _⟩, ⟨n1, rfl, _⟩, _⟩ := h
  obtain ⟨q, rfl⟩ := rows_of o ho
  exact ⟨_, findFails_fn n0 n1 len cap q m⟩
end Go.Proofs.YtkkddjchkkaagaaGreatDoor.findFails
