/- TopicsOnce: no key stands twice; as long as nobody holds the directory, a place has an entry just if its control word is Live; one client holds it at most, and its number is odd just then. -/
import Derived.Test.YtkkddjchkkaagaaGreatDoorOnceBusy
import Derived.Test.YtkkddjchkkaagaaGreatDoorOnceTurnA
import Derived.Test.YtkkddjchkkaagaaGreatDoorOnceTurnB
import Derived.Test.YtkkddjchkkaagaaGreatDoorOncePlaces
namespace Go.Proofs.YtkkddjchkkaagaaGreatDoor
open Go Go.Hx
set_option maxRecDepth 8000
def awTS : List SV → Option (List Prop × SV)
  | [] => some ([], .tt)
  | _ => none
theorem awTS_ok : PureOk 50 awTS := by
  intro args ob V hs ho
  unfold awTS at hs
  split at hs
  · simp only [Option.some.injEq, Prod.mk.injEq] at hs
    obtain ⟨rfl, rfl⟩ := hs
    exact ⟨rfl, rfl, awakeT_fn⟩
  · simp at hs
def cfgGS : List SV → Option (List Prop × SV)
  | [.agg [.int .i64 l0, .int .i64 l1]] => some ([], C9 (cAnd 3 l0) 4 1 4 4 1 6 0 (cAnd 7 l1))
  | _ => none
theorem cfgGS_ok : PureOk 51 cfgGS := by
  intro args ob V hs ho
  unfold cfgGS at hs
  split at hs
  · simp only [Option.some.injEq, Prod.mk.injEq] at hs
    obtain ⟨rfl, rfl⟩ := hs
    exact ⟨rfl, rfl, configT_fn _ _⟩
  · simp at hs
def ctTa : Nat → Option Hx.Spec
  | 50 => some (pureS awTS)
  | 51 => some (pureS cfgGS)
  | 143 => some (pureS rightS)
  | 27 => some (makeS)
  | _ => none
theorem ctTa_ok : ∀ f s args H ob V L, ctTa f = some s → s args H = some (ob, V, L) → AllP ob → Gives Tryz.prog f args H (Is V L) := by
  intro f s args H ob V L h hs ho
  unfold ctTa at h
  split at h
  · simp at h; subst h; exact pureS_ok ⟨_, hTE⟩ (awTS_ok) hs ho
  · simp at h; subst h; exact pureS_ok ⟨_, hTE⟩ (cfgGS_ok) hs ho
  · simp at h; subst h; exact pureS_ok ⟨_, hTE⟩ (rightS_ok right143) hs ho
  · simp at h; subst h; exact makeS_ok hs ho
  · simp at h
noncomputable def XTa : Tabs := tabs tr ft xt (fun _ => none) ctTa 20
theorem hXTa : TOk Tryz.prog (XTa) := ⟨hTE, hFT, ctTa_ok, hXT, fun t ks h => by simp [XTa, tabs] at h, mixed⟩
section
variable {T : Nat} {R : Int} {N cap : Nat} {o : Nat → Int × Int × Bool × Bool} {x : AS} {ρ : Nat → Nat × Nat} {w : World} {I : Act → World → Prop}
theorem tk0 (h : OInv T R N 0 x) (hin : x.i < N) (hi : x.i < 200) (hc : x.z.c0 ≠ none) (J : OJ T R N cap o x ρ w I) : ∃ p, OK p 0 T R N cap o x ρ w I := by
  rcases hs : x.z.c0 with _ | ⟨rm, lg, key, ph, seq, j, fd, hd, tm, er, pl, sn, fl, bk, ep, tp, tl⟩
  · exact absurd hs hc
  · rcases rm with _ | _
    · by_cases e0 : (tStep T R (sfT T R key) ⟨false, lg, key, ph, seq, j, fd, hd, tm, er, pl, sn, fl, bk, ep, tp, tl⟩ x.z.W x.z.st).s.ph = 0
      · exact tt0cd h hin hi hs rfl e0 J
      · exact tt0cn h hin hi hs rfl e0 J
    · by_cases e0 : (tStep T R (sfT T R key) ⟨true, lg, key, ph, seq, j, fd, hd, tm, er, pl, sn, fl, bk, ep, tp, tl⟩ x.z.W x.z.st).s.ph = 0
      · exact tt0rd h hin hi hs rfl e0 J
      · exact tt0rn h hin hi hs rfl e0 J
theorem tk1 (h : OInv T R N 0 x) (hin : x.i < N) (hi : x.i < 200) (hc : x.z.c1 ≠ none) (J : OJ T R N cap o x ρ w I) : ∃ p, OK p 1 T R N cap o x ρ w I := by
  rcases hs : x.z.c1 with _ | ⟨rm, lg, key, ph, seq, j, fd, hd, tm, er, pl, sn, fl, bk, ep, tp, tl⟩
  · exact absurd hs hc
  · rcases rm with _ | _
    · by_cases e0 : (tStep T R (sfT T R key) ⟨false, lg, key, ph, seq, j, fd, hd, tm, er, pl, sn, fl, bk, ep, tp, tl⟩ x.z.W x.z.st).s.ph = 0
      · exact tt1cd h hin hi hs rfl e0 J
      · exact tt1cn h hin hi hs rfl e0 J
    · by_cases e0 : (tStep T R (sfT T R key) ⟨true, lg, key, ph, seq, j, fd, hd, tm, er, pl, sn, fl, bk, ep, tp, tl⟩ x.z.W x.z.st).s.ph = 0
      · exact tt1rd h hin hi hs rfl e0 J
      · exact tt1rn h hin hi hs rfl e0 J
theorem tk2 (h : OInv T R N 0 x) (hin : x.i < N) (hi : x.i < 200) (hc : x.z.c2 ≠ none) (J : OJ T R N cap o x ρ w I) : ∃ p, OK p 2 T R N cap o x ρ w I := by
  rcases hs : x.z.c2 with _ | ⟨rm, lg, key, ph, seq, j, fd, hd, tm, er, pl, sn, fl, bk, ep, tp, tl⟩
  · exact absurd hs hc
  · rcases rm with _ | _
    · by_cases e0 : (tStep T R (sfT T R key) ⟨false, lg, key, ph, seq, j, fd, hd, tm, er, pl, sn, fl, bk, ep, tp, tl⟩ x.z.W x.z.st).s.ph = 0
      · exact tt2cd h hin hi hs rfl e0 J
      · exact tt2cn h hin hi hs rfl e0 J
    · by_cases e0 : (tStep T R (sfT T R key) ⟨true, lg, key, ph, seq, j, fd, hd, tm, er, pl, sn, fl, bk, ep, tp, tl⟩ x.z.W x.z.st).s.ph = 0
      · exact tt2rd h hin hi hs rfl e0 J
      · exact tt2rn h hin hi hs rfl e0 J
theorem toa (h : OInv T R N 0 x) (hin : x.i < N) (hi : x.i < 200) (J : OJ T R N cap o x ρ w I) : ∃ p, OG p T R N cap o x ρ w I := by
  rcases a3_cases (o x.i).1 with ha | ha | ha | ha
  · rcases hc : x.z.c0 with _ | ⟨rm, lg, key, ph, seq, j, fd, hd, tm, er, pl, sn, fl, bk, ep, tp, tl⟩
    · rcases hbk : (o x.i).2.2.1 with _ | _
      · exact tg0f h hin hi ha hc hbk (fun x' h' e ne => tk0 h' (by rw [e]; exact hin) (by rw [e]; exact hi) ne fun x'' hx hi2 => J x'' hx (by rw [hi2, e]))
      · exact tg0t h hin hi ha hc hbk (fun x' h' e ne => tk0 h' (by rw [e]; exact hin) (by rw [e]; exact hi) ne fun x'' hx hi2 => J x'' hx (by rw [hi2, e]))
    · rcases rm with _ | _
      · exact to0c h hin hi ha hc (fun x' h' e ne => tk0 h' (by rw [e]; exact hin) (by rw [e]; exact hi) ne fun x'' hx hi2 => J x'' hx (by rw [hi2, e]))
      · exact to0r h hin hi ha hc (fun x' h' e ne => tk0 h' (by rw [e]; exact hin) (by rw [e]; exact hi) ne fun x'' hx hi2 => J x'' hx (by rw [hi2, e]))
  · rcases hc : x.z.c1 with _ | ⟨rm, lg, key, ph, seq, j, fd, hd, tm, er, pl, sn, fl, bk, ep, tp, tl⟩
    · rcases hbk : (o x.i).2.2.1 with _ | _
      · exact tg1f h hin hi ha hc hbk (fun x' h' e ne => tk1 h' (by rw [e]; exact hin) (by rw [e]; exact hi) ne fun x'' hx hi2 => J x'' hx (by rw [hi2, e]))
      · exact tg1t h hin hi ha hc hbk (fun x' h' e ne => tk1 h' (by rw [e]; exact hin) (by rw [e]; exact hi) ne fun x'' hx hi2 => J x'' hx (by rw [hi2, e]))
    · rcases rm with _ | _
      · exact to1c h hin hi ha hc (fun x' h' e ne => tk1 h' (by rw [e]; exact hin) (by rw [e]; exact hi) ne fun x'' hx hi2 => J x'' hx (by rw [hi2, e]))
      · exact to1r h hin hi ha hc (fun x' h' e ne => tk1 h' (by rw [e]; exact hin) (by rw [e]; exact hi) ne fun x'' hx hi2 => J x'' hx (by rw [hi2, e]))
  · rcases hc : x.z.c2 with _ | ⟨rm, lg, key, ph, seq, j, fd, hd, tm, er, pl, sn, fl, bk, ep, tp, tl⟩
    · rcases hbk : (o x.i).2.2.1 with _ | _
      · exact tg2f h hin hi ha hc hbk (fun x' h' e ne => tk2 h' (by rw [e]; exact hin) (by rw [e]; exact hi) ne fun x'' hx hi2 => J x'' hx (by rw [hi2, e]))
      · exact tg2t h hin hi ha hc hbk (fun x' h' e ne => tk2 h' (by rw [e]; exact hin) (by rw [e]; exact hi) ne fun x'' hx hi2 => J x'' hx (by rw [hi2, e]))
    · rcases rm with _ | _
      · exact to2c h hin hi ha hc (fun x' h' e ne => tk2 h' (by rw [e]; exact hin) (by rw [e]; exact hi) ne fun x'' hx hi2 => J x'' hx (by rw [hi2, e]))
      · exact to2r h hin hi ha hc (fun x' h' e ne => tk2 h' (by rw [e]; exact hin) (by rw [e]; exact hi) ne fun x'' hx hi2 => J x'' hx (by rw [hi2, e]))
  · obtain ⟨qq, hq, eq⟩ := busy_ctl h.b.t1 h.b.t4 (o x.i).2.1
    rcases g : liW (x.z.W.getD (cP T qq) 0) with _ | _
    · exact tabf h hin hi ha hq eq g J
    · exact tabt h hin hi ha hq eq g J
abbrev OB (T : Nat) (R : Int) (N cap : Nat) (o : Nat → Int × Int × Bool × Bool) (x : AS) (ρ : Nat → Nat × Nat) (w : World) (I : Act → World → Prop) : Prop :=
  ∀ x', OInv T R N 0 x' → x'.i = x.i + 1 → ∀ cs TT H, Sub (FEnv Tryz.prog XTm.TE hXTm.te Tryz.f8 Tryz.f8.ntmps [.obj (.rows N 4 (actR o)), pinE RTV] (Is .tt [.obj (.rows N 4 (actR o)), pinE RTV]) ρ w) TT H (onT N cap x') (onH N o T R x') →
    SS hXTm (At ρ w) (Is .tt [.obj (.rows N 4 (actR o)), pinE RTV]) ⟨cs, [], Tryz.f8, Tryz.f8.ntmps, [.obj (.rows N 4 (actR o)), pinE RTV], downLp (contF Tryz.f8 8 [I]), TT, H⟩
set_option maxHeartbeats 4000000 in
/-- The places, one behind the other. -/
theorem oplc (h : OInv T R N 1 x) (hin : x.i < N) (hi : x.i < 200) (J : OB T R N cap o x ρ w I) {n : Int} (hn : n = hoN x.z 3) :
    SS hXTm (At ρ w) (Is .tt [.obj (.rows N 4 (actR o)), pinE RTV]) ⟨[], [], Tryz.f8, Tryz.f8.ntmps, [.obj (.rows N 4 (actR o)), pinE RTV], contF Tryz.f8 31 [I], [(1, .slice 0 0 N cap), (5, .tt), (6, .ptr 2 0), (7, .ptr 3 0), (9, .slice 5 0 3 3), (10, .int .i64 (x.i : Int)), (15, .int .i64 n), (17, .sbuf 15 1 0 x.z.W.length), (18, .nilslice)], tqH (.obj (.rows N 4 (actR o))) T R x.z [wdE x.z.W]⟩ := by
  have hX := hXTm
  have hb0 := b2_r (hdO x.z.c0)
  have hb1 := b2_r (hdO x.z.c1)
  have hb2 := b2_r (hdO x.z.c2)
  have hh := hold1 h.d
  have hn01 : n = 0 ∨ n = 1 := by simp only [hoN] at hn; omega
  have t1 := h.b.t1
  dsimp only [tqH]
  refine sxb hX [.l] [] 4000 rfl trivial ?_
  refine ss_sub hX (T' := plT N cap x n 0) (H' := plH N o T R x 0) [0, 1, 2, 3, 4, 5, 6, 7, 8, 9, 10, 11, 12, 13, 14, 15, 60] rfl rfl rfl rfl (by exact clhO) (by exact clhO) (by exact clkO) (by exact clkO) ?_
  refine ss_loop hX (plT N cap x n) (plH N o T R x) (fun p => p ≤ T) (fun p => T - p) 0 (Nat.zero_le _) ?_
  intro p hp I2 back
  have hp : p ≤ T := hp
  by_cases hlt : p < T
  · have bk : PJ N cap o T R x ρ w I2 I n (kyL x.z.W (p + 1)) p := fun cs TT H hsub => ss_sw hX (sw_ss hX (back (p + 1) (by show p + 1 ≤ T; omega) (by show T - (p + 1) < T - p; omega) [] TT H hsub))
    have key : PG N cap o T R x ρ w I2 I n (kyL x.z.W p) p := by
      have bk' := bk
      unfold kyL at bk'
      have tl4 := h.b.t4
      rcases hK : isK (x.z.W.getD (eP p) 0) with _ | _
      · rw [if_neg (by rw [hK]; decide)] at bk'
        rcases hl : kyL x.z.W p with _ | ll
        · rw [hl] at bk'
          rcases hn01 with e | e
          · subst e; exact plnf0 h hin hi hlt hK (by rw [← live0 h.d (by simp only [hoN] at hn; omega) hlt]; exact hK) bk'
          · subst e; exact plnf1 h hin hi hlt hK bk'
        · rw [hl] at bk'
          have hlen := kyL_len hl
          rcases hn01 with e | e
          · subst e; exact plsf0 h hin hi hlt (by omega) hK (by rw [← live0 h.d (by simp only [hoN] at hn; omega) hlt]; exact hK) bk'
          · subst e; exact plsf1 h hin hi hlt (by omega) hK bk'
      · rw [if_pos hK] at bk'
        rcases hl : kyL x.z.W p with _ | ll
        · rw [hl] at bk'
          rcases hn01 with e | e
          · subst e; exact plnt0 h hin hi hlt hK (by rw [← live0 h.d (by simp only [hoN] at hn; omega) hlt]; exact hK) bk'
          · subst e; exact plnt1 h hin hi hlt hK bk'
        · rw [hl] at bk'
          have hlen := kyL_len hl
          have hno := kyL_not h.d.de hlt hK hl
          rcases hn01 with e | e
          · subst e; exact plst0 h hin hi hlt (by omega) hno hK (by rw [← live0 h.d (by simp only [hoN] at hn; omega) hlt]; exact hK) bk'
          · subst e; exact plst1 h hin hi hlt (by omega) hno hK bk'
    refine sxb hX [.r 32] [] 100 rfl trivial ?_
    exact key
  · have ep : p = T := by omega
    subst ep
    have F := h.facts hin hi
    obtain ⟨i, ⟨W, st, kd, wd, vl, ch, c0, c1, c2, p0, p1, p2, k0, k1, k2⟩⟩ := x
    dsimp only at hin hi F J
    obtain ⟨hin1, hi1, ewi, t1, t4, r1, r8, hl, s0, s1, hw⟩ := F
    have hr := right_TR t1 t4 r1 r8
    have hnl : ¬ (p : Int) < (p : Int) := by omega
    dsimp only [plT, plH, tqH]
    refine sx hX [] 4000 rfl (by (simp [-List.getD_eq_getElem?_getD, -List.length_eq_zero_iff, conjP])) ?_
    refine sx hX [.F] 4000 rfl (by (simp [-List.getD_eq_getElem?_getD, -List.length_eq_zero_iff, conjP, addOP, hnl])) ?_
    (refine J ⟨i + 1, ⟨W, st, kd, wd, vl, ch, c0, c1, c2, p0, p1, p2, k0, k1, k2⟩⟩ ⟨h.b.mono (by (try dsimp only); omega) (by (try dsimp only); omega), okO_mono (by (try dsimp only); omega) h.c0, okO_mono (by (try dsimp only); omega) h.c1, okO_mono (by (try dsimp only); omega) h.c2, h.d, by (try dsimp only); omega, by (try dsimp only); omega⟩ rfl _ _ _ (sub_of [0, 1, 2, 3, 4, 5, 6, 7, 8, 9, 10, 11, 12, 13, 14] rfl rfl rfl rfl ?tt ?hh ?ot ?ok); (case tt => simp only [ewi]; exact clhO); (case hh => exact clhO); (case ot => exact clkO); (case ok => exact clkO))
set_option maxHeartbeats 4000000 in
/-- Behind a turn: how many hold the directory. -/
theorem omid (h : OInv T R N 1 x) (hin : x.i < N) (hi : x.i < 200) (J : OB T R N cap o x ρ w I) :
    SS hXTm (At ρ w) (Is .tt [.obj (.rows N 4 (actR o)), pinE RTV]) ⟨[], [], Tryz.f8, Tryz.f8.ntmps, [.obj (.rows N 4 (actR o)), pinE RTV], contF Tryz.f8 21 [I], onT N cap x, onH N o T R x⟩ := by
  have hX := hXTm
  dsimp only [onT, onH, tqH]
  refine sxb hX [.l] [] 4000 rfl trivial ?_
  refine ss_sub hX (T' := onM N cap x 0) (H' := onH N o T R x) [0, 1, 2, 3, 4, 5, 6, 7, 8, 9, 10, 11, 12, 13, 14] rfl rfl rfl rfl (by exact clhO) (by exact clhO) (by exact clkO) (by exact clkO) ?_
  refine ss_loop hX (onM N cap x) (fun _ => onH N o T R x) (fun j => j ≤ 3) (fun j => 3 - j) 0 (by decide) ?_
  intro j hj I2 back
  have hj : j ≤ 3 := hj
  have bk : j < 3 → MJ N cap o T R x ρ w I2 I j := fun hl cs TT H hsub => ss_sw hX (sw_ss hX (back (j + 1) (by show j + 1 ≤ 3; omega) (by show 3 - (j + 1) < 3 - j; omega) [] TT H hsub))
  have hc : j = 0 ∨ j = 1 ∨ j = 2 ∨ j = 3 := by omega
  rcases hc with rfl | rfl | rfl | rfl
  · refine sxb hX [.r 23] [] 100 rfl trivial ?_
    exact mh0 h (bk (by decide))
  · refine sxb hX [.r 23] [] 100 rfl trivial ?_
    exact mh1 h (bk (by decide))
  · refine sxb hX [.r 23] [] 100 rfl trivial ?_
    exact mh2 h (bk (by decide))
  · have hb0 := b2_r (hdO x.z.c0)
    have hb1 := b2_r (hdO x.z.c1)
    have hb2 := b2_r (hdO x.z.c2)
    have hh := hold1 h.d
    have hz := oplc h hin hi J rfl
    have F := h.facts hin hi
    have hw2 := h.b.hw 2
    generalize hn : hoN x.z 3 = n at hz
    have hn1 : n ≤ 1 := by simp only [hoN] at hn; omega
    have hn0 : ¬ 1 < n := by omega
    have hne : IntKind.i64.wrap ((x.z.W.getD 2 0).tmod 2) = n := by
      rw [Int.tmod_eq_emod_of_nonneg hw2.1, wi64 (by omega) (by omega)]
      simp only [hoN] at hn
      omega
    have hl5 : x.z.W.length ≤ 5000 := by have := h.b.hl; have := h.b.t4; omega
    have h2l : (2 : Int) < (x.z.W.length : Int) := by have := h.b.hl; omega
    dsimp only [onM, onH, tqH] at hz ⊢
    rw [hn]
    refine sxb hX [.r 31] [] 4000 rfl (by (simp [-List.getD_eq_getElem?_getD, -List.length_eq_zero_iff, conjP])) ?_
    refine sxb hX [.r 31] [.F] 4000 rfl (by (simp [-List.getD_eq_getElem?_getD, -List.length_eq_zero_iff, conjP, hl5])) ?_
    refine sxb hX [.r 31] [.F] 4000 rfl (by (simp [-List.getD_eq_getElem?_getD, -List.length_eq_zero_iff, conjP, hn0, h2l, two_nat, cellOff] <;> (first | omega | ((repeat' (refine And.intro ?_ ?_)) <;> (first | omega | exact decide_eq_false (by omega) | exact decide_eq_true (by omega)))))) ?_
    refine sxb hX [.r 31] [.F] 4000 rfl (by (simp [-List.getD_eq_getElem?_getD, -List.length_eq_zero_iff, conjP, addOP, hne, two_nat, cellOff])) ?_
    (refine ss_sub hX (T' := [(1, .slice 0 0 N cap), (5, .tt), (6, .ptr 2 0), (7, .ptr 3 0), (9, .slice 5 0 3 3), (10, .int .i64 (x.i : Int)), (15, .int .i64 n), (17, .sbuf 15 1 0 x.z.W.length), (18, .nilslice)]) (H' := tqH (.obj (.rows N 4 (actR o))) T R x.z [wdE x.z.W]) [0, 1, 2, 3, 4, 5, 6, 7, 8, 9, 10, 11, 12, 13, 14, 15] rfl rfl rfl rfl ?tt ?hh ?ot ?ok hz; (case tt => exact clhO); (case hh => exact clhO); (case ot => exact clkO); (case ok => exact clkO))
end
theorem mkQ_d {T : Nat} {R : Int} (t1 : 1 ≤ T) (t4 : T ≤ 4) (r1 : 1 ≤ R) (r8 : R ≤ 8) : DInv T (sfT T R) (mkA (T : Int) 4 1 4 4 1 6 0 R).W (cf3 none none none) := by
  have hr := right_TR t1 t4 r1 r8
  have w2 : (mkA (T : Int) 4 1 4 4 1 6 0 R).W.getD 2 0 = 0 := mkA_zero hr (.inl rfl)
  have we : ∀ p, p < T → (mkA (T : Int) 4 1 4 4 1 6 0 R).W.getD (eP p) 0 = 0 := fun p hp => mkA_zero hr (.inr ⟨by unfold eP; omega, by unfold eP; omega⟩)
  have wc : ∀ p, p < T → (mkA (T : Int) 4 1 4 4 1 6 0 R).W.getD (cP T p) 0 = 0 := fun p hp => mkA_zero hr (.inr ⟨by unfold cP; omega, by unfold cP; omega⟩)
  have nn : ∀ a s, cf3 none none none a ≠ some s := fun a s => by rcases a with _ | _ | _ | a <;> simp [cf3]
  have k0 : isK 0 = false := by decide
  refine ⟨⟨t1, mkQ_len t1 t4, fun p hp => .inl (we p hp), fun p q hp _ a _ _ => ?_, fun p j hp a _ => ?_⟩, fun a b s t h _ _ _ => absurd h (nn a s), ?_, fun a s h _ => absurd h (nn a s), fun a s h => absurd h (nn a s), fun a s h _ => absurd h (nn a s), fun p hp => .inr ?_, fun a s h _ => absurd h (nn a s)⟩
  · rw [we p hp, k0] at a; cases a
  · rw [we p hp, k0] at a; cases a
  · rw [w2]
    exact ⟨fun q => by omega, fun ⟨a, s, h, _⟩ => absurd h (nn a s)⟩
  · rw [we p hp, wc p hp]; decide
theorem on0_ok {T : Nat} {R : Int} {N : Nat} (t1 : 1 ≤ T) (t4 : T ≤ 4) (r1 : 1 ≤ R) (r8 : R ≤ 8) (v : Nat → Value) : OInv T R N 0 ⟨0, mkQ T R v⟩ :=
  ⟨mkQ_bi t1 t4 r1 r8, trivial, trivial, trivial, mkQ_d t1 t4 r1 r8, Nat.zero_le _, Nat.zero_le _⟩
set_option maxHeartbeats 8000000 in
theorem topicsOnce_fn (q0 q1 : Int) (N cap : Nat) (o : Nat → Int × Int × Bool × Bool) : Gives Tryz.prog 8 [L2 q0 q1, .slice 0 0 N cap] [.obj (.rows N 4 (actR o)), pinE RTV] (Is .tt [.obj (.rows N 4 (actR o)), pinE RTV]) := by
  have hX := hXTa
  obtain ⟨T, t1, t4, eT, r1, r8⟩ := cfg_cases q0 q1
  generalize hR : cAnd 7 q1 = R at r1 r8
  have hr := right_TR t1 t4 r1 r8
  refine gives_x hX (fn := Tryz.f8) rfl rfl rfl rfl fun ρ w => ?_
  refine sxb hX [.l] [] 4000 rfl (by simp [conjP, eT, hR, hr]) ?_
  simp only [eT, hR]
  refine ss_raw hX 6 2 rfl rfl fun v0 => ?_
  refine ss_raw hX 7 2 rfl rfl fun v1 => ?_
  refine ss_raw hX 8 2 rfl rfl fun v2 => ?_
  refine ss_sub hX (T' := onT N cap ⟨0, mkQ T R (vv3 v0 v1 v2)⟩) (H' := onH N o T R ⟨0, mkQ T R (vv3 v0 v1 v2)⟩) [0, 1, 3, 5, 4, 9, 6, 7, 8, 60, 61, 62, 63, 64, 65] rfl rfl rfl rfl ?tt ?hh ?ot ?ok ?_
  case tt => (exact clhT)
  case hh => (exact clhT)
  case ot => (exact clkT)
  case ok => (exact clkT)
  refine ss_loop hX (onT N cap) (onH N o T R) (OInv T R N 0) (fun x => 200 - x.i) _ (on0_ok t1 t4 r1 r8 _) ?_
  intro x hx I back
  by_cases hlt : x.i < N ∧ x.i < 200
  · have hj : OJ T R N cap o x ρ w I := fun x1 h1 e1 => ⟨⟨T, R, 0, 0, false, false, t00, r00⟩, ss_sw _ (sw_ss hXTm (cs := []) (omid h1 (by rw [e1]; exact hlt.1) (by rw [e1]; exact hlt.2) (fun x' hx' hi' cs TT H hsub => ss_sw hXTm (sw_ss hX (back x' hx' (by show 200 - x'.i < 200 - x.i; omega) [] TT H hsub)))))⟩
    obtain ⟨p, hp⟩ := toa (cap := cap) (o := o) (ρ := ρ) (w := w) (I := I) hx hlt.1 hlt.2 hj
    refine sxb hX [.r 8] [] 100 rfl trivial ?_
    exact ss_sw hX (sw_ss (hXTl p) (cs := []) hp)
  · have hn : (x.i : Int) < (N : Int) → ¬ (x.i : Int) < 200 := fun q q2 => hlt ⟨by omega, by omega⟩
    dsimp only [onT, onH, tqH]
    refine sx hX [] 4000 rfl (by (simp [-List.getD_eq_getElem?_getD, -List.length_eq_zero_iff, conjP])) ?_
    refine ss_pb hX [] [] 4000 rfl (fun hb0 => ?_) (fun hb0 => ?_)
    · try simp [-List.getD_eq_getElem?_getD, -List.length_eq_zero_iff] at hb0
      refine sx hX [.T] 4000 rfl (by (simp [-List.getD_eq_getElem?_getD, -List.length_eq_zero_iff, conjP, addOP, hb0])) ?_
      refine sx hX [.F] 4000 rfl (by (simp [-List.getD_eq_getElem?_getD, -List.length_eq_zero_iff, conjP, addOP, hn, hb0])) ?_
      (refine ss_end hX [0, 1] rfl rfl trivial rfl rfl rfl rfl ?tt ?hh ?ot ?ok; (case tt => (exact clhT)); (case hh => (exact clhT)); (case ot => (exact clkT)); (case ok => (exact clkT)))
    · try simp [-List.getD_eq_getElem?_getD, -List.length_eq_zero_iff] at hb0
      refine sx hX [.F] 4000 rfl (by (simp [-List.getD_eq_getElem?_getD, -List.length_eq_zero_iff, conjP, addOP, hb0])) ?_
      (refine ss_end hX [0, 1] rfl rfl trivial rfl rfl rfl rfl ?tt ?hh ?ot ?ok; (case tt => (exact clhT)); (case hh => (exact clhT)); (case ot => (exact clkT)); (case ok => (exact clkT)))
set_option maxHeartbeats 8000000 in
theorem topicsOnce_nil (q0 q1 : Int) (a : Option Addr) : Gives Tryz.prog 8 [L2 q0 q1, .raw (.slice a 0 0)] [pinE RTV] (Is .tt [pinE RTV]) := by
  have hX := hXTa
  obtain ⟨T, t1, t4, eT, r1, r8⟩ := cfg_cases q0 q1
  generalize hR : cAnd 7 q1 = R at r1 r8
  have hr := right_TR t1 t4 r1 r8
  refine gives_x hX (fn := Tryz.f8) rfl rfl rfl rfl fun ρ w => ?_
  refine sx hX [] 4000 rfl (by (simp [-List.getD_eq_getElem?_getD, -List.length_eq_zero_iff, conjP, eT, hR, hr])) ?_
  refine sx hX [.F] 4000 rfl (by (simp [-List.getD_eq_getElem?_getD, -List.length_eq_zero_iff, conjP, addOP])) ?_
  (refine ss_end hX [0] rfl rfl trivial rfl rfl rfl rfl ?tt ?hh ?ot ?ok; (case tt => (exact clhT)); (case hh => (exact clhT)); (case ot => (exact clkT)); (case ok => (exact clkT)))
end Go.Proofs.YtkkddjchkkaagaaGreatDoor
namespace Go.Proofs.YtkkddjchkkaagaaGreatDoor.topicsOnce
open Go Go.Hx
abbrev ks99 : List (Option IntKind) := [some .i64, some .i64, none, none]
theorem row_of (l : List SV) (h : okK ks99 l) : ∃ o : Int × Int × Bool × Bool, l = actR (fun _ => o) 0 := by
  rcases l with _ | ⟨a, _ | ⟨b, _ | ⟨c, _ | ⟨d, _ | ⟨e, r⟩⟩⟩⟩⟩ <;> simp only [okK, and_false] at h
  obtain ⟨⟨n1, rfl, _⟩, ⟨n2, rfl, _⟩, ⟨n3, rfl⟩, ⟨n4, rfl⟩, _⟩ := h
  exact ⟨(n1, n2, n3, n4), rfl⟩
theorem rows_of (o : Nat → List SV) (h : ∀ i, okK ks99 (o i)) : ∃ q : Nat → Int × Int × Bool × Bool, o = actR q :=
  ⟨fun i => Classical.choose (row_of (o i) (h i)), funext fun i => Classical.choose_spec (row_of (o i) (h i))⟩
theorem walk_nil (a : Option Addr) (l : List SV) (h : okK [some .i64, some .i64] l) : ∃ L, Gives Tryz.prog 8 [.agg l, .raw (.slice a 0 0)] [pinE RTV] (Is .tt L) := by
  rcases l with _ | ⟨x, _ | ⟨y, _ | ⟨z, r⟩⟩⟩ <;> simp only [okK, and_false] at h
  obtain ⟨⟨n0, rfl, _⟩, ⟨n1, rfl, _⟩, _⟩ := h
  exact ⟨_, topicsOnce_nil n0 n1 a⟩
theorem walk (l : List SV) (h : okK [some .i64, some .i64] l) (o : Nat → List SV) (ho : ∀ i, okK ks99 (o i)) (len cap : Nat) (_ : len ≤ maxLen) : ∃ L, Gives Tryz.prog 8 [.agg l, .slice 0 0 len cap] [.obj (.rows len 4 o), pinE RTV] (Is .tt L) := by
  rcases l with _ | ⟨x, _ | ⟨y, _ | ⟨z, r⟩⟩⟩ <;> simp only [okK, and_false] at h
  obtain ⟨⟨n0, rfl, _⟩, ⟨n1, rfl, _⟩, _⟩ := h
  obtain ⟨q, rfl⟩ := rows_of o ho
  exact ⟨_, topicsOnce_fn n0 n1 len cap q⟩
end Go.Proofs.YtkkddjchkkaagaaGreatDoor.topicsOnce
