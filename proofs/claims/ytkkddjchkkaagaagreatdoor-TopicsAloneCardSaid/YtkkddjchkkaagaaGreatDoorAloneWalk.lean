/- TopicsAlone: a run that goes on alone is done within as many steps as there are topics, two for each attempt, twice, and six, whoever holds the directory. -/
import Derived.Test.YtkkddjchkkaagaaGreatDoorAloneBusy
import Derived.Test.YtkkddjchkkaagaaGreatDoorAloneTurnA
import Derived.Test.YtkkddjchkkaagaaGreatDoorAloneTurnB
import Derived.Test.YtkkddjchkkaagaaGreatDoorAloneSolo
namespace Go.Proofs.YtkkddjchkkaagaaGreatDoor
open Go Go.Hx
set_option maxRecDepth 8000
def awTS : List SV → Option (List Prop × SV)
  | [] => some ([], .tt)
  | _ => none
theorem awTS_ok : PureOk 50 awTS := by
  intro args ob V hs ho
  unfold awTS at hs
  split at hs
  · simp only [Option.some.injEq, Prod.mk.injEq] at hs
    obtain ⟨rfl, rfl⟩ := hs
    exact ⟨rfl, rfl, awakeT_fn⟩
  · simp at hs
def cfgGS : List SV → Option (List Prop × SV)
  | [.agg [.int .i64 l0, .int .i64 l1]] => some ([], C9 (cAnd 3 l0) 4 1 4 4 1 6 0 (cAnd 7 l1))
  | _ => none
theorem cfgGS_ok : PureOk 51 cfgGS := by
  intro args ob V hs ho
  unfold cfgGS at hs
  split at hs
  · simp only [Option.some.injEq, Prod.mk.injEq] at hs
    obtain ⟨rfl, rfl⟩ := hs
    exact ⟨rfl, rfl, configT_fn _ _⟩
  · simp at hs
def ctTa : Nat → Option Hx.Spec
  | 50 => some (pureS awTS)
  | 51 => some (pureS cfgGS)
  | 143 => some (pureS rightS)
  | 27 => some (makeS)
  | _ => none
theorem ctTa_ok : ∀ f s args H ob V L, ctTa f = some s → s args H = some (ob, V, L) → AllP ob → Gives Tryz.prog f args H (Is V L) := by
  intro f s args H ob V L h hs ho
  unfold ctTa at h
  split at h
  · simp at h; subst h; exact pureS_ok ⟨_, hTE⟩ (awTS_ok) hs ho
  · simp at h; subst h; exact pureS_ok ⟨_, hTE⟩ (cfgGS_ok) hs ho
  · simp at h; subst h; exact pureS_ok ⟨_, hTE⟩ (rightS_ok right143) hs ho
  · simp at h; subst h; exact makeS_ok hs ho
  · simp at h
noncomputable def XTa : Tabs := tabs tr ft xt (fun _ => none) ctTa 20
theorem hXTa : TOk Tryz.prog (XTa) := ⟨hTE, hFT, ctTa_ok, hXT, fun t ks h => by simp [XTa, tabs] at h, mixed⟩
section
variable {T : Nat} {R q : Int} {N cap : Nat} {o : Nat → Int × Int × Bool × Bool} {x : AS} {ρ : Nat → Nat × Nat} {w : World} {I : Act → World → Prop}
theorem tk0 (h : AInv T R N x) (hin : x.i < N) (hi : x.i < 120) (hc : x.z.c0 ≠ none) (J : ∀ p, AJ p T R q N cap o x ρ w I) : ∃ p, AK p 0 T R q N cap o x ρ w I := by
  rcases hs : x.z.c0 with _ | ⟨rm, lg, key, ph, seq, j, fd, hd, tm, er, pl, sn, fl, bk, ep, tp, tl⟩
  · exact absurd hs hc
  · rcases rm with _ | _
    · by_cases e0 : (tStep T R (sfT T R key) ⟨false, lg, key, ph, seq, j, fd, hd, tm, er, pl, sn, fl, bk, ep, tp, tl⟩ x.z.W x.z.st).s.ph = 0
      · exact tt0cd h hin hi hs rfl e0 J
      · exact tt0cn h hin hi hs rfl e0 J
    · by_cases e0 : (tStep T R (sfT T R key) ⟨true, lg, key, ph, seq, j, fd, hd, tm, er, pl, sn, fl, bk, ep, tp, tl⟩ x.z.W x.z.st).s.ph = 0
      · exact tt0rd h hin hi hs rfl e0 J
      · exact tt0rn h hin hi hs rfl e0 J
theorem tk1 (h : AInv T R N x) (hin : x.i < N) (hi : x.i < 120) (hc : x.z.c1 ≠ none) (J : ∀ p, AJ p T R q N cap o x ρ w I) : ∃ p, AK p 1 T R q N cap o x ρ w I := by
  rcases hs : x.z.c1 with _ | ⟨rm, lg, key, ph, seq, j, fd, hd, tm, er, pl, sn, fl, bk, ep, tp, tl⟩
  · exact absurd hs hc
  · rcases rm with _ | _
    · by_cases e0 : (tStep T R (sfT T R key) ⟨false, lg, key, ph, seq, j, fd, hd, tm, er, pl, sn, fl, bk, ep, tp, tl⟩ x.z.W x.z.st).s.ph = 0
      · exact tt1cd h hin hi hs rfl e0 J
      · exact tt1cn h hin hi hs rfl e0 J
    · by_cases e0 : (tStep T R (sfT T R key) ⟨true, lg, key, ph, seq, j, fd, hd, tm, er, pl, sn, fl, bk, ep, tp, tl⟩ x.z.W x.z.st).s.ph = 0
      · exact tt1rd h hin hi hs rfl e0 J
      · exact tt1rn h hin hi hs rfl e0 J
theorem tk2 (h : AInv T R N x) (hin : x.i < N) (hi : x.i < 120) (hc : x.z.c2 ≠ none) (J : ∀ p, AJ p T R q N cap o x ρ w I) : ∃ p, AK p 2 T R q N cap o x ρ w I := by
  rcases hs : x.z.c2 with _ | ⟨rm, lg, key, ph, seq, j, fd, hd, tm, er, pl, sn, fl, bk, ep, tp, tl⟩
  · exact absurd hs hc
  · rcases rm with _ | _
    · by_cases e0 : (tStep T R (sfT T R key) ⟨false, lg, key, ph, seq, j, fd, hd, tm, er, pl, sn, fl, bk, ep, tp, tl⟩ x.z.W x.z.st).s.ph = 0
      · exact tt2cd h hin hi hs rfl e0 J
      · exact tt2cn h hin hi hs rfl e0 J
    · by_cases e0 : (tStep T R (sfT T R key) ⟨true, lg, key, ph, seq, j, fd, hd, tm, er, pl, sn, fl, bk, ep, tp, tl⟩ x.z.W x.z.st).s.ph = 0
      · exact tt2rd h hin hi hs rfl e0 J
      · exact tt2rn h hin hi hs rfl e0 J
theorem ta (h : AInv T R N x) (hin : x.i < N) (hi : x.i < 120) (J : ∀ p, AJ p T R q N cap o x ρ w I) : ∃ p, AG p T R q N cap o x ρ w I := by
  rcases a3_cases (o x.i).1 with ha | ha | ha | ha
  · rcases hc : x.z.c0 with _ | ⟨rm, lg, key, ph, seq, j, fd, hd, tm, er, pl, sn, fl, bk, ep, tp, tl⟩
    · rcases hbk : (o x.i).2.2.1 with _ | _
      · exact tg0f h hin hi ha hc hbk (fun x' h' e ne => tk0 h' (by rw [e]; exact hin) (by rw [e]; exact hi) ne fun p x'' hx hi2 => J p x'' hx (by rw [hi2, e]))
      · exact tg0t h hin hi ha hc hbk (fun x' h' e ne => tk0 h' (by rw [e]; exact hin) (by rw [e]; exact hi) ne fun p x'' hx hi2 => J p x'' hx (by rw [hi2, e]))
    · rcases rm with _ | _
      · exact to0c h hin hi ha hc (fun x' h' e ne => tk0 h' (by rw [e]; exact hin) (by rw [e]; exact hi) ne fun p x'' hx hi2 => J p x'' hx (by rw [hi2, e]))
      · exact to0r h hin hi ha hc (fun x' h' e ne => tk0 h' (by rw [e]; exact hin) (by rw [e]; exact hi) ne fun p x'' hx hi2 => J p x'' hx (by rw [hi2, e]))
  · rcases hc : x.z.c1 with _ | ⟨rm, lg, key, ph, seq, j, fd, hd, tm, er, pl, sn, fl, bk, ep, tp, tl⟩
    · rcases hbk : (o x.i).2.2.1 with _ | _
      · exact tg1f h hin hi ha hc hbk (fun x' h' e ne => tk1 h' (by rw [e]; exact hin) (by rw [e]; exact hi) ne fun p x'' hx hi2 => J p x'' hx (by rw [hi2, e]))
      · exact tg1t h hin hi ha hc hbk (fun x' h' e ne => tk1 h' (by rw [e]; exact hin) (by rw [e]; exact hi) ne fun p x'' hx hi2 => J p x'' hx (by rw [hi2, e]))
    · rcases rm with _ | _
      · exact to1c h hin hi ha hc (fun x' h' e ne => tk1 h' (by rw [e]; exact hin) (by rw [e]; exact hi) ne fun p x'' hx hi2 => J p x'' hx (by rw [hi2, e]))
      · exact to1r h hin hi ha hc (fun x' h' e ne => tk1 h' (by rw [e]; exact hin) (by rw [e]; exact hi) ne fun p x'' hx hi2 => J p x'' hx (by rw [hi2, e]))
  · rcases hc : x.z.c2 with _ | ⟨rm, lg, key, ph, seq, j, fd, hd, tm, er, pl, sn, fl, bk, ep, tp, tl⟩
    · rcases hbk : (o x.i).2.2.1 with _ | _
      · exact tg2f h hin hi ha hc hbk (fun x' h' e ne => tk2 h' (by rw [e]; exact hin) (by rw [e]; exact hi) ne fun p x'' hx hi2 => J p x'' hx (by rw [hi2, e]))
      · exact tg2t h hin hi ha hc hbk (fun x' h' e ne => tk2 h' (by rw [e]; exact hin) (by rw [e]; exact hi) ne fun p x'' hx hi2 => J p x'' hx (by rw [hi2, e]))
    · rcases rm with _ | _
      · exact to2c h hin hi ha hc (fun x' h' e ne => tk2 h' (by rw [e]; exact hin) (by rw [e]; exact hi) ne fun p x'' hx hi2 => J p x'' hx (by rw [hi2, e]))
      · exact to2r h hin hi ha hc (fun x' h' e ne => tk2 h' (by rw [e]; exact hin) (by rw [e]; exact hi) ne fun p x'' hx hi2 => J p x'' hx (by rw [hi2, e]))
  · obtain ⟨qq, hq, eq⟩ := busy_ctl h.b.t1 h.b.t4 (o x.i).2.1
    rcases g : liW (x.z.W.getD (cP T qq) 0) with _ | _
    · exact tabf h hin hi ha hq eq g J
    · exact tabt h hin hi ha hq eq g J
end
theorem as0_ok {T : Nat} {R : Int} {N : Nat} (t1 : 1 ≤ T) (t4 : T ≤ 4) (r1 : 1 ≤ R) (r8 : R ≤ 8) (v : Nat → Value) : AInv T R N ⟨0, mkQ T R v⟩ :=
  ⟨mkQ_bi t1 t4 r1 r8, trivial, trivial, trivial, Nat.zero_le _, Nat.zero_le _⟩
set_option maxHeartbeats 8000000 in
theorem topicsAlone_fn (q0 q1 : Int) (N cap : Nat) (o : Nat → Int × Int × Bool × Bool) (q : Int) : Gives Tryz.prog 7 [L2 q0 q1, .slice 0 0 N cap, .int .i64 q] [.obj (.rows N 4 (actR o)), pinE RTV] (Is .tt [.obj (.rows N 4 (actR o)), pinE RTV]) := by
  have hX := hXTa
  obtain ⟨T, t1, t4, eT, r1, r8⟩ := cfg_cases q0 q1
  generalize hR : cAnd 7 q1 = R at r1 r8
  have hr := right_TR t1 t4 r1 r8
  refine gives_x hX (fn := Tryz.f7) rfl rfl rfl rfl fun ρ w => ?_
  refine sxb hX [.l] [] 4000 rfl (by simp [conjP, eT, hR, hr]) ?_
  simp only [eT, hR]
  refine ss_raw hX 6 2 rfl rfl fun v0 => ?_
  refine ss_raw hX 7 2 rfl rfl fun v1 => ?_
  refine ss_raw hX 8 2 rfl rfl fun v2 => ?_
  refine ss_sub hX (T' := alT q N cap ⟨0, mkQ T R (vv3 v0 v1 v2)⟩) (H' := alH N o T R ⟨0, mkQ T R (vv3 v0 v1 v2)⟩) [0, 1, 3, 5, 4, 9, 6, 7, 8, 60, 61, 62, 63, 64, 65] rfl rfl rfl rfl ?tt ?hh ?ot ?ok ?_
  case tt => (exact clhT)
  case hh => (exact clhT)
  case ot => (exact clkT)
  case ok => (exact clkT)
  refine ss_loop hX (alT q N cap) (alH N o T R) (AInv T R N) (fun x => 120 - x.i) _ (as0_ok t1 t4 r1 r8 _) ?_
  intro x hx I back
  by_cases hlt : x.i < N ∧ x.i < 120
  · obtain ⟨p, hp⟩ := ta (q := q) (cap := cap) (o := o) (ρ := ρ) (w := w) (I := I) hx hlt.1 hlt.2 (fun p x' hx' hi' cs TT H hsub => ss_sw (hXTl p) (sw_ss hX (back x' hx' (by show 120 - x'.i < 120 - x.i; omega) [] TT H hsub)))
    refine sxb hX [.r 8] [] 100 rfl trivial ?_
    exact ss_sw hX (sw_ss (hXTl p) (cs := []) hp)
  · have hn : (x.i : Int) < (N : Int) → ¬ (x.i : Int) < 120 := fun q q2 => hlt ⟨by omega, by omega⟩
    have hi2 := hx.hi
    have hz := ss_sw hX (cs := []) (sw_ss hXTq (cs := []) (bsolo (bb := true) (N := N) (o := o) (q := q) (ρ := ρ) (w := w) (z := x.z) (hx.b.mono (m := 300) (by omega) (by omega)) (okO_mono (by omega) hx.c0) (okO_mono (by omega) hx.c1) (okO_mono (by omega) hx.c2)))
    dsimp only [alT, alH, tqH, alS, scE, cond_true] at hz ⊢
    refine sxb hX [.r 21] [] 4000 rfl (by (simp [-List.getD_eq_getElem?_getD, -List.length_eq_zero_iff, conjP])) ?_
    refine ss_pb hX [.r 21] [] 4000 rfl (fun hb0 => ?_) (fun hb0 => ?_)
    · try simp [-List.getD_eq_getElem?_getD, -List.length_eq_zero_iff] at hb0
      refine sxb hX [.r 21] [.T] 4000 rfl (by (simp [-List.getD_eq_getElem?_getD, -List.length_eq_zero_iff, conjP, addOP, hb0])) ?_
      refine sxb hX [.r 21] [.F] 4000 rfl (by (simp [-List.getD_eq_getElem?_getD, -List.length_eq_zero_iff, conjP, addOP, hn, hb0])) ?_
      (refine ss_sub hX (T' := alS q) (H' := tqH (.obj (.rows N 4 (actR o))) T R x.z []) [0, 1, 2, 3, 4, 5, 6, 7, 8, 9, 10, 11, 12, 13, 14] rfl rfl rfl rfl ?tt ?hh ?ot ?ok hz; (case tt => (exact clhT)); (case hh => (exact clhT)); (case ot => (exact clkT)); (case ok => (exact clkT)))
    · try simp [-List.getD_eq_getElem?_getD, -List.length_eq_zero_iff] at hb0
      refine sxb hX [.r 21] [.F] 4000 rfl (by (simp [-List.getD_eq_getElem?_getD, -List.length_eq_zero_iff, conjP, addOP, hb0])) ?_
      (refine ss_sub hX (T' := alS q) (H' := tqH (.obj (.rows N 4 (actR o))) T R x.z []) [0, 1, 2, 3, 4, 5, 6, 7, 8, 9, 10, 11, 12, 13, 14] rfl rfl rfl rfl ?tt ?hh ?ot ?ok hz; (case tt => (exact clhT)); (case hh => (exact clhT)); (case ot => (exact clkT)); (case ok => (exact clkT)))
set_option maxHeartbeats 8000000 in
theorem topicsAlone_nil (q0 q1 : Int) (a : Option Addr) (q : Int) : Gives Tryz.prog 7 [L2 q0 q1, .raw (.slice a 0 0), .int .i64 q] [pinE RTV] (Is .tt [pinE RTV]) := by
  refine abs_gives1 (fun _ _ => rfl) (fun _ _ => rfl) (fun _ _ => rfl) (fun _ _ => rfl) ?_
  have hX := hXTa
  obtain ⟨T, t1, t4, eT, r1, r8⟩ := cfg_cases q0 q1
  generalize hR : cAnd 7 q1 = R at r1 r8
  have hr := right_TR t1 t4 r1 r8
  refine gives_x hX (fn := Tryz.f7) rfl rfl rfl rfl fun ρ w => ?_
  refine sxb hX [.l] [] 4000 rfl (by simp [conjP, eT, hR, hr]) ?_
  simp only [eT, hR]
  refine ss_raw hX 6 2 rfl rfl fun v0 => ?_
  refine ss_raw hX 7 2 rfl rfl fun v1 => ?_
  refine ss_raw hX 8 2 rfl rfl fun v2 => ?_
  have hz : SS hXTa (At ρ w) (Is .tt [.absent, pinE RTV]) ⟨[], [], Tryz.f7, Tryz.f7.ntmps, [.absent, pinE RTV], contF Tryz.f7 21 [], alS q, tqH (scE false 0 (fun _ => (0, 0, false, false))) T R (mkQ T R (vv3 v0 v1 v2)) []⟩ := ss_sw hX (cs := []) (sw_ss hXTq (cs := []) (bsolo (bb := false) (N := 0) (o := fun _ => (0, 0, false, false)) (q := q) (ρ := ρ) (w := w) (z := mkQ T R (vv3 v0 v1 v2)) ((mkQ_bi t1 t4 r1 r8).mono (m := 300) (by omega) (by omega)) trivial trivial trivial))
  refine sxb hX [.r 21] [] 4000 rfl (by (simp [-List.getD_eq_getElem?_getD, -List.length_eq_zero_iff, conjP])) ?_
  refine sxb hX [.r 21] [.F] 4000 rfl (by (simp [-List.getD_eq_getElem?_getD, -List.length_eq_zero_iff, conjP, addOP])) ?_
  (refine ss_sub hX (T' := alS q) (H' := tqH (scE false 0 (fun _ => (0, 0, false, false))) T R (mkQ T R (vv3 v0 v1 v2)) []) [0, 1, 3, 5, 4, 9, 6, 7, 8, 60, 61, 62, 63, 64, 65] rfl rfl rfl rfl ?tt ?hh ?ot ?ok hz; (case tt => (exact clhT)); (case hh => (exact clhT)); (case ot => (exact clkT)); (case ok => (exact clkT)))
end Go.Proofs.YtkkddjchkkaagaaGreatDoor
namespace Go.Proofs.YtkkddjchkkaagaaGreatDoor.topicsAlone
open Go Go.Hx
abbrev ks99 : List (Option IntKind) := [some .i64, some .i64, none, none]
theorem row_of (l : List SV) (h : okK ks99 l) : ∃ o : Int × Int × Bool × Bool, l = actR (fun _ => o) 0 := by
  rcases l with _ | ⟨a, _ | ⟨b, _ | ⟨c, _ | ⟨d, _ | ⟨e, r⟩⟩⟩⟩⟩ <;> simp only [okK, and_false] at h
  obtain ⟨⟨n1, rfl, _⟩, ⟨n2, rfl, _⟩, ⟨n3, rfl⟩, ⟨n4, rfl⟩, _⟩ := h
  exact ⟨(n1, n2, n3, n4), rfl⟩
theorem rows_of (o : Nat → List SV) (h : ∀ i, okK ks99 (o i)) : ∃ q : Nat → Int × Int × Bool × Bool, o = actR q :=
  ⟨fun i => Classical.choose (row_of (o i) (h i)), funext fun i => Classical.choose_spec (row_of (o i) (h i))⟩
theorem walk_nil (a : Option Addr) (l : List SV) (h : okK [some .i64, some .i64] l) (m : Int) (_ : (Lit.int .i64 m).wf = true) : ∃ L, Gives Tryz.prog 7 [.agg l, .raw (.slice a 0 0), .int .i64 m] [pinE RTV] (Is .tt L) := by
  rcases l with _ | ⟨x, _ | ⟨y, _ | ⟨z, r⟩⟩⟩ <;> simp only [okK, and_false] at h
  obtain ⟨⟨n0, rfl, _⟩, ⟨n1, rfl, _⟩, _⟩ := h
  exact ⟨_, topicsAlone_nil n0 n1 a m⟩
theorem walk (l : List SV) (h : okK [some .i64, some .i64] l) (m : Int) (_ : (Lit.int .i64 m).wf = true) (o : Nat → List SV) (ho : ∀ i, okK ks99 (o i)) (len cap : Nat) (_ : len ≤ maxLen) : ∃ L, Gives Tryz.prog 7 [.agg l, .slice 0 0 len cap, .int .i64 m] [.obj (.rows len 4 o), pinE RTV] (Is .tt L) := by
  rcases l with _ | ⟨x, _ | ⟨y, _ | ⟨z, r⟩⟩⟩ <;> simp only [okK, and_false] at h
  obtain ⟨⟨n0, rfl, _⟩, ⟨n1, rfl, _⟩, _⟩ := h
  obtain ⟨q, rfl⟩ := rows_of o ho
  exact ⟨_, topicsAlone_fn n0 n1 len cap q m⟩
end Go.Proofs.YtkkddjchkkaagaaGreatDoor.topicsAlone
