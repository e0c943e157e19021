/- TopicsPlay: runs of three clients, interleaved in any way, go on step by step as the document says. -/
import Derived.Test.YtkkddjchkkaagaaGreatDoorPlayBusy
import Derived.Test.YtkkddjchkkaagaaGreatDoorPlayTurnA
import Derived.Test.YtkkddjchkkaagaaGreatDoorPlayTurnB
namespace Go.Proofs.YtkkddjchkkaagaaGreatDoor
open Go Go.Hx
set_option maxRecDepth 8000
def awTS : List SV → Option (List Prop × SV)
  | [] => some ([], .tt)
  | _ => none
theorem awTS_ok : PureOk 50 awTS := by
  intro args ob V hs ho
  unfold awTS at hs
  split at hs
  · simp only [Option.some.injEq, Prod.mk.injEq] at hs
    obtain ⟨rfl, rfl⟩ := hs
    exact ⟨rfl, rfl, awakeT_fn⟩
  · simp at hs
def cfgGS : List SV → Option (List Prop × SV)
  | [.agg [.int .i64 l0, .int .i64 l1]] => some ([], C9 (cAnd 3 l0) 4 1 4 4 1 6 0 (cAnd 7 l1))
  | _ => none
theorem cfgGS_ok : PureOk 51 cfgGS := by
  intro args ob V hs ho
  unfold cfgGS at hs
  split at hs
  · simp only [Option.some.injEq, Prod.mk.injEq] at hs
    obtain ⟨rfl, rfl⟩ := hs
    exact ⟨rfl, rfl, configT_fn _ _⟩
  · simp at hs
def ctTa : Nat → Option Hx.Spec
  | 50 => some (pureS awTS)
  | 51 => some (pureS cfgGS)
  | 143 => some (pureS rightS)
  | 27 => some (makeS)
  | 34 => some (rmakeS)
  | 53 => some (arWordsS)
  | 72 => some (sameS)
  | _ => none
theorem ctTa_ok : ∀ f s args H ob V L, ctTa f = some s → s args H = some (ob, V, L) → AllP ob → Gives Tryz.prog f args H (Is V L) := by
  intro f s args H ob V L h hs ho
  unfold ctTa at h
  split at h
  · simp at h; subst h; exact pureS_ok ⟨_, hTE⟩ (awTS_ok) hs ho
  · simp at h; subst h; exact pureS_ok ⟨_, hTE⟩ (cfgGS_ok) hs ho
  · simp at h; subst h; exact pureS_ok ⟨_, hTE⟩ (rightS_ok right143) hs ho
  · simp at h; subst h; exact makeS_ok hs ho
  · simp at h; subst h; exact rmakeS_ok hs ho
  · simp at h; subst h; exact arWordsS_ok hs ho
  · simp at h; subst h; exact sameS_ok hs ho
  · simp at h
noncomputable def XTa : Tabs := tabs tr ft xt (fun _ => none) ctTa 20
theorem hXTa : TOk Tryz.prog (XTa) := ⟨hTE, hFT, ctTa_ok, hXT, fun t ks h => by simp [XTa, tabs] at h, mixed⟩
section
variable {T : Nat} {R : Int} {N cap : Nat} {o : Nat → Int × Int × Bool × Bool} {x : AS} {ρ : Nat → Nat × Nat} {w : World} {I : Act → World → Prop}
theorem yk0 (h : YInv T R N x) (hin : x.i < N) (hi : x.i < 150) (hc : x.z.c0 ≠ none) (J : ∀ p, YJ p T R N cap o x ρ w I) : ∃ p, YK p 0 T R N cap o x ρ w I := by
  rcases hs : x.z.c0 with _ | ⟨rm, lg, key, ph, seq, j, fd, hd, tm, er, pl, sn, fl, bk, ep, tp, tl⟩
  · exact absurd hs hc
  · rcases rm with _ | _
    · by_cases e0 : (tStep T R (sfT T R key) ⟨false, lg, key, ph, seq, j, fd, hd, tm, er, pl, sn, fl, bk, ep, tp, tl⟩ x.z.W x.z.st).s.ph = 0
      · exact yt0cd h hin hi hs rfl e0 J
      · exact yt0cn h hin hi hs rfl e0 J
    · by_cases e0 : (tStep T R (sfT T R key) ⟨true, lg, key, ph, seq, j, fd, hd, tm, er, pl, sn, fl, bk, ep, tp, tl⟩ x.z.W x.z.st).s.ph = 0
      · exact yt0rd h hin hi hs rfl e0 J
      · exact yt0rn h hin hi hs rfl e0 J
theorem yk1 (h : YInv T R N x) (hin : x.i < N) (hi : x.i < 150) (hc : x.z.c1 ≠ none) (J : ∀ p, YJ p T R N cap o x ρ w I) : ∃ p, YK p 1 T R N cap o x ρ w I := by
  rcases hs : x.z.c1 with _ | ⟨rm, lg, key, ph, seq, j, fd, hd, tm, er, pl, sn, fl, bk, ep, tp, tl⟩
  · exact absurd hs hc
  · rcases rm with _ | _
    · by_cases e0 : (tStep T R (sfT T R key) ⟨false, lg, key, ph, seq, j, fd, hd, tm, er, pl, sn, fl, bk, ep, tp, tl⟩ x.z.W x.z.st).s.ph = 0
      · exact yt1cd h hin hi hs rfl e0 J
      · exact yt1cn h hin hi hs rfl e0 J
    · by_cases e0 : (tStep T R (sfT T R key) ⟨true, lg, key, ph, seq, j, fd, hd, tm, er, pl, sn, fl, bk, ep, tp, tl⟩ x.z.W x.z.st).s.ph = 0
      · exact yt1rd h hin hi hs rfl e0 J
      · exact yt1rn h hin hi hs rfl e0 J
theorem yk2 (h : YInv T R N x) (hin : x.i < N) (hi : x.i < 150) (hc : x.z.c2 ≠ none) (J : ∀ p, YJ p T R N cap o x ρ w I) : ∃ p, YK p 2 T R N cap o x ρ w I := by
  rcases hs : x.z.c2 with _ | ⟨rm, lg, key, ph, seq, j, fd, hd, tm, er, pl, sn, fl, bk, ep, tp, tl⟩
  · exact absurd hs hc
  · rcases rm with _ | _
    · by_cases e0 : (tStep T R (sfT T R key) ⟨false, lg, key, ph, seq, j, fd, hd, tm, er, pl, sn, fl, bk, ep, tp, tl⟩ x.z.W x.z.st).s.ph = 0
      · exact yt2cd h hin hi hs rfl e0 J
      · exact yt2cn h hin hi hs rfl e0 J
    · by_cases e0 : (tStep T R (sfT T R key) ⟨true, lg, key, ph, seq, j, fd, hd, tm, er, pl, sn, fl, bk, ep, tp, tl⟩ x.z.W x.z.st).s.ph = 0
      · exact yt2rd h hin hi hs rfl e0 J
      · exact yt2rn h hin hi hs rfl e0 J
theorem ya (h : YInv T R N x) (hin : x.i < N) (hi : x.i < 150) (J : ∀ p, YJ p T R N cap o x ρ w I) : ∃ p, YG p T R N cap o x ρ w I := by
  rcases a3_cases (o x.i).1 with ha | ha | ha | ha
  · rcases hc : x.z.c0 with _ | ⟨rm, lg, key, ph, seq, j, fd, hd, tm, er, pl, sn, fl, bk, ep, tp, tl⟩
    · rcases hbk : (o x.i).2.2.1 with _ | _
      · exact yg0f h hin hi ha hc hbk (fun x' h' e ne => yk0 h' (by rw [e]; exact hin) (by rw [e]; exact hi) ne fun p x'' hx hi2 => J p x'' hx (by rw [hi2, e]))
      · exact yg0t h hin hi ha hc hbk (fun x' h' e ne => yk0 h' (by rw [e]; exact hin) (by rw [e]; exact hi) ne fun p x'' hx hi2 => J p x'' hx (by rw [hi2, e]))
    · rcases rm with _ | _
      · exact yo0c h hin hi ha hc (fun x' h' e ne => yk0 h' (by rw [e]; exact hin) (by rw [e]; exact hi) ne fun p x'' hx hi2 => J p x'' hx (by rw [hi2, e]))
      · exact yo0r h hin hi ha hc (fun x' h' e ne => yk0 h' (by rw [e]; exact hin) (by rw [e]; exact hi) ne fun p x'' hx hi2 => J p x'' hx (by rw [hi2, e]))
  · rcases hc : x.z.c1 with _ | ⟨rm, lg, key, ph, seq, j, fd, hd, tm, er, pl, sn, fl, bk, ep, tp, tl⟩
    · rcases hbk : (o x.i).2.2.1 with _ | _
      · exact yg1f h hin hi ha hc hbk (fun x' h' e ne => yk1 h' (by rw [e]; exact hin) (by rw [e]; exact hi) ne fun p x'' hx hi2 => J p x'' hx (by rw [hi2, e]))
      · exact yg1t h hin hi ha hc hbk (fun x' h' e ne => yk1 h' (by rw [e]; exact hin) (by rw [e]; exact hi) ne fun p x'' hx hi2 => J p x'' hx (by rw [hi2, e]))
    · rcases rm with _ | _
      · exact yo1c h hin hi ha hc (fun x' h' e ne => yk1 h' (by rw [e]; exact hin) (by rw [e]; exact hi) ne fun p x'' hx hi2 => J p x'' hx (by rw [hi2, e]))
      · exact yo1r h hin hi ha hc (fun x' h' e ne => yk1 h' (by rw [e]; exact hin) (by rw [e]; exact hi) ne fun p x'' hx hi2 => J p x'' hx (by rw [hi2, e]))
  · rcases hc : x.z.c2 with _ | ⟨rm, lg, key, ph, seq, j, fd, hd, tm, er, pl, sn, fl, bk, ep, tp, tl⟩
    · rcases hbk : (o x.i).2.2.1 with _ | _
      · exact yg2f h hin hi ha hc hbk (fun x' h' e ne => yk2 h' (by rw [e]; exact hin) (by rw [e]; exact hi) ne fun p x'' hx hi2 => J p x'' hx (by rw [hi2, e]))
      · exact yg2t h hin hi ha hc hbk (fun x' h' e ne => yk2 h' (by rw [e]; exact hin) (by rw [e]; exact hi) ne fun p x'' hx hi2 => J p x'' hx (by rw [hi2, e]))
    · rcases rm with _ | _
      · exact yo2c h hin hi ha hc (fun x' h' e ne => yk2 h' (by rw [e]; exact hin) (by rw [e]; exact hi) ne fun p x'' hx hi2 => J p x'' hx (by rw [hi2, e]))
      · exact yo2r h hin hi ha hc (fun x' h' e ne => yk2 h' (by rw [e]; exact hin) (by rw [e]; exact hi) ne fun p x'' hx hi2 => J p x'' hx (by rw [hi2, e]))
  · obtain ⟨qq, hq, eq⟩ := busy_ctl h.b.t1 h.b.t4 (o x.i).2.1
    rcases g : liW (x.z.W.getD (cP T qq) 0) with _ | _
    · exact yabf h hin hi ha hq eq g J
    · exact yabt h hin hi ha hq eq g J
end
theorem yp0_ok {T : Nat} {R : Int} {N : Nat} (t1 : 1 ≤ T) (t4 : T ≤ 4) (r1 : 1 ≤ R) (r8 : R ≤ 8) (v : Nat → Value) : YInv T R N ⟨0, mkQ T R v⟩ :=
  ⟨mkQ_bi t1 t4 r1 r8, trivial, trivial, trivial, Nat.zero_le _, Nat.zero_le _⟩
set_option maxHeartbeats 8000000 in
theorem topicsPlay_fn (q0 q1 : Int) (N cap : Nat) (o : Nat → Int × Int × Bool × Bool) : Gives Tryz.prog 12 [L2 q0 q1, .slice 0 0 N cap] [.obj (.rows N 4 (actR o)), pinE RTV] (Is .tt [.obj (.rows N 4 (actR o)), pinE RTV]) := by
  have hX := hXTa
  obtain ⟨T, t1, t4, eT, r1, r8⟩ := cfg_cases q0 q1
  generalize hR : cAnd 7 q1 = R at r1 r8
  have hr := right_TR t1 t4 r1 r8
  refine gives_x hX (fn := Tryz.f12) rfl rfl rfl rfl fun ρ w => ?_
  refine sxb hX [.l] [] 4000 rfl (by simp [conjP, eT, hR, hr]) ?_
  simp only [eT, hR]
  refine ss_raw hX 8 2 rfl rfl fun v0 => ?_
  refine ss_raw hX 9 2 rfl rfl fun v1 => ?_
  refine ss_raw hX 10 2 rfl rfl fun v2 => ?_
  refine ss_sub hX (T' := ypT N cap ⟨0, mkQ T R (vv3 v0 v1 v2)⟩) (H' := ypH N o T R ⟨0, mkQ T R (vv3 v0 v1 v2)⟩) [0, 1, 3, 5, 4, 7, 6, 11, 8, 9, 10, 60, 61, 62, 63, 64, 65, 66, 67, 68] rfl rfl rfl rfl ?tt ?hh ?ot ?ok ?_
  case tt => (exact clhY)
  case hh => (exact clhY)
  case ot => (exact clkY)
  case ok => (exact clkY)
  refine ss_loop hX (ypT N cap) (ypH N o T R) (YInv T R N) (fun x => 150 - x.i) _ (yp0_ok t1 t4 r1 r8 _) ?_
  intro x hx I back
  by_cases hlt : x.i < N ∧ x.i < 150
  · obtain ⟨p, hp⟩ := ya (cap := cap) (o := o) (ρ := ρ) (w := w) (I := I) hx hlt.1 hlt.2 (fun p x' hx' hi' cs TT H hsub => ss_sw (hXTl p) (sw_ss hX (back x' hx' (by show 150 - x'.i < 150 - x.i; omega) [] TT H hsub)))
    refine sxb hX [.r 9] [] 100 rfl trivial ?_
    exact ss_sw hX (sw_ss (hXTl p) (cs := []) hp)
  · have hn : (x.i : Int) < (N : Int) → ¬ (x.i : Int) < 150 := fun q q2 => hlt ⟨by omega, by omega⟩
    have hl := hx.b.hl
    have t4' := hx.b.t4
    have hl5 : x.z.W.length ≤ 5000 := by omega
    have hl6 : x.z.W.length < 1000000 := by omega
    dsimp only [ypT, ypH, yqH]
    refine sx hX [] 4000 rfl (by (simp [-List.getD_eq_getElem?_getD, -List.length_eq_zero_iff, conjP])) ?_
    refine ss_pb hX [] [] 4000 rfl (fun hb0 => ?_) (fun hb0 => ?_)
    · try simp [-List.getD_eq_getElem?_getD, -List.length_eq_zero_iff] at hb0
      refine sx hX [.T] 4000 rfl (by (simp [-List.getD_eq_getElem?_getD, -List.length_eq_zero_iff, conjP, addOP, hb0])) ?_
      refine sx hX [.F] 4000 rfl (by (simp [-List.getD_eq_getElem?_getD, -List.length_eq_zero_iff, conjP, getH, HE.so, hn, hl5, hl6, hb0])) ?_
      (refine ss_end hX [0, 1] rfl rfl trivial rfl rfl rfl rfl ?tt ?hh ?ot ?ok; (case tt => first | exact show decide (_ = _) = true from decide_eq_true rfl | (exact clhY)); (case hh => (exact clhY)); (case ot => (exact clkY)); (case ok => (exact clkY)))
    · try simp [-List.getD_eq_getElem?_getD, -List.length_eq_zero_iff] at hb0
      refine sx hX [.F] 4000 rfl (by (simp [-List.getD_eq_getElem?_getD, -List.length_eq_zero_iff, conjP, getH, HE.so, hl5, hl6, hb0])) ?_
      (refine ss_end hX [0, 1] rfl rfl trivial rfl rfl rfl rfl ?tt ?hh ?ot ?ok; (case tt => first | exact show decide (_ = _) = true from decide_eq_true rfl | (exact clhY)); (case hh => (exact clhY)); (case ot => (exact clkY)); (case ok => (exact clkY)))
set_option maxHeartbeats 8000000 in
theorem topicsPlay_nil (q0 q1 : Int) (a : Option Addr) : Gives Tryz.prog 12 [L2 q0 q1, .raw (.slice a 0 0)] [pinE RTV] (Is .tt [pinE RTV]) := by
  have hX := hXTa
  obtain ⟨T, t1, t4, eT, r1, r8⟩ := cfg_cases q0 q1
  generalize hR : cAnd 7 q1 = R at r1 r8
  have hr := right_TR t1 t4 r1 r8
  have hl := mkQ_len (R := R) t1 t4
  have hl5 : (mkA (T : Int) 4 1 4 4 1 6 0 R).W.length ≤ 5000 := by omega
  have hl6 : (mkA (T : Int) 4 1 4 4 1 6 0 R).W.length < 1000000 := by omega
  refine gives_x hX (fn := Tryz.f12) rfl rfl rfl rfl fun ρ w => ?_
  refine sx hX [] 4000 rfl (by (simp [-List.getD_eq_getElem?_getD, -List.length_eq_zero_iff, conjP, eT, hR, hr])) ?_
  refine sx hX [.F] 4000 rfl (by (simp [-List.getD_eq_getElem?_getD, -List.length_eq_zero_iff, conjP, getH, HE.so, eT, hR, hl5, hl6])) ?_
  (refine ss_end hX [0] rfl rfl trivial rfl rfl rfl rfl ?tt ?hh ?ot ?ok; (case tt => first | exact show decide (_ = _) = true from decide_eq_true rfl | (exact clhY)); (case hh => (exact clhY)); (case ot => (exact clkY)); (case ok => (exact clkY)))
end Go.Proofs.YtkkddjchkkaagaaGreatDoor
namespace Go.Proofs.YtkkddjchkkaagaaGreatDoor.topicsPlay
open Go Go.Hx
abbrev ks99 : List (Option IntKind) := [some .i64, some .i64, none, none]
theorem row_of (l : List SV) (h : okK ks99 l) : ∃ o : Int × Int × Bool × Bool, l = actR (fun _ => o) 0 := by
  rcases l with _ | ⟨a, _ | ⟨b, _ | ⟨c, _ | ⟨d, _ | ⟨e, r⟩⟩⟩⟩⟩ <;> simp only [okK, and_false] at h
  obtain ⟨⟨n1, rfl, _⟩, ⟨n2, rfl, _⟩, ⟨n3, rfl⟩, ⟨n4, rfl⟩, _⟩ := h
  exact ⟨(n1, n2, n3, n4), rfl⟩
theorem rows_of (o : Nat → List SV) (h : ∀ i, okK ks99 (o i)) : ∃ q : Nat → Int × Int × Bool × Bool, o = actR q :=
  ⟨fun i => Classical.choose (row_of (o i) (h i)), funext fun i => Classical.choose_spec (row_of (o i) (h i))⟩
theorem walk_nil (a : Option Addr) (l : List SV) (h : okK [some .i64, some .i64] l) : ∃ L, Gives Tryz.prog 12 [.agg l, .raw (.slice a 0 0)] [pinE RTV] (Is .tt L) := by
  rcases l with _ | ⟨x, _ | ⟨y, _ | ⟨z, r⟩⟩⟩ <;> simp only [okK, and_false] at h
  obtain ⟨⟨n0, rfl, _⟩, ⟨n1, rfl, _⟩, _⟩ := h
  exact ⟨_, topicsPlay_nil n0 n1 a⟩
theorem walk (l : List SV) (h : okK [some .i64, some .i64] l) (o : Nat → List SV) (ho : ∀ i, okK ks99 (o i)) (len cap : Nat) (_ : len ≤ maxLen) : ∃ L, Gives Tryz.prog 12 [.agg l, .slice 0 0 len cap] [.obj (.rows len 4 o), pinE RTV] (Is .tt L) := by
  rcases l with _ | ⟨x, _ | ⟨y, _ | ⟨z, r⟩⟩⟩ <;> simp only [okK, and_false] at h
  obtain ⟨⟨n0, rfl, _⟩, ⟨n1, rfl, _⟩, _⟩ := h
  obtain ⟨q, rfl⟩ := rows_of o ho
  exact ⟨_, topicsPlay_fn n0 n1 len cap q⟩
end Go.Proofs.YtkkddjchkkaagaaGreatDoor.topicsPlay
