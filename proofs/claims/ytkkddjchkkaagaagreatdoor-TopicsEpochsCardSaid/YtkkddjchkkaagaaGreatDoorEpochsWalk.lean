/- TopicsEpochs: a topic that comes has as its epoch how often its place was left: no two topics that ever were have one place, and one epoch. -/
import Derived.Test.YtkkddjchkkaagaaGreatDoorEpochsRound
namespace Go.Proofs.YtkkddjchkkaagaaGreatDoor
open Go Go.Hx
set_option maxRecDepth 8000
def awTS : List SV → Option (List Prop × SV)
  | [] => some ([], .tt)
  | _ => none
theorem awTS_ok : PureOk 50 awTS := by
  intro args ob V hs ho
  unfold awTS at hs
  split at hs
  · simp only [Option.some.injEq, Prod.mk.injEq] at hs
    obtain ⟨rfl, rfl⟩ := hs
    exact ⟨rfl, rfl, awakeT_fn⟩
  · simp at hs
def cfgGS : List SV → Option (List Prop × SV)
  | [.agg [.int .i64 l0, .int .i64 l1]] => some ([], C9 (cAnd 3 l0) 4 1 4 4 1 6 0 (cAnd 7 l1))
  | _ => none
theorem cfgGS_ok : PureOk 51 cfgGS := by
  intro args ob V hs ho
  unfold cfgGS at hs
  split at hs
  · simp only [Option.some.injEq, Prod.mk.injEq] at hs
    obtain ⟨rfl, rfl⟩ := hs
    exact ⟨rfl, rfl, configT_fn _ _⟩
  · simp at hs
def ctTa : Nat → Option Hx.Spec
  | 50 => some (pureS awTS)
  | 51 => some (pureS cfgGS)
  | 143 => some (pureS rightS)
  | 27 => some (makeS)
  | _ => none
theorem ctTa_ok : ∀ f s args H ob V L, ctTa f = some s → s args H = some (ob, V, L) → AllP ob → Gives Tryz.prog f args H (Is V L) := by
  intro f s args H ob V L h hs ho
  unfold ctTa at h
  split at h
  · simp at h; subst h; exact pureS_ok ⟨_, hTE⟩ (awTS_ok) hs ho
  · simp at h; subst h; exact pureS_ok ⟨_, hTE⟩ (cfgGS_ok) hs ho
  · simp at h; subst h; exact pureS_ok ⟨_, hTE⟩ (rightS_ok right143) hs ho
  · simp at h; subst h; exact makeS_ok hs ho
  · simp at h
noncomputable def XTa : Tabs := tabs tr ft xt (fun _ => none) ctTa 20
theorem hXTa : TOk Tryz.prog (XTa) := ⟨hTE, hFT, ctTa_ok, hXT, fun t ks h => by simp [XTa, tabs] at h, mixed⟩
theorem mkQ_d {T : Nat} {R : Int} (t1 : 1 ≤ T) (t4 : T ≤ 4) (r1 : 1 ≤ R) (r8 : R ≤ 8) : DInv T (sfT T R) (mkA (T : Int) 4 1 4 4 1 6 0 R).W (cf3 none none none) := by
  have hr := right_TR t1 t4 r1 r8
  have w2 : (mkA (T : Int) 4 1 4 4 1 6 0 R).W.getD 2 0 = 0 := mkA_zero hr (.inl rfl)
  have we : ∀ p, p < T → (mkA (T : Int) 4 1 4 4 1 6 0 R).W.getD (eP p) 0 = 0 := fun p hp => mkA_zero hr (.inr ⟨by unfold eP; omega, by unfold eP; omega⟩)
  have wc : ∀ p, p < T → (mkA (T : Int) 4 1 4 4 1 6 0 R).W.getD (cP T p) 0 = 0 := fun p hp => mkA_zero hr (.inr ⟨by unfold cP; omega, by unfold cP; omega⟩)
  have nn : ∀ a s, cf3 none none none a ≠ some s := fun a s => by rcases a with _ | _ | _ | a <;> simp [cf3]
  have k0 : isK 0 = false := by decide
  refine ⟨⟨t1, mkQ_len t1 t4, fun p hp => .inl (we p hp), fun p q hp _ a _ _ => ?_, fun p j hp a _ => ?_⟩, fun a b s t h _ _ _ => absurd h (nn a s), ?_, fun a s h _ => absurd h (nn a s), fun a s h => absurd h (nn a s), fun a s h _ => absurd h (nn a s), fun p hp => .inr ?_, fun a s h _ => absurd h (nn a s)⟩
  · rw [we p hp, k0] at a; cases a
  · rw [we p hp, k0] at a; cases a
  · rw [w2]
    exact ⟨fun q => by omega, fun ⟨a, s, h, _⟩ => absurd h (nn a s)⟩
  · rw [we p hp, wc p hp]; decide
theorem ex0_ok {T : Nat} {R : Int} {N : Nat} (t1 : 1 ≤ T) (t4 : T ≤ 4) (r1 : 1 ≤ R) (r8 : R ≤ 8) : XInv T R N ⟨0, (mkA (T : Int) 4 1 4 4 1 6 0 R).W, (mkA (T : Int) 4 1 4 4 1 6 0 R).st, 2, (mkA (T : Int) 4 1 4 4 1 6 0 R).wd, (mkA (T : Int) 4 1 4 4 1 6 0 R).vl, true, List.replicate T 0⟩ := by
  have hr := right_TR t1 t4 r1 r8
  have wc : ∀ p, p < T → (mkA (T : Int) 4 1 4 4 1 6 0 R).W.getD (cP T p) 0 = 0 := fun p hp => mkA_zero hr (.inr ⟨by unfold cP; omega, by unfold cP; omega⟩)
  refine ⟨⟨mkQ_bi t1 t4 r1 r8, mkQ_d t1 t4 r1 r8, fun p hp => ?_⟩, by simp, fun p hp => ?_, Nat.zero_le _, Nat.zero_le _⟩
  · rw [wc p hp]; decide
  · dsimp only
    rw [wc p hp, List.getD_eq_getElem?_getD, List.getElem?_replicate, if_pos hp]
    decide
set_option maxHeartbeats 8000000 in
theorem topicsEpochs_fn (q0 q1 : Int) (N cap : Nat) (o : Nat → Int × Int × Bool × Bool) : Gives Tryz.prog 9 [L2 q0 q1, .slice 0 0 N cap] [.obj (.rows N 4 (actR o)), pinE RTV] (Is .tt [.obj (.rows N 4 (actR o)), pinE RTV]) := by
  have hX := hXTa
  obtain ⟨T, t1, t4, eT, r1, r8⟩ := cfg_cases q0 q1
  generalize hR : cAnd 7 q1 = R at r1 r8
  have hr := right_TR t1 t4 r1 r8
  have hT0 : (0 : Int) ≤ (T : Int) := by omega
  have hT1 : (T : Int) ≤ 4 := by omega
  refine gives_x hX (fn := Tryz.f9) rfl rfl rfl rfl fun ρ w => ?_
  refine sxb hX [.l] [] 4000 rfl (by simp [conjP, eT, hR, hr]; omega) ?_
  simp only [eT, hR, Int.toNat_natCast]
  refine ss_sub hX (T' := exT T N cap ⟨0, (mkA (T : Int) 4 1 4 4 1 6 0 R).W, (mkA (T : Int) 4 1 4 4 1 6 0 R).st, 2, (mkA (T : Int) 4 1 4 4 1 6 0 R).wd, (mkA (T : Int) 4 1 4 4 1 6 0 R).vl, true, List.replicate T 0⟩) (H' := exH N o T R ⟨0, (mkA (T : Int) 4 1 4 4 1 6 0 R).W, (mkA (T : Int) 4 1 4 4 1 6 0 R).st, 2, (mkA (T : Int) 4 1 4 4 1 6 0 R).wd, (mkA (T : Int) 4 1 4 4 1 6 0 R).vl, true, List.replicate T 0⟩ []) [0, 1, 3, 5, 4, 6] rfl rfl rfl rfl ?tt ?hh ?ot ?ok ?_
  case tt => exact clhE
  case hh => exact clhE
  case ot => exact clkE
  case ok => exact clkE
  refine ss_loop hX (exT T N cap) (fun x => exH N o T R x []) (XInv T R N) (fun x => 60 - x.i) _ (ex0_ok t1 t4 r1 r8) ?_
  intro x hx I back
  by_cases hlt : x.i < N ∧ x.i < 60
  · refine sxb hX [.r 8] [] 100 rfl trivial ?_
    exact ss_sw hX (sw_ss (hXEq (p00 T R)) (cs := []) (eround hx hlt.1 hlt.2 (fun p0 x' hx' hi' cs TT H hsub => ss_sw (hXEq p0) (sw_ss hX (back x' hx' (by show 60 - x'.i < 60 - x.i; omega) [] TT H hsub)))))
  · have hn : (x.i : Int) < (N : Int) → ¬ (x.i : Int) < 60 := fun q q2 => hlt ⟨by omega, by omega⟩
    dsimp only [exT, exH]
    refine sx hX [] 4000 rfl (by (simp [-List.getD_eq_getElem?_getD, -List.length_eq_zero_iff, conjP])) ?_
    refine ss_pb hX [] [] 4000 rfl (fun hb0 => ?_) (fun hb0 => ?_)
    · try simp [-List.getD_eq_getElem?_getD, -List.length_eq_zero_iff] at hb0
      refine sx hX [.T] 4000 rfl (by (simp [-List.getD_eq_getElem?_getD, -List.length_eq_zero_iff, conjP, addOP, hb0])) ?_
      refine sx hX [.F] 4000 rfl (by (simp [-List.getD_eq_getElem?_getD, -List.length_eq_zero_iff, conjP, addOP, hn, hb0])) ?_
      (refine ss_end hX [0, 1] rfl rfl trivial rfl rfl rfl rfl ?tt ?hh ?ot ?ok; (case tt => exact clhE); (case hh => exact clhE); (case ot => exact clkE); (case ok => exact clkE))
    · try simp [-List.getD_eq_getElem?_getD, -List.length_eq_zero_iff] at hb0
      refine sx hX [.F] 4000 rfl (by (simp [-List.getD_eq_getElem?_getD, -List.length_eq_zero_iff, conjP, addOP, hb0])) ?_
      (refine ss_end hX [0, 1] rfl rfl trivial rfl rfl rfl rfl ?tt ?hh ?ot ?ok; (case tt => exact clhE); (case hh => exact clhE); (case ot => exact clkE); (case ok => exact clkE))
set_option maxHeartbeats 8000000 in
theorem topicsEpochs_nil (q0 q1 : Int) (a : Option Addr) : Gives Tryz.prog 9 [L2 q0 q1, .raw (.slice a 0 0)] [pinE RTV] (Is .tt [pinE RTV]) := by
  have hX := hXTa
  obtain ⟨T, t1, t4, eT, r1, r8⟩ := cfg_cases q0 q1
  generalize hR : cAnd 7 q1 = R at r1 r8
  have hr := right_TR t1 t4 r1 r8
  have hT0 : (0 : Int) ≤ (T : Int) := by omega
  have hT1 : (T : Int) ≤ 4 := by omega
  refine gives_x hX (fn := Tryz.f9) rfl rfl rfl rfl fun ρ w => ?_
  refine sx hX [] 4000 rfl (by (simp [-List.getD_eq_getElem?_getD, -List.length_eq_zero_iff, conjP, eT, hR, hr, hT0] <;> (first | omega | ((repeat' (refine And.intro ?_ ?_)) <;> (first | omega | exact decide_eq_false (by omega) | exact decide_eq_true (by omega)))))) ?_
  refine sx hX [.F] 4000 rfl (by (simp [-List.getD_eq_getElem?_getD, -List.length_eq_zero_iff, conjP, addOP])) ?_
  (refine ss_end hX [0] rfl rfl trivial rfl rfl rfl rfl ?tt ?hh ?ot ?ok; (case tt => exact clhE); (case hh => exact clhE); (case ot => exact clkE); (case ok => exact clkE))
end Go.Proofs.YtkkddjchkkaagaaGreatDoor
namespace Go.Proofs.YtkkddjchkkaagaaGreatDoor.topicsEpochs
open Go Go.Hx
abbrev ks99 : List (Option IntKind) := [some .i64, some .i64, none, none]
theorem row_of (l : List SV) (h : okK ks99 l) : ∃ o : Int × Int × Bool × Bool, l = actR (fun _ => o) 0 := by
  rcases l with _ | ⟨a, _ | ⟨b, _ | ⟨c, _ | ⟨d, _ | ⟨e, r⟩⟩⟩⟩⟩ <;> simp only [okK, and_false] at h
  obtain ⟨⟨n1, rfl, _⟩, ⟨n2, rfl, _⟩, ⟨n3, rfl⟩, ⟨n4, rfl⟩, _⟩ := h
  exact ⟨(n1, n2, n3, n4), rfl⟩
theorem rows_of (o : Nat → List SV) (h : ∀ i, okK ks99 (o i)) : ∃ q : Nat → Int × Int × Bool × Bool, o = actR q :=
  ⟨fun i => Classical.choose (row_of (o i) (h i)), funext fun i => Classical.choose_spec (row_of (o i) (h i))⟩
theorem walk_nil (a : Option Addr) (l : List SV) (h : okK [some .i64, some .i64] l) : ∃ L, Gives Tryz.prog 9 [.agg l, .raw (.slice a 0 0)] [pinE RTV] (Is .tt L) := by
  rcases l with _ | ⟨x, _ | ⟨y, _ | ⟨z, r⟩⟩⟩ <;> simp only [okK, and_false] at h
  obtain ⟨⟨n0, rfl, _⟩, ⟨n1, rfl, _⟩, _⟩ := h
  exact ⟨_, topicsEpochs_nil n0 n1 a⟩
theorem walk (l : List SV) (h : okK [some .i64, some .i64] l) (o : Nat → List SV) (ho : ∀ i, okK ks99 (o i)) (len cap : Nat) (_ : len ≤ maxLen) : ∃ L, Gives Tryz.prog 9 [.agg l, .slice 0 0 len cap] [.obj (.rows len 4 o), pinE RTV] (Is .tt L) := by
  rcases l with _ | ⟨x, _ | ⟨y, _ | ⟨z, r⟩⟩⟩ <;> simp only [okK, and_false] at h
  obtain ⟨⟨n0, rfl, _⟩, ⟨n1, rfl, _⟩, _⟩ := h
  obtain ⟨q, rfl⟩ := rows_of o ho
  exact ⟨_, topicsEpochs_fn n0 n1 len cap q⟩
end Go.Proofs.YtkkddjchkkaagaaGreatDoor.topicsEpochs
