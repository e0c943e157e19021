/- TopicsMap: the directory is a map: in the order in which runs took effect, a key is created if it is not there, and removed if it is; and what is there at last is just what is found. -/
import Derived.Test.YtkkddjchkkaagaaGreatDoorMapIdle
import Derived.Test.YtkkddjchkkaagaaGreatDoorMapA
import Derived.Test.YtkkddjchkkaagaaGreatDoorMapStepA
import Derived.Test.YtkkddjchkkaagaaGreatDoorMapStepB
import Derived.Test.YtkkddjchkkaagaaGreatDoorMapEnd
import Derived.Test.YtkkddjchkkaagaaGreatDoorAwake
namespace Go.Proofs.YtkkddjchkkaagaaGreatDoor
open Go Go.Hx
set_option maxRecDepth 8000
def awTS : List SV → Option (List Prop × SV)
  | [] => some ([], .tt)
  | _ => none
theorem awTS_ok : PureOk 50 awTS := by
  intro args ob V hs ho
  unfold awTS at hs
  split at hs
  · simp only [Option.some.injEq, Prod.mk.injEq] at hs
    obtain ⟨rfl, rfl⟩ := hs
    exact ⟨rfl, rfl, awakeT_fn⟩
  · simp at hs
def cfgGS : List SV → Option (List Prop × SV)
  | [.agg [.int .i64 l0, .int .i64 l1]] => some ([], C9 (cAnd 3 l0) 4 1 4 4 1 6 0 (cAnd 7 l1))
  | _ => none
theorem cfgGS_ok : PureOk 51 cfgGS := by
  intro args ob V hs ho
  unfold cfgGS at hs
  split at hs
  · simp only [Option.some.injEq, Prod.mk.injEq] at hs
    obtain ⟨rfl, rfl⟩ := hs
    exact ⟨rfl, rfl, configT_fn _ _⟩
  · simp at hs
def ctTa : Nat → Option Hx.Spec
  | 50 => some (pureS awTS)
  | 51 => some (pureS cfgGS)
  | 143 => some (pureS rightS)
  | 27 => some (makeS)
  | _ => none
theorem ctTa_ok : ∀ f s args H ob V L, ctTa f = some s → s args H = some (ob, V, L) → AllP ob → Gives Tryz.prog f args H (Is V L) := by
  intro f s args H ob V L h hs ho
  unfold ctTa at h
  split at h
  · simp at h; subst h; exact pureS_ok ⟨_, hTE⟩ (awTS_ok) hs ho
  · simp at h; subst h; exact pureS_ok ⟨_, hTE⟩ (cfgGS_ok) hs ho
  · simp at h; subst h; exact pureS_ok ⟨_, hTE⟩ (rightS_ok right143) hs ho
  · simp at h; subst h; exact makeS_ok hs ho
  · simp at h
noncomputable def XTa : Tabs := tabs tr ft xt (fun _ => none) ctTa 0
theorem hXTa : TOk Tryz.prog (XTa) := ⟨hTE, hFT, ctTa_ok, hXT, fun t ks h => by simp [XTa, tabs] at h, mixed⟩
section
variable {T : Nat} {R : Int} {N cap : Nat} {o : Nat → Int × Int × Bool × Bool} {x : US} {ρ : Nat → Nat × Nat} {w : World} {I : Act → World → Prop}
theorem ut0 (h : UInv T R N x) (hs : x.i < min N 200 + 120) (hk : x.i < min N 200 ∨ x.i % 4 = 0) (ne : x.z.c0 ≠ none) (J : ∀ p, UJ p T R N cap o x ρ w I) : ∃ p, UK p 0 T R N cap o x ρ w I := by
  rcases hc : x.z.c0 with _ | ⟨rm, lg, key, ph, seq, j0, fd, hd, tm, er, pl, sn, fl, bk, ep, tp, tl⟩
  · exact absurd hc ne
  · rcases rm with _ | _
    · by_cases e0 : (tStep T R (sfT T R key) ⟨false, lg, key, ph, seq, j0, fd, hd, tm, er, pl, sn, fl, bk, ep, tp, tl⟩ x.z.W x.z.st).s.ph = 0
      · by_cases e1 : (tStep T R (sfT T R key) ⟨false, lg, key, ph, seq, j0, fd, hd, tm, er, pl, sn, fl, bk, ep, tp, tl⟩ x.z.W x.z.st).s.er = 0
        · by_cases hL : x.L = []
          · exact ut0cdnt h hs hk hc rfl e0 e1 hL J
          · exact ut0cdst h hs hk hc rfl e0 e1 hL J
        · by_cases hL : x.L = []
          · exact ut0cdnf h hs hk hc rfl e0 e1 hL J
          · exact ut0cdsf h hs hk hc rfl e0 e1 hL J
      · exact ut0cn h hs hk hc rfl e0 J
    · by_cases e0 : (tStep T R (sfT T R key) ⟨true, lg, key, ph, seq, j0, fd, hd, tm, er, pl, sn, fl, bk, ep, tp, tl⟩ x.z.W x.z.st).s.ph = 0
      · by_cases e1 : (tStep T R (sfT T R key) ⟨true, lg, key, ph, seq, j0, fd, hd, tm, er, pl, sn, fl, bk, ep, tp, tl⟩ x.z.W x.z.st).s.er = 0
        · by_cases hL : x.L = []
          · exact ut0rdnt h hs hk hc rfl e0 e1 hL J
          · exact ut0rdst h hs hk hc rfl e0 e1 hL J
        · by_cases hL : x.L = []
          · exact ut0rdnf h hs hk hc rfl e0 e1 hL J
          · exact ut0rdsf h hs hk hc rfl e0 e1 hL J
      · exact ut0rn h hs hk hc rfl e0 J
theorem ut1 (h : UInv T R N x) (hs : x.i < min N 200 + 120) (hk : x.i < min N 200 ∨ x.i % 4 = 1) (ne : x.z.c1 ≠ none) (J : ∀ p, UJ p T R N cap o x ρ w I) : ∃ p, UK p 1 T R N cap o x ρ w I := by
  rcases hc : x.z.c1 with _ | ⟨rm, lg, key, ph, seq, j0, fd, hd, tm, er, pl, sn, fl, bk, ep, tp, tl⟩
  · exact absurd hc ne
  · rcases rm with _ | _
    · by_cases e0 : (tStep T R (sfT T R key) ⟨false, lg, key, ph, seq, j0, fd, hd, tm, er, pl, sn, fl, bk, ep, tp, tl⟩ x.z.W x.z.st).s.ph = 0
      · by_cases e1 : (tStep T R (sfT T R key) ⟨false, lg, key, ph, seq, j0, fd, hd, tm, er, pl, sn, fl, bk, ep, tp, tl⟩ x.z.W x.z.st).s.er = 0
        · by_cases hL : x.L = []
          · exact ut1cdnt h hs hk hc rfl e0 e1 hL J
          · exact ut1cdst h hs hk hc rfl e0 e1 hL J
        · by_cases hL : x.L = []
          · exact ut1cdnf h hs hk hc rfl e0 e1 hL J
          · exact ut1cdsf h hs hk hc rfl e0 e1 hL J
      · exact ut1cn h hs hk hc rfl e0 J
    · by_cases e0 : (tStep T R (sfT T R key) ⟨true, lg, key, ph, seq, j0, fd, hd, tm, er, pl, sn, fl, bk, ep, tp, tl⟩ x.z.W x.z.st).s.ph = 0
      · by_cases e1 : (tStep T R (sfT T R key) ⟨true, lg, key, ph, seq, j0, fd, hd, tm, er, pl, sn, fl, bk, ep, tp, tl⟩ x.z.W x.z.st).s.er = 0
        · by_cases hL : x.L = []
          · exact ut1rdnt h hs hk hc rfl e0 e1 hL J
          · exact ut1rdst h hs hk hc rfl e0 e1 hL J
        · by_cases hL : x.L = []
          · exact ut1rdnf h hs hk hc rfl e0 e1 hL J
          · exact ut1rdsf h hs hk hc rfl e0 e1 hL J
      · exact ut1rn h hs hk hc rfl e0 J
theorem ut2 (h : UInv T R N x) (hs : x.i < min N 200 + 120) (hk : x.i < min N 200 ∨ x.i % 4 = 2) (ne : x.z.c2 ≠ none) (J : ∀ p, UJ p T R N cap o x ρ w I) : ∃ p, UK p 2 T R N cap o x ρ w I := by
  rcases hc : x.z.c2 with _ | ⟨rm, lg, key, ph, seq, j0, fd, hd, tm, er, pl, sn, fl, bk, ep, tp, tl⟩
  · exact absurd hc ne
  · rcases rm with _ | _
    · by_cases e0 : (tStep T R (sfT T R key) ⟨false, lg, key, ph, seq, j0, fd, hd, tm, er, pl, sn, fl, bk, ep, tp, tl⟩ x.z.W x.z.st).s.ph = 0
      · by_cases e1 : (tStep T R (sfT T R key) ⟨false, lg, key, ph, seq, j0, fd, hd, tm, er, pl, sn, fl, bk, ep, tp, tl⟩ x.z.W x.z.st).s.er = 0
        · by_cases hL : x.L = []
          · exact ut2cdnt h hs hk hc rfl e0 e1 hL J
          · exact ut2cdst h hs hk hc rfl e0 e1 hL J
        · by_cases hL : x.L = []
          · exact ut2cdnf h hs hk hc rfl e0 e1 hL J
          · exact ut2cdsf h hs hk hc rfl e0 e1 hL J
      · exact ut2cn h hs hk hc rfl e0 J
    · by_cases e0 : (tStep T R (sfT T R key) ⟨true, lg, key, ph, seq, j0, fd, hd, tm, er, pl, sn, fl, bk, ep, tp, tl⟩ x.z.W x.z.st).s.ph = 0
      · by_cases e1 : (tStep T R (sfT T R key) ⟨true, lg, key, ph, seq, j0, fd, hd, tm, er, pl, sn, fl, bk, ep, tp, tl⟩ x.z.W x.z.st).s.er = 0
        · by_cases hL : x.L = []
          · exact ut2rdnt h hs hk hc rfl e0 e1 hL J
          · exact ut2rdst h hs hk hc rfl e0 e1 hL J
        · by_cases hL : x.L = []
          · exact ut2rdnf h hs hk hc rfl e0 e1 hL J
          · exact ut2rdsf h hs hk hc rfl e0 e1 hL J
      · exact ut2rn h hs hk hc rfl e0 J
theorem ua (h : UInv T R N x) (hN : N < 9223372036854775688) (hs : x.i < min N 200 + 120) (J : ∀ p, UJ p T R N cap o x ρ w I) : ∃ p, UG p T R N cap o x ρ w I := by
  by_cases g : x.i < min N 200
  · rcases a3_cases (o x.i).1 with ha | ha | ha | ha
    · rcases hc : x.z.c0 with _ | ⟨rm, lg, key, ph, seq, j0, fd, hd, tm, er, pl, sn, fl, bk, ep, tp, tl⟩
      · rcases hbk : (o x.i).2.2.1 with _ | _
        · exact ub0f h hN g ha hc hbk (fun x' h' e ne => ut0 h' (by rw [e]; omega) (by rw [e]; exact .inl g) ne (fun p x'' hx hi2 => J p x'' hx (by rw [hi2, e])))
        · exact ub0t h hN g ha hc hbk (fun x' h' e ne => ut0 h' (by rw [e]; omega) (by rw [e]; exact .inl g) ne (fun p x'' hx hi2 => J p x'' hx (by rw [hi2, e])))
      · rcases rm with _ | _
        · exact ug0cs h hN g ha hc (fun x' h' e ne => ut0 h' (by rw [e]; omega) (by rw [e]; exact .inl g) ne (fun p x'' hx hi2 => J p x'' hx (by rw [hi2, e])))
        · exact ug0rs h hN g ha hc (fun x' h' e ne => ut0 h' (by rw [e]; omega) (by rw [e]; exact .inl g) ne (fun p x'' hx hi2 => J p x'' hx (by rw [hi2, e])))
    · rcases hc : x.z.c1 with _ | ⟨rm, lg, key, ph, seq, j0, fd, hd, tm, er, pl, sn, fl, bk, ep, tp, tl⟩
      · rcases hbk : (o x.i).2.2.1 with _ | _
        · exact ub1f h hN g ha hc hbk (fun x' h' e ne => ut1 h' (by rw [e]; omega) (by rw [e]; exact .inl g) ne (fun p x'' hx hi2 => J p x'' hx (by rw [hi2, e])))
        · exact ub1t h hN g ha hc hbk (fun x' h' e ne => ut1 h' (by rw [e]; omega) (by rw [e]; exact .inl g) ne (fun p x'' hx hi2 => J p x'' hx (by rw [hi2, e])))
      · rcases rm with _ | _
        · exact ug1cs h hN g ha hc (fun x' h' e ne => ut1 h' (by rw [e]; omega) (by rw [e]; exact .inl g) ne (fun p x'' hx hi2 => J p x'' hx (by rw [hi2, e])))
        · exact ug1rs h hN g ha hc (fun x' h' e ne => ut1 h' (by rw [e]; omega) (by rw [e]; exact .inl g) ne (fun p x'' hx hi2 => J p x'' hx (by rw [hi2, e])))
    · rcases hc : x.z.c2 with _ | ⟨rm, lg, key, ph, seq, j0, fd, hd, tm, er, pl, sn, fl, bk, ep, tp, tl⟩
      · rcases hbk : (o x.i).2.2.1 with _ | _
        · exact ub2f h hN g ha hc hbk (fun x' h' e ne => ut2 h' (by rw [e]; omega) (by rw [e]; exact .inl g) ne (fun p x'' hx hi2 => J p x'' hx (by rw [hi2, e])))
        · exact ub2t h hN g ha hc hbk (fun x' h' e ne => ut2 h' (by rw [e]; omega) (by rw [e]; exact .inl g) ne (fun p x'' hx hi2 => J p x'' hx (by rw [hi2, e])))
      · rcases rm with _ | _
        · exact ug2cs h hN g ha hc (fun x' h' e ne => ut2 h' (by rw [e]; omega) (by rw [e]; exact .inl g) ne (fun p x'' hx hi2 => J p x'' hx (by rw [hi2, e])))
        · exact ug2rs h hN g ha hc (fun x' h' e ne => ut2 h' (by rw [e]; omega) (by rw [e]; exact .inl g) ne (fun p x'' hx hi2 => J p x'' hx (by rw [hi2, e])))
    · exact ui3s h hN g ha J
  · have h4 : x.i % 4 = 0 ∨ x.i % 4 = 1 ∨ x.i % 4 = 2 ∨ x.i % 4 = 3 := by omega
    by_cases gn : N ≤ x.i
    · rcases h4 with ha | ha | ha | ha
      · rcases hc : x.z.c0 with _ | ⟨rm, lg, key, ph, seq, j0, fd, hd, tm, er, pl, sn, fl, bk, ep, tp, tl⟩
        · exact uin0n h hN hs gn ha hc J
        · rcases rm with _ | _
          · exact ug0cn h hN hs gn ha hc (fun x' h' e ne => ut0 h' (by rw [e]; omega) (by rw [e]; exact .inr ha) ne (fun p x'' hx hi2 => J p x'' hx (by rw [hi2, e])))
          · exact ug0rn h hN hs gn ha hc (fun x' h' e ne => ut0 h' (by rw [e]; omega) (by rw [e]; exact .inr ha) ne (fun p x'' hx hi2 => J p x'' hx (by rw [hi2, e])))
      · rcases hc : x.z.c1 with _ | ⟨rm, lg, key, ph, seq, j0, fd, hd, tm, er, pl, sn, fl, bk, ep, tp, tl⟩
        · exact uin1n h hN hs gn ha hc J
        · rcases rm with _ | _
          · exact ug1cn h hN hs gn ha hc (fun x' h' e ne => ut1 h' (by rw [e]; omega) (by rw [e]; exact .inr ha) ne (fun p x'' hx hi2 => J p x'' hx (by rw [hi2, e])))
          · exact ug1rn h hN hs gn ha hc (fun x' h' e ne => ut1 h' (by rw [e]; omega) (by rw [e]; exact .inr ha) ne (fun p x'' hx hi2 => J p x'' hx (by rw [hi2, e])))
      · rcases hc : x.z.c2 with _ | ⟨rm, lg, key, ph, seq, j0, fd, hd, tm, er, pl, sn, fl, bk, ep, tp, tl⟩
        · exact uin2n h hN hs gn ha hc J
        · rcases rm with _ | _
          · exact ug2cn h hN hs gn ha hc (fun x' h' e ne => ut2 h' (by rw [e]; omega) (by rw [e]; exact .inr ha) ne (fun p x'' hx hi2 => J p x'' hx (by rw [hi2, e])))
          · exact ug2rn h hN hs gn ha hc (fun x' h' e ne => ut2 h' (by rw [e]; omega) (by rw [e]; exact .inr ha) ne (fun p x'' hx hi2 => J p x'' hx (by rw [hi2, e])))
      · exact ui3n h hN hs gn ha J
    · have gl : x.i < N := by omega
      have g2 : 200 ≤ x.i := by omega
      rcases h4 with ha | ha | ha | ha
      · rcases hc : x.z.c0 with _ | ⟨rm, lg, key, ph, seq, j0, fd, hd, tm, er, pl, sn, fl, bk, ep, tp, tl⟩
        · exact uin0l h hN hs gl g2 ha hc J
        · rcases rm with _ | _
          · exact ug0cl h hN hs gl g2 ha hc (fun x' h' e ne => ut0 h' (by rw [e]; omega) (by rw [e]; exact .inr ha) ne (fun p x'' hx hi2 => J p x'' hx (by rw [hi2, e])))
          · exact ug0rl h hN hs gl g2 ha hc (fun x' h' e ne => ut0 h' (by rw [e]; omega) (by rw [e]; exact .inr ha) ne (fun p x'' hx hi2 => J p x'' hx (by rw [hi2, e])))
      · rcases hc : x.z.c1 with _ | ⟨rm, lg, key, ph, seq, j0, fd, hd, tm, er, pl, sn, fl, bk, ep, tp, tl⟩
        · exact uin1l h hN hs gl g2 ha hc J
        · rcases rm with _ | _
          · exact ug1cl h hN hs gl g2 ha hc (fun x' h' e ne => ut1 h' (by rw [e]; omega) (by rw [e]; exact .inr ha) ne (fun p x'' hx hi2 => J p x'' hx (by rw [hi2, e])))
          · exact ug1rl h hN hs gl g2 ha hc (fun x' h' e ne => ut1 h' (by rw [e]; omega) (by rw [e]; exact .inr ha) ne (fun p x'' hx hi2 => J p x'' hx (by rw [hi2, e])))
      · rcases hc : x.z.c2 with _ | ⟨rm, lg, key, ph, seq, j0, fd, hd, tm, er, pl, sn, fl, bk, ep, tp, tl⟩
        · exact uin2l h hN hs gl g2 ha hc J
        · rcases rm with _ | _
          · exact ug2cl h hN hs gl g2 ha hc (fun x' h' e ne => ut2 h' (by rw [e]; omega) (by rw [e]; exact .inr ha) ne (fun p x'' hx hi2 => J p x'' hx (by rw [hi2, e])))
          · exact ug2rl h hN hs gl g2 ha hc (fun x' h' e ne => ut2 h' (by rw [e]; omega) (by rw [e]; exact .inr ha) ne (fun p x'' hx hi2 => J p x'' hx (by rw [hi2, e])))
      · exact ui3l h hN hs gl g2 ha J
end
theorem mkQ_d {T : Nat} {R : Int} (t1 : 1 ≤ T) (t4 : T ≤ 4) (r1 : 1 ≤ R) (r8 : R ≤ 8) : DInv T (sfT T R) (mkA (T : Int) 4 1 4 4 1 6 0 R).W (cf3 none none none) ∧ NF T (mkA (T : Int) 4 1 4 4 1 6 0 R).W (cf3 none none none) ∧ MG T (mkA (T : Int) 4 1 4 4 1 6 0 R).W (cf3 none none none) (mkA (T : Int) 4 1 4 4 1 6 0 R).st [] [] none := by
  have hr := right_TR t1 t4 r1 r8
  have w2 : (mkA (T : Int) 4 1 4 4 1 6 0 R).W.getD 2 0 = 0 := mkA_zero hr (.inl rfl)
  have we : ∀ p, p < T → (mkA (T : Int) 4 1 4 4 1 6 0 R).W.getD (eP p) 0 = 0 := fun p hp => mkA_zero hr (.inr ⟨by unfold eP; omega, by unfold eP; omega⟩)
  have wc : ∀ p, p < T → (mkA (T : Int) 4 1 4 4 1 6 0 R).W.getD (cP T p) 0 = 0 := fun p hp => mkA_zero hr (.inr ⟨by unfold cP; omega, by unfold cP; omega⟩)
  have nn : ∀ a s, cf3 none none none a ≠ some s := fun a s => by rcases a with _ | _ | _ | a <;> simp [cf3]
  have nn2 : ∀ a, cf3 none none none a = none := fun a => by rcases a with _ | _ | _ | a <;> rfl
  have k0 : isK 0 = false := by decide
  refine ⟨⟨⟨t1, mkQ_len t1 t4, fun p hp => .inl (we p hp), fun p q hp _ a _ _ => ?_, fun p j hp a _ => ?_⟩, fun a b s t h _ _ _ => absurd h (nn a s), ?_, fun a s h _ => absurd h (nn a s), fun a s h => absurd h (nn a s), fun a s h _ => absurd h (nn a s), fun p hp => .inr ?_, fun a s h _ => absurd h (nn a s)⟩, ⟨fun p hp => by rw [wc p hp]; decide, fun a s h => absurd h (nn a s)⟩, mg_0 nn2 (fun k ⟨p, hp, a, _⟩ => ?_) (mkQ_bi t1 t4 r1 r8).s0⟩
  · rw [we p hp, k0] at a; cases a
  · rw [we p hp, k0] at a; cases a
  · rw [w2]
    exact ⟨fun q => by omega, fun ⟨a, s, h, _⟩ => absurd h (nn a s)⟩
  · rw [we p hp, wc p hp]; decide
  · rw [we p hp, k0] at a; cases a
theorem um0_ok {T : Nat} {R : Int} {N : Nat} (t1 : 1 ≤ T) (t4 : T ≤ 4) (r1 : 1 ≤ R) (r8 : R ≤ 8) (v : Nat → Value) : UInv T R N ⟨0, mkQ T R v, []⟩ :=
  ⟨mkQ_bi t1 t4 r1 r8, trivial, trivial, trivial, (mkQ_d t1 t4 r1 r8).1, (mkQ_d t1 t4 r1 r8).2.1, ⟨[], none, (mkQ_d t1 t4 r1 r8).2.2⟩, trivial, trivial, trivial, trivial, trivial, trivial, Nat.le_refl _, Nat.zero_le _⟩
set_option maxHeartbeats 8000000 in
theorem topicsMap_fn (q0 q1 : Int) (N cap : Nat) (o : Nat → Int × Int × Bool × Bool) (hm : N < 9223372036854775808) : Gives Tryz.prog 11 [L2 q0 q1, .slice 0 0 N cap] [.obj (.rows N 4 (actR o)), pinE RTV] (Is .tt [.obj (.rows N 4 (actR o)), pinE RTV]) := by
  have hX := hXTa
  obtain ⟨T, t1, t4, eT, r1, r8⟩ := cfg_cases q0 q1
  generalize hR : cAnd 7 q1 = R at r1 r8
  have hr := right_TR t1 t4 r1 r8
  refine gives_x hX (fn := Tryz.f11) rfl rfl rfl rfl fun ρ w => ?_
  refine sxb hX [.l] [] 4000 rfl (by simp [conjP, eT, hR, hr]) ?_
  simp only [eT, hR]
  refine ss_raw hX 6 2 rfl rfl fun v0 => ?_
  refine ss_raw hX 7 2 rfl rfl fun v1 => ?_
  refine ss_raw hX 8 2 rfl rfl fun v2 => ?_
  refine ss_sub hX (T' := umT N cap ⟨0, mkQ T R (vv3 v0 v1 v2), []⟩) (H' := umH N o T R ⟨0, mkQ T R (vv3 v0 v1 v2), []⟩) [0, 1, 3, 5, 4, 9, 6, 7, 8, 60, 61, 62, 63, 64, 65, 66] rfl rfl rfl rfl ?tt ?hh ?ot ?ok ?_
  case tt => (exact clhU)
  case hh => (exact clhU)
  case ot => (exact clkU)
  case ok => (exact clkU)
  by_cases hN : N < 9223372036854775688
  · refine ss_loop hX (umT N cap) (umH N o T R) (UInv T R N) (fun x => min N 200 + 120 - x.i) _ (um0_ok t1 t4 r1 r8 _) ?_
    intro x hx I back
    by_cases hlt : x.i < min N 200 + 120
    · obtain ⟨p, hp⟩ := ua (cap := cap) (o := o) (ρ := ρ) (w := w) (I := I) hx hN hlt (fun p x' hx' hi' cs TT H hsub => ss_sw (hXTu p) (sw_ss hX (back x' hx' (by show min N 200 + 120 - x'.i < min N 200 + 120 - x.i; omega) cs TT H hsub)))
      refine sxb hX [.r 9] [] 100 rfl trivial ?_
      exact ss_sw hX (sw_ss (hXTu p) (cs := []) hp)
    · have hi2 := hx.hi
      have hie : x.i = min N 200 + 120 := by omega
      have ewn : IntKind.i64.wrap ((N : Int) + 120) = (N : Int) + 120 := wi64 (by omega) (by omega)
      have hn : (x.i : Int) < (N : Int) + 120 → ¬ (x.i : Int) < 320 := fun a b => by omega
      have d := hx.d
      have mg := hx.mg
      have m0 := hx.m0
      have m1 := hx.m1
      have m2 := hx.m2
      rw [hie] at m0 m1 m2
      rw [um_end (by decide) hx.c0 m0, um_end (by decide) hx.c1 m1, um_end (by decide) hx.c2 m2] at d mg
      have hl := hx.hl
      have J := ss_sw hX (cs := []) (sw_ss hXTme (cs := []) (um_fin (bb := true) (N := N) (o := o) (ρ := ρ) (w := w) (L := x.L) hx.b d mg (by omega)))
      dsimp only [umT, umH, tqH, umE, scE, cond_true] at J ⊢
      refine sxb hX [.r 27] [] 4000 rfl (by (simp [-List.getD_eq_getElem?_getD, -List.length_eq_zero_iff, conjP])) ?_
      refine ss_pb hX [.r 27] [] 4000 rfl (fun hb0 => ?_) (fun hb0 => ?_)
      · try simp [-List.getD_eq_getElem?_getD, -List.length_eq_zero_iff, ewn] at hb0
        refine sxb hX [.r 27] [.T] 4000 rfl (by (simp [-List.getD_eq_getElem?_getD, -List.length_eq_zero_iff, conjP, addOP, ewn, hb0])) ?_
        refine sxb hX [.r 27] [.F] 4000 rfl (by (simp [-List.getD_eq_getElem?_getD, -List.length_eq_zero_iff, conjP, addOP, hn, hb0])) ?_
        (refine ss_sub hX (T' := umE x.L) (H' := tqH (scE true N o) T R x.z [lgE x.L]) [0, 1, 2, 3, 4, 5, 6, 7, 8, 9, 10, 11, 12, 13, 14, 15] rfl rfl rfl rfl ?tt ?hh ?ot ?ok J; (case tt => (exact clhU)); (case hh => (exact clhU)); (case ot => (exact clkU)); (case ok => (exact clkU)))
      · try simp [-List.getD_eq_getElem?_getD, -List.length_eq_zero_iff, ewn] at hb0
        refine sxb hX [.r 27] [.F] 4000 rfl (by (simp [-List.getD_eq_getElem?_getD, -List.length_eq_zero_iff, conjP, addOP, ewn, hb0])) ?_
        (refine ss_sub hX (T' := umE x.L) (H' := tqH (scE true N o) T R x.z [lgE x.L]) [0, 1, 2, 3, 4, 5, 6, 7, 8, 9, 10, 11, 12, 13, 14, 15] rfl rfl rfl rfl ?tt ?hh ?ot ?ok J; (case tt => (exact clhU)); (case hh => (exact clhU)); (case ot => (exact clkU)); (case ok => (exact clkU)))
  · have ewn : IntKind.i64.wrap ((N : Int) + 120) = (N : Int) + 120 - 18446744073709551616 := by rw [IntKind.wrap_i64]; omega
    have hn : ¬ (0 : Int) < (N : Int) + 120 - 18446744073709551616 := by omega
    have J := ss_sw hX (cs := []) (sw_ss hXTme (cs := []) (um_fin (bb := true) (N := N) (o := o) (ρ := ρ) (w := w) (L := []) (z := mkQ T R (vv3 v0 v1 v2)) (mkQ_bi t1 t4 r1 r8) (mkQ_d t1 t4 r1 r8).1 ⟨[], none, (mkQ_d t1 t4 r1 r8).2.2⟩ (by decide)))
    refine ss_loop hX (fun _ : Unit => umT N cap ⟨0, mkQ T R (vv3 v0 v1 v2), []⟩) (fun _ => umH N o T R ⟨0, mkQ T R (vv3 v0 v1 v2), []⟩) (fun _ => True) (fun _ => 0) () trivial ?_
    intro _ _ I _
    refine sxb hX [.r 9] [] 100 rfl trivial ?_
    dsimp only [umT, umH, tqH, umE, scE, cond_true] at J ⊢
    refine sxb hX [.r 27] [] 4000 rfl (by (simp [-List.getD_eq_getElem?_getD, -List.length_eq_zero_iff, conjP])) ?_
    refine sxb hX [.r 27] [.F] 4000 rfl (by (simp [-List.getD_eq_getElem?_getD, -List.length_eq_zero_iff, conjP, addOP, ewn] <;> (first | omega | ((repeat' (refine And.intro ?_ ?_)) <;> (first | omega | exact decide_eq_false (by omega) | exact decide_eq_true (by omega)))))) ?_
    (refine ss_sub hX (T' := umE []) (H' := tqH (scE true N o) T R (mkQ T R (vv3 v0 v1 v2)) [lgE []]) [0, 1, 2, 3, 4, 5, 6, 7, 8, 9, 10, 11, 12, 13, 14, 15] rfl rfl rfl rfl ?tt ?hh ?ot ?ok J; (case tt => (exact clhU)); (case hh => (exact clhU)); (case ot => (exact clkU)); (case ok => (exact clkU)))
section
variable {T : Nat} {R : Int} {ρ : Nat → Nat × Nat} {w : World} {I : Act → World → Prop} {a : Option Addr}
def uzT (a : Option Addr) (i : Nat) : List (Nat × SV) := [(1, .raw (.slice a 0 0)), (5, .tt), (6, .ptr 2 0), (7, .ptr 3 0), (9, .slice 5 0 3 3), (10, .nilslice), (11, .int .i64 (i : Int))]
abbrev Z2 : List HE := [.absent, pinE RTV]
abbrev ZJ (a : Option Addr) (T : Nat) (R : Int) (z : Tq) (i : Nat) (ρ : Nat → Nat × Nat) (w : World) (I : Act → World → Prop) : Prop :=
  ∀ cs TT H, Sub (FEnv Tryz.prog XH0.TE hXH0.te Tryz.f11 Tryz.f11.ntmps Z2 (Is .tt Z2) ρ w) TT H (uzT a (i + 1)) (tqH .absent T R z []) →
    SS hXH0 (At ρ w) (Is .tt Z2) ⟨cs, [], Tryz.f11, Tryz.f11.ntmps, Z2, downLp (contF Tryz.f11 9 [I]), TT, H⟩
abbrev ZG (a : Option Addr) (T : Nat) (R : Int) (z : Tq) (i : Nat) (ρ : Nat → Nat × Nat) (w : World) (I : Act → World → Prop) : Prop :=
  SS hXH0 (At ρ w) (Is .tt Z2) ⟨[], [], Tryz.f11, Tryz.f11.ntmps, Z2, contF Tryz.f11 9 [I], uzT a i, tqH .absent T R z []⟩
set_option maxHeartbeats 4000000 in
theorem uz0 {W : List Int} {st kd wd vl : Int} {ch : Bool} {p0 p1 p2 : Value} {k0 k1 k2 : Int} {i : Nat} (hi : i < 120) (h4 : i % 4 = 0) (J : ZJ a T R ⟨W, st, kd, wd, vl, ch, none, none, none, p0, p1, p2, k0, k1, k2⟩ i ρ w I) : ZG a T R ⟨W, st, kd, wd, vl, ch, none, none, none, p0, p1, p2, k0, k1, k2⟩ i ρ w I := by
  have ha : ibits .and .i64 (i : Int) 3 = 0 := by rw [andI (by omega), h4]; rfl
  have f1 : (i : Int) < 120 := by omega
  have f3 : (i : Int) < 320 := by omega
  have f0 : (0 : Int) ≤ (i : Int) := by omega
  have ew0 : IntKind.i64.wrap 120 = 120 := by rw [IntKind.wrap_i64]; rfl
  have f2 : ¬ (i : Int) < 0 := by omega
  have ewi : IntKind.i64.wrap ((i : Int) + 1) = ((i + 1 : Nat) : Int) := by rw [wi64 (by omega) (by omega)]; omega
  have hX := hXH0
  dsimp only [ZG, uzT, tqH]
  refine sxb hX [.r 15] [] 4000 rfl (by (simp [-List.getD_eq_getElem?_getD, -List.length_eq_zero_iff, conjP])) ?_
  refine sxb hX [.r 15] [.T] 4000 rfl (by (simp [-List.getD_eq_getElem?_getD, -List.length_eq_zero_iff, conjP, addOP, ew0, f1])) ?_
  refine sxb hX [.r 15] [.T] 4000 rfl (by (simp [-List.getD_eq_getElem?_getD, -List.length_eq_zero_iff, conjP, addOP, f3])) ?_
  refine sxb hX [.r 15] [.F] 4000 rfl (by (simp [-List.getD_eq_getElem?_getD, -List.length_eq_zero_iff, conjP, addOP, f2])) ?_
  refine sxb hX [.r 15] [.F] 4000 rfl (by (simp [-List.getD_eq_getElem?_getD, -List.length_eq_zero_iff, conjP, addOP, ha])) ?_
  (refine sx hX [] 4 rfl (by first | exact trivial | simp [conjP]) ?_; simp only [ha]; refine sxb hX [.l] [.T] 4000 rfl (by first | exact trivial | simp [conjP, f0]) ?_; refine J _ _ _ (sub_of [0, 1, 2, 3, 4, 5, 6, 7, 8, 9, 10, 11, 12, 13, 14] rfl rfl rfl rfl ?tt ?hh ?ot ?ok); (case tt => simp only [ewi]; (exact clhU)); (case hh => (exact clhU)); (case ot => (exact clkU)); (case ok => (exact clkU)))
set_option maxHeartbeats 4000000 in
theorem uz1 {W : List Int} {st kd wd vl : Int} {ch : Bool} {p0 p1 p2 : Value} {k0 k1 k2 : Int} {i : Nat} (hi : i < 120) (h4 : i % 4 = 1) (J : ZJ a T R ⟨W, st, kd, wd, vl, ch, none, none, none, p0, p1, p2, k0, k1, k2⟩ i ρ w I) : ZG a T R ⟨W, st, kd, wd, vl, ch, none, none, none, p0, p1, p2, k0, k1, k2⟩ i ρ w I := by
  have ha : ibits .and .i64 (i : Int) 3 = 1 := by rw [andI (by omega), h4]; rfl
  have f1 : (i : Int) < 120 := by omega
  have f3 : (i : Int) < 320 := by omega
  have f0 : (0 : Int) ≤ (i : Int) := by omega
  have ew0 : IntKind.i64.wrap 120 = 120 := by rw [IntKind.wrap_i64]; rfl
  have f2 : ¬ (i : Int) < 0 := by omega
  have ewi : IntKind.i64.wrap ((i : Int) + 1) = ((i + 1 : Nat) : Int) := by rw [wi64 (by omega) (by omega)]; omega
  have hX := hXH0
  dsimp only [ZG, uzT, tqH]
  refine sxb hX [.r 15] [] 4000 rfl (by (simp [-List.getD_eq_getElem?_getD, -List.length_eq_zero_iff, conjP])) ?_
  refine sxb hX [.r 15] [.T] 4000 rfl (by (simp [-List.getD_eq_getElem?_getD, -List.length_eq_zero_iff, conjP, addOP, ew0, f1])) ?_
  refine sxb hX [.r 15] [.T] 4000 rfl (by (simp [-List.getD_eq_getElem?_getD, -List.length_eq_zero_iff, conjP, addOP, f3])) ?_
  refine sxb hX [.r 15] [.F] 4000 rfl (by (simp [-List.getD_eq_getElem?_getD, -List.length_eq_zero_iff, conjP, addOP, f2])) ?_
  refine sxb hX [.r 15] [.F] 4000 rfl (by (simp [-List.getD_eq_getElem?_getD, -List.length_eq_zero_iff, conjP, addOP, ha])) ?_
  (refine sx hX [] 4 rfl (by first | exact trivial | simp [conjP]) ?_; simp only [ha]; refine sxb hX [.l] [.T] 4000 rfl (by first | exact trivial | simp [conjP, f0]) ?_; refine J _ _ _ (sub_of [0, 1, 2, 3, 4, 5, 6, 7, 8, 9, 10, 11, 12, 13, 14] rfl rfl rfl rfl ?tt ?hh ?ot ?ok); (case tt => simp only [ewi]; (exact clhU)); (case hh => (exact clhU)); (case ot => (exact clkU)); (case ok => (exact clkU)))
set_option maxHeartbeats 4000000 in
theorem uz2 {W : List Int} {st kd wd vl : Int} {ch : Bool} {p0 p1 p2 : Value} {k0 k1 k2 : Int} {i : Nat} (hi : i < 120) (h4 : i % 4 = 2) (J : ZJ a T R ⟨W, st, kd, wd, vl, ch, none, none, none, p0, p1, p2, k0, k1, k2⟩ i ρ w I) : ZG a T R ⟨W, st, kd, wd, vl, ch, none, none, none, p0, p1, p2, k0, k1, k2⟩ i ρ w I := by
  have ha : ibits .and .i64 (i : Int) 3 = 2 := by rw [andI (by omega), h4]; rfl
  have f1 : (i : Int) < 120 := by omega
  have f3 : (i : Int) < 320 := by omega
  have f0 : (0 : Int) ≤ (i : Int) := by omega
  have ew0 : IntKind.i64.wrap 120 = 120 := by rw [IntKind.wrap_i64]; rfl
  have f2 : ¬ (i : Int) < 0 := by omega
  have ewi : IntKind.i64.wrap ((i : Int) + 1) = ((i + 1 : Nat) : Int) := by rw [wi64 (by omega) (by omega)]; omega
  have hX := hXH0
  dsimp only [ZG, uzT, tqH]
  refine sxb hX [.r 15] [] 4000 rfl (by (simp [-List.getD_eq_getElem?_getD, -List.length_eq_zero_iff, conjP])) ?_
  refine sxb hX [.r 15] [.T] 4000 rfl (by (simp [-List.getD_eq_getElem?_getD, -List.length_eq_zero_iff, conjP, addOP, ew0, f1])) ?_
  refine sxb hX [.r 15] [.T] 4000 rfl (by (simp [-List.getD_eq_getElem?_getD, -List.length_eq_zero_iff, conjP, addOP, f3])) ?_
  refine sxb hX [.r 15] [.F] 4000 rfl (by (simp [-List.getD_eq_getElem?_getD, -List.length_eq_zero_iff, conjP, addOP, f2])) ?_
  refine sxb hX [.r 15] [.F] 4000 rfl (by (simp [-List.getD_eq_getElem?_getD, -List.length_eq_zero_iff, conjP, addOP, ha])) ?_
  (refine sx hX [] 4 rfl (by first | exact trivial | simp [conjP]) ?_; simp only [ha]; refine sxb hX [.l] [.T] 4000 rfl (by first | exact trivial | simp [conjP, f0]) ?_; refine J _ _ _ (sub_of [0, 1, 2, 3, 4, 5, 6, 7, 8, 9, 10, 11, 12, 13, 14] rfl rfl rfl rfl ?tt ?hh ?ot ?ok); (case tt => simp only [ewi]; (exact clhU)); (case hh => (exact clhU)); (case ot => (exact clkU)); (case ok => (exact clkU)))
set_option maxHeartbeats 4000000 in
theorem uz3 {W : List Int} {st kd wd vl : Int} {ch : Bool} {p0 p1 p2 : Value} {k0 k1 k2 : Int} {i : Nat} (hi : i < 120) (h4 : i % 4 = 3) (J : ZJ a T R ⟨W, st, kd, wd, vl, ch, none, none, none, p0, p1, p2, k0, k1, k2⟩ i ρ w I) : ZG a T R ⟨W, st, kd, wd, vl, ch, none, none, none, p0, p1, p2, k0, k1, k2⟩ i ρ w I := by
  have ha : ibits .and .i64 (i : Int) 3 = 3 := by rw [andI (by omega), h4]; rfl
  have f1 : (i : Int) < 120 := by omega
  have f3 : (i : Int) < 320 := by omega
  have f0 : (0 : Int) ≤ (i : Int) := by omega
  have ew0 : IntKind.i64.wrap 120 = 120 := by rw [IntKind.wrap_i64]; rfl
  have f2 : ¬ (i : Int) < 0 := by omega
  have ewi : IntKind.i64.wrap ((i : Int) + 1) = ((i + 1 : Nat) : Int) := by rw [wi64 (by omega) (by omega)]; omega
  have hX := hXH0
  dsimp only [ZG, uzT, tqH]
  refine sx hX [] 4000 rfl (by (simp [-List.getD_eq_getElem?_getD, -List.length_eq_zero_iff, conjP])) ?_
  refine sx hX [.T] 4000 rfl (by (simp [-List.getD_eq_getElem?_getD, -List.length_eq_zero_iff, conjP, addOP, ew0, f1])) ?_
  refine sx hX [.T] 4000 rfl (by (simp [-List.getD_eq_getElem?_getD, -List.length_eq_zero_iff, conjP, addOP, f3])) ?_
  refine sx hX [.F] 4000 rfl (by (simp [-List.getD_eq_getElem?_getD, -List.length_eq_zero_iff, conjP, addOP, f2])) ?_
  refine sx hX [.T] 4000 rfl (by (simp [-List.getD_eq_getElem?_getD, -List.length_eq_zero_iff, conjP, addOP, ha])) ?_
  (refine J _ _ _ (sub_of [0, 1, 2, 3, 4, 5, 6, 7, 8, 9, 10, 11, 12, 13, 14] rfl rfl rfl rfl ?tt ?hh ?ot ?ok); (case tt => simp only [ewi]; (exact clhU)); (case hh => (exact clhU)); (case ot => (exact clkU)); (case ok => (exact clkU)))
end
set_option maxHeartbeats 8000000 in
theorem topicsMap_nil (q0 q1 : Int) (a : Option Addr) : Gives Tryz.prog 11 [L2 q0 q1, .raw (.slice a 0 0)] [pinE RTV] (Is .tt [pinE RTV]) := by
  refine abs_gives1 (fun _ _ => rfl) (fun _ _ => rfl) (fun _ _ => rfl) (fun _ _ => rfl) ?_
  have hX := hXTa
  obtain ⟨T, t1, t4, eT, r1, r8⟩ := cfg_cases q0 q1
  generalize hR : cAnd 7 q1 = R at r1 r8
  have hr := right_TR t1 t4 r1 r8
  refine gives_x hX (fn := Tryz.f11) rfl rfl rfl rfl fun ρ w => ?_
  refine sxb hX [.l] [] 4000 rfl (by simp [conjP, eT, hR, hr]) ?_
  simp only [eT, hR]
  refine ss_raw hX 6 2 rfl rfl fun v0 => ?_
  refine ss_raw hX 7 2 rfl rfl fun v1 => ?_
  refine ss_raw hX 8 2 rfl rfl fun v2 => ?_
  have J := ss_sw hX (cs := []) (sw_ss hXTme (cs := []) (um_fin (bb := false) (N := 0) (o := fun _ => (0, 0, false, false)) (ρ := ρ) (w := w) (L := []) (z := mkQ T R (vv3 v0 v1 v2)) (mkQ_bi t1 t4 r1 r8) (mkQ_d t1 t4 r1 r8).1 ⟨[], none, (mkQ_d t1 t4 r1 r8).2.2⟩ (by decide)))
  refine ss_sub hX (T' := uzT a 0) (H' := tqH .absent T R (mkQ T R (vv3 v0 v1 v2)) []) [0, 1, 3, 5, 4, 9, 6, 7, 8, 60, 61, 62, 63, 64, 65] rfl rfl rfl rfl ?tt ?hh ?ot ?ok ?_
  case tt => (exact clhU)
  case hh => (exact clhU)
  case ot => (exact clkU)
  case ok => (exact clkU)
  refine ss_loop hX (uzT a) (fun _ => tqH .absent T R (mkQ T R (vv3 v0 v1 v2)) []) (fun i => i ≤ 120) (fun i => 120 - i) 0 (Nat.zero_le _) ?_
  intro i hi I back
  have hi : i ≤ 120 := hi
  refine sxb hX [.r 9] [] 100 rfl trivial ?_
  by_cases hlt : i < 120
  · have bk : ZJ a T R (mkQ T R (vv3 v0 v1 v2)) i ρ w I := fun cs TT H hsub => ss_sw hXH0 (sw_ss hX (back (i + 1) (by show i + 1 ≤ 120; omega) (by show 120 - (i + 1) < 120 - i; omega) cs TT H hsub))
    have h4 : i % 4 = 0 ∨ i % 4 = 1 ∨ i % 4 = 2 ∨ i % 4 = 3 := by omega
    refine ss_sw hX (sw_ss hXH0 (cs := []) ?_)
    rcases h4 with h4 | h4 | h4 | h4
    · exact uz0 hlt h4 bk
    · exact uz1 hlt h4 bk
    · exact uz2 hlt h4 bk
    · exact uz3 hlt h4 bk
  · have hn : ¬ (i : Int) < 120 := by omega
    have ew0 : IntKind.i64.wrap 120 = 120 := by rw [IntKind.wrap_i64]; rfl
    dsimp only [uzT, tqH, umE, scE, cond_false] at J ⊢
    refine sxb hX [.r 27] [] 4000 rfl (by (simp [-List.getD_eq_getElem?_getD, -List.length_eq_zero_iff, conjP])) ?_
    refine sxb hX [.r 27] [.F] 4000 rfl (by (simp [-List.getD_eq_getElem?_getD, -List.length_eq_zero_iff, conjP, addOP, ew0, hn])) ?_
    (refine ss_sub hX (T' := umE []) (H' := tqH (scE false 0 (fun _ => (0, 0, false, false))) T R (mkQ T R (vv3 v0 v1 v2)) [lgE []]) [0, 1, 2, 3, 4, 5, 6, 7, 8, 9, 10, 11, 12, 13, 14, 60] rfl rfl rfl rfl ?tt ?hh ?ot ?ok J; (case tt => (exact clhU)); (case hh => (exact clhU)); (case ot => (exact clkU)); (case ok => (exact clkU)))
end Go.Proofs.YtkkddjchkkaagaaGreatDoor
namespace Go.Proofs.YtkkddjchkkaagaaGreatDoor.topicsMap
open Go Go.Hx
abbrev ks99 : List (Option IntKind) := [some .i64, some .i64, none, none]
theorem row_of (l : List SV) (h : okK ks99 l) : ∃ o : Int × Int × Bool × Bool, l = actR (fun _ => o) 0 := by
  rcases l with _ | ⟨a, _ | ⟨b, _ | ⟨c, _ | ⟨d, _ | ⟨e, r⟩⟩⟩⟩⟩ <;> simp only [okK, and_false] at h
  obtain ⟨⟨n1, rfl, _⟩, ⟨n2, rfl, _⟩, ⟨n3, rfl⟩, ⟨n4, rfl⟩, _⟩ := h
  exact ⟨(n1, n2, n3, n4), rfl⟩
theorem rows_of (o : Nat → List SV) (h : ∀ i, okK ks99 (o i)) : ∃ q : Nat → Int × Int × Bool × Bool, o = actR q :=
  ⟨fun i => Classical.choose (row_of (o i) (h i)), funext fun i => Classical.choose_spec (row_of (o i) (h i))⟩
theorem walk_nil (a : Option Addr) (l : List SV) (h : okK [some .i64, some .i64] l) : ∃ L, Gives Tryz.prog 11 [.agg l, .raw (.slice a 0 0)] [pinE RTV] (Is .tt L) := by
  rcases l with _ | ⟨x, _ | ⟨y, _ | ⟨z, r⟩⟩⟩ <;> simp only [okK, and_false] at h
  obtain ⟨⟨n0, rfl, _⟩, ⟨n1, rfl, _⟩, _⟩ := h
  exact ⟨_, topicsMap_nil n0 n1 a⟩
theorem walk (l : List SV) (h : okK [some .i64, some .i64] l) (o : Nat → List SV) (ho : ∀ i, okK ks99 (o i)) (len cap : Nat) (hm : len ≤ maxLen) : ∃ L, Gives Tryz.prog 11 [.agg l, .slice 0 0 len cap] [.obj (.rows len 4 o), pinE RTV] (Is .tt L) := by
  rcases l with _ | ⟨x, _ | ⟨y, _ | ⟨z, r⟩⟩⟩ <;> simp only [okK, and_false] at h
  obtain ⟨⟨n0, rfl, _⟩, ⟨n1, rfl, _⟩, _⟩ := h
  obtain ⟨q, rfl⟩ := rows_of o ho
  exact ⟨_, topicsMap_fn n0 n1 len cap q (by have h2 : maxLen = 9223372036854775807 := rfl; omega)⟩
end Go.Proofs.YtkkddjchkkaagaaGreatDoor.topicsMap
