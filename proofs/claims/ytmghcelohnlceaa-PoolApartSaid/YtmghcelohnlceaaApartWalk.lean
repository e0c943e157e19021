/- PoolApart: the whole -/
import Derived.Test.YtmghcelohnlceaaApartLoop
namespace Go.Proofs.Ytmghcelohnlceaa
open Go Go.Hx
set_option maxRecDepth 8000
def ctMa : Nat → Option Hx.Spec
  | 63 => some (pureS rightS)
  | 10 => some (makeS)
  | 9 => some (pureS cfgPS)
  | 8 => some (pureS awPS)
  | _ => none
theorem ctMa_ok : ∀ f s args H ob V L, ctMa f = some s → s args H = some (ob, V, L) → AllP ob → Gives Try.prog f args H (Is V L) := by
  intro f s args H ob V L h hs ho
  unfold ctMa at h
  split at h
  · simp at h; subst h; exact pureS_ok ⟨_, hTE⟩ (rightS_ok right63) hs ho
  · simp at h; subst h; exact makeS_ok hs ho
  · simp at h; subst h; exact pureS_ok ⟨_, hTE⟩ (cfgPS_ok) hs ho
  · simp at h; subst h; exact pureS_ok ⟨_, hTE⟩ (awPS_ok) hs ho
  · simp at h
noncomputable def XMa : Tabs := tabs tr ft xt (fun _ => none) ctMa 0
theorem hXMa : TOk Try.prog (XMa) := ⟨hTE, hFT, ctMa_ok, hXT, fun t ks h => by simp [XMa, tabs] at h, mixed⟩
def ctMu : Nat → Option Hx.Spec
  | 63 => some (pureS rightS)
  | 10 => some (makeS)
  | 9 => some (pureS cfgPS)
  | 8 => some (pureS awPS)
  | _ => none
theorem ctMu_ok : ∀ f s args H ob V L, ctMu f = some s → s args H = some (ob, V, L) → AllP ob → Gives Try.prog f args H (Is V L) := by
  intro f s args H ob V L h hs ho
  unfold ctMu at h
  split at h
  · simp at h; subst h; exact pureS_ok ⟨_, hTE⟩ (rightS_ok right63) hs ho
  · simp at h; subst h; exact makeS_ok hs ho
  · simp at h; subst h; exact pureS_ok ⟨_, hTE⟩ (cfgPS_ok) hs ho
  · simp at h; subst h; exact pureS_ok ⟨_, hTE⟩ (awPS_ok) hs ho
  · simp at h
noncomputable def XMu : Tabs := tabs tr ft xt (fun _ => none) ctMu 20
theorem hXMu : TOk Try.prog (XMu) := ⟨hTE, hFT, ctMu_ok, hXT, fun t ks h => by simp [XMu, tabs] at h, mixed⟩
set_option maxHeartbeats 16000000 in
theorem apart_fn (l0 l1 : Int) (n cap : Nat) (o : Nat → ActP) : Gives Try.prog 3 [L2 l0 l1, .slice 0 0 n cap] [.obj (.rows n 3 (actRow o))] (Is .tt [.obj (.rows n 3 (actRow o))]) := by
  have hA := cMod6 l0
  have hB := cMod6 l1
  refine gives_x hXMa (fn := Try.f3) rfl rfl rfl rfl fun ρ w => ?_
  refine sxb hXMa [.r 3] [] 4000 rfl (by first | exact trivial | simp [conjP]) ?_
  generalize cMod 6 l0 = A at *
  generalize cMod 6 l1 = B at *
  have hr := pool_right hA.1 hA.2 hB.1 hB.2
  have hq0 := q_0 hA.1 hA.2 hB.1 hB.2
  have hst := mkA_st hr
  refine sxb hXMa [.l] [] 4000 rfl (by simp [conjP, hr]) ?_
  refine ss_raw hXMa 5 3 rfl rfl fun v0 => ?_
  refine ss_raw hXMa 5 4 rfl rfl fun v1 => ?_
  refine ss_raw hXMa 6 3 rfl rfl fun v2 => ?_
  refine ss_raw hXMa 6 4 rfl rfl fun v3 => ?_
  refine ss_raw hXMa 7 3 rfl rfl fun v4 => ?_
  refine ss_raw hXMa 7 4 rfl rfl fun v5 => ?_
  refine ss_raw hXMa 8 3 rfl rfl fun v6 => ?_
  refine ss_raw hXMa 8 4 rfl rfl fun v7 => ?_
  refine ss_sw hXMa (sw_ss (hXap A B true true) (cs := []) ?_)
  refine ss_sub (hXap A B true true) (T' := spT (.slice 0 0 n cap) 0) (H' := spH n o A B ⟨(mkA 1 4 1 2 4 A 6 B 2).W, (mkA 1 4 1 2 4 A 6 B 2).st, 2, (mkA 1 4 1 2 4 A 6 B 2).wd, (mkA 1 4 1 2 4 A 6 B 2).vl, true⟩ k0 (fun m => if m = 0 then (v0, v1) else if m = 1 then (v2, v3) else if m = 2 then (v4, v5) else (v6, v7)) [0, 0, 0, 0]) [0, 2, 3, 4, 9, 10, 5, 40, 41, 6, 43, 44, 7, 46, 47, 8, 49, 50] rfl rfl rfl rfl (by (repeat' (first | exact rfl | exact trivial | exact sim_refl _ | refine And.intro ?_ ?_))) (by (repeat' (first | exact rfl | exact trivial | exact sim_refl _ | refine And.intro ?_ ?_))) (by (repeat' (first | exact rfl | exact trivial | exact sim_refl _ | refine And.intro ?_ ?_))) (by (repeat' (first | exact rfl | exact trivial | exact sim_refl _ | refine And.intro ?_ ?_))) ?_
  refine ss_flat (hXap A B true true) rfl ?_
  refine ss_loop (hXap A B true true) (fun p : Nat × AS => spT (.slice 0 0 n cap) p.1) (fun p => spH n o A B p.2.x p.2.k p.2.p p.2.G) (fun p => p.1 ≤ n ∧ p.1 ≤ 200 ∧ InvB A B p.1 p.2) (fun p => 200 - p.1) (0, ⟨⟨(mkA 1 4 1 2 4 A 6 B 2).W, (mkA 1 4 1 2 4 A 6 B 2).st, 2, (mkA 1 4 1 2 4 A 6 B 2).wd, (mkA 1 4 1 2 4 A 6 B 2).vl, true⟩, k0, (fun m => if m = 0 then (v0, v1) else if m = 1 then (v2, v3) else if m = 2 then (v4, v5) else (v6, v7)), [0, 0, 0, 0]⟩) ⟨Nat.zero_le _, Nat.zero_le _, ⟨by simp only; omega, by simp only; omega⟩, ⟨rfl, fun m hm => by rcases m with _ | _ | _ | _ | m <;> first | rfl | omega⟩, _, hq0⟩ ?_
  rintro ⟨i, ⟨⟨W, st, kd, wd, vl, ch⟩, k, p, G⟩⟩ ⟨hi, hi2, hI⟩ I back
  simp only at hi hi2 hI
  dsimp only
  by_cases hb0 : i < n
  · by_cases hb1 : i < 200
    · refine sxb (hXap A B true true) [.r 11] [.T, .T] 4000 rfl (by simp [conjP, hb0]; omega) ?_
      have h3 := and3 (o i).who
      have hm : ibits .and .i64 (o i).who 3 = 0 ∨ ibits .and .i64 (o i).who 3 = 1 ∨ ibits .and .i64 (o i).who 3 = 2 ∨ ibits .and .i64 (o i).who 3 = 3 := by omega
      refine ss_sub (hXap A B true true) (T' := spT (.slice 0 0 n cap) i) (H' := spH n o A B ⟨W, st, kd, wd, vl, ch⟩ k p G) [0, 1, 2, 3, 4, 5, 6, 7, 8, 9, 10, 11, 12, 13, 14, 15, 16, 17] rfl rfl rfl rfl (by (repeat' (first | exact rfl | exact trivial | exact sim_refl _ | refine And.intro ?_ ?_))) (by (((repeat' (first | exact rfl | exact trivial | exact sim_refl _ | exact subE_same rfl ren_slE | exact subE_r rfl ren_slE ren_slE | exact subE_phE rfl rfl | exact sim_slV rfl | exact sim_slVr rfl | exact sim_slV3 rfl | exact sim_tkP rfl | exact sim_gvP rfl | exact sim_tkP3 rfl | exact sim_gvP3 rfl | (simp; done) | (unfold lst; simp; done) | refine And.intro ?_ ?_)); done))) (by (repeat' (first | exact rfl | exact trivial | exact sim_refl _ | refine And.intro ?_ ?_))) (by (((repeat' (first | exact rfl | exact trivial | exact okE_slE | exact okE_phE rfl | exact okP_slV rfl | exact okP_tkP rfl | exact okP_gvP rfl | refine And.intro ?_ ?_)); done))) ?_
      have bk := fun (x : AS) (hx : InvB A B (i + 1) x) => back (i + 1, x) ⟨by simp only; omega, by simp only; omega, hx⟩ (by simp only; omega)
      refine ss_flat (hXap A B true true) (k' := flatS (contF Try.f3 11 [I])) rfl ?_
      rcases hm with e | e | e | e
      · exact ap_play0 hb0 hb1 hI e bk
      · exact ap_play1 hb0 hb1 hI e bk
      · exact ap_play2 hb0 hb1 hI e bk
      · exact ap_play3 hb0 hb1 hI e bk
    · refine sx (hXap A B true true) [.T, .F] 4000 rfl (by simp [conjP, hb0]; omega) ?_
      exact ss_end (hXap A B true true) [0] rfl rfl trivial rfl rfl rfl rfl (by ((first | ((repeat' (first | exact rfl | exact trivial | exact sim_refl _ | refine And.intro ?_ ?_)); done) | (simp [tupF, SV.ren, sim, simO0]; done)))) (by (repeat' (first | exact rfl | exact trivial | exact sim_refl _ | refine And.intro ?_ ?_))) (by (repeat' (first | exact rfl | exact trivial | exact sim_refl _ | refine And.intro ?_ ?_))) (by (repeat' (first | exact rfl | exact trivial | exact sim_refl _ | refine And.intro ?_ ?_)))
  · refine sx (hXap A B true true) [.F, .F] 4000 rfl (by simp [conjP, hb0]) ?_
    exact ss_end (hXap A B true true) [0] rfl rfl trivial rfl rfl rfl rfl (by ((first | ((repeat' (first | exact rfl | exact trivial | exact sim_refl _ | refine And.intro ?_ ?_)); done) | (simp [tupF, SV.ren, sim, simO0]; done)))) (by (repeat' (first | exact rfl | exact trivial | exact sim_refl _ | refine And.intro ?_ ?_))) (by (repeat' (first | exact rfl | exact trivial | exact sim_refl _ | refine And.intro ?_ ?_))) (by (repeat' (first | exact rfl | exact trivial | exact sim_refl _ | refine And.intro ?_ ?_)))
theorem abs_there : there [HE.absent] = there [] := by
  funext x
  cases x <;> rfl
theorem abs_gives {P : Program} {f : Nat} {args : List SV} {V : SV} (h : Gives P f args [.absent] (Is V [.absent])) : Gives P f args [] (Is V []) := by
  intro ρ w hS hok
  have hno : ∀ (x : Nat) (ox : SO), ¬ ([HE.absent] : List HE)[x]? = some (.obj ox) := fun x ox hx => by cases x <;> simp at hx
  have hS' : HSat w (Own ρ [.absent]) ρ [.absent] w := ⟨fun x ox hx => absurd hx (hno x ox), fun x hx => by rw [abs_there] at hx; simp [there] at hx, fun x y ox oy hx _ _ => absurd hx (hno x ox), fun x ox hx _ => absurd hx (hno x ox), Fr.refl _ _⟩
  refine Calls.mono (h ρ w hS' (by rw [abs_there]; exact hok)) fun e w' he => ?_
  cases e with
  | returned VV =>
    obtain ⟨ρ', H', v, ⟨rfl, rfl⟩, h4, h5, h6, _⟩ := he
    refine ⟨ρ', [], _, ⟨rfl, rfl⟩, h4, by rw [← abs_there]; exact h5, ⟨fun x ox hx => by simp at hx, fun x hx => by simp [there] at hx, fun x y ox oy hx => by simp at hx, fun x ox hx => by simp at hx, ⟨h6.fr.size, fun b hb hn => h6.fr.same b hb fun ⟨x, ox, hx, _⟩ => hno x ox hx, h6.fr.io⟩⟩, fun x hx => by simp [there] at hx⟩
  | panicked c => exact he
  | outgrown => exact he
set_option maxHeartbeats 16000000 in
theorem apart_nil (l0 l1 : Int) (a : Option Addr) : Gives Try.prog 3 [L2 l0 l1, .raw (.slice a 0 0)] [] (Is .tt []) := by
  refine abs_gives ?_
  have hA := cMod6 l0
  have hB := cMod6 l1
  refine gives_x hXMu (fn := Try.f3) rfl rfl rfl rfl fun ρ w => ?_
  refine sxb hXMu [.r 3] [] 4000 rfl (by first | exact trivial | simp [conjP]) ?_
  generalize cMod 6 l0 = A at *
  generalize cMod 6 l1 = B at *
  have hr := pool_right hA.1 hA.2 hB.1 hB.2
  refine sxb hXMu [.l] [] 4000 rfl (by simp [conjP, hr]) ?_
  refine sx hXMu [.F, .F] 4000 rfl (by simp [conjP]) ?_
  exact ss_end hXMu [0] rfl rfl trivial rfl rfl rfl rfl (by ((first | ((repeat' (first | exact rfl | exact trivial | exact sim_refl _ | refine And.intro ?_ ?_)); done) | (simp [tupF, SV.ren, sim, simO0]; done)))) (by (repeat' (first | exact rfl | exact trivial | exact sim_refl _ | refine And.intro ?_ ?_))) (by (repeat' (first | exact rfl | exact trivial | exact sim_refl _ | refine And.intro ?_ ?_))) (by (repeat' (first | exact rfl | exact trivial | exact sim_refl _ | refine And.intro ?_ ?_)))
end Go.Proofs.Ytmghcelohnlceaa
namespace Go.Proofs.Ytmghcelohnlceaa.poolApart
open Go Go.Hx
theorem two {l : List SV} (hl : okK [some .i64, some .i64] l) : ∃ a b, .agg l = L2 a b := by
  rcases l with _ | ⟨a, _ | ⟨b, _ | ⟨c, r⟩⟩⟩ <;> simp only [okK, and_false] at hl
  obtain ⟨⟨n1, rfl, h1⟩, ⟨n2, rfl, h2⟩, _⟩ := hl
  exact ⟨n1, n2, rfl⟩
abbrev ks46 : List (Option IntKind) := [some .i64, some .i64, none]
theorem row_of (l : List SV) (h : okK ks46 l) : ∃ o : ActP, l = actRow (fun _ => o) 0 := by
  rcases l with _ | ⟨a, _ | ⟨b, _ | ⟨c, _ | ⟨d, r⟩⟩⟩⟩ <;> simp only [okK, and_false] at h
  obtain ⟨⟨n1, rfl, _⟩, ⟨n2, rfl, _⟩, ⟨b1, rfl⟩, _⟩ := h
  exact ⟨⟨n1, n2, b1⟩, rfl⟩
theorem rows_of (o : Nat → List SV) (h : ∀ i, okK ks46 (o i)) : ∃ q : Nat → ActP, o = actRow q :=
  ⟨fun i => Classical.choose (row_of (o i) (h i)), funext fun i => Classical.choose_spec (row_of (o i) (h i))⟩
theorem walk_nil (a : Option Addr) (l : List SV) (hl : okK [some .i64, some .i64] l) : Gives Try.prog 3 [.agg l, .raw (.slice a 0 0)] [] (Is .tt []) := by
  obtain ⟨l0, l1, e⟩ := two hl
  rw [e]
  exact apart_nil l0 l1 a
theorem walk (l : List SV) (hl : okK [some .i64, some .i64] l) (o : Nat → List SV) (h : ∀ i, okK ks46 (o i)) (len cap : Nat) (_ : len ≤ maxLen) :
    ∃ L, Gives Try.prog 3 [.agg l, .slice 0 0 len cap] [.obj (.rows len 3 o)] (Is .tt L) := by
  obtain ⟨l0, l1, e⟩ := two hl
  obtain ⟨p, rfl⟩ := rows_of o h
  rw [e]
  exact ⟨_, apart_fn l0 l1 len cap p⟩
end Go.Proofs.Ytmghcelohnlceaa.poolApart
