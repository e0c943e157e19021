/- PoolAlone: a run that goes on alone; the whole. -/
import Derived.Test.YtmghcelohnlceaaAloneTurns
import Derived.Test.YtmghcelohnlceaaPoolRead
import Derived.Test.YtmghcelohnlceaaHyc
namespace Go.Proofs.Ytmghcelohnlceaa
open Go Go.Hx
set_option maxRecDepth 8000
def ctSo (A B : Int) (b1 b3 : Bool) (Lc : List Int) : Nat → Option Hx.Spec
  | 13 => some (tkStepS A B b1 b3)
  | 15 => some (gvStepS A B b3)
  | 63 => some (pureS rightS)
  | 48 => some (pureS rightS)
  | 42 => some (pureS (placeS classF))
  | 50 => some (pureS (placeS classF))
  | 40 => some (pureS pHeadS)
  | 17 => some (arWordsS)
  | 19 => some (rlistS A B Lc)
  | _ => none
theorem ctSo_ok (A B : Int) (b1 b3 : Bool) (Lc : List Int) : ∀ f s args H ob V L, ctSo A B b1 b3 Lc f = some s → s args H = some (ob, V, L) → AllP ob → Gives Try.prog f args H (Is V L) := by
  intro f s args H ob V L h hs ho
  unfold ctSo at h
  split at h
  · simp at h; subst h; exact tkStepS_ok hs ho
  · simp at h; subst h; exact gvStepS_ok hs ho
  · simp at h; subst h; exact pureS_ok ⟨_, hTE⟩ (rightS_ok right63) hs ho
  · simp at h; subst h; exact pureS_ok ⟨_, hTE⟩ (rightS_ok right48) hs ho
  · simp at h; subst h; exact pureS_ok ⟨_, hTE⟩ (placeS_ok (v := classF) class_fn) hs ho
  · simp at h; subst h; exact pureS_ok ⟨_, hTE⟩ (placeS_ok (v := classF) rclass_fn) hs ho
  · simp at h; subst h; exact pureS_ok ⟨_, hTE⟩ (pHeadS_ok) hs ho
  · simp at h; subst h; exact arWordsS_ok hs ho
  · simp at h; subst h; exact rlistS_ok hs ho
  · simp at h
noncomputable def XSo (A B : Int) (b1 b3 : Bool) (Lc : List Int) : Tabs := tabs tr ft xt (fun _ => none) (ctSo A B b1 b3 Lc) 0
theorem hXSo (A B : Int) (b1 b3 : Bool) (Lc : List Int) : TOk Try.prog (XSo A B b1 b3 Lc) := ⟨hTE, hFT, (ctSo_ok A B b1 b3 Lc), hXT, fun t ks h => by simp [XSo, tabs] at h, mixed⟩
abbrev rwO (n : Nat) (o : Nat → ActP) : HE := .obj (.rows n 3 (actRow o))
abbrev cnO (a d : Nat) (own : Option (List Int)) (ph : Ph) (p : VV) : HE := .obj (.cells [slV own a, tkP ph d, gvP ph d, .raw p.1, .raw p.2] 43)
def snT : List (Nat × SV) := [(7, .tt), (9, .ptr 2 0), (14, .ptr 3 0), (16, .ff)]
def snTi (i : Nat) : List (Nat × SV) := [(7, .tt), (9, .ptr 2 0), (14, .ptr 3 0), (16, .ff), (17, .int .i64 (i : Int))]
def snH (n : Nat) (o : Nat → ActP) (A B : Int) (own : Option (List Int)) (p : VV) (W : List Int) (st kd wd vl : Int) (ch : Bool) (ph : Ph) : List HE :=
  [rwO n o, WO W, AOx 1 W st kd wd vl ch, cnO 4 5 own ph p, slE own .i64 3, phE A B 5 ph]
/-- How many steps a run still needs, alone. -/
def remP (A B : Int) (W : List Int) : Ph → Nat
  | .idle => 0
  | .t1 .. => 3
  | .t2 c s _ _ => if W.getD (3 + c).toNat 0 = s then 2 else 5
  | .t3 c s _ _ => if W.getD (3 + c).toNat 0 = s then 1 else 4
  | .g1 .. => 3
  | .g2 b s => if W.getD (3 + classV A B b).toNat 0 = s then 2 else 5
  | .g3 b s => if W.getD (3 + classV A B b).toNat 0 = s then 1 else 4
structure SoS where
  (W : List Int) (st kd wd vl : Int) (ch : Bool) (ph : Ph)
def InvS (A B : Int) (own : Option (List Int)) (k : Nat → Pk) (m : Nat) (i : Nat) (s : SoS) : Prop :=
  (i ≤ 6 ∧ 0 ≤ s.st ∧ s.st ≤ 200 + (i : Int)) ∧ s.ph ≠ .idle ∧ remP A B s.W s.ph + i ≤ 6 ∧ ∃ j L, j ≤ 300 + i ∧ InvQ A B j s.W (kset k m ⟨own, s.ph⟩) L
theorem inv_len {A B : Int} {i : Nat} {W : List Int} {k : Nat → Pk} {L : Int → List Int} (h : InvQ A B i W k L) : rightB 1 4 1 2 4 A 6 B 2 = true ∧ ((W.length : Int) = 16 + A * 5 + B * 7) := by
  have h1 := h.a0
  have h2 := h.a1
  have h3 := h.b0
  have h4 := h.b1
  refine ⟨pool_right h1 h2 h3 h4, ?_⟩
  have e := h.len
  rw [szP_eq] at e
  omega
theorem rem_g2 {A B : Int} {W : List Int} {b s v : Int} {i : Nat} (hA : 0 ≤ A) (hB : 0 ≤ B) (hb : 1 ≤ b ∧ b ≤ A + B) (h : remP A B W (.g2 b s) + i ≤ 6) : remP A B (W.set (bkP A B b).toNat v) (.g3 b s) + (i + 1) ≤ 6 := by
  have hcc := cls_bd hb.1 hb.2
  have hkk := bkP_range hA hB hb.1 hb.2
  have hne : (bkP A B b).toNat ≠ (3 + classV A B b).toNat := by omega
  have e : (W.set (bkP A B b).toNat v).getD (3 + classV A B b).toNat 0 = W.getD (3 + classV A B b).toNat 0 := by rw [set_getD, if_neg (fun e => hne e.1)]
  simp only [remP] at h ⊢
  rw [e]
  split at h
  · rename_i hz; rw [if_pos hz]; omega
  · rename_i hz; rw [if_neg hz]; omega
section
variable {n : Nat} {o : Nat → ActP} {A B : Int} {own : Option (List Int)} {k : Nat → Pk} {m : Nat} {ρ : Nat → Nat × Nat} {w : World} {p : VV} {L0 : List Int}

set_option maxHeartbeats 8000000 in
theorem sn_t1y {i : Nat} {I : Act → World → Prop} {W : List Int} {st kd wd vl : Int} {ch : Bool} {c s b f : Int} (hm : m < 4) (hi : InvS A B own k m i ⟨W, st, kd, wd, vl, ch, .t1 c s b f⟩) (hcl : classV A B (W.getD (3 + c).toNat 0 % 4294967296) = c)
    (back : ∀ s, InvS A B own k m (i + 1) s → ∀ cs T H, Sub (FEnv Try.prog (XSo A B true true L0).TE (hXSo A B true true L0).te Try.f4 Try.f4.ntmps [rwO n o] (Is .tt [rwO n o]) ρ w) T H (snTi (i + 1)) (snH n o A B own p s.W s.st s.kd s.wd s.vl s.ch s.ph) → SS (hXSo A B true true L0) (At ρ w) (Is .tt [rwO n o]) ⟨cs, [], Try.f4, Try.f4.ntmps, [rwO n o], .lp I :: dnLp (contF Try.f4 24 [I]), T, H⟩) :
    SS (hXSo A B true true L0) (At ρ w) (Is .tt [rwO n o]) ⟨[], [], Try.f4, Try.f4.ntmps, [rwO n o], contF Try.f4 24 [I], snTi i, snH n o A B own p W st kd wd vl ch (.t1 c s b f)⟩ := by
  obtain ⟨⟨h6, s0, s1⟩, hni, hrem, j, L, hj, hq⟩ := hi
  dsimp only at h6 s0 s1 hni hrem hq
  obtain ⟨hr, hl⟩ := inv_len hq
  have bd := hq.bd
  have hp := hq.ph m hm
  rw [kset_same] at hp
  have hk : kset k m ⟨own, .t1 c s b f⟩ m = ⟨own, .t1 c s b f⟩ := kset_same _ _ _
  have hc0 : 0 ≤ c ∧ c ≤ 1 := hp
  have st1 : st < 1000000 := by omega
  have hi6 : (i : Int) < 6 := by (have : 1 ≤ remP A B W (.t1 c s b f) := by (simp only [remP] <;> (try split) <;> omega)); omega
  have ewi : IntKind.i64.wrap ((i : Int) + 1) = ((i + 1 : Nat) : Int) := by rw [wi64 (by omega) (by omega)]; omega
  have hXq := hXSo A B true true L0
  dsimp only [snTi, snH, tkP, gvP, phE, phO, tkO, gvO]
  refine sx hXq [] 4000 rfl (by (simp [-List.getD_eq_getElem?_getD, -List.length_eq_zero_iff, conjP] <;> (first | omega | ((repeat' (refine And.intro ?_ ?_)) <;> (first | omega | exact decide_eq_false (by omega) | exact decide_eq_true (by omega)))))) ?_
  refine sx hXq [.T] 4000 rfl (by (simp [-List.getD_eq_getElem?_getD, -List.length_eq_zero_iff, conjP, hr, hl, s0, st1, bd, hi6, tkO, phO, hc0, hcl] <;> (first | omega | ((repeat' (refine And.intro ?_ ?_)) <;> (first | omega | exact decide_eq_false (by omega) | exact decide_eq_true (by omega)))))) ?_
  (refine' back ⟨_, st + 1, _, _, _, _, .t2 c (W.getD (3 + c).toNat 0) (W.getD (3 + c).toNat 0 % 4294967296) f⟩ ⟨⟨by omega, by simp only; omega, by simp only; omega⟩, by simp, ?rm, j + 1, _, by omega, ?iv⟩ _ _ _ (sub_of [0, 1, 2, 3, 4, 5] rfl rfl rfl rfl ?tt ?hh (by (repeat' (first | exact rfl | exact trivial | exact sim_refl _ | refine And.intro ?_ ?_))) ?ok); (case tt => exact ⟨by (repeat' (first | exact rfl | exact trivial | exact sim_refl _ | refine And.intro ?_ ?_)), by (repeat' (first | exact rfl | exact trivial | exact sim_refl _ | refine And.intro ?_ ?_)), by (repeat' (first | exact rfl | exact trivial | exact sim_refl _ | refine And.intro ?_ ?_)), by (repeat' (first | exact rfl | exact trivial | exact sim_refl _ | refine And.intro ?_ ?_)), ⟨rfl, ewi⟩, trivial⟩); (case hh => (((repeat' (first | exact rfl | exact trivial | exact sim_refl _ | exact subE_same rfl ren_slE | exact subE_r rfl ren_slE ren_slE | exact subE_phE rfl rfl | exact sim_slV rfl | exact sim_slVr rfl | exact sim_slV3 rfl | exact sim_tkP rfl | exact sim_gvP rfl | exact sim_tkP3 rfl | exact sim_gvP3 rfl | assumption | refine And.intro ?_ ?_)); done))); (case ok => (((repeat' (first | exact rfl | exact trivial | exact okE_slE | exact okE_phE rfl | exact okP_slV rfl | exact okP_tkP rfl | exact okP_gvP rfl | refine And.intro ?_ ?_)); done))); (case iv => have := q_t1y hq hm hk rfl hcl; rw [kset_kset] at this; exact this); (case rm => simp only [remP, if_true] at hrem ⊢; omega))
set_option maxHeartbeats 8000000 in
theorem sn_t1n {i : Nat} {I : Act → World → Prop} {W : List Int} {st kd wd vl : Int} {ch : Bool} {c s b f : Int} (hm : m < 4) (hi : InvS A B own k m i ⟨W, st, kd, wd, vl, ch, .t1 c s b f⟩) (hcl : ¬ classV A B (W.getD (3 + c).toNat 0 % 4294967296) = c)
    (back : ∀ s, InvS A B own k m (i + 1) s → ∀ cs T H, Sub (FEnv Try.prog (XSo A B false true L0).TE (hXSo A B false true L0).te Try.f4 Try.f4.ntmps [rwO n o] (Is .tt [rwO n o]) ρ w) T H (snTi (i + 1)) (snH n o A B own p s.W s.st s.kd s.wd s.vl s.ch s.ph) → SS (hXSo A B false true L0) (At ρ w) (Is .tt [rwO n o]) ⟨cs, [], Try.f4, Try.f4.ntmps, [rwO n o], .lp I :: dnLp (contF Try.f4 24 [I]), T, H⟩) :
    SS (hXSo A B false true L0) (At ρ w) (Is .tt [rwO n o]) ⟨[], [], Try.f4, Try.f4.ntmps, [rwO n o], contF Try.f4 24 [I], snTi i, snH n o A B own p W st kd wd vl ch (.t1 c s b f)⟩ := by
  obtain ⟨⟨h6, s0, s1⟩, hni, hrem, j, L, hj, hq⟩ := hi
  dsimp only at h6 s0 s1 hni hrem hq
  obtain ⟨hr, hl⟩ := inv_len hq
  have bd := hq.bd
  have hp := hq.ph m hm
  rw [kset_same] at hp
  have hk : kset k m ⟨own, .t1 c s b f⟩ m = ⟨own, .t1 c s b f⟩ := kset_same _ _ _
  have hc0 : 0 ≤ c ∧ c ≤ 1 := hp
  have st1 : st < 1000000 := by omega
  have hi6 : (i : Int) < 6 := by (have : 1 ≤ remP A B W (.t1 c s b f) := by (simp only [remP] <;> (try split) <;> omega)); omega
  have ewi : IntKind.i64.wrap ((i : Int) + 1) = ((i + 1 : Nat) : Int) := by rw [wi64 (by omega) (by omega)]; omega
  have hXq := hXSo A B false true L0
  dsimp only [snTi, snH, tkP, gvP, phE, phO, tkO, gvO]
  refine sx hXq [] 4000 rfl (by (simp [-List.getD_eq_getElem?_getD, -List.length_eq_zero_iff, conjP] <;> (first | omega | ((repeat' (refine And.intro ?_ ?_)) <;> (first | omega | exact decide_eq_false (by omega) | exact decide_eq_true (by omega)))))) ?_
  refine sx hXq [.T] 4000 rfl (by (simp [-List.getD_eq_getElem?_getD, -List.length_eq_zero_iff, conjP, hr, hl, s0, st1, bd, hi6, tkO, phO, hc0, hcl] <;> (first | omega | ((repeat' (refine And.intro ?_ ?_)) <;> (first | omega | exact decide_eq_false (by omega) | exact decide_eq_true (by omega)))))) ?_
  (exact ss_end hXq [0] rfl rfl trivial rfl rfl rfl rfl (by ((first | ((repeat' (first | exact rfl | exact trivial | exact sim_refl _ | refine And.intro ?_ ?_)); done) | (simp [tupF, SV.ren, sim, simO0]; done)))) (by (repeat' (first | exact rfl | exact trivial | exact sim_refl _ | refine And.intro ?_ ?_))) (by (repeat' (first | exact rfl | exact trivial | exact sim_refl _ | refine And.intro ?_ ?_))) (by (repeat' (first | exact rfl | exact trivial | exact sim_refl _ | refine And.intro ?_ ?_))))
set_option maxHeartbeats 8000000 in
theorem sn_t2 {i : Nat} {I : Act → World → Prop} {W : List Int} {st kd wd vl : Int} {ch : Bool} {c s b f : Int} (hm : m < 4) (hi : InvS A B own k m i ⟨W, st, kd, wd, vl, ch, .t2 c s b f⟩)
    (back : ∀ s, InvS A B own k m (i + 1) s → ∀ cs T H, Sub (FEnv Try.prog (XSo A B true true L0).TE (hXSo A B true true L0).te Try.f4 Try.f4.ntmps [rwO n o] (Is .tt [rwO n o]) ρ w) T H (snTi (i + 1)) (snH n o A B own p s.W s.st s.kd s.wd s.vl s.ch s.ph) → SS (hXSo A B true true L0) (At ρ w) (Is .tt [rwO n o]) ⟨cs, [], Try.f4, Try.f4.ntmps, [rwO n o], .lp I :: dnLp (contF Try.f4 24 [I]), T, H⟩) :
    SS (hXSo A B true true L0) (At ρ w) (Is .tt [rwO n o]) ⟨[], [], Try.f4, Try.f4.ntmps, [rwO n o], contF Try.f4 24 [I], snTi i, snH n o A B own p W st kd wd vl ch (.t2 c s b f)⟩ := by
  obtain ⟨⟨h6, s0, s1⟩, hni, hrem, j, L, hj, hq⟩ := hi
  dsimp only at h6 s0 s1 hni hrem hq
  obtain ⟨hr, hl⟩ := inv_len hq
  have bd := hq.bd
  have hp := hq.ph m hm
  rw [kset_same] at hp
  have hk : kset k m ⟨own, .t2 c s b f⟩ m = ⟨own, .t2 c s b f⟩ := kset_same _ _ _
  have hc0 : 0 ≤ c ∧ c ≤ 1 := hp.1
  have hcl := hp.2.2.2
  have st1 : st < 1000000 := by omega
  have hi6 : (i : Int) < 6 := by (have : 1 ≤ remP A B W (.t2 c s b f) := by (simp only [remP] <;> (try split) <;> omega)); omega
  have ewi : IntKind.i64.wrap ((i : Int) + 1) = ((i + 1 : Nat) : Int) := by rw [wi64 (by omega) (by omega)]; omega
  have hXq := hXSo A B true true L0
  dsimp only [snTi, snH, tkP, gvP, phE, phO, tkO, gvO]
  refine sx hXq [] 4000 rfl (by (simp [-List.getD_eq_getElem?_getD, -List.length_eq_zero_iff, conjP] <;> (first | omega | ((repeat' (refine And.intro ?_ ?_)) <;> (first | omega | exact decide_eq_false (by omega) | exact decide_eq_true (by omega)))))) ?_
  refine sx hXq [.T] 4000 rfl (by (simp [-List.getD_eq_getElem?_getD, -List.length_eq_zero_iff, conjP, hr, hl, s0, st1, bd, hi6, tkO, phO, hc0, hcl] <;> (first | omega | ((repeat' (refine And.intro ?_ ?_)) <;> (first | omega | exact decide_eq_false (by omega) | exact decide_eq_true (by omega)))))) ?_
  (refine' back ⟨_, st + 1, _, _, _, _, .t3 c s b (W.getD (bkP A B b).toNat 0 % 4294967296)⟩ ⟨⟨by omega, by simp only; omega, by simp only; omega⟩, by simp, ?rm, j + 1, _, by omega, ?iv⟩ _ _ _ (sub_of [0, 1, 2, 3, 4, 5] rfl rfl rfl rfl ?tt ?hh (by (repeat' (first | exact rfl | exact trivial | exact sim_refl _ | refine And.intro ?_ ?_))) ?ok); (case tt => exact ⟨by (repeat' (first | exact rfl | exact trivial | exact sim_refl _ | refine And.intro ?_ ?_)), by (repeat' (first | exact rfl | exact trivial | exact sim_refl _ | refine And.intro ?_ ?_)), by (repeat' (first | exact rfl | exact trivial | exact sim_refl _ | refine And.intro ?_ ?_)), by (repeat' (first | exact rfl | exact trivial | exact sim_refl _ | refine And.intro ?_ ?_)), ⟨rfl, ewi⟩, trivial⟩); (case hh => (((repeat' (first | exact rfl | exact trivial | exact sim_refl _ | exact subE_same rfl ren_slE | exact subE_r rfl ren_slE ren_slE | exact subE_phE rfl rfl | exact sim_slV rfl | exact sim_slVr rfl | exact sim_slV3 rfl | exact sim_tkP rfl | exact sim_gvP rfl | exact sim_tkP3 rfl | exact sim_gvP3 rfl | assumption | refine And.intro ?_ ?_)); done))); (case ok => (((repeat' (first | exact rfl | exact trivial | exact okE_slE | exact okE_phE rfl | exact okP_slV rfl | exact okP_tkP rfl | exact okP_gvP rfl | refine And.intro ?_ ?_)); done))); (case iv => have := q_t2 hq hm hk rfl; rw [kset_kset] at this; exact this); (case rm => simp only [remP] at hrem ⊢; split at hrem <;> rename_i hz <;> simp only [hz, if_true, if_false] <;> omega))
set_option maxHeartbeats 8000000 in
theorem sn_t3y {i : Nat} {I : Act → World → Prop} {W : List Int} {st kd wd vl : Int} {ch : Bool} {c s b f : Int} (hm : m < 4) (hi : InvS A B own k m i ⟨W, st, kd, wd, vl, ch, .t3 c s b f⟩) (hsw : W.getD (3 + c).toNat 0 = s)
    (back : ∀ s, InvS A B own k m (i + 1) s → ∀ cs T H, Sub (FEnv Try.prog (XSo A B true true L0).TE (hXSo A B true true L0).te Try.f4 Try.f4.ntmps [rwO n o] (Is .tt [rwO n o]) ρ w) T H (snTi (i + 1)) (snH n o A B own p s.W s.st s.kd s.wd s.vl s.ch s.ph) → SS (hXSo A B true true L0) (At ρ w) (Is .tt [rwO n o]) ⟨cs, [], Try.f4, Try.f4.ntmps, [rwO n o], .lp I :: dnLp (contF Try.f4 24 [I]), T, H⟩) :
    SS (hXSo A B true true L0) (At ρ w) (Is .tt [rwO n o]) ⟨[], [], Try.f4, Try.f4.ntmps, [rwO n o], contF Try.f4 24 [I], snTi i, snH n o A B own p W st kd wd vl ch (.t3 c s b f)⟩ := by
  obtain ⟨⟨h6, s0, s1⟩, hni, hrem, j, L, hj, hq⟩ := hi
  dsimp only at h6 s0 s1 hni hrem hq
  obtain ⟨hr, hl⟩ := inv_len hq
  have bd := hq.bd
  have hp := hq.ph m hm
  rw [kset_same] at hp
  have hk : kset k m ⟨own, .t3 c s b f⟩ m = ⟨own, .t3 c s b f⟩ := kset_same _ _ _
  have hc0 : 0 ≤ c ∧ c ≤ 1 := hp.1
  have hs0 : 0 ≤ s ∧ s < 18446744073709551616 := ⟨hp.2.1.1, hp.2.1.2.1⟩
  have st1 : st < 1000000 := by omega
  have hi6 : (i : Int) < 6 := by (have : 1 ≤ remP A B W (.t3 c s b f) := by (simp only [remP] <;> (try split) <;> omega)); omega
  have ewi : IntKind.i64.wrap ((i : Int) + 1) = ((i + 1 : Nat) : Int) := by rw [wi64 (by omega) (by omega)]; omega
  have hXq := hXSo A B true true L0
  dsimp only [snTi, snH, tkP, gvP, phE, phO, tkO, gvO]
  refine sx hXq [] 4000 rfl (by (simp [-List.getD_eq_getElem?_getD, -List.length_eq_zero_iff, conjP] <;> (first | omega | ((repeat' (refine And.intro ?_ ?_)) <;> (first | omega | exact decide_eq_false (by omega) | exact decide_eq_true (by omega)))))) ?_
  refine sx hXq [.T] 4000 rfl (by (simp [-List.getD_eq_getElem?_getD, -List.length_eq_zero_iff, conjP, hr, hl, s0, st1, bd, hi6, tkO, phO, hc0, hs0, hsw] <;> (first | omega | ((repeat' (refine And.intro ?_ ?_)) <;> (first | omega | exact decide_eq_false (by omega) | exact decide_eq_true (by omega)))))) ?_
  (exact ss_end hXq [0] rfl rfl trivial rfl rfl rfl rfl (by ((first | ((repeat' (first | exact rfl | exact trivial | exact sim_refl _ | refine And.intro ?_ ?_)); done) | (simp [tupF, SV.ren, sim, simO0]; done)))) (by (repeat' (first | exact rfl | exact trivial | exact sim_refl _ | refine And.intro ?_ ?_))) (by (repeat' (first | exact rfl | exact trivial | exact sim_refl _ | refine And.intro ?_ ?_))) (by (repeat' (first | exact rfl | exact trivial | exact sim_refl _ | refine And.intro ?_ ?_))))
set_option maxHeartbeats 8000000 in
theorem sn_t3n {i : Nat} {I : Act → World → Prop} {W : List Int} {st kd wd vl : Int} {ch : Bool} {c s b f : Int} (hm : m < 4) (hi : InvS A B own k m i ⟨W, st, kd, wd, vl, ch, .t3 c s b f⟩) (hsw : ¬ W.getD (3 + c).toNat 0 = s)
    (back : ∀ s, InvS A B own k m (i + 1) s → ∀ cs T H, Sub (FEnv Try.prog (XSo A B true false L0).TE (hXSo A B true false L0).te Try.f4 Try.f4.ntmps [rwO n o] (Is .tt [rwO n o]) ρ w) T H (snTi (i + 1)) (snH n o A B own p s.W s.st s.kd s.wd s.vl s.ch s.ph) → SS (hXSo A B true false L0) (At ρ w) (Is .tt [rwO n o]) ⟨cs, [], Try.f4, Try.f4.ntmps, [rwO n o], .lp I :: dnLp (contF Try.f4 24 [I]), T, H⟩) :
    SS (hXSo A B true false L0) (At ρ w) (Is .tt [rwO n o]) ⟨[], [], Try.f4, Try.f4.ntmps, [rwO n o], contF Try.f4 24 [I], snTi i, snH n o A B own p W st kd wd vl ch (.t3 c s b f)⟩ := by
  obtain ⟨⟨h6, s0, s1⟩, hni, hrem, j, L, hj, hq⟩ := hi
  dsimp only at h6 s0 s1 hni hrem hq
  obtain ⟨hr, hl⟩ := inv_len hq
  have bd := hq.bd
  have hp := hq.ph m hm
  rw [kset_same] at hp
  have hk : kset k m ⟨own, .t3 c s b f⟩ m = ⟨own, .t3 c s b f⟩ := kset_same _ _ _
  have hc0 : 0 ≤ c ∧ c ≤ 1 := hp.1
  have hs0 : 0 ≤ s ∧ s < 18446744073709551616 := ⟨hp.2.1.1, hp.2.1.2.1⟩
  have st1 : st < 1000000 := by omega
  have hi6 : (i : Int) < 6 := by (have : 1 ≤ remP A B W (.t3 c s b f) := by (simp only [remP] <;> (try split) <;> omega)); omega
  have ewi : IntKind.i64.wrap ((i : Int) + 1) = ((i + 1 : Nat) : Int) := by rw [wi64 (by omega) (by omega)]; omega
  have hXq := hXSo A B true false L0
  dsimp only [snTi, snH, tkP, gvP, phE, phO, tkO, gvO]
  refine sx hXq [] 4000 rfl (by (simp [-List.getD_eq_getElem?_getD, -List.length_eq_zero_iff, conjP] <;> (first | omega | ((repeat' (refine And.intro ?_ ?_)) <;> (first | omega | exact decide_eq_false (by omega) | exact decide_eq_true (by omega)))))) ?_
  refine sx hXq [.T] 4000 rfl (by (simp [-List.getD_eq_getElem?_getD, -List.length_eq_zero_iff, conjP, hr, hl, s0, st1, bd, hi6, tkO, phO, hc0, hs0, hsw] <;> (first | omega | ((repeat' (refine And.intro ?_ ?_)) <;> (first | omega | exact decide_eq_false (by omega) | exact decide_eq_true (by omega)))))) ?_
  (refine' back ⟨_, st + 1, _, _, _, _, .t1 c s b f⟩ ⟨⟨by omega, by simp only; omega, by simp only; omega⟩, by simp, ?rm, j + 1, _, by omega, ?iv⟩ _ _ _ (sub_of [0, 1, 2, 3, 4, 5] rfl rfl rfl rfl ?tt ?hh (by (repeat' (first | exact rfl | exact trivial | exact sim_refl _ | refine And.intro ?_ ?_))) ?ok); (case tt => exact ⟨by (repeat' (first | exact rfl | exact trivial | exact sim_refl _ | refine And.intro ?_ ?_)), by (repeat' (first | exact rfl | exact trivial | exact sim_refl _ | refine And.intro ?_ ?_)), by (repeat' (first | exact rfl | exact trivial | exact sim_refl _ | refine And.intro ?_ ?_)), by (repeat' (first | exact rfl | exact trivial | exact sim_refl _ | refine And.intro ?_ ?_)), ⟨rfl, ewi⟩, trivial⟩); (case hh => (((repeat' (first | exact rfl | exact trivial | exact sim_refl _ | exact subE_same rfl ren_slE | exact subE_r rfl ren_slE ren_slE | exact subE_phE rfl rfl | exact sim_slV rfl | exact sim_slVr rfl | exact sim_slV3 rfl | exact sim_tkP rfl | exact sim_gvP rfl | exact sim_tkP3 rfl | exact sim_gvP3 rfl | assumption | refine And.intro ?_ ?_)); done))); (case ok => (((repeat' (first | exact rfl | exact trivial | exact okE_slE | exact okE_phE rfl | exact okP_slV rfl | exact okP_tkP rfl | exact okP_gvP rfl | refine And.intro ?_ ?_)); done))); (case iv => have := q_t3n hq hm hk; rw [kset_kset] at this; exact this); (case rm => simp only [remP] at hrem ⊢; rw [if_neg hsw] at hrem; omega))
set_option maxHeartbeats 8000000 in
theorem sn_g1 {i : Nat} {I : Act → World → Prop} {W : List Int} {st kd wd vl : Int} {ch : Bool} {b s : Int} (hm : m < 4) (hi : InvS A B own k m i ⟨W, st, kd, wd, vl, ch, .g1 b s⟩)
    (back : ∀ s, InvS A B own k m (i + 1) s → ∀ cs T H, Sub (FEnv Try.prog (XSo A B true true L0).TE (hXSo A B true true L0).te Try.f4 Try.f4.ntmps [rwO n o] (Is .tt [rwO n o]) ρ w) T H (snTi (i + 1)) (snH n o A B own p s.W s.st s.kd s.wd s.vl s.ch s.ph) → SS (hXSo A B true true L0) (At ρ w) (Is .tt [rwO n o]) ⟨cs, [], Try.f4, Try.f4.ntmps, [rwO n o], .lp I :: dnLp (contF Try.f4 24 [I]), T, H⟩) :
    SS (hXSo A B true true L0) (At ρ w) (Is .tt [rwO n o]) ⟨[], [], Try.f4, Try.f4.ntmps, [rwO n o], contF Try.f4 24 [I], snTi i, snH n o A B own p W st kd wd vl ch (.g1 b s)⟩ := by
  obtain ⟨⟨h6, s0, s1⟩, hni, hrem, j, L, hj, hq⟩ := hi
  dsimp only at h6 s0 s1 hni hrem hq
  obtain ⟨hr, hl⟩ := inv_len hq
  have bd := hq.bd
  have hp := hq.ph m hm
  rw [kset_same] at hp
  have hk : kset k m ⟨own, .g1 b s⟩ m = ⟨own, .g1 b s⟩ := kset_same _ _ _
  have hb0 : 1 ≤ b ∧ b ≤ A + B := hp
  have st1 : st < 1000000 := by omega
  have hi6 : (i : Int) < 6 := by (have : 1 ≤ remP A B W (.g1 b s) := by (simp only [remP] <;> (try split) <;> omega)); omega
  have ewi : IntKind.i64.wrap ((i : Int) + 1) = ((i + 1 : Nat) : Int) := by rw [wi64 (by omega) (by omega)]; omega
  have hXq := hXSo A B true true L0
  dsimp only [snTi, snH, tkP, gvP, phE, phO, tkO, gvO]
  refine sx hXq [] 4000 rfl (by (simp [-List.getD_eq_getElem?_getD, -List.length_eq_zero_iff, conjP] <;> (first | omega | ((repeat' (refine And.intro ?_ ?_)) <;> (first | omega | exact decide_eq_false (by omega) | exact decide_eq_true (by omega)))))) ?_
  refine sx hXq [.T] 4000 rfl (by (simp [-List.getD_eq_getElem?_getD, -List.length_eq_zero_iff, conjP, hr, hl, s0, st1, bd, hi6, gvO, phO, hb0] <;> (first | omega | ((repeat' (refine And.intro ?_ ?_)) <;> (first | omega | exact decide_eq_false (by omega) | exact decide_eq_true (by omega)))))) ?_
  (refine' back ⟨_, st + 1, _, _, _, _, .g2 b (W.getD (3 + classV A B b).toNat 0)⟩ ⟨⟨by omega, by simp only; omega, by simp only; omega⟩, by simp, ?rm, j + 1, _, by omega, ?iv⟩ _ _ _ (sub_of [0, 1, 2, 3, 4, 5] rfl rfl rfl rfl ?tt ?hh (by (repeat' (first | exact rfl | exact trivial | exact sim_refl _ | refine And.intro ?_ ?_))) ?ok); (case tt => exact ⟨by (repeat' (first | exact rfl | exact trivial | exact sim_refl _ | refine And.intro ?_ ?_)), by (repeat' (first | exact rfl | exact trivial | exact sim_refl _ | refine And.intro ?_ ?_)), by (repeat' (first | exact rfl | exact trivial | exact sim_refl _ | refine And.intro ?_ ?_)), by (repeat' (first | exact rfl | exact trivial | exact sim_refl _ | refine And.intro ?_ ?_)), ⟨rfl, ewi⟩, trivial⟩); (case hh => (((repeat' (first | exact rfl | exact trivial | exact sim_refl _ | exact subE_same rfl ren_slE | exact subE_r rfl ren_slE ren_slE | exact subE_phE rfl rfl | exact sim_slV rfl | exact sim_slVr rfl | exact sim_slV3 rfl | exact sim_tkP rfl | exact sim_gvP rfl | exact sim_tkP3 rfl | exact sim_gvP3 rfl | assumption | refine And.intro ?_ ?_)); done))); (case ok => (((repeat' (first | exact rfl | exact trivial | exact okE_slE | exact okE_phE rfl | exact okP_slV rfl | exact okP_tkP rfl | exact okP_gvP rfl | refine And.intro ?_ ?_)); done))); (case iv => have := q_g1 hq hm hk rfl; rw [kset_kset] at this; exact this); (case rm => simp only [remP, if_true] at hrem ⊢; omega))
set_option maxHeartbeats 8000000 in
theorem sn_g2 {i : Nat} {I : Act → World → Prop} {W : List Int} {st kd wd vl : Int} {ch : Bool} {b s : Int} (hm : m < 4) (hi : InvS A B own k m i ⟨W, st, kd, wd, vl, ch, .g2 b s⟩)
    (back : ∀ s, InvS A B own k m (i + 1) s → ∀ cs T H, Sub (FEnv Try.prog (XSo A B true true L0).TE (hXSo A B true true L0).te Try.f4 Try.f4.ntmps [rwO n o] (Is .tt [rwO n o]) ρ w) T H (snTi (i + 1)) (snH n o A B own p s.W s.st s.kd s.wd s.vl s.ch s.ph) → SS (hXSo A B true true L0) (At ρ w) (Is .tt [rwO n o]) ⟨cs, [], Try.f4, Try.f4.ntmps, [rwO n o], .lp I :: dnLp (contF Try.f4 24 [I]), T, H⟩) :
    SS (hXSo A B true true L0) (At ρ w) (Is .tt [rwO n o]) ⟨[], [], Try.f4, Try.f4.ntmps, [rwO n o], contF Try.f4 24 [I], snTi i, snH n o A B own p W st kd wd vl ch (.g2 b s)⟩ := by
  obtain ⟨⟨h6, s0, s1⟩, hni, hrem, j, L, hj, hq⟩ := hi
  dsimp only at h6 s0 s1 hni hrem hq
  obtain ⟨hr, hl⟩ := inv_len hq
  have bd := hq.bd
  have hp := hq.ph m hm
  rw [kset_same] at hp
  have hk : kset k m ⟨own, .g2 b s⟩ m = ⟨own, .g2 b s⟩ := kset_same _ _ _
  have hb0 : 1 ≤ b ∧ b ≤ A + B := hp.1
  have hs0 : 0 ≤ s ∧ s < 18446744073709551616 := ⟨hp.2.1, hp.2.2.1⟩
  have st1 : st < 1000000 := by omega
  have hi6 : (i : Int) < 6 := by (have : 1 ≤ remP A B W (.g2 b s) := by (simp only [remP] <;> (try split) <;> omega)); omega
  have ewi : IntKind.i64.wrap ((i : Int) + 1) = ((i + 1 : Nat) : Int) := by rw [wi64 (by omega) (by omega)]; omega
  have hXq := hXSo A B true true L0
  dsimp only [snTi, snH, tkP, gvP, phE, phO, tkO, gvO]
  refine sx hXq [] 4000 rfl (by (simp [-List.getD_eq_getElem?_getD, -List.length_eq_zero_iff, conjP] <;> (first | omega | ((repeat' (refine And.intro ?_ ?_)) <;> (first | omega | exact decide_eq_false (by omega) | exact decide_eq_true (by omega)))))) ?_
  refine sx hXq [.T] 4000 rfl (by (simp [-List.getD_eq_getElem?_getD, -List.length_eq_zero_iff, conjP, hr, hl, s0, st1, bd, hi6, gvO, phO, hb0, hs0] <;> (first | omega | ((repeat' (refine And.intro ?_ ?_)) <;> (first | omega | exact decide_eq_false (by omega) | exact decide_eq_true (by omega)))))) ?_
  (refine' back ⟨_, st + 1, _, _, _, _, .g3 b s⟩ ⟨⟨by omega, by simp only; omega, by simp only; omega⟩, by simp, ?rm, j + 1, _, by omega, ?iv⟩ _ _ _ (sub_of [0, 1, 2, 3, 4, 5] rfl rfl rfl rfl ?tt ?hh (by (repeat' (first | exact rfl | exact trivial | exact sim_refl _ | refine And.intro ?_ ?_))) ?ok); (case tt => exact ⟨by (repeat' (first | exact rfl | exact trivial | exact sim_refl _ | refine And.intro ?_ ?_)), by (repeat' (first | exact rfl | exact trivial | exact sim_refl _ | refine And.intro ?_ ?_)), by (repeat' (first | exact rfl | exact trivial | exact sim_refl _ | refine And.intro ?_ ?_)), by (repeat' (first | exact rfl | exact trivial | exact sim_refl _ | refine And.intro ?_ ?_)), ⟨rfl, ewi⟩, trivial⟩); (case hh => (((repeat' (first | exact rfl | exact trivial | exact sim_refl _ | exact subE_same rfl ren_slE | exact subE_r rfl ren_slE ren_slE | exact subE_phE rfl rfl | exact sim_slV rfl | exact sim_slVr rfl | exact sim_slV3 rfl | exact sim_tkP rfl | exact sim_gvP rfl | exact sim_tkP3 rfl | exact sim_gvP3 rfl | assumption | refine And.intro ?_ ?_)); done))); (case ok => (((repeat' (first | exact rfl | exact trivial | exact okE_slE | exact okE_phE rfl | exact okP_slV rfl | exact okP_tkP rfl | exact okP_gvP rfl | refine And.intro ?_ ?_)); done))); (case iv => have := q_g2 hq hm hk; rw [kset_kset] at this; exact this); (case rm => exact rem_g2 hq.a0 hq.b0 hb0 hrem))
set_option maxHeartbeats 8000000 in
theorem sn_g3y {i : Nat} {I : Act → World → Prop} {W : List Int} {st kd wd vl : Int} {ch : Bool} {b s : Int} (hm : m < 4) (hi : InvS A B own k m i ⟨W, st, kd, wd, vl, ch, .g3 b s⟩) (hsw : W.getD (3 + classV A B b).toNat 0 = s)
    (back : ∀ s, InvS A B own k m (i + 1) s → ∀ cs T H, Sub (FEnv Try.prog (XSo A B true true L0).TE (hXSo A B true true L0).te Try.f4 Try.f4.ntmps [rwO n o] (Is .tt [rwO n o]) ρ w) T H (snTi (i + 1)) (snH n o A B own p s.W s.st s.kd s.wd s.vl s.ch s.ph) → SS (hXSo A B true true L0) (At ρ w) (Is .tt [rwO n o]) ⟨cs, [], Try.f4, Try.f4.ntmps, [rwO n o], .lp I :: dnLp (contF Try.f4 24 [I]), T, H⟩) :
    SS (hXSo A B true true L0) (At ρ w) (Is .tt [rwO n o]) ⟨[], [], Try.f4, Try.f4.ntmps, [rwO n o], contF Try.f4 24 [I], snTi i, snH n o A B own p W st kd wd vl ch (.g3 b s)⟩ := by
  obtain ⟨⟨h6, s0, s1⟩, hni, hrem, j, L, hj, hq⟩ := hi
  dsimp only at h6 s0 s1 hni hrem hq
  obtain ⟨hr, hl⟩ := inv_len hq
  have bd := hq.bd
  have hp := hq.ph m hm
  rw [kset_same] at hp
  have hk : kset k m ⟨own, .g3 b s⟩ m = ⟨own, .g3 b s⟩ := kset_same _ _ _
  have hb0 : 1 ≤ b ∧ b ≤ A + B := hp.1
  have hs0 : 0 ≤ s ∧ s < 18446744073709551616 := ⟨hp.2.1.1, hp.2.1.2.1⟩
  have st1 : st < 1000000 := by omega
  have hi6 : (i : Int) < 6 := by (have : 1 ≤ remP A B W (.g3 b s) := by (simp only [remP] <;> (try split) <;> omega)); omega
  have ewi : IntKind.i64.wrap ((i : Int) + 1) = ((i + 1 : Nat) : Int) := by rw [wi64 (by omega) (by omega)]; omega
  have hXq := hXSo A B true true L0
  dsimp only [snTi, snH, tkP, gvP, phE, phO, tkO, gvO]
  refine sx hXq [] 4000 rfl (by (simp [-List.getD_eq_getElem?_getD, -List.length_eq_zero_iff, conjP] <;> (first | omega | ((repeat' (refine And.intro ?_ ?_)) <;> (first | omega | exact decide_eq_false (by omega) | exact decide_eq_true (by omega)))))) ?_
  refine sx hXq [.T] 4000 rfl (by (simp [-List.getD_eq_getElem?_getD, -List.length_eq_zero_iff, conjP, hr, hl, s0, st1, bd, hi6, gvO, phO, hb0, hs0, hsw] <;> (first | omega | ((repeat' (refine And.intro ?_ ?_)) <;> (first | omega | exact decide_eq_false (by omega) | exact decide_eq_true (by omega)))))) ?_
  (exact ss_end hXq [0] rfl rfl trivial rfl rfl rfl rfl (by ((first | ((repeat' (first | exact rfl | exact trivial | exact sim_refl _ | refine And.intro ?_ ?_)); done) | (simp [tupF, SV.ren, sim, simO0]; done)))) (by (repeat' (first | exact rfl | exact trivial | exact sim_refl _ | refine And.intro ?_ ?_))) (by (repeat' (first | exact rfl | exact trivial | exact sim_refl _ | refine And.intro ?_ ?_))) (by (repeat' (first | exact rfl | exact trivial | exact sim_refl _ | refine And.intro ?_ ?_))))
set_option maxHeartbeats 8000000 in
theorem sn_g3n {i : Nat} {I : Act → World → Prop} {W : List Int} {st kd wd vl : Int} {ch : Bool} {b s : Int} (hm : m < 4) (hi : InvS A B own k m i ⟨W, st, kd, wd, vl, ch, .g3 b s⟩) (hsw : ¬ W.getD (3 + classV A B b).toNat 0 = s)
    (back : ∀ s, InvS A B own k m (i + 1) s → ∀ cs T H, Sub (FEnv Try.prog (XSo A B true false L0).TE (hXSo A B true false L0).te Try.f4 Try.f4.ntmps [rwO n o] (Is .tt [rwO n o]) ρ w) T H (snTi (i + 1)) (snH n o A B own p s.W s.st s.kd s.wd s.vl s.ch s.ph) → SS (hXSo A B true false L0) (At ρ w) (Is .tt [rwO n o]) ⟨cs, [], Try.f4, Try.f4.ntmps, [rwO n o], .lp I :: dnLp (contF Try.f4 24 [I]), T, H⟩) :
    SS (hXSo A B true false L0) (At ρ w) (Is .tt [rwO n o]) ⟨[], [], Try.f4, Try.f4.ntmps, [rwO n o], contF Try.f4 24 [I], snTi i, snH n o A B own p W st kd wd vl ch (.g3 b s)⟩ := by
  obtain ⟨⟨h6, s0, s1⟩, hni, hrem, j, L, hj, hq⟩ := hi
  dsimp only at h6 s0 s1 hni hrem hq
  obtain ⟨hr, hl⟩ := inv_len hq
  have bd := hq.bd
  have hp := hq.ph m hm
  rw [kset_same] at hp
  have hk : kset k m ⟨own, .g3 b s⟩ m = ⟨own, .g3 b s⟩ := kset_same _ _ _
  have hb0 : 1 ≤ b ∧ b ≤ A + B := hp.1
  have hs0 : 0 ≤ s ∧ s < 18446744073709551616 := ⟨hp.2.1.1, hp.2.1.2.1⟩
  have st1 : st < 1000000 := by omega
  have hi6 : (i : Int) < 6 := by (have : 1 ≤ remP A B W (.g3 b s) := by (simp only [remP] <;> (try split) <;> omega)); omega
  have ewi : IntKind.i64.wrap ((i : Int) + 1) = ((i + 1 : Nat) : Int) := by rw [wi64 (by omega) (by omega)]; omega
  have hXq := hXSo A B true false L0
  dsimp only [snTi, snH, tkP, gvP, phE, phO, tkO, gvO]
  refine sx hXq [] 4000 rfl (by (simp [-List.getD_eq_getElem?_getD, -List.length_eq_zero_iff, conjP] <;> (first | omega | ((repeat' (refine And.intro ?_ ?_)) <;> (first | omega | exact decide_eq_false (by omega) | exact decide_eq_true (by omega)))))) ?_
  refine sx hXq [.T] 4000 rfl (by (simp [-List.getD_eq_getElem?_getD, -List.length_eq_zero_iff, conjP, hr, hl, s0, st1, bd, hi6, gvO, phO, hb0, hs0, hsw] <;> (first | omega | ((repeat' (refine And.intro ?_ ?_)) <;> (first | omega | exact decide_eq_false (by omega) | exact decide_eq_true (by omega)))))) ?_
  (refine' back ⟨_, st + 1, _, _, _, _, .g1 b s⟩ ⟨⟨by omega, by simp only; omega, by simp only; omega⟩, by simp, ?rm, j + 1, _, by omega, ?iv⟩ _ _ _ (sub_of [0, 1, 2, 3, 4, 5] rfl rfl rfl rfl ?tt ?hh (by (repeat' (first | exact rfl | exact trivial | exact sim_refl _ | refine And.intro ?_ ?_))) ?ok); (case tt => exact ⟨by (repeat' (first | exact rfl | exact trivial | exact sim_refl _ | refine And.intro ?_ ?_)), by (repeat' (first | exact rfl | exact trivial | exact sim_refl _ | refine And.intro ?_ ?_)), by (repeat' (first | exact rfl | exact trivial | exact sim_refl _ | refine And.intro ?_ ?_)), by (repeat' (first | exact rfl | exact trivial | exact sim_refl _ | refine And.intro ?_ ?_)), ⟨rfl, ewi⟩, trivial⟩); (case hh => (((repeat' (first | exact rfl | exact trivial | exact sim_refl _ | exact subE_same rfl ren_slE | exact subE_r rfl ren_slE ren_slE | exact subE_phE rfl rfl | exact sim_slV rfl | exact sim_slVr rfl | exact sim_slV3 rfl | exact sim_tkP rfl | exact sim_gvP rfl | exact sim_tkP3 rfl | exact sim_gvP3 rfl | assumption | refine And.intro ?_ ?_)); done))); (case ok => (((repeat' (first | exact rfl | exact trivial | exact okE_slE | exact okE_phE rfl | exact okP_slV rfl | exact okP_tkP rfl | exact okP_gvP rfl | refine And.intro ?_ ?_)); done))); (case iv => have := q_g3n hq hm hk; rw [kset_kset] at this; exact this); (case rm => simp only [remP] at hrem ⊢; rw [if_neg hsw] at hrem; omega))
theorem sn_round {i : Nat} {I : Act → World → Prop} {W : List Int} {st kd wd vl : Int} {ch : Bool} {ph : Ph} (hm : m < 4) (hi : InvS A B own k m i ⟨W, st, kd, wd, vl, ch, ph⟩)
    (back : ∀ s, InvS A B own k m (i + 1) s → ∀ cs T H, Sub (FEnv Try.prog (XSo A B true true L0).TE (hXSo A B true true L0).te Try.f4 Try.f4.ntmps [rwO n o] (Is .tt [rwO n o]) ρ w) T H (snTi (i + 1)) (snH n o A B own p s.W s.st s.kd s.wd s.vl s.ch s.ph) → SS (hXSo A B true true L0) (At ρ w) (Is .tt [rwO n o]) ⟨cs, [], Try.f4, Try.f4.ntmps, [rwO n o], .lp I :: dnLp (contF Try.f4 24 [I]), T, H⟩) :
    SS (hXSo A B true true L0) (At ρ w) (Is .tt [rwO n o]) ⟨[], [], Try.f4, Try.f4.ntmps, [rwO n o], contF Try.f4 24 [I], snTi i, snH n o A B own p W st kd wd vl ch ph⟩ := by
  cases ph with
  | idle => exact absurd rfl hi.2.1
  | t1 c s b f =>
    by_cases hcl : classV A B (W.getD (3 + c).toNat 0 % 4294967296) = c
    · exact ss_sw (hXSo A B true true L0) (sw_ss (hXSo A B true true L0) (cs := []) (sn_t1y hm hi hcl (fun s' h' cs T H hsub => ss_sw (hXSo A B true true L0) (sw_ss (hXSo A B true true L0) (cs := []) (back s' h' [] T H hsub)))))
    · exact ss_sw (hXSo A B true true L0) (sw_ss (hXSo A B false true L0) (cs := []) (sn_t1n hm hi hcl (fun s' h' cs T H hsub => ss_sw (hXSo A B false true L0) (sw_ss (hXSo A B true true L0) (cs := []) (back s' h' [] T H hsub)))))
  | t2 c s b f => exact ss_sw (hXSo A B true true L0) (sw_ss (hXSo A B true true L0) (cs := []) (sn_t2 hm hi (fun s' h' cs T H hsub => ss_sw (hXSo A B true true L0) (sw_ss (hXSo A B true true L0) (cs := []) (back s' h' [] T H hsub)))))
  | t3 c s b f =>
    by_cases hsw : W.getD (3 + c).toNat 0 = s
    · exact ss_sw (hXSo A B true true L0) (sw_ss (hXSo A B true true L0) (cs := []) (sn_t3y hm hi hsw (fun s' h' cs T H hsub => ss_sw (hXSo A B true true L0) (sw_ss (hXSo A B true true L0) (cs := []) (back s' h' [] T H hsub)))))
    · exact ss_sw (hXSo A B true true L0) (sw_ss (hXSo A B true false L0) (cs := []) (sn_t3n hm hi hsw (fun s' h' cs T H hsub => ss_sw (hXSo A B true false L0) (sw_ss (hXSo A B true true L0) (cs := []) (back s' h' [] T H hsub)))))
  | g1 b s => exact ss_sw (hXSo A B true true L0) (sw_ss (hXSo A B true true L0) (cs := []) (sn_g1 hm hi (fun s' h' cs T H hsub => ss_sw (hXSo A B true true L0) (sw_ss (hXSo A B true true L0) (cs := []) (back s' h' [] T H hsub)))))
  | g2 b s => exact ss_sw (hXSo A B true true L0) (sw_ss (hXSo A B true true L0) (cs := []) (sn_g2 hm hi (fun s' h' cs T H hsub => ss_sw (hXSo A B true true L0) (sw_ss (hXSo A B true true L0) (cs := []) (back s' h' [] T H hsub)))))
  | g3 b s =>
    by_cases hsw : W.getD (3 + classV A B b).toNat 0 = s
    · exact ss_sw (hXSo A B true true L0) (sw_ss (hXSo A B true true L0) (cs := []) (sn_g3y hm hi hsw (fun s' h' cs T H hsub => ss_sw (hXSo A B true true L0) (sw_ss (hXSo A B true true L0) (cs := []) (back s' h' [] T H hsub)))))
    · exact ss_sw (hXSo A B true true L0) (sw_ss (hXSo A B true false L0) (cs := []) (sn_g3n hm hi hsw (fun s' h' cs T H hsub => ss_sw (hXSo A B true false L0) (sw_ss (hXSo A B true true L0) (cs := []) (back s' h' [] T H hsub)))))
set_option maxHeartbeats 8000000 in
theorem sn_loop {W : List Int} {st kd wd vl : Int} {ch : Bool} {ph : Ph} (hm : m < 4) (hi : InvS A B own k m 0 ⟨W, st, kd, wd, vl, ch, ph⟩) :
    SS (hXSo A B true true L0) (At ρ w) (Is .tt [rwO n o]) ⟨[], [], Try.f4, Try.f4.ntmps, [rwO n o], contF Try.f4 23 [], snT, snH n o A B own p W st kd wd vl ch ph⟩ := by
  refine sxb (hXSo A B true true L0) [.l] [] 400 rfl (by first | exact trivial | simp [conjP]) ?_
  refine ss_sub (hXSo A B true true L0) (T' := snTi 0) (H' := snH n o A B own p W st kd wd vl ch ph) [0, 1, 2, 3, 4, 5] rfl rfl rfl rfl (by (repeat' (first | exact rfl | exact trivial | exact sim_refl _ | refine And.intro ?_ ?_))) (by (((repeat' (first | exact rfl | exact trivial | exact sim_refl _ | exact subE_same rfl ren_slE | exact subE_r rfl ren_slE ren_slE | exact subE_phE rfl rfl | exact sim_slV rfl | exact sim_slVr rfl | exact sim_slV3 rfl | exact sim_tkP rfl | exact sim_gvP rfl | exact sim_tkP3 rfl | exact sim_gvP3 rfl | assumption | refine And.intro ?_ ?_)); done))) (by (repeat' (first | exact rfl | exact trivial | exact sim_refl _ | refine And.intro ?_ ?_))) (by (((repeat' (first | exact rfl | exact trivial | exact okE_slE | exact okE_phE rfl | exact okP_slV rfl | exact okP_tkP rfl | exact okP_gvP rfl | refine And.intro ?_ ?_)); done))) ?_
  refine ss_loop (hXSo A B true true L0) (fun x : Nat × SoS => snTi x.1) (fun x => snH n o A B own p x.2.W x.2.st x.2.kd x.2.wd x.2.vl x.2.ch x.2.ph) (fun x => InvS A B own k m x.1 x.2) (fun x => 6 - x.1) (0, ⟨W, st, kd, wd, vl, ch, ph⟩) hi ?_
  rintro ⟨i, ⟨W, st, kd, wd, vl, ch, ph⟩⟩ hi I back
  dsimp only at hi ⊢
  refine sxb (hXSo A B true true L0) [.r 24] [] 400 rfl (by first | exact trivial | simp [conjP]) ?_
  have h6 : i < 6 := by
    obtain ⟨⟨h6, _⟩, hni, hrem, _⟩ := hi
    dsimp only at hni hrem h6
    have : 1 ≤ remP A B W ph := by
      cases ph with
      | idle => exact absurd rfl hni
      | _ => simp only [remP]; (try split) <;> omega
    omega
  exact sn_round hm hi fun s' h' => back (i + 1, s') h' (by simp only; omega)
/-! A run that has just begun. -/
def smT (i : Nat) : List (Nat × SV) := [(7, .tt), (9, .ptr 2 0), (14, .ptr 3 0), (15, .ptr 6 0), (16, .tt), (17, .int .i64 (i : Int))]
def smT0 : List (Nat × SV) := [(7, .tt), (9, .ptr 2 0), (14, .ptr 3 0), (15, .ptr 6 0), (16, .tt)]
def smH (n : Nat) (o : Nat → ActP) (A B : Int) (own : Option (List Int)) (p : VV) (L : List Int) (c : Int) (W : List Int) (st kd wd vl : Int) (ch : Bool) : Nat → List HE
  | 0 => [rwO n o, WO W, AOx 1 W st kd wd vl ch, cnO 4 5 own (.t1 c 0 0 0) p, slE own .i64 3, phE A B 5 (.t1 c 0 0 0), .obj (.cells [slV (nzl L) 7, .int .i64 0, .int .i64 0, .ff] 53), slE (nzl L) .i64 3]
  | 1 => [rwO n o, WO W, AOx 1 W (st + 1) 1 (3 + c) (W.getD (3 + c).toNat 0) false, cnO 4 5 own (.t2 c (W.getD (3 + c).toNat 0) (W.getD (3 + c).toNat 0 % 4294967296) 0) p, slE own .i64 3, phE A B 5 (.t2 c (W.getD (3 + c).toNat 0) (W.getD (3 + c).toNat 0 % 4294967296) 0), .obj (.cells [slV (nzl L) 7, .int .i64 0, .int .i64 0, .ff] 53), slE (nzl L) .i64 3]
  | _ + 2 => [rwO n o, WO W, AOx 1 W (st + 1 + 1) 1 (bkP A B (W.getD (3 + c).toNat 0 % 4294967296)) (W.getD (bkP A B (W.getD (3 + c).toNat 0 % 4294967296)).toNat 0) false, cnO 4 5 own (.t3 c (W.getD (3 + c).toNat 0) (W.getD (3 + c).toNat 0 % 4294967296) (W.getD (bkP A B (W.getD (3 + c).toNat 0 % 4294967296)).toNat 0 % 4294967296)) p, slE own .i64 3, phE A B 5 (.t3 c (W.getD (3 + c).toNat 0) (W.getD (3 + c).toNat 0 % 4294967296) (W.getD (bkP A B (W.getD (3 + c).toNat 0 % 4294967296)).toNat 0 % 4294967296)), .obj (.cells [slV (nzl L) 7, .int .i64 0, .int .i64 0, .ff] 53), slE (nzl L) .i64 3]
set_option maxHeartbeats 8000000 in
theorem sm_no {c : Int} {W : List Int} {st kd wd vl : Int} {ch : Bool} (hr : rightB 1 4 1 2 4 A 6 B 2 = true) (hl : (W.length : Int) = 16 + A * 5 + B * 7) (bd : ∀ j, 0 ≤ W.getD j 0 ∧ W.getD j 0 < 18446744073709551616) (s0 : 0 ≤ st) (s1 : st < 1000) (hc0 : 0 ≤ c ∧ c ≤ 1) (hcl : ¬ classV A B (W.getD (3 + c).toNat 0 % 4294967296) = c) :
    SS (hXSo A B false true []) (At ρ w) (Is .tt [rwO n o]) ⟨[], [], Try.f4, Try.f4.ntmps, [rwO n o], contF Try.f4 23 [], smT0, smH n o A B own p [] c W st kd wd vl ch 0⟩ := by
  have st1 : st < 1000000 := by omega
  have hXq := hXSo A B false true []
  refine sxb hXq [.l] [] 400 rfl (by first | exact trivial | simp [conjP]) ?_
  refine ss_sub hXq (T' := smT 0) (H' := smH n o A B own p [] c W st kd wd vl ch 0) [0, 1, 2, 3, 4, 5, 6, 7] rfl rfl rfl rfl (by (repeat' (first | exact rfl | exact trivial | exact sim_refl _ | refine And.intro ?_ ?_))) (by (((repeat' (first | exact rfl | exact trivial | exact sim_refl _ | exact subE_same rfl ren_slE | exact subE_r rfl ren_slE ren_slE | exact subE_phE rfl rfl | exact sim_slV rfl | exact sim_slVr rfl | exact sim_slV3 rfl | exact sim_tkP rfl | exact sim_gvP rfl | exact sim_tkP3 rfl | exact sim_gvP3 rfl | assumption | refine And.intro ?_ ?_)); done))) (by (repeat' (first | exact rfl | exact trivial | exact sim_refl _ | refine And.intro ?_ ?_))) (by (((repeat' (first | exact rfl | exact trivial | exact okE_slE | exact okE_phE rfl | exact okP_slV rfl | exact okP_tkP rfl | exact okP_gvP rfl | refine And.intro ?_ ?_)); done))) ?_
  refine ss_loop hXq (fun _ : Unit => smT 0) (fun _ => smH n o A B own p [] c W st kd wd vl ch 0) (fun _ => True) (fun _ => 0) () trivial ?_
  rintro ⟨⟩ _ I back
  dsimp only [smT, smH, tkP, gvP, phE, phO, tkO, gvO, nzl, slV, slE]
  refine sx hXq [] 4000 rfl (by (simp [-List.getD_eq_getElem?_getD, -List.length_eq_zero_iff, conjP] <;> (first | omega | ((repeat' (refine And.intro ?_ ?_)) <;> (first | omega | exact decide_eq_false (by omega) | exact decide_eq_true (by omega)))))) ?_
  refine sx hXq [.T] 4000 rfl (by (simp [-List.getD_eq_getElem?_getD, -List.length_eq_zero_iff, conjP, getH, HE.so, hr, hl, s0, st1, bd, hc0, hcl, tkO, phO] <;> (first | omega | ((repeat' (refine And.intro ?_ ?_)) <;> (first | omega | exact decide_eq_false (by omega) | exact decide_eq_true (by omega)))))) ?_
  (exact ss_end hXq [0] rfl rfl trivial rfl rfl rfl rfl (by ((first | ((repeat' (first | exact rfl | exact trivial | exact sim_refl _ | refine And.intro ?_ ?_)); done) | (simp [tupF, SV.ren, sim, simO0]; done)))) (by (repeat' (first | exact rfl | exact trivial | exact sim_refl _ | refine And.intro ?_ ?_))) (by (repeat' (first | exact rfl | exact trivial | exact sim_refl _ | refine And.intro ?_ ?_))) (by (repeat' (first | exact rfl | exact trivial | exact sim_refl _ | refine And.intro ?_ ?_))))
set_option maxHeartbeats 8000000 in
theorem sm_yes {c x : Int} {r : List Int} {W : List Int} {st kd wd vl : Int} {ch : Bool} (hr : rightB 1 4 1 2 4 A 6 B 2 = true) (hl : (W.length : Int) = 16 + A * 5 + B * 7) (bd : ∀ j, 0 ≤ W.getD j 0 ∧ W.getD j 0 < 18446744073709551616) (s0 : 0 ≤ st) (s1 : st < 1000) (hc0 : 0 ≤ c ∧ c ≤ 1) (hcl : classV A B (W.getD (3 + c).toNat 0 % 4294967296) = c) :
    SS (hXSo A B true true (x :: r)) (At ρ w) (Is .tt [rwO n o]) ⟨[], [], Try.f4, Try.f4.ntmps, [rwO n o], contF Try.f4 23 [], smT0, smH n o A B own p (x :: r) c W st kd wd vl ch 0⟩ := by
  have st1 : st < 1000000 := by omega
  have st2 : st + 1 < 1000000 := by omega
  have st3 : st + 1 + 1 < 1000000 := by omega
  have hbv := bd (3 + c).toNat
  have hb0 : 0 < W.getD (3 + c).toNat 0 % 4294967296 := by have := cls_iff hc0.1 hcl; omega
  have hXq := hXSo A B true true (x :: r)
  refine sxb hXq [.l] [] 400 rfl (by first | exact trivial | simp [conjP]) ?_
  refine ss_sub hXq (T' := smT 0) (H' := smH n o A B own p (x :: r) c W st kd wd vl ch 0) [0, 1, 2, 3, 4, 5, 6, 7] rfl rfl rfl rfl (by (repeat' (first | exact rfl | exact trivial | exact sim_refl _ | refine And.intro ?_ ?_))) (by (((repeat' (first | exact rfl | exact trivial | exact sim_refl _ | exact subE_same rfl ren_slE | exact subE_r rfl ren_slE ren_slE | exact subE_phE rfl rfl | exact sim_slV rfl | exact sim_slVr rfl | exact sim_slV3 rfl | exact sim_tkP rfl | exact sim_gvP rfl | exact sim_tkP3 rfl | exact sim_gvP3 rfl | assumption | refine And.intro ?_ ?_)); done))) (by (repeat' (first | exact rfl | exact trivial | exact sim_refl _ | refine And.intro ?_ ?_))) (by (((repeat' (first | exact rfl | exact trivial | exact okE_slE | exact okE_phE rfl | exact okP_slV rfl | exact okP_tkP rfl | exact okP_gvP rfl | refine And.intro ?_ ?_)); done))) ?_
  refine ss_loop hXq (fun i => smT i) (fun i => smH n o A B own p (x :: r) c W st kd wd vl ch i) (fun i => i ≤ 2) (fun i => 2 - i) 0 (by decide) ?_
  rintro i hi I back
  rcases i with _ | _ | _ | i
  · dsimp only [smT, smH, tkP, gvP, phE, phO, tkO, gvO, nzl, slV, slE]
    refine sx hXq [] 4000 rfl (by (simp [-List.getD_eq_getElem?_getD, -List.length_eq_zero_iff, conjP] <;> (first | omega | ((repeat' (refine And.intro ?_ ?_)) <;> (first | omega | exact decide_eq_false (by omega) | exact decide_eq_true (by omega)))))) ?_
    refine sx hXq [.T] 4000 rfl (by (simp [-List.getD_eq_getElem?_getD, -List.length_eq_zero_iff, conjP, hr, hl, s0, st1, bd, hc0, hcl, tkO, phO] <;> (first | omega | ((repeat' (refine And.intro ?_ ?_)) <;> (first | omega | exact decide_eq_false (by omega) | exact decide_eq_true (by omega)))))) ?_
    (refine back 1 (by omega) (by omega) _ _ _ (sub_of [0, 1, 2, 3, 4, 5, 6, 7] rfl rfl rfl rfl ?tt ?hh (by (repeat' (first | exact rfl | exact trivial | exact sim_refl _ | refine And.intro ?_ ?_))) ?ok); (case tt => exact ⟨by (repeat' (first | exact rfl | exact trivial | exact sim_refl _ | refine And.intro ?_ ?_)), by (repeat' (first | exact rfl | exact trivial | exact sim_refl _ | refine And.intro ?_ ?_)), by (repeat' (first | exact rfl | exact trivial | exact sim_refl _ | refine And.intro ?_ ?_)), by (repeat' (first | exact rfl | exact trivial | exact sim_refl _ | refine And.intro ?_ ?_)), by (repeat' (first | exact rfl | exact trivial | exact sim_refl _ | refine And.intro ?_ ?_)), ⟨rfl, rfl⟩, trivial⟩); (case hh => (((repeat' (first | exact rfl | exact trivial | exact sim_refl _ | exact subE_same rfl ren_slE | exact subE_r rfl ren_slE ren_slE | exact subE_phE rfl rfl | exact sim_slV rfl | exact sim_slVr rfl | exact sim_slV3 rfl | exact sim_tkP rfl | exact sim_gvP rfl | exact sim_tkP3 rfl | exact sim_gvP3 rfl | assumption | refine And.intro ?_ ?_)); done))); (case ok => (((repeat' (first | exact rfl | exact trivial | exact okE_slE | exact okE_phE rfl | exact okP_slV rfl | exact okP_tkP rfl | exact okP_gvP rfl | refine And.intro ?_ ?_)); done))))
  · dsimp only [smT, smH, tkP, gvP, phE, phO, tkO, gvO, nzl, slV, slE]
    refine sx hXq [] 4000 rfl (by (simp [-List.getD_eq_getElem?_getD, -List.length_eq_zero_iff, conjP] <;> (first | omega | ((repeat' (refine And.intro ?_ ?_)) <;> (first | omega | exact decide_eq_false (by omega) | exact decide_eq_true (by omega)))))) ?_
    refine sx hXq [.T] 4000 rfl (by (simp [-List.getD_eq_getElem?_getD, -List.length_eq_zero_iff, conjP, hr, hl, st2, bd, hc0, hcl, tkO, phO] <;> (first | omega | ((repeat' (refine And.intro ?_ ?_)) <;> (first | omega | exact decide_eq_false (by omega) | exact decide_eq_true (by omega)))))) ?_
    (refine back 2 (by omega) (by omega) _ _ _ (sub_of [0, 1, 2, 3, 4, 5, 6, 7] rfl rfl rfl rfl ?tt ?hh (by (repeat' (first | exact rfl | exact trivial | exact sim_refl _ | refine And.intro ?_ ?_))) ?ok); (case tt => exact ⟨by (repeat' (first | exact rfl | exact trivial | exact sim_refl _ | refine And.intro ?_ ?_)), by (repeat' (first | exact rfl | exact trivial | exact sim_refl _ | refine And.intro ?_ ?_)), by (repeat' (first | exact rfl | exact trivial | exact sim_refl _ | refine And.intro ?_ ?_)), by (repeat' (first | exact rfl | exact trivial | exact sim_refl _ | refine And.intro ?_ ?_)), by (repeat' (first | exact rfl | exact trivial | exact sim_refl _ | refine And.intro ?_ ?_)), ⟨rfl, rfl⟩, trivial⟩); (case hh => (((repeat' (first | exact rfl | exact trivial | exact sim_refl _ | exact subE_same rfl ren_slE | exact subE_r rfl ren_slE ren_slE | exact subE_phE rfl rfl | exact sim_slV rfl | exact sim_slVr rfl | exact sim_slV3 rfl | exact sim_tkP rfl | exact sim_gvP rfl | exact sim_tkP3 rfl | exact sim_gvP3 rfl | assumption | refine And.intro ?_ ?_)); done))); (case ok => (((repeat' (first | exact rfl | exact trivial | exact okE_slE | exact okE_phE rfl | exact okP_slV rfl | exact okP_tkP rfl | exact okP_gvP rfl | refine And.intro ?_ ?_)); done))))
  · dsimp only [smT, smH, tkP, gvP, phE, phO, tkO, gvO, nzl, slV, slE]
    refine sx hXq [] 4000 rfl (by (simp [-List.getD_eq_getElem?_getD, -List.length_eq_zero_iff, conjP] <;> (first | omega | ((repeat' (refine And.intro ?_ ?_)) <;> (first | omega | exact decide_eq_false (by omega) | exact decide_eq_true (by omega)))))) ?_
    refine sx hXq [.T] 4000 rfl (by (simp [-List.getD_eq_getElem?_getD, -List.length_eq_zero_iff, conjP, getH, HE.so, hr, hl, st3, bd, hc0, tkO, phO] <;> (first | omega | ((repeat' (refine And.intro ?_ ?_)) <;> (first | omega | exact decide_eq_false (by omega) | exact decide_eq_true (by omega)))))) ?_
    (exact ss_end hXq [0] rfl rfl trivial rfl rfl rfl rfl (by simp [-List.getD_eq_getElem?_getD, tupF, SV.ren, sim, simO0, hb0]) (by (repeat' (first | exact rfl | exact trivial | exact sim_refl _ | refine And.intro ?_ ?_))) (by (repeat' (first | exact rfl | exact trivial | exact sim_refl _ | refine And.intro ?_ ?_))) (by (repeat' (first | exact rfl | exact trivial | exact sim_refl _ | refine And.intro ?_ ?_))))
  · omega

theorem lenB (base : Int) : ∀ (n : Nat) (l : List Int), (∀ b, l.count b ≤ if base < b ∧ b ≤ base + n then 1 else 0) → l.length ≤ n
  | 0, l, h => by
    cases l with
    | nil => exact Nat.le_refl _
    | cons x r =>
      have := h x
      rw [if_neg (by omega), List.count_cons_self] at this
      omega
  | n + 1, l, h => by
    have ih := lenB base n (l.erase (base + ((n + 1 : Nat) : Int))) fun b => by
      rw [List.count_erase]
      have := h b
      by_cases e : b = base + ((n + 1 : Nat) : Int)
      · subst e
        rw [if_pos (by omega)] at this
        rw [if_pos (by simp), if_neg (by omega)]; omega
      · have e' : ¬ (base + ((n + 1 : Nat) : Int) == b) = true := by simpa using fun q => e q.symm
        rw [if_neg e']
        by_cases q : base < b ∧ b ≤ base + (n : Int)
        · rw [if_pos q]; rw [if_pos (by omega)] at this; omega
        · rw [if_neg q]; rw [if_neg (by omega)] at this; omega
    rw [List.length_erase] at ih
    split at ih <;> omega
theorem L_len {i : Nat} {W : List Int} {L : Int → List Int} (h : InvQ A B i W k L) {c : Int} (hc : c = 0 ∨ c = 1) : (L c).length ≤ (cntV A B c).toNat := by
  have h0 := h.a0
  have h2 := h.b0
  have key : ∀ b, (L c).count b ≤ if classV A B b = c then 1 else 0 := fun b => by
    have q := h.cnt b
    by_cases e : classV A B b = c
    · rw [if_pos e]
      rcases hc with rfl | rfl <;> (split at q <;> omega)
    · rw [if_neg e]
      have : (L c).count b = 0 := by
        rw [List.count_eq_zero]
        intro hb
        exact e (h.cls c (by omega) (by omega) b hb)
      omega
  rcases hc with rfl | rfl
  · refine lenB 0 _ _ fun b => ?_
    have := key b
    have e : (cntV A B 0) = A := rfl
    rw [e]
    by_cases q : 0 < b ∧ b ≤ 0 + (A.toNat : Int)
    · rw [if_pos q]; split at this <;> omega
    · rw [if_neg q]
      have : ¬ classV A B b = 0 := fun r => by have := cls_iff (by decide) r; omega
      have := key b
      rw [if_neg ‹¬ classV A B b = 0›] at this; exact this
  · refine lenB A _ _ fun b => ?_
    have := key b
    have e : (cntV A B 1) = B := rfl
    rw [e]
    by_cases q : A < b ∧ b ≤ A + (B.toNat : Int)
    · rw [if_pos q]; split at this <;> omega
    · rw [if_neg q]
      have : ¬ classV A B b = 1 := fun r => by have := cls_iff (by decide) r; omega
      have := key b
      rw [if_neg ‹¬ classV A B b = 1›] at this; exact this
theorem kset_self {c : Pk} (h : k m = c) : kset k m c = k := by
  funext j
  simp only [kset]
  split
  · rename_i e; subst e; exact h.symm
  · rfl
def soT (wh : Int) : List (Nat × SV) := [(2, .int .i64 wh), (7, .tt), (8, .ptr 1 0), (9, .ptr 3 0), (14, .ptr 4 0)]
def soH (n : Nat) (o : Nat → ActP) (A B : Int) (W : List Int) (st kd wd vl : Int) (ch : Bool) (own : Option (List Int)) (ph : Ph) (p : VV) : List HE :=
  [rwO n o, cfO A B, WO W, AOx 2 W st kd wd vl ch, cnO 5 6 own ph p, slE own .i64 3, phE A B 6 ph]
section
variable {wh : Int} {W : List Int} {st kd wd vl : Int} {ch : Bool} {L : Int → List Int} {j : Nat}
set_option maxHeartbeats 16000000 in
theorem so_go {ph : Ph} (hph : ph ≠ .idle) (hm : m < 4) (hk : k m = ⟨own, ph⟩) (hj : j ≤ 300) (s0 : 0 ≤ st) (s1 : st ≤ 200) (hq : InvQ A B j W k L) :
    SS (hXSo A B true true (L (ibits .and .i64 (wh.fdiv (2 ^ (min (2 : Int).toNat IntKind.i64.bits))) 1))) (At ρ w) (Is .tt [rwO n o]) ⟨[], [], Try.f4, Try.f4.ntmps, [rwO n o], contF Try.f4 20 [], soT wh, soH n o A B W st kd wd vl ch own ph p⟩ := by
  have hS : InvS A B own k m 0 ⟨W, st, kd, wd, vl, ch, ph⟩ := ⟨⟨by decide, s0, by simp only; omega⟩, hph, by cases ph <;> simp only [remP] <;> (try split) <;> omega, j, L, by omega, by rw [kset_self hk]; exact hq⟩
  have key := fun ρ w => sn_loop (n := n) (o := o) (ρ := ρ) (w := w) (p := p) (L0 := L (ibits .and .i64 (wh.fdiv (2 ^ (min (2 : Int).toNat IntKind.i64.bits))) 1)) hm hS
  have hc1 := and1 (wh.fdiv (2 ^ (min (2 : Int).toNat IntKind.i64.bits)))
  have hch := hq.chn _ hc1.1 hc1.2
  have hcl := hq.cls _ hc1.1 hc1.2
  have hcn := L_len hq (c := (ibits .and .i64 (wh.fdiv (2 ^ (min (2 : Int).toNat IntKind.i64.bits))) 1)) (by omega)
  obtain ⟨hr, hl⟩ := inv_len hq
  have bd := hq.bd
  have h0 := hq.a0
  have h1 := hq.a1
  have h2 := hq.b0
  have h3 := hq.b1
  have hw5 : W.length ≤ 5000 := by omega
  have hc01 : (ibits .and .i64 (wh.fdiv (2 ^ (min (2 : Int).toNat IntKind.i64.bits))) 1) = 0 ∨ (ibits .and .i64 (wh.fdiv (2 ^ (min (2 : Int).toNat IntKind.i64.bits))) 1) = 1 := by omega
  generalize hgc : (ibits .and .i64 (wh.fdiv (2 ^ (min (2 : Int).toNat IntKind.i64.bits))) 1) = cx at *
  generalize L cx = Lc at *
  have hXq := hXSo A B true true Lc
  cases ph with
  | idle => exact absurd rfl hph
  | t1 c s b f =>
    dsimp only [soT, soH, tkP, gvP, phE, phO, tkO, gvO]
    rcases Lc with _ | ⟨x, r⟩
    · refine ss_drawZ (hXSo A B true true []) 7 [] 400 rfl (by repeat' (first | exact rfl | exact trivial | exact bd | exact hw5 | exact hr | exact hl | (rw [hgc]; exact hc01) | (rw [hgc]; exact hch) | (rw [hgc]; exact hcl) | (rw [hgc]; exact hcn) | refine And.intro ?_ ?_)) ?_
      refine sxb hXq [.r 23] [] 4000 rfl (by (simp [-List.getD_eq_getElem?_getD, -List.length_eq_zero_iff, conjP] <;> (first | omega | ((repeat' (refine And.intro ?_ ?_)) <;> (first | omega | exact decide_eq_false (by omega) | exact decide_eq_true (by omega)))))) ?_
      (refine ss_sub hXq (T' := snT) (H' := snH n o A B own p W st kd wd vl ch (.t1 c s b f)) [0, 2, 3, 4, 5, 6] rfl rfl rfl rfl ?tt ?hh (by (repeat' (first | exact rfl | exact trivial | exact sim_refl _ | refine And.intro ?_ ?_))) (by (((repeat' (first | exact rfl | exact trivial | exact okE_slE | exact okE_phE rfl | exact okP_slV rfl | exact okP_tkP rfl | exact okP_gvP rfl | refine And.intro ?_ ?_)); done))) ?_; (case tt => (repeat' (first | exact rfl | exact trivial | exact sim_refl _ | refine And.intro ?_ ?_))); (case hh => (((repeat' (first | exact rfl | exact trivial | exact sim_refl _ | exact subE_same rfl ren_slE | exact subE_r rfl ren_slE ren_slE | exact subE_phE rfl rfl | exact sim_slV rfl | exact sim_slVr rfl | exact sim_slV3 rfl | exact sim_tkP rfl | exact sim_gvP rfl | exact sim_tkP3 rfl | exact sim_gvP3 rfl | assumption | refine And.intro ?_ ?_)); done))); exact key _ _)
    · refine ss_drawZ (hXSo A B true true (x :: r)) 7 [] 400 rfl (by repeat' (first | exact rfl | exact trivial | exact bd | exact hw5 | exact hr | exact hl | (rw [hgc]; exact hc01) | (rw [hgc]; exact hch) | (rw [hgc]; exact hcl) | (rw [hgc]; exact hcn) | refine And.intro ?_ ?_)) ?_
      refine sxb hXq [.r 23] [] 4000 rfl (by (simp [-List.getD_eq_getElem?_getD, -List.length_eq_zero_iff, conjP] <;> (first | omega | ((repeat' (refine And.intro ?_ ?_)) <;> (first | omega | exact decide_eq_false (by omega) | exact decide_eq_true (by omega)))))) ?_
      (refine ss_sub hXq (T' := snT) (H' := snH n o A B own p W st kd wd vl ch (.t1 c s b f)) [0, 2, 3, 4, 5, 6] rfl rfl rfl rfl ?tt ?hh (by (repeat' (first | exact rfl | exact trivial | exact sim_refl _ | refine And.intro ?_ ?_))) (by (((repeat' (first | exact rfl | exact trivial | exact okE_slE | exact okE_phE rfl | exact okP_slV rfl | exact okP_tkP rfl | exact okP_gvP rfl | refine And.intro ?_ ?_)); done))) ?_; (case tt => (repeat' (first | exact rfl | exact trivial | exact sim_refl _ | refine And.intro ?_ ?_))); (case hh => (((repeat' (first | exact rfl | exact trivial | exact sim_refl _ | exact subE_same rfl ren_slE | exact subE_r rfl ren_slE ren_slE | exact subE_phE rfl rfl | exact sim_slV rfl | exact sim_slVr rfl | exact sim_slV3 rfl | exact sim_tkP rfl | exact sim_gvP rfl | exact sim_tkP3 rfl | exact sim_gvP3 rfl | assumption | refine And.intro ?_ ?_)); done))); exact key _ _)
  | t2 c s b f =>
    dsimp only [soT, soH, tkP, gvP, phE, phO, tkO, gvO]
    rcases Lc with _ | ⟨x, r⟩
    · refine ss_drawZ (hXSo A B true true []) 7 [] 400 rfl (by repeat' (first | exact rfl | exact trivial | exact bd | exact hw5 | exact hr | exact hl | (rw [hgc]; exact hc01) | (rw [hgc]; exact hch) | (rw [hgc]; exact hcl) | (rw [hgc]; exact hcn) | refine And.intro ?_ ?_)) ?_
      refine sxb hXq [.r 23] [] 4000 rfl (by (simp [-List.getD_eq_getElem?_getD, -List.length_eq_zero_iff, conjP] <;> (first | omega | ((repeat' (refine And.intro ?_ ?_)) <;> (first | omega | exact decide_eq_false (by omega) | exact decide_eq_true (by omega)))))) ?_
      (refine ss_sub hXq (T' := snT) (H' := snH n o A B own p W st kd wd vl ch (.t2 c s b f)) [0, 2, 3, 4, 5, 6] rfl rfl rfl rfl ?tt ?hh (by (repeat' (first | exact rfl | exact trivial | exact sim_refl _ | refine And.intro ?_ ?_))) (by (((repeat' (first | exact rfl | exact trivial | exact okE_slE | exact okE_phE rfl | exact okP_slV rfl | exact okP_tkP rfl | exact okP_gvP rfl | refine And.intro ?_ ?_)); done))) ?_; (case tt => (repeat' (first | exact rfl | exact trivial | exact sim_refl _ | refine And.intro ?_ ?_))); (case hh => (((repeat' (first | exact rfl | exact trivial | exact sim_refl _ | exact subE_same rfl ren_slE | exact subE_r rfl ren_slE ren_slE | exact subE_phE rfl rfl | exact sim_slV rfl | exact sim_slVr rfl | exact sim_slV3 rfl | exact sim_tkP rfl | exact sim_gvP rfl | exact sim_tkP3 rfl | exact sim_gvP3 rfl | assumption | refine And.intro ?_ ?_)); done))); exact key _ _)
    · refine ss_drawZ (hXSo A B true true (x :: r)) 7 [] 400 rfl (by repeat' (first | exact rfl | exact trivial | exact bd | exact hw5 | exact hr | exact hl | (rw [hgc]; exact hc01) | (rw [hgc]; exact hch) | (rw [hgc]; exact hcl) | (rw [hgc]; exact hcn) | refine And.intro ?_ ?_)) ?_
      refine sxb hXq [.r 23] [] 4000 rfl (by (simp [-List.getD_eq_getElem?_getD, -List.length_eq_zero_iff, conjP] <;> (first | omega | ((repeat' (refine And.intro ?_ ?_)) <;> (first | omega | exact decide_eq_false (by omega) | exact decide_eq_true (by omega)))))) ?_
      (refine ss_sub hXq (T' := snT) (H' := snH n o A B own p W st kd wd vl ch (.t2 c s b f)) [0, 2, 3, 4, 5, 6] rfl rfl rfl rfl ?tt ?hh (by (repeat' (first | exact rfl | exact trivial | exact sim_refl _ | refine And.intro ?_ ?_))) (by (((repeat' (first | exact rfl | exact trivial | exact okE_slE | exact okE_phE rfl | exact okP_slV rfl | exact okP_tkP rfl | exact okP_gvP rfl | refine And.intro ?_ ?_)); done))) ?_; (case tt => (repeat' (first | exact rfl | exact trivial | exact sim_refl _ | refine And.intro ?_ ?_))); (case hh => (((repeat' (first | exact rfl | exact trivial | exact sim_refl _ | exact subE_same rfl ren_slE | exact subE_r rfl ren_slE ren_slE | exact subE_phE rfl rfl | exact sim_slV rfl | exact sim_slVr rfl | exact sim_slV3 rfl | exact sim_tkP rfl | exact sim_gvP rfl | exact sim_tkP3 rfl | exact sim_gvP3 rfl | assumption | refine And.intro ?_ ?_)); done))); exact key _ _)
  | t3 c s b f =>
    dsimp only [soT, soH, tkP, gvP, phE, phO, tkO, gvO]
    rcases Lc with _ | ⟨x, r⟩
    · refine ss_drawZ (hXSo A B true true []) 7 [] 400 rfl (by repeat' (first | exact rfl | exact trivial | exact bd | exact hw5 | exact hr | exact hl | (rw [hgc]; exact hc01) | (rw [hgc]; exact hch) | (rw [hgc]; exact hcl) | (rw [hgc]; exact hcn) | refine And.intro ?_ ?_)) ?_
      refine sxb hXq [.r 23] [] 4000 rfl (by (simp [-List.getD_eq_getElem?_getD, -List.length_eq_zero_iff, conjP] <;> (first | omega | ((repeat' (refine And.intro ?_ ?_)) <;> (first | omega | exact decide_eq_false (by omega) | exact decide_eq_true (by omega)))))) ?_
      (refine ss_sub hXq (T' := snT) (H' := snH n o A B own p W st kd wd vl ch (.t3 c s b f)) [0, 2, 3, 4, 5, 6] rfl rfl rfl rfl ?tt ?hh (by (repeat' (first | exact rfl | exact trivial | exact sim_refl _ | refine And.intro ?_ ?_))) (by (((repeat' (first | exact rfl | exact trivial | exact okE_slE | exact okE_phE rfl | exact okP_slV rfl | exact okP_tkP rfl | exact okP_gvP rfl | refine And.intro ?_ ?_)); done))) ?_; (case tt => (repeat' (first | exact rfl | exact trivial | exact sim_refl _ | refine And.intro ?_ ?_))); (case hh => (((repeat' (first | exact rfl | exact trivial | exact sim_refl _ | exact subE_same rfl ren_slE | exact subE_r rfl ren_slE ren_slE | exact subE_phE rfl rfl | exact sim_slV rfl | exact sim_slVr rfl | exact sim_slV3 rfl | exact sim_tkP rfl | exact sim_gvP rfl | exact sim_tkP3 rfl | exact sim_gvP3 rfl | assumption | refine And.intro ?_ ?_)); done))); exact key _ _)
    · refine ss_drawZ (hXSo A B true true (x :: r)) 7 [] 400 rfl (by repeat' (first | exact rfl | exact trivial | exact bd | exact hw5 | exact hr | exact hl | (rw [hgc]; exact hc01) | (rw [hgc]; exact hch) | (rw [hgc]; exact hcl) | (rw [hgc]; exact hcn) | refine And.intro ?_ ?_)) ?_
      refine sxb hXq [.r 23] [] 4000 rfl (by (simp [-List.getD_eq_getElem?_getD, -List.length_eq_zero_iff, conjP] <;> (first | omega | ((repeat' (refine And.intro ?_ ?_)) <;> (first | omega | exact decide_eq_false (by omega) | exact decide_eq_true (by omega)))))) ?_
      (refine ss_sub hXq (T' := snT) (H' := snH n o A B own p W st kd wd vl ch (.t3 c s b f)) [0, 2, 3, 4, 5, 6] rfl rfl rfl rfl ?tt ?hh (by (repeat' (first | exact rfl | exact trivial | exact sim_refl _ | refine And.intro ?_ ?_))) (by (((repeat' (first | exact rfl | exact trivial | exact okE_slE | exact okE_phE rfl | exact okP_slV rfl | exact okP_tkP rfl | exact okP_gvP rfl | refine And.intro ?_ ?_)); done))) ?_; (case tt => (repeat' (first | exact rfl | exact trivial | exact sim_refl _ | refine And.intro ?_ ?_))); (case hh => (((repeat' (first | exact rfl | exact trivial | exact sim_refl _ | exact subE_same rfl ren_slE | exact subE_r rfl ren_slE ren_slE | exact subE_phE rfl rfl | exact sim_slV rfl | exact sim_slVr rfl | exact sim_slV3 rfl | exact sim_tkP rfl | exact sim_gvP rfl | exact sim_tkP3 rfl | exact sim_gvP3 rfl | assumption | refine And.intro ?_ ?_)); done))); exact key _ _)
  | g1 b s =>
    dsimp only [soT, soH, tkP, gvP, phE, phO, tkO, gvO]
    rcases Lc with _ | ⟨x, r⟩
    · refine ss_drawZ (hXSo A B true true []) 7 [] 400 rfl (by repeat' (first | exact rfl | exact trivial | exact bd | exact hw5 | exact hr | exact hl | (rw [hgc]; exact hc01) | (rw [hgc]; exact hch) | (rw [hgc]; exact hcl) | (rw [hgc]; exact hcn) | refine And.intro ?_ ?_)) ?_
      refine sxb hXq [.r 23] [] 4000 rfl (by (simp [-List.getD_eq_getElem?_getD, -List.length_eq_zero_iff, conjP] <;> (first | omega | ((repeat' (refine And.intro ?_ ?_)) <;> (first | omega | exact decide_eq_false (by omega) | exact decide_eq_true (by omega)))))) ?_
      (refine ss_sub hXq (T' := snT) (H' := snH n o A B own p W st kd wd vl ch (.g1 b s)) [0, 2, 3, 4, 5, 6] rfl rfl rfl rfl ?tt ?hh (by (repeat' (first | exact rfl | exact trivial | exact sim_refl _ | refine And.intro ?_ ?_))) (by (((repeat' (first | exact rfl | exact trivial | exact okE_slE | exact okE_phE rfl | exact okP_slV rfl | exact okP_tkP rfl | exact okP_gvP rfl | refine And.intro ?_ ?_)); done))) ?_; (case tt => (repeat' (first | exact rfl | exact trivial | exact sim_refl _ | refine And.intro ?_ ?_))); (case hh => (((repeat' (first | exact rfl | exact trivial | exact sim_refl _ | exact subE_same rfl ren_slE | exact subE_r rfl ren_slE ren_slE | exact subE_phE rfl rfl | exact sim_slV rfl | exact sim_slVr rfl | exact sim_slV3 rfl | exact sim_tkP rfl | exact sim_gvP rfl | exact sim_tkP3 rfl | exact sim_gvP3 rfl | assumption | refine And.intro ?_ ?_)); done))); exact key _ _)
    · refine ss_drawZ (hXSo A B true true (x :: r)) 7 [] 400 rfl (by repeat' (first | exact rfl | exact trivial | exact bd | exact hw5 | exact hr | exact hl | (rw [hgc]; exact hc01) | (rw [hgc]; exact hch) | (rw [hgc]; exact hcl) | (rw [hgc]; exact hcn) | refine And.intro ?_ ?_)) ?_
      refine sxb hXq [.r 23] [] 4000 rfl (by (simp [-List.getD_eq_getElem?_getD, -List.length_eq_zero_iff, conjP] <;> (first | omega | ((repeat' (refine And.intro ?_ ?_)) <;> (first | omega | exact decide_eq_false (by omega) | exact decide_eq_true (by omega)))))) ?_
      (refine ss_sub hXq (T' := snT) (H' := snH n o A B own p W st kd wd vl ch (.g1 b s)) [0, 2, 3, 4, 5, 6] rfl rfl rfl rfl ?tt ?hh (by (repeat' (first | exact rfl | exact trivial | exact sim_refl _ | refine And.intro ?_ ?_))) (by (((repeat' (first | exact rfl | exact trivial | exact okE_slE | exact okE_phE rfl | exact okP_slV rfl | exact okP_tkP rfl | exact okP_gvP rfl | refine And.intro ?_ ?_)); done))) ?_; (case tt => (repeat' (first | exact rfl | exact trivial | exact sim_refl _ | refine And.intro ?_ ?_))); (case hh => (((repeat' (first | exact rfl | exact trivial | exact sim_refl _ | exact subE_same rfl ren_slE | exact subE_r rfl ren_slE ren_slE | exact subE_phE rfl rfl | exact sim_slV rfl | exact sim_slVr rfl | exact sim_slV3 rfl | exact sim_tkP rfl | exact sim_gvP rfl | exact sim_tkP3 rfl | exact sim_gvP3 rfl | assumption | refine And.intro ?_ ?_)); done))); exact key _ _)
  | g2 b s =>
    dsimp only [soT, soH, tkP, gvP, phE, phO, tkO, gvO]
    rcases Lc with _ | ⟨x, r⟩
    · refine ss_drawZ (hXSo A B true true []) 7 [] 400 rfl (by repeat' (first | exact rfl | exact trivial | exact bd | exact hw5 | exact hr | exact hl | (rw [hgc]; exact hc01) | (rw [hgc]; exact hch) | (rw [hgc]; exact hcl) | (rw [hgc]; exact hcn) | refine And.intro ?_ ?_)) ?_
      refine sxb hXq [.r 23] [] 4000 rfl (by (simp [-List.getD_eq_getElem?_getD, -List.length_eq_zero_iff, conjP] <;> (first | omega | ((repeat' (refine And.intro ?_ ?_)) <;> (first | omega | exact decide_eq_false (by omega) | exact decide_eq_true (by omega)))))) ?_
      (refine ss_sub hXq (T' := snT) (H' := snH n o A B own p W st kd wd vl ch (.g2 b s)) [0, 2, 3, 4, 5, 6] rfl rfl rfl rfl ?tt ?hh (by (repeat' (first | exact rfl | exact trivial | exact sim_refl _ | refine And.intro ?_ ?_))) (by (((repeat' (first | exact rfl | exact trivial | exact okE_slE | exact okE_phE rfl | exact okP_slV rfl | exact okP_tkP rfl | exact okP_gvP rfl | refine And.intro ?_ ?_)); done))) ?_; (case tt => (repeat' (first | exact rfl | exact trivial | exact sim_refl _ | refine And.intro ?_ ?_))); (case hh => (((repeat' (first | exact rfl | exact trivial | exact sim_refl _ | exact subE_same rfl ren_slE | exact subE_r rfl ren_slE ren_slE | exact subE_phE rfl rfl | exact sim_slV rfl | exact sim_slVr rfl | exact sim_slV3 rfl | exact sim_tkP rfl | exact sim_gvP rfl | exact sim_tkP3 rfl | exact sim_gvP3 rfl | assumption | refine And.intro ?_ ?_)); done))); exact key _ _)
    · refine ss_drawZ (hXSo A B true true (x :: r)) 7 [] 400 rfl (by repeat' (first | exact rfl | exact trivial | exact bd | exact hw5 | exact hr | exact hl | (rw [hgc]; exact hc01) | (rw [hgc]; exact hch) | (rw [hgc]; exact hcl) | (rw [hgc]; exact hcn) | refine And.intro ?_ ?_)) ?_
      refine sxb hXq [.r 23] [] 4000 rfl (by (simp [-List.getD_eq_getElem?_getD, -List.length_eq_zero_iff, conjP] <;> (first | omega | ((repeat' (refine And.intro ?_ ?_)) <;> (first | omega | exact decide_eq_false (by omega) | exact decide_eq_true (by omega)))))) ?_
      (refine ss_sub hXq (T' := snT) (H' := snH n o A B own p W st kd wd vl ch (.g2 b s)) [0, 2, 3, 4, 5, 6] rfl rfl rfl rfl ?tt ?hh (by (repeat' (first | exact rfl | exact trivial | exact sim_refl _ | refine And.intro ?_ ?_))) (by (((repeat' (first | exact rfl | exact trivial | exact okE_slE | exact okE_phE rfl | exact okP_slV rfl | exact okP_tkP rfl | exact okP_gvP rfl | refine And.intro ?_ ?_)); done))) ?_; (case tt => (repeat' (first | exact rfl | exact trivial | exact sim_refl _ | refine And.intro ?_ ?_))); (case hh => (((repeat' (first | exact rfl | exact trivial | exact sim_refl _ | exact subE_same rfl ren_slE | exact subE_r rfl ren_slE ren_slE | exact subE_phE rfl rfl | exact sim_slV rfl | exact sim_slVr rfl | exact sim_slV3 rfl | exact sim_tkP rfl | exact sim_gvP rfl | exact sim_tkP3 rfl | exact sim_gvP3 rfl | assumption | refine And.intro ?_ ?_)); done))); exact key _ _)
  | g3 b s =>
    dsimp only [soT, soH, tkP, gvP, phE, phO, tkO, gvO]
    rcases Lc with _ | ⟨x, r⟩
    · refine ss_drawZ (hXSo A B true true []) 7 [] 400 rfl (by repeat' (first | exact rfl | exact trivial | exact bd | exact hw5 | exact hr | exact hl | (rw [hgc]; exact hc01) | (rw [hgc]; exact hch) | (rw [hgc]; exact hcl) | (rw [hgc]; exact hcn) | refine And.intro ?_ ?_)) ?_
      refine sxb hXq [.r 23] [] 4000 rfl (by (simp [-List.getD_eq_getElem?_getD, -List.length_eq_zero_iff, conjP] <;> (first | omega | ((repeat' (refine And.intro ?_ ?_)) <;> (first | omega | exact decide_eq_false (by omega) | exact decide_eq_true (by omega)))))) ?_
      (refine ss_sub hXq (T' := snT) (H' := snH n o A B own p W st kd wd vl ch (.g3 b s)) [0, 2, 3, 4, 5, 6] rfl rfl rfl rfl ?tt ?hh (by (repeat' (first | exact rfl | exact trivial | exact sim_refl _ | refine And.intro ?_ ?_))) (by (((repeat' (first | exact rfl | exact trivial | exact okE_slE | exact okE_phE rfl | exact okP_slV rfl | exact okP_tkP rfl | exact okP_gvP rfl | refine And.intro ?_ ?_)); done))) ?_; (case tt => (repeat' (first | exact rfl | exact trivial | exact sim_refl _ | refine And.intro ?_ ?_))); (case hh => (((repeat' (first | exact rfl | exact trivial | exact sim_refl _ | exact subE_same rfl ren_slE | exact subE_r rfl ren_slE ren_slE | exact subE_phE rfl rfl | exact sim_slV rfl | exact sim_slVr rfl | exact sim_slV3 rfl | exact sim_tkP rfl | exact sim_gvP rfl | exact sim_tkP3 rfl | exact sim_gvP3 rfl | assumption | refine And.intro ?_ ?_)); done))); exact key _ _)
    · refine ss_drawZ (hXSo A B true true (x :: r)) 7 [] 400 rfl (by repeat' (first | exact rfl | exact trivial | exact bd | exact hw5 | exact hr | exact hl | (rw [hgc]; exact hc01) | (rw [hgc]; exact hch) | (rw [hgc]; exact hcl) | (rw [hgc]; exact hcn) | refine And.intro ?_ ?_)) ?_
      refine sxb hXq [.r 23] [] 4000 rfl (by (simp [-List.getD_eq_getElem?_getD, -List.length_eq_zero_iff, conjP] <;> (first | omega | ((repeat' (refine And.intro ?_ ?_)) <;> (first | omega | exact decide_eq_false (by omega) | exact decide_eq_true (by omega)))))) ?_
      (refine ss_sub hXq (T' := snT) (H' := snH n o A B own p W st kd wd vl ch (.g3 b s)) [0, 2, 3, 4, 5, 6] rfl rfl rfl rfl ?tt ?hh (by (repeat' (first | exact rfl | exact trivial | exact sim_refl _ | refine And.intro ?_ ?_))) (by (((repeat' (first | exact rfl | exact trivial | exact okE_slE | exact okE_phE rfl | exact okP_slV rfl | exact okP_tkP rfl | exact okP_gvP rfl | refine And.intro ?_ ?_)); done))) ?_; (case tt => (repeat' (first | exact rfl | exact trivial | exact sim_refl _ | refine And.intro ?_ ?_))); (case hh => (((repeat' (first | exact rfl | exact trivial | exact sim_refl _ | exact subE_same rfl ren_slE | exact subE_r rfl ren_slE ren_slE | exact subE_phE rfl rfl | exact sim_slV rfl | exact sim_slVr rfl | exact sim_slV3 rfl | exact sim_tkP rfl | exact sim_gvP rfl | exact sim_tkP3 rfl | exact sim_gvP3 rfl | assumption | refine And.intro ?_ ?_)); done))); exact key _ _)
end
end
end Go.Proofs.Ytmghcelohnlceaa
