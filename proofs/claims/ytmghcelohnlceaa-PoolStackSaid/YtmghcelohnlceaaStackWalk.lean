/- PoolStack: the walk. -/
import Derived.Test.YtmghcelohnlceaaStackTake
import Derived.Test.YtmghcelohnlceaaStackLaw
namespace Go.Proofs.Ytmghcelohnlceaa
open Go Go.Hx
set_option maxRecDepth 8000
def ctPk (A B : Int) (b1 : Bool) : Nat → Option Hx.Spec
  | 20 => some (takenS A B b1)
  | 15 => some (gvStepS A B true)
  | 63 => some (pureS rightS)
  | 42 => some (pureS (placeS classF))
  | 40 => some (pureS pHeadS)
  | 10 => some (makeS)
  | 9 => some (pureS cfgPS)
  | 8 => some (pureS awPS)
  | _ => none
theorem ctPk_ok (A B : Int) (b1 : Bool) : ∀ f s args H ob V L, ctPk A B b1 f = some s → s args H = some (ob, V, L) → AllP ob → Gives Try.prog f args H (Is V L) := by
  intro f s args H ob V L h hs ho
  unfold ctPk at h
  split at h
  · simp at h; subst h; exact takenS_ok hs ho
  · simp at h; subst h; exact gvStepS_ok hs ho
  · simp at h; subst h; exact pureS_ok ⟨_, hTE⟩ (rightS_ok right63) hs ho
  · simp at h; subst h; exact pureS_ok ⟨_, hTE⟩ (placeS_ok (v := classF) class_fn) hs ho
  · simp at h; subst h; exact pureS_ok ⟨_, hTE⟩ (pHeadS_ok) hs ho
  · simp at h; subst h; exact makeS_ok hs ho
  · simp at h; subst h; exact pureS_ok ⟨_, hTE⟩ (cfgPS_ok) hs ho
  · simp at h; subst h; exact pureS_ok ⟨_, hTE⟩ (awPS_ok) hs ho
  · simp at h
noncomputable def XPk (A B : Int) (b1 : Bool) : Tabs := tabs tr ft xt (fun _ => none) (ctPk A B b1) 0
theorem hXPk (A B : Int) (b1 : Bool) : TOk Try.prog (XPk A B b1) := ⟨hTE, hFT, (ctPk_ok A B b1), hXT, fun t ks h => by simp [XPk, tabs] at h, mixed⟩
def ctPu (A B : Int) (b1 : Bool) : Nat → Option Hx.Spec
  | 20 => some (takenS A B b1)
  | 15 => some (gvStepS A B true)
  | 63 => some (pureS rightS)
  | 42 => some (pureS (placeS classF))
  | 40 => some (pureS pHeadS)
  | 10 => some (makeS)
  | 9 => some (pureS cfgPS)
  | 8 => some (pureS awPS)
  | _ => none
theorem ctPu_ok (A B : Int) (b1 : Bool) : ∀ f s args H ob V L, ctPu A B b1 f = some s → s args H = some (ob, V, L) → AllP ob → Gives Try.prog f args H (Is V L) := by
  intro f s args H ob V L h hs ho
  unfold ctPu at h
  split at h
  · simp at h; subst h; exact takenS_ok hs ho
  · simp at h; subst h; exact gvStepS_ok hs ho
  · simp at h; subst h; exact pureS_ok ⟨_, hTE⟩ (rightS_ok right63) hs ho
  · simp at h; subst h; exact pureS_ok ⟨_, hTE⟩ (placeS_ok (v := classF) class_fn) hs ho
  · simp at h; subst h; exact pureS_ok ⟨_, hTE⟩ (pHeadS_ok) hs ho
  · simp at h; subst h; exact makeS_ok hs ho
  · simp at h; subst h; exact pureS_ok ⟨_, hTE⟩ (cfgPS_ok) hs ho
  · simp at h; subst h; exact pureS_ok ⟨_, hTE⟩ (awPS_ok) hs ho
  · simp at h
noncomputable def XPu (A B : Int) (b1 : Bool) : Tabs := tabs tr ft xt (fun _ => none) (ctPu A B b1) 20
theorem hXPu (A B : Int) (b1 : Bool) : TOk Try.prog (XPu A B b1) := ⟨hTE, hFT, (ctPu_ok A B b1), hXT, fun t ks h => by simp [XPu, tabs] at h, mixed⟩
abbrev kcO (A B : Int) : HE := .obj (.cells [.int .i64 1, .int .i64 4, .int .i64 1, .int .i64 2, .int .i64 4, .int .i64 A, .int .i64 6, .int .i64 B, .int .i64 2] 29)
structure SK where
  (W : List Int) (st kd wd vl : Int) (ch : Bool)
abbrev zO (z : List Int) : HE := .obj (.winI .i64 z)
def kT1 (sv : SV) (c N : Int) (own : Option (List Int)) (i : Nat) : List (Nat × SV) := [(2, sv), (7, .tt), (8, .ptr 1 0), (9, .ptr 3 0), (11, .int .i64 c), (12, .int .i64 N), (13, slV own 4), (14, .int .i64 (i : Int))]
def kT1s (sv : SV) (c N : Int) : List (Nat × SV) := [(2, sv), (7, .tt), (8, .ptr 1 0), (9, .ptr 3 0), (11, .int .i64 c), (12, .int .i64 N)]
def kTc (sv : SV) (c : Int) : List (Nat × SV) := [(2, sv), (7, .tt), (8, .ptr 1 0), (9, .ptr 3 0), (11, .int .i64 c)]
def kH0 (e0 : HE) (A B : Int) (x : SK) : List HE := [e0, kcO A B, WO x.W, AOx 2 x.W x.st x.kd x.wd x.vl x.ch]
def kH1 (e0 : HE) (A B : Int) (x : SK) (own : Option (List Int)) : List HE := [e0, kcO A B, WO x.W, AOx 2 x.W x.st x.kd x.wd x.vl x.ch, slE own .i64 3]
def kT2 (sv : SV) (c : Int) (own giv : Option (List Int)) (i : Nat) : List (Nat × SV) := [(2, sv), (7, .tt), (8, .ptr 1 0), (9, .ptr 3 0), (11, .int .i64 c), (13, slV own 4), (17, slV giv 5), (18, .int .i64 (i : Int))]
def kT2d (sv : SV) (c : Int) (own giv : Option (List Int)) (i D : Nat) : List (Nat × SV) := [(2, sv), (7, .tt), (8, .ptr 1 0), (9, .ptr 3 0), (11, .int .i64 c), (13, slV own 4), (17, slV giv 5), (18, .int .i64 (i : Int)), (19, .int .i64 (D : Int))]
def kT2s (sv : SV) (c : Int) (own : Option (List Int)) : List (Nat × SV) := [(2, sv), (7, .tt), (8, .ptr 1 0), (9, .ptr 3 0), (11, .int .i64 c), (13, slV own 4)]
def kH2 (e0 : HE) (A B : Int) (x : SK) (own giv : Option (List Int)) : List HE := [e0, kcO A B, WO x.W, AOx 2 x.W x.st x.kd x.wd x.vl x.ch, slE own .i64 3, slE giv .i64 3]
def kT3 (c : Int) (giv : Option (List Int)) (j : Nat) : List (Nat × SV) := [(7, .tt), (8, .ptr 1 0), (9, .ptr 3 0), (11, .int .i64 c), (17, slV giv 4), (22, .int .i64 ((j : Int) - 1))]
def kT3j (c : Int) (giv : Option (List Int)) (j : Nat) : List (Nat × SV) := [(7, .tt), (8, .ptr 1 0), (9, .ptr 3 0), (11, .int .i64 c), (17, slV giv 4), (22, .int .i64 (j : Int))]
def kT3s (c : Int) (giv : Option (List Int)) : List (Nat × SV) := [(7, .tt), (8, .ptr 1 0), (9, .ptr 3 0), (11, .int .i64 c), (17, slV giv 4)]
def kTg (sv : SV) (c : Int) (own giv : Option (List Int)) (i D : Nat) : List (Nat × SV) := [(2, sv), (7, .tt), (8, .ptr 1 0), (9, .ptr 3 0), (11, .int .i64 c), (13, slV own 4), (17, slV giv 5), (18, .int .i64 (i : Int)), (19, .int .i64 (D : Int)), (20, .ptr 6 0)]
def kTgm (sv : SV) (c : Int) (own giv : Option (List Int)) (i D m : Nat) : List (Nat × SV) := [(2, sv), (7, .tt), (8, .ptr 1 0), (9, .ptr 3 0), (11, .int .i64 c), (13, slV own 4), (17, slV giv 5), (18, .int .i64 (i : Int)), (19, .int .i64 (D : Int)), (20, .ptr 6 0), (21, .int .i64 (m : Int))]
def gL (e0 : HE) (A B : Int) (l : List Int) (giv : Option (List Int)) (W : List Int) (st kd wd vl : Int) (ch : Bool) (o : SO) : List HE := [e0, kcO A B, WO W, AOx 2 W st kd wd vl ch, slE (some l) .i64 3, slE giv .i64 3, .obj o]
def gM (e0 : HE) (A B : Int) (l : List Int) (giv : Option (List Int)) (W : List Int) (st kd wd vl : Int) (ch : Bool) (b s : Int) : Nat → List HE
  | 0 => [e0, kcO A B, WO W, AOx 2 W st kd wd vl ch, slE (some l) .i64 3, slE giv .i64 3, .obj (phO A B 6 (.g1 b 0))]
  | 1 => [e0, kcO A B, WO W, AOx 2 W (st + 1) 1 (3 + classV A B b) s false, slE (some l) .i64 3, slE giv .i64 3, .obj (phO A B 6 (.g2 b s))]
  | 2 => [e0, kcO A B, WO (W.set (bkP A B b).toNat (s % 4294967296)), AOx 2 (W.set (bkP A B b).toNat (s % 4294967296)) (st + 1 + 1) 2 (bkP A B b) (s % 4294967296) true, slE (some l) .i64 3, slE giv .i64 3, .obj (phO A B 6 (.g3 b s))]
  | _ + 3 => [e0, kcO A B, WO ((W.set (bkP A B b).toNat (s % 4294967296)).set (3 + classV A B b).toNat (turnV s b)), AOx 2 ((W.set (bkP A B b).toNat (s % 4294967296)).set (3 + classV A B b).toNat (turnV s b)) (st + 1 + 1 + 1) 3 (3 + classV A B b) (turnV s b) true, slE (some l) .i64 3, slE giv .i64 3, .obj (dnG A B b s)]
def okS (A B c : Int) (t : Nat) (W : List Int) (st : Int) (own rest : List Int) : Prop := (0 ≤ st ∧ st ≤ 30 + (t : Int)) ∧ PS A B c t W own rest

/-- Behind the loop's head. -/
def dnLp : List KI → List KI
  | [] => []
  | .lp _ :: k => k
  | _ :: k => dnLp k
theorem and1 (x : Int) : 0 ≤ ibits .and .i64 x 1 ∧ ibits .and .i64 x 1 ≤ 1 := andB (m := 1) x 1 (by decide) (by decide)
namespace kw
section
variable {A B c N : Int} {z : List Int} {cap : Nat} {ad : Option Addr} {ρ : Nat → Nat × Nat} {w : World} {x : SK} {own giv : Option (List Int)} {t : Nat}
set_option maxHeartbeats 16000000 in
theorem lp3n (ht : t ≤ 60) (h : ∃ own, okS A B c t x.W x.st own (lst none).reverse) : SS (hXPk A B true) (At ρ w) (Is .tt [zO z]) ⟨[], [], Try.f5, Try.f5.ntmps, [zO z], contF Try.f5 34 [], kT3s c none, kH1 (zO z) A B x none⟩ := by
  obtain ⟨own0, hs0, hp0⟩ := h
  have hgl : (lst none).length ≤ 10 := by have := hp0.rest_le; simpa using this
  have hsub : IntKind.i64.wrap (((lst none).length : Int) - 1) = ((lst none).length : Int) - 1 := wi64 (by omega) (by omega)
  dsimp only [kT3s, kH1, slV, slE]
  refine sxb (hXPk A B true) [.l] [] 4000 rfl (by first | exact trivial | simp [conjP]) ?_
  refine ss_sub (hXPk A B true) (T' := kT3 c none (lst none).length) (H' := kH1 (zO z) A B x none) [0, 1, 2, 3, 4] rfl rfl rfl rfl ?tt (by (((repeat' (first | exact rfl | exact trivial | exact sim_refl _ | exact subE_same rfl ren_slE | exact sim_slV rfl | assumption | (simp [lst]; done) | (simp [lst]; omega) | refine And.intro ?_ ?_)); done))) (by (repeat' (first | exact rfl | exact trivial | exact sim_refl _ | refine And.intro ?_ ?_))) (by (((repeat' (first | exact rfl | exact trivial | exact okE_slE | exact okP_slV rfl | refine And.intro ?_ ?_)); done))) ?_
  case tt => exact ⟨by (repeat' (first | exact rfl | exact trivial | exact sim_refl _ | refine And.intro ?_ ?_)), by (repeat' (first | exact rfl | exact trivial | exact sim_refl _ | refine And.intro ?_ ?_)), by (repeat' (first | exact rfl | exact trivial | exact sim_refl _ | refine And.intro ?_ ?_)), by (repeat' (first | exact rfl | exact trivial | exact sim_refl _ | refine And.intro ?_ ?_)), by (repeat' (first | exact rfl | exact trivial | exact sim_refl _ | refine And.intro ?_ ?_)), ⟨rfl, hsub⟩, trivial⟩
  refine ss_loop (hXPk A B true) (fun q : Nat × SK => kT3 c none q.1) (fun q => kH1 (zO z) A B q.2 none) (fun q => q.1 ≤ (lst none).length ∧ ∃ (t : Nat) (own : List Int), t + 3 * q.1 ≤ 100 ∧ okS A B c t q.2.W q.2.st own ((lst none).take q.1).reverse) (fun q => q.1) ((lst none).length, x) ⟨Nat.le_refl _, t, own0, by simp only; omega, by simpa using ⟨hs0, hp0⟩⟩ ?_
  rintro ⟨j, ⟨W, st, kd, wd, vl, ch⟩⟩ ⟨hj, t, own, ht, hs, hp⟩ I back
  dsimp only at hj ht hs hp
  obtain ⟨hr, hl, bd, hA, hB⟩ := hp.facts
  have hc := hp.1
  have hst0 : 0 ≤ st := hs.1
  have hst2 := hs.2
  have hst1 : st < 900000 := by omega
  rcases j with _ | j
  · have hn : ¬ ((0 : Nat) : Int) - 1 ≥ 0 := by omega
    have hp' : PS A B c t W own [] := by simpa using hp
    have hq := (ps_none hp').1
    refine ss_sw (hXPk A B true) (sw_ss (hXPk A B false) (cs := []) ?_)
    have hXk := hXPk A B false
    dsimp only [kT3, kH1, slV, slE]
    refine sx hXk [] 4000 rfl (by (simp [-List.getD_eq_getElem?_getD, -List.length_eq_zero_iff, conjP] <;> (first | omega | ((repeat' (refine And.intro ?_ ?_)) <;> (first | omega | exact decide_eq_false (by omega) | exact decide_eq_true (by omega)))))) ?_
    refine sx hXk [.F] 4000 rfl (by (simp [-List.getD_eq_getElem?_getD, -List.length_eq_zero_iff, conjP, hr, hl, hst0, hst1, bd, hc, hq] <;> (first | omega | ((repeat' (refine And.intro ?_ ?_)) <;> (first | omega | exact decide_eq_false (by omega) | exact decide_eq_true (by omega)))))) ?_
    (exact ss_end hXk [0] rfl rfl trivial rfl rfl rfl rfl (by (repeat' (first | exact rfl | exact trivial | exact sim_refl _ | refine And.intro ?_ ?_))) (by (repeat' (first | exact rfl | exact trivial | exact sim_refl _ | refine And.intro ?_ ?_))) (by (repeat' (first | exact rfl | exact trivial | exact sim_refl _ | refine And.intro ?_ ?_))) (by (repeat' (first | exact rfl | exact trivial | exact sim_refl _ | refine And.intro ?_ ?_))))
  · simp [lst] at hj
set_option maxHeartbeats 16000000 in
theorem lp3s {g : List Int} (ht : t ≤ 60) (h : ∃ own, okS A B c t x.W x.st own (lst (some g)).reverse) : SS (hXPk A B true) (At ρ w) (Is .tt [zO z]) ⟨[], [], Try.f5, Try.f5.ntmps, [zO z], contF Try.f5 34 [], kT3s c (some g), kH1 (zO z) A B x (some g)⟩ := by
  obtain ⟨own0, hs0, hp0⟩ := h
  have hgl : (lst (some g)).length ≤ 10 := by have := hp0.rest_le; simpa using this
  have hsub : IntKind.i64.wrap (((lst (some g)).length : Int) - 1) = ((lst (some g)).length : Int) - 1 := wi64 (by omega) (by omega)
  dsimp only [kT3s, kH1, slV, slE]
  refine sxb (hXPk A B true) [.l] [] 4000 rfl (by first | exact trivial | simp [conjP]) ?_
  refine ss_sub (hXPk A B true) (T' := kT3 c (some g) (lst (some g)).length) (H' := kH1 (zO z) A B x (some g)) [0, 1, 2, 3, 4] rfl rfl rfl rfl ?tt (by (((repeat' (first | exact rfl | exact trivial | exact sim_refl _ | exact subE_same rfl ren_slE | exact sim_slV rfl | assumption | (simp [lst]; done) | (simp [lst]; omega) | refine And.intro ?_ ?_)); done))) (by (repeat' (first | exact rfl | exact trivial | exact sim_refl _ | refine And.intro ?_ ?_))) (by (((repeat' (first | exact rfl | exact trivial | exact okE_slE | exact okP_slV rfl | refine And.intro ?_ ?_)); done))) ?_
  case tt => exact ⟨by (repeat' (first | exact rfl | exact trivial | exact sim_refl _ | refine And.intro ?_ ?_)), by (repeat' (first | exact rfl | exact trivial | exact sim_refl _ | refine And.intro ?_ ?_)), by (repeat' (first | exact rfl | exact trivial | exact sim_refl _ | refine And.intro ?_ ?_)), by (repeat' (first | exact rfl | exact trivial | exact sim_refl _ | refine And.intro ?_ ?_)), by (repeat' (first | exact rfl | exact trivial | exact sim_refl _ | refine And.intro ?_ ?_)), ⟨rfl, hsub⟩, trivial⟩
  refine ss_loop (hXPk A B true) (fun q : Nat × SK => kT3 c (some g) q.1) (fun q => kH1 (zO z) A B q.2 (some g)) (fun q => q.1 ≤ (lst (some g)).length ∧ ∃ (t : Nat) (own : List Int), t + 3 * q.1 ≤ 100 ∧ okS A B c t q.2.W q.2.st own ((lst (some g)).take q.1).reverse) (fun q => q.1) ((lst (some g)).length, x) ⟨Nat.le_refl _, t, own0, by simp only; omega, by simpa using ⟨hs0, hp0⟩⟩ ?_
  rintro ⟨j, ⟨W, st, kd, wd, vl, ch⟩⟩ ⟨hj, t, own, ht, hs, hp⟩ I back
  dsimp only at hj ht hs hp
  obtain ⟨hr, hl, bd, hA, hB⟩ := hp.facts
  have hc := hp.1
  have hst0 : 0 ≤ st := hs.1
  have hst2 := hs.2
  have hst1 : st < 900000 := by omega
  rcases j with _ | j
  · have hn : ¬ ((0 : Nat) : Int) - 1 ≥ 0 := by omega
    have hp' : PS A B c t W own [] := by simpa using hp
    have hq := (ps_none hp').1
    refine ss_sw (hXPk A B true) (sw_ss (hXPk A B false) (cs := []) ?_)
    have hXk := hXPk A B false
    dsimp only [kT3, kH1, slV, slE]
    refine sx hXk [] 4000 rfl (by (simp [-List.getD_eq_getElem?_getD, -List.length_eq_zero_iff, conjP] <;> (first | omega | ((repeat' (refine And.intro ?_ ?_)) <;> (first | omega | exact decide_eq_false (by omega) | exact decide_eq_true (by omega)))))) ?_
    refine sx hXk [.F] 4000 rfl (by (simp [-List.getD_eq_getElem?_getD, -List.length_eq_zero_iff, conjP, hr, hl, hst0, hst1, bd, hc, hq] <;> (first | omega | ((repeat' (refine And.intro ?_ ?_)) <;> (first | omega | exact decide_eq_false (by omega) | exact decide_eq_true (by omega)))))) ?_
    (exact ss_end hXk [0] rfl rfl trivial rfl rfl rfl rfl (by (repeat' (first | exact rfl | exact trivial | exact sim_refl _ | refine And.intro ?_ ?_))) (by (repeat' (first | exact rfl | exact trivial | exact sim_refl _ | refine And.intro ?_ ?_))) (by (repeat' (first | exact rfl | exact trivial | exact sim_refl _ | refine And.intro ?_ ?_))) (by (repeat' (first | exact rfl | exact trivial | exact sim_refl _ | refine And.intro ?_ ?_))))
  · have hj' : j < g.length := by simp [lst] at hj; omega
    have hj2 : (j : Int) < (g.length : Int) := by omega
    have hp2 : PS A B c t W own (g.getD j 0 :: (g.take j).reverse) := by rw [← take_rev hj']; exact hp
    obtain ⟨e1, e2, e3, hp3⟩ := ps_take hp2 (by omega) rfl
    have hok : okS A B c (t + 3) _ (st + 1 + 1 + 1) _ _ := ⟨⟨by omega, by omega⟩, hp3⟩
    have e2' : classV A B (g.getD j 0) = c := by rw [← e1]; exact e2
    have hgl' : g.length ≤ 10 := hgl
    have hn : ((j : Nat) : Int) ≥ 0 := by omega
    have hw : IntKind.i64.wrap ((j : Int) - 1) = (j : Int) - 1 := wi64 (by omega) (by omega)
    refine ss_sub (hXPk A B true) (T' := kT3j c (some g) j) (H' := kH1 (zO z) A B ⟨W, st, kd, wd, vl, ch⟩ (some g)) [0, 1, 2, 3, 4] rfl rfl rfl rfl ?tt (by (((repeat' (first | exact rfl | exact trivial | exact sim_refl _ | exact subE_same rfl ren_slE | exact sim_slV rfl | assumption | (simp [lst]; done) | (simp [lst]; omega) | refine And.intro ?_ ?_)); done))) (by (repeat' (first | exact rfl | exact trivial | exact sim_refl _ | refine And.intro ?_ ?_))) (by (((repeat' (first | exact rfl | exact trivial | exact okE_slE | exact okP_slV rfl | refine And.intro ?_ ?_)); done))) ?_
    case tt => exact ⟨by (repeat' (first | exact rfl | exact trivial | exact sim_refl _ | refine And.intro ?_ ?_)), by (repeat' (first | exact rfl | exact trivial | exact sim_refl _ | refine And.intro ?_ ?_)), by (repeat' (first | exact rfl | exact trivial | exact sim_refl _ | refine And.intro ?_ ?_)), by (repeat' (first | exact rfl | exact trivial | exact sim_refl _ | refine And.intro ?_ ?_)), by (repeat' (first | exact rfl | exact trivial | exact sim_refl _ | refine And.intro ?_ ?_)), ⟨rfl, by omega⟩, trivial⟩
    have hXk := hXPk A B true
    dsimp only [kT3j, kH1, slV, slE]
    refine sx hXk [] 4000 rfl (by (simp [-List.getD_eq_getElem?_getD, -List.length_eq_zero_iff, conjP] <;> (first | omega | ((repeat' (refine And.intro ?_ ?_)) <;> (first | omega | exact decide_eq_false (by omega) | exact decide_eq_true (by omega)))))) ?_
    refine sx hXk [.T] 4000 rfl (by (simp [-List.getD_eq_getElem?_getD, -List.length_eq_zero_iff, conjP, getH, HE.so, hr, hl, hst0, hst1, bd, hc, hn, hj', hj2, e1, e2', cellOff] <;> (first | omega | ((repeat' (refine And.intro ?_ ?_)) <;> (first | omega | exact decide_eq_false (by omega) | exact decide_eq_true (by omega)))))) ?_
    refine sx hXk [.F] 4000 rfl (by (simp [-List.getD_eq_getElem?_getD, -List.length_eq_zero_iff, conjP, addOP, e1, cellOff] <;> (first | omega | ((repeat' (refine And.intro ?_ ?_)) <;> (first | omega | exact decide_eq_false (by omega) | exact decide_eq_true (by omega)))))) ?_
    (refine' back (j, ⟨_, st + 1 + 1 + 1, _, _, _, _⟩) ⟨?i1, t + 3, _, ?i2, hok⟩ ?i6 _ _ _ (sub_of [0, 1, 2, 3, 4] rfl rfl rfl rfl ?tt ?hh (by (repeat' (first | exact rfl | exact trivial | exact sim_refl _ | refine And.intro ?_ ?_))) (by (((repeat' (first | exact rfl | exact trivial | exact okE_slE | exact okP_slV rfl | refine And.intro ?_ ?_)); done)))); (case tt => exact ⟨by (repeat' (first | exact rfl | exact trivial | exact sim_refl _ | refine And.intro ?_ ?_)), by (repeat' (first | exact rfl | exact trivial | exact sim_refl _ | refine And.intro ?_ ?_)), by (repeat' (first | exact rfl | exact trivial | exact sim_refl _ | refine And.intro ?_ ?_)), by (repeat' (first | exact rfl | exact trivial | exact sim_refl _ | refine And.intro ?_ ?_)), by (repeat' (first | exact rfl | exact trivial | exact sim_refl _ | refine And.intro ?_ ?_)), ⟨rfl, hw⟩, trivial⟩); (case hh => (((repeat' (first | exact rfl | exact trivial | exact sim_refl _ | exact subE_same rfl ren_slE | exact sim_slV rfl | assumption | (simp [lst]; done) | (simp [lst]; omega) | refine And.intro ?_ ?_)); done))); (case i1 => simp [lst]; omega); (case i2 => simp only; omega); (case i6 => simp only; omega))
set_option maxHeartbeats 16000000 in
theorem gv3n {l : List Int} {i D t : Nat} {I : Act → World → Prop} {W : List Int} {st kd wd vl : Int} {ch : Bool} (hzl : z.length ≤ 9223372036854775807) (hi1 : i < z.length) {b s : Int} (hb : l.getD D 0 = b) (hbb : -9223372036854775808 ≤ b ∧ b < 9223372036854775808) (hln : l.length ≤ 10) (hgl : (lst none).length ≤ 10) (ht : t + 3 * l.length ≤ 60) (hDl : D < l.length) (hok : okS A B c (t + 3) W st (l.take D ++ l.drop (D + 1)) (lst none ++ [b]).reverse)
    (back : ∀ y : Option (List Int) × Option (List Int) × SK, (∃ t : Nat, t + 3 * (lst y.1).length ≤ 60 ∧ okS A B c t y.2.2.W y.2.2.st (lst y.1) (lst y.2.1).reverse) → ∀ cs T H, Sub (FEnv Try.prog (XPk A B true).TE (hXPk A B true).te Try.f5 Try.f5.ntmps [zO z] (Is .tt [zO z]) ρ w) T H (kT2 (.slice 0 0 z.length cap) c y.1 y.2.1 (i + 1)) (kH2 (zO z) A B y.2.2 y.1 y.2.1) → SS (hXPk A B true) (At ρ w) (Is .tt [zO z]) ⟨cs, [], Try.f5, Try.f5.ntmps, [zO z], .lp I :: dnLp (contF Try.f5 22 [I]), T, H⟩) :
    SS (hXPk A B true) (At ρ w) (Is .tt [zO z]) ⟨[], [], Try.f5, Try.f5.ntmps, [zO z], contF Try.f5 30 [I], kTg (.slice 0 0 z.length cap) c (some l) none i D, gL (zO z) A B l none W st kd wd vl ch (dnG A B b s)⟩ := by
  have hD2 : (D : Int) < (l.length : Int) := by omega
  have hwD : IntKind.i64.wrap ((D : Int) + 1) = ((D + 1 : Nat) : Int) := by rw [wi64 (by omega) (by omega)]; omega
  have hwi : IntKind.i64.wrap ((i : Int) + 1) = ((i + 1 : Nat) : Int) := by rw [wi64 (by omega) (by omega)]; omega
  have htk : List.take (l.length - (D + 1)) (List.drop (D + 1) l) = List.drop (D + 1) l := List.take_of_length_le (by simp)
  have hXk := hXPk A B true
  have hgl2 : True := trivial
  dsimp only [kTg, gL, dnG, gvO, slV, slE]
  refine sx hXk [] 4000 rfl (by (simp [-List.getD_eq_getElem?_getD, -List.length_eq_zero_iff, conjP, getH, HE.so, hDl, hD2, hwD, hb, mulS_eq, cellOff] <;> (first | omega | ((repeat' (refine And.intro ?_ ?_)) <;> (first | omega | exact decide_eq_false (by omega) | exact decide_eq_true (by omega)))))) ?_
  ((simp only [Int.toNat_natCast, hwD, mulS_eq, cellOff, Nat.mul_one, Int.toNat_zero, List.take_zero, List.drop_zero, List.nil_append, Nat.sub_zero, Nat.zero_add, htk, hb]); refine' back (some (l.take D ++ l.drop (D + 1)), some (lst none ++ [b]), ⟨_, st, _, _, _, _⟩) ⟨t + 3, ?i1, hok⟩ _ _ _ (sub_of [0, 1, 2, 3, 11, 8] rfl rfl rfl rfl ?tt ?hh (by (repeat' (first | exact rfl | exact trivial | exact sim_refl _ | refine And.intro ?_ ?_))) ?ok); (case tt => exact ⟨by (repeat' (first | exact rfl | exact trivial | exact sim_refl _ | refine And.intro ?_ ?_)), by (repeat' (first | exact rfl | exact trivial | exact sim_refl _ | refine And.intro ?_ ?_)), by (repeat' (first | exact rfl | exact trivial | exact sim_refl _ | refine And.intro ?_ ?_)), by (repeat' (first | exact rfl | exact trivial | exact sim_refl _ | refine And.intro ?_ ?_)), by (repeat' (first | exact rfl | exact trivial | exact sim_refl _ | refine And.intro ?_ ?_)), by (((repeat' (first | exact rfl | exact trivial | exact sim_refl _ | exact subE_same rfl ren_slE | exact sim_slV rfl | assumption | (simp [lst]; done) | (simp [lst]; omega) | refine And.intro ?_ ?_)); done)), by (((repeat' (first | exact rfl | exact trivial | exact sim_refl _ | exact subE_same rfl ren_slE | exact sim_slV rfl | assumption | (simp [lst]; done) | (simp [lst]; omega) | refine And.intro ?_ ?_)); done)), ⟨rfl, hwi⟩, trivial⟩); (case hh => (((repeat' (first | exact rfl | exact trivial | exact sim_refl _ | exact subE_same rfl ren_slE | exact sim_slV rfl | assumption | (simp [lst]; done) | (simp [lst]; omega) | refine And.intro ?_ ?_)); done))); (case ok => (((repeat' (first | exact rfl | exact trivial | exact okE_slE | exact okP_slV rfl | refine And.intro ?_ ?_)); done))); (case i1 => simp [lst]; omega))
set_option maxHeartbeats 16000000 in
theorem gv2n {l : List Int} {i D t : Nat} {I : Act → World → Prop} {W : List Int} {st kd wd vl : Int} {ch : Bool} (hzl : z.length ≤ 9223372036854775807) (hi1 : i < z.length) (ht : t + 3 * l.length ≤ 60) (hs : 0 ≤ st ∧ st ≤ 30 + (t : Int)) (hp : PS A B c t W l (lst none).reverse) (hDl : D < l.length) {b s : Int} (hb : l.getD D 0 = b) (hsx : W.getD (3 + classV A B b).toNat 0 = s)
    (back : ∀ y : Option (List Int) × Option (List Int) × SK, (∃ t : Nat, t + 3 * (lst y.1).length ≤ 60 ∧ okS A B c t y.2.2.W y.2.2.st (lst y.1) (lst y.2.1).reverse) → ∀ cs T H, Sub (FEnv Try.prog (XPk A B true).TE (hXPk A B true).te Try.f5 Try.f5.ntmps [zO z] (Is .tt [zO z]) ρ w) T H (kT2 (.slice 0 0 z.length cap) c y.1 y.2.1 (i + 1)) (kH2 (zO z) A B y.2.2 y.1 y.2.1) → SS (hXPk A B true) (At ρ w) (Is .tt [zO z]) ⟨cs, [], Try.f5, Try.f5.ntmps, [zO z], .lp I :: dnLp (contF Try.f5 22 [I]), T, H⟩) :
    SS (hXPk A B true) (At ρ w) (Is .tt [zO z]) ⟨[], [], Try.f5, Try.f5.ntmps, [zO z], contF Try.f5 26 [I], kTg (.slice 0 0 z.length cap) c (some l) none i D, gM (zO z) A B l none W st kd wd vl ch b s 0⟩ := by
  have hln : l.length ≤ 10 := hp.own_le
  have hgl : (lst none).length ≤ 10 := by have := hp.rest_le; simpa using this
  obtain ⟨hr, hl, bd, hA, hB⟩ := hp.facts
  have hc := hp.1
  have hst0 : 0 ≤ st := hs.1
  have hst2 := hs.2
  have hst1 : st < 900000 := by omega
  obtain ⟨f1, f2, f3, hp3⟩ := ps_give hp (by omega) hDl hb hsx
  have hok : okS A B c (t + 3) _ (st + 1 + 1 + 1) (l.take D ++ l.drop (D + 1)) (lst none ++ [b]).reverse := ⟨⟨by omega, by omega⟩, by simpa [lst] using hp3⟩
  have hsb : 0 ≤ s ∧ s < 18446744073709551616 := by rw [← hsx]; exact bd _
  have bd1 : ∀ j, 0 ≤ (W.set (bkP A B b).toNat (s % 4294967296)).getD j 0 ∧ (W.set (bkP A B b).toNat (s % 4294967296)).getD j 0 < 18446744073709551616 := fun j => by
    rw [set_getD]; split
    · omega
    · exact bd j
  have hl1 : ((W.set (bkP A B b).toNat (s % 4294967296)).length : Int) = 16 + A * 5 + B * 7 := by rw [List.length_set]; exact hl
  have hXk := hXPk A B true
  refine sxb hXk [.l] [] 4000 rfl (by first | exact trivial | simp [conjP]) ?_
  refine ss_sub hXk (T' := kTgm (.slice 0 0 z.length cap) c (some l) none i D 0) (H' := gM (zO z) A B l none W st kd wd vl ch b s 0) [0, 1, 2, 3, 4, 5, 6] rfl rfl rfl rfl (by (((repeat' (first | exact rfl | exact trivial | exact sim_refl _ | exact subE_same rfl ren_slE | exact sim_slV rfl | assumption | (simp [lst]; done) | (simp [lst]; omega) | refine And.intro ?_ ?_)); done))) (by (((repeat' (first | exact rfl | exact trivial | exact sim_refl _ | exact subE_same rfl ren_slE | exact sim_slV rfl | assumption | (simp [lst]; done) | (simp [lst]; omega) | refine And.intro ?_ ?_)); done))) (by (((repeat' (first | exact rfl | exact trivial | exact okE_slE | exact okP_slV rfl | refine And.intro ?_ ?_)); done))) (by (((repeat' (first | exact rfl | exact trivial | exact okE_slE | exact okP_slV rfl | refine And.intro ?_ ?_)); done))) ?_
  refine ss_loop hXk (fun m => kTgm (.slice 0 0 z.length cap) c (some l) none i D m) (fun m => gM (zO z) A B l none W st kd wd vl ch b s m) (fun m => m ≤ 3) (fun m => 3 - m) 0 (by decide) ?_
  rintro m hm I' back'
  have ewm : IntKind.i64.wrap ((m : Int) + 1) = ((m + 1 : Nat) : Int) := by rw [wi64 (by omega) (by omega)]; omega
  rcases m with _ | _ | _ | m
  · dsimp only [kTgm, gM, gvO, phO, slV, slE]
    refine sx hXk [] 4000 rfl (by (simp [-List.getD_eq_getElem?_getD, -List.length_eq_zero_iff, conjP] <;> (first | omega | ((repeat' (refine And.intro ?_ ?_)) <;> (first | omega | exact decide_eq_false (by omega) | exact decide_eq_true (by omega)))))) ?_
    refine sx hXk [.T] 4000 rfl (by (simp [-List.getD_eq_getElem?_getD, -List.length_eq_zero_iff, conjP, hr, hst0, f1, bd, hl, gvO, phO] <;> (first | omega | ((repeat' (refine And.intro ?_ ?_)) <;> (first | omega | exact decide_eq_false (by omega) | exact decide_eq_true (by omega)))))) ?_
    (refine' back' 1 (by omega) (by omega) _ _ _ (sub_of [0, 1, 2, 3, 4, 5, 6] rfl rfl rfl rfl ?tt ?hh (by (repeat' (first | exact rfl | exact trivial | exact sim_refl _ | refine And.intro ?_ ?_))) (by (((repeat' (first | exact rfl | exact trivial | exact okE_slE | exact okP_slV rfl | refine And.intro ?_ ?_)); done)))); (case tt => exact ⟨by (repeat' (first | exact rfl | exact trivial | exact sim_refl _ | refine And.intro ?_ ?_)), by (repeat' (first | exact rfl | exact trivial | exact sim_refl _ | refine And.intro ?_ ?_)), by (repeat' (first | exact rfl | exact trivial | exact sim_refl _ | refine And.intro ?_ ?_)), by (repeat' (first | exact rfl | exact trivial | exact sim_refl _ | refine And.intro ?_ ?_)), by (repeat' (first | exact rfl | exact trivial | exact sim_refl _ | refine And.intro ?_ ?_)), by (((repeat' (first | exact rfl | exact trivial | exact sim_refl _ | exact subE_same rfl ren_slE | exact sim_slV rfl | assumption | (simp [lst]; done) | (simp [lst]; omega) | refine And.intro ?_ ?_)); done)), by (((repeat' (first | exact rfl | exact trivial | exact sim_refl _ | exact subE_same rfl ren_slE | exact sim_slV rfl | assumption | (simp [lst]; done) | (simp [lst]; omega) | refine And.intro ?_ ?_)); done)), by (repeat' (first | exact rfl | exact trivial | exact sim_refl _ | refine And.intro ?_ ?_)), by (repeat' (first | exact rfl | exact trivial | exact sim_refl _ | refine And.intro ?_ ?_)), by (repeat' (first | exact rfl | exact trivial | exact sim_refl _ | refine And.intro ?_ ?_)), ⟨rfl, ewm⟩, trivial⟩); (case hh => (try simp only [hsx]); (((repeat' (first | exact rfl | exact trivial | exact sim_refl _ | exact subE_same rfl ren_slE | exact sim_slV rfl | assumption | (simp [lst]; done) | (simp [lst]; omega) | refine And.intro ?_ ?_)); done))))
  · dsimp only [kTgm, gM, gvO, phO, slV, slE]
    refine sx hXk [] 4000 rfl (by (simp [-List.getD_eq_getElem?_getD, -List.length_eq_zero_iff, conjP] <;> (first | omega | ((repeat' (refine And.intro ?_ ?_)) <;> (first | omega | exact decide_eq_false (by omega) | exact decide_eq_true (by omega)))))) ?_
    refine sx hXk [.T] 4000 rfl (by (simp [-List.getD_eq_getElem?_getD, -List.length_eq_zero_iff, conjP, hr, f1, hsb, bd, hl, gvO, phO] <;> (first | omega | ((repeat' (refine And.intro ?_ ?_)) <;> (first | omega | exact decide_eq_false (by omega) | exact decide_eq_true (by omega)))))) ?_
    (refine' back' 2 (by omega) (by omega) _ _ _ (sub_of [0, 1, 2, 3, 4, 5, 6] rfl rfl rfl rfl ?tt ?hh (by (repeat' (first | exact rfl | exact trivial | exact sim_refl _ | refine And.intro ?_ ?_))) (by (((repeat' (first | exact rfl | exact trivial | exact okE_slE | exact okP_slV rfl | refine And.intro ?_ ?_)); done)))); (case tt => exact ⟨by (repeat' (first | exact rfl | exact trivial | exact sim_refl _ | refine And.intro ?_ ?_)), by (repeat' (first | exact rfl | exact trivial | exact sim_refl _ | refine And.intro ?_ ?_)), by (repeat' (first | exact rfl | exact trivial | exact sim_refl _ | refine And.intro ?_ ?_)), by (repeat' (first | exact rfl | exact trivial | exact sim_refl _ | refine And.intro ?_ ?_)), by (repeat' (first | exact rfl | exact trivial | exact sim_refl _ | refine And.intro ?_ ?_)), by (((repeat' (first | exact rfl | exact trivial | exact sim_refl _ | exact subE_same rfl ren_slE | exact sim_slV rfl | assumption | (simp [lst]; done) | (simp [lst]; omega) | refine And.intro ?_ ?_)); done)), by (((repeat' (first | exact rfl | exact trivial | exact sim_refl _ | exact subE_same rfl ren_slE | exact sim_slV rfl | assumption | (simp [lst]; done) | (simp [lst]; omega) | refine And.intro ?_ ?_)); done)), by (repeat' (first | exact rfl | exact trivial | exact sim_refl _ | refine And.intro ?_ ?_)), by (repeat' (first | exact rfl | exact trivial | exact sim_refl _ | refine And.intro ?_ ?_)), by (repeat' (first | exact rfl | exact trivial | exact sim_refl _ | refine And.intro ?_ ?_)), ⟨rfl, ewm⟩, trivial⟩); (case hh => (try simp only [hsx]); (((repeat' (first | exact rfl | exact trivial | exact sim_refl _ | exact subE_same rfl ren_slE | exact sim_slV rfl | assumption | (simp [lst]; done) | (simp [lst]; omega) | refine And.intro ?_ ?_)); done))))
  · dsimp only [kTgm, gM, gvO, phO, slV, slE]
    refine sx hXk [] 4000 rfl (by (simp [-List.getD_eq_getElem?_getD, -List.length_eq_zero_iff, conjP] <;> (first | omega | ((repeat' (refine And.intro ?_ ?_)) <;> (first | omega | exact decide_eq_false (by omega) | exact decide_eq_true (by omega)))))) ?_
    refine sx hXk [.T] 4000 rfl (by (simp [-List.getD_eq_getElem?_getD, -List.length_eq_zero_iff, conjP, hr, f1, hsb, bd1, f3, gvO, phO] <;> (first | omega | ((repeat' (refine And.intro ?_ ?_)) <;> (first | omega | exact decide_eq_false (by omega) | exact decide_eq_true (by omega)))))) ?_
    (refine' back' 3 (by omega) (by omega) _ _ _ (sub_of [0, 1, 2, 3, 4, 5, 6] rfl rfl rfl rfl ?tt ?hh (by (repeat' (first | exact rfl | exact trivial | exact sim_refl _ | refine And.intro ?_ ?_))) (by (((repeat' (first | exact rfl | exact trivial | exact okE_slE | exact okP_slV rfl | refine And.intro ?_ ?_)); done)))); (case tt => exact ⟨by (repeat' (first | exact rfl | exact trivial | exact sim_refl _ | refine And.intro ?_ ?_)), by (repeat' (first | exact rfl | exact trivial | exact sim_refl _ | refine And.intro ?_ ?_)), by (repeat' (first | exact rfl | exact trivial | exact sim_refl _ | refine And.intro ?_ ?_)), by (repeat' (first | exact rfl | exact trivial | exact sim_refl _ | refine And.intro ?_ ?_)), by (repeat' (first | exact rfl | exact trivial | exact sim_refl _ | refine And.intro ?_ ?_)), by (((repeat' (first | exact rfl | exact trivial | exact sim_refl _ | exact subE_same rfl ren_slE | exact sim_slV rfl | assumption | (simp [lst]; done) | (simp [lst]; omega) | refine And.intro ?_ ?_)); done)), by (((repeat' (first | exact rfl | exact trivial | exact sim_refl _ | exact subE_same rfl ren_slE | exact sim_slV rfl | assumption | (simp [lst]; done) | (simp [lst]; omega) | refine And.intro ?_ ?_)); done)), by (repeat' (first | exact rfl | exact trivial | exact sim_refl _ | refine And.intro ?_ ?_)), by (repeat' (first | exact rfl | exact trivial | exact sim_refl _ | refine And.intro ?_ ?_)), by (repeat' (first | exact rfl | exact trivial | exact sim_refl _ | refine And.intro ?_ ?_)), ⟨rfl, ewm⟩, trivial⟩); (case hh => (try simp only [hsx]); (((repeat' (first | exact rfl | exact trivial | exact sim_refl _ | exact subE_same rfl ren_slE | exact sim_slV rfl | assumption | (simp [lst]; done) | (simp [lst]; omega) | refine And.intro ?_ ?_)); done))))
  · have h3 : m = 0 := by omega
    subst h3
    dsimp only [kTgm, gM, dnG, gvO, slV, slE]
    refine sxb hXk [.r 30] [] 4000 rfl (by (simp [-List.getD_eq_getElem?_getD, -List.length_eq_zero_iff, conjP] <;> (first | omega | ((repeat' (refine And.intro ?_ ?_)) <;> (first | omega | exact decide_eq_false (by omega) | exact decide_eq_true (by omega)))))) ?_
    refine sxb hXk [.r 30] [.F] 4000 rfl (by (simp [-List.getD_eq_getElem?_getD, -List.length_eq_zero_iff, conjP, addOP] <;> (first | omega | ((repeat' (refine And.intro ?_ ?_)) <;> (first | omega | exact decide_eq_false (by omega) | exact decide_eq_true (by omega)))))) ?_
    (refine ss_sub hXk (T' := kTg (.slice 0 0 z.length cap) c (some l) none i D) (H' := gL (zO z) A B l none _ (st + 1 + 1 + 1) _ _ _ _ (dnG A B b s)) [0, 1, 2, 3, 4, 5, 6] rfl rfl rfl rfl (by (((repeat' (first | exact rfl | exact trivial | exact sim_refl _ | exact subE_same rfl ren_slE | exact sim_slV rfl | assumption | (simp [lst]; done) | (simp [lst]; omega) | refine And.intro ?_ ?_)); done))) (by (((repeat' (first | exact rfl | exact trivial | exact sim_refl _ | exact subE_same rfl ren_slE | exact sim_slV rfl | assumption | (simp [lst]; done) | (simp [lst]; omega) | refine And.intro ?_ ?_)); done))) (by (((repeat' (first | exact rfl | exact trivial | exact okE_slE | exact okP_slV rfl | refine And.intro ?_ ?_)); done))) (by (((repeat' (first | exact rfl | exact trivial | exact okE_slE | exact okP_slV rfl | refine And.intro ?_ ?_)); done))) ?_; exact gv3n hzl hi1 hb (by omega) hln hgl ht hDl hok back)
set_option maxHeartbeats 16000000 in
theorem given {l : List Int} {i D t : Nat} {I : Act → World → Prop} {W : List Int} {st kd wd vl : Int} {ch : Bool} (hzl : z.length ≤ 9223372036854775807) (hi1 : i < z.length) (ht : t + 3 * l.length ≤ 60) (hs : 0 ≤ st ∧ st ≤ 30 + (t : Int)) (hp : PS A B c t W l (lst none).reverse) (hDl : D < l.length)
    (back : ∀ y : Option (List Int) × Option (List Int) × SK, (∃ t : Nat, t + 3 * (lst y.1).length ≤ 60 ∧ okS A B c t y.2.2.W y.2.2.st (lst y.1) (lst y.2.1).reverse) → ∀ cs T H, Sub (FEnv Try.prog (XPk A B true).TE (hXPk A B true).te Try.f5 Try.f5.ntmps [zO z] (Is .tt [zO z]) ρ w) T H (kT2 (.slice 0 0 z.length cap) c y.1 y.2.1 (i + 1)) (kH2 (zO z) A B y.2.2 y.1 y.2.1) → SS (hXPk A B true) (At ρ w) (Is .tt [zO z]) ⟨cs, [], Try.f5, Try.f5.ntmps, [zO z], .lp I :: dnLp (contF Try.f5 22 [I]), T, H⟩) :
    SS (hXPk A B true) (At ρ w) (Is .tt [zO z]) ⟨[], [], Try.f5, Try.f5.ntmps, [zO z], contF Try.f5 25 [I], kT2d (.slice 0 0 z.length cap) c (some l) none i D, kH2 (zO z) A B ⟨W, st, kd, wd, vl, ch⟩ (some l) none⟩ := by
  have hln : l.length ≤ 10 := hp.own_le
  obtain ⟨hr, hl, bd, hA, hB⟩ := hp.facts
  have hc := hp.1
  have hst0 : 0 ≤ st := hs.1
  have hst2 := hs.2
  have hst1 : st < 900000 := by omega
  obtain ⟨f1, f2, f3, hp3⟩ := ps_give hp (by omega) hDl rfl rfl
  have hD2 : (D : Int) < (l.length : Int) := by omega
  have hXk := hXPk A B true
  dsimp only [kT2d, kH2, slV, slE]
  refine sxb hXk [.r 26] [] 4000 rfl (by (simp [-List.getD_eq_getElem?_getD, -List.length_eq_zero_iff, conjP] <;> (first | omega | ((repeat' (refine And.intro ?_ ?_)) <;> (first | omega | exact decide_eq_false (by omega) | exact decide_eq_true (by omega)))))) ?_
  refine sxb hXk [.r 26] [.F] 4000 rfl (by (simp [-List.getD_eq_getElem?_getD, -List.length_eq_zero_iff, conjP, getH, HE.so, hr, f2, hDl, hD2, classF, cellOff] <;> (first | omega | ((repeat' (refine And.intro ?_ ?_)) <;> (first | omega | exact decide_eq_false (by omega) | exact decide_eq_true (by omega)))))) ?_
  ((simp only [Int.toNat_natCast, classF, cellOff]); refine ss_sub hXk (T' := kTg (.slice 0 0 z.length cap) c (some l) none i D) (H' := gM (zO z) A B l none W st kd wd vl ch (l.getD D 0) (W.getD (3 + classV A B (l.getD D 0)).toNat 0) 0) [0, 1, 2, 3, 4, 5, 7] rfl rfl rfl rfl (by (((repeat' (first | exact rfl | exact trivial | exact sim_refl _ | exact subE_same rfl ren_slE | exact sim_slV rfl | assumption | (simp [lst]; done) | (simp [lst]; omega) | refine And.intro ?_ ?_)); done))) (by (((repeat' (first | exact rfl | exact trivial | exact sim_refl _ | exact subE_same rfl ren_slE | exact sim_slV rfl | assumption | (simp [lst]; done) | (simp [lst]; omega) | refine And.intro ?_ ?_)); done))) (by (((repeat' (first | exact rfl | exact trivial | exact okE_slE | exact okP_slV rfl | refine And.intro ?_ ?_)); done))) (by (((repeat' (first | exact rfl | exact trivial | exact okE_slE | exact okP_slV rfl | refine And.intro ?_ ?_)); done))) ?_; exact gv2n hzl hi1 ht hs hp hDl rfl rfl back)
set_option maxHeartbeats 16000000 in
theorem gv3s {g : List Int} {l : List Int} {i D t : Nat} {I : Act → World → Prop} {W : List Int} {st kd wd vl : Int} {ch : Bool} (hzl : z.length ≤ 9223372036854775807) (hi1 : i < z.length) {b s : Int} (hb : l.getD D 0 = b) (hbb : -9223372036854775808 ≤ b ∧ b < 9223372036854775808) (hln : l.length ≤ 10) (hgl : (lst (some g)).length ≤ 10) (ht : t + 3 * l.length ≤ 60) (hDl : D < l.length) (hok : okS A B c (t + 3) W st (l.take D ++ l.drop (D + 1)) (lst (some g) ++ [b]).reverse)
    (back : ∀ y : Option (List Int) × Option (List Int) × SK, (∃ t : Nat, t + 3 * (lst y.1).length ≤ 60 ∧ okS A B c t y.2.2.W y.2.2.st (lst y.1) (lst y.2.1).reverse) → ∀ cs T H, Sub (FEnv Try.prog (XPk A B true).TE (hXPk A B true).te Try.f5 Try.f5.ntmps [zO z] (Is .tt [zO z]) ρ w) T H (kT2 (.slice 0 0 z.length cap) c y.1 y.2.1 (i + 1)) (kH2 (zO z) A B y.2.2 y.1 y.2.1) → SS (hXPk A B true) (At ρ w) (Is .tt [zO z]) ⟨cs, [], Try.f5, Try.f5.ntmps, [zO z], .lp I :: dnLp (contF Try.f5 22 [I]), T, H⟩) :
    SS (hXPk A B true) (At ρ w) (Is .tt [zO z]) ⟨[], [], Try.f5, Try.f5.ntmps, [zO z], contF Try.f5 30 [I], kTg (.slice 0 0 z.length cap) c (some l) (some g) i D, gL (zO z) A B l (some g) W st kd wd vl ch (dnG A B b s)⟩ := by
  have hD2 : (D : Int) < (l.length : Int) := by omega
  have hwD : IntKind.i64.wrap ((D : Int) + 1) = ((D + 1 : Nat) : Int) := by rw [wi64 (by omega) (by omega)]; omega
  have hwi : IntKind.i64.wrap ((i : Int) + 1) = ((i + 1 : Nat) : Int) := by rw [wi64 (by omega) (by omega)]; omega
  have htk : List.take (l.length - (D + 1)) (List.drop (D + 1) l) = List.drop (D + 1) l := List.take_of_length_le (by simp)
  have hXk := hXPk A B true
  have hgl2 : g.length ≤ 10 := hgl
  dsimp only [kTg, gL, dnG, gvO, slV, slE]
  refine sx hXk [] 4000 rfl (by (simp [-List.getD_eq_getElem?_getD, -List.length_eq_zero_iff, conjP, getH, HE.so, hDl, hD2, hwD, hb, mulS_eq, cellOff] <;> (first | omega | ((repeat' (refine And.intro ?_ ?_)) <;> (first | omega | exact decide_eq_false (by omega) | exact decide_eq_true (by omega)))))) ?_
  ((simp only [Int.toNat_natCast, hwD, mulS_eq, cellOff, Nat.mul_one, Int.toNat_zero, List.take_zero, List.drop_zero, List.nil_append, Nat.sub_zero, Nat.zero_add, htk, hb]); refine' back (some (l.take D ++ l.drop (D + 1)), some (lst (some g) ++ [b]), ⟨_, st, _, _, _, _⟩) ⟨t + 3, ?i1, hok⟩ _ _ _ (sub_of [0, 1, 2, 3, 11, 8] rfl rfl rfl rfl ?tt ?hh (by (repeat' (first | exact rfl | exact trivial | exact sim_refl _ | refine And.intro ?_ ?_))) ?ok); (case tt => exact ⟨by (repeat' (first | exact rfl | exact trivial | exact sim_refl _ | refine And.intro ?_ ?_)), by (repeat' (first | exact rfl | exact trivial | exact sim_refl _ | refine And.intro ?_ ?_)), by (repeat' (first | exact rfl | exact trivial | exact sim_refl _ | refine And.intro ?_ ?_)), by (repeat' (first | exact rfl | exact trivial | exact sim_refl _ | refine And.intro ?_ ?_)), by (repeat' (first | exact rfl | exact trivial | exact sim_refl _ | refine And.intro ?_ ?_)), by (((repeat' (first | exact rfl | exact trivial | exact sim_refl _ | exact subE_same rfl ren_slE | exact sim_slV rfl | assumption | (simp [lst]; done) | (simp [lst]; omega) | refine And.intro ?_ ?_)); done)), by (((repeat' (first | exact rfl | exact trivial | exact sim_refl _ | exact subE_same rfl ren_slE | exact sim_slV rfl | assumption | (simp [lst]; done) | (simp [lst]; omega) | refine And.intro ?_ ?_)); done)), ⟨rfl, hwi⟩, trivial⟩); (case hh => (((repeat' (first | exact rfl | exact trivial | exact sim_refl _ | exact subE_same rfl ren_slE | exact sim_slV rfl | assumption | (simp [lst]; done) | (simp [lst]; omega) | refine And.intro ?_ ?_)); done))); (case ok => (((repeat' (first | exact rfl | exact trivial | exact okE_slE | exact okP_slV rfl | refine And.intro ?_ ?_)); done))); (case i1 => simp [lst]; omega))
set_option maxHeartbeats 16000000 in
theorem gv2s {g : List Int} {l : List Int} {i D t : Nat} {I : Act → World → Prop} {W : List Int} {st kd wd vl : Int} {ch : Bool} (hzl : z.length ≤ 9223372036854775807) (hi1 : i < z.length) (ht : t + 3 * l.length ≤ 60) (hs : 0 ≤ st ∧ st ≤ 30 + (t : Int)) (hp : PS A B c t W l (lst (some g)).reverse) (hDl : D < l.length) {b s : Int} (hb : l.getD D 0 = b) (hsx : W.getD (3 + classV A B b).toNat 0 = s)
    (back : ∀ y : Option (List Int) × Option (List Int) × SK, (∃ t : Nat, t + 3 * (lst y.1).length ≤ 60 ∧ okS A B c t y.2.2.W y.2.2.st (lst y.1) (lst y.2.1).reverse) → ∀ cs T H, Sub (FEnv Try.prog (XPk A B true).TE (hXPk A B true).te Try.f5 Try.f5.ntmps [zO z] (Is .tt [zO z]) ρ w) T H (kT2 (.slice 0 0 z.length cap) c y.1 y.2.1 (i + 1)) (kH2 (zO z) A B y.2.2 y.1 y.2.1) → SS (hXPk A B true) (At ρ w) (Is .tt [zO z]) ⟨cs, [], Try.f5, Try.f5.ntmps, [zO z], .lp I :: dnLp (contF Try.f5 22 [I]), T, H⟩) :
    SS (hXPk A B true) (At ρ w) (Is .tt [zO z]) ⟨[], [], Try.f5, Try.f5.ntmps, [zO z], contF Try.f5 26 [I], kTg (.slice 0 0 z.length cap) c (some l) (some g) i D, gM (zO z) A B l (some g) W st kd wd vl ch b s 0⟩ := by
  have hln : l.length ≤ 10 := hp.own_le
  have hgl : (lst (some g)).length ≤ 10 := by have := hp.rest_le; simpa using this
  obtain ⟨hr, hl, bd, hA, hB⟩ := hp.facts
  have hc := hp.1
  have hst0 : 0 ≤ st := hs.1
  have hst2 := hs.2
  have hst1 : st < 900000 := by omega
  obtain ⟨f1, f2, f3, hp3⟩ := ps_give hp (by omega) hDl hb hsx
  have hok : okS A B c (t + 3) _ (st + 1 + 1 + 1) (l.take D ++ l.drop (D + 1)) (lst (some g) ++ [b]).reverse := ⟨⟨by omega, by omega⟩, by simpa [lst] using hp3⟩
  have hsb : 0 ≤ s ∧ s < 18446744073709551616 := by rw [← hsx]; exact bd _
  have bd1 : ∀ j, 0 ≤ (W.set (bkP A B b).toNat (s % 4294967296)).getD j 0 ∧ (W.set (bkP A B b).toNat (s % 4294967296)).getD j 0 < 18446744073709551616 := fun j => by
    rw [set_getD]; split
    · omega
    · exact bd j
  have hl1 : ((W.set (bkP A B b).toNat (s % 4294967296)).length : Int) = 16 + A * 5 + B * 7 := by rw [List.length_set]; exact hl
  have hXk := hXPk A B true
  refine sxb hXk [.l] [] 4000 rfl (by first | exact trivial | simp [conjP]) ?_
  refine ss_sub hXk (T' := kTgm (.slice 0 0 z.length cap) c (some l) (some g) i D 0) (H' := gM (zO z) A B l (some g) W st kd wd vl ch b s 0) [0, 1, 2, 3, 4, 5, 6] rfl rfl rfl rfl (by (((repeat' (first | exact rfl | exact trivial | exact sim_refl _ | exact subE_same rfl ren_slE | exact sim_slV rfl | assumption | (simp [lst]; done) | (simp [lst]; omega) | refine And.intro ?_ ?_)); done))) (by (((repeat' (first | exact rfl | exact trivial | exact sim_refl _ | exact subE_same rfl ren_slE | exact sim_slV rfl | assumption | (simp [lst]; done) | (simp [lst]; omega) | refine And.intro ?_ ?_)); done))) (by (((repeat' (first | exact rfl | exact trivial | exact okE_slE | exact okP_slV rfl | refine And.intro ?_ ?_)); done))) (by (((repeat' (first | exact rfl | exact trivial | exact okE_slE | exact okP_slV rfl | refine And.intro ?_ ?_)); done))) ?_
  refine ss_loop hXk (fun m => kTgm (.slice 0 0 z.length cap) c (some l) (some g) i D m) (fun m => gM (zO z) A B l (some g) W st kd wd vl ch b s m) (fun m => m ≤ 3) (fun m => 3 - m) 0 (by decide) ?_
  rintro m hm I' back'
  have ewm : IntKind.i64.wrap ((m : Int) + 1) = ((m + 1 : Nat) : Int) := by rw [wi64 (by omega) (by omega)]; omega
  rcases m with _ | _ | _ | m
  · dsimp only [kTgm, gM, gvO, phO, slV, slE]
    refine sx hXk [] 4000 rfl (by (simp [-List.getD_eq_getElem?_getD, -List.length_eq_zero_iff, conjP] <;> (first | omega | ((repeat' (refine And.intro ?_ ?_)) <;> (first | omega | exact decide_eq_false (by omega) | exact decide_eq_true (by omega)))))) ?_
    refine sx hXk [.T] 4000 rfl (by (simp [-List.getD_eq_getElem?_getD, -List.length_eq_zero_iff, conjP, hr, hst0, f1, bd, hl, gvO, phO] <;> (first | omega | ((repeat' (refine And.intro ?_ ?_)) <;> (first | omega | exact decide_eq_false (by omega) | exact decide_eq_true (by omega)))))) ?_
    (refine' back' 1 (by omega) (by omega) _ _ _ (sub_of [0, 1, 2, 3, 4, 5, 6] rfl rfl rfl rfl ?tt ?hh (by (repeat' (first | exact rfl | exact trivial | exact sim_refl _ | refine And.intro ?_ ?_))) (by (((repeat' (first | exact rfl | exact trivial | exact okE_slE | exact okP_slV rfl | refine And.intro ?_ ?_)); done)))); (case tt => exact ⟨by (repeat' (first | exact rfl | exact trivial | exact sim_refl _ | refine And.intro ?_ ?_)), by (repeat' (first | exact rfl | exact trivial | exact sim_refl _ | refine And.intro ?_ ?_)), by (repeat' (first | exact rfl | exact trivial | exact sim_refl _ | refine And.intro ?_ ?_)), by (repeat' (first | exact rfl | exact trivial | exact sim_refl _ | refine And.intro ?_ ?_)), by (repeat' (first | exact rfl | exact trivial | exact sim_refl _ | refine And.intro ?_ ?_)), by (((repeat' (first | exact rfl | exact trivial | exact sim_refl _ | exact subE_same rfl ren_slE | exact sim_slV rfl | assumption | (simp [lst]; done) | (simp [lst]; omega) | refine And.intro ?_ ?_)); done)), by (((repeat' (first | exact rfl | exact trivial | exact sim_refl _ | exact subE_same rfl ren_slE | exact sim_slV rfl | assumption | (simp [lst]; done) | (simp [lst]; omega) | refine And.intro ?_ ?_)); done)), by (repeat' (first | exact rfl | exact trivial | exact sim_refl _ | refine And.intro ?_ ?_)), by (repeat' (first | exact rfl | exact trivial | exact sim_refl _ | refine And.intro ?_ ?_)), by (repeat' (first | exact rfl | exact trivial | exact sim_refl _ | refine And.intro ?_ ?_)), ⟨rfl, ewm⟩, trivial⟩); (case hh => (try simp only [hsx]); (((repeat' (first | exact rfl | exact trivial | exact sim_refl _ | exact subE_same rfl ren_slE | exact sim_slV rfl | assumption | (simp [lst]; done) | (simp [lst]; omega) | refine And.intro ?_ ?_)); done))))
  · dsimp only [kTgm, gM, gvO, phO, slV, slE]
    refine sx hXk [] 4000 rfl (by (simp [-List.getD_eq_getElem?_getD, -List.length_eq_zero_iff, conjP] <;> (first | omega | ((repeat' (refine And.intro ?_ ?_)) <;> (first | omega | exact decide_eq_false (by omega) | exact decide_eq_true (by omega)))))) ?_
    refine sx hXk [.T] 4000 rfl (by (simp [-List.getD_eq_getElem?_getD, -List.length_eq_zero_iff, conjP, hr, f1, hsb, bd, hl, gvO, phO] <;> (first | omega | ((repeat' (refine And.intro ?_ ?_)) <;> (first | omega | exact decide_eq_false (by omega) | exact decide_eq_true (by omega)))))) ?_
    (refine' back' 2 (by omega) (by omega) _ _ _ (sub_of [0, 1, 2, 3, 4, 5, 6] rfl rfl rfl rfl ?tt ?hh (by (repeat' (first | exact rfl | exact trivial | exact sim_refl _ | refine And.intro ?_ ?_))) (by (((repeat' (first | exact rfl | exact trivial | exact okE_slE | exact okP_slV rfl | refine And.intro ?_ ?_)); done)))); (case tt => exact ⟨by (repeat' (first | exact rfl | exact trivial | exact sim_refl _ | refine And.intro ?_ ?_)), by (repeat' (first | exact rfl | exact trivial | exact sim_refl _ | refine And.intro ?_ ?_)), by (repeat' (first | exact rfl | exact trivial | exact sim_refl _ | refine And.intro ?_ ?_)), by (repeat' (first | exact rfl | exact trivial | exact sim_refl _ | refine And.intro ?_ ?_)), by (repeat' (first | exact rfl | exact trivial | exact sim_refl _ | refine And.intro ?_ ?_)), by (((repeat' (first | exact rfl | exact trivial | exact sim_refl _ | exact subE_same rfl ren_slE | exact sim_slV rfl | assumption | (simp [lst]; done) | (simp [lst]; omega) | refine And.intro ?_ ?_)); done)), by (((repeat' (first | exact rfl | exact trivial | exact sim_refl _ | exact subE_same rfl ren_slE | exact sim_slV rfl | assumption | (simp [lst]; done) | (simp [lst]; omega) | refine And.intro ?_ ?_)); done)), by (repeat' (first | exact rfl | exact trivial | exact sim_refl _ | refine And.intro ?_ ?_)), by (repeat' (first | exact rfl | exact trivial | exact sim_refl _ | refine And.intro ?_ ?_)), by (repeat' (first | exact rfl | exact trivial | exact sim_refl _ | refine And.intro ?_ ?_)), ⟨rfl, ewm⟩, trivial⟩); (case hh => (try simp only [hsx]); (((repeat' (first | exact rfl | exact trivial | exact sim_refl _ | exact subE_same rfl ren_slE | exact sim_slV rfl | assumption | (simp [lst]; done) | (simp [lst]; omega) | refine And.intro ?_ ?_)); done))))
  · dsimp only [kTgm, gM, gvO, phO, slV, slE]
    refine sx hXk [] 4000 rfl (by (simp [-List.getD_eq_getElem?_getD, -List.length_eq_zero_iff, conjP] <;> (first | omega | ((repeat' (refine And.intro ?_ ?_)) <;> (first | omega | exact decide_eq_false (by omega) | exact decide_eq_true (by omega)))))) ?_
    refine sx hXk [.T] 4000 rfl (by (simp [-List.getD_eq_getElem?_getD, -List.length_eq_zero_iff, conjP, hr, f1, hsb, bd1, f3, gvO, phO] <;> (first | omega | ((repeat' (refine And.intro ?_ ?_)) <;> (first | omega | exact decide_eq_false (by omega) | exact decide_eq_true (by omega)))))) ?_
    (refine' back' 3 (by omega) (by omega) _ _ _ (sub_of [0, 1, 2, 3, 4, 5, 6] rfl rfl rfl rfl ?tt ?hh (by (repeat' (first | exact rfl | exact trivial | exact sim_refl _ | refine And.intro ?_ ?_))) (by (((repeat' (first | exact rfl | exact trivial | exact okE_slE | exact okP_slV rfl | refine And.intro ?_ ?_)); done)))); (case tt => exact ⟨by (repeat' (first | exact rfl | exact trivial | exact sim_refl _ | refine And.intro ?_ ?_)), by (repeat' (first | exact rfl | exact trivial | exact sim_refl _ | refine And.intro ?_ ?_)), by (repeat' (first | exact rfl | exact trivial | exact sim_refl _ | refine And.intro ?_ ?_)), by (repeat' (first | exact rfl | exact trivial | exact sim_refl _ | refine And.intro ?_ ?_)), by (repeat' (first | exact rfl | exact trivial | exact sim_refl _ | refine And.intro ?_ ?_)), by (((repeat' (first | exact rfl | exact trivial | exact sim_refl _ | exact subE_same rfl ren_slE | exact sim_slV rfl | assumption | (simp [lst]; done) | (simp [lst]; omega) | refine And.intro ?_ ?_)); done)), by (((repeat' (first | exact rfl | exact trivial | exact sim_refl _ | exact subE_same rfl ren_slE | exact sim_slV rfl | assumption | (simp [lst]; done) | (simp [lst]; omega) | refine And.intro ?_ ?_)); done)), by (repeat' (first | exact rfl | exact trivial | exact sim_refl _ | refine And.intro ?_ ?_)), by (repeat' (first | exact rfl | exact trivial | exact sim_refl _ | refine And.intro ?_ ?_)), by (repeat' (first | exact rfl | exact trivial | exact sim_refl _ | refine And.intro ?_ ?_)), ⟨rfl, ewm⟩, trivial⟩); (case hh => (try simp only [hsx]); (((repeat' (first | exact rfl | exact trivial | exact sim_refl _ | exact subE_same rfl ren_slE | exact sim_slV rfl | assumption | (simp [lst]; done) | (simp [lst]; omega) | refine And.intro ?_ ?_)); done))))
  · have h3 : m = 0 := by omega
    subst h3
    dsimp only [kTgm, gM, dnG, gvO, slV, slE]
    refine sxb hXk [.r 30] [] 4000 rfl (by (simp [-List.getD_eq_getElem?_getD, -List.length_eq_zero_iff, conjP] <;> (first | omega | ((repeat' (refine And.intro ?_ ?_)) <;> (first | omega | exact decide_eq_false (by omega) | exact decide_eq_true (by omega)))))) ?_
    refine sxb hXk [.r 30] [.F] 4000 rfl (by (simp [-List.getD_eq_getElem?_getD, -List.length_eq_zero_iff, conjP, addOP] <;> (first | omega | ((repeat' (refine And.intro ?_ ?_)) <;> (first | omega | exact decide_eq_false (by omega) | exact decide_eq_true (by omega)))))) ?_
    (refine ss_sub hXk (T' := kTg (.slice 0 0 z.length cap) c (some l) (some g) i D) (H' := gL (zO z) A B l (some g) _ (st + 1 + 1 + 1) _ _ _ _ (dnG A B b s)) [0, 1, 2, 3, 4, 5, 6] rfl rfl rfl rfl (by (((repeat' (first | exact rfl | exact trivial | exact sim_refl _ | exact subE_same rfl ren_slE | exact sim_slV rfl | assumption | (simp [lst]; done) | (simp [lst]; omega) | refine And.intro ?_ ?_)); done))) (by (((repeat' (first | exact rfl | exact trivial | exact sim_refl _ | exact subE_same rfl ren_slE | exact sim_slV rfl | assumption | (simp [lst]; done) | (simp [lst]; omega) | refine And.intro ?_ ?_)); done))) (by (((repeat' (first | exact rfl | exact trivial | exact okE_slE | exact okP_slV rfl | refine And.intro ?_ ?_)); done))) (by (((repeat' (first | exact rfl | exact trivial | exact okE_slE | exact okP_slV rfl | refine And.intro ?_ ?_)); done))) ?_; exact gv3s hzl hi1 hb (by omega) hln hgl ht hDl hok back)
set_option maxHeartbeats 16000000 in
theorem gives {g : List Int} {l : List Int} {i D t : Nat} {I : Act → World → Prop} {W : List Int} {st kd wd vl : Int} {ch : Bool} (hzl : z.length ≤ 9223372036854775807) (hi1 : i < z.length) (ht : t + 3 * l.length ≤ 60) (hs : 0 ≤ st ∧ st ≤ 30 + (t : Int)) (hp : PS A B c t W l (lst (some g)).reverse) (hDl : D < l.length)
    (back : ∀ y : Option (List Int) × Option (List Int) × SK, (∃ t : Nat, t + 3 * (lst y.1).length ≤ 60 ∧ okS A B c t y.2.2.W y.2.2.st (lst y.1) (lst y.2.1).reverse) → ∀ cs T H, Sub (FEnv Try.prog (XPk A B true).TE (hXPk A B true).te Try.f5 Try.f5.ntmps [zO z] (Is .tt [zO z]) ρ w) T H (kT2 (.slice 0 0 z.length cap) c y.1 y.2.1 (i + 1)) (kH2 (zO z) A B y.2.2 y.1 y.2.1) → SS (hXPk A B true) (At ρ w) (Is .tt [zO z]) ⟨cs, [], Try.f5, Try.f5.ntmps, [zO z], .lp I :: dnLp (contF Try.f5 22 [I]), T, H⟩) :
    SS (hXPk A B true) (At ρ w) (Is .tt [zO z]) ⟨[], [], Try.f5, Try.f5.ntmps, [zO z], contF Try.f5 25 [I], kT2d (.slice 0 0 z.length cap) c (some l) (some g) i D, kH2 (zO z) A B ⟨W, st, kd, wd, vl, ch⟩ (some l) (some g)⟩ := by
  have hln : l.length ≤ 10 := hp.own_le
  obtain ⟨hr, hl, bd, hA, hB⟩ := hp.facts
  have hc := hp.1
  have hst0 : 0 ≤ st := hs.1
  have hst2 := hs.2
  have hst1 : st < 900000 := by omega
  obtain ⟨f1, f2, f3, hp3⟩ := ps_give hp (by omega) hDl rfl rfl
  have hD2 : (D : Int) < (l.length : Int) := by omega
  have hXk := hXPk A B true
  dsimp only [kT2d, kH2, slV, slE]
  refine sxb hXk [.r 26] [] 4000 rfl (by (simp [-List.getD_eq_getElem?_getD, -List.length_eq_zero_iff, conjP] <;> (first | omega | ((repeat' (refine And.intro ?_ ?_)) <;> (first | omega | exact decide_eq_false (by omega) | exact decide_eq_true (by omega)))))) ?_
  refine sxb hXk [.r 26] [.F] 4000 rfl (by (simp [-List.getD_eq_getElem?_getD, -List.length_eq_zero_iff, conjP, getH, HE.so, hr, f2, hDl, hD2, classF, cellOff] <;> (first | omega | ((repeat' (refine And.intro ?_ ?_)) <;> (first | omega | exact decide_eq_false (by omega) | exact decide_eq_true (by omega)))))) ?_
  ((simp only [Int.toNat_natCast, classF, cellOff]); refine ss_sub hXk (T' := kTg (.slice 0 0 z.length cap) c (some l) (some g) i D) (H' := gM (zO z) A B l (some g) W st kd wd vl ch (l.getD D 0) (W.getD (3 + classV A B (l.getD D 0)).toNat 0) 0) [0, 1, 2, 3, 4, 5, 7] rfl rfl rfl rfl (by (((repeat' (first | exact rfl | exact trivial | exact sim_refl _ | exact subE_same rfl ren_slE | exact sim_slV rfl | assumption | (simp [lst]; done) | (simp [lst]; omega) | refine And.intro ?_ ?_)); done))) (by (((repeat' (first | exact rfl | exact trivial | exact sim_refl _ | exact subE_same rfl ren_slE | exact sim_slV rfl | assumption | (simp [lst]; done) | (simp [lst]; omega) | refine And.intro ?_ ?_)); done))) (by (((repeat' (first | exact rfl | exact trivial | exact okE_slE | exact okP_slV rfl | refine And.intro ?_ ?_)); done))) (by (((repeat' (first | exact rfl | exact trivial | exact okE_slE | exact okP_slV rfl | refine And.intro ?_ ?_)); done))) ?_; exact gv2s hzl hi1 ht hs hp hDl rfl rfl back)
set_option maxHeartbeats 16000000 in
theorem lp2 (hzl : z.length ≤ 9223372036854775807) (ht : t + 3 * (lst own).length ≤ 60) (h : okS A B c t x.W x.st (lst own) []) : SS (hXPk A B true) (At ρ w) (Is .tt [zO z]) ⟨[], [], Try.f5, Try.f5.ntmps, [zO z], contF Try.f5 20 [], kT2s (.slice 0 0 z.length cap) c own, kH1 (zO z) A B x own⟩ := by
  refine sxb (hXPk A B true) [.l] [] 4000 rfl (by first | exact trivial | simp [conjP]) ?_
  refine ss_sub (hXPk A B true) (T' := kT2 (.slice 0 0 z.length cap) c own none 0) (H' := kH2 (zO z) A B x own none) [0, 1, 2, 3, 4, 9] rfl rfl rfl rfl (by (((repeat' (first | exact rfl | exact trivial | exact sim_refl _ | exact subE_same rfl ren_slE | exact sim_slV rfl | assumption | (simp [lst]; done) | (simp [lst]; omega) | refine And.intro ?_ ?_)); done))) (by (((repeat' (first | exact rfl | exact trivial | exact sim_refl _ | exact subE_same rfl ren_slE | exact sim_slV rfl | assumption | (simp [lst]; done) | (simp [lst]; omega) | refine And.intro ?_ ?_)); done))) (by (((repeat' (first | exact rfl | exact trivial | exact okE_slE | exact okP_slV rfl | refine And.intro ?_ ?_)); done))) (by (((repeat' (first | exact rfl | exact trivial | exact okE_slE | exact okP_slV rfl | refine And.intro ?_ ?_)); done))) ?_
  refine ss_loop (hXPk A B true) (fun q : Nat × Option (List Int) × Option (List Int) × SK => kT2 (.slice 0 0 z.length cap) c q.2.1 q.2.2.1 q.1) (fun q => kH2 (zO z) A B q.2.2.2 q.2.1 q.2.2.1) (fun q => q.1 ≤ z.length ∧ ∃ t : Nat, t + 3 * (lst q.2.1).length ≤ 60 ∧ okS A B c t q.2.2.2.W q.2.2.2.st (lst q.2.1) (lst q.2.2.1).reverse) (fun q => z.length - q.1) (0, own, none, x) ⟨Nat.zero_le _, t, ht, h⟩ ?_
  rintro ⟨i, own, giv, ⟨W, st, kd, wd, vl, ch⟩⟩ ⟨hi, t, ht, hs, hp⟩ I back
  dsimp only at hi ht hs hp
  by_cases hi1 : i < z.length
  · have hi2 : (i : Int) < (z.length : Int) := by omega
    rcases own with _ | l
    · have hl0 : True := trivial
      rcases giv with _ | g
      · have hXk := hXPk A B true
        dsimp only [kT2, kH2, slV, slE]
        refine sxb hXk [.r 34] [] 4000 rfl (by (simp [-List.getD_eq_getElem?_getD, -List.length_eq_zero_iff, conjP] <;> (first | omega | ((repeat' (refine And.intro ?_ ?_)) <;> (first | omega | exact decide_eq_false (by omega) | exact decide_eq_true (by omega)))))) ?_
        refine sxb hXk [.r 34] [.T] 4000 rfl (by (simp [-List.getD_eq_getElem?_getD, -List.length_eq_zero_iff, conjP, addOP, hi2] <;> (first | omega | ((repeat' (refine And.intro ?_ ?_)) <;> (first | omega | exact decide_eq_false (by omega) | exact decide_eq_true (by omega)))))) ?_
        refine sxb hXk [.r 34] [.F] 4000 rfl (by (simp [-List.getD_eq_getElem?_getD, -List.length_eq_zero_iff, conjP, addOP] <;> (first | omega | ((repeat' (refine And.intro ?_ ?_)) <;> (first | omega | exact decide_eq_false (by omega) | exact decide_eq_true (by omega)))))) ?_
        (refine ss_sub hXk (T' := kT3s c none) (H' := kH1 (zO z) A B ⟨W, st, kd, wd, vl, ch⟩ none) [0, 1, 2, 3, 5] rfl rfl rfl rfl (by (repeat' (first | exact rfl | exact trivial | exact sim_refl _ | refine And.intro ?_ ?_))) (by (((repeat' (first | exact rfl | exact trivial | exact sim_refl _ | exact subE_same rfl ren_slE | exact sim_slV rfl | assumption | (simp [lst]; done) | (simp [lst]; omega) | refine And.intro ?_ ?_)); done))) (by (repeat' (first | exact rfl | exact trivial | exact sim_refl _ | refine And.intro ?_ ?_))) (by (((repeat' (first | exact rfl | exact trivial | exact okE_slE | exact okP_slV rfl | refine And.intro ?_ ?_)); done))) ?_; exact lp3n (t := t) (by omega) ⟨_, hs, hp⟩)
      · have hXk := hXPk A B true
        dsimp only [kT2, kH2, slV, slE]
        refine sxb hXk [.r 34] [] 4000 rfl (by (simp [-List.getD_eq_getElem?_getD, -List.length_eq_zero_iff, conjP] <;> (first | omega | ((repeat' (refine And.intro ?_ ?_)) <;> (first | omega | exact decide_eq_false (by omega) | exact decide_eq_true (by omega)))))) ?_
        refine sxb hXk [.r 34] [.T] 4000 rfl (by (simp [-List.getD_eq_getElem?_getD, -List.length_eq_zero_iff, conjP, addOP, hi2] <;> (first | omega | ((repeat' (refine And.intro ?_ ?_)) <;> (first | omega | exact decide_eq_false (by omega) | exact decide_eq_true (by omega)))))) ?_
        refine sxb hXk [.r 34] [.F] 4000 rfl (by (simp [-List.getD_eq_getElem?_getD, -List.length_eq_zero_iff, conjP, addOP] <;> (first | omega | ((repeat' (refine And.intro ?_ ?_)) <;> (first | omega | exact decide_eq_false (by omega) | exact decide_eq_true (by omega)))))) ?_
        (refine ss_sub hXk (T' := kT3s c (some g)) (H' := kH1 (zO z) A B ⟨W, st, kd, wd, vl, ch⟩ (some g)) [0, 1, 2, 3, 5] rfl rfl rfl rfl (by (repeat' (first | exact rfl | exact trivial | exact sim_refl _ | refine And.intro ?_ ?_))) (by (((repeat' (first | exact rfl | exact trivial | exact sim_refl _ | exact subE_same rfl ren_slE | exact sim_slV rfl | assumption | (simp [lst]; done) | (simp [lst]; omega) | refine And.intro ?_ ?_)); done))) (by (repeat' (first | exact rfl | exact trivial | exact sim_refl _ | refine And.intro ?_ ?_))) (by (((repeat' (first | exact rfl | exact trivial | exact okE_slE | exact okP_slV rfl | refine And.intro ?_ ?_)); done))) ?_; exact lp3s (t := t) (by omega) ⟨_, hs, hp⟩)
    · by_cases hl0 : 0 < l.length
      · have hln : l.length ≤ 10 := hp.own_le
        have hl1 : 0 < (l.length : Int) := by omega
        have hd := cModB l.length (z.getD i 0) (by omega) (by omega)
        have hdn : (cMod l.length (z.getD i 0)).toNat < l.length := by omega
        unfold cMod at hd hdn
        obtain ⟨D, hD, hDl⟩ : ∃ D : Nat, (IntKind.i64.wrap ((z.getD i 0).tmod l.length + l.length)).tmod l.length = (D : Int) ∧ D < l.length := ⟨_, (Int.toNat_of_nonneg hd.1).symm, hdn⟩
        have bk := fun (y : Option (List Int) × Option (List Int) × SK) (hy : ∃ t : Nat, t + 3 * (lst y.1).length ≤ 60 ∧ okS A B c t y.2.2.W y.2.2.st (lst y.1) (lst y.2.1).reverse) => back (i + 1, y) ⟨by simp only; omega, hy⟩ (by simp only; omega)
        have hXk := hXPk A B true
        rcases giv with _ | g
        · dsimp only [kT2, kH2, slV, slE]
          refine sxb hXk [.r 25] [] 4000 rfl (by (simp [-List.getD_eq_getElem?_getD, -List.length_eq_zero_iff, conjP] <;> (first | omega | ((repeat' (refine And.intro ?_ ?_)) <;> (first | omega | exact decide_eq_false (by omega) | exact decide_eq_true (by omega)))))) ?_
          refine sxb hXk [.r 25] [.T] 4000 rfl (by (simp [-List.getD_eq_getElem?_getD, -List.length_eq_zero_iff, conjP, addOP, hi2] <;> (first | omega | ((repeat' (refine And.intro ?_ ?_)) <;> (first | omega | exact decide_eq_false (by omega) | exact decide_eq_true (by omega)))))) ?_
          refine sxb hXk [.r 25] [.T] 4000 rfl (by (simp [-List.getD_eq_getElem?_getD, -List.length_eq_zero_iff, conjP, hi1, hi2, hl0] <;> (first | omega | ((repeat' (refine And.intro ?_ ?_)) <;> (first | omega | exact decide_eq_false (by omega) | exact decide_eq_true (by omega)))))) ?_
          (refine ss_sub hXk (T' := kT2d (.slice 0 0 z.length cap) c (some l) none i D) (H' := kH2 (zO z) A B ⟨W, st, kd, wd, vl, ch⟩ (some l) none) [0, 1, 2, 3, 4, 5] rfl rfl rfl rfl ?tt (by (((repeat' (first | exact rfl | exact trivial | exact sim_refl _ | exact subE_same rfl ren_slE | exact sim_slV rfl | assumption | (simp [lst]; done) | (simp [lst]; omega) | refine And.intro ?_ ?_)); done))) (by (repeat' (first | exact rfl | exact trivial | exact sim_refl _ | refine And.intro ?_ ?_))) (by (((repeat' (first | exact rfl | exact trivial | exact okE_slE | exact okP_slV rfl | refine And.intro ?_ ?_)); done))) ?_; (case tt => exact ⟨by (repeat' (first | exact rfl | exact trivial | exact sim_refl _ | refine And.intro ?_ ?_)), by (repeat' (first | exact rfl | exact trivial | exact sim_refl _ | refine And.intro ?_ ?_)), by (repeat' (first | exact rfl | exact trivial | exact sim_refl _ | refine And.intro ?_ ?_)), by (repeat' (first | exact rfl | exact trivial | exact sim_refl _ | refine And.intro ?_ ?_)), by (repeat' (first | exact rfl | exact trivial | exact sim_refl _ | refine And.intro ?_ ?_)), by (repeat' (first | exact rfl | exact trivial | exact sim_refl _ | refine And.intro ?_ ?_)), by (repeat' (first | exact rfl | exact trivial | exact sim_refl _ | refine And.intro ?_ ?_)), by (repeat' (first | exact rfl | exact trivial | exact sim_refl _ | refine And.intro ?_ ?_)), ⟨rfl, by simpa [hi1] using hD⟩, trivial⟩); exact given hzl hi1 ht hs hp hDl bk)
        · dsimp only [kT2, kH2, slV, slE]
          refine sxb hXk [.r 25] [] 4000 rfl (by (simp [-List.getD_eq_getElem?_getD, -List.length_eq_zero_iff, conjP] <;> (first | omega | ((repeat' (refine And.intro ?_ ?_)) <;> (first | omega | exact decide_eq_false (by omega) | exact decide_eq_true (by omega)))))) ?_
          refine sxb hXk [.r 25] [.T] 4000 rfl (by (simp [-List.getD_eq_getElem?_getD, -List.length_eq_zero_iff, conjP, addOP, hi2] <;> (first | omega | ((repeat' (refine And.intro ?_ ?_)) <;> (first | omega | exact decide_eq_false (by omega) | exact decide_eq_true (by omega)))))) ?_
          refine sxb hXk [.r 25] [.T] 4000 rfl (by (simp [-List.getD_eq_getElem?_getD, -List.length_eq_zero_iff, conjP, hi1, hi2, hl0] <;> (first | omega | ((repeat' (refine And.intro ?_ ?_)) <;> (first | omega | exact decide_eq_false (by omega) | exact decide_eq_true (by omega)))))) ?_
          (refine ss_sub hXk (T' := kT2d (.slice 0 0 z.length cap) c (some l) (some g) i D) (H' := kH2 (zO z) A B ⟨W, st, kd, wd, vl, ch⟩ (some l) (some g)) [0, 1, 2, 3, 4, 5] rfl rfl rfl rfl ?tt (by (((repeat' (first | exact rfl | exact trivial | exact sim_refl _ | exact subE_same rfl ren_slE | exact sim_slV rfl | assumption | (simp [lst]; done) | (simp [lst]; omega) | refine And.intro ?_ ?_)); done))) (by (repeat' (first | exact rfl | exact trivial | exact sim_refl _ | refine And.intro ?_ ?_))) (by (((repeat' (first | exact rfl | exact trivial | exact okE_slE | exact okP_slV rfl | refine And.intro ?_ ?_)); done))) ?_; (case tt => exact ⟨by (repeat' (first | exact rfl | exact trivial | exact sim_refl _ | refine And.intro ?_ ?_)), by (repeat' (first | exact rfl | exact trivial | exact sim_refl _ | refine And.intro ?_ ?_)), by (repeat' (first | exact rfl | exact trivial | exact sim_refl _ | refine And.intro ?_ ?_)), by (repeat' (first | exact rfl | exact trivial | exact sim_refl _ | refine And.intro ?_ ?_)), by (repeat' (first | exact rfl | exact trivial | exact sim_refl _ | refine And.intro ?_ ?_)), by (repeat' (first | exact rfl | exact trivial | exact sim_refl _ | refine And.intro ?_ ?_)), by (repeat' (first | exact rfl | exact trivial | exact sim_refl _ | refine And.intro ?_ ?_)), by (repeat' (first | exact rfl | exact trivial | exact sim_refl _ | refine And.intro ?_ ?_)), ⟨rfl, by simpa [hi1] using hD⟩, trivial⟩); exact gives hzl hi1 ht hs hp hDl bk)
      · have hl1 : ¬ 0 < (l.length : Int) := by omega
        have hl2 : l.length = 0 := by omega
        rcases giv with _ | g
        · have hXk := hXPk A B true
          dsimp only [kT2, kH2, slV, slE]
          refine sxb hXk [.r 34] [] 4000 rfl (by (simp [-List.getD_eq_getElem?_getD, -List.length_eq_zero_iff, conjP] <;> (first | omega | ((repeat' (refine And.intro ?_ ?_)) <;> (first | omega | exact decide_eq_false (by omega) | exact decide_eq_true (by omega)))))) ?_
          refine sxb hXk [.r 34] [.T] 4000 rfl (by (simp [-List.getD_eq_getElem?_getD, -List.length_eq_zero_iff, conjP, addOP, hi2] <;> (first | omega | ((repeat' (refine And.intro ?_ ?_)) <;> (first | omega | exact decide_eq_false (by omega) | exact decide_eq_true (by omega)))))) ?_
          refine sxb hXk [.r 34] [.F] 4000 rfl (by (simp [-List.getD_eq_getElem?_getD, -List.length_eq_zero_iff, conjP, addOP, hl2] <;> (first | omega | ((repeat' (refine And.intro ?_ ?_)) <;> (first | omega | exact decide_eq_false (by omega) | exact decide_eq_true (by omega)))))) ?_
          (refine ss_sub hXk (T' := kT3s c none) (H' := kH1 (zO z) A B ⟨W, st, kd, wd, vl, ch⟩ none) [0, 1, 2, 3, 5] rfl rfl rfl rfl (by (repeat' (first | exact rfl | exact trivial | exact sim_refl _ | refine And.intro ?_ ?_))) (by (((repeat' (first | exact rfl | exact trivial | exact sim_refl _ | exact subE_same rfl ren_slE | exact sim_slV rfl | assumption | (simp [lst]; done) | (simp [lst]; omega) | refine And.intro ?_ ?_)); done))) (by (repeat' (first | exact rfl | exact trivial | exact sim_refl _ | refine And.intro ?_ ?_))) (by (((repeat' (first | exact rfl | exact trivial | exact okE_slE | exact okP_slV rfl | refine And.intro ?_ ?_)); done))) ?_; exact lp3n (t := t) (by omega) ⟨_, hs, hp⟩)
        · have hXk := hXPk A B true
          dsimp only [kT2, kH2, slV, slE]
          refine sxb hXk [.r 34] [] 4000 rfl (by (simp [-List.getD_eq_getElem?_getD, -List.length_eq_zero_iff, conjP] <;> (first | omega | ((repeat' (refine And.intro ?_ ?_)) <;> (first | omega | exact decide_eq_false (by omega) | exact decide_eq_true (by omega)))))) ?_
          refine sxb hXk [.r 34] [.T] 4000 rfl (by (simp [-List.getD_eq_getElem?_getD, -List.length_eq_zero_iff, conjP, addOP, hi2] <;> (first | omega | ((repeat' (refine And.intro ?_ ?_)) <;> (first | omega | exact decide_eq_false (by omega) | exact decide_eq_true (by omega)))))) ?_
          refine sxb hXk [.r 34] [.F] 4000 rfl (by (simp [-List.getD_eq_getElem?_getD, -List.length_eq_zero_iff, conjP, addOP, hl2] <;> (first | omega | ((repeat' (refine And.intro ?_ ?_)) <;> (first | omega | exact decide_eq_false (by omega) | exact decide_eq_true (by omega)))))) ?_
          (refine ss_sub hXk (T' := kT3s c (some g)) (H' := kH1 (zO z) A B ⟨W, st, kd, wd, vl, ch⟩ (some g)) [0, 1, 2, 3, 5] rfl rfl rfl rfl (by (repeat' (first | exact rfl | exact trivial | exact sim_refl _ | refine And.intro ?_ ?_))) (by (((repeat' (first | exact rfl | exact trivial | exact sim_refl _ | exact subE_same rfl ren_slE | exact sim_slV rfl | assumption | (simp [lst]; done) | (simp [lst]; omega) | refine And.intro ?_ ?_)); done))) (by (repeat' (first | exact rfl | exact trivial | exact sim_refl _ | refine And.intro ?_ ?_))) (by (((repeat' (first | exact rfl | exact trivial | exact okE_slE | exact okP_slV rfl | refine And.intro ?_ ?_)); done))) ?_; exact lp3s (t := t) (by omega) ⟨_, hs, hp⟩)
  · have hi2 : ¬ (i : Int) < (z.length : Int) := by omega
    rcases own with _ | l
    · have hl0 : True := trivial
      rcases giv with _ | g
      · have hXk := hXPk A B true
        dsimp only [kT2, kH2, slV, slE]
        refine sxb hXk [.r 34] [] 4000 rfl (by (simp [-List.getD_eq_getElem?_getD, -List.length_eq_zero_iff, conjP] <;> (first | omega | ((repeat' (refine And.intro ?_ ?_)) <;> (first | omega | exact decide_eq_false (by omega) | exact decide_eq_true (by omega)))))) ?_
        refine sxb hXk [.r 34] [.F] 4000 rfl (by (simp [-List.getD_eq_getElem?_getD, -List.length_eq_zero_iff, conjP, addOP, hi2] <;> (first | omega | ((repeat' (refine And.intro ?_ ?_)) <;> (first | omega | exact decide_eq_false (by omega) | exact decide_eq_true (by omega)))))) ?_
        (refine ss_sub hXk (T' := kT3s c none) (H' := kH1 (zO z) A B ⟨W, st, kd, wd, vl, ch⟩ none) [0, 1, 2, 3, 5] rfl rfl rfl rfl (by (repeat' (first | exact rfl | exact trivial | exact sim_refl _ | refine And.intro ?_ ?_))) (by (((repeat' (first | exact rfl | exact trivial | exact sim_refl _ | exact subE_same rfl ren_slE | exact sim_slV rfl | assumption | (simp [lst]; done) | (simp [lst]; omega) | refine And.intro ?_ ?_)); done))) (by (repeat' (first | exact rfl | exact trivial | exact sim_refl _ | refine And.intro ?_ ?_))) (by (((repeat' (first | exact rfl | exact trivial | exact okE_slE | exact okP_slV rfl | refine And.intro ?_ ?_)); done))) ?_; exact lp3n (t := t) (by omega) ⟨_, hs, hp⟩)
      · have hXk := hXPk A B true
        dsimp only [kT2, kH2, slV, slE]
        refine sxb hXk [.r 34] [] 4000 rfl (by (simp [-List.getD_eq_getElem?_getD, -List.length_eq_zero_iff, conjP] <;> (first | omega | ((repeat' (refine And.intro ?_ ?_)) <;> (first | omega | exact decide_eq_false (by omega) | exact decide_eq_true (by omega)))))) ?_
        refine sxb hXk [.r 34] [.F] 4000 rfl (by (simp [-List.getD_eq_getElem?_getD, -List.length_eq_zero_iff, conjP, addOP, hi2] <;> (first | omega | ((repeat' (refine And.intro ?_ ?_)) <;> (first | omega | exact decide_eq_false (by omega) | exact decide_eq_true (by omega)))))) ?_
        (refine ss_sub hXk (T' := kT3s c (some g)) (H' := kH1 (zO z) A B ⟨W, st, kd, wd, vl, ch⟩ (some g)) [0, 1, 2, 3, 5] rfl rfl rfl rfl (by (repeat' (first | exact rfl | exact trivial | exact sim_refl _ | refine And.intro ?_ ?_))) (by (((repeat' (first | exact rfl | exact trivial | exact sim_refl _ | exact subE_same rfl ren_slE | exact sim_slV rfl | assumption | (simp [lst]; done) | (simp [lst]; omega) | refine And.intro ?_ ?_)); done))) (by (repeat' (first | exact rfl | exact trivial | exact sim_refl _ | refine And.intro ?_ ?_))) (by (((repeat' (first | exact rfl | exact trivial | exact okE_slE | exact okP_slV rfl | refine And.intro ?_ ?_)); done))) ?_; exact lp3s (t := t) (by omega) ⟨_, hs, hp⟩)
    · have hl0 : True := trivial
      rcases giv with _ | g
      · have hXk := hXPk A B true
        dsimp only [kT2, kH2, slV, slE]
        refine sxb hXk [.r 34] [] 4000 rfl (by (simp [-List.getD_eq_getElem?_getD, -List.length_eq_zero_iff, conjP] <;> (first | omega | ((repeat' (refine And.intro ?_ ?_)) <;> (first | omega | exact decide_eq_false (by omega) | exact decide_eq_true (by omega)))))) ?_
        refine sxb hXk [.r 34] [.F] 4000 rfl (by (simp [-List.getD_eq_getElem?_getD, -List.length_eq_zero_iff, conjP, addOP, hi2] <;> (first | omega | ((repeat' (refine And.intro ?_ ?_)) <;> (first | omega | exact decide_eq_false (by omega) | exact decide_eq_true (by omega)))))) ?_
        (refine ss_sub hXk (T' := kT3s c none) (H' := kH1 (zO z) A B ⟨W, st, kd, wd, vl, ch⟩ none) [0, 1, 2, 3, 5] rfl rfl rfl rfl (by (repeat' (first | exact rfl | exact trivial | exact sim_refl _ | refine And.intro ?_ ?_))) (by (((repeat' (first | exact rfl | exact trivial | exact sim_refl _ | exact subE_same rfl ren_slE | exact sim_slV rfl | assumption | (simp [lst]; done) | (simp [lst]; omega) | refine And.intro ?_ ?_)); done))) (by (repeat' (first | exact rfl | exact trivial | exact sim_refl _ | refine And.intro ?_ ?_))) (by (((repeat' (first | exact rfl | exact trivial | exact okE_slE | exact okP_slV rfl | refine And.intro ?_ ?_)); done))) ?_; exact lp3n (t := t) (by omega) ⟨_, hs, hp⟩)
      · have hXk := hXPk A B true
        dsimp only [kT2, kH2, slV, slE]
        refine sxb hXk [.r 34] [] 4000 rfl (by (simp [-List.getD_eq_getElem?_getD, -List.length_eq_zero_iff, conjP] <;> (first | omega | ((repeat' (refine And.intro ?_ ?_)) <;> (first | omega | exact decide_eq_false (by omega) | exact decide_eq_true (by omega)))))) ?_
        refine sxb hXk [.r 34] [.F] 4000 rfl (by (simp [-List.getD_eq_getElem?_getD, -List.length_eq_zero_iff, conjP, addOP, hi2] <;> (first | omega | ((repeat' (refine And.intro ?_ ?_)) <;> (first | omega | exact decide_eq_false (by omega) | exact decide_eq_true (by omega)))))) ?_
        (refine ss_sub hXk (T' := kT3s c (some g)) (H' := kH1 (zO z) A B ⟨W, st, kd, wd, vl, ch⟩ (some g)) [0, 1, 2, 3, 5] rfl rfl rfl rfl (by (repeat' (first | exact rfl | exact trivial | exact sim_refl _ | refine And.intro ?_ ?_))) (by (((repeat' (first | exact rfl | exact trivial | exact sim_refl _ | exact subE_same rfl ren_slE | exact sim_slV rfl | assumption | (simp [lst]; done) | (simp [lst]; omega) | refine And.intro ?_ ?_)); done))) (by (repeat' (first | exact rfl | exact trivial | exact sim_refl _ | refine And.intro ?_ ?_))) (by (((repeat' (first | exact rfl | exact trivial | exact okE_slE | exact okP_slV rfl | refine And.intro ?_ ?_)); done))) ?_; exact lp3s (t := t) (by omega) ⟨_, hs, hp⟩)
set_option maxHeartbeats 16000000 in
theorem lp1 (hzl : z.length ≤ 9223372036854775807) {n : Nat} {m : Int} (hn : n ≤ 5) (hN : N = (n : Int)) (hm : c * A = m) (hm0 : 0 ≤ m ∧ m ≤ 5) (h : okS A B c 0 x.W x.st [] (upto (1 + m) n)) : SS (hXPk A B true) (At ρ w) (Is .tt [zO z]) ⟨[], [], Try.f5, Try.f5.ntmps, [zO z], contF Try.f5 8 [], kT1s (.slice 0 0 z.length cap) c N, kH0 (zO z) A B x⟩ := by
  subst hN
  refine sxb (hXPk A B true) [.l] [] 4000 rfl (by first | exact trivial | simp [conjP]) ?_
  refine ss_sub (hXPk A B true) (T' := kT1 (.slice 0 0 z.length cap) c n none 0) (H' := kH1 (zO z) A B x none) [0, 1, 2, 3, 9] rfl rfl rfl rfl (by (((repeat' (first | exact rfl | exact trivial | exact sim_refl _ | exact subE_same rfl ren_slE | exact sim_slV rfl | assumption | (simp [lst]; done) | (simp [lst]; omega) | refine And.intro ?_ ?_)); done))) (by (((repeat' (first | exact rfl | exact trivial | exact sim_refl _ | exact subE_same rfl ren_slE | exact sim_slV rfl | assumption | (simp [lst]; done) | (simp [lst]; omega) | refine And.intro ?_ ?_)); done))) (by (((repeat' (first | exact rfl | exact trivial | exact okE_slE | exact okP_slV rfl | refine And.intro ?_ ?_)); done))) (by (((repeat' (first | exact rfl | exact trivial | exact okE_slE | exact okP_slV rfl | refine And.intro ?_ ?_)); done))) ?_
  refine ss_loop (hXPk A B true) (fun q : Nat × Option (List Int) × SK => kT1 (.slice 0 0 z.length cap) c n q.2.1 q.1) (fun q => kH1 (zO z) A B q.2.2 q.2.1) (fun q => q.1 ≤ n + 1 ∧ ∃ t : Nat, t ≤ 3 * q.1 ∧ okS A B c t q.2.2.W q.2.2.st (lst q.2.1) (upto (1 + (q.1 : Int) + m) (n - q.1))) (fun q => n + 1 - q.1) (0, none, x) ⟨Nat.zero_le _, 0, Nat.zero_le _, by simpa [lst] using h⟩ ?_
  rintro ⟨i, own, ⟨W, st, kd, wd, vl, ch⟩⟩ ⟨hi, t, ht, hs, hp⟩ I back
  dsimp only at hi ht hs hp
  obtain ⟨hr, hl, bd, hA, hB⟩ := hp.facts
  have hc := hp.1
  have hst0 : 0 ≤ st := hs.1
  have hst2 := hs.2
  have hst1 : st < 900000 := by omega
  have hwi : IntKind.i64.wrap ((i : Int) + 1) = ((i + 1 : Nat) : Int) := by rw [wi64 (by omega) (by omega)]; omega
  have hw1 : IntKind.i64.wrap (1 + (i : Int)) = 1 + (i : Int) := wi64 (by omega) (by omega)
  have hw2 : IntKind.i64.wrap m = m := wi64 (by omega) (by omega)
  have hw3 : IntKind.i64.wrap (1 + (i : Int) + m) = 1 + (i : Int) + m := wi64 (by omega) (by omega)
  by_cases h1 : i < n
  · have hi2 : (i : Int) ≤ (n : Int) := by omega
    have hi3 : ¬ (i : Int) = (n : Int) := by omega
    have hi4 : ¬ i = n := by omega
    have hp2 : PS A B c t W (lst own) ((1 + (i : Int) + m) :: upto (1 + ((i + 1 : Nat) : Int) + m) (n - (i + 1))) := by
      have e : n - i = (n - (i + 1)) + 1 := by omega
      rw [e, upto_succ] at hp
      have e2 : 1 + (i : Int) + m + 1 = 1 + ((i + 1 : Nat) : Int) + m := by omega
      rwa [e2] at hp
    obtain ⟨e1, e2, e3, hp3⟩ := ps_take hp2 (by omega) rfl
    have hok : okS A B c (t + 3) _ (st + 1 + 1 + 1) _ _ := ⟨⟨by omega, by omega⟩, hp3⟩
    have e2' : classV A B (1 + (i : Int) + m) = c := by rw [← e1]; exact e2
    have e3' : 0 < 1 + (i : Int) + m := by omega
    have hXk := hXPk A B true
    rcases own with _ | l
    · dsimp only [kT1, kH1, slV, slE]
      refine sx hXk [] 4000 rfl (by (simp [-List.getD_eq_getElem?_getD, -List.length_eq_zero_iff, conjP] <;> (first | omega | ((repeat' (refine And.intro ?_ ?_)) <;> (first | omega | exact decide_eq_false (by omega) | exact decide_eq_true (by omega)))))) ?_
      refine sx hXk [.T] 4000 rfl (by (simp [-List.getD_eq_getElem?_getD, -List.length_eq_zero_iff, conjP, hr, hl, hst0, hst1, bd, hc, hi2, e1, e2'] <;> (first | omega | ((repeat' (refine And.intro ?_ ?_)) <;> (first | omega | exact decide_eq_false (by omega) | exact decide_eq_true (by omega)))))) ?_
      refine sx hXk [.F] 4000 rfl (by (simp [-List.getD_eq_getElem?_getD, -List.length_eq_zero_iff, conjP, addOP, hi3] <;> (first | omega | ((repeat' (refine And.intro ?_ ?_)) <;> (first | omega | exact decide_eq_false (by omega) | exact decide_eq_true (by omega)))))) ?_
      refine sx hXk [.F] 4000 rfl (by (simp [-List.getD_eq_getElem?_getD, -List.length_eq_zero_iff, conjP, addOP, hm, hw1, hw2, hw3, e1] <;> (first | omega | ((repeat' (refine And.intro ?_ ?_)) <;> (first | omega | exact decide_eq_false (by omega) | exact decide_eq_true (by omega)))))) ?_
      refine sx hXk [.T] 4000 rfl (by (simp [-List.getD_eq_getElem?_getD, -List.length_eq_zero_iff, conjP, e1, e3'] <;> (first | omega | ((repeat' (refine And.intro ?_ ?_)) <;> (first | omega | exact decide_eq_false (by omega) | exact decide_eq_true (by omega)))))) ?_
      (refine' back (i + 1, some ([W.getD (3 + c).toNat 0 % 4294967296]), ⟨_, st + 1 + 1 + 1, _, _, _, _⟩) ⟨?i1, t + 3, ?i2, hok⟩ ?i6 _ _ _ (sub_of [0, 1, 2, 3, 6] rfl rfl rfl rfl ?tt ?hh (by (repeat' (first | exact rfl | exact trivial | exact sim_refl _ | refine And.intro ?_ ?_))) ?ok); (case tt => exact ⟨by (repeat' (first | exact rfl | exact trivial | exact sim_refl _ | refine And.intro ?_ ?_)), by (repeat' (first | exact rfl | exact trivial | exact sim_refl _ | refine And.intro ?_ ?_)), by (repeat' (first | exact rfl | exact trivial | exact sim_refl _ | refine And.intro ?_ ?_)), by (repeat' (first | exact rfl | exact trivial | exact sim_refl _ | refine And.intro ?_ ?_)), by (repeat' (first | exact rfl | exact trivial | exact sim_refl _ | refine And.intro ?_ ?_)), by (((repeat' (first | exact rfl | exact trivial | exact sim_refl _ | exact subE_same rfl ren_slE | exact sim_slV rfl | assumption | (simp [lst]; done) | (simp [lst]; omega) | refine And.intro ?_ ?_)); done)), by (((repeat' (first | exact rfl | exact trivial | exact sim_refl _ | exact subE_same rfl ren_slE | exact sim_slV rfl | assumption | (simp [lst]; done) | (simp [lst]; omega) | refine And.intro ?_ ?_)); done)), ⟨rfl, hwi⟩, trivial⟩); (case hh => (((repeat' (first | exact rfl | exact trivial | exact sim_refl _ | exact subE_same rfl ren_slE | exact sim_slV rfl | assumption | (simp [lst]; done) | (simp [lst]; omega) | refine And.intro ?_ ?_)); done))); (case ok => (((repeat' (first | exact rfl | exact trivial | exact okE_slE | exact okP_slV rfl | refine And.intro ?_ ?_)); done))); (case i1 => simp only; omega); (case i2 => simp only; omega); (case i6 => simp only; omega))
    · have hln : l.length ≤ 10 := hp.own_le
      dsimp only [kT1, kH1, slV, slE]
      refine sx hXk [] 4000 rfl (by (simp [-List.getD_eq_getElem?_getD, -List.length_eq_zero_iff, conjP] <;> (first | omega | ((repeat' (refine And.intro ?_ ?_)) <;> (first | omega | exact decide_eq_false (by omega) | exact decide_eq_true (by omega)))))) ?_
      refine sx hXk [.T] 4000 rfl (by (simp [-List.getD_eq_getElem?_getD, -List.length_eq_zero_iff, conjP, hr, hl, hst0, hst1, bd, hc, hi2, e1, e2'] <;> (first | omega | ((repeat' (refine And.intro ?_ ?_)) <;> (first | omega | exact decide_eq_false (by omega) | exact decide_eq_true (by omega)))))) ?_
      refine sx hXk [.F] 4000 rfl (by (simp [-List.getD_eq_getElem?_getD, -List.length_eq_zero_iff, conjP, addOP, hi3] <;> (first | omega | ((repeat' (refine And.intro ?_ ?_)) <;> (first | omega | exact decide_eq_false (by omega) | exact decide_eq_true (by omega)))))) ?_
      refine sx hXk [.F] 4000 rfl (by (simp [-List.getD_eq_getElem?_getD, -List.length_eq_zero_iff, conjP, addOP, hm, hw1, hw2, hw3, e1] <;> (first | omega | ((repeat' (refine And.intro ?_ ?_)) <;> (first | omega | exact decide_eq_false (by omega) | exact decide_eq_true (by omega)))))) ?_
      refine sx hXk [.T] 4000 rfl (by (simp [-List.getD_eq_getElem?_getD, -List.length_eq_zero_iff, conjP, e1, e3'] <;> (first | omega | ((repeat' (refine And.intro ?_ ?_)) <;> (first | omega | exact decide_eq_false (by omega) | exact decide_eq_true (by omega)))))) ?_
      (refine' back (i + 1, some (l ++ [W.getD (3 + c).toNat 0 % 4294967296]), ⟨_, st + 1 + 1 + 1, _, _, _, _⟩) ⟨?i1, t + 3, ?i2, hok⟩ ?i6 _ _ _ (sub_of [0, 1, 2, 3, 6] rfl rfl rfl rfl ?tt ?hh (by (repeat' (first | exact rfl | exact trivial | exact sim_refl _ | refine And.intro ?_ ?_))) ?ok); (case tt => exact ⟨by (repeat' (first | exact rfl | exact trivial | exact sim_refl _ | refine And.intro ?_ ?_)), by (repeat' (first | exact rfl | exact trivial | exact sim_refl _ | refine And.intro ?_ ?_)), by (repeat' (first | exact rfl | exact trivial | exact sim_refl _ | refine And.intro ?_ ?_)), by (repeat' (first | exact rfl | exact trivial | exact sim_refl _ | refine And.intro ?_ ?_)), by (repeat' (first | exact rfl | exact trivial | exact sim_refl _ | refine And.intro ?_ ?_)), by (((repeat' (first | exact rfl | exact trivial | exact sim_refl _ | exact subE_same rfl ren_slE | exact sim_slV rfl | assumption | (simp [lst]; done) | (simp [lst]; omega) | refine And.intro ?_ ?_)); done)), by (((repeat' (first | exact rfl | exact trivial | exact sim_refl _ | exact subE_same rfl ren_slE | exact sim_slV rfl | assumption | (simp [lst]; done) | (simp [lst]; omega) | refine And.intro ?_ ?_)); done)), ⟨rfl, hwi⟩, trivial⟩); (case hh => (((repeat' (first | exact rfl | exact trivial | exact sim_refl _ | exact subE_same rfl ren_slE | exact sim_slV rfl | assumption | (simp [lst]; done) | (simp [lst]; omega) | refine And.intro ?_ ?_)); done))); (case ok => (((repeat' (first | exact rfl | exact trivial | exact okE_slE | exact okP_slV rfl | refine And.intro ?_ ?_)); done))); (case i1 => simp only; omega); (case i2 => simp only; omega); (case i6 => simp only; omega))
  · by_cases h2 : i = n
    · subst h2
      have hp2 : PS A B c t W (lst own) [] := by simpa [upto] using hp
      obtain ⟨q1, hp3⟩ := ps_none hp2
      have hz : upto (1 + ((i + 1 : Nat) : Int) + m) (i - (i + 1)) = [] := by rw [show i - (i + 1) = 0 by omega]; rfl
      rw [← hz] at hp3
      have hok : okS A B c (t + 1) _ (st + 1) _ _ := ⟨⟨by omega, by omega⟩, hp3⟩
      refine ss_sw (hXPk A B true) (sw_ss (hXPk A B false) (cs := []) ?_)
      have hXk := hXPk A B false
      rcases own with _ | l
      · dsimp only [kT1, kH1, slV, slE]
        refine sx hXk [] 4000 rfl (by (simp [-List.getD_eq_getElem?_getD, -List.length_eq_zero_iff, conjP] <;> (first | omega | ((repeat' (refine And.intro ?_ ?_)) <;> (first | omega | exact decide_eq_false (by omega) | exact decide_eq_true (by omega)))))) ?_
        refine sx hXk [.T] 4000 rfl (by (simp [-List.getD_eq_getElem?_getD, -List.length_eq_zero_iff, conjP, hr, hl, hst0, hst1, bd, hc, q1] <;> (first | omega | ((repeat' (refine And.intro ?_ ?_)) <;> (first | omega | exact decide_eq_false (by omega) | exact decide_eq_true (by omega)))))) ?_
        refine sx hXk [.T] 4000 rfl (by (simp [-List.getD_eq_getElem?_getD, -List.length_eq_zero_iff, conjP, addOP] <;> (first | omega | ((repeat' (refine And.intro ?_ ?_)) <;> (first | omega | exact decide_eq_false (by omega) | exact decide_eq_true (by omega)))))) ?_
        refine sx hXk [.F] 4000 rfl (by (simp [-List.getD_eq_getElem?_getD, -List.length_eq_zero_iff, conjP, addOP] <;> (first | omega | ((repeat' (refine And.intro ?_ ?_)) <;> (first | omega | exact decide_eq_false (by omega) | exact decide_eq_true (by omega)))))) ?_
        refine sx hXk [.F] 4000 rfl (by (simp [-List.getD_eq_getElem?_getD, -List.length_eq_zero_iff, conjP, addOP] <;> (first | omega | ((repeat' (refine And.intro ?_ ?_)) <;> (first | omega | exact decide_eq_false (by omega) | exact decide_eq_true (by omega)))))) ?_
        (refine ss_sw hXk (sw_ss (hXPk A B true) (cs := []) ?_); refine' back (i + 1, none, ⟨_, st + 1, _, _, _, _⟩) ⟨?i1, t + 1, ?i2, hok⟩ ?i6 _ _ _ (sub_of [0, 1, 2, 3, 4] rfl rfl rfl rfl ?tt ?hh (by (repeat' (first | exact rfl | exact trivial | exact sim_refl _ | refine And.intro ?_ ?_))) ?ok); (case tt => exact ⟨by (repeat' (first | exact rfl | exact trivial | exact sim_refl _ | refine And.intro ?_ ?_)), by (repeat' (first | exact rfl | exact trivial | exact sim_refl _ | refine And.intro ?_ ?_)), by (repeat' (first | exact rfl | exact trivial | exact sim_refl _ | refine And.intro ?_ ?_)), by (repeat' (first | exact rfl | exact trivial | exact sim_refl _ | refine And.intro ?_ ?_)), by (repeat' (first | exact rfl | exact trivial | exact sim_refl _ | refine And.intro ?_ ?_)), by (((repeat' (first | exact rfl | exact trivial | exact sim_refl _ | exact subE_same rfl ren_slE | exact sim_slV rfl | assumption | (simp [lst]; done) | (simp [lst]; omega) | refine And.intro ?_ ?_)); done)), by (((repeat' (first | exact rfl | exact trivial | exact sim_refl _ | exact subE_same rfl ren_slE | exact sim_slV rfl | assumption | (simp [lst]; done) | (simp [lst]; omega) | refine And.intro ?_ ?_)); done)), ⟨rfl, hwi⟩, trivial⟩); (case hh => (((repeat' (first | exact rfl | exact trivial | exact sim_refl _ | exact subE_same rfl ren_slE | exact sim_slV rfl | assumption | (simp [lst]; done) | (simp [lst]; omega) | refine And.intro ?_ ?_)); done))); (case ok => (((repeat' (first | exact rfl | exact trivial | exact okE_slE | exact okP_slV rfl | refine And.intro ?_ ?_)); done))); (case i1 => simp only; omega); (case i2 => simp only; omega); (case i6 => simp only; omega))
      · dsimp only [kT1, kH1, slV, slE]
        refine sx hXk [] 4000 rfl (by (simp [-List.getD_eq_getElem?_getD, -List.length_eq_zero_iff, conjP] <;> (first | omega | ((repeat' (refine And.intro ?_ ?_)) <;> (first | omega | exact decide_eq_false (by omega) | exact decide_eq_true (by omega)))))) ?_
        refine sx hXk [.T] 4000 rfl (by (simp [-List.getD_eq_getElem?_getD, -List.length_eq_zero_iff, conjP, hr, hl, hst0, hst1, bd, hc, q1] <;> (first | omega | ((repeat' (refine And.intro ?_ ?_)) <;> (first | omega | exact decide_eq_false (by omega) | exact decide_eq_true (by omega)))))) ?_
        refine sx hXk [.T] 4000 rfl (by (simp [-List.getD_eq_getElem?_getD, -List.length_eq_zero_iff, conjP, addOP] <;> (first | omega | ((repeat' (refine And.intro ?_ ?_)) <;> (first | omega | exact decide_eq_false (by omega) | exact decide_eq_true (by omega)))))) ?_
        refine sx hXk [.F] 4000 rfl (by (simp [-List.getD_eq_getElem?_getD, -List.length_eq_zero_iff, conjP, addOP] <;> (first | omega | ((repeat' (refine And.intro ?_ ?_)) <;> (first | omega | exact decide_eq_false (by omega) | exact decide_eq_true (by omega)))))) ?_
        refine sx hXk [.F] 4000 rfl (by (simp [-List.getD_eq_getElem?_getD, -List.length_eq_zero_iff, conjP, addOP] <;> (first | omega | ((repeat' (refine And.intro ?_ ?_)) <;> (first | omega | exact decide_eq_false (by omega) | exact decide_eq_true (by omega)))))) ?_
        (refine ss_sw hXk (sw_ss (hXPk A B true) (cs := []) ?_); refine' back (i + 1, (some l), ⟨_, st + 1, _, _, _, _⟩) ⟨?i1, t + 1, ?i2, hok⟩ ?i6 _ _ _ (sub_of [0, 1, 2, 3, 4] rfl rfl rfl rfl ?tt ?hh (by (repeat' (first | exact rfl | exact trivial | exact sim_refl _ | refine And.intro ?_ ?_))) ?ok); (case tt => exact ⟨by (repeat' (first | exact rfl | exact trivial | exact sim_refl _ | refine And.intro ?_ ?_)), by (repeat' (first | exact rfl | exact trivial | exact sim_refl _ | refine And.intro ?_ ?_)), by (repeat' (first | exact rfl | exact trivial | exact sim_refl _ | refine And.intro ?_ ?_)), by (repeat' (first | exact rfl | exact trivial | exact sim_refl _ | refine And.intro ?_ ?_)), by (repeat' (first | exact rfl | exact trivial | exact sim_refl _ | refine And.intro ?_ ?_)), by (((repeat' (first | exact rfl | exact trivial | exact sim_refl _ | exact subE_same rfl ren_slE | exact sim_slV rfl | assumption | (simp [lst]; done) | (simp [lst]; omega) | refine And.intro ?_ ?_)); done)), by (((repeat' (first | exact rfl | exact trivial | exact sim_refl _ | exact subE_same rfl ren_slE | exact sim_slV rfl | assumption | (simp [lst]; done) | (simp [lst]; omega) | refine And.intro ?_ ?_)); done)), ⟨rfl, hwi⟩, trivial⟩); (case hh => (((repeat' (first | exact rfl | exact trivial | exact sim_refl _ | exact subE_same rfl ren_slE | exact sim_slV rfl | assumption | (simp [lst]; done) | (simp [lst]; omega) | refine And.intro ?_ ?_)); done))); (case ok => (((repeat' (first | exact rfl | exact trivial | exact okE_slE | exact okP_slV rfl | refine And.intro ?_ ?_)); done))); (case i1 => simp only; omega); (case i2 => simp only; omega); (case i6 => simp only; omega))
    · have hi2 : ¬ (i : Int) ≤ (n : Int) := by omega
      have hi5 : (n : Int) < (i : Int) := by omega
      have hp2 : PS A B c t W (lst own) [] := by
        have e : n - i = 0 := by omega
        rw [e] at hp; exact hp
      have hol : (lst own).length ≤ 10 := hp.own_le
      have hXk := hXPk A B true
      rcases own with _ | l
      · dsimp only [kT1, kH1, slV, slE]
        refine sxb hXk [.r 20] [] 4000 rfl (by (simp [-List.getD_eq_getElem?_getD, -List.length_eq_zero_iff, conjP] <;> (first | omega | ((repeat' (refine And.intro ?_ ?_)) <;> (first | omega | exact decide_eq_false (by omega) | exact decide_eq_true (by omega)))))) ?_
        refine sxb hXk [.r 20] [.F] 4000 rfl (by (simp [-List.getD_eq_getElem?_getD, -List.length_eq_zero_iff, conjP, addOP, hi2] <;> (first | omega | ((repeat' (refine And.intro ?_ ?_)) <;> (first | omega | exact decide_eq_false (by omega) | exact decide_eq_true (by omega)))))) ?_
        (refine ss_sub hXk (T' := kT2s (.slice 0 0 z.length cap) c none) (H' := kH1 (zO z) A B ⟨W, st, kd, wd, vl, ch⟩ none) [0, 1, 2, 3, 4] rfl rfl rfl rfl (by (repeat' (first | exact rfl | exact trivial | exact sim_refl _ | refine And.intro ?_ ?_))) (by (((repeat' (first | exact rfl | exact trivial | exact sim_refl _ | exact subE_same rfl ren_slE | exact sim_slV rfl | assumption | (simp [lst]; done) | (simp [lst]; omega) | refine And.intro ?_ ?_)); done))) (by (repeat' (first | exact rfl | exact trivial | exact sim_refl _ | refine And.intro ?_ ?_))) (by (((repeat' (first | exact rfl | exact trivial | exact okE_slE | exact okP_slV rfl | refine And.intro ?_ ?_)); done))) ?_; exact lp2 hzl (t := t) (by omega) ⟨hs, hp2⟩)
      · dsimp only [kT1, kH1, slV, slE]
        refine sxb hXk [.r 20] [] 4000 rfl (by (simp [-List.getD_eq_getElem?_getD, -List.length_eq_zero_iff, conjP] <;> (first | omega | ((repeat' (refine And.intro ?_ ?_)) <;> (first | omega | exact decide_eq_false (by omega) | exact decide_eq_true (by omega)))))) ?_
        refine sxb hXk [.r 20] [.F] 4000 rfl (by (simp [-List.getD_eq_getElem?_getD, -List.length_eq_zero_iff, conjP, addOP, hi2] <;> (first | omega | ((repeat' (refine And.intro ?_ ?_)) <;> (first | omega | exact decide_eq_false (by omega) | exact decide_eq_true (by omega)))))) ?_
        (refine ss_sub hXk (T' := kT2s (.slice 0 0 z.length cap) c (some l)) (H' := kH1 (zO z) A B ⟨W, st, kd, wd, vl, ch⟩ (some l)) [0, 1, 2, 3, 4] rfl rfl rfl rfl (by (repeat' (first | exact rfl | exact trivial | exact sim_refl _ | refine And.intro ?_ ?_))) (by (((repeat' (first | exact rfl | exact trivial | exact sim_refl _ | exact subE_same rfl ren_slE | exact sim_slV rfl | assumption | (simp [lst]; done) | (simp [lst]; omega) | refine And.intro ?_ ?_)); done))) (by (repeat' (first | exact rfl | exact trivial | exact sim_refl _ | refine And.intro ?_ ?_))) (by (((repeat' (first | exact rfl | exact trivial | exact okE_slE | exact okP_slV rfl | refine And.intro ?_ ?_)); done))) ?_; exact lp2 hzl (t := t) (by omega) ⟨hs, hp2⟩)
end
set_option maxHeartbeats 16000000 in
theorem whole (l0 l1 q : Int) (z : List Int) (cap : Nat) (ad : Option Addr) (hzl : z.length ≤ 9223372036854775807) : Gives Try.prog 5 [L2 l0 l1, .int .i64 q, .slice 0 0 z.length cap] [zO z] (Is .tt [zO z]) := by
  have hA := cMod6 l0
  have hB := cMod6 l1
  refine gives_x (hXPk 0 0 true) (fn := Try.f5) rfl rfl rfl rfl fun ρ w => ?_
  refine sxb (hXPk 0 0 true) [.r 3] [] 4000 rfl (by first | exact trivial | simp [conjP]) ?_
  generalize cMod 6 l0 = A at *
  generalize cMod 6 l1 = B at *
  have hr := pool_right hA.1 hA.2 hB.1 hB.2
  have hst := mkA_st hr
  have hc := and1 q
  have hcc : ibits .and .i64 q 1 = 0 ∨ ibits .and .i64 q 1 = 1 := by omega
  refine sxb (hXPk 0 0 true) [.r 5] [] 4000 rfl (by simp [conjP, hr]) ?_
  refine ss_sw (hXPk 0 0 true) (sw_ss (hXPk A B true) (cs := []) ?_)
  have hXk := hXPk A B true
  rcases hcc with hcc | hcc
  · refine ss_sub hXk (T' := kTc (.slice 0 0 z.length cap) 0) (H' := kH0 (zO z) A B ⟨(mkA 1 4 1 2 4 A 6 B 2).W, (mkA 1 4 1 2 4 A 6 B 2).st, 2, (mkA 1 4 1 2 4 A 6 B 2).wd, (mkA 1 4 1 2 4 A 6 B 2).vl, true⟩) [0, 2, 3, 4] rfl rfl rfl rfl ?tt (by (((repeat' (first | exact rfl | exact trivial | exact sim_refl _ | exact subE_same rfl ren_slE | exact sim_slV rfl | assumption | (simp [lst]; done) | (simp [lst]; omega) | refine And.intro ?_ ?_)); done))) (by (repeat' (first | exact rfl | exact trivial | exact sim_refl _ | refine And.intro ?_ ?_))) (by (((repeat' (first | exact rfl | exact trivial | exact okE_slE | exact okP_slV rfl | refine And.intro ?_ ?_)); done))) ?_
    case tt => exact ⟨by (repeat' (first | exact rfl | exact trivial | exact sim_refl _ | refine And.intro ?_ ?_)), by (repeat' (first | exact rfl | exact trivial | exact sim_refl _ | refine And.intro ?_ ?_)), by (repeat' (first | exact rfl | exact trivial | exact sim_refl _ | refine And.intro ?_ ?_)), by (repeat' (first | exact rfl | exact trivial | exact sim_refl _ | refine And.intro ?_ ?_)), ⟨rfl, hcc⟩, trivial⟩
    dsimp only [kTc, kH0]
    refine sxb hXk [.r 8] [] 4000 rfl (by (simp [-List.getD_eq_getElem?_getD, -List.length_eq_zero_iff, conjP] <;> (first | omega | ((repeat' (refine And.intro ?_ ?_)) <;> (first | omega | exact decide_eq_false (by omega) | exact decide_eq_true (by omega)))))) ?_
    (refine ss_sub hXk (T' := kT1s (.slice 0 0 z.length cap) 0 A) (H' := kH0 (zO z) A B ⟨(mkA 1 4 1 2 4 A 6 B 2).W, (mkA 1 4 1 2 4 A 6 B 2).st, 2, (mkA 1 4 1 2 4 A 6 B 2).wd, (mkA 1 4 1 2 4 A 6 B 2).vl, true⟩) [0, 1, 2, 3] rfl rfl rfl rfl (by (repeat' (first | exact rfl | exact trivial | exact sim_refl _ | refine And.intro ?_ ?_))) (by (((repeat' (first | exact rfl | exact trivial | exact sim_refl _ | exact subE_same rfl ren_slE | exact sim_slV rfl | assumption | (simp [lst]; done) | (simp [lst]; omega) | refine And.intro ?_ ?_)); done))) (by (repeat' (first | exact rfl | exact trivial | exact sim_refl _ | refine And.intro ?_ ?_))) (by (((repeat' (first | exact rfl | exact trivial | exact okE_slE | exact okP_slV rfl | refine And.intro ?_ ?_)); done))) ?_; exact lp1 hzl (show A.toNat ≤ 5 by omega) (by omega) (show (0 : Int) * A = 0 by simp) (by omega) ⟨by simp only; omega, ps_0 (c := 0) hA hB (by omega)⟩)
  · refine ss_sub hXk (T' := kTc (.slice 0 0 z.length cap) 1) (H' := kH0 (zO z) A B ⟨(mkA 1 4 1 2 4 A 6 B 2).W, (mkA 1 4 1 2 4 A 6 B 2).st, 2, (mkA 1 4 1 2 4 A 6 B 2).wd, (mkA 1 4 1 2 4 A 6 B 2).vl, true⟩) [0, 2, 3, 4] rfl rfl rfl rfl ?tt (by (((repeat' (first | exact rfl | exact trivial | exact sim_refl _ | exact subE_same rfl ren_slE | exact sim_slV rfl | assumption | (simp [lst]; done) | (simp [lst]; omega) | refine And.intro ?_ ?_)); done))) (by (repeat' (first | exact rfl | exact trivial | exact sim_refl _ | refine And.intro ?_ ?_))) (by (((repeat' (first | exact rfl | exact trivial | exact okE_slE | exact okP_slV rfl | refine And.intro ?_ ?_)); done))) ?_
    case tt => exact ⟨by (repeat' (first | exact rfl | exact trivial | exact sim_refl _ | refine And.intro ?_ ?_)), by (repeat' (first | exact rfl | exact trivial | exact sim_refl _ | refine And.intro ?_ ?_)), by (repeat' (first | exact rfl | exact trivial | exact sim_refl _ | refine And.intro ?_ ?_)), by (repeat' (first | exact rfl | exact trivial | exact sim_refl _ | refine And.intro ?_ ?_)), ⟨rfl, hcc⟩, trivial⟩
    dsimp only [kTc, kH0]
    refine sxb hXk [.r 8] [] 4000 rfl (by (simp [-List.getD_eq_getElem?_getD, -List.length_eq_zero_iff, conjP] <;> (first | omega | ((repeat' (refine And.intro ?_ ?_)) <;> (first | omega | exact decide_eq_false (by omega) | exact decide_eq_true (by omega)))))) ?_
    (refine ss_sub hXk (T' := kT1s (.slice 0 0 z.length cap) 1 B) (H' := kH0 (zO z) A B ⟨(mkA 1 4 1 2 4 A 6 B 2).W, (mkA 1 4 1 2 4 A 6 B 2).st, 2, (mkA 1 4 1 2 4 A 6 B 2).wd, (mkA 1 4 1 2 4 A 6 B 2).vl, true⟩) [0, 1, 2, 3] rfl rfl rfl rfl (by (repeat' (first | exact rfl | exact trivial | exact sim_refl _ | refine And.intro ?_ ?_))) (by (((repeat' (first | exact rfl | exact trivial | exact sim_refl _ | exact subE_same rfl ren_slE | exact sim_slV rfl | assumption | (simp [lst]; done) | (simp [lst]; omega) | refine And.intro ?_ ?_)); done))) (by (repeat' (first | exact rfl | exact trivial | exact sim_refl _ | refine And.intro ?_ ?_))) (by (((repeat' (first | exact rfl | exact trivial | exact okE_slE | exact okP_slV rfl | refine And.intro ?_ ?_)); done))) ?_; exact lp1 hzl (show B.toNat ≤ 5 by omega) (by omega) (show (1 : Int) * A = A by simp) (by omega) ⟨by simp only; omega, by have := ps_0 (c := 1) hA hB (by omega); rw [Int.add_comm 1 A]; simpa using this⟩)
end kw
namespace kn
section
variable {A B c N : Int} {z : List Int} {cap : Nat} {ad : Option Addr} {ρ : Nat → Nat × Nat} {w : World} {x : SK} {own giv : Option (List Int)} {t : Nat}
set_option maxHeartbeats 16000000 in
theorem lp3n (ht : t ≤ 60) (h : ∃ own, okS A B c t x.W x.st own (lst none).reverse) : SS (hXPk A B true) (At ρ w) (Is .tt [HE.absent]) ⟨[], [], Try.f5, Try.f5.ntmps, [HE.absent], contF Try.f5 34 [], kT3s c none, kH1 .absent A B x none⟩ := by
  obtain ⟨own0, hs0, hp0⟩ := h
  have hgl : (lst none).length ≤ 10 := by have := hp0.rest_le; simpa using this
  have hsub : IntKind.i64.wrap (((lst none).length : Int) - 1) = ((lst none).length : Int) - 1 := wi64 (by omega) (by omega)
  dsimp only [kT3s, kH1, slV, slE]
  refine sxb (hXPk A B true) [.l] [] 4000 rfl (by first | exact trivial | simp [conjP]) ?_
  refine ss_sub (hXPk A B true) (T' := kT3 c none (lst none).length) (H' := kH1 .absent A B x none) [0, 1, 2, 3, 4] rfl rfl rfl rfl ?tt (by (((repeat' (first | exact rfl | exact trivial | exact sim_refl _ | exact subE_same rfl ren_slE | exact sim_slV rfl | assumption | (simp [lst]; done) | (simp [lst]; omega) | refine And.intro ?_ ?_)); done))) (by (repeat' (first | exact rfl | exact trivial | exact sim_refl _ | refine And.intro ?_ ?_))) (by (((repeat' (first | exact rfl | exact trivial | exact okE_slE | exact okP_slV rfl | refine And.intro ?_ ?_)); done))) ?_
  case tt => exact ⟨by (repeat' (first | exact rfl | exact trivial | exact sim_refl _ | refine And.intro ?_ ?_)), by (repeat' (first | exact rfl | exact trivial | exact sim_refl _ | refine And.intro ?_ ?_)), by (repeat' (first | exact rfl | exact trivial | exact sim_refl _ | refine And.intro ?_ ?_)), by (repeat' (first | exact rfl | exact trivial | exact sim_refl _ | refine And.intro ?_ ?_)), by (repeat' (first | exact rfl | exact trivial | exact sim_refl _ | refine And.intro ?_ ?_)), ⟨rfl, hsub⟩, trivial⟩
  refine ss_loop (hXPk A B true) (fun q : Nat × SK => kT3 c none q.1) (fun q => kH1 .absent A B q.2 none) (fun q => q.1 ≤ (lst none).length ∧ ∃ (t : Nat) (own : List Int), t + 3 * q.1 ≤ 100 ∧ okS A B c t q.2.W q.2.st own ((lst none).take q.1).reverse) (fun q => q.1) ((lst none).length, x) ⟨Nat.le_refl _, t, own0, by simp only; omega, by simpa using ⟨hs0, hp0⟩⟩ ?_
  rintro ⟨j, ⟨W, st, kd, wd, vl, ch⟩⟩ ⟨hj, t, own, ht, hs, hp⟩ I back
  dsimp only at hj ht hs hp
  obtain ⟨hr, hl, bd, hA, hB⟩ := hp.facts
  have hc := hp.1
  have hst0 : 0 ≤ st := hs.1
  have hst2 := hs.2
  have hst1 : st < 900000 := by omega
  rcases j with _ | j
  · have hn : ¬ ((0 : Nat) : Int) - 1 ≥ 0 := by omega
    have hp' : PS A B c t W own [] := by simpa using hp
    have hq := (ps_none hp').1
    refine ss_sw (hXPk A B true) (sw_ss (hXPk A B false) (cs := []) ?_)
    have hXk := hXPk A B false
    dsimp only [kT3, kH1, slV, slE]
    refine sx hXk [] 4000 rfl (by (simp [-List.getD_eq_getElem?_getD, -List.length_eq_zero_iff, conjP] <;> (first | omega | ((repeat' (refine And.intro ?_ ?_)) <;> (first | omega | exact decide_eq_false (by omega) | exact decide_eq_true (by omega)))))) ?_
    refine sx hXk [.F] 4000 rfl (by (simp [-List.getD_eq_getElem?_getD, -List.length_eq_zero_iff, conjP, hr, hl, hst0, hst1, bd, hc, hq] <;> (first | omega | ((repeat' (refine And.intro ?_ ?_)) <;> (first | omega | exact decide_eq_false (by omega) | exact decide_eq_true (by omega)))))) ?_
    (exact ss_end hXk [0] rfl rfl trivial rfl rfl rfl rfl (by (repeat' (first | exact rfl | exact trivial | exact sim_refl _ | refine And.intro ?_ ?_))) (by (repeat' (first | exact rfl | exact trivial | exact sim_refl _ | refine And.intro ?_ ?_))) (by (repeat' (first | exact rfl | exact trivial | exact sim_refl _ | refine And.intro ?_ ?_))) (by (repeat' (first | exact rfl | exact trivial | exact sim_refl _ | refine And.intro ?_ ?_))))
  · simp [lst] at hj
set_option maxHeartbeats 16000000 in
theorem lp3s {g : List Int} (ht : t ≤ 60) (h : ∃ own, okS A B c t x.W x.st own (lst (some g)).reverse) : SS (hXPk A B true) (At ρ w) (Is .tt [HE.absent]) ⟨[], [], Try.f5, Try.f5.ntmps, [HE.absent], contF Try.f5 34 [], kT3s c (some g), kH1 .absent A B x (some g)⟩ := by
  obtain ⟨own0, hs0, hp0⟩ := h
  have hgl : (lst (some g)).length ≤ 10 := by have := hp0.rest_le; simpa using this
  have hsub : IntKind.i64.wrap (((lst (some g)).length : Int) - 1) = ((lst (some g)).length : Int) - 1 := wi64 (by omega) (by omega)
  dsimp only [kT3s, kH1, slV, slE]
  refine sxb (hXPk A B true) [.l] [] 4000 rfl (by first | exact trivial | simp [conjP]) ?_
  refine ss_sub (hXPk A B true) (T' := kT3 c (some g) (lst (some g)).length) (H' := kH1 .absent A B x (some g)) [0, 1, 2, 3, 4] rfl rfl rfl rfl ?tt (by (((repeat' (first | exact rfl | exact trivial | exact sim_refl _ | exact subE_same rfl ren_slE | exact sim_slV rfl | assumption | (simp [lst]; done) | (simp [lst]; omega) | refine And.intro ?_ ?_)); done))) (by (repeat' (first | exact rfl | exact trivial | exact sim_refl _ | refine And.intro ?_ ?_))) (by (((repeat' (first | exact rfl | exact trivial | exact okE_slE | exact okP_slV rfl | refine And.intro ?_ ?_)); done))) ?_
  case tt => exact ⟨by (repeat' (first | exact rfl | exact trivial | exact sim_refl _ | refine And.intro ?_ ?_)), by (repeat' (first | exact rfl | exact trivial | exact sim_refl _ | refine And.intro ?_ ?_)), by (repeat' (first | exact rfl | exact trivial | exact sim_refl _ | refine And.intro ?_ ?_)), by (repeat' (first | exact rfl | exact trivial | exact sim_refl _ | refine And.intro ?_ ?_)), by (repeat' (first | exact rfl | exact trivial | exact sim_refl _ | refine And.intro ?_ ?_)), ⟨rfl, hsub⟩, trivial⟩
  refine ss_loop (hXPk A B true) (fun q : Nat × SK => kT3 c (some g) q.1) (fun q => kH1 .absent A B q.2 (some g)) (fun q => q.1 ≤ (lst (some g)).length ∧ ∃ (t : Nat) (own : List Int), t + 3 * q.1 ≤ 100 ∧ okS A B c t q.2.W q.2.st own ((lst (some g)).take q.1).reverse) (fun q => q.1) ((lst (some g)).length, x) ⟨Nat.le_refl _, t, own0, by simp only; omega, by simpa using ⟨hs0, hp0⟩⟩ ?_
  rintro ⟨j, ⟨W, st, kd, wd, vl, ch⟩⟩ ⟨hj, t, own, ht, hs, hp⟩ I back
  dsimp only at hj ht hs hp
  obtain ⟨hr, hl, bd, hA, hB⟩ := hp.facts
  have hc := hp.1
  have hst0 : 0 ≤ st := hs.1
  have hst2 := hs.2
  have hst1 : st < 900000 := by omega
  rcases j with _ | j
  · have hn : ¬ ((0 : Nat) : Int) - 1 ≥ 0 := by omega
    have hp' : PS A B c t W own [] := by simpa using hp
    have hq := (ps_none hp').1
    refine ss_sw (hXPk A B true) (sw_ss (hXPk A B false) (cs := []) ?_)
    have hXk := hXPk A B false
    dsimp only [kT3, kH1, slV, slE]
    refine sx hXk [] 4000 rfl (by (simp [-List.getD_eq_getElem?_getD, -List.length_eq_zero_iff, conjP] <;> (first | omega | ((repeat' (refine And.intro ?_ ?_)) <;> (first | omega | exact decide_eq_false (by omega) | exact decide_eq_true (by omega)))))) ?_
    refine sx hXk [.F] 4000 rfl (by (simp [-List.getD_eq_getElem?_getD, -List.length_eq_zero_iff, conjP, hr, hl, hst0, hst1, bd, hc, hq] <;> (first | omega | ((repeat' (refine And.intro ?_ ?_)) <;> (first | omega | exact decide_eq_false (by omega) | exact decide_eq_true (by omega)))))) ?_
    (exact ss_end hXk [0] rfl rfl trivial rfl rfl rfl rfl (by (repeat' (first | exact rfl | exact trivial | exact sim_refl _ | refine And.intro ?_ ?_))) (by (repeat' (first | exact rfl | exact trivial | exact sim_refl _ | refine And.intro ?_ ?_))) (by (repeat' (first | exact rfl | exact trivial | exact sim_refl _ | refine And.intro ?_ ?_))) (by (repeat' (first | exact rfl | exact trivial | exact sim_refl _ | refine And.intro ?_ ?_))))
  · have hj' : j < g.length := by simp [lst] at hj; omega
    have hj2 : (j : Int) < (g.length : Int) := by omega
    have hp2 : PS A B c t W own (g.getD j 0 :: (g.take j).reverse) := by rw [← take_rev hj']; exact hp
    obtain ⟨e1, e2, e3, hp3⟩ := ps_take hp2 (by omega) rfl
    have hok : okS A B c (t + 3) _ (st + 1 + 1 + 1) _ _ := ⟨⟨by omega, by omega⟩, hp3⟩
    have e2' : classV A B (g.getD j 0) = c := by rw [← e1]; exact e2
    have hgl' : g.length ≤ 10 := hgl
    have hn : ((j : Nat) : Int) ≥ 0 := by omega
    have hw : IntKind.i64.wrap ((j : Int) - 1) = (j : Int) - 1 := wi64 (by omega) (by omega)
    refine ss_sub (hXPk A B true) (T' := kT3j c (some g) j) (H' := kH1 .absent A B ⟨W, st, kd, wd, vl, ch⟩ (some g)) [0, 1, 2, 3, 4] rfl rfl rfl rfl ?tt (by (((repeat' (first | exact rfl | exact trivial | exact sim_refl _ | exact subE_same rfl ren_slE | exact sim_slV rfl | assumption | (simp [lst]; done) | (simp [lst]; omega) | refine And.intro ?_ ?_)); done))) (by (repeat' (first | exact rfl | exact trivial | exact sim_refl _ | refine And.intro ?_ ?_))) (by (((repeat' (first | exact rfl | exact trivial | exact okE_slE | exact okP_slV rfl | refine And.intro ?_ ?_)); done))) ?_
    case tt => exact ⟨by (repeat' (first | exact rfl | exact trivial | exact sim_refl _ | refine And.intro ?_ ?_)), by (repeat' (first | exact rfl | exact trivial | exact sim_refl _ | refine And.intro ?_ ?_)), by (repeat' (first | exact rfl | exact trivial | exact sim_refl _ | refine And.intro ?_ ?_)), by (repeat' (first | exact rfl | exact trivial | exact sim_refl _ | refine And.intro ?_ ?_)), by (repeat' (first | exact rfl | exact trivial | exact sim_refl _ | refine And.intro ?_ ?_)), ⟨rfl, by omega⟩, trivial⟩
    have hXk := hXPk A B true
    dsimp only [kT3j, kH1, slV, slE]
    refine sx hXk [] 4000 rfl (by (simp [-List.getD_eq_getElem?_getD, -List.length_eq_zero_iff, conjP] <;> (first | omega | ((repeat' (refine And.intro ?_ ?_)) <;> (first | omega | exact decide_eq_false (by omega) | exact decide_eq_true (by omega)))))) ?_
    refine sx hXk [.T] 4000 rfl (by (simp [-List.getD_eq_getElem?_getD, -List.length_eq_zero_iff, conjP, getH, HE.so, hr, hl, hst0, hst1, bd, hc, hn, hj', hj2, e1, e2', cellOff] <;> (first | omega | ((repeat' (refine And.intro ?_ ?_)) <;> (first | omega | exact decide_eq_false (by omega) | exact decide_eq_true (by omega)))))) ?_
    refine sx hXk [.F] 4000 rfl (by (simp [-List.getD_eq_getElem?_getD, -List.length_eq_zero_iff, conjP, addOP, e1, cellOff] <;> (first | omega | ((repeat' (refine And.intro ?_ ?_)) <;> (first | omega | exact decide_eq_false (by omega) | exact decide_eq_true (by omega)))))) ?_
    (refine' back (j, ⟨_, st + 1 + 1 + 1, _, _, _, _⟩) ⟨?i1, t + 3, _, ?i2, hok⟩ ?i6 _ _ _ (sub_of [0, 1, 2, 3, 4] rfl rfl rfl rfl ?tt ?hh (by (repeat' (first | exact rfl | exact trivial | exact sim_refl _ | refine And.intro ?_ ?_))) (by (((repeat' (first | exact rfl | exact trivial | exact okE_slE | exact okP_slV rfl | refine And.intro ?_ ?_)); done)))); (case tt => exact ⟨by (repeat' (first | exact rfl | exact trivial | exact sim_refl _ | refine And.intro ?_ ?_)), by (repeat' (first | exact rfl | exact trivial | exact sim_refl _ | refine And.intro ?_ ?_)), by (repeat' (first | exact rfl | exact trivial | exact sim_refl _ | refine And.intro ?_ ?_)), by (repeat' (first | exact rfl | exact trivial | exact sim_refl _ | refine And.intro ?_ ?_)), by (repeat' (first | exact rfl | exact trivial | exact sim_refl _ | refine And.intro ?_ ?_)), ⟨rfl, hw⟩, trivial⟩); (case hh => (((repeat' (first | exact rfl | exact trivial | exact sim_refl _ | exact subE_same rfl ren_slE | exact sim_slV rfl | assumption | (simp [lst]; done) | (simp [lst]; omega) | refine And.intro ?_ ?_)); done))); (case i1 => simp [lst]; omega); (case i2 => simp only; omega); (case i6 => simp only; omega))
set_option maxHeartbeats 16000000 in
theorem lp2 (ht : t + 3 * (lst own).length ≤ 60) (h : okS A B c t x.W x.st (lst own) []) : SS (hXPk A B true) (At ρ w) (Is .tt [HE.absent]) ⟨[], [], Try.f5, Try.f5.ntmps, [HE.absent], contF Try.f5 20 [], kT2s (.raw (.slice ad 0 0)) c own, kH1 .absent A B x own⟩ := by
  obtain ⟨W, st, kd, wd, vl, ch⟩ := x
  obtain ⟨hs, hp⟩ := h
  refine ss_sw (hXPk A B true) (sw_ss (hXPu A B true) (cs := []) ?_)
  have hXk := hXPu A B true
  rcases own with _ | l
  · dsimp only [kT2s, kH1, slV, slE]
    refine sxb hXk [.r 34] [] 4000 rfl (by (simp [-List.getD_eq_getElem?_getD, -List.length_eq_zero_iff, conjP] <;> (first | omega | ((repeat' (refine And.intro ?_ ?_)) <;> (first | omega | exact decide_eq_false (by omega) | exact decide_eq_true (by omega)))))) ?_
    refine sxb hXk [.r 34] [.F] 4000 rfl (by (simp [-List.getD_eq_getElem?_getD, -List.length_eq_zero_iff, conjP, addOP] <;> (first | omega | ((repeat' (refine And.intro ?_ ?_)) <;> (first | omega | exact decide_eq_false (by omega) | exact decide_eq_true (by omega)))))) ?_
    (refine ss_sw hXk (sw_ss (hXPk A B true) (cs := []) ?_); refine ss_sub (hXPk A B true) (T' := kT3s c none) (H' := kH1 .absent A B ⟨W, st, kd, wd, vl, ch⟩ none) [0, 1, 2, 3, 9] rfl rfl rfl rfl (by (repeat' (first | exact rfl | exact trivial | exact sim_refl _ | refine And.intro ?_ ?_))) (by (((repeat' (first | exact rfl | exact trivial | exact sim_refl _ | exact subE_same rfl ren_slE | exact sim_slV rfl | assumption | (simp [lst]; done) | (simp [lst]; omega) | refine And.intro ?_ ?_)); done))) (by (repeat' (first | exact rfl | exact trivial | exact sim_refl _ | refine And.intro ?_ ?_))) (by (((repeat' (first | exact rfl | exact trivial | exact okE_slE | exact okP_slV rfl | refine And.intro ?_ ?_)); done))) ?_; exact lp3n (t := t) (by omega) ⟨_, hs, hp⟩)
  · dsimp only [kT2s, kH1, slV, slE]
    refine sxb hXk [.r 34] [] 4000 rfl (by (simp [-List.getD_eq_getElem?_getD, -List.length_eq_zero_iff, conjP] <;> (first | omega | ((repeat' (refine And.intro ?_ ?_)) <;> (first | omega | exact decide_eq_false (by omega) | exact decide_eq_true (by omega)))))) ?_
    refine sxb hXk [.r 34] [.F] 4000 rfl (by (simp [-List.getD_eq_getElem?_getD, -List.length_eq_zero_iff, conjP, addOP] <;> (first | omega | ((repeat' (refine And.intro ?_ ?_)) <;> (first | omega | exact decide_eq_false (by omega) | exact decide_eq_true (by omega)))))) ?_
    (refine ss_sw hXk (sw_ss (hXPk A B true) (cs := []) ?_); refine ss_sub (hXPk A B true) (T' := kT3s c none) (H' := kH1 .absent A B ⟨W, st, kd, wd, vl, ch⟩ none) [0, 1, 2, 3, 9] rfl rfl rfl rfl (by (repeat' (first | exact rfl | exact trivial | exact sim_refl _ | refine And.intro ?_ ?_))) (by (((repeat' (first | exact rfl | exact trivial | exact sim_refl _ | exact subE_same rfl ren_slE | exact sim_slV rfl | assumption | (simp [lst]; done) | (simp [lst]; omega) | refine And.intro ?_ ?_)); done))) (by (repeat' (first | exact rfl | exact trivial | exact sim_refl _ | refine And.intro ?_ ?_))) (by (((repeat' (first | exact rfl | exact trivial | exact okE_slE | exact okP_slV rfl | refine And.intro ?_ ?_)); done))) ?_; exact lp3n (t := t) (by omega) ⟨_, hs, hp⟩)
set_option maxHeartbeats 16000000 in
theorem lp1 {n : Nat} {m : Int} (hn : n ≤ 5) (hN : N = (n : Int)) (hm : c * A = m) (hm0 : 0 ≤ m ∧ m ≤ 5) (h : okS A B c 0 x.W x.st [] (upto (1 + m) n)) : SS (hXPk A B true) (At ρ w) (Is .tt [HE.absent]) ⟨[], [], Try.f5, Try.f5.ntmps, [HE.absent], contF Try.f5 8 [], kT1s (.raw (.slice ad 0 0)) c N, kH0 .absent A B x⟩ := by
  subst hN
  refine sxb (hXPk A B true) [.l] [] 4000 rfl (by first | exact trivial | simp [conjP]) ?_
  refine ss_sub (hXPk A B true) (T' := kT1 (.raw (.slice ad 0 0)) c n none 0) (H' := kH1 .absent A B x none) [0, 1, 2, 3, 9] rfl rfl rfl rfl (by (((repeat' (first | exact rfl | exact trivial | exact sim_refl _ | exact subE_same rfl ren_slE | exact sim_slV rfl | assumption | (simp [lst]; done) | (simp [lst]; omega) | refine And.intro ?_ ?_)); done))) (by (((repeat' (first | exact rfl | exact trivial | exact sim_refl _ | exact subE_same rfl ren_slE | exact sim_slV rfl | assumption | (simp [lst]; done) | (simp [lst]; omega) | refine And.intro ?_ ?_)); done))) (by (((repeat' (first | exact rfl | exact trivial | exact okE_slE | exact okP_slV rfl | refine And.intro ?_ ?_)); done))) (by (((repeat' (first | exact rfl | exact trivial | exact okE_slE | exact okP_slV rfl | refine And.intro ?_ ?_)); done))) ?_
  refine ss_loop (hXPk A B true) (fun q : Nat × Option (List Int) × SK => kT1 (.raw (.slice ad 0 0)) c n q.2.1 q.1) (fun q => kH1 .absent A B q.2.2 q.2.1) (fun q => q.1 ≤ n + 1 ∧ ∃ t : Nat, t ≤ 3 * q.1 ∧ okS A B c t q.2.2.W q.2.2.st (lst q.2.1) (upto (1 + (q.1 : Int) + m) (n - q.1))) (fun q => n + 1 - q.1) (0, none, x) ⟨Nat.zero_le _, 0, Nat.zero_le _, by simpa [lst] using h⟩ ?_
  rintro ⟨i, own, ⟨W, st, kd, wd, vl, ch⟩⟩ ⟨hi, t, ht, hs, hp⟩ I back
  dsimp only at hi ht hs hp
  obtain ⟨hr, hl, bd, hA, hB⟩ := hp.facts
  have hc := hp.1
  have hst0 : 0 ≤ st := hs.1
  have hst2 := hs.2
  have hst1 : st < 900000 := by omega
  have hwi : IntKind.i64.wrap ((i : Int) + 1) = ((i + 1 : Nat) : Int) := by rw [wi64 (by omega) (by omega)]; omega
  have hw1 : IntKind.i64.wrap (1 + (i : Int)) = 1 + (i : Int) := wi64 (by omega) (by omega)
  have hw2 : IntKind.i64.wrap m = m := wi64 (by omega) (by omega)
  have hw3 : IntKind.i64.wrap (1 + (i : Int) + m) = 1 + (i : Int) + m := wi64 (by omega) (by omega)
  by_cases h1 : i < n
  · have hi2 : (i : Int) ≤ (n : Int) := by omega
    have hi3 : ¬ (i : Int) = (n : Int) := by omega
    have hi4 : ¬ i = n := by omega
    have hp2 : PS A B c t W (lst own) ((1 + (i : Int) + m) :: upto (1 + ((i + 1 : Nat) : Int) + m) (n - (i + 1))) := by
      have e : n - i = (n - (i + 1)) + 1 := by omega
      rw [e, upto_succ] at hp
      have e2 : 1 + (i : Int) + m + 1 = 1 + ((i + 1 : Nat) : Int) + m := by omega
      rwa [e2] at hp
    obtain ⟨e1, e2, e3, hp3⟩ := ps_take hp2 (by omega) rfl
    have hok : okS A B c (t + 3) _ (st + 1 + 1 + 1) _ _ := ⟨⟨by omega, by omega⟩, hp3⟩
    have e2' : classV A B (1 + (i : Int) + m) = c := by rw [← e1]; exact e2
    have e3' : 0 < 1 + (i : Int) + m := by omega
    have hXk := hXPk A B true
    rcases own with _ | l
    · dsimp only [kT1, kH1, slV, slE]
      refine sx hXk [] 4000 rfl (by (simp [-List.getD_eq_getElem?_getD, -List.length_eq_zero_iff, conjP] <;> (first | omega | ((repeat' (refine And.intro ?_ ?_)) <;> (first | omega | exact decide_eq_false (by omega) | exact decide_eq_true (by omega)))))) ?_
      refine sx hXk [.T] 4000 rfl (by (simp [-List.getD_eq_getElem?_getD, -List.length_eq_zero_iff, conjP, hr, hl, hst0, hst1, bd, hc, hi2, e1, e2'] <;> (first | omega | ((repeat' (refine And.intro ?_ ?_)) <;> (first | omega | exact decide_eq_false (by omega) | exact decide_eq_true (by omega)))))) ?_
      refine sx hXk [.F] 4000 rfl (by (simp [-List.getD_eq_getElem?_getD, -List.length_eq_zero_iff, conjP, addOP, hi3] <;> (first | omega | ((repeat' (refine And.intro ?_ ?_)) <;> (first | omega | exact decide_eq_false (by omega) | exact decide_eq_true (by omega)))))) ?_
      refine sx hXk [.F] 4000 rfl (by (simp [-List.getD_eq_getElem?_getD, -List.length_eq_zero_iff, conjP, addOP, hm, hw1, hw2, hw3, e1] <;> (first | omega | ((repeat' (refine And.intro ?_ ?_)) <;> (first | omega | exact decide_eq_false (by omega) | exact decide_eq_true (by omega)))))) ?_
      refine sx hXk [.T] 4000 rfl (by (simp [-List.getD_eq_getElem?_getD, -List.length_eq_zero_iff, conjP, e1, e3'] <;> (first | omega | ((repeat' (refine And.intro ?_ ?_)) <;> (first | omega | exact decide_eq_false (by omega) | exact decide_eq_true (by omega)))))) ?_
      (refine' back (i + 1, some ([W.getD (3 + c).toNat 0 % 4294967296]), ⟨_, st + 1 + 1 + 1, _, _, _, _⟩) ⟨?i1, t + 3, ?i2, hok⟩ ?i6 _ _ _ (sub_of [0, 1, 2, 3, 6] rfl rfl rfl rfl ?tt ?hh (by (repeat' (first | exact rfl | exact trivial | exact sim_refl _ | refine And.intro ?_ ?_))) ?ok); (case tt => exact ⟨by (repeat' (first | exact rfl | exact trivial | exact sim_refl _ | refine And.intro ?_ ?_)), by (repeat' (first | exact rfl | exact trivial | exact sim_refl _ | refine And.intro ?_ ?_)), by (repeat' (first | exact rfl | exact trivial | exact sim_refl _ | refine And.intro ?_ ?_)), by (repeat' (first | exact rfl | exact trivial | exact sim_refl _ | refine And.intro ?_ ?_)), by (repeat' (first | exact rfl | exact trivial | exact sim_refl _ | refine And.intro ?_ ?_)), by (((repeat' (first | exact rfl | exact trivial | exact sim_refl _ | exact subE_same rfl ren_slE | exact sim_slV rfl | assumption | (simp [lst]; done) | (simp [lst]; omega) | refine And.intro ?_ ?_)); done)), by (((repeat' (first | exact rfl | exact trivial | exact sim_refl _ | exact subE_same rfl ren_slE | exact sim_slV rfl | assumption | (simp [lst]; done) | (simp [lst]; omega) | refine And.intro ?_ ?_)); done)), ⟨rfl, hwi⟩, trivial⟩); (case hh => (((repeat' (first | exact rfl | exact trivial | exact sim_refl _ | exact subE_same rfl ren_slE | exact sim_slV rfl | assumption | (simp [lst]; done) | (simp [lst]; omega) | refine And.intro ?_ ?_)); done))); (case ok => (((repeat' (first | exact rfl | exact trivial | exact okE_slE | exact okP_slV rfl | refine And.intro ?_ ?_)); done))); (case i1 => simp only; omega); (case i2 => simp only; omega); (case i6 => simp only; omega))
    · have hln : l.length ≤ 10 := hp.own_le
      dsimp only [kT1, kH1, slV, slE]
      refine sx hXk [] 4000 rfl (by (simp [-List.getD_eq_getElem?_getD, -List.length_eq_zero_iff, conjP] <;> (first | omega | ((repeat' (refine And.intro ?_ ?_)) <;> (first | omega | exact decide_eq_false (by omega) | exact decide_eq_true (by omega)))))) ?_
      refine sx hXk [.T] 4000 rfl (by (simp [-List.getD_eq_getElem?_getD, -List.length_eq_zero_iff, conjP, hr, hl, hst0, hst1, bd, hc, hi2, e1, e2'] <;> (first | omega | ((repeat' (refine And.intro ?_ ?_)) <;> (first | omega | exact decide_eq_false (by omega) | exact decide_eq_true (by omega)))))) ?_
      refine sx hXk [.F] 4000 rfl (by (simp [-List.getD_eq_getElem?_getD, -List.length_eq_zero_iff, conjP, addOP, hi3] <;> (first | omega | ((repeat' (refine And.intro ?_ ?_)) <;> (first | omega | exact decide_eq_false (by omega) | exact decide_eq_true (by omega)))))) ?_
      refine sx hXk [.F] 4000 rfl (by (simp [-List.getD_eq_getElem?_getD, -List.length_eq_zero_iff, conjP, addOP, hm, hw1, hw2, hw3, e1] <;> (first | omega | ((repeat' (refine And.intro ?_ ?_)) <;> (first | omega | exact decide_eq_false (by omega) | exact decide_eq_true (by omega)))))) ?_
      refine sx hXk [.T] 4000 rfl (by (simp [-List.getD_eq_getElem?_getD, -List.length_eq_zero_iff, conjP, e1, e3'] <;> (first | omega | ((repeat' (refine And.intro ?_ ?_)) <;> (first | omega | exact decide_eq_false (by omega) | exact decide_eq_true (by omega)))))) ?_
      (refine' back (i + 1, some (l ++ [W.getD (3 + c).toNat 0 % 4294967296]), ⟨_, st + 1 + 1 + 1, _, _, _, _⟩) ⟨?i1, t + 3, ?i2, hok⟩ ?i6 _ _ _ (sub_of [0, 1, 2, 3, 6] rfl rfl rfl rfl ?tt ?hh (by (repeat' (first | exact rfl | exact trivial | exact sim_refl _ | refine And.intro ?_ ?_))) ?ok); (case tt => exact ⟨by (repeat' (first | exact rfl | exact trivial | exact sim_refl _ | refine And.intro ?_ ?_)), by (repeat' (first | exact rfl | exact trivial | exact sim_refl _ | refine And.intro ?_ ?_)), by (repeat' (first | exact rfl | exact trivial | exact sim_refl _ | refine And.intro ?_ ?_)), by (repeat' (first | exact rfl | exact trivial | exact sim_refl _ | refine And.intro ?_ ?_)), by (repeat' (first | exact rfl | exact trivial | exact sim_refl _ | refine And.intro ?_ ?_)), by (((repeat' (first | exact rfl | exact trivial | exact sim_refl _ | exact subE_same rfl ren_slE | exact sim_slV rfl | assumption | (simp [lst]; done) | (simp [lst]; omega) | refine And.intro ?_ ?_)); done)), by (((repeat' (first | exact rfl | exact trivial | exact sim_refl _ | exact subE_same rfl ren_slE | exact sim_slV rfl | assumption | (simp [lst]; done) | (simp [lst]; omega) | refine And.intro ?_ ?_)); done)), ⟨rfl, hwi⟩, trivial⟩); (case hh => (((repeat' (first | exact rfl | exact trivial | exact sim_refl _ | exact subE_same rfl ren_slE | exact sim_slV rfl | assumption | (simp [lst]; done) | (simp [lst]; omega) | refine And.intro ?_ ?_)); done))); (case ok => (((repeat' (first | exact rfl | exact trivial | exact okE_slE | exact okP_slV rfl | refine And.intro ?_ ?_)); done))); (case i1 => simp only; omega); (case i2 => simp only; omega); (case i6 => simp only; omega))
  · by_cases h2 : i = n
    · subst h2
      have hp2 : PS A B c t W (lst own) [] := by simpa [upto] using hp
      obtain ⟨q1, hp3⟩ := ps_none hp2
      have hz : upto (1 + ((i + 1 : Nat) : Int) + m) (i - (i + 1)) = [] := by rw [show i - (i + 1) = 0 by omega]; rfl
      rw [← hz] at hp3
      have hok : okS A B c (t + 1) _ (st + 1) _ _ := ⟨⟨by omega, by omega⟩, hp3⟩
      refine ss_sw (hXPk A B true) (sw_ss (hXPk A B false) (cs := []) ?_)
      have hXk := hXPk A B false
      rcases own with _ | l
      · dsimp only [kT1, kH1, slV, slE]
        refine sx hXk [] 4000 rfl (by (simp [-List.getD_eq_getElem?_getD, -List.length_eq_zero_iff, conjP] <;> (first | omega | ((repeat' (refine And.intro ?_ ?_)) <;> (first | omega | exact decide_eq_false (by omega) | exact decide_eq_true (by omega)))))) ?_
        refine sx hXk [.T] 4000 rfl (by (simp [-List.getD_eq_getElem?_getD, -List.length_eq_zero_iff, conjP, hr, hl, hst0, hst1, bd, hc, q1] <;> (first | omega | ((repeat' (refine And.intro ?_ ?_)) <;> (first | omega | exact decide_eq_false (by omega) | exact decide_eq_true (by omega)))))) ?_
        refine sx hXk [.T] 4000 rfl (by (simp [-List.getD_eq_getElem?_getD, -List.length_eq_zero_iff, conjP, addOP] <;> (first | omega | ((repeat' (refine And.intro ?_ ?_)) <;> (first | omega | exact decide_eq_false (by omega) | exact decide_eq_true (by omega)))))) ?_
        refine sx hXk [.F] 4000 rfl (by (simp [-List.getD_eq_getElem?_getD, -List.length_eq_zero_iff, conjP, addOP] <;> (first | omega | ((repeat' (refine And.intro ?_ ?_)) <;> (first | omega | exact decide_eq_false (by omega) | exact decide_eq_true (by omega)))))) ?_
        refine sx hXk [.F] 4000 rfl (by (simp [-List.getD_eq_getElem?_getD, -List.length_eq_zero_iff, conjP, addOP] <;> (first | omega | ((repeat' (refine And.intro ?_ ?_)) <;> (first | omega | exact decide_eq_false (by omega) | exact decide_eq_true (by omega)))))) ?_
        (refine ss_sw hXk (sw_ss (hXPk A B true) (cs := []) ?_); refine' back (i + 1, none, ⟨_, st + 1, _, _, _, _⟩) ⟨?i1, t + 1, ?i2, hok⟩ ?i6 _ _ _ (sub_of [0, 1, 2, 3, 4] rfl rfl rfl rfl ?tt ?hh (by (repeat' (first | exact rfl | exact trivial | exact sim_refl _ | refine And.intro ?_ ?_))) ?ok); (case tt => exact ⟨by (repeat' (first | exact rfl | exact trivial | exact sim_refl _ | refine And.intro ?_ ?_)), by (repeat' (first | exact rfl | exact trivial | exact sim_refl _ | refine And.intro ?_ ?_)), by (repeat' (first | exact rfl | exact trivial | exact sim_refl _ | refine And.intro ?_ ?_)), by (repeat' (first | exact rfl | exact trivial | exact sim_refl _ | refine And.intro ?_ ?_)), by (repeat' (first | exact rfl | exact trivial | exact sim_refl _ | refine And.intro ?_ ?_)), by (((repeat' (first | exact rfl | exact trivial | exact sim_refl _ | exact subE_same rfl ren_slE | exact sim_slV rfl | assumption | (simp [lst]; done) | (simp [lst]; omega) | refine And.intro ?_ ?_)); done)), by (((repeat' (first | exact rfl | exact trivial | exact sim_refl _ | exact subE_same rfl ren_slE | exact sim_slV rfl | assumption | (simp [lst]; done) | (simp [lst]; omega) | refine And.intro ?_ ?_)); done)), ⟨rfl, hwi⟩, trivial⟩); (case hh => (((repeat' (first | exact rfl | exact trivial | exact sim_refl _ | exact subE_same rfl ren_slE | exact sim_slV rfl | assumption | (simp [lst]; done) | (simp [lst]; omega) | refine And.intro ?_ ?_)); done))); (case ok => (((repeat' (first | exact rfl | exact trivial | exact okE_slE | exact okP_slV rfl | refine And.intro ?_ ?_)); done))); (case i1 => simp only; omega); (case i2 => simp only; omega); (case i6 => simp only; omega))
      · dsimp only [kT1, kH1, slV, slE]
        refine sx hXk [] 4000 rfl (by (simp [-List.getD_eq_getElem?_getD, -List.length_eq_zero_iff, conjP] <;> (first | omega | ((repeat' (refine And.intro ?_ ?_)) <;> (first | omega | exact decide_eq_false (by omega) | exact decide_eq_true (by omega)))))) ?_
        refine sx hXk [.T] 4000 rfl (by (simp [-List.getD_eq_getElem?_getD, -List.length_eq_zero_iff, conjP, hr, hl, hst0, hst1, bd, hc, q1] <;> (first | omega | ((repeat' (refine And.intro ?_ ?_)) <;> (first | omega | exact decide_eq_false (by omega) | exact decide_eq_true (by omega)))))) ?_
        refine sx hXk [.T] 4000 rfl (by (simp [-List.getD_eq_getElem?_getD, -List.length_eq_zero_iff, conjP, addOP] <;> (first | omega | ((repeat' (refine And.intro ?_ ?_)) <;> (first | omega | exact decide_eq_false (by omega) | exact decide_eq_true (by omega)))))) ?_
        refine sx hXk [.F] 4000 rfl (by (simp [-List.getD_eq_getElem?_getD, -List.length_eq_zero_iff, conjP, addOP] <;> (first | omega | ((repeat' (refine And.intro ?_ ?_)) <;> (first | omega | exact decide_eq_false (by omega) | exact decide_eq_true (by omega)))))) ?_
        refine sx hXk [.F] 4000 rfl (by (simp [-List.getD_eq_getElem?_getD, -List.length_eq_zero_iff, conjP, addOP] <;> (first | omega | ((repeat' (refine And.intro ?_ ?_)) <;> (first | omega | exact decide_eq_false (by omega) | exact decide_eq_true (by omega)))))) ?_
        (refine ss_sw hXk (sw_ss (hXPk A B true) (cs := []) ?_); refine' back (i + 1, (some l), ⟨_, st + 1, _, _, _, _⟩) ⟨?i1, t + 1, ?i2, hok⟩ ?i6 _ _ _ (sub_of [0, 1, 2, 3, 4] rfl rfl rfl rfl ?tt ?hh (by (repeat' (first | exact rfl | exact trivial | exact sim_refl _ | refine And.intro ?_ ?_))) ?ok); (case tt => exact ⟨by (repeat' (first | exact rfl | exact trivial | exact sim_refl _ | refine And.intro ?_ ?_)), by (repeat' (first | exact rfl | exact trivial | exact sim_refl _ | refine And.intro ?_ ?_)), by (repeat' (first | exact rfl | exact trivial | exact sim_refl _ | refine And.intro ?_ ?_)), by (repeat' (first | exact rfl | exact trivial | exact sim_refl _ | refine And.intro ?_ ?_)), by (repeat' (first | exact rfl | exact trivial | exact sim_refl _ | refine And.intro ?_ ?_)), by (((repeat' (first | exact rfl | exact trivial | exact sim_refl _ | exact subE_same rfl ren_slE | exact sim_slV rfl | assumption | (simp [lst]; done) | (simp [lst]; omega) | refine And.intro ?_ ?_)); done)), by (((repeat' (first | exact rfl | exact trivial | exact sim_refl _ | exact subE_same rfl ren_slE | exact sim_slV rfl | assumption | (simp [lst]; done) | (simp [lst]; omega) | refine And.intro ?_ ?_)); done)), ⟨rfl, hwi⟩, trivial⟩); (case hh => (((repeat' (first | exact rfl | exact trivial | exact sim_refl _ | exact subE_same rfl ren_slE | exact sim_slV rfl | assumption | (simp [lst]; done) | (simp [lst]; omega) | refine And.intro ?_ ?_)); done))); (case ok => (((repeat' (first | exact rfl | exact trivial | exact okE_slE | exact okP_slV rfl | refine And.intro ?_ ?_)); done))); (case i1 => simp only; omega); (case i2 => simp only; omega); (case i6 => simp only; omega))
    · have hi2 : ¬ (i : Int) ≤ (n : Int) := by omega
      have hi5 : (n : Int) < (i : Int) := by omega
      have hp2 : PS A B c t W (lst own) [] := by
        have e : n - i = 0 := by omega
        rw [e] at hp; exact hp
      have hol : (lst own).length ≤ 10 := hp.own_le
      have hXk := hXPk A B true
      rcases own with _ | l
      · dsimp only [kT1, kH1, slV, slE]
        refine sxb hXk [.r 20] [] 4000 rfl (by (simp [-List.getD_eq_getElem?_getD, -List.length_eq_zero_iff, conjP] <;> (first | omega | ((repeat' (refine And.intro ?_ ?_)) <;> (first | omega | exact decide_eq_false (by omega) | exact decide_eq_true (by omega)))))) ?_
        refine sxb hXk [.r 20] [.F] 4000 rfl (by (simp [-List.getD_eq_getElem?_getD, -List.length_eq_zero_iff, conjP, addOP, hi2] <;> (first | omega | ((repeat' (refine And.intro ?_ ?_)) <;> (first | omega | exact decide_eq_false (by omega) | exact decide_eq_true (by omega)))))) ?_
        (refine ss_sub hXk (T' := kT2s (.raw (.slice ad 0 0)) c none) (H' := kH1 .absent A B ⟨W, st, kd, wd, vl, ch⟩ none) [0, 1, 2, 3, 4] rfl rfl rfl rfl (by (repeat' (first | exact rfl | exact trivial | exact sim_refl _ | refine And.intro ?_ ?_))) (by (((repeat' (first | exact rfl | exact trivial | exact sim_refl _ | exact subE_same rfl ren_slE | exact sim_slV rfl | assumption | (simp [lst]; done) | (simp [lst]; omega) | refine And.intro ?_ ?_)); done))) (by (repeat' (first | exact rfl | exact trivial | exact sim_refl _ | refine And.intro ?_ ?_))) (by (((repeat' (first | exact rfl | exact trivial | exact okE_slE | exact okP_slV rfl | refine And.intro ?_ ?_)); done))) ?_; exact lp2 (t := t) (by omega) ⟨hs, hp2⟩)
      · dsimp only [kT1, kH1, slV, slE]
        refine sxb hXk [.r 20] [] 4000 rfl (by (simp [-List.getD_eq_getElem?_getD, -List.length_eq_zero_iff, conjP] <;> (first | omega | ((repeat' (refine And.intro ?_ ?_)) <;> (first | omega | exact decide_eq_false (by omega) | exact decide_eq_true (by omega)))))) ?_
        refine sxb hXk [.r 20] [.F] 4000 rfl (by (simp [-List.getD_eq_getElem?_getD, -List.length_eq_zero_iff, conjP, addOP, hi2] <;> (first | omega | ((repeat' (refine And.intro ?_ ?_)) <;> (first | omega | exact decide_eq_false (by omega) | exact decide_eq_true (by omega)))))) ?_
        (refine ss_sub hXk (T' := kT2s (.raw (.slice ad 0 0)) c (some l)) (H' := kH1 .absent A B ⟨W, st, kd, wd, vl, ch⟩ (some l)) [0, 1, 2, 3, 4] rfl rfl rfl rfl (by (repeat' (first | exact rfl | exact trivial | exact sim_refl _ | refine And.intro ?_ ?_))) (by (((repeat' (first | exact rfl | exact trivial | exact sim_refl _ | exact subE_same rfl ren_slE | exact sim_slV rfl | assumption | (simp [lst]; done) | (simp [lst]; omega) | refine And.intro ?_ ?_)); done))) (by (repeat' (first | exact rfl | exact trivial | exact sim_refl _ | refine And.intro ?_ ?_))) (by (((repeat' (first | exact rfl | exact trivial | exact okE_slE | exact okP_slV rfl | refine And.intro ?_ ?_)); done))) ?_; exact lp2 (t := t) (by omega) ⟨hs, hp2⟩)
end
set_option maxHeartbeats 16000000 in
theorem whole (l0 l1 q : Int) (z : List Int) (cap : Nat) (ad : Option Addr) : Gives Try.prog 5 [L2 l0 l1, .int .i64 q, .raw (.slice ad 0 0)] [HE.absent] (Is .tt [HE.absent]) := by
  have hA := cMod6 l0
  have hB := cMod6 l1
  refine gives_x (hXPk 0 0 true) (fn := Try.f5) rfl rfl rfl rfl fun ρ w => ?_
  refine sxb (hXPk 0 0 true) [.r 3] [] 4000 rfl (by first | exact trivial | simp [conjP]) ?_
  generalize cMod 6 l0 = A at *
  generalize cMod 6 l1 = B at *
  have hr := pool_right hA.1 hA.2 hB.1 hB.2
  have hst := mkA_st hr
  have hc := and1 q
  have hcc : ibits .and .i64 q 1 = 0 ∨ ibits .and .i64 q 1 = 1 := by omega
  refine sxb (hXPk 0 0 true) [.r 5] [] 4000 rfl (by simp [conjP, hr]) ?_
  refine ss_sw (hXPk 0 0 true) (sw_ss (hXPk A B true) (cs := []) ?_)
  have hXk := hXPk A B true
  rcases hcc with hcc | hcc
  · refine ss_sub hXk (T' := kTc (.raw (.slice ad 0 0)) 0) (H' := kH0 .absent A B ⟨(mkA 1 4 1 2 4 A 6 B 2).W, (mkA 1 4 1 2 4 A 6 B 2).st, 2, (mkA 1 4 1 2 4 A 6 B 2).wd, (mkA 1 4 1 2 4 A 6 B 2).vl, true⟩) [0, 2, 3, 4] rfl rfl rfl rfl ?tt (by (((repeat' (first | exact rfl | exact trivial | exact sim_refl _ | exact subE_same rfl ren_slE | exact sim_slV rfl | assumption | (simp [lst]; done) | (simp [lst]; omega) | refine And.intro ?_ ?_)); done))) (by (repeat' (first | exact rfl | exact trivial | exact sim_refl _ | refine And.intro ?_ ?_))) (by (((repeat' (first | exact rfl | exact trivial | exact okE_slE | exact okP_slV rfl | refine And.intro ?_ ?_)); done))) ?_
    case tt => exact ⟨by (repeat' (first | exact rfl | exact trivial | exact sim_refl _ | refine And.intro ?_ ?_)), by (repeat' (first | exact rfl | exact trivial | exact sim_refl _ | refine And.intro ?_ ?_)), by (repeat' (first | exact rfl | exact trivial | exact sim_refl _ | refine And.intro ?_ ?_)), by (repeat' (first | exact rfl | exact trivial | exact sim_refl _ | refine And.intro ?_ ?_)), ⟨rfl, hcc⟩, trivial⟩
    dsimp only [kTc, kH0]
    refine sxb hXk [.r 8] [] 4000 rfl (by (simp [-List.getD_eq_getElem?_getD, -List.length_eq_zero_iff, conjP] <;> (first | omega | ((repeat' (refine And.intro ?_ ?_)) <;> (first | omega | exact decide_eq_false (by omega) | exact decide_eq_true (by omega)))))) ?_
    (refine ss_sub hXk (T' := kT1s (.raw (.slice ad 0 0)) 0 A) (H' := kH0 .absent A B ⟨(mkA 1 4 1 2 4 A 6 B 2).W, (mkA 1 4 1 2 4 A 6 B 2).st, 2, (mkA 1 4 1 2 4 A 6 B 2).wd, (mkA 1 4 1 2 4 A 6 B 2).vl, true⟩) [0, 1, 2, 3] rfl rfl rfl rfl (by (repeat' (first | exact rfl | exact trivial | exact sim_refl _ | refine And.intro ?_ ?_))) (by (((repeat' (first | exact rfl | exact trivial | exact sim_refl _ | exact subE_same rfl ren_slE | exact sim_slV rfl | assumption | (simp [lst]; done) | (simp [lst]; omega) | refine And.intro ?_ ?_)); done))) (by (repeat' (first | exact rfl | exact trivial | exact sim_refl _ | refine And.intro ?_ ?_))) (by (((repeat' (first | exact rfl | exact trivial | exact okE_slE | exact okP_slV rfl | refine And.intro ?_ ?_)); done))) ?_; exact lp1 (show A.toNat ≤ 5 by omega) (by omega) (show (0 : Int) * A = 0 by simp) (by omega) ⟨by simp only; omega, ps_0 (c := 0) hA hB (by omega)⟩)
  · refine ss_sub hXk (T' := kTc (.raw (.slice ad 0 0)) 1) (H' := kH0 .absent A B ⟨(mkA 1 4 1 2 4 A 6 B 2).W, (mkA 1 4 1 2 4 A 6 B 2).st, 2, (mkA 1 4 1 2 4 A 6 B 2).wd, (mkA 1 4 1 2 4 A 6 B 2).vl, true⟩) [0, 2, 3, 4] rfl rfl rfl rfl ?tt (by (((repeat' (first | exact rfl | exact trivial | exact sim_refl _ | exact subE_same rfl ren_slE | exact sim_slV rfl | assumption | (simp [lst]; done) | (simp [lst]; omega) | refine And.intro ?_ ?_)); done))) (by (repeat' (first | exact rfl | exact trivial | exact sim_refl _ | refine And.intro ?_ ?_))) (by (((repeat' (first | exact rfl | exact trivial | exact okE_slE | exact okP_slV rfl | refine And.intro ?_ ?_)); done))) ?_
    case tt => exact ⟨by (repeat' (first | exact rfl | exact trivial | exact sim_refl _ | refine And.intro ?_ ?_)), by (repeat' (first | exact rfl | exact trivial | exact sim_refl _ | refine And.intro ?_ ?_)), by (repeat' (first | exact rfl | exact trivial | exact sim_refl _ | refine And.intro ?_ ?_)), by (repeat' (first | exact rfl | exact trivial | exact sim_refl _ | refine And.intro ?_ ?_)), ⟨rfl, hcc⟩, trivial⟩
    dsimp only [kTc, kH0]
    refine sxb hXk [.r 8] [] 4000 rfl (by (simp [-List.getD_eq_getElem?_getD, -List.length_eq_zero_iff, conjP] <;> (first | omega | ((repeat' (refine And.intro ?_ ?_)) <;> (first | omega | exact decide_eq_false (by omega) | exact decide_eq_true (by omega)))))) ?_
    (refine ss_sub hXk (T' := kT1s (.raw (.slice ad 0 0)) 1 B) (H' := kH0 .absent A B ⟨(mkA 1 4 1 2 4 A 6 B 2).W, (mkA 1 4 1 2 4 A 6 B 2).st, 2, (mkA 1 4 1 2 4 A 6 B 2).wd, (mkA 1 4 1 2 4 A 6 B 2).vl, true⟩) [0, 1, 2, 3] rfl rfl rfl rfl (by (repeat' (first | exact rfl | exact trivial | exact sim_refl _ | refine And.intro ?_ ?_))) (by (((repeat' (first | exact rfl | exact trivial | exact sim_refl _ | exact subE_same rfl ren_slE | exact sim_slV rfl | assumption | (simp [lst]; done) | (simp [lst]; omega) | refine And.intro ?_ ?_)); done))) (by (repeat' (first | exact rfl | exact trivial | exact sim_refl _ | refine And.intro ?_ ?_))) (by (((repeat' (first | exact rfl | exact trivial | exact okE_slE | exact okP_slV rfl | refine And.intro ?_ ?_)); done))) ?_; exact lp1 (show B.toNat ≤ 5 by omega) (by omega) (show (1 : Int) * A = A by simp) (by omega) ⟨by simp only; omega, by have := ps_0 (c := 1) hA hB (by omega); rw [Int.add_comm 1 A]; simpa using this⟩)
end kn
end Go.Proofs.Ytmghcelohnlceaa
