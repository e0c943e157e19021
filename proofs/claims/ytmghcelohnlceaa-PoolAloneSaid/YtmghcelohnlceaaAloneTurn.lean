/- A turn of one client. -/
import Derived.Test.YtmghcelohnlceaaPoolHeap
namespace Go.Proofs.Ytmghcelohnlceaa
open Go Go.Hx
set_option maxRecDepth 8000
def ctal (A B : Int) (b1 b3 : Bool) : Nat → Option Hx.Spec
  | 13 => some (tkStepS A B b1 b3)
  | 15 => some (gvStepS A B b3)
  | 63 => some (pureS rightS)
  | 48 => some (pureS rightS)
  | 42 => some (pureS (placeS classF))
  | 50 => some (pureS (placeS classF))
  | 40 => some (pureS pHeadS)
  | 10 => some (makeS)
  | 17 => some (arWordsS)
  | 9 => some (pureS cfgPS)
  | 8 => some (pureS awPS)
  | _ => none
theorem ctal_ok (A B : Int) (b1 b3 : Bool) : ∀ f s args H ob V L, ctal A B b1 b3 f = some s → s args H = some (ob, V, L) → AllP ob → Gives Try.prog f args H (Is V L) := by
  intro f s args H ob V L h hs ho
  unfold ctal at h
  split at h
  · simp at h; subst h; exact tkStepS_ok hs ho
  · simp at h; subst h; exact gvStepS_ok hs ho
  · simp at h; subst h; exact pureS_ok ⟨_, hTE⟩ (rightS_ok right63) hs ho
  · simp at h; subst h; exact pureS_ok ⟨_, hTE⟩ (rightS_ok right48) hs ho
  · simp at h; subst h; exact pureS_ok ⟨_, hTE⟩ (placeS_ok (v := classF) class_fn) hs ho
  · simp at h; subst h; exact pureS_ok ⟨_, hTE⟩ (placeS_ok (v := classF) rclass_fn) hs ho
  · simp at h; subst h; exact pureS_ok ⟨_, hTE⟩ (pHeadS_ok) hs ho
  · simp at h; subst h; exact makeS_ok hs ho
  · simp at h; subst h; exact arWordsS_ok hs ho
  · simp at h; subst h; exact pureS_ok ⟨_, hTE⟩ (cfgPS_ok) hs ho
  · simp at h; subst h; exact pureS_ok ⟨_, hTE⟩ (awPS_ok) hs ho
  · simp at h
noncomputable def Xal (A B : Int) (b1 b3 : Bool) : Tabs := tabs tr ft xt (fun _ => none) (ctal A B b1 b3) 0
theorem hXal (A B : Int) (b1 b3 : Bool) : TOk Try.prog (Xal A B b1 b3) := ⟨hTE, hFT, (ctal_ok A B b1 b3), hXT, fun t ks h => by simp [Xal, tabs] at h, mixed⟩
abbrev cfO (A B : Int) : HE := .obj (.cells [.int .i64 1, .int .i64 4, .int .i64 1, .int .i64 2, .int .i64 4, .int .i64 A, .int .i64 6, .int .i64 B, .int .i64 2] 29)
abbrev VV := Value × Value
abbrev cqO (a b d : Nat) (c : Pk) (p : VV) : HE := .obj (.cells [slV c.own b, tkP c.ph d, gvP c.ph d, .raw p.1, .raw p.2] 43)
structure SP where
  (W : List Int) (st kd wd vl : Int) (ch : Bool)
def sqT (n cap i : Nat) (wh : Int) : List (Nat × SV) := [(2, .int .i64 wh), (1, .slice 0 0 n cap), (7, .tt), (8, .ptr 1 0), (9, .ptr 3 0), (11, .slice 4 0 4 4), (12, .int .i64 (i : Int)), (13, .ptr 5 0)]
def sqTj (n cap i : Nat) (wh : Int) : List (Nat × SV) := [(2, .int .i64 wh), (1, .slice 0 0 n cap), (7, .tt), (8, .ptr 1 0), (9, .ptr 3 0), (11, .slice 4 0 4 4), (12, .int .i64 ((i + 1 : Nat) : Int))]
def sqH (n : Nat) (o : Nat → ActP) (A B : Int) (x : SP) (c : Pk) (p : VV) : List HE :=
  [.obj (.rows n 3 (actRow o)), cfO A B, WO x.W, AOx 2 x.W x.st x.kd x.wd x.vl x.ch, .opq, cqO 5 6 7 c p, slE c.own .i64 3, phE A B 7 c.ph]
def sqJ (n : Nat) (o : Nat → ActP) (A B : Int) (c0 : Pk) (x : SP) (c : Pk) (p : VV) : List HE :=
  [.obj (.rows n 3 (actRow o)), cfO A B, WO x.W, AOx 2 x.W x.st x.kd x.wd x.vl x.ch, .opq, cqO 5 8 9 c p, (slE c0.own .i64 3).dim, (phE A B 7 c0.ph).dim, slE c.own .i64 3, phE A B 9 c.ph]
def sigP (t : Nat) (H : List HE) : Option (List Nat) :=
  match hdlF H 5 0 60, (match t with | 0 => some 61 | j => hdlF H 5 j 61) with
  | some a, some b => some [0, 1, 2, 3, 4, 5, 6, 7, a, b]
  | _, _ => none
structure PQ where
  x : SP
  c : Pk
  p : VV
def qPa (A B : Int) (i mi : Nat) (k : Nat → Pk) (q : PQ) : Prop := (0 ≤ q.x.st ∧ q.x.st ≤ 30 + ((i + 1 : Nat) : Int)) ∧ ∃ L, InvQ A B (i + 1) q.x.W (kset k mi q.c) L

theorem and1 (x : Int) : 0 ≤ ibits .and .i64 x 1 ∧ ibits .and .i64 x 1 ≤ 1 := andB (m := 1) x 1 (by decide) (by decide)
theorem getD_mem {l : List Int} {d : Nat} (h : d < l.length) : l.getD d 0 ∈ l := by
  rw [List.getD_eq_getElem?_getD, List.getElem?_eq_getElem h]; exact List.getElem_mem h
section
variable {n cap : Nat} {wh : Int} {o : Nat → ActP} {A B : Int} {i mi : Nat} {k : Nat → Pk} {L : Int → List Int} {ρ : Nat → Nat × Nat} {w : World} {I J0 : Act → World → Prop} {W : List Int} {st kd wd vl : Int} {ch : Bool} {p : VV} {own : Option (List Int)} {b1 b3 : Bool}
abbrev JP (A B : Int) (b1 b3 : Bool) (n cap i mi : Nat) (wh : Int) (o : Nat → ActP) (k : Nat → Pk) (ρ : Nat → Nat × Nat) (w : World) (J0 : Act → World → Prop) (x : SP) (c : Pk) (p : VV) : Prop :=
  ∀ q : PQ, qPa A B i mi k q → ∀ cs T H, Sub (FEnv Try.prog (Xal A B b1 b3).TE (hXal A B b1 b3).te Try.f4 Try.f4.ntmps (sqH n o A B x c p) Not2 ρ w) T H (sqTj n cap i wh) (sqJ n o A B c q.x q.c q.p) → SS (hXal A B b1 b3) (At ρ w) Not2 ⟨cs, [], Try.f4, Try.f4.ntmps, sqH n o A B x c p, [.lp J0], T, H⟩
abbrev GP (A B : Int) (b1 b3 : Bool) (n cap i : Nat) (wh : Int) (o : Nat → ActP) (ρ : Nat → Nat × Nat) (w : World) (I J0 : Act → World → Prop) (x : SP) (c : Pk) (p : VV) : Prop :=
  SS (hXal A B b1 b3) (At ρ w) Not2 ⟨[], [], Try.f4, Try.f4.ntmps, sqH n o A B x c p, upLp (contF Try.f4 11 [I]) ++ [.lp J0], sqT n cap i wh, sqH n o A B x c p⟩
structure TurnH (A B : Int) (n i mi : Nat) (k : Nat → Pk) (L : Int → List Int) (W : List Int) (st : Int) : Prop where
  hin : i < n
  hi : i < 100
  inv : InvQ A B i W k L
  s0 : 0 ≤ st
  s1 : st ≤ 30 + (i : Int)
  hm : mi < 4
theorem TurnH.facts (h : TurnH A B n i mi k L W st) : rightB 1 4 1 2 4 A 6 B 2 = true ∧ ((W.length : Int) = 16 + A * 5 + B * 7) ∧ (∀ j, 0 ≤ W.getD j 0 ∧ W.getD j 0 < 18446744073709551616) ∧ IntKind.i64.wrap ((i : Int) + 1) = ((i + 1 : Nat) : Int) ∧ st < 1000000 := by
  have h1 := h.inv.a0
  have h2 := h.inv.a1
  have h3 := h.inv.b0
  have h4 := h.inv.b1
  have h5 := h.s1
  have h6 := h.hi
  refine ⟨pool_right h1 h2 h3 h4, ?_, h.inv.bd, by rw [wi64 (by omega) (by omega)]; omega, by omega⟩
  have e := h.inv.len
  rw [szP_eq] at e
  omega

set_option maxHeartbeats 16000000 in
theorem al_t1y (h : TurnH A B n i mi k L W st) {c s b f : Int} (hc : k mi = ⟨own, .t1 c s b f⟩) (hcl : classV A B (W.getD (3 + c).toNat 0 % 4294967296) = c) (J : JP A B true true n cap i mi wh o k ρ w J0 ⟨W, st, kd, wd, vl, ch⟩ ⟨own, .t1 c s b f⟩ p) : GP A B true true n cap i wh o ρ w I J0 ⟨W, st, kd, wd, vl, ch⟩ ⟨own, .t1 c s b f⟩ p := by
  obtain ⟨hr, hl, bd, ewi, hst1⟩ := h.facts
  have hst0 := h.s0
  have hst2 := h.s1
  have hin := h.hin
  have hi := h.hi
  have hp := h.inv.ph mi h.hm
  rw [hc] at hp
  have hc0 : 0 ≤ c ∧ c ≤ 1 := hp
  have hXq := hXal A B true true
  unfold GP
  rcases own with _ | l
  · dsimp only [sqT, sqH, tkP, gvP, phE, phO, tkO, gvO]
    refine sxb hXq [.l] [] 4000 rfl (by (simp [-List.getD_eq_getElem?_getD, -List.length_eq_zero_iff, conjP, hr, hl, hst0, hst1, bd, hin, hc0, hcl, tkO, phO] <;> (first | omega | ((repeat' (refine And.intro ?_ ?_)) <;> (first | omega | exact decide_eq_false (by omega) | exact decide_eq_true (by omega)))))) ?_
    (refine ss_raw hXq 5 3 rfl rfl fun v3 => ?_; refine ss_raw hXq 5 4 rfl rfl fun v4 => ?_; refine' J ⟨⟨_, st + 1, _, _, _, _⟩, ⟨none, .t2 c (W.getD (3 + c).toNat 0) (W.getD (3 + c).toNat 0 % 4294967296) f⟩, v3, v4⟩ ⟨⟨?s0, ?s1⟩, ?iv⟩ _ _ _ (sub_ofD (sigP 1) rfl rfl rfl rfl rfl ?ht ?hh (by (repeat' (first | exact rfl | exact trivial | exact sim_refl _ | refine And.intro ?_ ?_))) ?ok); (case ht => exact ⟨by (repeat' (first | exact rfl | exact trivial | exact sim_refl _ | refine And.intro ?_ ?_)), by (repeat' (first | exact rfl | exact trivial | exact sim_refl _ | refine And.intro ?_ ?_)), by (repeat' (first | exact rfl | exact trivial | exact sim_refl _ | refine And.intro ?_ ?_)), by (repeat' (first | exact rfl | exact trivial | exact sim_refl _ | refine And.intro ?_ ?_)), by (repeat' (first | exact rfl | exact trivial | exact sim_refl _ | refine And.intro ?_ ?_)), by (repeat' (first | exact rfl | exact trivial | exact sim_refl _ | refine And.intro ?_ ?_)), ⟨rfl, ewi⟩, trivial⟩); (case hh => (((repeat' (first | exact rfl | exact trivial | exact sim_refl _ | exact subE_same rfl ren_slE | exact subE_phE rfl rfl | exact sim_slV rfl | exact sim_tkP rfl | exact sim_gvP rfl | assumption | (simp [lst]; done) | (simp [lst]; omega) | refine And.intro ?_ ?_)); done))); (case ok => (((repeat' (first | exact rfl | exact trivial | exact okE_slE | exact okE_phE rfl | exact okP_slV rfl | exact okP_tkP (A := 0) (B := 0) rfl | exact okP_gvP (A := 0) (B := 0) rfl | refine And.intro ?_ ?_)); done))); (case iv => exact ⟨L, q_t1y h.inv h.hm hc rfl hcl⟩); (case s0 => simp only; omega); (case s1 => simp only; omega))
  · dsimp only [sqT, sqH, tkP, gvP, phE, phO, tkO, gvO]
    refine sxb hXq [.l] [] 4000 rfl (by (simp [-List.getD_eq_getElem?_getD, -List.length_eq_zero_iff, conjP, hr, hl, hst0, hst1, bd, hin, hc0, hcl, tkO, phO] <;> (first | omega | ((repeat' (refine And.intro ?_ ?_)) <;> (first | omega | exact decide_eq_false (by omega) | exact decide_eq_true (by omega)))))) ?_
    (refine ss_raw hXq 5 3 rfl rfl fun v3 => ?_; refine ss_raw hXq 5 4 rfl rfl fun v4 => ?_; refine' J ⟨⟨_, st + 1, _, _, _, _⟩, ⟨some l, .t2 c (W.getD (3 + c).toNat 0) (W.getD (3 + c).toNat 0 % 4294967296) f⟩, v3, v4⟩ ⟨⟨?s0, ?s1⟩, ?iv⟩ _ _ _ (sub_ofD (sigP 1) rfl rfl rfl rfl rfl ?ht ?hh (by (repeat' (first | exact rfl | exact trivial | exact sim_refl _ | refine And.intro ?_ ?_))) ?ok); (case ht => exact ⟨by (repeat' (first | exact rfl | exact trivial | exact sim_refl _ | refine And.intro ?_ ?_)), by (repeat' (first | exact rfl | exact trivial | exact sim_refl _ | refine And.intro ?_ ?_)), by (repeat' (first | exact rfl | exact trivial | exact sim_refl _ | refine And.intro ?_ ?_)), by (repeat' (first | exact rfl | exact trivial | exact sim_refl _ | refine And.intro ?_ ?_)), by (repeat' (first | exact rfl | exact trivial | exact sim_refl _ | refine And.intro ?_ ?_)), by (repeat' (first | exact rfl | exact trivial | exact sim_refl _ | refine And.intro ?_ ?_)), ⟨rfl, ewi⟩, trivial⟩); (case hh => (((repeat' (first | exact rfl | exact trivial | exact sim_refl _ | exact subE_same rfl ren_slE | exact subE_phE rfl rfl | exact sim_slV rfl | exact sim_tkP rfl | exact sim_gvP rfl | assumption | (simp [lst]; done) | (simp [lst]; omega) | refine And.intro ?_ ?_)); done))); (case ok => (((repeat' (first | exact rfl | exact trivial | exact okE_slE | exact okE_phE rfl | exact okP_slV rfl | exact okP_tkP (A := 0) (B := 0) rfl | exact okP_gvP (A := 0) (B := 0) rfl | refine And.intro ?_ ?_)); done))); (case iv => exact ⟨L, q_t1y h.inv h.hm hc rfl hcl⟩); (case s0 => simp only; omega); (case s1 => simp only; omega))
set_option maxHeartbeats 16000000 in
theorem al_t1n (h : TurnH A B n i mi k L W st) {c s b f : Int} (hc : k mi = ⟨own, .t1 c s b f⟩) (hcl : ¬ classV A B (W.getD (3 + c).toNat 0 % 4294967296) = c) (J : JP A B false true n cap i mi wh o k ρ w J0 ⟨W, st, kd, wd, vl, ch⟩ ⟨own, .t1 c s b f⟩ p) : GP A B false true n cap i wh o ρ w I J0 ⟨W, st, kd, wd, vl, ch⟩ ⟨own, .t1 c s b f⟩ p := by
  obtain ⟨hr, hl, bd, ewi, hst1⟩ := h.facts
  have hst0 := h.s0
  have hst2 := h.s1
  have hin := h.hin
  have hi := h.hi
  have hp := h.inv.ph mi h.hm
  rw [hc] at hp
  have hc0 : 0 ≤ c ∧ c ≤ 1 := hp
  have hXq := hXal A B false true
  unfold GP
  rcases own with _ | l
  · dsimp only [sqT, sqH, tkP, gvP, phE, phO, tkO, gvO]
    refine sxb hXq [.l] [] 4000 rfl (by (simp [-List.getD_eq_getElem?_getD, -List.length_eq_zero_iff, conjP, hr, hl, hst0, hst1, bd, hin, hc0, hcl, tkO, phO] <;> (first | omega | ((repeat' (refine And.intro ?_ ?_)) <;> (first | omega | exact decide_eq_false (by omega) | exact decide_eq_true (by omega)))))) ?_
    refine sxb hXq [.l] [.F] 4000 rfl (by (simp [-List.getD_eq_getElem?_getD, -List.length_eq_zero_iff, conjP, addOP] <;> (first | omega | ((repeat' (refine And.intro ?_ ?_)) <;> (first | omega | exact decide_eq_false (by omega) | exact decide_eq_true (by omega)))))) ?_
    (refine ss_raw hXq 5 3 rfl rfl fun v3 => ?_; refine ss_raw hXq 5 4 rfl rfl fun v4 => ?_; refine' J ⟨⟨_, st + 1, _, _, _, _⟩, ⟨none, .idle⟩, v3, v4⟩ ⟨⟨?s0, ?s1⟩, ?iv⟩ _ _ _ (sub_ofD (sigP 0) rfl rfl rfl rfl rfl ?ht ?hh (by (repeat' (first | exact rfl | exact trivial | exact sim_refl _ | refine And.intro ?_ ?_))) ?ok); (case ht => exact ⟨by (repeat' (first | exact rfl | exact trivial | exact sim_refl _ | refine And.intro ?_ ?_)), by (repeat' (first | exact rfl | exact trivial | exact sim_refl _ | refine And.intro ?_ ?_)), by (repeat' (first | exact rfl | exact trivial | exact sim_refl _ | refine And.intro ?_ ?_)), by (repeat' (first | exact rfl | exact trivial | exact sim_refl _ | refine And.intro ?_ ?_)), by (repeat' (first | exact rfl | exact trivial | exact sim_refl _ | refine And.intro ?_ ?_)), by (repeat' (first | exact rfl | exact trivial | exact sim_refl _ | refine And.intro ?_ ?_)), ⟨rfl, ewi⟩, trivial⟩); (case hh => (((repeat' (first | exact rfl | exact trivial | exact sim_refl _ | exact subE_same rfl ren_slE | exact subE_phE rfl rfl | exact sim_slV rfl | exact sim_tkP rfl | exact sim_gvP rfl | assumption | (simp [lst]; done) | (simp [lst]; omega) | refine And.intro ?_ ?_)); done))); (case ok => (((repeat' (first | exact rfl | exact trivial | exact okE_slE | exact okE_phE rfl | exact okP_slV rfl | exact okP_tkP (A := 0) (B := 0) rfl | exact okP_gvP (A := 0) (B := 0) rfl | refine And.intro ?_ ?_)); done))); (case iv => exact ⟨L, q_t1n h.inv h.hm hc⟩); (case s0 => simp only; omega); (case s1 => simp only; omega))
  · dsimp only [sqT, sqH, tkP, gvP, phE, phO, tkO, gvO]
    refine sxb hXq [.l] [] 4000 rfl (by (simp [-List.getD_eq_getElem?_getD, -List.length_eq_zero_iff, conjP, hr, hl, hst0, hst1, bd, hin, hc0, hcl, tkO, phO] <;> (first | omega | ((repeat' (refine And.intro ?_ ?_)) <;> (first | omega | exact decide_eq_false (by omega) | exact decide_eq_true (by omega)))))) ?_
    refine sxb hXq [.l] [.F] 4000 rfl (by (simp [-List.getD_eq_getElem?_getD, -List.length_eq_zero_iff, conjP, addOP] <;> (first | omega | ((repeat' (refine And.intro ?_ ?_)) <;> (first | omega | exact decide_eq_false (by omega) | exact decide_eq_true (by omega)))))) ?_
    (refine ss_raw hXq 5 3 rfl rfl fun v3 => ?_; refine ss_raw hXq 5 4 rfl rfl fun v4 => ?_; refine' J ⟨⟨_, st + 1, _, _, _, _⟩, ⟨some l, .idle⟩, v3, v4⟩ ⟨⟨?s0, ?s1⟩, ?iv⟩ _ _ _ (sub_ofD (sigP 0) rfl rfl rfl rfl rfl ?ht ?hh (by (repeat' (first | exact rfl | exact trivial | exact sim_refl _ | refine And.intro ?_ ?_))) ?ok); (case ht => exact ⟨by (repeat' (first | exact rfl | exact trivial | exact sim_refl _ | refine And.intro ?_ ?_)), by (repeat' (first | exact rfl | exact trivial | exact sim_refl _ | refine And.intro ?_ ?_)), by (repeat' (first | exact rfl | exact trivial | exact sim_refl _ | refine And.intro ?_ ?_)), by (repeat' (first | exact rfl | exact trivial | exact sim_refl _ | refine And.intro ?_ ?_)), by (repeat' (first | exact rfl | exact trivial | exact sim_refl _ | refine And.intro ?_ ?_)), by (repeat' (first | exact rfl | exact trivial | exact sim_refl _ | refine And.intro ?_ ?_)), ⟨rfl, ewi⟩, trivial⟩); (case hh => (((repeat' (first | exact rfl | exact trivial | exact sim_refl _ | exact subE_same rfl ren_slE | exact subE_phE rfl rfl | exact sim_slV rfl | exact sim_tkP rfl | exact sim_gvP rfl | assumption | (simp [lst]; done) | (simp [lst]; omega) | refine And.intro ?_ ?_)); done))); (case ok => (((repeat' (first | exact rfl | exact trivial | exact okE_slE | exact okE_phE rfl | exact okP_slV rfl | exact okP_tkP (A := 0) (B := 0) rfl | exact okP_gvP (A := 0) (B := 0) rfl | refine And.intro ?_ ?_)); done))); (case iv => exact ⟨L, q_t1n h.inv h.hm hc⟩); (case s0 => simp only; omega); (case s1 => simp only; omega))
set_option maxHeartbeats 16000000 in
theorem al_t2 (h : TurnH A B n i mi k L W st) {c s b f : Int} (hc : k mi = ⟨own, .t2 c s b f⟩) (J : JP A B true true n cap i mi wh o k ρ w J0 ⟨W, st, kd, wd, vl, ch⟩ ⟨own, .t2 c s b f⟩ p) : GP A B true true n cap i wh o ρ w I J0 ⟨W, st, kd, wd, vl, ch⟩ ⟨own, .t2 c s b f⟩ p := by
  obtain ⟨hr, hl, bd, ewi, hst1⟩ := h.facts
  have hst0 := h.s0
  have hst2 := h.s1
  have hin := h.hin
  have hi := h.hi
  have hp := h.inv.ph mi h.hm
  rw [hc] at hp
  have hc0 : 0 ≤ c ∧ c ≤ 1 := hp.1
  have hcl := hp.2.2.2
  have hXq := hXal A B true true
  unfold GP
  rcases own with _ | l
  · dsimp only [sqT, sqH, tkP, gvP, phE, phO, tkO, gvO]
    refine sxb hXq [.l] [] 4000 rfl (by (simp [-List.getD_eq_getElem?_getD, -List.length_eq_zero_iff, conjP, hr, hl, hst0, hst1, bd, hin, hc0, hcl, tkO, phO] <;> (first | omega | ((repeat' (refine And.intro ?_ ?_)) <;> (first | omega | exact decide_eq_false (by omega) | exact decide_eq_true (by omega)))))) ?_
    (refine ss_raw hXq 5 3 rfl rfl fun v3 => ?_; refine ss_raw hXq 5 4 rfl rfl fun v4 => ?_; refine' J ⟨⟨_, st + 1, _, _, _, _⟩, ⟨none, .t3 c s b (W.getD (bkP A B b).toNat 0 % 4294967296)⟩, v3, v4⟩ ⟨⟨?s0, ?s1⟩, ?iv⟩ _ _ _ (sub_ofD (sigP 1) rfl rfl rfl rfl rfl ?ht ?hh (by (repeat' (first | exact rfl | exact trivial | exact sim_refl _ | refine And.intro ?_ ?_))) ?ok); (case ht => exact ⟨by (repeat' (first | exact rfl | exact trivial | exact sim_refl _ | refine And.intro ?_ ?_)), by (repeat' (first | exact rfl | exact trivial | exact sim_refl _ | refine And.intro ?_ ?_)), by (repeat' (first | exact rfl | exact trivial | exact sim_refl _ | refine And.intro ?_ ?_)), by (repeat' (first | exact rfl | exact trivial | exact sim_refl _ | refine And.intro ?_ ?_)), by (repeat' (first | exact rfl | exact trivial | exact sim_refl _ | refine And.intro ?_ ?_)), by (repeat' (first | exact rfl | exact trivial | exact sim_refl _ | refine And.intro ?_ ?_)), ⟨rfl, ewi⟩, trivial⟩); (case hh => (((repeat' (first | exact rfl | exact trivial | exact sim_refl _ | exact subE_same rfl ren_slE | exact subE_phE rfl rfl | exact sim_slV rfl | exact sim_tkP rfl | exact sim_gvP rfl | assumption | (simp [lst]; done) | (simp [lst]; omega) | refine And.intro ?_ ?_)); done))); (case ok => (((repeat' (first | exact rfl | exact trivial | exact okE_slE | exact okE_phE rfl | exact okP_slV rfl | exact okP_tkP (A := 0) (B := 0) rfl | exact okP_gvP (A := 0) (B := 0) rfl | refine And.intro ?_ ?_)); done))); (case iv => exact ⟨L, q_t2 h.inv h.hm hc rfl⟩); (case s0 => simp only; omega); (case s1 => simp only; omega))
  · dsimp only [sqT, sqH, tkP, gvP, phE, phO, tkO, gvO]
    refine sxb hXq [.l] [] 4000 rfl (by (simp [-List.getD_eq_getElem?_getD, -List.length_eq_zero_iff, conjP, hr, hl, hst0, hst1, bd, hin, hc0, hcl, tkO, phO] <;> (first | omega | ((repeat' (refine And.intro ?_ ?_)) <;> (first | omega | exact decide_eq_false (by omega) | exact decide_eq_true (by omega)))))) ?_
    (refine ss_raw hXq 5 3 rfl rfl fun v3 => ?_; refine ss_raw hXq 5 4 rfl rfl fun v4 => ?_; refine' J ⟨⟨_, st + 1, _, _, _, _⟩, ⟨some l, .t3 c s b (W.getD (bkP A B b).toNat 0 % 4294967296)⟩, v3, v4⟩ ⟨⟨?s0, ?s1⟩, ?iv⟩ _ _ _ (sub_ofD (sigP 1) rfl rfl rfl rfl rfl ?ht ?hh (by (repeat' (first | exact rfl | exact trivial | exact sim_refl _ | refine And.intro ?_ ?_))) ?ok); (case ht => exact ⟨by (repeat' (first | exact rfl | exact trivial | exact sim_refl _ | refine And.intro ?_ ?_)), by (repeat' (first | exact rfl | exact trivial | exact sim_refl _ | refine And.intro ?_ ?_)), by (repeat' (first | exact rfl | exact trivial | exact sim_refl _ | refine And.intro ?_ ?_)), by (repeat' (first | exact rfl | exact trivial | exact sim_refl _ | refine And.intro ?_ ?_)), by (repeat' (first | exact rfl | exact trivial | exact sim_refl _ | refine And.intro ?_ ?_)), by (repeat' (first | exact rfl | exact trivial | exact sim_refl _ | refine And.intro ?_ ?_)), ⟨rfl, ewi⟩, trivial⟩); (case hh => (((repeat' (first | exact rfl | exact trivial | exact sim_refl _ | exact subE_same rfl ren_slE | exact subE_phE rfl rfl | exact sim_slV rfl | exact sim_tkP rfl | exact sim_gvP rfl | assumption | (simp [lst]; done) | (simp [lst]; omega) | refine And.intro ?_ ?_)); done))); (case ok => (((repeat' (first | exact rfl | exact trivial | exact okE_slE | exact okE_phE rfl | exact okP_slV rfl | exact okP_tkP (A := 0) (B := 0) rfl | exact okP_gvP (A := 0) (B := 0) rfl | refine And.intro ?_ ?_)); done))); (case iv => exact ⟨L, q_t2 h.inv h.hm hc rfl⟩); (case s0 => simp only; omega); (case s1 => simp only; omega))
set_option maxHeartbeats 16000000 in
theorem al_t3y (h : TurnH A B n i mi k L W st) {c s b f : Int} (hc : k mi = ⟨own, .t3 c s b f⟩) (hsw : W.getD (3 + c).toNat 0 = s) (J : JP A B true true n cap i mi wh o k ρ w J0 ⟨W, st, kd, wd, vl, ch⟩ ⟨own, .t3 c s b f⟩ p) : GP A B true true n cap i wh o ρ w I J0 ⟨W, st, kd, wd, vl, ch⟩ ⟨own, .t3 c s b f⟩ p := by
  obtain ⟨hr, hl, bd, ewi, hst1⟩ := h.facts
  have hst0 := h.s0
  have hst2 := h.s1
  have hin := h.hin
  have hi := h.hi
  have hp := h.inv.ph mi h.hm
  rw [hc] at hp
  have hc0 : 0 ≤ c ∧ c ≤ 1 := hp.1
  have hs0 : 0 ≤ s ∧ s < 18446744073709551616 := ⟨hp.2.1.1, hp.2.1.2.1⟩
  have hb0 := cls_iff hc0.1 hp.2.2.2.1
  have hb1 : 0 < b := by omega
  obtain ⟨r, _, hq⟩ := q_t3y (o' := some (lst own ++ [b])) h.inv h.hm (by omega) hc hsw rfl
  rcases own with _ | l
  · have hlx : True := trivial
    have hXq := hXal A B true true
    unfold GP
    dsimp only [sqT, sqH, tkP, gvP, phE, phO, tkO, gvO]
    refine sxb hXq [.l] [] 4000 rfl (by (simp [-List.getD_eq_getElem?_getD, -List.length_eq_zero_iff, conjP, hr, hl, hst0, hst1, bd, hin, hc0, hs0, hsw, tkO, phO] <;> (first | omega | ((repeat' (refine And.intro ?_ ?_)) <;> (first | omega | exact decide_eq_false (by omega) | exact decide_eq_true (by omega)))))) ?_
    refine sxb hXq [.l] [.T] 4000 rfl (by (simp [-List.getD_eq_getElem?_getD, -List.length_eq_zero_iff, conjP, getH, HE.so, hb1] <;> (first | omega | ((repeat' (refine And.intro ?_ ?_)) <;> (first | omega | exact decide_eq_false (by omega) | exact decide_eq_true (by omega)))))) ?_
    (refine ss_raw hXq 5 3 rfl rfl fun v3 => ?_; refine ss_raw hXq 5 4 rfl rfl fun v4 => ?_; refine' J ⟨⟨_, st + 1, _, _, _, _⟩, ⟨some (lst (none) ++ [b]), .idle⟩, v3, v4⟩ ⟨⟨?s0, ?s1⟩, ?iv⟩ _ _ _ (sub_ofD (sigP 0) rfl rfl rfl rfl rfl ?ht ?hh (by (repeat' (first | exact rfl | exact trivial | exact sim_refl _ | refine And.intro ?_ ?_))) ?ok); (case ht => exact ⟨by (repeat' (first | exact rfl | exact trivial | exact sim_refl _ | refine And.intro ?_ ?_)), by (repeat' (first | exact rfl | exact trivial | exact sim_refl _ | refine And.intro ?_ ?_)), by (repeat' (first | exact rfl | exact trivial | exact sim_refl _ | refine And.intro ?_ ?_)), by (repeat' (first | exact rfl | exact trivial | exact sim_refl _ | refine And.intro ?_ ?_)), by (repeat' (first | exact rfl | exact trivial | exact sim_refl _ | refine And.intro ?_ ?_)), by (repeat' (first | exact rfl | exact trivial | exact sim_refl _ | refine And.intro ?_ ?_)), ⟨rfl, ewi⟩, trivial⟩); (case hh => (((repeat' (first | exact rfl | exact trivial | exact sim_refl _ | exact subE_same rfl ren_slE | exact subE_phE rfl rfl | exact sim_slV rfl | exact sim_tkP rfl | exact sim_gvP rfl | assumption | (simp [lst]; done) | (simp [lst]; omega) | refine And.intro ?_ ?_)); done))); (case ok => (((repeat' (first | exact rfl | exact trivial | exact okE_slE | exact okE_phE rfl | exact okP_slV rfl | exact okP_tkP (A := 0) (B := 0) rfl | exact okP_gvP (A := 0) (B := 0) rfl | refine And.intro ?_ ?_)); done))); (case iv => exact ⟨_, hq⟩); (case s0 => simp only; omega); (case s1 => simp only; omega))
  · have hln := own_len h.inv h.hm (l := l) (by rw [hc]; rfl)
    have hXq := hXal A B true true
    unfold GP
    dsimp only [sqT, sqH, tkP, gvP, phE, phO, tkO, gvO]
    refine sxb hXq [.l] [] 4000 rfl (by (simp [-List.getD_eq_getElem?_getD, -List.length_eq_zero_iff, conjP, hr, hl, hst0, hst1, bd, hin, hc0, hs0, hsw, tkO, phO] <;> (first | omega | ((repeat' (refine And.intro ?_ ?_)) <;> (first | omega | exact decide_eq_false (by omega) | exact decide_eq_true (by omega)))))) ?_
    refine sxb hXq [.l] [.T] 4000 rfl (by (simp [-List.getD_eq_getElem?_getD, -List.length_eq_zero_iff, conjP, getH, HE.so, hb1] <;> (first | omega | ((repeat' (refine And.intro ?_ ?_)) <;> (first | omega | exact decide_eq_false (by omega) | exact decide_eq_true (by omega)))))) ?_
    (refine ss_raw hXq 5 3 rfl rfl fun v3 => ?_; refine ss_raw hXq 5 4 rfl rfl fun v4 => ?_; refine' J ⟨⟨_, st + 1, _, _, _, _⟩, ⟨some (lst (some l) ++ [b]), .idle⟩, v3, v4⟩ ⟨⟨?s0, ?s1⟩, ?iv⟩ _ _ _ (sub_ofD (sigP 0) rfl rfl rfl rfl rfl ?ht ?hh (by (repeat' (first | exact rfl | exact trivial | exact sim_refl _ | refine And.intro ?_ ?_))) ?ok); (case ht => exact ⟨by (repeat' (first | exact rfl | exact trivial | exact sim_refl _ | refine And.intro ?_ ?_)), by (repeat' (first | exact rfl | exact trivial | exact sim_refl _ | refine And.intro ?_ ?_)), by (repeat' (first | exact rfl | exact trivial | exact sim_refl _ | refine And.intro ?_ ?_)), by (repeat' (first | exact rfl | exact trivial | exact sim_refl _ | refine And.intro ?_ ?_)), by (repeat' (first | exact rfl | exact trivial | exact sim_refl _ | refine And.intro ?_ ?_)), by (repeat' (first | exact rfl | exact trivial | exact sim_refl _ | refine And.intro ?_ ?_)), ⟨rfl, ewi⟩, trivial⟩); (case hh => (((repeat' (first | exact rfl | exact trivial | exact sim_refl _ | exact subE_same rfl ren_slE | exact subE_phE rfl rfl | exact sim_slV rfl | exact sim_tkP rfl | exact sim_gvP rfl | assumption | (simp [lst]; done) | (simp [lst]; omega) | refine And.intro ?_ ?_)); done))); (case ok => (((repeat' (first | exact rfl | exact trivial | exact okE_slE | exact okE_phE rfl | exact okP_slV rfl | exact okP_tkP (A := 0) (B := 0) rfl | exact okP_gvP (A := 0) (B := 0) rfl | refine And.intro ?_ ?_)); done))); (case iv => exact ⟨_, hq⟩); (case s0 => simp only; omega); (case s1 => simp only; omega))
set_option maxHeartbeats 16000000 in
theorem al_t3n (h : TurnH A B n i mi k L W st) {c s b f : Int} (hc : k mi = ⟨own, .t3 c s b f⟩) (hsw : ¬ W.getD (3 + c).toNat 0 = s) (J : JP A B true false n cap i mi wh o k ρ w J0 ⟨W, st, kd, wd, vl, ch⟩ ⟨own, .t3 c s b f⟩ p) : GP A B true false n cap i wh o ρ w I J0 ⟨W, st, kd, wd, vl, ch⟩ ⟨own, .t3 c s b f⟩ p := by
  obtain ⟨hr, hl, bd, ewi, hst1⟩ := h.facts
  have hst0 := h.s0
  have hst2 := h.s1
  have hin := h.hin
  have hi := h.hi
  have hp := h.inv.ph mi h.hm
  rw [hc] at hp
  have hc0 : 0 ≤ c ∧ c ≤ 1 := hp.1
  have hs0 : 0 ≤ s ∧ s < 18446744073709551616 := ⟨hp.2.1.1, hp.2.1.2.1⟩
  have hXq := hXal A B true false
  unfold GP
  rcases own with _ | l
  · dsimp only [sqT, sqH, tkP, gvP, phE, phO, tkO, gvO]
    refine sxb hXq [.l] [] 4000 rfl (by (simp [-List.getD_eq_getElem?_getD, -List.length_eq_zero_iff, conjP, hr, hl, hst0, hst1, bd, hin, hc0, hs0, hsw, tkO, phO] <;> (first | omega | ((repeat' (refine And.intro ?_ ?_)) <;> (first | omega | exact decide_eq_false (by omega) | exact decide_eq_true (by omega)))))) ?_
    (refine ss_raw hXq 5 3 rfl rfl fun v3 => ?_; refine ss_raw hXq 5 4 rfl rfl fun v4 => ?_; refine' J ⟨⟨_, st + 1, _, _, _, _⟩, ⟨none, .t1 c s b f⟩, v3, v4⟩ ⟨⟨?s0, ?s1⟩, ?iv⟩ _ _ _ (sub_ofD (sigP 1) rfl rfl rfl rfl rfl ?ht ?hh (by (repeat' (first | exact rfl | exact trivial | exact sim_refl _ | refine And.intro ?_ ?_))) ?ok); (case ht => exact ⟨by (repeat' (first | exact rfl | exact trivial | exact sim_refl _ | refine And.intro ?_ ?_)), by (repeat' (first | exact rfl | exact trivial | exact sim_refl _ | refine And.intro ?_ ?_)), by (repeat' (first | exact rfl | exact trivial | exact sim_refl _ | refine And.intro ?_ ?_)), by (repeat' (first | exact rfl | exact trivial | exact sim_refl _ | refine And.intro ?_ ?_)), by (repeat' (first | exact rfl | exact trivial | exact sim_refl _ | refine And.intro ?_ ?_)), by (repeat' (first | exact rfl | exact trivial | exact sim_refl _ | refine And.intro ?_ ?_)), ⟨rfl, ewi⟩, trivial⟩); (case hh => (((repeat' (first | exact rfl | exact trivial | exact sim_refl _ | exact subE_same rfl ren_slE | exact subE_phE rfl rfl | exact sim_slV rfl | exact sim_tkP rfl | exact sim_gvP rfl | assumption | (simp [lst]; done) | (simp [lst]; omega) | refine And.intro ?_ ?_)); done))); (case ok => (((repeat' (first | exact rfl | exact trivial | exact okE_slE | exact okE_phE rfl | exact okP_slV rfl | exact okP_tkP (A := 0) (B := 0) rfl | exact okP_gvP (A := 0) (B := 0) rfl | refine And.intro ?_ ?_)); done))); (case iv => exact ⟨L, q_t3n h.inv h.hm hc⟩); (case s0 => simp only; omega); (case s1 => simp only; omega))
  · dsimp only [sqT, sqH, tkP, gvP, phE, phO, tkO, gvO]
    refine sxb hXq [.l] [] 4000 rfl (by (simp [-List.getD_eq_getElem?_getD, -List.length_eq_zero_iff, conjP, hr, hl, hst0, hst1, bd, hin, hc0, hs0, hsw, tkO, phO] <;> (first | omega | ((repeat' (refine And.intro ?_ ?_)) <;> (first | omega | exact decide_eq_false (by omega) | exact decide_eq_true (by omega)))))) ?_
    (refine ss_raw hXq 5 3 rfl rfl fun v3 => ?_; refine ss_raw hXq 5 4 rfl rfl fun v4 => ?_; refine' J ⟨⟨_, st + 1, _, _, _, _⟩, ⟨some l, .t1 c s b f⟩, v3, v4⟩ ⟨⟨?s0, ?s1⟩, ?iv⟩ _ _ _ (sub_ofD (sigP 1) rfl rfl rfl rfl rfl ?ht ?hh (by (repeat' (first | exact rfl | exact trivial | exact sim_refl _ | refine And.intro ?_ ?_))) ?ok); (case ht => exact ⟨by (repeat' (first | exact rfl | exact trivial | exact sim_refl _ | refine And.intro ?_ ?_)), by (repeat' (first | exact rfl | exact trivial | exact sim_refl _ | refine And.intro ?_ ?_)), by (repeat' (first | exact rfl | exact trivial | exact sim_refl _ | refine And.intro ?_ ?_)), by (repeat' (first | exact rfl | exact trivial | exact sim_refl _ | refine And.intro ?_ ?_)), by (repeat' (first | exact rfl | exact trivial | exact sim_refl _ | refine And.intro ?_ ?_)), by (repeat' (first | exact rfl | exact trivial | exact sim_refl _ | refine And.intro ?_ ?_)), ⟨rfl, ewi⟩, trivial⟩); (case hh => (((repeat' (first | exact rfl | exact trivial | exact sim_refl _ | exact subE_same rfl ren_slE | exact subE_phE rfl rfl | exact sim_slV rfl | exact sim_tkP rfl | exact sim_gvP rfl | assumption | (simp [lst]; done) | (simp [lst]; omega) | refine And.intro ?_ ?_)); done))); (case ok => (((repeat' (first | exact rfl | exact trivial | exact okE_slE | exact okE_phE rfl | exact okP_slV rfl | exact okP_tkP (A := 0) (B := 0) rfl | exact okP_gvP (A := 0) (B := 0) rfl | refine And.intro ?_ ?_)); done))); (case iv => exact ⟨L, q_t3n h.inv h.hm hc⟩); (case s0 => simp only; omega); (case s1 => simp only; omega))
set_option maxHeartbeats 16000000 in
theorem al_g1 (h : TurnH A B n i mi k L W st) {b s : Int} (hc : k mi = ⟨own, .g1 b s⟩) (J : JP A B true true n cap i mi wh o k ρ w J0 ⟨W, st, kd, wd, vl, ch⟩ ⟨own, .g1 b s⟩ p) : GP A B true true n cap i wh o ρ w I J0 ⟨W, st, kd, wd, vl, ch⟩ ⟨own, .g1 b s⟩ p := by
  obtain ⟨hr, hl, bd, ewi, hst1⟩ := h.facts
  have hst0 := h.s0
  have hst2 := h.s1
  have hin := h.hin
  have hi := h.hi
  have hp := h.inv.ph mi h.hm
  rw [hc] at hp
  have hb0 : 1 ≤ b ∧ b ≤ A + B := hp
  have hXq := hXal A B true true
  unfold GP
  rcases own with _ | l
  · dsimp only [sqT, sqH, tkP, gvP, phE, phO, tkO, gvO]
    refine sxb hXq [.l] [] 4000 rfl (by (simp [-List.getD_eq_getElem?_getD, -List.length_eq_zero_iff, conjP, hr, hl, hst0, hst1, bd, hin, hb0, gvO, phO] <;> (first | omega | ((repeat' (refine And.intro ?_ ?_)) <;> (first | omega | exact decide_eq_false (by omega) | exact decide_eq_true (by omega)))))) ?_
    (refine ss_raw hXq 5 3 rfl rfl fun v3 => ?_; refine ss_raw hXq 5 4 rfl rfl fun v4 => ?_; refine' J ⟨⟨_, st + 1, _, _, _, _⟩, ⟨none, .g2 b (W.getD (3 + classV A B b).toNat 0)⟩, v3, v4⟩ ⟨⟨?s0, ?s1⟩, ?iv⟩ _ _ _ (sub_ofD (sigP 2) rfl rfl rfl rfl rfl ?ht ?hh (by (repeat' (first | exact rfl | exact trivial | exact sim_refl _ | refine And.intro ?_ ?_))) ?ok); (case ht => exact ⟨by (repeat' (first | exact rfl | exact trivial | exact sim_refl _ | refine And.intro ?_ ?_)), by (repeat' (first | exact rfl | exact trivial | exact sim_refl _ | refine And.intro ?_ ?_)), by (repeat' (first | exact rfl | exact trivial | exact sim_refl _ | refine And.intro ?_ ?_)), by (repeat' (first | exact rfl | exact trivial | exact sim_refl _ | refine And.intro ?_ ?_)), by (repeat' (first | exact rfl | exact trivial | exact sim_refl _ | refine And.intro ?_ ?_)), by (repeat' (first | exact rfl | exact trivial | exact sim_refl _ | refine And.intro ?_ ?_)), ⟨rfl, ewi⟩, trivial⟩); (case hh => (((repeat' (first | exact rfl | exact trivial | exact sim_refl _ | exact subE_same rfl ren_slE | exact subE_phE rfl rfl | exact sim_slV rfl | exact sim_tkP rfl | exact sim_gvP rfl | assumption | (simp [lst]; done) | (simp [lst]; omega) | refine And.intro ?_ ?_)); done))); (case ok => (((repeat' (first | exact rfl | exact trivial | exact okE_slE | exact okE_phE rfl | exact okP_slV rfl | exact okP_tkP (A := 0) (B := 0) rfl | exact okP_gvP (A := 0) (B := 0) rfl | refine And.intro ?_ ?_)); done))); (case iv => exact ⟨L, q_g1 h.inv h.hm hc rfl⟩); (case s0 => simp only; omega); (case s1 => simp only; omega))
  · dsimp only [sqT, sqH, tkP, gvP, phE, phO, tkO, gvO]
    refine sxb hXq [.l] [] 4000 rfl (by (simp [-List.getD_eq_getElem?_getD, -List.length_eq_zero_iff, conjP, hr, hl, hst0, hst1, bd, hin, hb0, gvO, phO] <;> (first | omega | ((repeat' (refine And.intro ?_ ?_)) <;> (first | omega | exact decide_eq_false (by omega) | exact decide_eq_true (by omega)))))) ?_
    (refine ss_raw hXq 5 3 rfl rfl fun v3 => ?_; refine ss_raw hXq 5 4 rfl rfl fun v4 => ?_; refine' J ⟨⟨_, st + 1, _, _, _, _⟩, ⟨some l, .g2 b (W.getD (3 + classV A B b).toNat 0)⟩, v3, v4⟩ ⟨⟨?s0, ?s1⟩, ?iv⟩ _ _ _ (sub_ofD (sigP 2) rfl rfl rfl rfl rfl ?ht ?hh (by (repeat' (first | exact rfl | exact trivial | exact sim_refl _ | refine And.intro ?_ ?_))) ?ok); (case ht => exact ⟨by (repeat' (first | exact rfl | exact trivial | exact sim_refl _ | refine And.intro ?_ ?_)), by (repeat' (first | exact rfl | exact trivial | exact sim_refl _ | refine And.intro ?_ ?_)), by (repeat' (first | exact rfl | exact trivial | exact sim_refl _ | refine And.intro ?_ ?_)), by (repeat' (first | exact rfl | exact trivial | exact sim_refl _ | refine And.intro ?_ ?_)), by (repeat' (first | exact rfl | exact trivial | exact sim_refl _ | refine And.intro ?_ ?_)), by (repeat' (first | exact rfl | exact trivial | exact sim_refl _ | refine And.intro ?_ ?_)), ⟨rfl, ewi⟩, trivial⟩); (case hh => (((repeat' (first | exact rfl | exact trivial | exact sim_refl _ | exact subE_same rfl ren_slE | exact subE_phE rfl rfl | exact sim_slV rfl | exact sim_tkP rfl | exact sim_gvP rfl | assumption | (simp [lst]; done) | (simp [lst]; omega) | refine And.intro ?_ ?_)); done))); (case ok => (((repeat' (first | exact rfl | exact trivial | exact okE_slE | exact okE_phE rfl | exact okP_slV rfl | exact okP_tkP (A := 0) (B := 0) rfl | exact okP_gvP (A := 0) (B := 0) rfl | refine And.intro ?_ ?_)); done))); (case iv => exact ⟨L, q_g1 h.inv h.hm hc rfl⟩); (case s0 => simp only; omega); (case s1 => simp only; omega))
set_option maxHeartbeats 16000000 in
theorem al_g2 (h : TurnH A B n i mi k L W st) {b s : Int} (hc : k mi = ⟨own, .g2 b s⟩) (J : JP A B true true n cap i mi wh o k ρ w J0 ⟨W, st, kd, wd, vl, ch⟩ ⟨own, .g2 b s⟩ p) : GP A B true true n cap i wh o ρ w I J0 ⟨W, st, kd, wd, vl, ch⟩ ⟨own, .g2 b s⟩ p := by
  obtain ⟨hr, hl, bd, ewi, hst1⟩ := h.facts
  have hst0 := h.s0
  have hst2 := h.s1
  have hin := h.hin
  have hi := h.hi
  have hp := h.inv.ph mi h.hm
  rw [hc] at hp
  have hb0 : 1 ≤ b ∧ b ≤ A + B := hp.1
  have hs0 : 0 ≤ s ∧ s < 18446744073709551616 := ⟨hp.2.1, hp.2.2.1⟩
  have hXq := hXal A B true true
  unfold GP
  rcases own with _ | l
  · dsimp only [sqT, sqH, tkP, gvP, phE, phO, tkO, gvO]
    refine sxb hXq [.l] [] 4000 rfl (by (simp [-List.getD_eq_getElem?_getD, -List.length_eq_zero_iff, conjP, hr, hl, hst0, hst1, bd, hin, hb0, hs0, gvO, phO] <;> (first | omega | ((repeat' (refine And.intro ?_ ?_)) <;> (first | omega | exact decide_eq_false (by omega) | exact decide_eq_true (by omega)))))) ?_
    (refine ss_raw hXq 5 3 rfl rfl fun v3 => ?_; refine ss_raw hXq 5 4 rfl rfl fun v4 => ?_; refine' J ⟨⟨_, st + 1, _, _, _, _⟩, ⟨none, .g3 b s⟩, v3, v4⟩ ⟨⟨?s0, ?s1⟩, ?iv⟩ _ _ _ (sub_ofD (sigP 2) rfl rfl rfl rfl rfl ?ht ?hh (by (repeat' (first | exact rfl | exact trivial | exact sim_refl _ | refine And.intro ?_ ?_))) ?ok); (case ht => exact ⟨by (repeat' (first | exact rfl | exact trivial | exact sim_refl _ | refine And.intro ?_ ?_)), by (repeat' (first | exact rfl | exact trivial | exact sim_refl _ | refine And.intro ?_ ?_)), by (repeat' (first | exact rfl | exact trivial | exact sim_refl _ | refine And.intro ?_ ?_)), by (repeat' (first | exact rfl | exact trivial | exact sim_refl _ | refine And.intro ?_ ?_)), by (repeat' (first | exact rfl | exact trivial | exact sim_refl _ | refine And.intro ?_ ?_)), by (repeat' (first | exact rfl | exact trivial | exact sim_refl _ | refine And.intro ?_ ?_)), ⟨rfl, ewi⟩, trivial⟩); (case hh => (((repeat' (first | exact rfl | exact trivial | exact sim_refl _ | exact subE_same rfl ren_slE | exact subE_phE rfl rfl | exact sim_slV rfl | exact sim_tkP rfl | exact sim_gvP rfl | assumption | (simp [lst]; done) | (simp [lst]; omega) | refine And.intro ?_ ?_)); done))); (case ok => (((repeat' (first | exact rfl | exact trivial | exact okE_slE | exact okE_phE rfl | exact okP_slV rfl | exact okP_tkP (A := 0) (B := 0) rfl | exact okP_gvP (A := 0) (B := 0) rfl | refine And.intro ?_ ?_)); done))); (case iv => exact ⟨L, q_g2 h.inv h.hm hc⟩); (case s0 => simp only; omega); (case s1 => simp only; omega))
  · dsimp only [sqT, sqH, tkP, gvP, phE, phO, tkO, gvO]
    refine sxb hXq [.l] [] 4000 rfl (by (simp [-List.getD_eq_getElem?_getD, -List.length_eq_zero_iff, conjP, hr, hl, hst0, hst1, bd, hin, hb0, hs0, gvO, phO] <;> (first | omega | ((repeat' (refine And.intro ?_ ?_)) <;> (first | omega | exact decide_eq_false (by omega) | exact decide_eq_true (by omega)))))) ?_
    (refine ss_raw hXq 5 3 rfl rfl fun v3 => ?_; refine ss_raw hXq 5 4 rfl rfl fun v4 => ?_; refine' J ⟨⟨_, st + 1, _, _, _, _⟩, ⟨some l, .g3 b s⟩, v3, v4⟩ ⟨⟨?s0, ?s1⟩, ?iv⟩ _ _ _ (sub_ofD (sigP 2) rfl rfl rfl rfl rfl ?ht ?hh (by (repeat' (first | exact rfl | exact trivial | exact sim_refl _ | refine And.intro ?_ ?_))) ?ok); (case ht => exact ⟨by (repeat' (first | exact rfl | exact trivial | exact sim_refl _ | refine And.intro ?_ ?_)), by (repeat' (first | exact rfl | exact trivial | exact sim_refl _ | refine And.intro ?_ ?_)), by (repeat' (first | exact rfl | exact trivial | exact sim_refl _ | refine And.intro ?_ ?_)), by (repeat' (first | exact rfl | exact trivial | exact sim_refl _ | refine And.intro ?_ ?_)), by (repeat' (first | exact rfl | exact trivial | exact sim_refl _ | refine And.intro ?_ ?_)), by (repeat' (first | exact rfl | exact trivial | exact sim_refl _ | refine And.intro ?_ ?_)), ⟨rfl, ewi⟩, trivial⟩); (case hh => (((repeat' (first | exact rfl | exact trivial | exact sim_refl _ | exact subE_same rfl ren_slE | exact subE_phE rfl rfl | exact sim_slV rfl | exact sim_tkP rfl | exact sim_gvP rfl | assumption | (simp [lst]; done) | (simp [lst]; omega) | refine And.intro ?_ ?_)); done))); (case ok => (((repeat' (first | exact rfl | exact trivial | exact okE_slE | exact okE_phE rfl | exact okP_slV rfl | exact okP_tkP (A := 0) (B := 0) rfl | exact okP_gvP (A := 0) (B := 0) rfl | refine And.intro ?_ ?_)); done))); (case iv => exact ⟨L, q_g2 h.inv h.hm hc⟩); (case s0 => simp only; omega); (case s1 => simp only; omega))
set_option maxHeartbeats 16000000 in
theorem al_g3y (h : TurnH A B n i mi k L W st) {b s : Int} (hc : k mi = ⟨own, .g3 b s⟩) (hsw : W.getD (3 + classV A B b).toNat 0 = s) (J : JP A B true true n cap i mi wh o k ρ w J0 ⟨W, st, kd, wd, vl, ch⟩ ⟨own, .g3 b s⟩ p) : GP A B true true n cap i wh o ρ w I J0 ⟨W, st, kd, wd, vl, ch⟩ ⟨own, .g3 b s⟩ p := by
  obtain ⟨hr, hl, bd, ewi, hst1⟩ := h.facts
  have hst0 := h.s0
  have hst2 := h.s1
  have hin := h.hin
  have hi := h.hi
  have hp := h.inv.ph mi h.hm
  rw [hc] at hp
  have hb0 : 1 ≤ b ∧ b ≤ A + B := hp.1
  have hs0 : 0 ≤ s ∧ s < 18446744073709551616 := ⟨hp.2.1.1, hp.2.1.2.1⟩
  have hXq := hXal A B true true
  unfold GP
  rcases own with _ | l
  · dsimp only [sqT, sqH, tkP, gvP, phE, phO, tkO, gvO]
    refine sxb hXq [.l] [] 4000 rfl (by (simp [-List.getD_eq_getElem?_getD, -List.length_eq_zero_iff, conjP, hr, hl, hst0, hst1, bd, hin, hb0, hs0, hsw, gvO, phO] <;> (first | omega | ((repeat' (refine And.intro ?_ ?_)) <;> (first | omega | exact decide_eq_false (by omega) | exact decide_eq_true (by omega)))))) ?_
    (refine ss_raw hXq 5 3 rfl rfl fun v3 => ?_; refine ss_raw hXq 5 4 rfl rfl fun v4 => ?_; refine' J ⟨⟨_, st + 1, _, _, _, _⟩, ⟨none, .idle⟩, v3, v4⟩ ⟨⟨?s0, ?s1⟩, ?iv⟩ _ _ _ (sub_ofD (sigP 0) rfl rfl rfl rfl rfl ?ht ?hh (by (repeat' (first | exact rfl | exact trivial | exact sim_refl _ | refine And.intro ?_ ?_))) ?ok); (case ht => exact ⟨by (repeat' (first | exact rfl | exact trivial | exact sim_refl _ | refine And.intro ?_ ?_)), by (repeat' (first | exact rfl | exact trivial | exact sim_refl _ | refine And.intro ?_ ?_)), by (repeat' (first | exact rfl | exact trivial | exact sim_refl _ | refine And.intro ?_ ?_)), by (repeat' (first | exact rfl | exact trivial | exact sim_refl _ | refine And.intro ?_ ?_)), by (repeat' (first | exact rfl | exact trivial | exact sim_refl _ | refine And.intro ?_ ?_)), by (repeat' (first | exact rfl | exact trivial | exact sim_refl _ | refine And.intro ?_ ?_)), ⟨rfl, ewi⟩, trivial⟩); (case hh => (((repeat' (first | exact rfl | exact trivial | exact sim_refl _ | exact subE_same rfl ren_slE | exact subE_phE rfl rfl | exact sim_slV rfl | exact sim_tkP rfl | exact sim_gvP rfl | assumption | (simp [lst]; done) | (simp [lst]; omega) | refine And.intro ?_ ?_)); done))); (case ok => (((repeat' (first | exact rfl | exact trivial | exact okE_slE | exact okE_phE rfl | exact okP_slV rfl | exact okP_tkP (A := 0) (B := 0) rfl | exact okP_gvP (A := 0) (B := 0) rfl | refine And.intro ?_ ?_)); done))); (case iv => exact ⟨_, q_g3y h.inv h.hm (by omega) hc hsw⟩); (case s0 => simp only; omega); (case s1 => simp only; omega))
  · dsimp only [sqT, sqH, tkP, gvP, phE, phO, tkO, gvO]
    refine sxb hXq [.l] [] 4000 rfl (by (simp [-List.getD_eq_getElem?_getD, -List.length_eq_zero_iff, conjP, hr, hl, hst0, hst1, bd, hin, hb0, hs0, hsw, gvO, phO] <;> (first | omega | ((repeat' (refine And.intro ?_ ?_)) <;> (first | omega | exact decide_eq_false (by omega) | exact decide_eq_true (by omega)))))) ?_
    (refine ss_raw hXq 5 3 rfl rfl fun v3 => ?_; refine ss_raw hXq 5 4 rfl rfl fun v4 => ?_; refine' J ⟨⟨_, st + 1, _, _, _, _⟩, ⟨some l, .idle⟩, v3, v4⟩ ⟨⟨?s0, ?s1⟩, ?iv⟩ _ _ _ (sub_ofD (sigP 0) rfl rfl rfl rfl rfl ?ht ?hh (by (repeat' (first | exact rfl | exact trivial | exact sim_refl _ | refine And.intro ?_ ?_))) ?ok); (case ht => exact ⟨by (repeat' (first | exact rfl | exact trivial | exact sim_refl _ | refine And.intro ?_ ?_)), by (repeat' (first | exact rfl | exact trivial | exact sim_refl _ | refine And.intro ?_ ?_)), by (repeat' (first | exact rfl | exact trivial | exact sim_refl _ | refine And.intro ?_ ?_)), by (repeat' (first | exact rfl | exact trivial | exact sim_refl _ | refine And.intro ?_ ?_)), by (repeat' (first | exact rfl | exact trivial | exact sim_refl _ | refine And.intro ?_ ?_)), by (repeat' (first | exact rfl | exact trivial | exact sim_refl _ | refine And.intro ?_ ?_)), ⟨rfl, ewi⟩, trivial⟩); (case hh => (((repeat' (first | exact rfl | exact trivial | exact sim_refl _ | exact subE_same rfl ren_slE | exact subE_phE rfl rfl | exact sim_slV rfl | exact sim_tkP rfl | exact sim_gvP rfl | assumption | (simp [lst]; done) | (simp [lst]; omega) | refine And.intro ?_ ?_)); done))); (case ok => (((repeat' (first | exact rfl | exact trivial | exact okE_slE | exact okE_phE rfl | exact okP_slV rfl | exact okP_tkP (A := 0) (B := 0) rfl | exact okP_gvP (A := 0) (B := 0) rfl | refine And.intro ?_ ?_)); done))); (case iv => exact ⟨_, q_g3y h.inv h.hm (by omega) hc hsw⟩); (case s0 => simp only; omega); (case s1 => simp only; omega))
set_option maxHeartbeats 16000000 in
theorem al_g3n (h : TurnH A B n i mi k L W st) {b s : Int} (hc : k mi = ⟨own, .g3 b s⟩) (hsw : ¬ W.getD (3 + classV A B b).toNat 0 = s) (J : JP A B true false n cap i mi wh o k ρ w J0 ⟨W, st, kd, wd, vl, ch⟩ ⟨own, .g3 b s⟩ p) : GP A B true false n cap i wh o ρ w I J0 ⟨W, st, kd, wd, vl, ch⟩ ⟨own, .g3 b s⟩ p := by
  obtain ⟨hr, hl, bd, ewi, hst1⟩ := h.facts
  have hst0 := h.s0
  have hst2 := h.s1
  have hin := h.hin
  have hi := h.hi
  have hp := h.inv.ph mi h.hm
  rw [hc] at hp
  have hb0 : 1 ≤ b ∧ b ≤ A + B := hp.1
  have hs0 : 0 ≤ s ∧ s < 18446744073709551616 := ⟨hp.2.1.1, hp.2.1.2.1⟩
  have hXq := hXal A B true false
  unfold GP
  rcases own with _ | l
  · dsimp only [sqT, sqH, tkP, gvP, phE, phO, tkO, gvO]
    refine sxb hXq [.l] [] 4000 rfl (by (simp [-List.getD_eq_getElem?_getD, -List.length_eq_zero_iff, conjP, hr, hl, hst0, hst1, bd, hin, hb0, hs0, hsw, gvO, phO] <;> (first | omega | ((repeat' (refine And.intro ?_ ?_)) <;> (first | omega | exact decide_eq_false (by omega) | exact decide_eq_true (by omega)))))) ?_
    (refine ss_raw hXq 5 3 rfl rfl fun v3 => ?_; refine ss_raw hXq 5 4 rfl rfl fun v4 => ?_; refine' J ⟨⟨_, st + 1, _, _, _, _⟩, ⟨none, .g1 b s⟩, v3, v4⟩ ⟨⟨?s0, ?s1⟩, ?iv⟩ _ _ _ (sub_ofD (sigP 2) rfl rfl rfl rfl rfl ?ht ?hh (by (repeat' (first | exact rfl | exact trivial | exact sim_refl _ | refine And.intro ?_ ?_))) ?ok); (case ht => exact ⟨by (repeat' (first | exact rfl | exact trivial | exact sim_refl _ | refine And.intro ?_ ?_)), by (repeat' (first | exact rfl | exact trivial | exact sim_refl _ | refine And.intro ?_ ?_)), by (repeat' (first | exact rfl | exact trivial | exact sim_refl _ | refine And.intro ?_ ?_)), by (repeat' (first | exact rfl | exact trivial | exact sim_refl _ | refine And.intro ?_ ?_)), by (repeat' (first | exact rfl | exact trivial | exact sim_refl _ | refine And.intro ?_ ?_)), by (repeat' (first | exact rfl | exact trivial | exact sim_refl _ | refine And.intro ?_ ?_)), ⟨rfl, ewi⟩, trivial⟩); (case hh => (((repeat' (first | exact rfl | exact trivial | exact sim_refl _ | exact subE_same rfl ren_slE | exact subE_phE rfl rfl | exact sim_slV rfl | exact sim_tkP rfl | exact sim_gvP rfl | assumption | (simp [lst]; done) | (simp [lst]; omega) | refine And.intro ?_ ?_)); done))); (case ok => (((repeat' (first | exact rfl | exact trivial | exact okE_slE | exact okE_phE rfl | exact okP_slV rfl | exact okP_tkP (A := 0) (B := 0) rfl | exact okP_gvP (A := 0) (B := 0) rfl | refine And.intro ?_ ?_)); done))); (case iv => exact ⟨L, q_g3n h.inv h.hm hc⟩); (case s0 => simp only; omega); (case s1 => simp only; omega))
  · dsimp only [sqT, sqH, tkP, gvP, phE, phO, tkO, gvO]
    refine sxb hXq [.l] [] 4000 rfl (by (simp [-List.getD_eq_getElem?_getD, -List.length_eq_zero_iff, conjP, hr, hl, hst0, hst1, bd, hin, hb0, hs0, hsw, gvO, phO] <;> (first | omega | ((repeat' (refine And.intro ?_ ?_)) <;> (first | omega | exact decide_eq_false (by omega) | exact decide_eq_true (by omega)))))) ?_
    (refine ss_raw hXq 5 3 rfl rfl fun v3 => ?_; refine ss_raw hXq 5 4 rfl rfl fun v4 => ?_; refine' J ⟨⟨_, st + 1, _, _, _, _⟩, ⟨some l, .g1 b s⟩, v3, v4⟩ ⟨⟨?s0, ?s1⟩, ?iv⟩ _ _ _ (sub_ofD (sigP 2) rfl rfl rfl rfl rfl ?ht ?hh (by (repeat' (first | exact rfl | exact trivial | exact sim_refl _ | refine And.intro ?_ ?_))) ?ok); (case ht => exact ⟨by (repeat' (first | exact rfl | exact trivial | exact sim_refl _ | refine And.intro ?_ ?_)), by (repeat' (first | exact rfl | exact trivial | exact sim_refl _ | refine And.intro ?_ ?_)), by (repeat' (first | exact rfl | exact trivial | exact sim_refl _ | refine And.intro ?_ ?_)), by (repeat' (first | exact rfl | exact trivial | exact sim_refl _ | refine And.intro ?_ ?_)), by (repeat' (first | exact rfl | exact trivial | exact sim_refl _ | refine And.intro ?_ ?_)), by (repeat' (first | exact rfl | exact trivial | exact sim_refl _ | refine And.intro ?_ ?_)), ⟨rfl, ewi⟩, trivial⟩); (case hh => (((repeat' (first | exact rfl | exact trivial | exact sim_refl _ | exact subE_same rfl ren_slE | exact subE_phE rfl rfl | exact sim_slV rfl | exact sim_tkP rfl | exact sim_gvP rfl | assumption | (simp [lst]; done) | (simp [lst]; omega) | refine And.intro ?_ ?_)); done))); (case ok => (((repeat' (first | exact rfl | exact trivial | exact okE_slE | exact okE_phE rfl | exact okP_slV rfl | exact okP_tkP (A := 0) (B := 0) rfl | exact okP_gvP (A := 0) (B := 0) rfl | refine And.intro ?_ ?_)); done))); (case iv => exact ⟨L, q_g3n h.inv h.hm hc⟩); (case s0 => simp only; omega); (case s1 => simp only; omega))
set_option maxHeartbeats 16000000 in
theorem al_idty (h : TurnH A B n i mi k L W st)  (hc : k mi = ⟨own, .idle⟩) (hng : (o i).give = false ∨ (lst own).length = 0) (hcl : classV A B (W.getD (3 + (ibits .and .i64 (o i).which 1)).toNat 0 % 4294967296) = (ibits .and .i64 (o i).which 1)) (J : JP A B true true n cap i mi wh o k ρ w J0 ⟨W, st, kd, wd, vl, ch⟩ ⟨own, .idle⟩ p) : GP A B true true n cap i wh o ρ w I J0 ⟨W, st, kd, wd, vl, ch⟩ ⟨own, .idle⟩ p := by
  obtain ⟨hr, hl, bd, ewi, hst1⟩ := h.facts
  have hst0 := h.s0
  have hst2 := h.s1
  have hin := h.hin
  have hi := h.hi
  have hp := h.inv.ph mi h.hm
  rw [hc] at hp
  have hc0 := and1 (o i).which
  have hbt : ∀ {q : Option (List Int)}, k mi = ⟨q, .idle⟩ → InvQ A B i W (kset k mi ⟨q, .t1 (ibits .and .i64 (o i).which 1) 0 0 0⟩) L := fun hq => by have := q_bt (c := (ibits .and .i64 (o i).which 1)) (s := 0) (b := 0) (f := 0) h.inv h.hm hc0 (by rw [hq]); rw [hq] at this; exact this
  have hiv : ∀ {q : Option (List Int)}, k mi = ⟨q, .idle⟩ → InvQ A B (i + 1) W (kset k mi ⟨q, .t2 (ibits .and .i64 (o i).which 1) (W.getD (3 + (ibits .and .i64 (o i).which 1)).toNat 0) (W.getD (3 + (ibits .and .i64 (o i).which 1)).toNat 0 % 4294967296) 0⟩) L := fun hq => by have := q_t1y (hbt hq) h.hm (kset_same _ _ _) rfl hcl; rw [kset_kset] at this; exact this
  have hXq := hXal A B true true
  unfold GP
  rcases own with _ | l
  · have hlx : True := trivial
    cases hgv : (o i).give
    · dsimp only [sqT, sqH, tkP, gvP, phE, phO, tkO, gvO]
      refine sxb hXq [.l] [] 4000 rfl (by (simp [-List.getD_eq_getElem?_getD, -List.length_eq_zero_iff, conjP] <;> (first | omega | ((repeat' (refine And.intro ?_ ?_)) <;> (first | omega | exact decide_eq_false (by omega) | exact decide_eq_true (by omega)))))) ?_
      refine sxb hXq [.l] [.F, .F, .F, .F, .F, .F] 4000 rfl (by (simp [-List.getD_eq_getElem?_getD, -List.length_eq_zero_iff, conjP, getH, HE.so, hr, hl, hst0, hst1, bd, hin, hc0, hcl, hgv, tkO, phO] <;> (first | omega | ((repeat' (refine And.intro ?_ ?_)) <;> (first | omega | exact decide_eq_false (by omega) | exact decide_eq_true (by omega)))))) ?_
      (refine ss_raw hXq 5 3 rfl rfl fun v3 => ?_; refine ss_raw hXq 5 4 rfl rfl fun v4 => ?_; refine' J ⟨⟨_, st + 1, _, _, _, _⟩, ⟨none, .t2 (ibits .and .i64 (o i).which 1) (W.getD (3 + (ibits .and .i64 (o i).which 1)).toNat 0) (W.getD (3 + (ibits .and .i64 (o i).which 1)).toNat 0 % 4294967296) 0⟩, v3, v4⟩ ⟨⟨?s0, ?s1⟩, ?iv⟩ _ _ _ (sub_ofD (sigP 1) rfl rfl rfl rfl rfl ?ht ?hh (by (repeat' (first | exact rfl | exact trivial | exact sim_refl _ | refine And.intro ?_ ?_))) ?ok); (case ht => exact ⟨by (repeat' (first | exact rfl | exact trivial | exact sim_refl _ | refine And.intro ?_ ?_)), by (repeat' (first | exact rfl | exact trivial | exact sim_refl _ | refine And.intro ?_ ?_)), by (repeat' (first | exact rfl | exact trivial | exact sim_refl _ | refine And.intro ?_ ?_)), by (repeat' (first | exact rfl | exact trivial | exact sim_refl _ | refine And.intro ?_ ?_)), by (repeat' (first | exact rfl | exact trivial | exact sim_refl _ | refine And.intro ?_ ?_)), by (repeat' (first | exact rfl | exact trivial | exact sim_refl _ | refine And.intro ?_ ?_)), ⟨rfl, ewi⟩, trivial⟩); (case hh => (((repeat' (first | exact rfl | exact trivial | exact sim_refl _ | exact subE_same rfl ren_slE | exact subE_phE rfl rfl | exact sim_slV rfl | exact sim_tkP rfl | exact sim_gvP rfl | assumption | (simp [lst]; done) | (simp [lst]; omega) | refine And.intro ?_ ?_)); done))); (case ok => (((repeat' (first | exact rfl | exact trivial | exact okE_slE | exact okE_phE rfl | exact okP_slV rfl | exact okP_tkP (A := 0) (B := 0) rfl | exact okP_gvP (A := 0) (B := 0) rfl | refine And.intro ?_ ?_)); done))); (case iv => exact ⟨L, hiv hc⟩); (case s0 => simp only; omega); (case s1 => simp only; omega))
    · dsimp only [sqT, sqH, tkP, gvP, phE, phO, tkO, gvO]
      refine sxb hXq [.l] [] 4000 rfl (by (simp [-List.getD_eq_getElem?_getD, -List.length_eq_zero_iff, conjP] <;> (first | omega | ((repeat' (refine And.intro ?_ ?_)) <;> (first | omega | exact decide_eq_false (by omega) | exact decide_eq_true (by omega)))))) ?_
      refine sxb hXq [.l] [.T, .F, .F, .F, .F, .F, .F] 4000 rfl (by (simp [-List.getD_eq_getElem?_getD, -List.length_eq_zero_iff, conjP, getH, HE.so, hr, hl, hst0, hst1, bd, hin, hc0, hcl, hgv, tkO, phO] <;> (first | omega | ((repeat' (refine And.intro ?_ ?_)) <;> (first | omega | exact decide_eq_false (by omega) | exact decide_eq_true (by omega)))))) ?_
      (refine ss_raw hXq 5 3 rfl rfl fun v3 => ?_; refine ss_raw hXq 5 4 rfl rfl fun v4 => ?_; refine' J ⟨⟨_, st + 1, _, _, _, _⟩, ⟨none, .t2 (ibits .and .i64 (o i).which 1) (W.getD (3 + (ibits .and .i64 (o i).which 1)).toNat 0) (W.getD (3 + (ibits .and .i64 (o i).which 1)).toNat 0 % 4294967296) 0⟩, v3, v4⟩ ⟨⟨?s0, ?s1⟩, ?iv⟩ _ _ _ (sub_ofD (sigP 1) rfl rfl rfl rfl rfl ?ht ?hh (by (repeat' (first | exact rfl | exact trivial | exact sim_refl _ | refine And.intro ?_ ?_))) ?ok); (case ht => exact ⟨by (repeat' (first | exact rfl | exact trivial | exact sim_refl _ | refine And.intro ?_ ?_)), by (repeat' (first | exact rfl | exact trivial | exact sim_refl _ | refine And.intro ?_ ?_)), by (repeat' (first | exact rfl | exact trivial | exact sim_refl _ | refine And.intro ?_ ?_)), by (repeat' (first | exact rfl | exact trivial | exact sim_refl _ | refine And.intro ?_ ?_)), by (repeat' (first | exact rfl | exact trivial | exact sim_refl _ | refine And.intro ?_ ?_)), by (repeat' (first | exact rfl | exact trivial | exact sim_refl _ | refine And.intro ?_ ?_)), ⟨rfl, ewi⟩, trivial⟩); (case hh => (((repeat' (first | exact rfl | exact trivial | exact sim_refl _ | exact subE_same rfl ren_slE | exact subE_phE rfl rfl | exact sim_slV rfl | exact sim_tkP rfl | exact sim_gvP rfl | assumption | (simp [lst]; done) | (simp [lst]; omega) | refine And.intro ?_ ?_)); done))); (case ok => (((repeat' (first | exact rfl | exact trivial | exact okE_slE | exact okE_phE rfl | exact okP_slV rfl | exact okP_tkP (A := 0) (B := 0) rfl | exact okP_gvP (A := 0) (B := 0) rfl | refine And.intro ?_ ?_)); done))); (case iv => exact ⟨L, hiv hc⟩); (case s0 => simp only; omega); (case s1 => simp only; omega))
  · have hln := own_len h.inv h.hm (l := l) (by rw [hc]; rfl)
    cases hgv : (o i).give
    · dsimp only [sqT, sqH, tkP, gvP, phE, phO, tkO, gvO]
      refine sxb hXq [.l] [] 4000 rfl (by (simp [-List.getD_eq_getElem?_getD, -List.length_eq_zero_iff, conjP] <;> (first | omega | ((repeat' (refine And.intro ?_ ?_)) <;> (first | omega | exact decide_eq_false (by omega) | exact decide_eq_true (by omega)))))) ?_
      refine sxb hXq [.l] [.F, .F, .F, .F, .F, .F] 4000 rfl (by (simp [-List.getD_eq_getElem?_getD, -List.length_eq_zero_iff, conjP, getH, HE.so, hr, hl, hst0, hst1, bd, hin, hc0, hcl, hgv, tkO, phO] <;> (first | omega | ((repeat' (refine And.intro ?_ ?_)) <;> (first | omega | exact decide_eq_false (by omega) | exact decide_eq_true (by omega)))))) ?_
      (refine ss_raw hXq 5 3 rfl rfl fun v3 => ?_; refine ss_raw hXq 5 4 rfl rfl fun v4 => ?_; refine' J ⟨⟨_, st + 1, _, _, _, _⟩, ⟨some l, .t2 (ibits .and .i64 (o i).which 1) (W.getD (3 + (ibits .and .i64 (o i).which 1)).toNat 0) (W.getD (3 + (ibits .and .i64 (o i).which 1)).toNat 0 % 4294967296) 0⟩, v3, v4⟩ ⟨⟨?s0, ?s1⟩, ?iv⟩ _ _ _ (sub_ofD (sigP 1) rfl rfl rfl rfl rfl ?ht ?hh (by (repeat' (first | exact rfl | exact trivial | exact sim_refl _ | refine And.intro ?_ ?_))) ?ok); (case ht => exact ⟨by (repeat' (first | exact rfl | exact trivial | exact sim_refl _ | refine And.intro ?_ ?_)), by (repeat' (first | exact rfl | exact trivial | exact sim_refl _ | refine And.intro ?_ ?_)), by (repeat' (first | exact rfl | exact trivial | exact sim_refl _ | refine And.intro ?_ ?_)), by (repeat' (first | exact rfl | exact trivial | exact sim_refl _ | refine And.intro ?_ ?_)), by (repeat' (first | exact rfl | exact trivial | exact sim_refl _ | refine And.intro ?_ ?_)), by (repeat' (first | exact rfl | exact trivial | exact sim_refl _ | refine And.intro ?_ ?_)), ⟨rfl, ewi⟩, trivial⟩); (case hh => (((repeat' (first | exact rfl | exact trivial | exact sim_refl _ | exact subE_same rfl ren_slE | exact subE_phE rfl rfl | exact sim_slV rfl | exact sim_tkP rfl | exact sim_gvP rfl | assumption | (simp [lst]; done) | (simp [lst]; omega) | refine And.intro ?_ ?_)); done))); (case ok => (((repeat' (first | exact rfl | exact trivial | exact okE_slE | exact okE_phE rfl | exact okP_slV rfl | exact okP_tkP (A := 0) (B := 0) rfl | exact okP_gvP (A := 0) (B := 0) rfl | refine And.intro ?_ ?_)); done))); (case iv => exact ⟨L, hiv hc⟩); (case s0 => simp only; omega); (case s1 => simp only; omega))
    · have hl0 : l.length = 0 := hng.elim (fun q => by rw [q] at hgv; simp at hgv) id
      dsimp only [sqT, sqH, tkP, gvP, phE, phO, tkO, gvO]
      refine sxb hXq [.l] [] 4000 rfl (by (simp [-List.getD_eq_getElem?_getD, -List.length_eq_zero_iff, conjP] <;> (first | omega | ((repeat' (refine And.intro ?_ ?_)) <;> (first | omega | exact decide_eq_false (by omega) | exact decide_eq_true (by omega)))))) ?_
      refine sxb hXq [.l] [.T, .F, .F, .F, .F, .F, .F] 4000 rfl (by (simp [-List.getD_eq_getElem?_getD, -List.length_eq_zero_iff, conjP, getH, HE.so, hr, hl, hst0, hst1, bd, hin, hc0, hcl, hgv, hl0, tkO, phO] <;> (first | omega | ((repeat' (refine And.intro ?_ ?_)) <;> (first | omega | exact decide_eq_false (by omega) | exact decide_eq_true (by omega)))))) ?_
      (refine ss_raw hXq 5 3 rfl rfl fun v3 => ?_; refine ss_raw hXq 5 4 rfl rfl fun v4 => ?_; refine' J ⟨⟨_, st + 1, _, _, _, _⟩, ⟨some l, .t2 (ibits .and .i64 (o i).which 1) (W.getD (3 + (ibits .and .i64 (o i).which 1)).toNat 0) (W.getD (3 + (ibits .and .i64 (o i).which 1)).toNat 0 % 4294967296) 0⟩, v3, v4⟩ ⟨⟨?s0, ?s1⟩, ?iv⟩ _ _ _ (sub_ofD (sigP 1) rfl rfl rfl rfl rfl ?ht ?hh (by (repeat' (first | exact rfl | exact trivial | exact sim_refl _ | refine And.intro ?_ ?_))) ?ok); (case ht => exact ⟨by (repeat' (first | exact rfl | exact trivial | exact sim_refl _ | refine And.intro ?_ ?_)), by (repeat' (first | exact rfl | exact trivial | exact sim_refl _ | refine And.intro ?_ ?_)), by (repeat' (first | exact rfl | exact trivial | exact sim_refl _ | refine And.intro ?_ ?_)), by (repeat' (first | exact rfl | exact trivial | exact sim_refl _ | refine And.intro ?_ ?_)), by (repeat' (first | exact rfl | exact trivial | exact sim_refl _ | refine And.intro ?_ ?_)), by (repeat' (first | exact rfl | exact trivial | exact sim_refl _ | refine And.intro ?_ ?_)), ⟨rfl, ewi⟩, trivial⟩); (case hh => (((repeat' (first | exact rfl | exact trivial | exact sim_refl _ | exact subE_same rfl ren_slE | exact subE_phE rfl rfl | exact sim_slV rfl | exact sim_tkP rfl | exact sim_gvP rfl | assumption | (simp [lst]; done) | (simp [lst]; omega) | refine And.intro ?_ ?_)); done))); (case ok => (((repeat' (first | exact rfl | exact trivial | exact okE_slE | exact okE_phE rfl | exact okP_slV rfl | exact okP_tkP (A := 0) (B := 0) rfl | exact okP_gvP (A := 0) (B := 0) rfl | refine And.intro ?_ ?_)); done))); (case iv => exact ⟨L, hiv hc⟩); (case s0 => simp only; omega); (case s1 => simp only; omega))
set_option maxHeartbeats 16000000 in
theorem al_idtn (h : TurnH A B n i mi k L W st)  (hc : k mi = ⟨own, .idle⟩) (hng : (o i).give = false ∨ (lst own).length = 0) (hcl : ¬ classV A B (W.getD (3 + (ibits .and .i64 (o i).which 1)).toNat 0 % 4294967296) = (ibits .and .i64 (o i).which 1)) (J : JP A B false true n cap i mi wh o k ρ w J0 ⟨W, st, kd, wd, vl, ch⟩ ⟨own, .idle⟩ p) : GP A B false true n cap i wh o ρ w I J0 ⟨W, st, kd, wd, vl, ch⟩ ⟨own, .idle⟩ p := by
  obtain ⟨hr, hl, bd, ewi, hst1⟩ := h.facts
  have hst0 := h.s0
  have hst2 := h.s1
  have hin := h.hin
  have hi := h.hi
  have hp := h.inv.ph mi h.hm
  rw [hc] at hp
  have hc0 := and1 (o i).which
  have hbt : ∀ {q : Option (List Int)}, k mi = ⟨q, .idle⟩ → InvQ A B i W (kset k mi ⟨q, .t1 (ibits .and .i64 (o i).which 1) 0 0 0⟩) L := fun hq => by have := q_bt (c := (ibits .and .i64 (o i).which 1)) (s := 0) (b := 0) (f := 0) h.inv h.hm hc0 (by rw [hq]); rw [hq] at this; exact this
  have hiv : ∀ {q : Option (List Int)}, k mi = ⟨q, .idle⟩ → InvQ A B (i + 1) W (kset k mi ⟨q, .idle⟩) L := fun hq => by have := q_t1n (hbt hq) h.hm (kset_same _ _ _); rw [kset_kset] at this; exact this
  have hXq := hXal A B false true
  unfold GP
  rcases own with _ | l
  · have hlx : True := trivial
    cases hgv : (o i).give
    · dsimp only [sqT, sqH, tkP, gvP, phE, phO, tkO, gvO]
      refine sxb hXq [.l] [] 4000 rfl (by (simp [-List.getD_eq_getElem?_getD, -List.length_eq_zero_iff, conjP] <;> (first | omega | ((repeat' (refine And.intro ?_ ?_)) <;> (first | omega | exact decide_eq_false (by omega) | exact decide_eq_true (by omega)))))) ?_
      refine sxb hXq [.l] [.F, .F, .F, .F, .F, .F] 4000 rfl (by (simp [-List.getD_eq_getElem?_getD, -List.length_eq_zero_iff, conjP, getH, HE.so, hr, hl, hst0, hst1, bd, hin, hc0, hcl, hgv, tkO, phO] <;> (first | omega | ((repeat' (refine And.intro ?_ ?_)) <;> (first | omega | exact decide_eq_false (by omega) | exact decide_eq_true (by omega)))))) ?_
      refine sxb hXq [.l] [.F] 4000 rfl (by (simp [-List.getD_eq_getElem?_getD, -List.length_eq_zero_iff, conjP, addOP] <;> (first | omega | ((repeat' (refine And.intro ?_ ?_)) <;> (first | omega | exact decide_eq_false (by omega) | exact decide_eq_true (by omega)))))) ?_
      (refine ss_raw hXq 5 3 rfl rfl fun v3 => ?_; refine ss_raw hXq 5 4 rfl rfl fun v4 => ?_; refine' J ⟨⟨_, st + 1, _, _, _, _⟩, ⟨none, .idle⟩, v3, v4⟩ ⟨⟨?s0, ?s1⟩, ?iv⟩ _ _ _ (sub_ofD (sigP 0) rfl rfl rfl rfl rfl ?ht ?hh (by (repeat' (first | exact rfl | exact trivial | exact sim_refl _ | refine And.intro ?_ ?_))) ?ok); (case ht => exact ⟨by (repeat' (first | exact rfl | exact trivial | exact sim_refl _ | refine And.intro ?_ ?_)), by (repeat' (first | exact rfl | exact trivial | exact sim_refl _ | refine And.intro ?_ ?_)), by (repeat' (first | exact rfl | exact trivial | exact sim_refl _ | refine And.intro ?_ ?_)), by (repeat' (first | exact rfl | exact trivial | exact sim_refl _ | refine And.intro ?_ ?_)), by (repeat' (first | exact rfl | exact trivial | exact sim_refl _ | refine And.intro ?_ ?_)), by (repeat' (first | exact rfl | exact trivial | exact sim_refl _ | refine And.intro ?_ ?_)), ⟨rfl, ewi⟩, trivial⟩); (case hh => (((repeat' (first | exact rfl | exact trivial | exact sim_refl _ | exact subE_same rfl ren_slE | exact subE_phE rfl rfl | exact sim_slV rfl | exact sim_tkP rfl | exact sim_gvP rfl | assumption | (simp [lst]; done) | (simp [lst]; omega) | refine And.intro ?_ ?_)); done))); (case ok => (((repeat' (first | exact rfl | exact trivial | exact okE_slE | exact okE_phE rfl | exact okP_slV rfl | exact okP_tkP (A := 0) (B := 0) rfl | exact okP_gvP (A := 0) (B := 0) rfl | refine And.intro ?_ ?_)); done))); (case iv => exact ⟨L, hiv hc⟩); (case s0 => simp only; omega); (case s1 => simp only; omega))
    · dsimp only [sqT, sqH, tkP, gvP, phE, phO, tkO, gvO]
      refine sxb hXq [.l] [] 4000 rfl (by (simp [-List.getD_eq_getElem?_getD, -List.length_eq_zero_iff, conjP] <;> (first | omega | ((repeat' (refine And.intro ?_ ?_)) <;> (first | omega | exact decide_eq_false (by omega) | exact decide_eq_true (by omega)))))) ?_
      refine sxb hXq [.l] [.T, .F, .F, .F, .F, .F, .F] 4000 rfl (by (simp [-List.getD_eq_getElem?_getD, -List.length_eq_zero_iff, conjP, getH, HE.so, hr, hl, hst0, hst1, bd, hin, hc0, hcl, hgv, tkO, phO] <;> (first | omega | ((repeat' (refine And.intro ?_ ?_)) <;> (first | omega | exact decide_eq_false (by omega) | exact decide_eq_true (by omega)))))) ?_
      refine sxb hXq [.l] [.F] 4000 rfl (by (simp [-List.getD_eq_getElem?_getD, -List.length_eq_zero_iff, conjP, addOP] <;> (first | omega | ((repeat' (refine And.intro ?_ ?_)) <;> (first | omega | exact decide_eq_false (by omega) | exact decide_eq_true (by omega)))))) ?_
      (refine ss_raw hXq 5 3 rfl rfl fun v3 => ?_; refine ss_raw hXq 5 4 rfl rfl fun v4 => ?_; refine' J ⟨⟨_, st + 1, _, _, _, _⟩, ⟨none, .idle⟩, v3, v4⟩ ⟨⟨?s0, ?s1⟩, ?iv⟩ _ _ _ (sub_ofD (sigP 0) rfl rfl rfl rfl rfl ?ht ?hh (by (repeat' (first | exact rfl | exact trivial | exact sim_refl _ | refine And.intro ?_ ?_))) ?ok); (case ht => exact ⟨by (repeat' (first | exact rfl | exact trivial | exact sim_refl _ | refine And.intro ?_ ?_)), by (repeat' (first | exact rfl | exact trivial | exact sim_refl _ | refine And.intro ?_ ?_)), by (repeat' (first | exact rfl | exact trivial | exact sim_refl _ | refine And.intro ?_ ?_)), by (repeat' (first | exact rfl | exact trivial | exact sim_refl _ | refine And.intro ?_ ?_)), by (repeat' (first | exact rfl | exact trivial | exact sim_refl _ | refine And.intro ?_ ?_)), by (repeat' (first | exact rfl | exact trivial | exact sim_refl _ | refine And.intro ?_ ?_)), ⟨rfl, ewi⟩, trivial⟩); (case hh => (((repeat' (first | exact rfl | exact trivial | exact sim_refl _ | exact subE_same rfl ren_slE | exact subE_phE rfl rfl | exact sim_slV rfl | exact sim_tkP rfl | exact sim_gvP rfl | assumption | (simp [lst]; done) | (simp [lst]; omega) | refine And.intro ?_ ?_)); done))); (case ok => (((repeat' (first | exact rfl | exact trivial | exact okE_slE | exact okE_phE rfl | exact okP_slV rfl | exact okP_tkP (A := 0) (B := 0) rfl | exact okP_gvP (A := 0) (B := 0) rfl | refine And.intro ?_ ?_)); done))); (case iv => exact ⟨L, hiv hc⟩); (case s0 => simp only; omega); (case s1 => simp only; omega))
  · have hln := own_len h.inv h.hm (l := l) (by rw [hc]; rfl)
    cases hgv : (o i).give
    · dsimp only [sqT, sqH, tkP, gvP, phE, phO, tkO, gvO]
      refine sxb hXq [.l] [] 4000 rfl (by (simp [-List.getD_eq_getElem?_getD, -List.length_eq_zero_iff, conjP] <;> (first | omega | ((repeat' (refine And.intro ?_ ?_)) <;> (first | omega | exact decide_eq_false (by omega) | exact decide_eq_true (by omega)))))) ?_
      refine sxb hXq [.l] [.F, .F, .F, .F, .F, .F] 4000 rfl (by (simp [-List.getD_eq_getElem?_getD, -List.length_eq_zero_iff, conjP, getH, HE.so, hr, hl, hst0, hst1, bd, hin, hc0, hcl, hgv, tkO, phO] <;> (first | omega | ((repeat' (refine And.intro ?_ ?_)) <;> (first | omega | exact decide_eq_false (by omega) | exact decide_eq_true (by omega)))))) ?_
      refine sxb hXq [.l] [.F] 4000 rfl (by (simp [-List.getD_eq_getElem?_getD, -List.length_eq_zero_iff, conjP, addOP] <;> (first | omega | ((repeat' (refine And.intro ?_ ?_)) <;> (first | omega | exact decide_eq_false (by omega) | exact decide_eq_true (by omega)))))) ?_
      (refine ss_raw hXq 5 3 rfl rfl fun v3 => ?_; refine ss_raw hXq 5 4 rfl rfl fun v4 => ?_; refine' J ⟨⟨_, st + 1, _, _, _, _⟩, ⟨some l, .idle⟩, v3, v4⟩ ⟨⟨?s0, ?s1⟩, ?iv⟩ _ _ _ (sub_ofD (sigP 0) rfl rfl rfl rfl rfl ?ht ?hh (by (repeat' (first | exact rfl | exact trivial | exact sim_refl _ | refine And.intro ?_ ?_))) ?ok); (case ht => exact ⟨by (repeat' (first | exact rfl | exact trivial | exact sim_refl _ | refine And.intro ?_ ?_)), by (repeat' (first | exact rfl | exact trivial | exact sim_refl _ | refine And.intro ?_ ?_)), by (repeat' (first | exact rfl | exact trivial | exact sim_refl _ | refine And.intro ?_ ?_)), by (repeat' (first | exact rfl | exact trivial | exact sim_refl _ | refine And.intro ?_ ?_)), by (repeat' (first | exact rfl | exact trivial | exact sim_refl _ | refine And.intro ?_ ?_)), by (repeat' (first | exact rfl | exact trivial | exact sim_refl _ | refine And.intro ?_ ?_)), ⟨rfl, ewi⟩, trivial⟩); (case hh => (((repeat' (first | exact rfl | exact trivial | exact sim_refl _ | exact subE_same rfl ren_slE | exact subE_phE rfl rfl | exact sim_slV rfl | exact sim_tkP rfl | exact sim_gvP rfl | assumption | (simp [lst]; done) | (simp [lst]; omega) | refine And.intro ?_ ?_)); done))); (case ok => (((repeat' (first | exact rfl | exact trivial | exact okE_slE | exact okE_phE rfl | exact okP_slV rfl | exact okP_tkP (A := 0) (B := 0) rfl | exact okP_gvP (A := 0) (B := 0) rfl | refine And.intro ?_ ?_)); done))); (case iv => exact ⟨L, hiv hc⟩); (case s0 => simp only; omega); (case s1 => simp only; omega))
    · have hl0 : l.length = 0 := hng.elim (fun q => by rw [q] at hgv; simp at hgv) id
      dsimp only [sqT, sqH, tkP, gvP, phE, phO, tkO, gvO]
      refine sxb hXq [.l] [] 4000 rfl (by (simp [-List.getD_eq_getElem?_getD, -List.length_eq_zero_iff, conjP] <;> (first | omega | ((repeat' (refine And.intro ?_ ?_)) <;> (first | omega | exact decide_eq_false (by omega) | exact decide_eq_true (by omega)))))) ?_
      refine sxb hXq [.l] [.T, .F, .F, .F, .F, .F, .F] 4000 rfl (by (simp [-List.getD_eq_getElem?_getD, -List.length_eq_zero_iff, conjP, getH, HE.so, hr, hl, hst0, hst1, bd, hin, hc0, hcl, hgv, hl0, tkO, phO] <;> (first | omega | ((repeat' (refine And.intro ?_ ?_)) <;> (first | omega | exact decide_eq_false (by omega) | exact decide_eq_true (by omega)))))) ?_
      refine sxb hXq [.l] [.F] 4000 rfl (by (simp [-List.getD_eq_getElem?_getD, -List.length_eq_zero_iff, conjP, addOP] <;> (first | omega | ((repeat' (refine And.intro ?_ ?_)) <;> (first | omega | exact decide_eq_false (by omega) | exact decide_eq_true (by omega)))))) ?_
      (refine ss_raw hXq 5 3 rfl rfl fun v3 => ?_; refine ss_raw hXq 5 4 rfl rfl fun v4 => ?_; refine' J ⟨⟨_, st + 1, _, _, _, _⟩, ⟨some l, .idle⟩, v3, v4⟩ ⟨⟨?s0, ?s1⟩, ?iv⟩ _ _ _ (sub_ofD (sigP 0) rfl rfl rfl rfl rfl ?ht ?hh (by (repeat' (first | exact rfl | exact trivial | exact sim_refl _ | refine And.intro ?_ ?_))) ?ok); (case ht => exact ⟨by (repeat' (first | exact rfl | exact trivial | exact sim_refl _ | refine And.intro ?_ ?_)), by (repeat' (first | exact rfl | exact trivial | exact sim_refl _ | refine And.intro ?_ ?_)), by (repeat' (first | exact rfl | exact trivial | exact sim_refl _ | refine And.intro ?_ ?_)), by (repeat' (first | exact rfl | exact trivial | exact sim_refl _ | refine And.intro ?_ ?_)), by (repeat' (first | exact rfl | exact trivial | exact sim_refl _ | refine And.intro ?_ ?_)), by (repeat' (first | exact rfl | exact trivial | exact sim_refl _ | refine And.intro ?_ ?_)), ⟨rfl, ewi⟩, trivial⟩); (case hh => (((repeat' (first | exact rfl | exact trivial | exact sim_refl _ | exact subE_same rfl ren_slE | exact subE_phE rfl rfl | exact sim_slV rfl | exact sim_tkP rfl | exact sim_gvP rfl | assumption | (simp [lst]; done) | (simp [lst]; omega) | refine And.intro ?_ ?_)); done))); (case ok => (((repeat' (first | exact rfl | exact trivial | exact okE_slE | exact okE_phE rfl | exact okP_slV rfl | exact okP_tkP (A := 0) (B := 0) rfl | exact okP_gvP (A := 0) (B := 0) rfl | refine And.intro ?_ ?_)); done))); (case iv => exact ⟨L, hiv hc⟩); (case s0 => simp only; omega); (case s1 => simp only; omega))
set_option maxHeartbeats 16000000 in
theorem al_idg (h : TurnH A B n i mi k L W st)  (hc : k mi = ⟨own, .idle⟩) (hgv : (o i).give = true) (hl0 : 0 < (lst own).length) (J : JP A B true true n cap i mi wh o k ρ w J0 ⟨W, st, kd, wd, vl, ch⟩ ⟨own, .idle⟩ p) : GP A B true true n cap i wh o ρ w I J0 ⟨W, st, kd, wd, vl, ch⟩ ⟨own, .idle⟩ p := by
  obtain ⟨hr, hl, bd, ewi, hst1⟩ := h.facts
  have hst0 := h.s0
  have hst2 := h.s1
  have hin := h.hin
  have hi := h.hi
  have hp := h.inv.ph mi h.hm
  rw [hc] at hp
  rcases own with _ | l
  · simp [lst] at hl0
  have hln := own_len h.inv h.hm (l := l) (by rw [hc]; rfl)
  have hlp : 0 < l.length := hl0
  have hd := cModB l.length (o i).which (by omega) (by omega)
  have hdn : (cMod l.length (o i).which).toNat < l.length := by omega
  have hbx := h.inv.rng h.hm (b := l.getD (cMod l.length (o i).which).toNat 0) (by rw [hc]; exact getD_mem hdn)
  have hab := h.inv.a1
  have hbb := h.inv.b1
  have hbs : -9223372036854775808 ≤ l.getD (cMod l.length (o i).which).toNat 0 ∧ l.getD (cMod l.length (o i).which).toNat 0 < 9223372036854775808 := by omega
  have hcx : 0 ≤ classV A B (l.getD (cMod l.length (o i).which).toNat 0) ∧ classV A B (l.getD (cMod l.length (o i).which).toNat 0) ≤ 1 := cls_bd hbx.1 hbx.2
  have hwd : IntKind.i64.wrap (cMod l.length (o i).which + 1) = cMod l.length (o i).which + 1 := wi64 (by omega) (by omega)
  have hXq := hXal A B true true
  unfold GP
  unfold cMod at hd hdn hbx hbs hcx hwd
  dsimp only [sqT, sqH, tkP, gvP, phE, phO, tkO, gvO]
  have hiv : ∀ D, D < l.length → InvQ A B (i + 1) W (kset k mi ⟨some (l.take D ++ l.drop (D + 1)), .g2 (l.getD D 0) (W.getD (3 + classV A B (l.getD D 0)).toNat 0)⟩) L := fun D hD => by have := q_g1 (q_bg (s := 0) (o := some (l.take D ++ l.drop (D + 1))) h.inv h.hm hc hD rfl) h.hm (kset_same _ _ _) rfl; rw [kset_kset] at this; exact this
  refine sxb hXq [.l] [] 4000 rfl (by (simp [-List.getD_eq_getElem?_getD, -List.length_eq_zero_iff, conjP] <;> (first | omega | ((repeat' (refine And.intro ?_ ?_)) <;> (first | omega | exact decide_eq_false (by omega) | exact decide_eq_true (by omega)))))) ?_
  refine sxb hXq [.l] [.T, .T, .F, .F, .F] 4000 rfl (by (simp [-List.getD_eq_getElem?_getD, -List.length_eq_zero_iff, conjP, getH, HE.so, hr, hl, hst0, hst1, bd, hin, hlp, hd, hdn, hbx, hbs, hcx, hwd, hgv, classF, gvO, phO, mulS_eq, cellOff] <;> (first | omega | ((repeat' (refine And.intro ?_ ?_)) <;> (first | omega | exact decide_eq_false (by omega) | exact decide_eq_true (by omega)))))) ?_
  ((obtain ⟨D, hD, hDl⟩ : ∃ D : Nat, (IntKind.i64.wrap ((o i).which.tmod l.length + l.length)).tmod l.length = (D : Int) ∧ D < l.length := ⟨_, (Int.toNat_of_nonneg hd.1).symm, hdn⟩); (have hwD : IntKind.i64.wrap ((D : Int) + 1) = ((D + 1 : Nat) : Int) := by rw [wi64 (by omega) (by omega)]; omega); (have ht : List.take (l.length - (D + 1)) (List.drop (D + 1) l) = List.drop (D + 1) l := List.take_of_length_le (by simp)); (simp only [Int.toNat_natCast, hD, hwD, mulS_eq, Nat.mul_one, Int.toNat_zero, List.take_zero, List.drop_zero, List.nil_append, Nat.sub_zero, Nat.zero_add, ht]); (refine ss_raw hXq 5 3 rfl rfl fun v3 => ?_; refine ss_raw hXq 5 4 rfl rfl fun v4 => ?_; refine' J ⟨⟨_, st + 1, _, _, _, _⟩, ⟨some (l.take D ++ l.drop (D + 1)), .g2 (l.getD D 0) (W.getD (3 + classV A B (l.getD D 0)).toNat 0)⟩, v3, v4⟩ ⟨⟨?s0, ?s1⟩, ?iv⟩ _ _ _ (sub_ofD (sigP 2) rfl rfl rfl rfl rfl ?ht ?hh (by (repeat' (first | exact rfl | exact trivial | exact sim_refl _ | refine And.intro ?_ ?_))) ?ok); (case ht => exact ⟨by (repeat' (first | exact rfl | exact trivial | exact sim_refl _ | refine And.intro ?_ ?_)), by (repeat' (first | exact rfl | exact trivial | exact sim_refl _ | refine And.intro ?_ ?_)), by (repeat' (first | exact rfl | exact trivial | exact sim_refl _ | refine And.intro ?_ ?_)), by (repeat' (first | exact rfl | exact trivial | exact sim_refl _ | refine And.intro ?_ ?_)), by (repeat' (first | exact rfl | exact trivial | exact sim_refl _ | refine And.intro ?_ ?_)), by (repeat' (first | exact rfl | exact trivial | exact sim_refl _ | refine And.intro ?_ ?_)), ⟨rfl, ewi⟩, trivial⟩); (case hh => (((repeat' (first | exact rfl | exact trivial | exact sim_refl _ | exact subE_same rfl ren_slE | exact subE_phE rfl rfl | exact sim_slV rfl | exact sim_tkP rfl | exact sim_gvP rfl | assumption | (simp [lst]; done) | (simp [lst]; omega) | refine And.intro ?_ ?_)); done))); (case ok => (((repeat' (first | exact rfl | exact trivial | exact okE_slE | exact okE_phE rfl | exact okP_slV rfl | exact okP_tkP (A := 0) (B := 0) rfl | exact okP_gvP (A := 0) (B := 0) rfl | refine And.intro ?_ ?_)); done))); (case iv => exact ⟨L, hiv D hDl⟩); (case s0 => simp only; omega); (case s1 => simp only; omega)))
/-- Whatever a client does: its turn. -/
theorem al_turn (h : TurnH A B n i mi k L W st) : ∃ b1 b3 : Bool, ∀ (cap : Nat) (wh : Int) (ρ : Nat → Nat × Nat) (w : World) (I J0 : Act → World → Prop) (kd wd vl : Int) (ch : Bool) (p : VV), JP A B b1 b3 n cap i mi wh o k ρ w J0 ⟨W, st, kd, wd, vl, ch⟩ (k mi) p → GP A B b1 b3 n cap i wh o ρ w I J0 ⟨W, st, kd, wd, vl, ch⟩ (k mi) p := by
  rcases hc : k mi with ⟨own, ph⟩
  cases ph with
  | idle =>
    by_cases hg : (o i).give = true ∧ 0 < (lst own).length
    · exact ⟨true, true, fun cap wh ρ w I J0 kd wd vl ch p J => al_idg h hc hg.1 hg.2 J⟩
    · have hng : (o i).give = false ∨ (lst own).length = 0 := by
        cases hv : (o i).give with
        | false => exact .inl rfl
        | true => exact .inr (Nat.eq_zero_of_not_pos fun q => hg ⟨hv, q⟩)
      by_cases hcl : classV A B (W.getD (3 + (ibits .and .i64 (o i).which 1)).toNat 0 % 4294967296) = (ibits .and .i64 (o i).which 1)
      · exact ⟨true, true, fun cap wh ρ w I J0 kd wd vl ch p J => al_idty h hc hng hcl J⟩
      · exact ⟨false, true, fun cap wh ρ w I J0 kd wd vl ch p J => al_idtn h hc hng hcl J⟩
  | t1 c s b f =>
    by_cases hcl : classV A B (W.getD (3 + c).toNat 0 % 4294967296) = c
    · exact ⟨true, true, fun cap wh ρ w I J0 kd wd vl ch p J => al_t1y h hc hcl J⟩
    · exact ⟨false, true, fun cap wh ρ w I J0 kd wd vl ch p J => al_t1n h hc hcl J⟩
  | t2 c s b f => exact ⟨true, true, fun cap wh ρ w I J0 kd wd vl ch p J => al_t2 h hc J⟩
  | t3 c s b f =>
    by_cases hsw : W.getD (3 + c).toNat 0 = s
    · exact ⟨true, true, fun cap wh ρ w I J0 kd wd vl ch p J => al_t3y h hc hsw J⟩
    · exact ⟨true, false, fun cap wh ρ w I J0 kd wd vl ch p J => al_t3n h hc hsw J⟩
  | g1 b s => exact ⟨true, true, fun cap wh ρ w I J0 kd wd vl ch p J => al_g1 h hc J⟩
  | g2 b s => exact ⟨true, true, fun cap wh ρ w I J0 kd wd vl ch p J => al_g2 h hc J⟩
  | g3 b s =>
    by_cases hsw : W.getD (3 + classV A B b).toNat 0 = s
    · exact ⟨true, true, fun cap wh ρ w I J0 kd wd vl ch p J => al_g3y h hc hsw J⟩
    · exact ⟨true, false, fun cap wh ρ w I J0 kd wd vl ch p J => al_g3n h hc hsw J⟩
end
end Go.Proofs.Ytmghcelohnlceaa
