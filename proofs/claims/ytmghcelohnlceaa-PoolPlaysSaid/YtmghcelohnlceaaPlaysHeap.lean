/- A turn of one client. -/
import Derived.Test.YtmghcelohnlceaaRefRuns
import Derived.Test.YtmghcelohnlceaaPoolHeap
import Derived.Test.YtmghcelohnlceaaSame
namespace Go.Proofs.Ytmghcelohnlceaa
open Go Go.Hx
set_option maxRecDepth 8000
def ctpl (A B : Int) (b1 b3 : Bool) : Nat → Option Hx.Spec
  | 13 => some (tkStepS A B b1 b3)
  | 27 => some (rtkStepS A B b1 b3)
  | 29 => some (rgvStepS A B b3)
  | 23 => some (arStepsS)
  | 30 => some (arLastS)
  | 31 => some (sameS)
  | 26 => some (rmakeS)
  | 15 => some (gvStepS A B b3)
  | 63 => some (pureS rightS)
  | 48 => some (pureS rightS)
  | 42 => some (pureS (placeS classF))
  | 50 => some (pureS (placeS classF))
  | 40 => some (pureS pHeadS)
  | 10 => some (makeS)
  | 17 => some (arWordsS)
  | 9 => some (pureS cfgPS)
  | 8 => some (pureS awPS)
  | _ => none
theorem ctpl_ok (A B : Int) (b1 b3 : Bool) : ∀ f s args H ob V L, ctpl A B b1 b3 f = some s → s args H = some (ob, V, L) → AllP ob → Gives Try.prog f args H (Is V L) := by
  intro f s args H ob V L h hs ho
  unfold ctpl at h
  split at h
  · simp at h; subst h; exact tkStepS_ok hs ho
  · simp at h; subst h; exact rtkStepS_ok hs ho
  · simp at h; subst h; exact rgvStepS_ok hs ho
  · simp at h; subst h; exact arStepsS_ok hs ho
  · simp at h; subst h; exact arLastS_ok hs ho
  · simp at h; subst h; exact sameS_ok hs ho
  · simp at h; subst h; exact rmakeS_ok hs ho
  · simp at h; subst h; exact gvStepS_ok hs ho
  · simp at h; subst h; exact pureS_ok ⟨_, hTE⟩ (rightS_ok right63) hs ho
  · simp at h; subst h; exact pureS_ok ⟨_, hTE⟩ (rightS_ok right48) hs ho
  · simp at h; subst h; exact pureS_ok ⟨_, hTE⟩ (placeS_ok (v := classF) class_fn) hs ho
  · simp at h; subst h; exact pureS_ok ⟨_, hTE⟩ (placeS_ok (v := classF) rclass_fn) hs ho
  · simp at h; subst h; exact pureS_ok ⟨_, hTE⟩ (pHeadS_ok) hs ho
  · simp at h; subst h; exact makeS_ok hs ho
  · simp at h; subst h; exact arWordsS_ok hs ho
  · simp at h; subst h; exact pureS_ok ⟨_, hTE⟩ (cfgPS_ok) hs ho
  · simp at h; subst h; exact pureS_ok ⟨_, hTE⟩ (awPS_ok) hs ho
  · simp at h
noncomputable def Xpl (A B : Int) (b1 b3 : Bool) : Tabs := tabs tr ft xt (etA) (ctpl A B b1 b3) 0
theorem hXpl (A B : Int) (b1 b3 : Bool) : TOk Try.prog (Xpl A B b1 b3) := ⟨hTE, hFT, (ctpl_ok A B b1 b3), hXT, etA_ok, mixed⟩
abbrev cfO (A B : Int) : HE := .obj (.cells [.int .i64 1, .int .i64 4, .int .i64 1, .int .i64 2, .int .i64 4, .int .i64 A, .int .i64 6, .int .i64 B, .int .i64 2] 29)
abbrev VV := Value × Value
def rtP (p : Ph) (v : Value) (h : Nat) : SV :=
  match p with
  | .t1 .. => .ptr h 0
  | .t2 .. => .ptr h 0
  | .t3 .. => .ptr h 0
  | _ => .raw v
def rgP (p : Ph) (v : Value) (h : Nat) : SV :=
  match p with
  | .g1 .. => .ptr h 0
  | .g2 .. => .ptr h 0
  | .g3 .. => .ptr h 0
  | _ => .raw v
def rphE (A B : Int) : Ph → HE
  | .idle => .absent
  | .t1 c s b f => .obj (rphO A B 0 (.t1 c s b f))
  | .t2 c s b f => .obj (rphO A B 0 (.t2 c s b f))
  | .t3 c s b f => .obj (rphO A B 0 (.t3 c s b f))
  | .g1 b s => .obj (rphO A B 0 (.g1 b s))
  | .g2 b s => .obj (rphO A B 0 (.g2 b s))
  | .g3 b s => .obj (rphO A B 0 (.g3 b s))
section
variable {σ σ' : Nat → Nat} {H H' : List HE} {A B : Int} {h h' i : Nat} {p : Ph} {v : Value}
theorem ren_rtP : (rtP p v h).ren σ = rtP p v (σ h) := by cases p <;> rfl
theorem ren_rgP : (rgP p v h).ren σ = rgP p v (σ h) := by cases p <;> rfl
theorem ren_rphE : (rphE A B p).ren σ = rphE A B p := by cases p <;> rfl
theorem sim_rtP (hs : σ h = h') : sim (rtP p v h') ((rtP p v h).ren σ) := by subst hs; rw [ren_rtP]; exact sim_refl _
theorem sim_rgP (hs : σ h = h') : sim (rgP p v h') ((rgP p v h).ren σ) := by subst hs; rw [ren_rgP]; exact sim_refl _
theorem sim_rtP3 (hs : σ' h' = σ h) : sim ((rtP p v h').ren σ') ((rtP p v h).ren σ) := by rw [ren_rtP, ren_rtP, hs]; exact sim_refl _
theorem sim_rgP3 (hs : σ' h' = σ h) : sim ((rgP p v h').ren σ') ((rgP p v h).ren σ) := by rw [ren_rgP, ren_rgP, hs]; exact sim_refl _
theorem okP_rtP (e : thereF H' h = (rphE A B p).there) : okP (thereF H') (rtP p v h) := by
  cases p <;> first | exact trivial | simpa [rtP, okP, rphE, HE.there] using e
theorem okP_rgP (e : thereF H' h = (rphE A B p).there) : okP (thereF H') (rgP p v h) := by
  cases p <;> first | exact trivial | simpa [rgP, okP, rphE, HE.there] using e
theorem okE_rphE {A' : Nat → Bool} : okE A' (rphE A B p) := by
  cases p <;> (simp only [rphE, rphO, rtkO, rgvO, okE, okPs, okP]; (repeat' (first | exact trivial | refine And.intro ?_ ?_)))
theorem okNew_rphE : okNew (rphE A B p) := by cases p <;> first | trivial | rfl
end
abbrev cqO (_a b d e : Nat) (c : Pk) (p : VV) : HE := .obj (.cells [slV c.own b, tkP c.ph d, gvP c.ph d, rtP c.ph p.1 e, rgP c.ph p.2 e] 43)
structure SP where
  (W : List Int) (st kd wd vl : Int) (ch : Bool)
def sqT (n cap i : Nat) : List (Nat × SV) := [(1, .slice 0 0 n cap), (5, .tt), (6, .ptr 1 0), (7, .ptr 3 0), (9, .ptr 5 0), (10, .slice 6 0 4 4), (11, .int .i64 (i : Int)), (12, .ptr 7 0)]
def sqTj (n cap i : Nat) : List (Nat × SV) := [(1, .slice 0 0 n cap), (5, .tt), (6, .ptr 1 0), (7, .ptr 3 0), (9, .ptr 5 0), (10, .slice 6 0 4 4), (11, .int .i64 ((i + 1 : Nat) : Int))]
def sqH (n : Nat) (o : Nat → ActP) (A B : Int) (x : SP) (c : Pk) (p : VV) : List HE :=
  [.obj (.rows n 3 (actRow o)), cfO A B, WO x.W, AOx 2 x.W x.st x.kd x.wd x.vl x.ch, WO x.W, ROx 4 x.W x.st x.kd x.wd x.vl x.ch, .opq, cqO 7 8 9 10 c p, slE c.own .i64 3, phE A B 9 c.ph, rphE A B c.ph]
def sqJ (n : Nat) (o : Nat → ActP) (A B : Int) (c0 : Pk) (x : SP) (c : Pk) (p : VV) : List HE :=
  [.obj (.rows n 3 (actRow o)), cfO A B, WO x.W, AOx 2 x.W x.st x.kd x.wd x.vl x.ch, WO x.W, ROx 4 x.W x.st x.kd x.wd x.vl x.ch, .opq, cqO 7 11 12 13 c p, (slE c0.own .i64 3).dim, (phE A B 9 c0.ph).dim, (rphE A B c0.ph).dim, slE c.own .i64 3, phE A B 12 c.ph, rphE A B c.ph]
def sigP (t : Nat) (H : List HE) : Option (List Nat) :=
  match hdlF H 7 0 60, (match t with | 0 => some 61 | j => hdlF H 7 j 61), (match t with | 0 => some 62 | j => hdlF H 7 (j + 2) 62) with
  | some a, some b, some d => some [0, 1, 2, 3, 4, 5, 6, 7, 8, 9, 10, a, b, d]
  | _, _, _ => none
structure PQ where
  x : SP
  c : Pk
  p : VV
def qPa (A B : Int) (i mi : Nat) (k : Nat → Pk) (q : PQ) : Prop := (0 ≤ q.x.st ∧ q.x.st ≤ 30 + ((i + 1 : Nat) : Int)) ∧ ∃ L, InvQ A B (i + 1) q.x.W (kset k mi q.c) L

theorem and1 (x : Int) : 0 ≤ ibits .and .i64 x 1 ∧ ibits .and .i64 x 1 ≤ 1 := andB (m := 1) x 1 (by decide) (by decide)
theorem getD_mem {l : List Int} {d : Nat} (h : d < l.length) : l.getD d 0 ∈ l := by
  rw [List.getD_eq_getElem?_getD, List.getElem?_eq_getElem h]; exact List.getElem_mem h
section
variable {n cap : Nat} {o : Nat → ActP} {A B : Int} {i mi : Nat} {k : Nat → Pk} {L : Int → List Int} {ρ : Nat → Nat × Nat} {w : World} {I J0 : Act → World → Prop} {W : List Int} {st kd wd vl : Int} {ch : Bool} {p : VV} {own : Option (List Int)} {b1 b3 : Bool}
abbrev JP (A B : Int) (b1 b3 : Bool) (n cap i mi : Nat) (o : Nat → ActP) (k : Nat → Pk) (ρ : Nat → Nat × Nat) (w : World) (J0 : Act → World → Prop) (x : SP) (c : Pk) (p : VV) : Prop :=
  ∀ q : PQ, qPa A B i mi k q → ∀ cs T H, Sub (FEnv Try.prog (Xpl A B b1 b3).TE (hXpl A B b1 b3).te Try.f7 Try.f7.ntmps (sqH n o A B x c p) Not2 ρ w) T H (sqTj n cap i) (sqJ n o A B c q.x q.c q.p) → SS (hXpl A B b1 b3) (At ρ w) Not2 ⟨cs, [], Try.f7, Try.f7.ntmps, sqH n o A B x c p, [.lp J0], T, H⟩
abbrev GP (A B : Int) (b1 b3 : Bool) (n cap i : Nat) (o : Nat → ActP) (ρ : Nat → Nat × Nat) (w : World) (I J0 : Act → World → Prop) (x : SP) (c : Pk) (p : VV) : Prop :=
  SS (hXpl A B b1 b3) (At ρ w) Not2 ⟨[], [], Try.f7, Try.f7.ntmps, sqH n o A B x c p, upLp (contF Try.f7 12 [I]) ++ [.lp J0], sqT n cap i, sqH n o A B x c p⟩
structure TurnH (A B : Int) (n i mi : Nat) (k : Nat → Pk) (L : Int → List Int) (W : List Int) (st : Int) : Prop where
  hin : i < n
  hi : i < 150
  inv : InvQ A B i W k L
  s0 : 0 ≤ st
  s1 : st ≤ 30 + (i : Int)
  hm : mi < 4
theorem TurnH.facts (h : TurnH A B n i mi k L W st) : rightB 1 4 1 2 4 A 6 B 2 = true ∧ ((W.length : Int) = 16 + A * 5 + B * 7) ∧ (∀ j, 0 ≤ W.getD j 0 ∧ W.getD j 0 < 18446744073709551616) ∧ IntKind.i64.wrap ((i : Int) + 1) = ((i + 1 : Nat) : Int) ∧ st < 1000000 := by
  have h1 := h.inv.a0
  have h2 := h.inv.a1
  have h3 := h.inv.b0
  have h4 := h.inv.b1
  have h5 := h.s1
  have h6 := h.hi
  refine ⟨pool_right h1 h2 h3 h4, ?_, h.inv.bd, by rw [wi64 (by omega) (by omega)]; omega, by omega⟩
  have e := h.inv.len
  rw [szP_eq] at e
  omega

end
end Go.Proofs.Ytmghcelohnlceaa
