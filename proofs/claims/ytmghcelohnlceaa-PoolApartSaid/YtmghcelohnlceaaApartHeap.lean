/- A turn of one client. -/
import Derived.Test.YtmghcelohnlceaaApartLaw
namespace Go.Proofs.Ytmghcelohnlceaa
open Go Go.Hx
set_option maxRecDepth 8000
def ctap (A B : Int) (b1 b3 : Bool) : Nat → Option Hx.Spec
  | 13 => some (tkStepS A B b1 b3)
  | 15 => some (gvStepS A B b3)
  | 63 => some (pureS rightS)
  | 48 => some (pureS rightS)
  | 42 => some (pureS (placeS classF))
  | 50 => some (pureS (placeS classF))
  | 40 => some (pureS pHeadS)
  | 10 => some (makeS)
  | 17 => some (arWordsS)
  | 9 => some (pureS cfgPS)
  | 12 => some (hasS)
  | 8 => some (pureS awPS)
  | _ => none
theorem ctap_ok (A B : Int) (b1 b3 : Bool) : ∀ f s args H ob V L, ctap A B b1 b3 f = some s → s args H = some (ob, V, L) → AllP ob → Gives Try.prog f args H (Is V L) := by
  intro f s args H ob V L h hs ho
  unfold ctap at h
  split at h
  · simp at h; subst h; exact tkStepS_ok hs ho
  · simp at h; subst h; exact gvStepS_ok hs ho
  · simp at h; subst h; exact pureS_ok ⟨_, hTE⟩ (rightS_ok right63) hs ho
  · simp at h; subst h; exact pureS_ok ⟨_, hTE⟩ (rightS_ok right48) hs ho
  · simp at h; subst h; exact pureS_ok ⟨_, hTE⟩ (placeS_ok (v := classF) class_fn) hs ho
  · simp at h; subst h; exact pureS_ok ⟨_, hTE⟩ (placeS_ok (v := classF) rclass_fn) hs ho
  · simp at h; subst h; exact pureS_ok ⟨_, hTE⟩ (pHeadS_ok) hs ho
  · simp at h; subst h; exact makeS_ok hs ho
  · simp at h; subst h; exact arWordsS_ok hs ho
  · simp at h; subst h; exact pureS_ok ⟨_, hTE⟩ (cfgPS_ok) hs ho
  · simp at h; subst h; exact hasS_ok hs ho
  · simp at h; subst h; exact pureS_ok ⟨_, hTE⟩ (awPS_ok) hs ho
  · simp at h
noncomputable def Xap (A B : Int) (b1 b3 : Bool) : Tabs := tabs tr ft xt (fun _ => none) (ctap A B b1 b3) 0
theorem hXap (A B : Int) (b1 b3 : Bool) : TOk Try.prog (Xap A B b1 b3) := ⟨hTE, hFT, (ctap_ok A B b1 b3), hXT, fun t ks h => by simp [Xap, tabs] at h, mixed⟩
abbrev cfO (A B : Int) : HE := .obj (.cells [.int .i64 1, .int .i64 4, .int .i64 1, .int .i64 2, .int .i64 4, .int .i64 A, .int .i64 6, .int .i64 B, .int .i64 2] 29)
abbrev VV := Value × Value
abbrev cqO (_a b d : Nat) (c : Pk) (p : VV) : HE := .obj (.cells [slV c.own b, tkP c.ph d, gvP c.ph d, .raw p.1, .raw p.2] 43)
structure SP where
  (W : List Int) (st kd wd vl : Int) (ch : Bool)
abbrev gvP1 (G : List Int) : HE := .obj (.ints .i64 G 3)
def gb : Ph → Int
  | .g1 b _ => b
  | .g2 b _ => b
  | .g3 b _ => b
  | _ => 0
def sqT (n cap i mi : Nat) : List (Nat × SV) := [(1, .slice 0 0 n cap), (5, .tt), (6, .ptr 1 0), (7, .ptr 3 0), (9, .slice 4 0 4 4), (10, .slice 5 0 4 4), (11, .int .i64 (i : Int)), (12, .int .i64 (mi : Int)), (13, .ptr 6 0)]
def sqT2 (n cap i mi N : Nat) : List (Nat × SV) := [(1, .slice 0 0 n cap), (5, .tt), (6, .ptr 1 0), (7, .ptr 3 0), (9, .slice 4 0 4 4), (10, .slice 5 0 4 4), (11, .int .i64 (i : Int)), (12, .int .i64 (mi : Int)), (13, .ptr 6 0), (14, .sbuf 11 1 0 N)]
def sqT3 (n cap i mi N j : Nat) : List (Nat × SV) := [(1, .slice 0 0 n cap), (5, .tt), (6, .ptr 1 0), (7, .ptr 3 0), (9, .slice 4 0 4 4), (10, .slice 5 0 4 4), (11, .int .i64 (i : Int)), (12, .int .i64 (mi : Int)), (13, .ptr 6 0), (14, .sbuf 11 1 0 N), (16, .int .i64 (j : Int))]
def sqTj (n cap i : Nat) : List (Nat × SV) := [(1, .slice 0 0 n cap), (5, .tt), (6, .ptr 1 0), (7, .ptr 3 0), (9, .slice 4 0 4 4), (10, .slice 5 0 4 4), (11, .int .i64 (i : Int))]
def sqH (n : Nat) (o : Nat → ActP) (A B : Int) (G : List Int) (x : SP) (c : Pk) (p : VV) : List HE :=
  [.obj (.rows n 3 (actRow o)), cfO A B, WO x.W, AOx 2 x.W x.st x.kd x.wd x.vl x.ch, .opq, gvP1 G, cqO 6 7 8 c p, slE c.own .i64 3, phE A B 8 c.ph]
def sqH2 (n : Nat) (o : Nat → ActP) (A B : Int) (c0 : Pk) (G : List Int) (x : SP) (c : Pk) (p : VV) (l : List Int) : List HE :=
  [.obj (.rows n 3 (actRow o)), cfO A B, WO x.W, AOx 2 x.W x.st x.kd x.wd x.vl x.ch, .opq, gvP1 G, cqO 6 9 10 c p, (slE c0.own .i64 3).dim, (phE A B 8 c0.ph).dim, slE c.own .i64 3, phE A B 10 c.ph, .obj (.buf .i64 l 1 3)]
def sqJ (n : Nat) (o : Nat → ActP) (A B : Int) (c0 : Pk) (G : List Int) (x : SP) (c : Pk) (p : VV) : List HE :=
  [.obj (.rows n 3 (actRow o)), cfO A B, WO x.W, AOx 2 x.W x.st x.kd x.wd x.vl x.ch, .opq, gvP1 G, cqO 6 9 10 c p, (slE c0.own .i64 3).dim, (phE A B 8 c0.ph).dim, slE c.own .i64 3, phE A B 10 c.ph]
def sigP (t : Nat) (H : List HE) : Option (List Nat) :=
  match hdlF H 6 0 60, (match t with | 0 => some 61 | j => hdlF H 6 j 61) with
  | some a, some b => some [0, 1, 2, 3, 4, 5, 6, 7, 8, a, b]
  | _, _ => none
structure PQ where
  x : SP
  c : Pk
  p : VV
  G : List Int
def qPa (A B : Int) (i mi : Nat) (k : Nat → Pk) (G : List Int) (q : PQ) : Prop := (0 ≤ q.x.st ∧ q.x.st ≤ 30 + ((i + 1 : Nat) : Int)) ∧ q.G = G.set mi (gb q.c.ph) ∧ ∃ L, InvQ A B (i + 1) q.x.W (kset k mi q.c) L

theorem set_same {l : List Int} {i : Nat} : l.set i (l.getD i 0) = l := by
  rcases Nat.lt_or_ge i l.length with h | h
  · rw [List.getD_eq_getElem?_getD, List.getElem?_eq_getElem h]; exact List.set_getElem_self h
  · exact List.set_eq_of_length_le h
theorem and1 (x : Int) : 0 ≤ ibits .and .i64 x 1 ∧ ibits .and .i64 x 1 ≤ 1 := andB (m := 1) x 1 (by decide) (by decide)
theorem getD_mem {l : List Int} {d : Nat} (h : d < l.length) : l.getD d 0 ∈ l := by
  rw [List.getD_eq_getElem?_getD, List.getElem?_eq_getElem h]; exact List.getElem_mem h
theorem nodup_other {l : List Int} (h : l.Nodup) {D : Nat} (hD : D < l.length) : hasL (l.take D ++ l.drop (D + 1)) (l.getD D 0) = false := by
  rw [← Bool.not_eq_true, hasL_iff]
  intro hm
  have e : l = l.take D ++ l.getD D 0 :: l.drop (D + 1) := by
    rw [List.getD_eq_getElem?_getD, List.getElem?_eq_getElem hD, Option.getD_some, ← List.drop_eq_getElem_cons hD, List.take_append_drop]
  have h2 := h
  rw [e, List.nodup_append] at h2
  rw [List.mem_append] at hm
  rcases hm with hm | hm
  · exact h2.2.2 _ hm _ (by simp) rfl
  · exact (List.nodup_cons.1 h2.2.1).1 hm
theorem nodup_same {l : List Int} (_h : l.Nodup) {D j : Nat} (hj : j < l.length) (hD : D < l.length) (hn : j ≠ D) : hasL (l.take D ++ l.drop (D + 1)) (l.getD j 0) = true := by
  rw [hasL_iff, List.mem_append]
  have ej : l.getD j 0 = l[j] := by rw [List.getD_eq_getElem?_getD, List.getElem?_eq_getElem hj]; rfl
  rw [ej]
  rcases Nat.lt_or_ge j D with q | q
  · left; exact List.mem_iff_getElem.2 ⟨j, by simp; omega, by simp⟩
  · right; exact List.mem_iff_getElem.2 ⟨j - (D + 1), by simp; omega, by rw [List.getElem_drop]; congr 1; omega⟩
section
variable {n cap : Nat} {G : List Int} {o : Nat → ActP} {A B : Int} {i mi : Nat} {k : Nat → Pk} {L : Int → List Int} {ρ : Nat → Nat × Nat} {w : World} {I J0 : Act → World → Prop} {W : List Int} {st kd wd vl : Int} {ch : Bool} {p : VV} {own : Option (List Int)} {b1 b3 : Bool}
abbrev JP (A B : Int) (b1 b3 : Bool) (n cap i mi : Nat) (o : Nat → ActP) (k : Nat → Pk) (ρ : Nat → Nat × Nat) (w : World) (J0 : Act → World → Prop) (G : List Int) (x : SP) (c : Pk) (p : VV) : Prop :=
  ∀ q : PQ, qPa A B i mi k G q → ∀ cs T H, Sub (FEnv Try.prog (Xap A B b1 b3).TE (hXap A B b1 b3).te Try.f3 Try.f3.ntmps (sqH n o A B G x c p) Not2 ρ w) T H (sqTj n cap i) (sqJ n o A B c q.G q.x q.c q.p) → SS (hXap A B b1 b3) (At ρ w) Not2 ⟨cs, [], Try.f3, Try.f3.ntmps, sqH n o A B G x c p, [.lp J0], T, H⟩
abbrev GP (A B : Int) (b1 b3 : Bool) (n cap i mi : Nat) (o : Nat → ActP) (ρ : Nat → Nat × Nat) (w : World) (I J0 : Act → World → Prop) (G : List Int) (x : SP) (c : Pk) (p : VV) : Prop :=
  SS (hXap A B b1 b3) (At ρ w) Not2 ⟨[], [], Try.f3, Try.f3.ntmps, sqH n o A B G x c p, preK 30 (flatS (contF Try.f3 13 [I])) ++ [.lp J0], sqT n cap i mi, sqH n o A B G x c p⟩
structure TurnH (A B : Int) (G : List Int) (n i mi : Nat) (k : Nat → Pk) (L : Int → List Int) (W : List Int) (st : Int) : Prop where
  hin : i < n
  hi : i < 200
  inv : InvQ A B i W k L
  s0 : 0 ≤ st
  s1 : st ≤ 30 + (i : Int)
  hm : mi < 4
  g4 : G.length = 4
  gm : G.getD mi 0 = gb (k mi).ph
theorem TurnH.facts (h : TurnH A B G n i mi k L W st) : rightB 1 4 1 2 4 A 6 B 2 = true ∧ ((W.length : Int) = 16 + A * 5 + B * 7) ∧ (∀ j, 0 ≤ W.getD j 0 ∧ W.getD j 0 < 18446744073709551616) ∧ IntKind.i64.wrap ((i : Int) + 1) = ((i + 1 : Nat) : Int) ∧ st < 1000000 := by
  have h1 := h.inv.a0
  have h2 := h.inv.a1
  have h3 := h.inv.b0
  have h4 := h.inv.b1
  have h5 := h.s1
  have h6 := h.hi
  refine ⟨pool_right h1 h2 h3 h4, ?_, h.inv.bd, by rw [wi64 (by omega) (by omega)]; omega, by omega⟩
  have e := h.inv.len
  rw [szP_eq] at e
  omega

end
end Go.Proofs.Ytmghcelohnlceaa
