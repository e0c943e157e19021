/- Find: the steps of the run of the document that lists. -/
import Derived.Test.YtkkddjchkkaagaaGreatDoorDocFind
import Derived.Test.YtkkddjchkkaagaaGreatDoorHyc

namespace Go.Proofs.YtkkddjchkkaagaaGreatDoor
open Go Go.Hx
set_option maxRecDepth 8000
/-- Where a key is put. -/
def insP : List Int → Int → Nat
  | [], _ => 0
  | x :: r, k => if x < k then insP r k + 1 else 0
def insD (l : List Int) (k : Int) : List Int := l.take (insP l k) ++ [k] ++ l.drop (insP l k)
theorem insP_le : ∀ {l : List Int} {k : Int}, insP l k ≤ l.length
  | [], _ => Nat.le_refl _
  | x :: r, k => by
    unfold insP
    split
    · have := insP_le (l := r) (k := k); simp; exact this
    · simp
theorem insP_at : ∀ {l : List Int} {k : Int} {j : Nat}, j ≤ insP l k → ((j < l.length ∧ l.getD j 0 < k) ↔ j < insP l k)
  | [], k, j, h => by simp [insP] at h ⊢
  | x :: r, k, 0, h => by
    unfold insP
    split
    · rename_i g; simp [g]
    · rename_i g; simp; omega
  | x :: r, k, j + 1, h => by
    unfold insP at h ⊢
    split at h
    · rename_i g
      rw [if_pos g]
      have := insP_at (l := r) (k := k) (j := j) (by omega)
      simp only [List.length_cons, List.getD_cons_succ]
      constructor
      · intro q; have := this.1 ⟨by omega, q.2⟩; omega
      · intro q; have := this.2 (by omega); exact ⟨by omega, this.2⟩
    · omega
def ctDl : Nat → Option Hx.Spec
  | 42 => some (pureS (placeS entryF))
  | 60 => some (pureS runpkS)
  | 117 => some (raLoadS)
  | _ => none
theorem ctDl_ok : ∀ f s args H ob V L, ctDl f = some s → s args H = some (ob, V, L) → AllP ob → Gives Tryz.prog f args H (Is V L) := by
  intro f s args H ob V L h hs ho
  unfold ctDl at h
  split at h
  · simp at h; subst h; exact pureS_ok ⟨_, hTE⟩ (placeS_ok (v := entryF) rentry_fn) hs ho
  · simp at h; subst h; exact pureS_ok ⟨_, hTE⟩ (runpkS_ok) hs ho
  · simp at h; subst h; exact raLoadS_ok hs ho
  · simp at h
noncomputable def XDl : Tabs := tabs tr ft xt (fun _ => none) ctDl 0
theorem hXDl : TOk Tryz.prog (XDl) := ⟨hTE, hFT, ctDl_ok, hXT, fun t ks h => by simp [XDl, tabs] at h, mixed⟩
/-- g: where the list lies. -/
def dlC (T R : Int) (g : Nat) (s : LS) (dL : Option (List Int)) (de : Int) : SO := .cells [.int .i64 T, .int .i64 4, .int .i64 1, .int .i64 2, .int .i64 4, .int .i64 1, .int .i64 6, .int .i64 0, .int .i64 R, .int .i64 (s.ph : Int), .int .i64 (s.i : Int), .int .i64 s.fd, .int .u64 s.seq, slV dL g, .int .i64 de, .int .i64 s.tm] 86
section
variable {T : Nat} {R : Int} {W : List Int} {st kd wd vl : Int} {ch : Bool} {seq : Int} {i : Nat} {fd er tm de : Int} {told : Option (List Int)} {ρ : Nat → Nat × Nat} {w : World}
abbrev kyE (k : Int) (b c : Bool) : HE := .obj (.cells [.int .i64 k, .bool b, .bool c] 73)
/-- Where the key is put in: behind the search. -/
abbrev dlGn (T : Nat) (R : Int) (s : LS) (de : Int) (W : List Int) (st wd vl : Int) (k : Int) (b c : Bool) (ρ : Nat → Nat × Nat) (w : World) (H0 : List HE) (Q : SV → List HE → Prop) : Prop :=
  SS hXDl (At ρ w) Q ⟨[], [], Tryz.f46, Tryz.f46.ntmps, H0, contF Tryz.f46 16 [],
    [(0, .ptr 0 0), (1, .ptr 1 0), (5, .ptr 3 0), (6, .int .i64 0)], [.obj (dlC (T : Int) R 3 s none de), ROx 2 W st 1 wd vl false, WO W, kyE k b c]⟩
abbrev dlGs (l : List Int) (T : Nat) (R : Int) (s : LS) (de : Int) (W : List Int) (st wd vl : Int) (k : Int) (b c : Bool) (j : Nat) (ρ : Nat → Nat × Nat) (w : World) (H0 : List HE) (Q : SV → List HE → Prop) : Prop :=
  SS hXDl (At ρ w) Q ⟨[], [], Tryz.f46, Tryz.f46.ntmps, H0, contF Tryz.f46 16 [],
    [(0, .ptr 0 0), (1, .ptr 1 0), (5, .ptr 4 0), (6, .int .i64 (j : Int))], [.obj (dlC (T : Int) R 3 s (some l) de), ROx 2 W st 1 wd vl false, WO W, .obj (.buf .i64 l 1 3), kyE k b c]⟩
abbrev dlKn (T : Nat) (R : Int) (s : LS) (de : Int) (W : List Int) (st wd vl : Int) (l : List Int) (ρ : Nat → Nat × Nat) (w : World) (H0 : List HE) (Q : SV → List HE → Prop) : Prop :=
  SS hXDl (At ρ w) Q ⟨[], [], Tryz.f46, Tryz.f46.ntmps, H0, contF Tryz.f46 17 [],
    [(0, .ptr 0 0), (1, .ptr 1 0)], [.obj (dlC (T : Int) R 3 s (some l) de), ROx 2 W st 1 wd vl false, WO W, .obj (.buf .i64 l 1 3)]⟩
abbrev dlKs (T : Nat) (R : Int) (s : LS) (de : Int) (W : List Int) (st wd vl : Int) (l : List Int) (ρ : Nat → Nat × Nat) (w : World) (H0 : List HE) (Q : SV → List HE → Prop) : Prop :=
  SS hXDl (At ρ w) Q ⟨[], [], Tryz.f46, Tryz.f46.ntmps, H0, contF Tryz.f46 17 [],
    [(0, .ptr 0 0), (1, .ptr 1 0)], [.obj (dlC (T : Int) R 4 s (some l) de), ROx 2 W st 1 wd vl false, WO W, .opq, .obj (.buf .i64 l 1 3)]⟩
set_option maxHeartbeats 4000000 in
theorem dlBn {k : Int} {b c : Bool} {H0 : List HE} {Q : SV → List HE → Prop} {ph : Nat} {wd vl : Int} (hb : fromN H0.length 0 [0, 1, 2, 8] = true) (hl' : leH H0 [.obj (dlC (T : Int) R 3 ⟨ph, seq, i, fd, told, er, tm⟩ (some [k]) de), ROx 2 W st 1 wd vl false, WO W, .obj (.buf .i64 [k] 1 3)] = true)
    (J : dlKn T R ⟨ph, seq, i, fd, told, er, tm⟩ de W st wd vl [k] ρ w H0 Q) : dlGn T R ⟨ph, seq, i, fd, told, er, tm⟩ de W st wd vl k b c ρ w H0 Q := by
  dsimp only [dlGn, dlKn, dlC, slV, slE] at *
  refine ss_drawW hXDl 11 (.ints .i64 [k] 3) 1 1 none [] 4000 rfl ?ob ?go
  case ob =>
    repeat' (first | exact rfl | exact trivial | refine And.intro ?_ ?_)
    all_goals (simp [conjP, mulS]; try omega)
  refine sxb hXDl [.r 17] [] 100 rfl trivial ?_
  refine ss_sub hXDl [0, 1, 2, 8] rfl rfl hb hl' ?tt ?hh ?ot ?ok J
  case tt => exact clF
  case hh =>
    repeat' (first | exact rfl | exact trivial | exact sim_refl _ | refine And.intro ?_ ?_)
    all_goals first | (simp; omega) | (simp [mulS, List.take_of_length_le])
  case ot => exact clF
  case ok => exact clF
set_option maxHeartbeats 4000000 in
theorem dlBs {l : List Int} {j : Nat} {k : Int} {b c : Bool} {H0 : List HE} {Q : SV → List HE → Prop} {ph : Nat} {wd vl : Int} (hj : j ≤ l.length) (hl : l.length < 1000) (hb : fromN H0.length 0 [0, 1, 2, 3, 9] = true) (hl' : leH H0 [.obj (dlC (T : Int) R 4 ⟨ph, seq, i, fd, told, er, tm⟩ (some (l.take j ++ [k] ++ l.drop j)) de), ROx 2 W st 1 wd vl false, WO W, .opq, .obj (.buf .i64 (l.take j ++ [k] ++ l.drop j) 1 3)] = true)
    (J : dlKs T R ⟨ph, seq, i, fd, told, er, tm⟩ de W st wd vl (l.take j ++ [k] ++ l.drop j) ρ w H0 Q) : dlGs l T R ⟨ph, seq, i, fd, told, er, tm⟩ de W st wd vl k b c j ρ w H0 Q := by
  dsimp only [dlGs, dlKs, dlC, slV, slE] at *
  refine ss_drawW hXDl 11 (.ints .i64 [k] 3) 1 1 none [] 4000 rfl ?ob ?go
  case ob =>
    repeat' (first | exact rfl | exact trivial | refine And.intro ?_ ?_)
    all_goals (simp [conjP, mulS]; try omega)
  refine sxb hXDl [.r 17] [] 100 rfl trivial ?_
  refine ss_sub hXDl [0, 1, 2, 3, 9] rfl rfl hb hl' ?tt ?hh ?ot ?ok J
  case tt => exact clF
  case hh =>
    repeat' (first | exact rfl | exact trivial | exact sim_refl _ | refine And.intro ?_ ?_)
    all_goals first | (simp; omega) | (simp [mulS, List.take_of_length_le])
  case ot => exact clF
  case ok => exact clF
/-- Where a place is read; where it has been. -/
abbrev dlZn (T : Nat) (R : Int) (s : LS) (de : Int) (W : List Int) (st kd wd vl : Int) (ch : Bool) (ρ : Nat → Nat × Nat) (w : World) (H0 : List HE) (Q : SV → List HE → Prop) : Prop :=
  SS hXFd (At ρ w) Q ⟨[], [], Tryz.f46, Tryz.f46.ntmps, H0, contF Tryz.f46 10 [],
    [(0, .ptr 0 0), (1, .ptr 1 0)], [.obj (dlC (T : Int) R 3 s none de), ROx 2 W st kd wd vl ch, WO W]⟩
abbrev dlYn (T : Nat) (R : Int) (s : LS) (de : Int) (W : List Int) (st wd vl : Int) (k : Int) (b c : Bool) (ρ : Nat → Nat × Nat) (w : World) (H0 : List HE) (Q : SV → List HE → Prop) : Prop :=
  SS hXFd (At ρ w) Q ⟨[], [], Tryz.f46, Tryz.f46.ntmps, H0, contF Tryz.f46 11 [],
    [(0, .ptr 0 0), (1, .ptr 1 0), (5, .ptr 3 0)], [.obj (dlC (T : Int) R 3 s none de), ROx 2 W st 1 wd vl false, WO W, kyE k b c]⟩
set_option maxHeartbeats 4000000 in
theorem dlZn_ok (B : FB T R W st) (hi : i < T) {H0 : List HE} {Q : SV → List HE → Prop} {ph : Nat} (hb : fromN H0.length 0 [0, 1, 2, 3] = true) (hl' : leH H0 [.obj (dlC (T : Int) R 3 ⟨ph, seq, i, fd, told, er, tm⟩ none de), ROx 2 W (st + 1) 1 (fP i : Int) (W.getD (fP i) 0) false, WO W, kyE (kyW (W.getD (fP i) 0)) (lgW (W.getD (fP i) 0)) (isK (W.getD (fP i) 0))] = true)
    (J : dlYn T R ⟨ph, seq, i, fd, told, er, tm⟩ de W (st + 1) (fP i : Int) (W.getD (fP i) 0) (kyW (W.getD (fP i) 0)) (lgW (W.getD (fP i) 0)) (isK (W.getD (fP i) 0)) ρ w H0 Q) : dlZn T R ⟨ph, seq, i, fd, told, er, tm⟩ de W st kd wd vl ch ρ w H0 Q := by
  have t1 := B.t1
  have t8 := B.t8
  have r1 := B.r1
  have r4 := B.r4
  have hl := B.hl
  have s0 := B.s0
  have s1 := B.s1
  have hr := right_FR t1 t8 r1 r4
  have en := fent_at (R := R) hi
  have el := fP_lt' hl hi
  have w0 := (B.hw (fP i)).1
  have w1 := (B.hw (fP i)).2
  dsimp only [dlZn, dlYn, dlC, slV, slE, kyE] at *
  refine ss_drawZ hXFd 12 [] 4000 rfl ?ob ?go
  case ob =>
    repeat' (first | exact hr | exact trivial | refine And.intro ?_ ?_ | (simp only [en, Int.toNat_natCast]; first | exact w0 | exact w1 | omega) | exact rfl)
    all_goals omega
  refine sxb hXFd [.r 11] [] 100 rfl trivial ?_
  simp only [en, Int.toNat_natCast]
  refine ss_sub hXFd [0, 1, 2, 3] rfl rfl hb hl' ?tt ?hh ?ot ?ok J
  case tt => exact clF
  case hh => exact clF
  case ot => exact clF
  case ok => exact clF
/-- Where a place is read; where it has been. -/
abbrev dlZs (l : List Int) (T : Nat) (R : Int) (s : LS) (de : Int) (W : List Int) (st kd wd vl : Int) (ch : Bool) (ρ : Nat → Nat × Nat) (w : World) (H0 : List HE) (Q : SV → List HE → Prop) : Prop :=
  SS hXFd (At ρ w) Q ⟨[], [], Tryz.f46, Tryz.f46.ntmps, H0, contF Tryz.f46 10 [],
    [(0, .ptr 0 0), (1, .ptr 1 0)], [.obj (dlC (T : Int) R 3 s (some l) de), ROx 2 W st kd wd vl ch, WO W, .obj (.buf .i64 l 1 3)]⟩
abbrev dlYs (l : List Int) (T : Nat) (R : Int) (s : LS) (de : Int) (W : List Int) (st wd vl : Int) (k : Int) (b c : Bool) (ρ : Nat → Nat × Nat) (w : World) (H0 : List HE) (Q : SV → List HE → Prop) : Prop :=
  SS hXFd (At ρ w) Q ⟨[], [], Tryz.f46, Tryz.f46.ntmps, H0, contF Tryz.f46 11 [],
    [(0, .ptr 0 0), (1, .ptr 1 0), (5, .ptr 4 0)], [.obj (dlC (T : Int) R 3 s (some l) de), ROx 2 W st 1 wd vl false, WO W, .obj (.buf .i64 l 1 3), kyE k b c]⟩
set_option maxHeartbeats 4000000 in
theorem dlZs_ok {l : List Int} (B : FB T R W st) (hi : i < T) {H0 : List HE} {Q : SV → List HE → Prop} {ph : Nat} (hb : fromN H0.length 0 [0, 1, 2, 3, 4] = true) (hl' : leH H0 [.obj (dlC (T : Int) R 3 ⟨ph, seq, i, fd, told, er, tm⟩ (some l) de), ROx 2 W (st + 1) 1 (fP i : Int) (W.getD (fP i) 0) false, WO W, .obj (.buf .i64 l 1 3), kyE (kyW (W.getD (fP i) 0)) (lgW (W.getD (fP i) 0)) (isK (W.getD (fP i) 0))] = true)
    (J : dlYs l T R ⟨ph, seq, i, fd, told, er, tm⟩ de W (st + 1) (fP i : Int) (W.getD (fP i) 0) (kyW (W.getD (fP i) 0)) (lgW (W.getD (fP i) 0)) (isK (W.getD (fP i) 0)) ρ w H0 Q) : dlZs l T R ⟨ph, seq, i, fd, told, er, tm⟩ de W st kd wd vl ch ρ w H0 Q := by
  have t1 := B.t1
  have t8 := B.t8
  have r1 := B.r1
  have r4 := B.r4
  have hl := B.hl
  have s0 := B.s0
  have s1 := B.s1
  have hr := right_FR t1 t8 r1 r4
  have en := fent_at (R := R) hi
  have el := fP_lt' hl hi
  have w0 := (B.hw (fP i)).1
  have w1 := (B.hw (fP i)).2
  dsimp only [dlZs, dlYs, dlC, slV, slE, kyE] at *
  refine ss_drawZ hXFd 12 [] 4000 rfl ?ob ?go
  case ob =>
    repeat' (first | exact hr | exact trivial | refine And.intro ?_ ?_ | (simp only [en, Int.toNat_natCast]; first | exact w0 | exact w1 | omega) | exact rfl)
    all_goals omega
  refine sxb hXFd [.r 11] [] 100 rfl trivial ?_
  simp only [en, Int.toNat_natCast]
  refine ss_sub hXFd [0, 1, 2, 3, 4] rfl rfl hb hl' ?tt ?hh ?ot ?ok J
  case tt => exact clF
  case hh => exact clF
  case ot => exact clF
  case ok => exact clF
/-- Where the search begins. -/
abbrev dlAn (T : Nat) (R : Int) (s : LS) (de : Int) (W : List Int) (st wd vl : Int) (k : Int) (b c : Bool) (ρ : Nat → Nat × Nat) (w : World) (H0 : List HE) (Q : SV → List HE → Prop) : Prop :=
  SS hXFd (At ρ w) Q ⟨[], [], Tryz.f46, Tryz.f46.ntmps, H0, contF Tryz.f46 13 [],
    [(0, .ptr 0 0), (1, .ptr 1 0), (5, .ptr 3 0)], [.obj (dlC (T : Int) R 3 s none de), ROx 2 W st 1 wd vl false, WO W, kyE k b c]⟩
abbrev dlAs (l : List Int) (T : Nat) (R : Int) (s : LS) (de : Int) (W : List Int) (st wd vl : Int) (k : Int) (b c : Bool) (ρ : Nat → Nat × Nat) (w : World) (H0 : List HE) (Q : SV → List HE → Prop) : Prop :=
  SS hXFd (At ρ w) Q ⟨[], [], Tryz.f46, Tryz.f46.ntmps, H0, contF Tryz.f46 13 [],
    [(0, .ptr 0 0), (1, .ptr 1 0), (5, .ptr 4 0)], [.obj (dlC (T : Int) R 3 s (some l) de), ROx 2 W st 1 wd vl false, WO W, .obj (.buf .i64 l 1 3), kyE k b c]⟩
set_option maxHeartbeats 4000000 in
theorem dlAn_ok {k : Int} {b c : Bool} {H0 : List HE} {Q : SV → List HE → Prop} {ph : Nat} {wd vl : Int} (hb3 : fromN H0.length 0 [0, 1, 2, 3] = true) (hl3 : leH H0 [.obj (dlC (T : Int) R 3 ⟨ph, seq, i, fd, told, er, tm⟩ none de), ROx 2 W st 1 wd vl false, WO W, kyE k b c] = true) (hb : fromN H0.length 0 [0, 1, 2, 8] = true) (hl' : leH H0 [.obj (dlC (T : Int) R 3 ⟨ph, seq, i, fd, told, er, tm⟩ (some [k]) de), ROx 2 W st 1 wd vl false, WO W, .obj (.buf .i64 [k] 1 3)] = true)
    (J : dlKn T R ⟨ph, seq, i, fd, told, er, tm⟩ de W st wd vl [k] ρ w H0 Q) : dlAn T R ⟨ph, seq, i, fd, told, er, tm⟩ de W st wd vl k b c ρ w H0 Q := by
  have h1 : dlGn T R ⟨ph, seq, i, fd, told, er, tm⟩ de W st wd vl k b c ρ w H0 Q := dlBn hb hl' J
  dsimp only [dlAn, dlGn, dlC, slV, slE] at *
  refine sxb hXFd [.r 16] [] 4000 rfl (by (simp [-List.getD_eq_getElem?_getD, -List.length_eq_zero_iff, conjP])) ?_
  refine sxb hXFd [.r 16] [.K, .F] 4000 rfl (by (simp [-List.getD_eq_getElem?_getD, -List.length_eq_zero_iff, conjP])) ?_
  (refine ss_sub hXFd (T' := [(0, .ptr 0 0), (1, .ptr 1 0), (5, .ptr 3 0), (6, .int .i64 0)]) [0, 1, 2, 3] rfl rfl hb3 hl3 ?tt ?hh ?ot ?ok (ss_sw hXFd (sw_ss hXDl (cs := []) h1)); (case tt => exact clF); (case hh => exact clF); (case ot => exact clF); (case ok => exact clF))
set_option maxHeartbeats 4000000 in
theorem dlAs_ok {l : List Int} {k : Int} {b c : Bool} {H0 : List HE} {Q : SV → List HE → Prop} {ph : Nat} {wd vl : Int} (hl : l.length < 1000) (hb4 : fromN H0.length 0 [0, 1, 2, 3, 4] = true) (hl4 : leH H0 [.obj (dlC (T : Int) R 3 ⟨ph, seq, i, fd, told, er, tm⟩ (some l) de), ROx 2 W st 1 wd vl false, WO W, .obj (.buf .i64 l 1 3), kyE k b c] = true) (hb : fromN H0.length 0 [0, 1, 2, 3, 9] = true) (hl' : leH H0 [.obj (dlC (T : Int) R 4 ⟨ph, seq, i, fd, told, er, tm⟩ (some (insD l k)) de), ROx 2 W st 1 wd vl false, WO W, .opq, .obj (.buf .i64 (insD l k) 1 3)] = true)
    (J : dlKs T R ⟨ph, seq, i, fd, told, er, tm⟩ de W st wd vl (insD l k) ρ w H0 Q) : dlAs l T R ⟨ph, seq, i, fd, told, er, tm⟩ de W st wd vl k b c ρ w H0 Q := by
  have h1 : dlGs l T R ⟨ph, seq, i, fd, told, er, tm⟩ de W st wd vl k b c (insP l k) ρ w H0 Q := dlBs insP_le hl hb hl' J
  dsimp only [dlAs, dlGs, dlC, slV, slE] at *
  refine ss_sw hXFd (sw_ss hXDl (cs := []) ?_)
  refine sxb hXDl [.l] [] 100 rfl trivial ?_
  refine ss_sub hXDl (T' := [(0, .ptr 0 0), (1, .ptr 1 0), (5, .ptr 4 0), (6, .int .i64 ((0 : Nat) : Int))]) [0, 1, 2, 3, 4] rfl rfl hb4 hl4 ?tt ?hh ?ot ?ok ?go
  case tt => exact clF
  case hh => exact clF
  case ot => exact clF
  case ok => exact clF
  refine ss_loop hXDl (fun j : Nat => [(0, .ptr 0 0), (1, .ptr 1 0), (5, .ptr 4 0), (6, .int .i64 (j : Int))]) (fun _ => [.obj (.cells [.int .i64 T, .int .i64 4, .int .i64 1, .int .i64 2, .int .i64 4, .int .i64 1, .int .i64 6, .int .i64 0, .int .i64 R, .int .i64 (ph : Int), .int .i64 (i : Int), .int .i64 fd, .int .u64 seq, .sbuf 3 1 0 l.length, .int .i64 de, .int .i64 tm] 86), ROx 2 W st 1 wd vl false, WO W, .obj (.buf .i64 l 1 3), kyE k b c]) (fun j : Nat => j ≤ insP l k) (fun j => insP l k - j) 0 (Nat.zero_le _) ?_
  intro j hj I back
  have hj : j ≤ insP l k := hj
  have hle := insP_le (l := l) (k := k)
  have hat := insP_at hj
  have hlw : (l.length : Int) < 1000 := by omega
  by_cases hlt : j < insP l k
  · obtain ⟨g1, g2⟩ := hat.2 hlt
    have g1' : (j : Int) < (l.length : Int) := by omega
    have ewj : IntKind.i64.wrap ((j : Int) + 1) = ((j + 1 : Nat) : Int) := by rw [wi64 (by omega) (by omega)]; omega
    have bk := back (j + 1) (by show j + 1 ≤ insP l k; omega) (by show insP l k - (j + 1) < insP l k - j; omega)
    refine sx hXDl [] 4000 rfl (by (simp [-List.getD_eq_getElem?_getD, -List.length_eq_zero_iff, conjP])) ?_
    refine sx hXDl [.K, .T] 4000 rfl (by (simp [-List.getD_eq_getElem?_getD, -List.length_eq_zero_iff, conjP, g1', g1, cellOff, Int.toNat_natCast])) ?_
    refine sx hXDl [.T] 4000 rfl (by (simp [-List.getD_eq_getElem?_getD, -List.length_eq_zero_iff, conjP, addOP, g2, cellOff, Int.toNat_natCast])) ?_
    (try simp only [ewj]; refine bk _ _ _ (sub_of [0, 1, 2, 3, 4] rfl rfl hb4 hl4 ?tt ?hh ?ot ?ok); (case tt => exact clF); (case hh => exact clF); (case ot => exact clF); (case ok => exact clF))
  · have ej : j = insP l k := by omega
    have gn : ¬ (j < l.length ∧ l.getD j 0 < k) := fun q => hlt (hat.1 q)
    have gn1 : (j : Int) < (l.length : Int) → ¬ l.getD j 0 < k := fun q q2 => gn ⟨by omega, q2⟩
    refine sxb hXDl [.r 16] [] 4000 rfl (by (simp [-List.getD_eq_getElem?_getD, -List.length_eq_zero_iff, conjP])) ?_
    refine ss_pb hXDl [.r 16] [] 4000 rfl (fun hb0 => ?_) (fun hb0 => ?_)
    · try simp [-List.getD_eq_getElem?_getD, -List.length_eq_zero_iff] at hb0
      refine sxb hXDl [.r 16] [.K, .T] 4000 rfl (by (simp [-List.getD_eq_getElem?_getD, -List.length_eq_zero_iff, conjP, cellOff, Int.toNat_natCast, hb0])) ?_
      refine sxb hXDl [.r 16] [.F] 4000 rfl (by (simp [-List.getD_eq_getElem?_getD, -List.length_eq_zero_iff, conjP, addOP, gn1, cellOff, Int.toNat_natCast, hb0])) ?_
      (refine ss_sub hXDl (T' := [(0, .ptr 0 0), (1, .ptr 1 0), (5, .ptr 4 0), (6, .int .i64 (insP l k : Int))]) [0, 1, 2, 3, 4] rfl rfl hb4 hl4 ?tt ?hh ?ot ?ok h1; (case tt => rw [ej]; exact clF); (case hh => exact clF); (case ot => exact clF); (case ok => exact clF))
    · try simp [-List.getD_eq_getElem?_getD, -List.length_eq_zero_iff] at hb0
      refine sxb hXDl [.r 16] [.K, .F] 4000 rfl (by (simp [-List.getD_eq_getElem?_getD, -List.length_eq_zero_iff, conjP, hb0])) ?_
      (refine ss_sub hXDl (T' := [(0, .ptr 0 0), (1, .ptr 1 0), (5, .ptr 4 0), (6, .int .i64 (insP l k : Int))]) [0, 1, 2, 3, 4] rfl rfl hb4 hl4 ?tt ?hh ?ot ?ok h1; (case tt => rw [ej]; exact clF); (case hh => exact clF); (case ot => exact clF); (case ok => exact clF))

end
end Go.Proofs.YtkkddjchkkaagaaGreatDoor

/- Find: the steps of the run of the document that lists, as contracts. -/

namespace Go.Proofs.YtkkddjchkkaagaaGreatDoor
open Go Go.Hx
set_option maxRecDepth 8000
abbrev DLtp0 (mv : Bool) (T : Nat) (R : Int) (s : LS) (W : List Int) (st kd wd vl : Int) (ch : Bool) (r : LR) (de : Int) (dL' : Option (List Int)) (de' : Int) : Prop :=
  Gives Tryz.prog 46 [.ptr 0 0, .ptr 1 0] [.obj (dlC (T : Int) R 0 s none de), ROx 2 W st kd wd vl ch, WO W] (Is (.bool (decide (r.s.ph = 0))) (.obj (dlC (T : Int) R 3 r.s dL' de') :: ROx 2 W (st + 1) 1 r.wd r.vl false :: WO W :: mvL mv dL'))
abbrev DLtp1 (mv : Bool) (l : List Int) (T : Nat) (R : Int) (s : LS) (W : List Int) (st kd wd vl : Int) (ch : Bool) (r : LR) (de : Int) (dL' : Option (List Int)) (de' : Int) : Prop :=
  Gives Tryz.prog 46 [.ptr 0 0, .ptr 1 0] [.obj (dlC (T : Int) R 3 s (some l) de), ROx 2 W st kd wd vl ch, WO W, .obj (.buf .i64 l 1 3)] (Is (.bool (decide (r.s.ph = 0))) (.obj (dlC (T : Int) R (bif mv then 4 else 3) r.s dL' de') :: ROx 2 W (st + 1) 1 r.wd r.vl false :: WO W :: kpE mv dL' :: mvL mv dL'))
section
variable {T : Nat} {R : Int} {W : List Int} {st kd wd vl : Int} {ch : Bool} {seq : Int} {i : Nat} {fd er tm de : Int} {told : Option (List Int)} {ρ : Nat → Nat × Nat} {w : World}
set_option maxHeartbeats 4000000 in
theorem dl1en (B : FB T R W st) (C : LC T R ⟨1, seq, i, fd, told, er, tm⟩) (g : ¬ W.getD 2 0 % 2 = 1) : DLtp0 false T R ⟨1, seq, i, fd, told, er, tm⟩ W st kd wd vl ch ⟨⟨2, (W.getD 2 0), 0, fd, none, 0, tm⟩, 2, W.getD 2 0⟩ de none de := by
  have t1 := B.t1
  have t8 := B.t8
  have r1 := B.r1
  have r4 := B.r4
  have hl := B.hl
  have s0 := B.s0
  have s1 := B.s1
  have f0 : 0 ≤ fd := C.f0
  have f1 : fd < R := C.f1
  have hr := right_FR t1 t8 r1 r4
  have l2 : (2 : Int) < (W.length : Int) := by omega
  have w2 := (B.hw 2).1
  have w2' := (B.hw 2).2
  have ewf : IntKind.i64.wrap (fd + 1) = fd + 1 := wi64 (by omega) (by omega)
  have wev : (W.getD 2 0).tmod 2 = W.getD 2 0 % 2 := Int.tmod_eq_emod_of_nonneg w2
  refine gives_x hXFd (fn := Tryz.f46) rfl rfl rfl rfl fun ρ w => ?_
  dsimp only [dlC, slV, mvL, kpE, cond_true, cond_false]
  refine sx hXFd [] 4000 rfl (by (simp [-List.getD_eq_getElem?_getD, -List.length_eq_zero_iff, conjP])) ?_
  refine sx hXFd [.T] 4000 rfl (by (simp [-List.getD_eq_getElem?_getD, -List.length_eq_zero_iff, conjP, s0, l2] <;> (first | omega | ((repeat' (refine And.intro ?_ ?_)) <;> (first | omega | exact decide_eq_false (by omega) | exact decide_eq_true (by omega)))))) ?_
  refine sx hXFd [.F] 4000 rfl (by (simp [-List.getD_eq_getElem?_getD, -List.length_eq_zero_iff, conjP, addOP, wev, two_nat, g])) ?_
  (try simp only [two_nat]; refine ss_end hXFd [0, 1, 2] rfl rfl trivial rfl rfl rfl rfl ?hv ?hh ?hk ?ho; (case hv => exact clF); (case hh => exact clF); (case hk => exact clF); (case ho => exact clF))
set_option maxHeartbeats 4000000 in
theorem dl1ln (B : FB T R W st) (C : LC T R ⟨1, seq, i, fd, told, er, tm⟩) (g : W.getD 2 0 % 2 = 1) (g2 : fd + 1 = R) : DLtp0 false T R ⟨1, seq, i, fd, told, er, tm⟩ W st kd wd vl ch ⟨⟨0, (W.getD 2 0), 0, (fd + 1), none, 17, tm⟩, 2, W.getD 2 0⟩ de none 17 := by
  have t1 := B.t1
  have t8 := B.t8
  have r1 := B.r1
  have r4 := B.r4
  have hl := B.hl
  have s0 := B.s0
  have s1 := B.s1
  have f0 : 0 ≤ fd := C.f0
  have f1 : fd < R := C.f1
  have hr := right_FR t1 t8 r1 r4
  have l2 : (2 : Int) < (W.length : Int) := by omega
  have w2 := (B.hw 2).1
  have w2' := (B.hw 2).2
  have ewf : IntKind.i64.wrap (fd + 1) = fd + 1 := wi64 (by omega) (by omega)
  have wev : (W.getD 2 0).tmod 2 = W.getD 2 0 % 2 := Int.tmod_eq_emod_of_nonneg w2
  have ewR : IntKind.i64.wrap (fd + 1) = R := by rw [ewf, g2]
  refine gives_x hXFd (fn := Tryz.f46) rfl rfl rfl rfl fun ρ w => ?_
  dsimp only [dlC, slV, mvL, kpE, cond_true, cond_false]
  refine sx hXFd [] 4000 rfl (by (simp [-List.getD_eq_getElem?_getD, -List.length_eq_zero_iff, conjP])) ?_
  refine sx hXFd [.T] 4000 rfl (by (simp [-List.getD_eq_getElem?_getD, -List.length_eq_zero_iff, conjP, s0, l2] <;> (first | omega | ((repeat' (refine And.intro ?_ ?_)) <;> (first | omega | exact decide_eq_false (by omega) | exact decide_eq_true (by omega)))))) ?_
  refine sx hXFd [.T] 4000 rfl (by (simp [-List.getD_eq_getElem?_getD, -List.length_eq_zero_iff, conjP, addOP, wev, two_nat, g])) ?_
  refine sx hXFd [.T] 4000 rfl (by (simp [-List.getD_eq_getElem?_getD, -List.length_eq_zero_iff, conjP, addOP, ewR])) ?_
  (try simp only [two_nat, ewf]; refine ss_end hXFd [0, 1, 2] rfl rfl trivial rfl rfl rfl rfl ?hv ?hh ?hk ?ho; (case hv => exact clF); (case hh => exact clF); (case hk => exact clF); (case ho => exact clF))
set_option maxHeartbeats 4000000 in
theorem dl1fn (B : FB T R W st) (C : LC T R ⟨1, seq, i, fd, told, er, tm⟩) (g : W.getD 2 0 % 2 = 1) (g2 : ¬ fd + 1 = R) : DLtp0 false T R ⟨1, seq, i, fd, told, er, tm⟩ W st kd wd vl ch ⟨⟨1, (W.getD 2 0), 0, (fd + 1), none, 0, tm⟩, 2, W.getD 2 0⟩ de none de := by
  have t1 := B.t1
  have t8 := B.t8
  have r1 := B.r1
  have r4 := B.r4
  have hl := B.hl
  have s0 := B.s0
  have s1 := B.s1
  have f0 : 0 ≤ fd := C.f0
  have f1 : fd < R := C.f1
  have hr := right_FR t1 t8 r1 r4
  have l2 : (2 : Int) < (W.length : Int) := by omega
  have w2 := (B.hw 2).1
  have w2' := (B.hw 2).2
  have ewf : IntKind.i64.wrap (fd + 1) = fd + 1 := wi64 (by omega) (by omega)
  have wev : (W.getD 2 0).tmod 2 = W.getD 2 0 % 2 := Int.tmod_eq_emod_of_nonneg w2
  refine gives_x hXFd (fn := Tryz.f46) rfl rfl rfl rfl fun ρ w => ?_
  dsimp only [dlC, slV, mvL, kpE, cond_true, cond_false]
  refine sx hXFd [] 4000 rfl (by (simp [-List.getD_eq_getElem?_getD, -List.length_eq_zero_iff, conjP])) ?_
  refine sx hXFd [.T] 4000 rfl (by (simp [-List.getD_eq_getElem?_getD, -List.length_eq_zero_iff, conjP, s0, l2] <;> (first | omega | ((repeat' (refine And.intro ?_ ?_)) <;> (first | omega | exact decide_eq_false (by omega) | exact decide_eq_true (by omega)))))) ?_
  refine sx hXFd [.T] 4000 rfl (by (simp [-List.getD_eq_getElem?_getD, -List.length_eq_zero_iff, conjP, addOP, wev, two_nat, g])) ?_
  refine sx hXFd [.F] 4000 rfl (by (simp [-List.getD_eq_getElem?_getD, -List.length_eq_zero_iff, conjP, addOP, ewf, g2])) ?_
  (try simp only [two_nat, ewf]; refine ss_end hXFd [0, 1, 2] rfl rfl trivial rfl rfl rfl rfl ?hv ?hh ?hk ?ho; (case hv => exact clF); (case hh => exact clF); (case hk => exact clF); (case ho => exact clF))
set_option maxHeartbeats 4000000 in
theorem dl2ftn (B : FB T R W st) (C : LC T R ⟨2, seq, i, fd, told, er, tm⟩) (hK : isK (W.getD (fP i) 0) = false) (hi2 : i + 1 = T) : DLtp0 false T R ⟨2, seq, i, fd, told, er, tm⟩ W st kd wd vl ch ⟨⟨4, seq, (i + 1), fd, told, er, tm⟩, (fP i : Int), W.getD (fP i) 0⟩ de none de := by
  have t1 := B.t1
  have t8 := B.t8
  have r1 := B.r1
  have r4 := B.r4
  have hl := B.hl
  have s0 := B.s0
  have s1 := B.s1
  have f0 : 0 ≤ fd := C.f0
  have f1 : fd < R := C.f1
  have hr := right_FR t1 t8 r1 r4
  have l2 : (2 : Int) < (W.length : Int) := by omega
  have w2 := (B.hw 2).1
  have w2' := (B.hw 2).2
  have ewf : IntKind.i64.wrap (fd + 1) = fd + 1 := wi64 (by omega) (by omega)
  have hi : i < T := C.it rfl
  have ewi : IntKind.i64.wrap ((i : Int) + 1) = ((i + 1 : Nat) : Int) := by rw [wi64 (by omega) (by omega)]; omega
  have en := fent_at (R := R) hi
  have el := fP_lt' hl hi
  have w0 := (B.hw (fP i)).1
  have w1 := (B.hw (fP i)).2
  have hiE : ((i + 1 : Nat) : Int) = (T : Int) := by omega
  refine gives_x hXFd (fn := Tryz.f46) rfl rfl rfl rfl fun ρ w => ?_
  have J3 : dlYn T R ⟨2, seq, i, fd, told, er, tm⟩ de W (st + 1) (fP i : Int) (W.getD (fP i) 0) (kyW (W.getD (fP i) 0)) (lgW (W.getD (fP i) 0)) (isK (W.getD (fP i) 0)) ρ w [.obj (dlC (T : Int) R 0 ⟨2, seq, i, fd, told, er, tm⟩ none de), ROx 2 W st kd wd vl ch, WO W] (Is (.bool (decide (4 = 0))) (.obj (dlC (T : Int) R 3 ⟨4, seq, (i + 1), fd, told, er, tm⟩ none de) :: ROx 2 W (st + 1) 1 (fP i : Int) (W.getD (fP i) 0) false :: WO W :: [])) := by
    dsimp only [dlYn, dlC, slV, kyE, slE]
    refine sx hXFd [] 4000 rfl (by (simp [-List.getD_eq_getElem?_getD, -List.length_eq_zero_iff, conjP])) ?_
    refine sx hXFd [.F] 4000 rfl (by (simp [-List.getD_eq_getElem?_getD, -List.length_eq_zero_iff, conjP, addOP, hK])) ?_
    refine sx hXFd [.T] 4000 rfl (by (simp [-List.getD_eq_getElem?_getD, -List.length_eq_zero_iff, conjP, addOP, ewi, hiE])) ?_
    (try simp only [ewi]; refine ss_end hXFd [0, 1, 2] rfl rfl trivial rfl rfl rfl rfl ?hv ?hh ?hk ?ho; (case hv => exact clF); (case hh => exact clF); (case hk => exact clF); (case ho => exact clF))
  have J4 := dlZn_ok (kd := kd) (wd := wd) (vl := vl) (ch := ch) B hi rfl rfl J3
  dsimp only [dlC, slV, dlZn, mvL, kpE, slE, cond_true, cond_false] at J4 ⊢
  refine sxb hXFd [.r 10] [] 4000 rfl (by (simp [-List.getD_eq_getElem?_getD, -List.length_eq_zero_iff, conjP])) ?_
  refine sxb hXFd [.r 10] [.F] 4000 rfl (by (simp [-List.getD_eq_getElem?_getD, -List.length_eq_zero_iff, conjP, addOP])) ?_
  refine sxb hXFd [.r 10] [.T] 4000 rfl (by (simp [-List.getD_eq_getElem?_getD, -List.length_eq_zero_iff, conjP, addOP])) ?_
  (refine ss_sub hXFd [0, 1, 2] rfl rfl rfl rfl ?hv ?hh ?hk ?ho J4; (case hv => exact clF); (case hh => exact clF); (case hk => exact clF); (case ho => exact clF))
set_option maxHeartbeats 4000000 in
theorem dl2fnn (B : FB T R W st) (C : LC T R ⟨2, seq, i, fd, told, er, tm⟩) (hK : isK (W.getD (fP i) 0) = false) (hi2 : ¬ i + 1 = T) : DLtp0 false T R ⟨2, seq, i, fd, told, er, tm⟩ W st kd wd vl ch ⟨⟨2, seq, (i + 1), fd, told, er, tm⟩, (fP i : Int), W.getD (fP i) 0⟩ de none de := by
  have t1 := B.t1
  have t8 := B.t8
  have r1 := B.r1
  have r4 := B.r4
  have hl := B.hl
  have s0 := B.s0
  have s1 := B.s1
  have f0 : 0 ≤ fd := C.f0
  have f1 : fd < R := C.f1
  have hr := right_FR t1 t8 r1 r4
  have l2 : (2 : Int) < (W.length : Int) := by omega
  have w2 := (B.hw 2).1
  have w2' := (B.hw 2).2
  have ewf : IntKind.i64.wrap (fd + 1) = fd + 1 := wi64 (by omega) (by omega)
  have hi : i < T := C.it rfl
  have ewi : IntKind.i64.wrap ((i : Int) + 1) = ((i + 1 : Nat) : Int) := by rw [wi64 (by omega) (by omega)]; omega
  have en := fent_at (R := R) hi
  have el := fP_lt' hl hi
  have w0 := (B.hw (fP i)).1
  have w1 := (B.hw (fP i)).2
  have hiT : ¬ ((i + 1 : Nat) : Int) = (T : Int) := by omega
  have hiT2 : ¬ (i : Int) + 1 = (T : Int) := by omega
  refine gives_x hXFd (fn := Tryz.f46) rfl rfl rfl rfl fun ρ w => ?_
  have J3 : dlYn T R ⟨2, seq, i, fd, told, er, tm⟩ de W (st + 1) (fP i : Int) (W.getD (fP i) 0) (kyW (W.getD (fP i) 0)) (lgW (W.getD (fP i) 0)) (isK (W.getD (fP i) 0)) ρ w [.obj (dlC (T : Int) R 0 ⟨2, seq, i, fd, told, er, tm⟩ none de), ROx 2 W st kd wd vl ch, WO W] (Is (.bool (decide (2 = 0))) (.obj (dlC (T : Int) R 3 ⟨2, seq, (i + 1), fd, told, er, tm⟩ none de) :: ROx 2 W (st + 1) 1 (fP i : Int) (W.getD (fP i) 0) false :: WO W :: [])) := by
    dsimp only [dlYn, dlC, slV, kyE, slE]
    refine sx hXFd [] 4000 rfl (by (simp [-List.getD_eq_getElem?_getD, -List.length_eq_zero_iff, conjP])) ?_
    refine sx hXFd [.F] 4000 rfl (by (simp [-List.getD_eq_getElem?_getD, -List.length_eq_zero_iff, conjP, addOP, hK])) ?_
    refine sx hXFd [.F] 4000 rfl (by (simp [-List.getD_eq_getElem?_getD, -List.length_eq_zero_iff, conjP, addOP, ewi, hiT2])) ?_
    (try simp only [ewi]; refine ss_end hXFd [0, 1, 2] rfl rfl trivial rfl rfl rfl rfl ?hv ?hh ?hk ?ho; (case hv => exact clF); (case hh => exact clF); (case hk => exact clF); (case ho => exact clF))
  have J4 := dlZn_ok (kd := kd) (wd := wd) (vl := vl) (ch := ch) B hi rfl rfl J3
  dsimp only [dlC, slV, dlZn, mvL, kpE, slE, cond_true, cond_false] at J4 ⊢
  refine sxb hXFd [.r 10] [] 4000 rfl (by (simp [-List.getD_eq_getElem?_getD, -List.length_eq_zero_iff, conjP])) ?_
  refine sxb hXFd [.r 10] [.F] 4000 rfl (by (simp [-List.getD_eq_getElem?_getD, -List.length_eq_zero_iff, conjP, addOP])) ?_
  refine sxb hXFd [.r 10] [.T] 4000 rfl (by (simp [-List.getD_eq_getElem?_getD, -List.length_eq_zero_iff, conjP, addOP])) ?_
  (refine ss_sub hXFd [0, 1, 2] rfl rfl rfl rfl ?hv ?hh ?hk ?ho J4; (case hv => exact clF); (case hh => exact clF); (case hk => exact clF); (case ho => exact clF))
set_option maxHeartbeats 4000000 in
theorem dl2ttn (B : FB T R W st) (C : LC T R ⟨2, seq, i, fd, told, er, tm⟩) (hK : isK (W.getD (fP i) 0) = true) (hi2 : i + 1 = T) : DLtp0 true T R ⟨2, seq, i, fd, told, er, tm⟩ W st kd wd vl ch ⟨⟨4, seq, (i + 1), fd, told, er, tm⟩, (fP i : Int), W.getD (fP i) 0⟩ de (some [W.getD (fP i) 0 / 4]) de := by
  have t1 := B.t1
  have t8 := B.t8
  have r1 := B.r1
  have r4 := B.r4
  have hl := B.hl
  have s0 := B.s0
  have s1 := B.s1
  have f0 : 0 ≤ fd := C.f0
  have f1 : fd < R := C.f1
  have hr := right_FR t1 t8 r1 r4
  have l2 : (2 : Int) < (W.length : Int) := by omega
  have w2 := (B.hw 2).1
  have w2' := (B.hw 2).2
  have ewf : IntKind.i64.wrap (fd + 1) = fd + 1 := wi64 (by omega) (by omega)
  have hi : i < T := C.it rfl
  have ewi : IntKind.i64.wrap ((i : Int) + 1) = ((i + 1 : Nat) : Int) := by rw [wi64 (by omega) (by omega)]; omega
  have en := fent_at (R := R) hi
  have el := fP_lt' hl hi
  have w0 := (B.hw (fP i)).1
  have w1 := (B.hw (fP i)).2
  have kyv : kyW (W.getD (fP i) 0) = W.getD (fP i) 0 / 4 := by unfold kyW; rw [hK]; rfl
  have hiE : ((i + 1 : Nat) : Int) = (T : Int) := by omega
  rw [← kyv]
  refine gives_x hXFd (fn := Tryz.f46) rfl rfl rfl rfl fun ρ w => ?_
  have J : dlKn T R ⟨2, seq, (i + 1), fd, told, er, tm⟩ de W (st + 1) (fP i : Int) (W.getD (fP i) 0) [(kyW (W.getD (fP i) 0))] ρ w [.obj (dlC (T : Int) R 0 ⟨2, seq, i, fd, told, er, tm⟩ none de), ROx 2 W st kd wd vl ch, WO W] (Is (.bool (decide (4 = 0))) (.obj (dlC (T : Int) R 3 ⟨4, seq, (i + 1), fd, told, er, tm⟩ (some [(kyW (W.getD (fP i) 0))]) de) :: ROx 2 W (st + 1) 1 (fP i : Int) (W.getD (fP i) 0) false :: WO W :: [slE (some [(kyW (W.getD (fP i) 0))]) .i64 3])) := by
    dsimp only [dlKn, dlC, slV, slE]
    refine sx hXDl [] 4000 rfl (by (simp [-List.getD_eq_getElem?_getD, -List.length_eq_zero_iff, conjP])) ?_
    refine sx hXDl [.T] 4000 rfl (by (simp [-List.getD_eq_getElem?_getD, -List.length_eq_zero_iff, conjP, addOP, hiE])) ?_
    (refine ss_end hXDl [0, 1, 2, 3] rfl rfl trivial rfl rfl rfl rfl ?hv ?hh ?hk ?ho; (case hv => exact clF); (case hh => exact clF); (case hk => exact clF); (case ho => exact clF))
  have J2 := dlAn_ok (c := isK (W.getD (fP i) 0)) (b := lgW (W.getD (fP i) 0)) rfl rfl rfl rfl J
  have J3 : dlYn T R ⟨2, seq, i, fd, told, er, tm⟩ de W (st + 1) (fP i : Int) (W.getD (fP i) 0) (kyW (W.getD (fP i) 0)) (lgW (W.getD (fP i) 0)) (isK (W.getD (fP i) 0)) ρ w [.obj (dlC (T : Int) R 0 ⟨2, seq, i, fd, told, er, tm⟩ none de), ROx 2 W st kd wd vl ch, WO W] (Is (.bool (decide (4 = 0))) (.obj (dlC (T : Int) R 3 ⟨4, seq, (i + 1), fd, told, er, tm⟩ (some [(kyW (W.getD (fP i) 0))]) de) :: ROx 2 W (st + 1) 1 (fP i : Int) (W.getD (fP i) 0) false :: WO W :: [slE (some [(kyW (W.getD (fP i) 0))]) .i64 3])) := by
    dsimp only [dlYn, dlC, slV, dlAn, kyE, slE] at J2 ⊢
    refine sxb hXFd [.r 13] [] 4000 rfl (by (simp [-List.getD_eq_getElem?_getD, -List.length_eq_zero_iff, conjP])) ?_
    refine sxb hXFd [.r 13] [.T] 4000 rfl (by (simp [-List.getD_eq_getElem?_getD, -List.length_eq_zero_iff, conjP, addOP, hK])) ?_
    (try simp only [ewi]; refine ss_sub hXFd [0, 1, 2, 3] rfl rfl rfl rfl ?hv ?hh ?hk ?ho J2; (case hv => exact clF); (case hh => exact clF); (case hk => exact clF); (case ho => exact clF))
  have J4 := dlZn_ok (kd := kd) (wd := wd) (vl := vl) (ch := ch) B hi rfl rfl J3
  dsimp only [dlC, slV, dlZn, mvL, kpE, slE, cond_true, cond_false] at J4 ⊢
  refine sxb hXFd [.r 10] [] 4000 rfl (by (simp [-List.getD_eq_getElem?_getD, -List.length_eq_zero_iff, conjP])) ?_
  refine sxb hXFd [.r 10] [.F] 4000 rfl (by (simp [-List.getD_eq_getElem?_getD, -List.length_eq_zero_iff, conjP, addOP])) ?_
  refine sxb hXFd [.r 10] [.T] 4000 rfl (by (simp [-List.getD_eq_getElem?_getD, -List.length_eq_zero_iff, conjP, addOP])) ?_
  (refine ss_sub hXFd [0, 1, 2] rfl rfl rfl rfl ?hv ?hh ?hk ?ho J4; (case hv => exact clF); (case hh => exact clF); (case hk => exact clF); (case ho => exact clF))
set_option maxHeartbeats 4000000 in
theorem dl2tnn (B : FB T R W st) (C : LC T R ⟨2, seq, i, fd, told, er, tm⟩) (hK : isK (W.getD (fP i) 0) = true) (hi2 : ¬ i + 1 = T) : DLtp0 true T R ⟨2, seq, i, fd, told, er, tm⟩ W st kd wd vl ch ⟨⟨2, seq, (i + 1), fd, told, er, tm⟩, (fP i : Int), W.getD (fP i) 0⟩ de (some [W.getD (fP i) 0 / 4]) de := by
  have t1 := B.t1
  have t8 := B.t8
  have r1 := B.r1
  have r4 := B.r4
  have hl := B.hl
  have s0 := B.s0
  have s1 := B.s1
  have f0 : 0 ≤ fd := C.f0
  have f1 : fd < R := C.f1
  have hr := right_FR t1 t8 r1 r4
  have l2 : (2 : Int) < (W.length : Int) := by omega
  have w2 := (B.hw 2).1
  have w2' := (B.hw 2).2
  have ewf : IntKind.i64.wrap (fd + 1) = fd + 1 := wi64 (by omega) (by omega)
  have hi : i < T := C.it rfl
  have ewi : IntKind.i64.wrap ((i : Int) + 1) = ((i + 1 : Nat) : Int) := by rw [wi64 (by omega) (by omega)]; omega
  have en := fent_at (R := R) hi
  have el := fP_lt' hl hi
  have w0 := (B.hw (fP i)).1
  have w1 := (B.hw (fP i)).2
  have kyv : kyW (W.getD (fP i) 0) = W.getD (fP i) 0 / 4 := by unfold kyW; rw [hK]; rfl
  have hiT : ¬ ((i + 1 : Nat) : Int) = (T : Int) := by omega
  have hiT2 : ¬ (i : Int) + 1 = (T : Int) := by omega
  rw [← kyv]
  refine gives_x hXFd (fn := Tryz.f46) rfl rfl rfl rfl fun ρ w => ?_
  have J : dlKn T R ⟨2, seq, (i + 1), fd, told, er, tm⟩ de W (st + 1) (fP i : Int) (W.getD (fP i) 0) [(kyW (W.getD (fP i) 0))] ρ w [.obj (dlC (T : Int) R 0 ⟨2, seq, i, fd, told, er, tm⟩ none de), ROx 2 W st kd wd vl ch, WO W] (Is (.bool (decide (2 = 0))) (.obj (dlC (T : Int) R 3 ⟨2, seq, (i + 1), fd, told, er, tm⟩ (some [(kyW (W.getD (fP i) 0))]) de) :: ROx 2 W (st + 1) 1 (fP i : Int) (W.getD (fP i) 0) false :: WO W :: [slE (some [(kyW (W.getD (fP i) 0))]) .i64 3])) := by
    dsimp only [dlKn, dlC, slV, slE]
    refine sx hXDl [] 4000 rfl (by (simp [-List.getD_eq_getElem?_getD, -List.length_eq_zero_iff, conjP])) ?_
    refine sx hXDl [.F] 4000 rfl (by (simp [-List.getD_eq_getElem?_getD, -List.length_eq_zero_iff, conjP, addOP, hiT2])) ?_
    (refine ss_end hXDl [0, 1, 2, 3] rfl rfl trivial rfl rfl rfl rfl ?hv ?hh ?hk ?ho; (case hv => exact clF); (case hh => exact clF); (case hk => exact clF); (case ho => exact clF))
  have J2 := dlAn_ok (c := isK (W.getD (fP i) 0)) (b := lgW (W.getD (fP i) 0)) rfl rfl rfl rfl J
  have J3 : dlYn T R ⟨2, seq, i, fd, told, er, tm⟩ de W (st + 1) (fP i : Int) (W.getD (fP i) 0) (kyW (W.getD (fP i) 0)) (lgW (W.getD (fP i) 0)) (isK (W.getD (fP i) 0)) ρ w [.obj (dlC (T : Int) R 0 ⟨2, seq, i, fd, told, er, tm⟩ none de), ROx 2 W st kd wd vl ch, WO W] (Is (.bool (decide (2 = 0))) (.obj (dlC (T : Int) R 3 ⟨2, seq, (i + 1), fd, told, er, tm⟩ (some [(kyW (W.getD (fP i) 0))]) de) :: ROx 2 W (st + 1) 1 (fP i : Int) (W.getD (fP i) 0) false :: WO W :: [slE (some [(kyW (W.getD (fP i) 0))]) .i64 3])) := by
    dsimp only [dlYn, dlC, slV, dlAn, kyE, slE] at J2 ⊢
    refine sxb hXFd [.r 13] [] 4000 rfl (by (simp [-List.getD_eq_getElem?_getD, -List.length_eq_zero_iff, conjP])) ?_
    refine sxb hXFd [.r 13] [.T] 4000 rfl (by (simp [-List.getD_eq_getElem?_getD, -List.length_eq_zero_iff, conjP, addOP, hK])) ?_
    (try simp only [ewi]; refine ss_sub hXFd [0, 1, 2, 3] rfl rfl rfl rfl ?hv ?hh ?hk ?ho J2; (case hv => exact clF); (case hh => exact clF); (case hk => exact clF); (case ho => exact clF))
  have J4 := dlZn_ok (kd := kd) (wd := wd) (vl := vl) (ch := ch) B hi rfl rfl J3
  dsimp only [dlC, slV, dlZn, mvL, kpE, slE, cond_true, cond_false] at J4 ⊢
  refine sxb hXFd [.r 10] [] 4000 rfl (by (simp [-List.getD_eq_getElem?_getD, -List.length_eq_zero_iff, conjP])) ?_
  refine sxb hXFd [.r 10] [.F] 4000 rfl (by (simp [-List.getD_eq_getElem?_getD, -List.length_eq_zero_iff, conjP, addOP])) ?_
  refine sxb hXFd [.r 10] [.T] 4000 rfl (by (simp [-List.getD_eq_getElem?_getD, -List.length_eq_zero_iff, conjP, addOP])) ?_
  (refine ss_sub hXFd [0, 1, 2] rfl rfl rfl rfl ?hv ?hh ?hk ?ho J4; (case hv => exact clF); (case hh => exact clF); (case hk => exact clF); (case ho => exact clF))
set_option maxHeartbeats 4000000 in
theorem dl4sn (B : FB T R W st) (C : LC T R ⟨4, seq, i, fd, told, er, tm⟩) (g : W.getD 2 0 = seq) : DLtp0 false T R ⟨4, seq, i, fd, told, er, tm⟩ W st kd wd vl ch ⟨⟨0, seq, i, fd, told, er, (st + 1)⟩, 2, W.getD 2 0⟩ de none de := by
  have t1 := B.t1
  have t8 := B.t8
  have r1 := B.r1
  have r4 := B.r4
  have hl := B.hl
  have s0 := B.s0
  have s1 := B.s1
  have f0 : 0 ≤ fd := C.f0
  have f1 : fd < R := C.f1
  have hr := right_FR t1 t8 r1 r4
  have l2 : (2 : Int) < (W.length : Int) := by omega
  have w2 := (B.hw 2).1
  have w2' := (B.hw 2).2
  have ewf : IntKind.i64.wrap (fd + 1) = fd + 1 := wi64 (by omega) (by omega)
  have ews : IntKind.i64.wrap (st + 1) = st + 1 := wi64 (by omega) (by omega)
  refine gives_x hXFd (fn := Tryz.f46) rfl rfl rfl rfl fun ρ w => ?_
  dsimp only [dlC, slV, mvL, kpE, cond_true, cond_false]
  refine sx hXFd [] 4000 rfl (by (simp [-List.getD_eq_getElem?_getD, -List.length_eq_zero_iff, conjP])) ?_
  refine sx hXFd [.F] 4000 rfl (by (simp [-List.getD_eq_getElem?_getD, -List.length_eq_zero_iff, conjP, addOP])) ?_
  refine sx hXFd [.F] 4000 rfl (by (simp [-List.getD_eq_getElem?_getD, -List.length_eq_zero_iff, conjP, addOP])) ?_
  refine sx hXFd [.T] 4000 rfl (by (simp [-List.getD_eq_getElem?_getD, -List.length_eq_zero_iff, conjP, s0, l2] <;> (first | omega | ((repeat' (refine And.intro ?_ ?_)) <;> (first | omega | exact decide_eq_false (by omega) | exact decide_eq_true (by omega)))))) ?_
  refine sx hXFd [.F] 4000 rfl (by (simp [-List.getD_eq_getElem?_getD, -List.length_eq_zero_iff, conjP, addOP, two_nat, g])) ?_
  (try simp only [two_nat, g]; refine ss_end hXFd [0, 1, 2] rfl rfl trivial rfl rfl rfl rfl ?hv ?hh ?hk ?ho; (case hv => exact clF); (case hh => exact clF); (case hk => exact clF); (case ho => exact clF))
set_option maxHeartbeats 4000000 in
theorem dl4ln (B : FB T R W st) (C : LC T R ⟨4, seq, i, fd, told, er, tm⟩) (g : ¬ W.getD 2 0 = seq) (g2 : fd + 1 = R) : DLtp0 false T R ⟨4, seq, i, fd, told, er, tm⟩ W st kd wd vl ch ⟨⟨0, seq, i, (fd + 1), none, 17, (st + 1)⟩, 2, W.getD 2 0⟩ de none 17 := by
  have t1 := B.t1
  have t8 := B.t8
  have r1 := B.r1
  have r4 := B.r4
  have hl := B.hl
  have s0 := B.s0
  have s1 := B.s1
  have f0 : 0 ≤ fd := C.f0
  have f1 : fd < R := C.f1
  have hr := right_FR t1 t8 r1 r4
  have l2 : (2 : Int) < (W.length : Int) := by omega
  have w2 := (B.hw 2).1
  have w2' := (B.hw 2).2
  have ewf : IntKind.i64.wrap (fd + 1) = fd + 1 := wi64 (by omega) (by omega)
  have ews : IntKind.i64.wrap (st + 1) = st + 1 := wi64 (by omega) (by omega)
  have ewR : IntKind.i64.wrap (fd + 1) = R := by rw [ewf, g2]
  refine gives_x hXFd (fn := Tryz.f46) rfl rfl rfl rfl fun ρ w => ?_
  dsimp only [dlC, slV, mvL, kpE, cond_true, cond_false]
  refine sx hXFd [] 4000 rfl (by (simp [-List.getD_eq_getElem?_getD, -List.length_eq_zero_iff, conjP])) ?_
  refine sx hXFd [.F] 4000 rfl (by (simp [-List.getD_eq_getElem?_getD, -List.length_eq_zero_iff, conjP, addOP])) ?_
  refine sx hXFd [.F] 4000 rfl (by (simp [-List.getD_eq_getElem?_getD, -List.length_eq_zero_iff, conjP, addOP])) ?_
  refine sx hXFd [.T] 4000 rfl (by (simp [-List.getD_eq_getElem?_getD, -List.length_eq_zero_iff, conjP, s0, l2] <;> (first | omega | ((repeat' (refine And.intro ?_ ?_)) <;> (first | omega | exact decide_eq_false (by omega) | exact decide_eq_true (by omega)))))) ?_
  refine sx hXFd [.T] 4000 rfl (by (simp [-List.getD_eq_getElem?_getD, -List.length_eq_zero_iff, conjP, addOP, two_nat, g])) ?_
  refine sx hXFd [.T] 4000 rfl (by (simp [-List.getD_eq_getElem?_getD, -List.length_eq_zero_iff, conjP, addOP, ewR])) ?_
  (try simp only [two_nat, ewf]; refine ss_end hXFd [0, 1, 2] rfl rfl trivial rfl rfl rfl rfl ?hv ?hh ?hk ?ho; (case hv => exact clF); (case hh => exact clF); (case hk => exact clF); (case ho => exact clF))
set_option maxHeartbeats 4000000 in
theorem dl4fn (B : FB T R W st) (C : LC T R ⟨4, seq, i, fd, told, er, tm⟩) (g : ¬ W.getD 2 0 = seq) (g2 : ¬ fd + 1 = R) : DLtp0 false T R ⟨4, seq, i, fd, told, er, tm⟩ W st kd wd vl ch ⟨⟨1, seq, i, (fd + 1), none, 0, (st + 1)⟩, 2, W.getD 2 0⟩ de none de := by
  have t1 := B.t1
  have t8 := B.t8
  have r1 := B.r1
  have r4 := B.r4
  have hl := B.hl
  have s0 := B.s0
  have s1 := B.s1
  have f0 : 0 ≤ fd := C.f0
  have f1 : fd < R := C.f1
  have hr := right_FR t1 t8 r1 r4
  have l2 : (2 : Int) < (W.length : Int) := by omega
  have w2 := (B.hw 2).1
  have w2' := (B.hw 2).2
  have ewf : IntKind.i64.wrap (fd + 1) = fd + 1 := wi64 (by omega) (by omega)
  have ews : IntKind.i64.wrap (st + 1) = st + 1 := wi64 (by omega) (by omega)
  refine gives_x hXFd (fn := Tryz.f46) rfl rfl rfl rfl fun ρ w => ?_
  dsimp only [dlC, slV, mvL, kpE, cond_true, cond_false]
  refine sx hXFd [] 4000 rfl (by (simp [-List.getD_eq_getElem?_getD, -List.length_eq_zero_iff, conjP])) ?_
  refine sx hXFd [.F] 4000 rfl (by (simp [-List.getD_eq_getElem?_getD, -List.length_eq_zero_iff, conjP, addOP])) ?_
  refine sx hXFd [.F] 4000 rfl (by (simp [-List.getD_eq_getElem?_getD, -List.length_eq_zero_iff, conjP, addOP])) ?_
  refine sx hXFd [.T] 4000 rfl (by (simp [-List.getD_eq_getElem?_getD, -List.length_eq_zero_iff, conjP, s0, l2] <;> (first | omega | ((repeat' (refine And.intro ?_ ?_)) <;> (first | omega | exact decide_eq_false (by omega) | exact decide_eq_true (by omega)))))) ?_
  refine sx hXFd [.T] 4000 rfl (by (simp [-List.getD_eq_getElem?_getD, -List.length_eq_zero_iff, conjP, addOP, two_nat, g])) ?_
  refine sx hXFd [.F] 4000 rfl (by (simp [-List.getD_eq_getElem?_getD, -List.length_eq_zero_iff, conjP, addOP, ewf, g2])) ?_
  (try simp only [two_nat, ewf]; refine ss_end hXFd [0, 1, 2] rfl rfl trivial rfl rfl rfl rfl ?hv ?hh ?hk ?ho; (case hv => exact clF); (case hh => exact clF); (case hk => exact clF); (case ho => exact clF))
set_option maxHeartbeats 4000000 in
theorem dl1es {l : List Int} (B : FB T R W st) (C : LC T R ⟨1, seq, i, fd, told, er, tm⟩) (g : ¬ W.getD 2 0 % 2 = 1) : DLtp1 false l T R ⟨1, seq, i, fd, told, er, tm⟩ W st kd wd vl ch ⟨⟨2, (W.getD 2 0), 0, fd, none, 0, tm⟩, 2, W.getD 2 0⟩ de none de := by
  have t1 := B.t1
  have t8 := B.t8
  have r1 := B.r1
  have r4 := B.r4
  have hl := B.hl
  have s0 := B.s0
  have s1 := B.s1
  have f0 : 0 ≤ fd := C.f0
  have f1 : fd < R := C.f1
  have hr := right_FR t1 t8 r1 r4
  have l2 : (2 : Int) < (W.length : Int) := by omega
  have w2 := (B.hw 2).1
  have w2' := (B.hw 2).2
  have ewf : IntKind.i64.wrap (fd + 1) = fd + 1 := wi64 (by omega) (by omega)
  have wev : (W.getD 2 0).tmod 2 = W.getD 2 0 % 2 := Int.tmod_eq_emod_of_nonneg w2
  refine gives_x hXFd (fn := Tryz.f46) rfl rfl rfl rfl fun ρ w => ?_
  dsimp only [dlC, slV, mvL, kpE, cond_true, cond_false]
  refine sx hXFd [] 4000 rfl (by (simp [-List.getD_eq_getElem?_getD, -List.length_eq_zero_iff, conjP])) ?_
  refine sx hXFd [.T] 4000 rfl (by (simp [-List.getD_eq_getElem?_getD, -List.length_eq_zero_iff, conjP, s0, l2] <;> (first | omega | ((repeat' (refine And.intro ?_ ?_)) <;> (first | omega | exact decide_eq_false (by omega) | exact decide_eq_true (by omega)))))) ?_
  refine sx hXFd [.F] 4000 rfl (by (simp [-List.getD_eq_getElem?_getD, -List.length_eq_zero_iff, conjP, addOP, wev, two_nat, g])) ?_
  (try simp only [two_nat]; refine ss_end hXFd [0, 1, 2, 3] rfl rfl trivial rfl rfl rfl rfl ?hv ?hh ?hk ?ho; (case hv => exact clF); (case hh => exact clF); (case hk => exact clF); (case ho => exact clF))
set_option maxHeartbeats 4000000 in
theorem dl1ls {l : List Int} (B : FB T R W st) (C : LC T R ⟨1, seq, i, fd, told, er, tm⟩) (g : W.getD 2 0 % 2 = 1) (g2 : fd + 1 = R) : DLtp1 false l T R ⟨1, seq, i, fd, told, er, tm⟩ W st kd wd vl ch ⟨⟨0, (W.getD 2 0), 0, (fd + 1), none, 17, tm⟩, 2, W.getD 2 0⟩ de none 17 := by
  have t1 := B.t1
  have t8 := B.t8
  have r1 := B.r1
  have r4 := B.r4
  have hl := B.hl
  have s0 := B.s0
  have s1 := B.s1
  have f0 : 0 ≤ fd := C.f0
  have f1 : fd < R := C.f1
  have hr := right_FR t1 t8 r1 r4
  have l2 : (2 : Int) < (W.length : Int) := by omega
  have w2 := (B.hw 2).1
  have w2' := (B.hw 2).2
  have ewf : IntKind.i64.wrap (fd + 1) = fd + 1 := wi64 (by omega) (by omega)
  have wev : (W.getD 2 0).tmod 2 = W.getD 2 0 % 2 := Int.tmod_eq_emod_of_nonneg w2
  have ewR : IntKind.i64.wrap (fd + 1) = R := by rw [ewf, g2]
  refine gives_x hXFd (fn := Tryz.f46) rfl rfl rfl rfl fun ρ w => ?_
  dsimp only [dlC, slV, mvL, kpE, cond_true, cond_false]
  refine sx hXFd [] 4000 rfl (by (simp [-List.getD_eq_getElem?_getD, -List.length_eq_zero_iff, conjP])) ?_
  refine sx hXFd [.T] 4000 rfl (by (simp [-List.getD_eq_getElem?_getD, -List.length_eq_zero_iff, conjP, s0, l2] <;> (first | omega | ((repeat' (refine And.intro ?_ ?_)) <;> (first | omega | exact decide_eq_false (by omega) | exact decide_eq_true (by omega)))))) ?_
  refine sx hXFd [.T] 4000 rfl (by (simp [-List.getD_eq_getElem?_getD, -List.length_eq_zero_iff, conjP, addOP, wev, two_nat, g])) ?_
  refine sx hXFd [.T] 4000 rfl (by (simp [-List.getD_eq_getElem?_getD, -List.length_eq_zero_iff, conjP, addOP, ewR])) ?_
  (try simp only [two_nat, ewf]; refine ss_end hXFd [0, 1, 2, 3] rfl rfl trivial rfl rfl rfl rfl ?hv ?hh ?hk ?ho; (case hv => exact clF); (case hh => exact clF); (case hk => exact clF); (case ho => exact clF))
set_option maxHeartbeats 4000000 in
theorem dl1fs {l : List Int} (B : FB T R W st) (C : LC T R ⟨1, seq, i, fd, told, er, tm⟩) (g : W.getD 2 0 % 2 = 1) (g2 : ¬ fd + 1 = R) : DLtp1 false l T R ⟨1, seq, i, fd, told, er, tm⟩ W st kd wd vl ch ⟨⟨1, (W.getD 2 0), 0, (fd + 1), none, 0, tm⟩, 2, W.getD 2 0⟩ de none de := by
  have t1 := B.t1
  have t8 := B.t8
  have r1 := B.r1
  have r4 := B.r4
  have hl := B.hl
  have s0 := B.s0
  have s1 := B.s1
  have f0 : 0 ≤ fd := C.f0
  have f1 : fd < R := C.f1
  have hr := right_FR t1 t8 r1 r4
  have l2 : (2 : Int) < (W.length : Int) := by omega
  have w2 := (B.hw 2).1
  have w2' := (B.hw 2).2
  have ewf : IntKind.i64.wrap (fd + 1) = fd + 1 := wi64 (by omega) (by omega)
  have wev : (W.getD 2 0).tmod 2 = W.getD 2 0 % 2 := Int.tmod_eq_emod_of_nonneg w2
  refine gives_x hXFd (fn := Tryz.f46) rfl rfl rfl rfl fun ρ w => ?_
  dsimp only [dlC, slV, mvL, kpE, cond_true, cond_false]
  refine sx hXFd [] 4000 rfl (by (simp [-List.getD_eq_getElem?_getD, -List.length_eq_zero_iff, conjP])) ?_
  refine sx hXFd [.T] 4000 rfl (by (simp [-List.getD_eq_getElem?_getD, -List.length_eq_zero_iff, conjP, s0, l2] <;> (first | omega | ((repeat' (refine And.intro ?_ ?_)) <;> (first | omega | exact decide_eq_false (by omega) | exact decide_eq_true (by omega)))))) ?_
  refine sx hXFd [.T] 4000 rfl (by (simp [-List.getD_eq_getElem?_getD, -List.length_eq_zero_iff, conjP, addOP, wev, two_nat, g])) ?_
  refine sx hXFd [.F] 4000 rfl (by (simp [-List.getD_eq_getElem?_getD, -List.length_eq_zero_iff, conjP, addOP, ewf, g2])) ?_
  (try simp only [two_nat, ewf]; refine ss_end hXFd [0, 1, 2, 3] rfl rfl trivial rfl rfl rfl rfl ?hv ?hh ?hk ?ho; (case hv => exact clF); (case hh => exact clF); (case hk => exact clF); (case ho => exact clF))
set_option maxHeartbeats 4000000 in
theorem dl2fts {l : List Int} (B : FB T R W st) (C : LC T R ⟨2, seq, i, fd, told, er, tm⟩) (_hll : l.length ≤ i) (hK : isK (W.getD (fP i) 0) = false) (hi2 : i + 1 = T) : DLtp1 false l T R ⟨2, seq, i, fd, told, er, tm⟩ W st kd wd vl ch ⟨⟨4, seq, (i + 1), fd, told, er, tm⟩, (fP i : Int), W.getD (fP i) 0⟩ de (some l) de := by
  have t1 := B.t1
  have t8 := B.t8
  have r1 := B.r1
  have r4 := B.r4
  have hl := B.hl
  have s0 := B.s0
  have s1 := B.s1
  have f0 : 0 ≤ fd := C.f0
  have f1 : fd < R := C.f1
  have hr := right_FR t1 t8 r1 r4
  have l2 : (2 : Int) < (W.length : Int) := by omega
  have w2 := (B.hw 2).1
  have w2' := (B.hw 2).2
  have ewf : IntKind.i64.wrap (fd + 1) = fd + 1 := wi64 (by omega) (by omega)
  have hii : i < T := C.it rfl
  have hi : i < T := C.it rfl
  have ewi : IntKind.i64.wrap ((i : Int) + 1) = ((i + 1 : Nat) : Int) := by rw [wi64 (by omega) (by omega)]; omega
  have en := fent_at (R := R) hi
  have el := fP_lt' hl hi
  have w0 := (B.hw (fP i)).1
  have w1 := (B.hw (fP i)).2
  have hiE : ((i + 1 : Nat) : Int) = (T : Int) := by omega
  refine gives_x hXFd (fn := Tryz.f46) rfl rfl rfl rfl fun ρ w => ?_
  have J3 : dlYs l T R ⟨2, seq, i, fd, told, er, tm⟩ de W (st + 1) (fP i : Int) (W.getD (fP i) 0) (kyW (W.getD (fP i) 0)) (lgW (W.getD (fP i) 0)) (isK (W.getD (fP i) 0)) ρ w [.obj (dlC (T : Int) R 3 ⟨2, seq, i, fd, told, er, tm⟩ (some l) de), ROx 2 W st kd wd vl ch, WO W, .obj (.buf .i64 l 1 3)] (Is (.bool (decide (4 = 0))) (.obj (dlC (T : Int) R 3 ⟨4, seq, (i + 1), fd, told, er, tm⟩ (some l) de) :: ROx 2 W (st + 1) 1 (fP i : Int) (W.getD (fP i) 0) false :: WO W :: [.obj (.buf .i64 l 1 3)])) := by
    dsimp only [dlYs, dlC, slV, kyE, slE]
    refine sx hXFd [] 4000 rfl (by (simp [-List.getD_eq_getElem?_getD, -List.length_eq_zero_iff, conjP])) ?_
    refine sx hXFd [.F] 4000 rfl (by (simp [-List.getD_eq_getElem?_getD, -List.length_eq_zero_iff, conjP, addOP, hK])) ?_
    refine sx hXFd [.T] 4000 rfl (by (simp [-List.getD_eq_getElem?_getD, -List.length_eq_zero_iff, conjP, addOP, ewi, hiE])) ?_
    (try simp only [ewi]; refine ss_end hXFd [0, 1, 2, 3] rfl rfl trivial rfl rfl rfl rfl ?hv ?hh ?hk ?ho; (case hv => exact clF); (case hh => exact clF); (case hk => exact clF); (case ho => exact clF))
  have J4 := dlZs_ok (kd := kd) (wd := wd) (vl := vl) (ch := ch) B hi rfl rfl J3
  dsimp only [dlC, slV, dlZs, mvL, kpE, slE, cond_true, cond_false] at J4 ⊢
  refine sxb hXFd [.r 10] [] 4000 rfl (by (simp [-List.getD_eq_getElem?_getD, -List.length_eq_zero_iff, conjP])) ?_
  refine sxb hXFd [.r 10] [.F] 4000 rfl (by (simp [-List.getD_eq_getElem?_getD, -List.length_eq_zero_iff, conjP, addOP])) ?_
  refine sxb hXFd [.r 10] [.T] 4000 rfl (by (simp [-List.getD_eq_getElem?_getD, -List.length_eq_zero_iff, conjP, addOP])) ?_
  (refine ss_sub hXFd [0, 1, 2, 3] rfl rfl rfl rfl ?hv ?hh ?hk ?ho J4; (case hv => exact clF); (case hh => exact clF); (case hk => exact clF); (case ho => exact clF))
set_option maxHeartbeats 4000000 in
theorem dl2fns {l : List Int} (B : FB T R W st) (C : LC T R ⟨2, seq, i, fd, told, er, tm⟩) (_hll : l.length ≤ i) (hK : isK (W.getD (fP i) 0) = false) (hi2 : ¬ i + 1 = T) : DLtp1 false l T R ⟨2, seq, i, fd, told, er, tm⟩ W st kd wd vl ch ⟨⟨2, seq, (i + 1), fd, told, er, tm⟩, (fP i : Int), W.getD (fP i) 0⟩ de (some l) de := by
  have t1 := B.t1
  have t8 := B.t8
  have r1 := B.r1
  have r4 := B.r4
  have hl := B.hl
  have s0 := B.s0
  have s1 := B.s1
  have f0 : 0 ≤ fd := C.f0
  have f1 : fd < R := C.f1
  have hr := right_FR t1 t8 r1 r4
  have l2 : (2 : Int) < (W.length : Int) := by omega
  have w2 := (B.hw 2).1
  have w2' := (B.hw 2).2
  have ewf : IntKind.i64.wrap (fd + 1) = fd + 1 := wi64 (by omega) (by omega)
  have hii : i < T := C.it rfl
  have hi : i < T := C.it rfl
  have ewi : IntKind.i64.wrap ((i : Int) + 1) = ((i + 1 : Nat) : Int) := by rw [wi64 (by omega) (by omega)]; omega
  have en := fent_at (R := R) hi
  have el := fP_lt' hl hi
  have w0 := (B.hw (fP i)).1
  have w1 := (B.hw (fP i)).2
  have hiT : ¬ ((i + 1 : Nat) : Int) = (T : Int) := by omega
  have hiT2 : ¬ (i : Int) + 1 = (T : Int) := by omega
  refine gives_x hXFd (fn := Tryz.f46) rfl rfl rfl rfl fun ρ w => ?_
  have J3 : dlYs l T R ⟨2, seq, i, fd, told, er, tm⟩ de W (st + 1) (fP i : Int) (W.getD (fP i) 0) (kyW (W.getD (fP i) 0)) (lgW (W.getD (fP i) 0)) (isK (W.getD (fP i) 0)) ρ w [.obj (dlC (T : Int) R 3 ⟨2, seq, i, fd, told, er, tm⟩ (some l) de), ROx 2 W st kd wd vl ch, WO W, .obj (.buf .i64 l 1 3)] (Is (.bool (decide (2 = 0))) (.obj (dlC (T : Int) R 3 ⟨2, seq, (i + 1), fd, told, er, tm⟩ (some l) de) :: ROx 2 W (st + 1) 1 (fP i : Int) (W.getD (fP i) 0) false :: WO W :: [.obj (.buf .i64 l 1 3)])) := by
    dsimp only [dlYs, dlC, slV, kyE, slE]
    refine sx hXFd [] 4000 rfl (by (simp [-List.getD_eq_getElem?_getD, -List.length_eq_zero_iff, conjP])) ?_
    refine sx hXFd [.F] 4000 rfl (by (simp [-List.getD_eq_getElem?_getD, -List.length_eq_zero_iff, conjP, addOP, hK])) ?_
    refine sx hXFd [.F] 4000 rfl (by (simp [-List.getD_eq_getElem?_getD, -List.length_eq_zero_iff, conjP, addOP, ewi, hiT2])) ?_
    (try simp only [ewi]; refine ss_end hXFd [0, 1, 2, 3] rfl rfl trivial rfl rfl rfl rfl ?hv ?hh ?hk ?ho; (case hv => exact clF); (case hh => exact clF); (case hk => exact clF); (case ho => exact clF))
  have J4 := dlZs_ok (kd := kd) (wd := wd) (vl := vl) (ch := ch) B hi rfl rfl J3
  dsimp only [dlC, slV, dlZs, mvL, kpE, slE, cond_true, cond_false] at J4 ⊢
  refine sxb hXFd [.r 10] [] 4000 rfl (by (simp [-List.getD_eq_getElem?_getD, -List.length_eq_zero_iff, conjP])) ?_
  refine sxb hXFd [.r 10] [.F] 4000 rfl (by (simp [-List.getD_eq_getElem?_getD, -List.length_eq_zero_iff, conjP, addOP])) ?_
  refine sxb hXFd [.r 10] [.T] 4000 rfl (by (simp [-List.getD_eq_getElem?_getD, -List.length_eq_zero_iff, conjP, addOP])) ?_
  (refine ss_sub hXFd [0, 1, 2, 3] rfl rfl rfl rfl ?hv ?hh ?hk ?ho J4; (case hv => exact clF); (case hh => exact clF); (case hk => exact clF); (case ho => exact clF))
set_option maxHeartbeats 4000000 in
theorem dl2tts {l : List Int} (B : FB T R W st) (C : LC T R ⟨2, seq, i, fd, told, er, tm⟩) (hll : l.length ≤ i) (hK : isK (W.getD (fP i) 0) = true) (hi2 : i + 1 = T) : DLtp1 true l T R ⟨2, seq, i, fd, told, er, tm⟩ W st kd wd vl ch ⟨⟨4, seq, (i + 1), fd, told, er, tm⟩, (fP i : Int), W.getD (fP i) 0⟩ de (some (insD l (W.getD (fP i) 0 / 4))) de := by
  have t1 := B.t1
  have t8 := B.t8
  have r1 := B.r1
  have r4 := B.r4
  have hl := B.hl
  have s0 := B.s0
  have s1 := B.s1
  have f0 : 0 ≤ fd := C.f0
  have f1 : fd < R := C.f1
  have hr := right_FR t1 t8 r1 r4
  have l2 : (2 : Int) < (W.length : Int) := by omega
  have w2 := (B.hw 2).1
  have w2' := (B.hw 2).2
  have ewf : IntKind.i64.wrap (fd + 1) = fd + 1 := wi64 (by omega) (by omega)
  have hii : i < T := C.it rfl
  have hi : i < T := C.it rfl
  have ewi : IntKind.i64.wrap ((i : Int) + 1) = ((i + 1 : Nat) : Int) := by rw [wi64 (by omega) (by omega)]; omega
  have en := fent_at (R := R) hi
  have el := fP_lt' hl hi
  have w0 := (B.hw (fP i)).1
  have w1 := (B.hw (fP i)).2
  have kyv : kyW (W.getD (fP i) 0) = W.getD (fP i) 0 / 4 := by unfold kyW; rw [hK]; rfl
  have hiE : ((i + 1 : Nat) : Int) = (T : Int) := by omega
  rw [← kyv]
  refine gives_x hXFd (fn := Tryz.f46) rfl rfl rfl rfl fun ρ w => ?_
  have J : dlKs T R ⟨2, seq, (i + 1), fd, told, er, tm⟩ de W (st + 1) (fP i : Int) (W.getD (fP i) 0) (insD l (kyW (W.getD (fP i) 0))) ρ w [.obj (dlC (T : Int) R 3 ⟨2, seq, i, fd, told, er, tm⟩ (some l) de), ROx 2 W st kd wd vl ch, WO W, .obj (.buf .i64 l 1 3)] (Is (.bool (decide (4 = 0))) (.obj (dlC (T : Int) R 4 ⟨4, seq, (i + 1), fd, told, er, tm⟩ (some (insD l (kyW (W.getD (fP i) 0)))) de) :: ROx 2 W (st + 1) 1 (fP i : Int) (W.getD (fP i) 0) false :: WO W :: .opq :: [slE (some (insD l (kyW (W.getD (fP i) 0)))) .i64 3])) := by
    dsimp only [dlKs, dlC, slV, slE]
    refine sx hXDl [] 4000 rfl (by (simp [-List.getD_eq_getElem?_getD, -List.length_eq_zero_iff, conjP])) ?_
    refine sx hXDl [.T] 4000 rfl (by (simp [-List.getD_eq_getElem?_getD, -List.length_eq_zero_iff, conjP, addOP, hiE])) ?_
    (refine ss_end hXDl [0, 1, 2, 3, 4] rfl rfl trivial rfl rfl rfl rfl ?hv ?hh ?hk ?ho; (case hv => exact clF); (case hh => exact clF); (case hk => exact clF); (case ho => exact clF))
  have J2 := dlAs_ok (c := isK (W.getD (fP i) 0)) (b := lgW (W.getD (fP i) 0)) (by omega) rfl rfl rfl rfl J
  have J3 : dlYs l T R ⟨2, seq, i, fd, told, er, tm⟩ de W (st + 1) (fP i : Int) (W.getD (fP i) 0) (kyW (W.getD (fP i) 0)) (lgW (W.getD (fP i) 0)) (isK (W.getD (fP i) 0)) ρ w [.obj (dlC (T : Int) R 3 ⟨2, seq, i, fd, told, er, tm⟩ (some l) de), ROx 2 W st kd wd vl ch, WO W, .obj (.buf .i64 l 1 3)] (Is (.bool (decide (4 = 0))) (.obj (dlC (T : Int) R 4 ⟨4, seq, (i + 1), fd, told, er, tm⟩ (some (insD l (kyW (W.getD (fP i) 0)))) de) :: ROx 2 W (st + 1) 1 (fP i : Int) (W.getD (fP i) 0) false :: WO W :: .opq :: [slE (some (insD l (kyW (W.getD (fP i) 0)))) .i64 3])) := by
    dsimp only [dlYs, dlC, slV, dlAs, kyE, slE] at J2 ⊢
    refine sxb hXFd [.r 13] [] 4000 rfl (by (simp [-List.getD_eq_getElem?_getD, -List.length_eq_zero_iff, conjP])) ?_
    refine sxb hXFd [.r 13] [.T] 4000 rfl (by (simp [-List.getD_eq_getElem?_getD, -List.length_eq_zero_iff, conjP, addOP, hK])) ?_
    (try simp only [ewi]; refine ss_sub hXFd [0, 1, 2, 3, 4] rfl rfl rfl rfl ?hv ?hh ?hk ?ho J2; (case hv => exact clF); (case hh => exact clF); (case hk => exact clF); (case ho => exact clF))
  have J4 := dlZs_ok (kd := kd) (wd := wd) (vl := vl) (ch := ch) B hi rfl rfl J3
  dsimp only [dlC, slV, dlZs, mvL, kpE, slE, cond_true, cond_false] at J4 ⊢
  refine sxb hXFd [.r 10] [] 4000 rfl (by (simp [-List.getD_eq_getElem?_getD, -List.length_eq_zero_iff, conjP])) ?_
  refine sxb hXFd [.r 10] [.F] 4000 rfl (by (simp [-List.getD_eq_getElem?_getD, -List.length_eq_zero_iff, conjP, addOP])) ?_
  refine sxb hXFd [.r 10] [.T] 4000 rfl (by (simp [-List.getD_eq_getElem?_getD, -List.length_eq_zero_iff, conjP, addOP])) ?_
  (refine ss_sub hXFd [0, 1, 2, 3] rfl rfl rfl rfl ?hv ?hh ?hk ?ho J4; (case hv => exact clF); (case hh => exact clF); (case hk => exact clF); (case ho => exact clF))
set_option maxHeartbeats 4000000 in
theorem dl2tns {l : List Int} (B : FB T R W st) (C : LC T R ⟨2, seq, i, fd, told, er, tm⟩) (hll : l.length ≤ i) (hK : isK (W.getD (fP i) 0) = true) (hi2 : ¬ i + 1 = T) : DLtp1 true l T R ⟨2, seq, i, fd, told, er, tm⟩ W st kd wd vl ch ⟨⟨2, seq, (i + 1), fd, told, er, tm⟩, (fP i : Int), W.getD (fP i) 0⟩ de (some (insD l (W.getD (fP i) 0 / 4))) de := by
  have t1 := B.t1
  have t8 := B.t8
  have r1 := B.r1
  have r4 := B.r4
  have hl := B.hl
  have s0 := B.s0
  have s1 := B.s1
  have f0 : 0 ≤ fd := C.f0
  have f1 : fd < R := C.f1
  have hr := right_FR t1 t8 r1 r4
  have l2 : (2 : Int) < (W.length : Int) := by omega
  have w2 := (B.hw 2).1
  have w2' := (B.hw 2).2
  have ewf : IntKind.i64.wrap (fd + 1) = fd + 1 := wi64 (by omega) (by omega)
  have hii : i < T := C.it rfl
  have hi : i < T := C.it rfl
  have ewi : IntKind.i64.wrap ((i : Int) + 1) = ((i + 1 : Nat) : Int) := by rw [wi64 (by omega) (by omega)]; omega
  have en := fent_at (R := R) hi
  have el := fP_lt' hl hi
  have w0 := (B.hw (fP i)).1
  have w1 := (B.hw (fP i)).2
  have kyv : kyW (W.getD (fP i) 0) = W.getD (fP i) 0 / 4 := by unfold kyW; rw [hK]; rfl
  have hiT : ¬ ((i + 1 : Nat) : Int) = (T : Int) := by omega
  have hiT2 : ¬ (i : Int) + 1 = (T : Int) := by omega
  rw [← kyv]
  refine gives_x hXFd (fn := Tryz.f46) rfl rfl rfl rfl fun ρ w => ?_
  have J : dlKs T R ⟨2, seq, (i + 1), fd, told, er, tm⟩ de W (st + 1) (fP i : Int) (W.getD (fP i) 0) (insD l (kyW (W.getD (fP i) 0))) ρ w [.obj (dlC (T : Int) R 3 ⟨2, seq, i, fd, told, er, tm⟩ (some l) de), ROx 2 W st kd wd vl ch, WO W, .obj (.buf .i64 l 1 3)] (Is (.bool (decide (2 = 0))) (.obj (dlC (T : Int) R 4 ⟨2, seq, (i + 1), fd, told, er, tm⟩ (some (insD l (kyW (W.getD (fP i) 0)))) de) :: ROx 2 W (st + 1) 1 (fP i : Int) (W.getD (fP i) 0) false :: WO W :: .opq :: [slE (some (insD l (kyW (W.getD (fP i) 0)))) .i64 3])) := by
    dsimp only [dlKs, dlC, slV, slE]
    refine sx hXDl [] 4000 rfl (by (simp [-List.getD_eq_getElem?_getD, -List.length_eq_zero_iff, conjP])) ?_
    refine sx hXDl [.F] 4000 rfl (by (simp [-List.getD_eq_getElem?_getD, -List.length_eq_zero_iff, conjP, addOP, hiT2])) ?_
    (refine ss_end hXDl [0, 1, 2, 3, 4] rfl rfl trivial rfl rfl rfl rfl ?hv ?hh ?hk ?ho; (case hv => exact clF); (case hh => exact clF); (case hk => exact clF); (case ho => exact clF))
  have J2 := dlAs_ok (c := isK (W.getD (fP i) 0)) (b := lgW (W.getD (fP i) 0)) (by omega) rfl rfl rfl rfl J
  have J3 : dlYs l T R ⟨2, seq, i, fd, told, er, tm⟩ de W (st + 1) (fP i : Int) (W.getD (fP i) 0) (kyW (W.getD (fP i) 0)) (lgW (W.getD (fP i) 0)) (isK (W.getD (fP i) 0)) ρ w [.obj (dlC (T : Int) R 3 ⟨2, seq, i, fd, told, er, tm⟩ (some l) de), ROx 2 W st kd wd vl ch, WO W, .obj (.buf .i64 l 1 3)] (Is (.bool (decide (2 = 0))) (.obj (dlC (T : Int) R 4 ⟨2, seq, (i + 1), fd, told, er, tm⟩ (some (insD l (kyW (W.getD (fP i) 0)))) de) :: ROx 2 W (st + 1) 1 (fP i : Int) (W.getD (fP i) 0) false :: WO W :: .opq :: [slE (some (insD l (kyW (W.getD (fP i) 0)))) .i64 3])) := by
    dsimp only [dlYs, dlC, slV, dlAs, kyE, slE] at J2 ⊢
    refine sxb hXFd [.r 13] [] 4000 rfl (by (simp [-List.getD_eq_getElem?_getD, -List.length_eq_zero_iff, conjP])) ?_
    refine sxb hXFd [.r 13] [.T] 4000 rfl (by (simp [-List.getD_eq_getElem?_getD, -List.length_eq_zero_iff, conjP, addOP, hK])) ?_
    (try simp only [ewi]; refine ss_sub hXFd [0, 1, 2, 3, 4] rfl rfl rfl rfl ?hv ?hh ?hk ?ho J2; (case hv => exact clF); (case hh => exact clF); (case hk => exact clF); (case ho => exact clF))
  have J4 := dlZs_ok (kd := kd) (wd := wd) (vl := vl) (ch := ch) B hi rfl rfl J3
  dsimp only [dlC, slV, dlZs, mvL, kpE, slE, cond_true, cond_false] at J4 ⊢
  refine sxb hXFd [.r 10] [] 4000 rfl (by (simp [-List.getD_eq_getElem?_getD, -List.length_eq_zero_iff, conjP])) ?_
  refine sxb hXFd [.r 10] [.F] 4000 rfl (by (simp [-List.getD_eq_getElem?_getD, -List.length_eq_zero_iff, conjP, addOP])) ?_
  refine sxb hXFd [.r 10] [.T] 4000 rfl (by (simp [-List.getD_eq_getElem?_getD, -List.length_eq_zero_iff, conjP, addOP])) ?_
  (refine ss_sub hXFd [0, 1, 2, 3] rfl rfl rfl rfl ?hv ?hh ?hk ?ho J4; (case hv => exact clF); (case hh => exact clF); (case hk => exact clF); (case ho => exact clF))
set_option maxHeartbeats 4000000 in
theorem dl4ss {l : List Int} (B : FB T R W st) (C : LC T R ⟨4, seq, i, fd, told, er, tm⟩) (g : W.getD 2 0 = seq) : DLtp1 false l T R ⟨4, seq, i, fd, told, er, tm⟩ W st kd wd vl ch ⟨⟨0, seq, i, fd, told, er, (st + 1)⟩, 2, W.getD 2 0⟩ de (some l) de := by
  have t1 := B.t1
  have t8 := B.t8
  have r1 := B.r1
  have r4 := B.r4
  have hl := B.hl
  have s0 := B.s0
  have s1 := B.s1
  have f0 : 0 ≤ fd := C.f0
  have f1 : fd < R := C.f1
  have hr := right_FR t1 t8 r1 r4
  have l2 : (2 : Int) < (W.length : Int) := by omega
  have w2 := (B.hw 2).1
  have w2' := (B.hw 2).2
  have ewf : IntKind.i64.wrap (fd + 1) = fd + 1 := wi64 (by omega) (by omega)
  have ews : IntKind.i64.wrap (st + 1) = st + 1 := wi64 (by omega) (by omega)
  refine gives_x hXFd (fn := Tryz.f46) rfl rfl rfl rfl fun ρ w => ?_
  dsimp only [dlC, slV, mvL, kpE, cond_true, cond_false]
  refine sx hXFd [] 4000 rfl (by (simp [-List.getD_eq_getElem?_getD, -List.length_eq_zero_iff, conjP])) ?_
  refine sx hXFd [.F] 4000 rfl (by (simp [-List.getD_eq_getElem?_getD, -List.length_eq_zero_iff, conjP, addOP])) ?_
  refine sx hXFd [.F] 4000 rfl (by (simp [-List.getD_eq_getElem?_getD, -List.length_eq_zero_iff, conjP, addOP])) ?_
  refine sx hXFd [.T] 4000 rfl (by (simp [-List.getD_eq_getElem?_getD, -List.length_eq_zero_iff, conjP, s0, l2] <;> (first | omega | ((repeat' (refine And.intro ?_ ?_)) <;> (first | omega | exact decide_eq_false (by omega) | exact decide_eq_true (by omega)))))) ?_
  refine sx hXFd [.F] 4000 rfl (by (simp [-List.getD_eq_getElem?_getD, -List.length_eq_zero_iff, conjP, addOP, two_nat, g])) ?_
  (try simp only [two_nat, g]; refine ss_end hXFd [0, 1, 2, 3] rfl rfl trivial rfl rfl rfl rfl ?hv ?hh ?hk ?ho; (case hv => exact clF); (case hh => exact clF); (case hk => exact clF); (case ho => exact clF))
set_option maxHeartbeats 4000000 in
theorem dl4ls {l : List Int} (B : FB T R W st) (C : LC T R ⟨4, seq, i, fd, told, er, tm⟩) (g : ¬ W.getD 2 0 = seq) (g2 : fd + 1 = R) : DLtp1 false l T R ⟨4, seq, i, fd, told, er, tm⟩ W st kd wd vl ch ⟨⟨0, seq, i, (fd + 1), none, 17, (st + 1)⟩, 2, W.getD 2 0⟩ de none 17 := by
  have t1 := B.t1
  have t8 := B.t8
  have r1 := B.r1
  have r4 := B.r4
  have hl := B.hl
  have s0 := B.s0
  have s1 := B.s1
  have f0 : 0 ≤ fd := C.f0
  have f1 : fd < R := C.f1
  have hr := right_FR t1 t8 r1 r4
  have l2 : (2 : Int) < (W.length : Int) := by omega
  have w2 := (B.hw 2).1
  have w2' := (B.hw 2).2
  have ewf : IntKind.i64.wrap (fd + 1) = fd + 1 := wi64 (by omega) (by omega)
  have ews : IntKind.i64.wrap (st + 1) = st + 1 := wi64 (by omega) (by omega)
  have ewR : IntKind.i64.wrap (fd + 1) = R := by rw [ewf, g2]
  refine gives_x hXFd (fn := Tryz.f46) rfl rfl rfl rfl fun ρ w => ?_
  dsimp only [dlC, slV, mvL, kpE, cond_true, cond_false]
  refine sx hXFd [] 4000 rfl (by (simp [-List.getD_eq_getElem?_getD, -List.length_eq_zero_iff, conjP])) ?_
  refine sx hXFd [.F] 4000 rfl (by (simp [-List.getD_eq_getElem?_getD, -List.length_eq_zero_iff, conjP, addOP])) ?_
  refine sx hXFd [.F] 4000 rfl (by (simp [-List.getD_eq_getElem?_getD, -List.length_eq_zero_iff, conjP, addOP])) ?_
  refine sx hXFd [.T] 4000 rfl (by (simp [-List.getD_eq_getElem?_getD, -List.length_eq_zero_iff, conjP, s0, l2] <;> (first | omega | ((repeat' (refine And.intro ?_ ?_)) <;> (first | omega | exact decide_eq_false (by omega) | exact decide_eq_true (by omega)))))) ?_
  refine sx hXFd [.T] 4000 rfl (by (simp [-List.getD_eq_getElem?_getD, -List.length_eq_zero_iff, conjP, addOP, two_nat, g])) ?_
  refine sx hXFd [.T] 4000 rfl (by (simp [-List.getD_eq_getElem?_getD, -List.length_eq_zero_iff, conjP, addOP, ewR])) ?_
  (try simp only [two_nat, ewf]; refine ss_end hXFd [0, 1, 2, 3] rfl rfl trivial rfl rfl rfl rfl ?hv ?hh ?hk ?ho; (case hv => exact clF); (case hh => exact clF); (case hk => exact clF); (case ho => exact clF))
set_option maxHeartbeats 4000000 in
theorem dl4fs {l : List Int} (B : FB T R W st) (C : LC T R ⟨4, seq, i, fd, told, er, tm⟩) (g : ¬ W.getD 2 0 = seq) (g2 : ¬ fd + 1 = R) : DLtp1 false l T R ⟨4, seq, i, fd, told, er, tm⟩ W st kd wd vl ch ⟨⟨1, seq, i, (fd + 1), none, 0, (st + 1)⟩, 2, W.getD 2 0⟩ de none de := by
  have t1 := B.t1
  have t8 := B.t8
  have r1 := B.r1
  have r4 := B.r4
  have hl := B.hl
  have s0 := B.s0
  have s1 := B.s1
  have f0 : 0 ≤ fd := C.f0
  have f1 : fd < R := C.f1
  have hr := right_FR t1 t8 r1 r4
  have l2 : (2 : Int) < (W.length : Int) := by omega
  have w2 := (B.hw 2).1
  have w2' := (B.hw 2).2
  have ewf : IntKind.i64.wrap (fd + 1) = fd + 1 := wi64 (by omega) (by omega)
  have ews : IntKind.i64.wrap (st + 1) = st + 1 := wi64 (by omega) (by omega)
  refine gives_x hXFd (fn := Tryz.f46) rfl rfl rfl rfl fun ρ w => ?_
  dsimp only [dlC, slV, mvL, kpE, cond_true, cond_false]
  refine sx hXFd [] 4000 rfl (by (simp [-List.getD_eq_getElem?_getD, -List.length_eq_zero_iff, conjP])) ?_
  refine sx hXFd [.F] 4000 rfl (by (simp [-List.getD_eq_getElem?_getD, -List.length_eq_zero_iff, conjP, addOP])) ?_
  refine sx hXFd [.F] 4000 rfl (by (simp [-List.getD_eq_getElem?_getD, -List.length_eq_zero_iff, conjP, addOP])) ?_
  refine sx hXFd [.T] 4000 rfl (by (simp [-List.getD_eq_getElem?_getD, -List.length_eq_zero_iff, conjP, s0, l2] <;> (first | omega | ((repeat' (refine And.intro ?_ ?_)) <;> (first | omega | exact decide_eq_false (by omega) | exact decide_eq_true (by omega)))))) ?_
  refine sx hXFd [.T] 4000 rfl (by (simp [-List.getD_eq_getElem?_getD, -List.length_eq_zero_iff, conjP, addOP, two_nat, g])) ?_
  refine sx hXFd [.F] 4000 rfl (by (simp [-List.getD_eq_getElem?_getD, -List.length_eq_zero_iff, conjP, addOP, ewf, g2])) ?_
  (try simp only [two_nat, ewf]; refine ss_end hXFd [0, 1, 2, 3] rfl rfl trivial rfl rfl rfl rfl ?hv ?hh ?hk ?ho; (case hv => exact clF); (case hh => exact clF); (case hk => exact clF); (case ho => exact clF))
end
end Go.Proofs.YtkkddjchkkaagaaGreatDoor

/- Find: every step of the document, told by the law; as rows. -/
namespace Go.Proofs.YtkkddjchkkaagaaGreatDoor
open Go Go.Hx
set_option maxRecDepth 8000
theorem raP_get {H : List HE} {ha hw : Nat} {W : List Int} {st kd wd vl : Int} {ch : Bool} {ob : List Prop} (hp : raP H ha = some (hw, ⟨W, st, kd, wd, vl, ch⟩, ob)) (hob : AllP ob) :
    getH H ha = some (.cells [.slice hw 0 W.length W.length, .int .i64 st, .int .i64 kd, .int .i64 wd, .int .u64 vl, .bool ch, .ff, .int .i64 0] 63) ∧ getH H hw = some (.ints .u64 W 52) ∧ nodupN [ha, hw] = true := by
  unfold raP at hp
  split at hp
  · rename_i hga
    split at hp
    · rename_i hgw hn
      simp only [Option.some.injEq, Prod.mk.injEq] at hp
      obtain ⟨rfl, h2, rfl⟩ := hp
      simp only [Ar.mk.injEq] at h2
      obtain ⟨rfl, rfl, rfl, rfl, rfl, rfl⟩ := h2
      have l1 := hob _ (List.mem_cons_self ..)
      have l2 := hob _ (List.mem_cons_of_mem _ (List.mem_cons_self ..))
      subst l1; subst l2
      exact ⟨hga, hgw, hn⟩
    · simp at hp
  · simp at hp
/-- The document's place and code behind a step. -/
def dpF (T start : Nat) (s : FS) (W : List Int) (dp : Int) : Int :=
  if s.ph = 1 then -1 else if s.ph = 2 ∧ isK (W.getD (fP (fPl T start s.i)) 0) = true ∧ W.getD (fP (fPl T start s.i)) 0 / 4 = s.key then (fPl T start s.i : Int) else dp
def lostE (R : Int) (fd de : Int) : Int := if fd + 1 = R then 17 else de
def deF (R : Int) (s : FS) (W : List Int) (dp de : Int) : Int :=
  if s.ph = 1 then (if W.getD 2 0 % 2 = 1 then lostE R s.fd de else de)
  else if s.ph = 4 then (if W.getD 2 0 = s.seq then (if dp < 0 then 12 else de) else lostE R s.fd de) else de
def dLF (s : LS) (W : List Int) (dL : Option (List Int)) : Option (List Int) :=
  if s.ph = 1 then none else if s.ph = 2 then (if isK (W.getD (fP s.i) 0) = true then some (insD (lst dL) (W.getD (fP s.i) 0 / 4)) else dL) else if W.getD 2 0 = s.seq then dL else none
def deL (R : Int) (s : LS) (W : List Int) (de : Int) : Int :=
  if s.ph = 1 then (if W.getD 2 0 % 2 = 1 then lostE R s.fd de else de)
  else if s.ph = 4 then (if W.getD 2 0 = s.seq then de else lostE R s.fd de) else de
section
variable {T : Nat} {R : Int} {start : Nat} {W : List Int} {st kd wd vl : Int} {ch : Bool} {dp de : Int}
theorem dfstep_fn {s : FS} (B : FB T R W st) (C : FC T R s) (hs : start < T) (hst : startV (T : Int) 4 1 2 4 1 6 0 R s.key = (start : Int)) (hd : s.ph = 3 → dp = s.pl) (h1 : s.ph = 1 → s.pl = 0 ∧ s.ep = 0 ∧ s.lg = false) : DFtp T R s W st kd wd vl ch (fStep T R start s W st) dp de (dpF T start s W dp) (deF R s W dp de) := by
  obtain ⟨key, ph, seq, i, fd, pl, ep, lg, er, tm⟩ := s
  have p1 : 1 ≤ ph := C.p1
  have p4 : ph ≤ 4 := C.p4
  dsimp only at hd hst h1
  have hp : ph = 1 ∨ ph = 2 ∨ ph = 3 ∨ ph = 4 := by omega
  rcases hp with rfl | rfl | rfl | rfl
  · rw [(show dpF T start ⟨key, 1, seq, i, fd, pl, ep, lg, er, tm⟩ W dp = -1 from by simp [-List.getD_eq_getElem?_getD, dpF])]
    unfold fStep
    rw [if_pos rfl]
    by_cases g : W.getD 2 0 % 2 = 1
    · rw [if_pos g]
      unfold fFail
      by_cases g2 : fd + 1 = R
      · rw [if_pos g2, (show deF R ⟨key, 1, seq, i, fd, pl, ep, lg, er, tm⟩ W dp de = 17 from by simp [-List.getD_eq_getElem?_getD, deF, lostE, g, g2])]; exact df1l B C hs hst g g2
      · rw [if_neg g2, (show deF R ⟨key, 1, seq, i, fd, pl, ep, lg, er, tm⟩ W dp de = de from by simp [-List.getD_eq_getElem?_getD, deF, lostE, g, g2])]; exact df1f B C hs hst g g2
    · rw [if_neg g, (show deF R ⟨key, 1, seq, i, fd, pl, ep, lg, er, tm⟩ W dp de = de from by simp [-List.getD_eq_getElem?_getD, deF, g])]; obtain ⟨rfl, rfl, rfl⟩ := h1 rfl; exact df1e B C hs hst g
  · rw [(show deF R ⟨key, 2, seq, i, fd, pl, ep, lg, er, tm⟩ W dp de = de from by simp [-List.getD_eq_getElem?_getD, deF])]
    unfold fStep
    rw [if_neg (by dsimp only; omega), if_pos rfl]
    by_cases g : isK (W.getD (fP (fPl T start i)) 0) = true ∧ W.getD (fP (fPl T start i)) 0 / 4 = key
    · rw [if_pos g, (show dpF T start ⟨key, 2, seq, i, fd, pl, ep, lg, er, tm⟩ W dp = (fPl T start i : Int) from by simp [-List.getD_eq_getElem?_getD, dpF, g])]; exact df2f B C hs hst g.1 g.2
    · rw [if_neg g, (show dpF T start ⟨key, 2, seq, i, fd, pl, ep, lg, er, tm⟩ W dp = dp from by unfold dpF; rw [if_neg (show ¬ (2 : Nat) = 1 by decide), if_neg (fun q => g q.2)])]
      by_cases hz : W.getD (fP (fPl T start i)) 0 = 0
      · rw [if_pos (.inl hz)]; exact df2z B C hs hst hz
      · by_cases hi2 : i + 1 = T
        · rw [if_pos (.inr hi2)]
          rcases hK : isK (W.getD (fP (fPl T start i)) 0) with _ | _
          · exact df2ta B C hs hst hK hz hi2
          · exact df2tb B C hs hst hK (fun q => g ⟨hK, q⟩) hz hi2
        · rw [if_neg (fun q => by rcases q with q | q; exact hz q; exact hi2 q)]
          rcases hK : isK (W.getD (fP (fPl T start i)) 0) with _ | _
          · exact df2na B C hs hst hK hz hi2
          · exact df2nb B C hs hst hK (fun q => g ⟨hK, q⟩) hz hi2
  · rw [(show deF R ⟨key, 3, seq, i, fd, pl, ep, lg, er, tm⟩ W dp de = de from by simp [-List.getD_eq_getElem?_getD, deF]), (show dpF T start ⟨key, 3, seq, i, fd, pl, ep, lg, er, tm⟩ W dp = dp from by simp [-List.getD_eq_getElem?_getD, dpF]), hd rfl]
    unfold fStep
    rw [if_neg (by dsimp only; omega), if_neg (by dsimp only; omega), if_pos rfl]
    exact df3 B C hs hst
  · rw [(show dpF T start ⟨key, 4, seq, i, fd, pl, ep, lg, er, tm⟩ W dp = dp from by simp [-List.getD_eq_getElem?_getD, dpF])]
    unfold fStep
    rw [if_neg (by dsimp only; omega), if_neg (by dsimp only; omega), if_neg (by dsimp only; omega)]
    by_cases g : W.getD 2 0 = seq
    · rw [if_pos g]
      by_cases hd0 : dp < 0
      · rw [(show deF R ⟨key, 4, seq, i, fd, pl, ep, lg, er, tm⟩ W dp de = 12 from by simp [-List.getD_eq_getElem?_getD, deF, g, hd0])]; exact df4m B C hs hst g hd0
      · rw [(show deF R ⟨key, 4, seq, i, fd, pl, ep, lg, er, tm⟩ W dp de = de from by simp [-List.getD_eq_getElem?_getD, deF, g, hd0])]; exact df4s B C hs hst g hd0
    · rw [if_neg g]
      unfold fFail
      by_cases g2 : fd + 1 = R
      · rw [if_pos g2, (show deF R ⟨key, 4, seq, i, fd, pl, ep, lg, er, tm⟩ W dp de = 17 from by simp [-List.getD_eq_getElem?_getD, deF, lostE, g, g2])]; exact df4l B C hs hst g g2
      · rw [if_neg g2, (show deF R ⟨key, 4, seq, i, fd, pl, ep, lg, er, tm⟩ W dp de = de from by simp [-List.getD_eq_getElem?_getD, deF, lostE, g, g2])]; exact df4f B C hs hst g g2
theorem dlstep0_fn {s : LS} (B : FB T R W st) (C : LC T R s) : DLtp0 (mvB s W) T R s W st kd wd vl ch (lStep T R s W st) de (dLF s W none) (deL R s W de) := by
  obtain ⟨ph, seq, i, fd, told, er, tm⟩ := s
  have p1 : ph = 1 ∨ ph = 2 ∨ ph = 4 := C.p1
  rcases p1 with rfl | rfl | rfl
  · have em : mvB ⟨1, seq, i, fd, told, er, tm⟩ W = false := rfl
    rw [em, (show dLF ⟨1, seq, i, fd, told, er, tm⟩ W none = none from by simp [-List.getD_eq_getElem?_getD, dLF])]
    unfold lStep
    rw [if_pos rfl]
    by_cases g : W.getD 2 0 % 2 = 1
    · rw [if_pos g]
      unfold lFail
      by_cases g2 : fd + 1 = R
      · rw [if_pos g2, (show deL R ⟨1, seq, i, fd, told, er, tm⟩ W de = 17 from by simp [-List.getD_eq_getElem?_getD, deL, lostE, g, g2])]; exact dl1ln B C g g2
      · rw [if_neg g2, (show deL R ⟨1, seq, i, fd, told, er, tm⟩ W de = de from by simp [-List.getD_eq_getElem?_getD, deL, lostE, g, g2])]; exact dl1fn B C g g2
    · rw [if_neg g, (show deL R ⟨1, seq, i, fd, told, er, tm⟩ W de = de from by simp [-List.getD_eq_getElem?_getD, deL, g])]; exact dl1en B C g
  · rw [(show deL R ⟨2, seq, i, fd, told, er, tm⟩ W de = de from by simp [-List.getD_eq_getElem?_getD, deL])]
    unfold lStep
    rw [if_neg (by dsimp only; omega), if_pos rfl]
    rcases hK : isK (W.getD (fP i) 0) with _ | _
    · have em : mvB ⟨2, seq, i, fd, told, er, tm⟩ W = false := by unfold mvB; dsimp only; rw [hK]; rfl
      rw [em, (show dLF ⟨2, seq, i, fd, told, er, tm⟩ W none = none from by simp [-List.getD_eq_getElem?_getD, dLF, hK])]
      dsimp only
      simp only [if_false, Bool.false_eq_true]
      by_cases hi2 : i + 1 = T
      · simp only [if_pos hi2]; exact dl2ftn B C hK hi2
      · simp only [if_neg hi2]; exact dl2fnn B C hK hi2
    · have em : mvB ⟨2, seq, i, fd, told, er, tm⟩ W = true := by unfold mvB; dsimp only; rw [hK]; rfl
      rw [em, (show dLF ⟨2, seq, i, fd, told, er, tm⟩ W none = some [W.getD (fP i) 0 / 4] from by unfold dLF; rw [if_neg (show ¬ (2 : Nat) = 1 by decide), if_pos rfl, if_pos hK]; rfl)]
      dsimp only
      simp only [if_true]
      by_cases hi2 : i + 1 = T
      · simp only [if_pos hi2]; exact dl2ttn B C hK hi2
      · simp only [if_neg hi2]; exact dl2tnn B C hK hi2
  · have em : mvB ⟨4, seq, i, fd, told, er, tm⟩ W = false := rfl
    rw [em]
    unfold lStep
    rw [if_neg (by dsimp only; omega), if_neg (by dsimp only; omega)]
    by_cases g : W.getD 2 0 = seq
    · rw [if_pos g, (show dLF ⟨4, seq, i, fd, told, er, tm⟩ W none = none from by simp [-List.getD_eq_getElem?_getD, dLF, g]), (show deL R ⟨4, seq, i, fd, told, er, tm⟩ W de = de from by simp [-List.getD_eq_getElem?_getD, deL, g])]; exact dl4sn B C g
    · rw [if_neg g, (show dLF ⟨4, seq, i, fd, told, er, tm⟩ W none = none from by simp [-List.getD_eq_getElem?_getD, dLF, g])]
      unfold lFail
      by_cases g2 : fd + 1 = R
      · rw [if_pos g2, (show deL R ⟨4, seq, i, fd, told, er, tm⟩ W de = 17 from by simp [-List.getD_eq_getElem?_getD, deL, lostE, g, g2])]; exact dl4ln B C g g2
      · rw [if_neg g2, (show deL R ⟨4, seq, i, fd, told, er, tm⟩ W de = de from by simp [-List.getD_eq_getElem?_getD, deL, lostE, g, g2])]; exact dl4fn B C g g2
theorem dlstep1_fn {l : List Int} {s : LS} (B : FB T R W st) (C : LC T R s) (hll : s.ph = 2 → l.length ≤ s.i) : DLtp1 (mvB s W) l T R s W st kd wd vl ch (lStep T R s W st) de (dLF s W (some l)) (deL R s W de) := by
  obtain ⟨ph, seq, i, fd, told, er, tm⟩ := s
  have p1 : ph = 1 ∨ ph = 2 ∨ ph = 4 := C.p1
  rcases p1 with rfl | rfl | rfl
  · have em : mvB ⟨1, seq, i, fd, told, er, tm⟩ W = false := rfl
    rw [em, (show dLF ⟨1, seq, i, fd, told, er, tm⟩ W (some l) = none from by simp [-List.getD_eq_getElem?_getD, dLF])]
    unfold lStep
    rw [if_pos rfl]
    by_cases g : W.getD 2 0 % 2 = 1
    · rw [if_pos g]
      unfold lFail
      by_cases g2 : fd + 1 = R
      · rw [if_pos g2, (show deL R ⟨1, seq, i, fd, told, er, tm⟩ W de = 17 from by simp [-List.getD_eq_getElem?_getD, deL, lostE, g, g2])]; exact dl1ls B C g g2
      · rw [if_neg g2, (show deL R ⟨1, seq, i, fd, told, er, tm⟩ W de = de from by simp [-List.getD_eq_getElem?_getD, deL, lostE, g, g2])]; exact dl1fs B C g g2
    · rw [if_neg g, (show deL R ⟨1, seq, i, fd, told, er, tm⟩ W de = de from by simp [-List.getD_eq_getElem?_getD, deL, g])]; exact dl1es B C g
  · rw [(show deL R ⟨2, seq, i, fd, told, er, tm⟩ W de = de from by simp [-List.getD_eq_getElem?_getD, deL])]
    unfold lStep
    rw [if_neg (by dsimp only; omega), if_pos rfl]
    rcases hK : isK (W.getD (fP i) 0) with _ | _
    · have em : mvB ⟨2, seq, i, fd, told, er, tm⟩ W = false := by unfold mvB; dsimp only; rw [hK]; rfl
      rw [em, (show dLF ⟨2, seq, i, fd, told, er, tm⟩ W (some l) = (some l) from by simp [-List.getD_eq_getElem?_getD, dLF, hK])]
      dsimp only
      simp only [if_false, Bool.false_eq_true]
      by_cases hi2 : i + 1 = T
      · simp only [if_pos hi2]; exact dl2fts B C (hll rfl) hK hi2
      · simp only [if_neg hi2]; exact dl2fns B C (hll rfl) hK hi2
    · have em : mvB ⟨2, seq, i, fd, told, er, tm⟩ W = true := by unfold mvB; dsimp only; rw [hK]; rfl
      rw [em, (show dLF ⟨2, seq, i, fd, told, er, tm⟩ W (some l) = some (insD l (W.getD (fP i) 0 / 4)) from by unfold dLF; rw [if_neg (show ¬ (2 : Nat) = 1 by decide), if_pos rfl, if_pos hK]; rfl)]
      dsimp only
      simp only [if_true]
      by_cases hi2 : i + 1 = T
      · simp only [if_pos hi2]; exact dl2tts B C (hll rfl) hK hi2
      · simp only [if_neg hi2]; exact dl2tns B C (hll rfl) hK hi2
  · have em : mvB ⟨4, seq, i, fd, told, er, tm⟩ W = false := rfl
    rw [em]
    unfold lStep
    rw [if_neg (by dsimp only; omega), if_neg (by dsimp only; omega)]
    by_cases g : W.getD 2 0 = seq
    · rw [if_pos g, (show dLF ⟨4, seq, i, fd, told, er, tm⟩ W (some l) = (some l) from by simp [-List.getD_eq_getElem?_getD, dLF, g]), (show deL R ⟨4, seq, i, fd, told, er, tm⟩ W de = de from by simp [-List.getD_eq_getElem?_getD, deL, g])]; exact dl4ss B C g
    · rw [if_neg g, (show dLF ⟨4, seq, i, fd, told, er, tm⟩ W (some l) = none from by simp [-List.getD_eq_getElem?_getD, dLF, g])]
      unfold lFail
      by_cases g2 : fd + 1 = R
      · rw [if_pos g2, (show deL R ⟨4, seq, i, fd, told, er, tm⟩ W de = 17 from by simp [-List.getD_eq_getElem?_getD, deL, lostE, g, g2])]; exact dl4ls B C g g2
      · rw [if_neg g2, (show deL R ⟨4, seq, i, fd, told, er, tm⟩ W de = de from by simp [-List.getD_eq_getElem?_getD, deL, lostE, g, g2])]; exact dl4fs B C g g2
end
theorem ren_dfC {T R : Int} {s : FS} {dp de : Int} {σ : Nat → Nat} : (dfC T R s dp de).ren σ = dfC T R s dp de := rfl
theorem ren_dlC {T R : Int} {g : Nat} {s : LS} {dL : Option (List Int)} {de : Int} {σ : Nat → Nat} : (dlC T R g s dL de).ren σ = dlC T R (σ g) s dL de := by
  unfold dlC
  simp only [SO.ren, SV.rens, ren_slVe, SV.ren]
/-- A step of the document's run that finds, as a row. -/
def dfStS (T : Nat) (R : Int) (start : Nat) (s : FS) (r : FR) (dp de dp' de' : Int) : Hx.Spec := fun args H => match args with
  | [.ptr h 0, .ptr ha 0] => match getH H h, raP H ha with
    | some o, some (hw, ⟨W, st, _kd, _wd, _vl, _ch⟩, ob) => match nodupN [h, ha, hw] with
      | true => some ((o = dfC (T : Int) R s dp de) :: (FB T R W st ∧ FC T R s ∧ start < T ∧ startV (T : Int) 4 1 2 4 1 6 0 R s.key = (start : Int) ∧ (s.ph = 3 → dp = s.pl) ∧ (s.ph = 1 → s.pl = 0 ∧ s.ep = 0 ∧ s.lg = false) ∧ fStep T R start s W st = r ∧ dpF T start s W dp = dp' ∧ deF R s W dp de = de') :: ob, .bool (decide (r.s.ph = 0)),
          ((H.set h (.obj (dfC (T : Int) R r.s dp' de'))).set ha (ROx hw W (st + 1) 1 r.wd r.vl false)).set hw (WO W))
      | _ => none
    | _, _ => none
  | _ => none
theorem dfStS_ok {T : Nat} {R : Int} {start : Nat} {s : FS} {r : FR} {dp de dp' de' : Int} {args : List SV} {H : List HE} {ob : List Prop} {V : SV} {L : List HE} (hs : dfStS T R start s r dp de dp' de' args H = some (ob, V, L)) (ho : AllP ob) : Gives Tryz.prog 48 args H (Is V L) := by
  unfold dfStS at hs
  split at hs
  case h_2 => simp at hs
  rename_i _ h ha
  split at hs
  case h_2 => simp at hs
  rename_i _ _ o hw W st kd wd vl ch ob' hg hp
  split at hs
  case h_2 => simp at hs
  rename_i _ hnd
  simp only [Option.some.injEq, Prod.mk.injEq] at hs
  obtain ⟨rfl, rfl, rfl⟩ := hs
  have o1 := ho _ (List.mem_cons_self ..)
  obtain ⟨a1, a2, a3, a4, a5, a9, a6, a7, a8⟩ := ho _ (List.mem_cons_of_mem _ (List.mem_cons_self ..))
  obtain ⟨g1, g2, _⟩ := raP_get hp (fun q hq => ho q (List.mem_cons_of_mem _ (List.mem_cons_of_mem _ hq)))
  subst o1
  have key := dfstep_fn (kd := kd) (wd := wd) (vl := vl) (ch := ch) (de := de) a1 a2 a3 a4 a5 a9
  rw [a6, a7, a8] at key
  exact frame3n (H := H) (h0 := h) (h1 := ha) (h2 := hw) (ags := [.ptr h 0, .ptr ha 0]) ⟨_, hTE⟩ key rfl rfl rfl hnd hg g1 g2 rfl rfl rfl rfl
/-- .. of the one that lists; g: where the list lies. -/
def dlStS (mv : Bool) (g : Nat) (T : Nat) (R : Int) (s : LS) (r : LR) (dL : Option (List Int)) (de : Int) (dL' : Option (List Int)) (de' : Int) : Hx.Spec := fun args H => match args with
  | [.ptr h 0, .ptr ha 0] => match dL with
    | none => match getH H h, raP H ha, nums[H.length]? with
      | some o, some (hw, ⟨W, st, _kd, _wd, _vl, _ch⟩, ob), some n => match nodupN [h, ha, hw] with
        | true => some ((o = dlC (T : Int) R g s none de) :: (FB T R W st ∧ LC T R s ∧ lStep T R s W st = r ∧ mvB s W = mv ∧ dLF s W none = dL' ∧ deL R s W de = de') :: ob, .bool (decide (r.s.ph = 0)),
            (((H.set h (.obj (dlC (T : Int) R n r.s dL' de'))).set ha (ROx hw W (st + 1) 1 r.wd r.vl false)).set hw (WO W)) ++ mvL mv dL')
        | _ => none
      | _, _, _ => none
    | some l => match getH H h, raP H ha, getH H g, nums[H.length]? with
      | some o, some (hw, ⟨W, st, _kd, _wd, _vl, _ch⟩, ob), some o2, some n => match nodupN [h, ha, hw, g] with
        | true => some ((o = dlC (T : Int) R g s (some l) de) :: (FB T R W st ∧ LC T R s ∧ lStep T R s W st = r ∧ mvB s W = mv ∧ (s.ph = 2 → l.length ≤ s.i) ∧ dLF s W (some l) = dL' ∧ deL R s W de = de') :: (o2 = .buf .i64 l 1 3) :: ob, .bool (decide (r.s.ph = 0)),
            ((((H.set h (.obj (dlC (T : Int) R (bif mv then n else g) r.s dL' de'))).set ha (ROx hw W (st + 1) 1 r.wd r.vl false)).set hw (WO W)).set g (kpE mv dL')) ++ mvL mv dL')
        | _ => none
      | _, _, _, _ => none
  | _ => none
set_option maxHeartbeats 1000000 in
theorem dlStS_ok {mv : Bool} {g T : Nat} {R : Int} {s : LS} {r : LR} {dL dL' : Option (List Int)} {de de' : Int} {args : List SV} {H : List HE} {ob : List Prop} {V : SV} {L : List HE} (hs : dlStS mv g T R s r dL de dL' de' args H = some (ob, V, L)) (ho : AllP ob) : Gives Tryz.prog 46 args H (Is V L) := by
  unfold dlStS at hs
  split at hs
  case h_2 => simp at hs
  rename_i _ h ha
  split at hs
  · split at hs
    case h_2 => simp at hs
    rename_i _ _ _ o hw W st kd wd vl ch ob' n hg hp t0
    split at hs
    case h_2 => simp at hs
    rename_i _ hnd
    have t0' := nums_get _ _ t0
    subst t0'
    simp only [Option.some.injEq, Prod.mk.injEq] at hs
    obtain ⟨rfl, rfl, rfl⟩ := hs
    have o1 := ho _ (List.mem_cons_self ..)
    obtain ⟨a1, a2, a3, a4, a5, a6⟩ := ho _ (List.mem_cons_of_mem _ (List.mem_cons_self ..))
    obtain ⟨g1, g2, _⟩ := raP_get hp (fun q hq => ho q (List.mem_cons_of_mem _ (List.mem_cons_of_mem _ hq)))
    subst o1
    have key := dlstep0_fn (kd := kd) (wd := wd) (vl := vl) (ch := ch) (de := de) a1 a2
    rw [a3, a4, a5, a6] at key
    have fr := gives_frame (H := H) ⟨_, hTE⟩ key [h, ha, hw] (show [SV.ptr h 0, SV.ptr ha 0] = SV.rens (nm [h, ha, hw] H) [.ptr 0 0, .ptr 1 0] from rfl) rfl rfl rfl rfl hnd ⟨hg, g1, g2, trivial⟩ (by
        show newOk (mvL mv dL') = true
        exact new_mvL)
    have e3 : (dlC (T : Int) R 3 r.s dL' de').ren (nm [h, ha, hw] H) = dlC (T : Int) R H.length r.s dL' de' := by rw [ren_dlC]; rfl
    simp only [merge, setAll, List.length_cons, List.length_nil, List.drop_succ_cons, List.drop_zero, ren_obj, e3, ren_mvL] at fr
    exact fr
  · rename_i l
    split at hs
    case h_2 => simp at hs
    rename_i _ _ _ _ o hw W st kd wd vl ch ob' o2 n hg hp hg2 t0
    split at hs
    case h_2 => simp at hs
    rename_i _ hnd
    have t0' := nums_get _ _ t0
    subst t0'
    simp only [Option.some.injEq, Prod.mk.injEq] at hs
    obtain ⟨rfl, rfl, rfl⟩ := hs
    have o1 := ho _ (List.mem_cons_self ..)
    obtain ⟨a1, a2, a3, a4, a5, a6, a7⟩ := ho _ (List.mem_cons_of_mem _ (List.mem_cons_self ..))
    have o3 := ho _ (List.mem_cons_of_mem _ (List.mem_cons_of_mem _ (List.mem_cons_self ..)))
    obtain ⟨g1, g2, _⟩ := raP_get hp (fun q hq => ho q (List.mem_cons_of_mem _ (List.mem_cons_of_mem _ (List.mem_cons_of_mem _ hq))))
    subst o1; subst o3
    have key := dlstep1_fn (kd := kd) (wd := wd) (vl := vl) (ch := ch) (de := de) a1 a2 a5
    rw [a3, a4, a6, a7] at key
    have fr := gives_frame (H := H) ⟨_, hTE⟩ key [h, ha, hw, g] (show [SV.ptr h 0, SV.ptr ha 0] = SV.rens (nm [h, ha, hw, g] H) [.ptr 0 0, .ptr 1 0] from rfl) rfl rfl rfl rfl hnd ⟨by rw [ren_dlC]; exact hg, g1, g2, hg2, trivial⟩ (by
        show newOk (mvL mv dL') = true
        exact new_mvL)
    have e3 : (dlC (T : Int) R (bif mv then 4 else 3) r.s dL' de').ren (nm [h, ha, hw, g] H) = dlC (T : Int) R (bif mv then H.length else g) r.s dL' de' := by rw [ren_dlC]; cases mv <;> rfl
    simp only [merge, setAll, List.length_cons, List.length_nil, List.drop_succ_cons, List.drop_zero, ren_obj, ren_kpE, e3, ren_mvL] at fr
    exact fr
end Go.Proofs.YtkkddjchkkaagaaGreatDoor
