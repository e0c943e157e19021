/- HeadsList: lists are told as the document tells them. -/
import Derived.Test.YtfdkaakllceebaaDoorFreeTab
import Derived.Test.YtfdkaakllceebaaDoorOnceWalk
namespace Go.Proofs.YtfdkaakllceebaaDoor
open Go Go.Hx
set_option maxRecDepth 8000
def ctLi (r : HR) : Nat → Option Hx.Spec
  | 11 => some (lsS r)
  | 43 => some (rlS r)
  | 26 => some (smS)
  | 62 => some (wordS)
  | 12 => some (topS)
  | _ => none
theorem ctLi_ok (r : HR) : ∀ f s args H ob V L, ctLi r f = some s → s args H = some (ob, V, L) → AllP ob → Gives Tryd.prog f args H (Is V L) := by
  intro f s args H ob V L h hs ho
  unfold ctLi at h
  split at h
  · simp at h; subst h; exact lsS_ok hs ho
  · simp at h; subst h; exact rlS_ok hs ho
  · simp at h; subst h; exact smS_ok hs ho
  · simp at h; subst h; exact wordS_ok hs ho
  · simp at h; subst h; exact topS_ok hs ho
  · simp at h
noncomputable def XLi (r : HR) : Tabs := tabs tr ft xt (fun _ => none) (ctLi r) 0
theorem hXLi (r : HR) : TOk Tryd.prog (XLi r) := ⟨hTE, hFT, (ctLi_ok r), hXT, fun t ks h => by simp [XLi, tabs] at h, mixed⟩
def ctFe (r : HR) : Nat → Option Hx.Spec
  | 21 => some (frS r)
  | 42 => some (rfS r)
  | 26 => some (smS)
  | 62 => some (wordS)
  | 12 => some (topS)
  | _ => none
theorem ctFe_ok (r : HR) : ∀ f s args H ob V L, ctFe r f = some s → s args H = some (ob, V, L) → AllP ob → Gives Tryd.prog f args H (Is V L) := by
  intro f s args H ob V L h hs ho
  unfold ctFe at h
  split at h
  · simp at h; subst h; exact frS_ok hs ho
  · simp at h; subst h; exact rfS_ok hs ho
  · simp at h; subst h; exact smS_ok hs ho
  · simp at h; subst h; exact wordS_ok hs ho
  · simp at h; subst h; exact topS_ok hs ho
  · simp at h
noncomputable def XFe (r : HR) : Tabs := tabs tr ft xt (fun _ => none) (ctFe r) 0
theorem hXFe (r : HR) : TOk Tryd.prog (XFe r) := ⟨hTE, hFT, (ctFe_ok r), hXT, fun t ks h => by simp [XFe, tabs] at h, mixed⟩
theorem frR_len {r0 r1 : HR} {l : List Int} (h0 : ∀ m, r0 = .ok (some m) → m.length ≤ 12) (h1 : ∀ m, r1 = .ok (some m) → m.length ≤ 12) (h : frR r0 r1 = .ok (some l)) : l.length < 1000000 := by
  rcases r0 with (_ | l0) | _ | _ <;> rcases r1 with (_ | l1) | _ | _ <;> simp only [frR, HR.ok.injEq, Option.some.injEq, reduceCtorEq] at h
  · subst h; have := h1 _ rfl; rw [srt_len]; omega
  · subst h; have := h0 _ rfl; rw [srt_len]; omega
  · subst h; have := h0 _ rfl; have := h1 _ rfl; rw [srt_len, List.length_append]; omega
def fEx (a0 a1 a2 a3 a4 a5 a6 a7 a8 : Int) (n m : Nat) (W : List Int) : Prop := ∃ r, fOb a0 a1 a2 a3 a4 a5 a6 a7 a8 r n m W
def fEb (a0 a1 a2 a3 a4 a5 a6 a7 a8 : Int) (n : Nat) (W : List Int) : Prop := ∃ e, hsR a0 a1 a2 a3 a4 a5 a6 a7 a8 0 n W = .code e
variable {a0 a1 a2 a3 a4 a5 a6 a7 a8 c : Int} {W : List Int}

set_option maxHeartbeats 8000000 in
theorem lists_a {m k : Nat} (ho : lsOb (hsR a0 a1 a2 a3 a4 a5 a6 a7 a8 c m W) m k W) : Gives Tryd.prog 25 [C9 a0 a1 a2 a3 a4 a5 a6 a7 a8, .slice 0 0 m k, .int .i64 c] [.obj (.ints .u64 W 43), pinE RTV] (Is .tt [.obj (.ints .u64 W 43), pinE RTV]) := by
  generalize hR : hsR a0 a1 a2 a3 a4 a5 a6 a7 a8 c m W = r at ho
  have hX := hXLi r
  refine gives_x hX (fn := Tryd.f25) rfl rfl rfl rfl fun ρ w => ?_
  rcases r with (_ | l) | ⟨e, p⟩ | e
  · refine sx hX [] 4000 rfl (by (simp [-List.getD_eq_getElem?_getD, -List.length_eq_zero_iff, conjP, hR, ho] <;> (first | omega | ((repeat' (refine And.intro ?_ ?_)) <;> (first | omega | exact decide_eq_false (by omega) | exact decide_eq_true (by omega)))))) ?_
    refine sx hX [.K, .K, .T, .K, .K, .T] 4000 rfl (by (simp [-List.getD_eq_getElem?_getD, -List.length_eq_zero_iff, conjP, getH, HE.so] <;> (first | omega | ((repeat' (refine And.intro ?_ ?_)) <;> (first | omega | exact decide_eq_false (by omega) | exact decide_eq_true (by omega)))))) ?_
    (refine ss_end hX [0, 1] rfl rfl trivial rfl rfl rfl rfl ?vv ?hh (by (repeat' (first | exact rfl | exact trivial | exact sim_refl _ | refine And.intro ?_ ?_))) (by (repeat' (first | exact rfl | exact trivial | exact sim_refl _ | refine And.intro ?_ ?_))); (case vv => first | ((repeat' (first | exact rfl | exact trivial | exact sim_refl _ | refine And.intro ?_ ?_)); done) | (simp [tupF, SV.ren, sim, simO0]; done)); (case hh => (repeat' (first | exact rfl | exact trivial | exact sim_refl _ | refine And.intro ?_ ?_)); done))
  · obtain ⟨q1, _⟩ := hs_len hR rfl
    have hl := ok_len hR q1
    have hl2 : l.length < 1000000 := by omega
    refine sx hX [] 4000 rfl (by (simp [-List.getD_eq_getElem?_getD, -List.length_eq_zero_iff, conjP, hR, ho, hl2] <;> (first | omega | ((repeat' (refine And.intro ?_ ?_)) <;> (first | omega | exact decide_eq_false (by omega) | exact decide_eq_true (by omega)))))) ?_
    refine sx hX [.K, .T, .K, .K, .T, .K, .K, .T] 4000 rfl (by (simp [-List.getD_eq_getElem?_getD, -List.length_eq_zero_iff, conjP, getH, HE.so] <;> (first | omega | ((repeat' (refine And.intro ?_ ?_)) <;> (first | omega | exact decide_eq_false (by omega) | exact decide_eq_true (by omega)))))) ?_
    (refine ss_end hX [0, 1] rfl rfl trivial rfl rfl rfl rfl ?vv ?hh (by (repeat' (first | exact rfl | exact trivial | exact sim_refl _ | refine And.intro ?_ ?_))) (by (repeat' (first | exact rfl | exact trivial | exact sim_refl _ | refine And.intro ?_ ?_))); (case vv => first | ((repeat' (first | exact rfl | exact trivial | exact sim_refl _ | refine And.intro ?_ ?_)); done) | (simp [tupF, SV.ren, sim, simO0]; done)); (case hh => (repeat' (first | exact rfl | exact trivial | exact sim_refl _ | refine And.intro ?_ ?_)); done))
  · have he := hs_bad hR
    refine sx hX [] 4000 rfl (by (simp [-List.getD_eq_getElem?_getD, -List.length_eq_zero_iff, conjP, hR, ho] <;> (first | omega | ((repeat' (refine And.intro ?_ ?_)) <;> (first | omega | exact decide_eq_false (by omega) | exact decide_eq_true (by omega)))))) ?_
    refine sx hX [.K, .K, .T, .K, .K, .T] 4000 rfl (by (simp [-List.getD_eq_getElem?_getD, -List.length_eq_zero_iff, conjP, getH, HE.so] <;> (first | omega | ((repeat' (refine And.intro ?_ ?_)) <;> (first | omega | exact decide_eq_false (by omega) | exact decide_eq_true (by omega)))))) ?_
    (refine ss_end hX [0, 1] rfl rfl trivial rfl rfl rfl rfl ?vv ?hh (by (repeat' (first | exact rfl | exact trivial | exact sim_refl _ | refine And.intro ?_ ?_))) (by (repeat' (first | exact rfl | exact trivial | exact sim_refl _ | refine And.intro ?_ ?_))); (case vv => first | ((repeat' (first | exact rfl | exact trivial | exact sim_refl _ | refine And.intro ?_ ?_)); done) | (simp [tupF, SV.ren, sim, simO0]; done)); (case hh => (repeat' (first | exact rfl | exact trivial | exact sim_refl _ | refine And.intro ?_ ?_)); done))
  · refine sx hX [] 4000 rfl (by (simp [-List.getD_eq_getElem?_getD, -List.length_eq_zero_iff, conjP, hR, ho] <;> (first | omega | ((repeat' (refine And.intro ?_ ?_)) <;> (first | omega | exact decide_eq_false (by omega) | exact decide_eq_true (by omega)))))) ?_
    refine sx hX [.K, .K, .T, .K, .K, .T] 4000 rfl (by (simp [-List.getD_eq_getElem?_getD, -List.length_eq_zero_iff, conjP, getH, HE.so] <;> (first | omega | ((repeat' (refine And.intro ?_ ?_)) <;> (first | omega | exact decide_eq_false (by omega) | exact decide_eq_true (by omega)))))) ?_
    (refine ss_end hX [0, 1] rfl rfl trivial rfl rfl rfl rfl ?vv ?hh (by (repeat' (first | exact rfl | exact trivial | exact sim_refl _ | refine And.intro ?_ ?_))) (by (repeat' (first | exact rfl | exact trivial | exact sim_refl _ | refine And.intro ?_ ?_))); (case vv => first | ((repeat' (first | exact rfl | exact trivial | exact sim_refl _ | refine And.intro ?_ ?_)); done) | (simp [tupF, SV.ren, sim, simO0]; done)); (case hh => (repeat' (first | exact rfl | exact trivial | exact sim_refl _ | refine And.intro ?_ ?_)); done))

set_option maxHeartbeats 8000000 in
theorem lists_b {m : Nat} (ho : isCode (hsR a0 a1 a2 a3 a4 a5 a6 a7 a8 c m W) = true) : Gives Tryd.prog 25 [C9 a0 a1 a2 a3 a4 a5 a6 a7 a8, .sbuf 0 1 0 m, .int .i64 c] [.obj (.buf .u64 W 1 43), pinE RTV] (Is .tt [.obj (.buf .u64 W 1 43), pinE RTV]) := by
  generalize hR : hsR a0 a1 a2 a3 a4 a5 a6 a7 a8 c m W = r at ho
  have hX := hXLi r
  refine gives_x hX (fn := Tryd.f25) rfl rfl rfl rfl fun ρ w => ?_
  rcases r with (_ | l) | ⟨e, p⟩ | e
  · simp [isCode] at ho
  · simp [isCode] at ho
  · simp [isCode] at ho
  · refine sx hX [] 4000 rfl (by (simp [-List.getD_eq_getElem?_getD, -List.length_eq_zero_iff, conjP, hR, ho] <;> (first | omega | ((repeat' (refine And.intro ?_ ?_)) <;> (first | omega | exact decide_eq_false (by omega) | exact decide_eq_true (by omega)))))) ?_
    refine sx hX [.K, .K, .T, .K, .K, .T] 4000 rfl (by (simp [-List.getD_eq_getElem?_getD, -List.length_eq_zero_iff, conjP, getH, HE.so] <;> (first | omega | ((repeat' (refine And.intro ?_ ?_)) <;> (first | omega | exact decide_eq_false (by omega) | exact decide_eq_true (by omega)))))) ?_
    (refine ss_end hX [0, 1] rfl rfl trivial rfl rfl rfl rfl ?vv ?hh (by (repeat' (first | exact rfl | exact trivial | exact sim_refl _ | refine And.intro ?_ ?_))) (by (repeat' (first | exact rfl | exact trivial | exact sim_refl _ | refine And.intro ?_ ?_))); (case vv => first | ((repeat' (first | exact rfl | exact trivial | exact sim_refl _ | refine And.intro ?_ ?_)); done) | (simp [tupF, SV.ren, sim, simO0]; done)); (case hh => (repeat' (first | exact rfl | exact trivial | exact sim_refl _ | refine And.intro ?_ ?_)); done))

set_option maxHeartbeats 8000000 in
theorem free_a {m k : Nat} {r : HR} (ho : fOb a0 a1 a2 a3 a4 a5 a6 a7 a8 r m k W) : Gives Tryd.prog 24 [C9 a0 a1 a2 a3 a4 a5 a6 a7 a8, .slice 0 0 m k] [.obj (.ints .u64 W 43), pinE RTV] (Is .tt [.obj (.ints .u64 W 43), pinE RTV]) := by
  have hX := hXFe r
  have hlen : ∀ l, r = .ok (some l) → l.length < 1000000 := by
    intro l hl
    subst hl
    rcases ho with ⟨q1, _, _, _, _, _, q⟩ | ⟨e, _, q⟩
    · exact frR_len (fun m hm => (ok_len hm q1).2.1) (fun m hm => (ok_len hm q1).2.1) q
    · simp at q
  refine gives_x hX (fn := Tryd.f24) rfl rfl rfl rfl fun ρ w => ?_
  rcases r with (_ | l) | ⟨e, p⟩ | e
  · refine sx hX [] 4000 rfl (by (simp [-List.getD_eq_getElem?_getD, -List.length_eq_zero_iff, conjP, ho] <;> (first | omega | ((repeat' (refine And.intro ?_ ?_)) <;> (first | omega | exact decide_eq_false (by omega) | exact decide_eq_true (by omega)))))) ?_
    refine sx hX [.K, .K, .T, .K, .K, .T] 4000 rfl (by (simp [-List.getD_eq_getElem?_getD, -List.length_eq_zero_iff, conjP, getH, HE.so] <;> (first | omega | ((repeat' (refine And.intro ?_ ?_)) <;> (first | omega | exact decide_eq_false (by omega) | exact decide_eq_true (by omega)))))) ?_
    (refine ss_end hX [0, 1] rfl rfl trivial rfl rfl rfl rfl ?vv ?hh (by (repeat' (first | exact rfl | exact trivial | exact sim_refl _ | refine And.intro ?_ ?_))) (by (repeat' (first | exact rfl | exact trivial | exact sim_refl _ | refine And.intro ?_ ?_))); (case vv => first | ((repeat' (first | exact rfl | exact trivial | exact sim_refl _ | refine And.intro ?_ ?_)); done) | (simp [tupF, SV.ren, sim, simO0]; done)); (case hh => (repeat' (first | exact rfl | exact trivial | exact sim_refl _ | refine And.intro ?_ ?_)); done))
  · have hl2 := hlen l rfl
    refine sx hX [] 4000 rfl (by (simp [-List.getD_eq_getElem?_getD, -List.length_eq_zero_iff, conjP, ho, hl2] <;> (first | omega | ((repeat' (refine And.intro ?_ ?_)) <;> (first | omega | exact decide_eq_false (by omega) | exact decide_eq_true (by omega)))))) ?_
    refine sx hX [.K, .T, .K, .K, .T, .K, .K, .T] 4000 rfl (by (simp [-List.getD_eq_getElem?_getD, -List.length_eq_zero_iff, conjP, getH, HE.so] <;> (first | omega | ((repeat' (refine And.intro ?_ ?_)) <;> (first | omega | exact decide_eq_false (by omega) | exact decide_eq_true (by omega)))))) ?_
    (refine ss_end hX [0, 1] rfl rfl trivial rfl rfl rfl rfl ?vv ?hh (by (repeat' (first | exact rfl | exact trivial | exact sim_refl _ | refine And.intro ?_ ?_))) (by (repeat' (first | exact rfl | exact trivial | exact sim_refl _ | refine And.intro ?_ ?_))); (case vv => first | ((repeat' (first | exact rfl | exact trivial | exact sim_refl _ | refine And.intro ?_ ?_)); done) | (simp [tupF, SV.ren, sim, simO0]; done)); (case hh => (repeat' (first | exact rfl | exact trivial | exact sim_refl _ | refine And.intro ?_ ?_)); done))
  · refine sx hX [] 4000 rfl (by (simp [-List.getD_eq_getElem?_getD, -List.length_eq_zero_iff, conjP, ho] <;> (first | omega | ((repeat' (refine And.intro ?_ ?_)) <;> (first | omega | exact decide_eq_false (by omega) | exact decide_eq_true (by omega)))))) ?_
    refine sx hX [.K, .K, .T, .K, .K, .T] 4000 rfl (by (simp [-List.getD_eq_getElem?_getD, -List.length_eq_zero_iff, conjP, getH, HE.so] <;> (first | omega | ((repeat' (refine And.intro ?_ ?_)) <;> (first | omega | exact decide_eq_false (by omega) | exact decide_eq_true (by omega)))))) ?_
    (refine ss_end hX [0, 1] rfl rfl trivial rfl rfl rfl rfl ?vv ?hh (by (repeat' (first | exact rfl | exact trivial | exact sim_refl _ | refine And.intro ?_ ?_))) (by (repeat' (first | exact rfl | exact trivial | exact sim_refl _ | refine And.intro ?_ ?_))); (case vv => first | ((repeat' (first | exact rfl | exact trivial | exact sim_refl _ | refine And.intro ?_ ?_)); done) | (simp [tupF, SV.ren, sim, simO0]; done)); (case hh => (repeat' (first | exact rfl | exact trivial | exact sim_refl _ | refine And.intro ?_ ?_)); done))
  · refine sx hX [] 4000 rfl (by (simp [-List.getD_eq_getElem?_getD, -List.length_eq_zero_iff, conjP, ho] <;> (first | omega | ((repeat' (refine And.intro ?_ ?_)) <;> (first | omega | exact decide_eq_false (by omega) | exact decide_eq_true (by omega)))))) ?_
    refine sx hX [.K, .K, .T, .K, .K, .T] 4000 rfl (by (simp [-List.getD_eq_getElem?_getD, -List.length_eq_zero_iff, conjP, getH, HE.so] <;> (first | omega | ((repeat' (refine And.intro ?_ ?_)) <;> (first | omega | exact decide_eq_false (by omega) | exact decide_eq_true (by omega)))))) ?_
    (refine ss_end hX [0, 1] rfl rfl trivial rfl rfl rfl rfl ?vv ?hh (by (repeat' (first | exact rfl | exact trivial | exact sim_refl _ | refine And.intro ?_ ?_))) (by (repeat' (first | exact rfl | exact trivial | exact sim_refl _ | refine And.intro ?_ ?_))); (case vv => first | ((repeat' (first | exact rfl | exact trivial | exact sim_refl _ | refine And.intro ?_ ?_)); done) | (simp [tupF, SV.ren, sim, simO0]; done)); (case hh => (repeat' (first | exact rfl | exact trivial | exact sim_refl _ | refine And.intro ?_ ?_)); done))

set_option maxHeartbeats 8000000 in
theorem free_b {m : Nat} {r : HR} (ho : ∃ e, hsR a0 a1 a2 a3 a4 a5 a6 a7 a8 0 m W = .code e ∧ r = .code e) : Gives Tryd.prog 24 [C9 a0 a1 a2 a3 a4 a5 a6 a7 a8, .sbuf 0 1 0 m] [.obj (.buf .u64 W 1 43), pinE RTV] (Is .tt [.obj (.buf .u64 W 1 43), pinE RTV]) := by
  have hX := hXFe r
  have hlen : ∀ l, r = .ok (some l) → l.length < 1000000 := by
    intro l hl
    subst hl
    obtain ⟨e, _, q⟩ := ho
    simp at q
  refine gives_x hX (fn := Tryd.f24) rfl rfl rfl rfl fun ρ w => ?_
  rcases r with (_ | l) | ⟨e, p⟩ | e
  · obtain ⟨_, _, q⟩ := ho
    simp at q
  · obtain ⟨_, _, q⟩ := ho
    simp at q
  · obtain ⟨_, _, q⟩ := ho
    simp at q
  · obtain ⟨e', h0, q⟩ := ho
    simp only [HR.code.injEq] at q
    subst q
    refine sx hX [] 4000 rfl (by (simp [-List.getD_eq_getElem?_getD, -List.length_eq_zero_iff, conjP, h0] <;> (first | omega | ((repeat' (refine And.intro ?_ ?_)) <;> (first | omega | exact decide_eq_false (by omega) | exact decide_eq_true (by omega)))))) ?_
    refine sx hX [.K, .K, .T, .K, .K, .T] 4000 rfl (by (simp [-List.getD_eq_getElem?_getD, -List.length_eq_zero_iff, conjP, getH, HE.so] <;> (first | omega | ((repeat' (refine And.intro ?_ ?_)) <;> (first | omega | exact decide_eq_false (by omega) | exact decide_eq_true (by omega)))))) ?_
    (refine ss_end hX [0, 1] rfl rfl trivial rfl rfl rfl rfl ?vv ?hh (by (repeat' (first | exact rfl | exact trivial | exact sim_refl _ | refine And.intro ?_ ?_))) (by (repeat' (first | exact rfl | exact trivial | exact sim_refl _ | refine And.intro ?_ ?_))); (case vv => first | ((repeat' (first | exact rfl | exact trivial | exact sim_refl _ | refine And.intro ?_ ?_)); done) | (simp [tupF, SV.ren, sim, simO0]; done)); (case hh => (repeat' (first | exact rfl | exact trivial | exact sim_refl _ | refine And.intro ?_ ?_)); done))

def listsS : Hx.Spec := fun args H => match args with
  | [.agg [.int .i64 a0, .int .i64 a1, .int .i64 a2, .int .i64 a3, .int .i64 a4, .int .i64 a5, .int .i64 a6, .int .i64 a7, .int .i64 a8], .slice h 0 n m, .int .i64 c] => match getH H h, findP 0 H with
    | some (.ints .u64 W 43), some (_, v) => some ([lsOb (hsR a0 a1 a2 a3 a4 a5 a6 a7 a8 c n W) n m W, v = RTV], .tt, H)
    | _, _ => none
  | [.agg [.int .i64 a0, .int .i64 a1, .int .i64 a2, .int .i64 a3, .int .i64 a4, .int .i64 a5, .int .i64 a6, .int .i64 a7, .int .i64 a8], .sbuf h 1 0 n, .int .i64 c] => match getH H h, findP 0 H with
    | some (.buf .u64 W 1 43), some (_, v) => some ([isCode (hsR a0 a1 a2 a3 a4 a5 a6 a7 a8 c n W) = true, v = RTV], .tt, H)
    | _, _ => none
  | _ => none
theorem listsS_ok {args : List SV} {H : List HE} {ob : List Prop} {V : SV} {L : List HE} (hs : listsS args H = some (ob, V, L)) (ho : AllP ob) : Gives Tryd.prog 25 args H (Is V L) := by
  unfold listsS at hs
  split at hs
  · rename_i _ a0 a1 a2 a3 a4 a5 a6 a7 a8 h n m c
    split at hs
    case h_2 => simp at hs
    rename_i _ _ W g v hg hp
    simp only [Option.some.injEq, Prod.mk.injEq] at hs
    obtain ⟨rfl, rfl, rfl⟩ := hs
    have o1 := ho _ (List.mem_cons_self ..)
    have hv := ho _ (List.mem_cons_of_mem _ (List.mem_cons_self ..))
    obtain ⟨k, hk, hk2⟩ := findP_get hp
    have hk' : g = k := by omega
    subst hk'
    rw [hv] at hk2
    have hqg : h ≠ g := by
      rintro rfl
      rw [getH_some.1 hg] at hk2
      simp at hk2
    have hnd : nodupN [h, g] = true := by
      have hb : Nat.beq h g = false := by
        cases hb : Nat.beq h g with
        | false => rfl
        | true => exact absurd (Nat.eq_of_beq_eq_true hb) hqg
      simp [nodupN, memN, hb]
    have : Gives Tryd.prog 25 [C9 a0 a1 a2 a3 a4 a5 a6 a7 a8, .slice h 0 n m, .int .i64 c] H (Is .tt ((H.set h (.obj (.ints .u64 W 43))).set g (pinE RTV))) := frame2n (H := H) (h0 := h) (h1 := g) ⟨_, hTE⟩ (lists_a o1) rfl rfl rfl hnd hg (getH_some.2 hk2) rfl rfl rfl
    rw [set_get (g := h) (getH_some.1 hg), set_get hk2] at this
    exact this
  · rename_i _ a0 a1 a2 a3 a4 a5 a6 a7 a8 h n c
    split at hs
    case h_2 => simp at hs
    rename_i _ _ W g v hg hp
    simp only [Option.some.injEq, Prod.mk.injEq] at hs
    obtain ⟨rfl, rfl, rfl⟩ := hs
    have o1 := ho _ (List.mem_cons_self ..)
    have hv := ho _ (List.mem_cons_of_mem _ (List.mem_cons_self ..))
    obtain ⟨k, hk, hk2⟩ := findP_get hp
    have hk' : g = k := by omega
    subst hk'
    rw [hv] at hk2
    have hqg : h ≠ g := by
      rintro rfl
      rw [getH_some.1 hg] at hk2
      simp at hk2
    have hnd : nodupN [h, g] = true := by
      have hb : Nat.beq h g = false := by
        cases hb : Nat.beq h g with
        | false => rfl
        | true => exact absurd (Nat.eq_of_beq_eq_true hb) hqg
      simp [nodupN, memN, hb]
    have : Gives Tryd.prog 25 [C9 a0 a1 a2 a3 a4 a5 a6 a7 a8, .sbuf h 1 0 n, .int .i64 c] H (Is .tt ((H.set h (.obj (.buf .u64 W 1 43))).set g (pinE RTV))) := frame2n (H := H) (h0 := h) (h1 := g) ⟨_, hTE⟩ (lists_b o1) rfl rfl rfl hnd hg (getH_some.2 hk2) rfl rfl rfl
    rw [set_get (g := h) (getH_some.1 hg), set_get hk2] at this
    exact this
  · simp at hs

def freeS : Hx.Spec := fun args H => match args with
  | [.agg [.int .i64 a0, .int .i64 a1, .int .i64 a2, .int .i64 a3, .int .i64 a4, .int .i64 a5, .int .i64 a6, .int .i64 a7, .int .i64 a8], .slice h 0 n m] => match getH H h, findP 0 H with
    | some (.ints .u64 W 43), some (_, v) => some ([fEx a0 a1 a2 a3 a4 a5 a6 a7 a8 n m W, v = RTV], .tt, H)
    | _, _ => none
  | [.agg [.int .i64 a0, .int .i64 a1, .int .i64 a2, .int .i64 a3, .int .i64 a4, .int .i64 a5, .int .i64 a6, .int .i64 a7, .int .i64 a8], .sbuf h 1 0 n] => match getH H h, findP 0 H with
    | some (.buf .u64 W 1 43), some (_, v) => some ([fEb a0 a1 a2 a3 a4 a5 a6 a7 a8 n W, v = RTV], .tt, H)
    | _, _ => none
  | _ => none
theorem freeS_ok {args : List SV} {H : List HE} {ob : List Prop} {V : SV} {L : List HE} (hs : freeS args H = some (ob, V, L)) (ho : AllP ob) : Gives Tryd.prog 24 args H (Is V L) := by
  unfold freeS at hs
  split at hs
  · rename_i _ a0 a1 a2 a3 a4 a5 a6 a7 a8 h n m 
    split at hs
    case h_2 => simp at hs
    rename_i _ _ W g v hg hp
    simp only [Option.some.injEq, Prod.mk.injEq] at hs
    obtain ⟨rfl, rfl, rfl⟩ := hs
    have o1 := ho _ (List.mem_cons_self ..)
    have hv := ho _ (List.mem_cons_of_mem _ (List.mem_cons_self ..))
    obtain ⟨k, hk, hk2⟩ := findP_get hp
    have hk' : g = k := by omega
    subst hk'
    rw [hv] at hk2
    have hqg : h ≠ g := by
      rintro rfl
      rw [getH_some.1 hg] at hk2
      simp at hk2
    have hnd : nodupN [h, g] = true := by
      have hb : Nat.beq h g = false := by
        cases hb : Nat.beq h g with
        | false => rfl
        | true => exact absurd (Nat.eq_of_beq_eq_true hb) hqg
      simp [nodupN, memN, hb]
    have : Gives Tryd.prog 24 [C9 a0 a1 a2 a3 a4 a5 a6 a7 a8, .slice h 0 n m] H (Is .tt ((H.set h (.obj (.ints .u64 W 43))).set g (pinE RTV))) := frame2n (H := H) (h0 := h) (h1 := g) ⟨_, hTE⟩ (free_a o1.choose_spec) rfl rfl rfl hnd hg (getH_some.2 hk2) rfl rfl rfl
    rw [set_get (g := h) (getH_some.1 hg), set_get hk2] at this
    exact this
  · rename_i _ a0 a1 a2 a3 a4 a5 a6 a7 a8 h n 
    split at hs
    case h_2 => simp at hs
    rename_i _ _ W g v hg hp
    simp only [Option.some.injEq, Prod.mk.injEq] at hs
    obtain ⟨rfl, rfl, rfl⟩ := hs
    have o1 := ho _ (List.mem_cons_self ..)
    have hv := ho _ (List.mem_cons_of_mem _ (List.mem_cons_self ..))
    obtain ⟨k, hk, hk2⟩ := findP_get hp
    have hk' : g = k := by omega
    subst hk'
    rw [hv] at hk2
    have hqg : h ≠ g := by
      rintro rfl
      rw [getH_some.1 hg] at hk2
      simp at hk2
    have hnd : nodupN [h, g] = true := by
      have hb : Nat.beq h g = false := by
        cases hb : Nat.beq h g with
        | false => rfl
        | true => exact absurd (Nat.eq_of_beq_eq_true hb) hqg
      simp [nodupN, memN, hb]
    have : Gives Tryd.prog 24 [C9 a0 a1 a2 a3 a4 a5 a6 a7 a8, .sbuf h 1 0 n] H (Is .tt ((H.set h (.obj (.buf .u64 W 1 43))).set g (pinE RTV))) := frame2n (H := H) (h0 := h) (h1 := g) ⟨_, hTE⟩ (free_b ⟨_, o1.choose_spec, rfl⟩) rfl rfl rfl hnd hg (getH_some.2 hk2) rfl rfl rfl
    rw [set_get (g := h) (getH_some.1 hg), set_get hk2] at this
    exact this
  · simp at hs
def ctHl (Wl : List Int) : Nat → Option Hx.Spec
  | 8 => some (pureS awHS)
  | 9 => some (pureS cfgHS)
  | 10 => some (laS Wl)
  | 25 => some (listsS)
  | 24 => some (freeS)
  | _ => none
theorem ctHl_ok (Wl : List Int) : ∀ f s args H ob V L, ctHl Wl f = some s → s args H = some (ob, V, L) → AllP ob → Gives Tryd.prog f args H (Is V L) := by
  intro f s args H ob V L h hs ho
  unfold ctHl at h
  split at h
  · simp at h; subst h; exact pureS_ok ⟨_, hTE⟩ (awHS_ok) hs ho
  · simp at h; subst h; exact pureS_ok ⟨_, hTE⟩ (cfgHS_ok) hs ho
  · simp at h; subst h; exact laS_ok hs ho
  · simp at h; subst h; exact listsS_ok hs ho
  · simp at h; subst h; exact freeS_ok hs ho
  · simp at h
noncomputable def XHl (Wl : List Int) : Tabs := tabs tr ft xt (fun _ => none) (ctHl Wl) 0
theorem hXHl (Wl : List Int) : TOk Tryd.prog (XHl Wl) := ⟨hTE, hFT, (ctHl_ok Wl), hXT, fun t ks h => by simp [XHl, tabs] at h, mixed⟩
theorem rz : rightB 0 0 0 0 0 0 0 0 0 = false := by decide
theorem hsz (c : Int) (n : Nat) (W : List Int) : hsR 0 0 0 0 0 0 0 0 0 c n W = .code 1 := by
  unfold hsR; rw [rz, if_neg (by simp)]
theorem ls_z (c : Int) (n m : Nat) (W : List Int) : lsOb (hsR 0 0 0 0 0 0 0 0 0 c n W) n m W := .inr (by rw [hsz]; rfl)
theorem fe_z (n m : Nat) (W : List Int) : fEx 0 0 0 0 0 0 0 0 0 n m W := ⟨_, .inr ⟨_, hsz 0 n W, rfl⟩⟩
theorem lc_z (c : Int) (n : Nat) (W : List Int) : isCode (hsR 0 0 0 0 0 0 0 0 0 c n W) = true := by rw [hsz]; rfl
theorem fb_z (n : Nat) (W : List Int) : fEb 0 0 0 0 0 0 0 0 0 n W := ⟨_, hsz 0 n W⟩

def liTa (x y : Nat) : List (Nat × SV) := [(5, .ptr 2 0), (7, .tt), (8, .ptr 3 0), (9, .slice 4 0 x y)]
def liHa (n : Nat) (o : Nat → SetP) (a0 a1 a2 a3 a4 a5 a6 a7 a8 q0 q1 : Int) (Wl : List Int) : List HE := [stO n o, pinE RTV, .obj (.ints .i64 [q0, q1] 60), c9O a0 a1 a2 a3 a4 a5 a6 a7 a8, .obj (.ints .u64 Wl 43)]
set_option maxHeartbeats 16000000 in
theorem list_taila (n : Nat) (o : Nat → SetP) {Wl W0 : List Int} {q0 q1 : Int} {x y : Nat} (hF : fEx a0 a1 a2 a3 a4 a5 a6 a7 a8 x y Wl) (hL : ∀ c, lsOb (hsR a0 a1 a2 a3 a4 a5 a6 a7 a8 c x Wl) x y Wl) {ρ : Nat → Nat × Nat} {w : World} :
    SS (hXHl W0) (At ρ w) (Is .tt [stO n o, pinE RTV]) ⟨[], [], Tryd.f7, Tryd.f7.ntmps, [stO n o, pinE RTV], contF Tryd.f7 8 [], liTa x y, liHa n o a0 a1 a2 a3 a4 a5 a6 a7 a8 q0 q1 Wl⟩ := by
  have hX := hXHl W0
  refine sx hX [] 4000 rfl (by (simp [-List.getD_eq_getElem?_getD, -List.length_eq_zero_iff, conjP, hF, hL, ls_z, fe_z, List.getD_cons_zero] <;> (first | omega | ((repeat' (refine And.intro ?_ ?_)) <;> (first | omega | exact decide_eq_false (by omega) | exact decide_eq_true (by omega)))))) ?_
  (refine ss_end hX [0, 1] rfl rfl trivial rfl rfl rfl rfl ?vv ?hh (by (repeat' (first | exact rfl | exact trivial | exact sim_refl _ | refine And.intro ?_ ?_))) (by (repeat' (first | exact rfl | exact trivial | exact sim_refl _ | refine And.intro ?_ ?_))); (case vv => (repeat' (first | exact rfl | exact trivial | exact sim_refl _ | refine And.intro ?_ ?_)); done); (case hh => (repeat' (first | exact rfl | exact trivial | exact sim_refl _ | refine And.intro ?_ ?_)); done))

def liTb (x : Nat) : List (Nat × SV) := [(5, .ptr 2 0), (7, .tt), (8, .ptr 3 0), (9, .sbuf 4 1 0 x)]
def liHb (n : Nat) (o : Nat → SetP) (a0 a1 a2 a3 a4 a5 a6 a7 a8 q0 q1 : Int) (Wl : List Int) : List HE := [stO n o, pinE RTV, .obj (.ints .i64 [q0, q1] 60), c9O a0 a1 a2 a3 a4 a5 a6 a7 a8, .obj (.buf .u64 Wl 1 43)]
set_option maxHeartbeats 16000000 in
theorem list_tailb (n : Nat) (o : Nat → SetP) {Wl W0 : List Int} {q0 q1 : Int} {x : Nat} (hF : fEb a0 a1 a2 a3 a4 a5 a6 a7 a8 x Wl) (hL : ∀ c, isCode (hsR a0 a1 a2 a3 a4 a5 a6 a7 a8 c x Wl) = true) {ρ : Nat → Nat × Nat} {w : World} :
    SS (hXHl W0) (At ρ w) (Is .tt [stO n o, pinE RTV]) ⟨[], [], Tryd.f7, Tryd.f7.ntmps, [stO n o, pinE RTV], contF Tryd.f7 8 [], liTb x, liHb n o a0 a1 a2 a3 a4 a5 a6 a7 a8 q0 q1 Wl⟩ := by
  have hX := hXHl W0
  refine sx hX [] 4000 rfl (by (simp [-List.getD_eq_getElem?_getD, -List.length_eq_zero_iff, conjP, hF, hL, lc_z, fb_z, List.getD_cons_zero] <;> (first | omega | ((repeat' (refine And.intro ?_ ?_)) <;> (first | omega | exact decide_eq_false (by omega) | exact decide_eq_true (by omega)))))) ?_
  (refine ss_end hX [0, 1] rfl rfl trivial rfl rfl rfl rfl ?vv ?hh (by (repeat' (first | exact rfl | exact trivial | exact sim_refl _ | refine And.intro ?_ ?_))) (by (repeat' (first | exact rfl | exact trivial | exact sim_refl _ | refine And.intro ?_ ?_))); (case vv => (repeat' (first | exact rfl | exact trivial | exact sim_refl _ | refine And.intro ?_ ?_)); done); (case hh => (repeat' (first | exact rfl | exact trivial | exact sim_refl _ | refine And.intro ?_ ?_)); done))

set_option maxHeartbeats 16000000 in
theorem list_fn (l0 l1 l2 l3 q0 q1 : Int) (n cap : Nat) (o : Nat → SetP) (ho : SetOk o) : Gives Tryd.prog 7 [L4 l0 l1 l2 l3, .slice 0 0 n cap, .agg [.int .i64 q0, .int .i64 q1]] [stO n o, pinE RTV] (Is .tt [stO n o, pinE RTV]) := by
  have hr := cfg_rightH l0 l1 l2 l3
  have hsz2 := size_bd hr
  have hm2 := cMod6 l2
  have hm3 := cMod6 l3
  have hU : InU (laW (cAnd 1 l0) 4 (cAnd 1 l1) 4 (cMod 6 l2) 6 (cMod 6 l3) (mkA (cAnd 1 l0) 4 (cAnd 1 l1) 2 4 (cMod 6 l2) 6 (cMod 6 l3) 2).W o (laN n)) := laW_in (mkA_in hr) ho _
  have hlen : ((laW (cAnd 1 l0) 4 (cAnd 1 l1) 4 (cMod 6 l2) 6 (cMod 6 l3) (mkA (cAnd 1 l0) 4 (cAnd 1 l1) 2 4 (cMod 6 l2) 6 (cMod 6 l3) 2).W o (laN n)).length : Int) = sizeV (cAnd 1 l0) 4 (cAnd 1 l1) 4 (cMod 6 l2) 6 (cMod 6 l3) := by rw [laW_len, mkA_len]; omega
  generalize hWl : laW (cAnd 1 l0) 4 (cAnd 1 l1) 4 (cMod 6 l2) 6 (cMod 6 l3) (mkA (cAnd 1 l0) 4 (cAnd 1 l1) 2 4 (cMod 6 l2) 6 (cMod 6 l3) 2).W o (laN n) = Wl at hU hlen
  have hla : laOb (cAnd 1 l0) 4 (cAnd 1 l1) 4 (cMod 6 l2) 6 (cMod 6 l3) (mkA (cAnd 1 l0) 4 (cAnd 1 l1) 2 4 (cMod 6 l2) 6 (cMod 6 l3) 2).W (setRow o) n Wl := ⟨o, ho, rfl, hWl⟩
  have hX := hXHl Wl
  have h5 : 5 ≤ Wl.length := by omega
  have hcode : ∀ (V : List Int) (m : Nat), ¬ (m : Int) = sizeV (cAnd 1 l0) 4 (cAnd 1 l1) 4 (cMod 6 l2) 6 (cMod 6 l3) → ∀ c, isCode (hsR (cAnd 1 l0) 4 (cAnd 1 l1) 2 4 (cMod 6 l2) 6 (cMod 6 l3) 2 c m V) = true := fun V m hm c => by
    unfold hsR
    split
    · first | rfl | (rw [if_neg hm]; rfl)
    · rfl
  have hcode0 : ∀ (V : List Int) (m : Nat), ¬ (m : Int) = sizeV (cAnd 1 l0) 4 (cAnd 1 l1) 4 (cMod 6 l2) 6 (cMod 6 l3) → hsR (cAnd 1 l0) 4 (cAnd 1 l1) 2 4 (cMod 6 l2) 6 (cMod 6 l3) 2 0 m V = .code 23 := fun V m hm => by
    unfold hsR
    rw [if_pos ⟨hr, by decide, by decide⟩, if_neg hm]
  refine gives_x hX (fn := Tryd.f7) rfl rfl rfl rfl fun ρ w => ?_
  have a3 := and3 q1
  by_cases z0 : ibits .and .i64 q1 3 = 0
  · have hw1 : IntKind.i64.wrap ((Wl.length : Int) - 1) = (Wl.length : Int) - 1 := wi64 (by omega) (by omega)
    have hn : ¬ ((Wl.length - 1 : Nat) : Int) = sizeV (cAnd 1 l0) 4 (cAnd 1 l1) 4 (cMod 6 l2) 6 (cMod 6 l3) := by omega
    have key := list_taila n o (W0 := Wl) (q0 := q0) (q1 := q1) (x := Wl.length - 1) (y := Wl.length) (Wl := Wl) ⟨_, .inr ⟨_, hcode0 Wl _ hn, rfl⟩⟩ (fun c => .inr (hcode Wl _ hn c)) (ρ := ρ) (w := w)
    have z1 : ¬ ibits .and .i64 q1 3 = 1 := by omega
    have hb1 : (0 : Int) ≤ (Wl.length : Int) - 1 := by omega
    have hb2 : (Wl.length : Int) - 1 ≤ (Wl.length : Int) := by omega
    refine sxb hX [.r 8] [] 4000 rfl (by (simp [-List.getD_eq_getElem?_getD, -List.length_eq_zero_iff, conjP, hr, hla] <;> (first | omega | ((repeat' (refine And.intro ?_ ?_)) <;> (first | omega | exact decide_eq_false (by omega) | exact decide_eq_true (by omega)))))) ?_
    refine sxb hX [.r 8] [.T] 4000 rfl (by (simp [-List.getD_eq_getElem?_getD, -List.length_eq_zero_iff, conjP, z0, hw1, List.getD_cons_zero, List.getD_cons_succ] <;> (first | omega | ((repeat' (refine And.intro ?_ ?_)) <;> (first | omega | exact decide_eq_false (by omega) | exact decide_eq_true (by omega)))))) ?_
    refine sxb hX [.r 8] [.F] 4000 rfl (by (simp [-List.getD_eq_getElem?_getD, -List.length_eq_zero_iff, conjP, addOP, z0, List.getD_cons_zero, List.getD_cons_succ] <;> (first | omega | ((repeat' (refine And.intro ?_ ?_)) <;> (first | omega | exact decide_eq_false (by omega) | exact decide_eq_true (by omega)))))) ?_
    (refine ss_sub hX (T' := liTa (Wl.length - 1) Wl.length) (H' := liHa n o (cAnd 1 l0) 4 (cAnd 1 l1) 2 4 (cMod 6 l2) 6 (cMod 6 l3) 2 q0 q1 Wl) [0, 1, 3, 4, 5] rfl rfl rfl rfl ?tt (by (repeat' (first | exact rfl | exact trivial | exact sim_refl _ | refine And.intro ?_ ?_))) (by (repeat' (first | exact rfl | exact trivial | exact sim_refl _ | refine And.intro ?_ ?_))) (by (repeat' (first | exact rfl | exact trivial | exact sim_refl _ | refine And.intro ?_ ?_))) ?_; (case tt => exact ⟨by (repeat' (first | exact rfl | exact trivial | exact sim_refl _ | refine And.intro ?_ ?_)), by (repeat' (first | exact rfl | exact trivial | exact sim_refl _ | refine And.intro ?_ ?_)), by (repeat' (first | exact rfl | exact trivial | exact sim_refl _ | refine And.intro ?_ ?_)), ⟨rfl, rfl, by rw [hw1]; omega, by omega⟩, trivial⟩); exact key)
  · by_cases z1 : ibits .and .i64 q1 3 = 1
    · have hn : ¬ ((Wl.length + 1 : Nat) : Int) = sizeV (cAnd 1 l0) 4 (cAnd 1 l1) 4 (cMod 6 l2) 6 (cMod 6 l3) := by omega
      have key := list_tailb n o (W0 := Wl) (q0 := q0) (q1 := q1) (x := Wl.length + 1) (Wl := Wl ++ [0]) ⟨_, hcode0 (Wl ++ [0]) _ hn⟩ (fun c => hcode (Wl ++ [0]) _ hn c) (ρ := ρ) (w := w)
      have hb3 : Wl.length ≤ 4096 := by omega
      refine sxb hX [.r 8] [] 4000 rfl (by (simp [-List.getD_eq_getElem?_getD, -List.length_eq_zero_iff, conjP, hr, hla] <;> (first | omega | ((repeat' (refine And.intro ?_ ?_)) <;> (first | omega | exact decide_eq_false (by omega) | exact decide_eq_true (by omega)))))) ?_
      refine sxb hX [.r 8] [.F] 4000 rfl (by (simp [-List.getD_eq_getElem?_getD, -List.length_eq_zero_iff, conjP, z1, List.getD_cons_zero, List.getD_cons_succ] <;> (first | omega | ((repeat' (refine And.intro ?_ ?_)) <;> (first | omega | exact decide_eq_false (by omega) | exact decide_eq_true (by omega)))))) ?_
      refine sxb hX [.r 8] [.T] 4000 rfl (by (simp [-List.getD_eq_getElem?_getD, -List.length_eq_zero_iff, conjP, z1, List.getD_cons_zero, List.getD_cons_succ] <;> (first | omega | ((repeat' (refine And.intro ?_ ?_)) <;> (first | omega | exact decide_eq_false (by omega) | exact decide_eq_true (by omega)))))) ?_
      (refine ss_sub hX (T' := liTb (Wl.length + 1)) (H' := liHb n o (cAnd 1 l0) 4 (cAnd 1 l1) 2 4 (cMod 6 l2) 6 (cMod 6 l3) 2 q0 q1 (Wl ++ [0])) [0, 1, 3, 4, 7] rfl rfl rfl rfl ?tt ?hh (by (repeat' (first | exact rfl | exact trivial | exact sim_refl _ | refine And.intro ?_ ?_))) (by (repeat' (first | exact rfl | exact trivial | exact sim_refl _ | refine And.intro ?_ ?_))) ?_; (case tt => (repeat' (first | exact rfl | exact trivial | exact sim_refl _ | refine And.intro ?_ ?_)); done); (case hh => (repeat' (first | exact rfl | exact trivial | exact sim_refl _ | (simp [mulS_eq]; done) | refine And.intro ?_ ?_)); done); exact key)
    · have key := list_taila n o (W0 := Wl) (q0 := q0) (q1 := q1) (x := Wl.length) (y := Wl.length) (Wl := Wl) ⟨_, .inl ⟨hr, rfl, rfl, hU, hlen, by omega, rfl⟩⟩ (fun c => .inl ⟨rfl, rfl, hU⟩) (ρ := ρ) (w := w)
      refine sxb hX [.r 8] [] 4000 rfl (by (simp [-List.getD_eq_getElem?_getD, -List.length_eq_zero_iff, conjP, hr, hla] <;> (first | omega | ((repeat' (refine And.intro ?_ ?_)) <;> (first | omega | exact decide_eq_false (by omega) | exact decide_eq_true (by omega)))))) ?_
      refine sxb hX [.r 8] [.F] 4000 rfl (by (simp [-List.getD_eq_getElem?_getD, -List.length_eq_zero_iff, conjP, z0, List.getD_cons_zero, List.getD_cons_succ] <;> (first | omega | ((repeat' (refine And.intro ?_ ?_)) <;> (first | omega | exact decide_eq_false (by omega) | exact decide_eq_true (by omega)))))) ?_
      refine sxb hX [.r 8] [.F] 4000 rfl (by (simp [-List.getD_eq_getElem?_getD, -List.length_eq_zero_iff, conjP, addOP, z1, List.getD_cons_zero, List.getD_cons_succ] <;> (first | omega | ((repeat' (refine And.intro ?_ ?_)) <;> (first | omega | exact decide_eq_false (by omega) | exact decide_eq_true (by omega)))))) ?_
      (refine ss_sub hX (T' := liTa Wl.length Wl.length) (H' := liHa n o (cAnd 1 l0) 4 (cAnd 1 l1) 2 4 (cMod 6 l2) 6 (cMod 6 l3) 2 q0 q1 Wl) [0, 1, 3, 4, 5] rfl rfl rfl rfl (by (repeat' (first | exact rfl | exact trivial | exact sim_refl _ | refine And.intro ?_ ?_))) (by (repeat' (first | exact rfl | exact trivial | exact sim_refl _ | refine And.intro ?_ ?_))) (by (repeat' (first | exact rfl | exact trivial | exact sim_refl _ | refine And.intro ?_ ?_))) (by (repeat' (first | exact rfl | exact trivial | exact sim_refl _ | refine And.intro ?_ ?_))) ?_; exact key)

def liTna (x y : Nat) : List (Nat × SV) := [(5, .ptr 1 0), (7, .tt), (8, .ptr 2 0), (9, .slice 3 0 x y)]
def liHna (a0 a1 a2 a3 a4 a5 a6 a7 a8 q0 q1 : Int) (Wl : List Int) : List HE := [pinE RTV, .obj (.ints .i64 [q0, q1] 60), c9O a0 a1 a2 a3 a4 a5 a6 a7 a8, .obj (.ints .u64 Wl 43)]
set_option maxHeartbeats 16000000 in
theorem list_tailna {Wl W0 : List Int} {q0 q1 : Int} {x y : Nat} (hF : fEx a0 a1 a2 a3 a4 a5 a6 a7 a8 x y Wl) (hL : ∀ c, lsOb (hsR a0 a1 a2 a3 a4 a5 a6 a7 a8 c x Wl) x y Wl) {ρ : Nat → Nat × Nat} {w : World} :
    SS (hXHl W0) (At ρ w) (Is .tt [pinE RTV]) ⟨[], [], Tryd.f7, Tryd.f7.ntmps, [pinE RTV], contF Tryd.f7 8 [], liTna x y, liHna a0 a1 a2 a3 a4 a5 a6 a7 a8 q0 q1 Wl⟩ := by
  have hX := hXHl W0
  refine sx hX [] 4000 rfl (by (simp [-List.getD_eq_getElem?_getD, -List.length_eq_zero_iff, conjP, hF, hL, ls_z, fe_z, List.getD_cons_zero] <;> (first | omega | ((repeat' (refine And.intro ?_ ?_)) <;> (first | omega | exact decide_eq_false (by omega) | exact decide_eq_true (by omega)))))) ?_
  (refine ss_end hX [0] rfl rfl trivial rfl rfl rfl rfl ?vv ?hh (by (repeat' (first | exact rfl | exact trivial | exact sim_refl _ | refine And.intro ?_ ?_))) (by (repeat' (first | exact rfl | exact trivial | exact sim_refl _ | refine And.intro ?_ ?_))); (case vv => (repeat' (first | exact rfl | exact trivial | exact sim_refl _ | refine And.intro ?_ ?_)); done); (case hh => (repeat' (first | exact rfl | exact trivial | exact sim_refl _ | refine And.intro ?_ ?_)); done))

def liTnb (x : Nat) : List (Nat × SV) := [(5, .ptr 1 0), (7, .tt), (8, .ptr 2 0), (9, .sbuf 3 1 0 x)]
def liHnb (a0 a1 a2 a3 a4 a5 a6 a7 a8 q0 q1 : Int) (Wl : List Int) : List HE := [pinE RTV, .obj (.ints .i64 [q0, q1] 60), c9O a0 a1 a2 a3 a4 a5 a6 a7 a8, .obj (.buf .u64 Wl 1 43)]
set_option maxHeartbeats 16000000 in
theorem list_tailnb {Wl W0 : List Int} {q0 q1 : Int} {x : Nat} (hF : fEb a0 a1 a2 a3 a4 a5 a6 a7 a8 x Wl) (hL : ∀ c, isCode (hsR a0 a1 a2 a3 a4 a5 a6 a7 a8 c x Wl) = true) {ρ : Nat → Nat × Nat} {w : World} :
    SS (hXHl W0) (At ρ w) (Is .tt [pinE RTV]) ⟨[], [], Tryd.f7, Tryd.f7.ntmps, [pinE RTV], contF Tryd.f7 8 [], liTnb x, liHnb a0 a1 a2 a3 a4 a5 a6 a7 a8 q0 q1 Wl⟩ := by
  have hX := hXHl W0
  refine sx hX [] 4000 rfl (by (simp [-List.getD_eq_getElem?_getD, -List.length_eq_zero_iff, conjP, hF, hL, lc_z, fb_z, List.getD_cons_zero] <;> (first | omega | ((repeat' (refine And.intro ?_ ?_)) <;> (first | omega | exact decide_eq_false (by omega) | exact decide_eq_true (by omega)))))) ?_
  (refine ss_end hX [0] rfl rfl trivial rfl rfl rfl rfl ?vv ?hh (by (repeat' (first | exact rfl | exact trivial | exact sim_refl _ | refine And.intro ?_ ?_))) (by (repeat' (first | exact rfl | exact trivial | exact sim_refl _ | refine And.intro ?_ ?_))); (case vv => (repeat' (first | exact rfl | exact trivial | exact sim_refl _ | refine And.intro ?_ ?_)); done); (case hh => (repeat' (first | exact rfl | exact trivial | exact sim_refl _ | refine And.intro ?_ ?_)); done))

set_option maxHeartbeats 16000000 in
theorem list_fnn (l0 l1 l2 l3 q0 q1 : Int) (a : Option Addr) : Gives Tryd.prog 7 [L4 l0 l1 l2 l3, .raw (.slice a 0 0), .agg [.int .i64 q0, .int .i64 q1]] [pinE RTV] (Is .tt [pinE RTV]) := by
  have hr := cfg_rightH l0 l1 l2 l3
  have hsz2 := size_bd hr
  have hm2 := cMod6 l2
  have hm3 := cMod6 l3
  have hU : InU ((mkA (cAnd 1 l0) 4 (cAnd 1 l1) 2 4 (cMod 6 l2) 6 (cMod 6 l3) 2).W) := mkA_in hr
  have hlen : (((mkA (cAnd 1 l0) 4 (cAnd 1 l1) 2 4 (cMod 6 l2) 6 (cMod 6 l3) 2).W).length : Int) = sizeV (cAnd 1 l0) 4 (cAnd 1 l1) 4 (cMod 6 l2) 6 (cMod 6 l3) := by rw [mkA_len]; omega
  generalize hWl : (mkA (cAnd 1 l0) 4 (cAnd 1 l1) 2 4 (cMod 6 l2) 6 (cMod 6 l3) 2).W = Wl at hU hlen
  have hla := hWl
  have hX := hXHl Wl
  have h5 : 5 ≤ Wl.length := by omega
  have hcode : ∀ (V : List Int) (m : Nat), ¬ (m : Int) = sizeV (cAnd 1 l0) 4 (cAnd 1 l1) 4 (cMod 6 l2) 6 (cMod 6 l3) → ∀ c, isCode (hsR (cAnd 1 l0) 4 (cAnd 1 l1) 2 4 (cMod 6 l2) 6 (cMod 6 l3) 2 c m V) = true := fun V m hm c => by
    unfold hsR
    split
    · first | rfl | (rw [if_neg hm]; rfl)
    · rfl
  have hcode0 : ∀ (V : List Int) (m : Nat), ¬ (m : Int) = sizeV (cAnd 1 l0) 4 (cAnd 1 l1) 4 (cMod 6 l2) 6 (cMod 6 l3) → hsR (cAnd 1 l0) 4 (cAnd 1 l1) 2 4 (cMod 6 l2) 6 (cMod 6 l3) 2 0 m V = .code 23 := fun V m hm => by
    unfold hsR
    rw [if_pos ⟨hr, by decide, by decide⟩, if_neg hm]
  refine gives_x hX (fn := Tryd.f7) rfl rfl rfl rfl fun ρ w => ?_
  have a3 := and3 q1
  by_cases z0 : ibits .and .i64 q1 3 = 0
  · have hw1 : IntKind.i64.wrap ((Wl.length : Int) - 1) = (Wl.length : Int) - 1 := wi64 (by omega) (by omega)
    have hn : ¬ ((Wl.length - 1 : Nat) : Int) = sizeV (cAnd 1 l0) 4 (cAnd 1 l1) 4 (cMod 6 l2) 6 (cMod 6 l3) := by omega
    have key := list_tailna (W0 := Wl) (q0 := q0) (q1 := q1) (x := Wl.length - 1) (y := Wl.length) (Wl := Wl) ⟨_, .inr ⟨_, hcode0 Wl _ hn, rfl⟩⟩ (fun c => .inr (hcode Wl _ hn c)) (ρ := ρ) (w := w)
    have z1 : ¬ ibits .and .i64 q1 3 = 1 := by omega
    have hb1 : (0 : Int) ≤ (Wl.length : Int) - 1 := by omega
    have hb2 : (Wl.length : Int) - 1 ≤ (Wl.length : Int) := by omega
    refine sxb hX [.r 8] [] 4000 rfl (by (simp [-List.getD_eq_getElem?_getD, -List.length_eq_zero_iff, conjP, hr, hla] <;> (first | omega | ((repeat' (refine And.intro ?_ ?_)) <;> (first | omega | exact decide_eq_false (by omega) | exact decide_eq_true (by omega)))))) ?_
    refine sxb hX [.r 8] [.T] 4000 rfl (by (simp [-List.getD_eq_getElem?_getD, -List.length_eq_zero_iff, conjP, z0, hw1, List.getD_cons_zero, List.getD_cons_succ] <;> (first | omega | ((repeat' (refine And.intro ?_ ?_)) <;> (first | omega | exact decide_eq_false (by omega) | exact decide_eq_true (by omega)))))) ?_
    refine sxb hX [.r 8] [.F] 4000 rfl (by (simp [-List.getD_eq_getElem?_getD, -List.length_eq_zero_iff, conjP, addOP, z0, List.getD_cons_zero, List.getD_cons_succ] <;> (first | omega | ((repeat' (refine And.intro ?_ ?_)) <;> (first | omega | exact decide_eq_false (by omega) | exact decide_eq_true (by omega)))))) ?_
    (refine ss_sub hX (T' := liTna (Wl.length - 1) Wl.length) (H' := liHna (cAnd 1 l0) 4 (cAnd 1 l1) 2 4 (cMod 6 l2) 6 (cMod 6 l3) 2 q0 q1 Wl) [0, 2, 3, 4] rfl rfl rfl rfl ?tt (by (repeat' (first | exact rfl | exact trivial | exact sim_refl _ | refine And.intro ?_ ?_))) (by (repeat' (first | exact rfl | exact trivial | exact sim_refl _ | refine And.intro ?_ ?_))) (by (repeat' (first | exact rfl | exact trivial | exact sim_refl _ | refine And.intro ?_ ?_))) ?_; (case tt => exact ⟨by (repeat' (first | exact rfl | exact trivial | exact sim_refl _ | refine And.intro ?_ ?_)), by (repeat' (first | exact rfl | exact trivial | exact sim_refl _ | refine And.intro ?_ ?_)), by (repeat' (first | exact rfl | exact trivial | exact sim_refl _ | refine And.intro ?_ ?_)), ⟨rfl, rfl, by rw [hw1]; omega, by omega⟩, trivial⟩); exact key)
  · by_cases z1 : ibits .and .i64 q1 3 = 1
    · have hn : ¬ ((Wl.length + 1 : Nat) : Int) = sizeV (cAnd 1 l0) 4 (cAnd 1 l1) 4 (cMod 6 l2) 6 (cMod 6 l3) := by omega
      have key := list_tailnb (W0 := Wl) (q0 := q0) (q1 := q1) (x := Wl.length + 1) (Wl := Wl ++ [0]) ⟨_, hcode0 (Wl ++ [0]) _ hn⟩ (fun c => hcode (Wl ++ [0]) _ hn c) (ρ := ρ) (w := w)
      have hb3 : Wl.length ≤ 4096 := by omega
      refine sxb hX [.r 8] [] 4000 rfl (by (simp [-List.getD_eq_getElem?_getD, -List.length_eq_zero_iff, conjP, hr, hla] <;> (first | omega | ((repeat' (refine And.intro ?_ ?_)) <;> (first | omega | exact decide_eq_false (by omega) | exact decide_eq_true (by omega)))))) ?_
      refine sxb hX [.r 8] [.F] 4000 rfl (by (simp [-List.getD_eq_getElem?_getD, -List.length_eq_zero_iff, conjP, z1, List.getD_cons_zero, List.getD_cons_succ] <;> (first | omega | ((repeat' (refine And.intro ?_ ?_)) <;> (first | omega | exact decide_eq_false (by omega) | exact decide_eq_true (by omega)))))) ?_
      refine sxb hX [.r 8] [.T] 4000 rfl (by (simp [-List.getD_eq_getElem?_getD, -List.length_eq_zero_iff, conjP, z1, List.getD_cons_zero, List.getD_cons_succ] <;> (first | omega | ((repeat' (refine And.intro ?_ ?_)) <;> (first | omega | exact decide_eq_false (by omega) | exact decide_eq_true (by omega)))))) ?_
      (refine ss_sub hX (T' := liTnb (Wl.length + 1)) (H' := liHnb (cAnd 1 l0) 4 (cAnd 1 l1) 2 4 (cMod 6 l2) 6 (cMod 6 l3) 2 q0 q1 (Wl ++ [0])) [0, 2, 3, 6] rfl rfl rfl rfl ?tt ?hh (by (repeat' (first | exact rfl | exact trivial | exact sim_refl _ | refine And.intro ?_ ?_))) (by (repeat' (first | exact rfl | exact trivial | exact sim_refl _ | refine And.intro ?_ ?_))) ?_; (case tt => (repeat' (first | exact rfl | exact trivial | exact sim_refl _ | refine And.intro ?_ ?_)); done); (case hh => (repeat' (first | exact rfl | exact trivial | exact sim_refl _ | (simp [mulS_eq]; done) | refine And.intro ?_ ?_)); done); exact key)
    · have key := list_tailna (W0 := Wl) (q0 := q0) (q1 := q1) (x := Wl.length) (y := Wl.length) (Wl := Wl) ⟨_, .inl ⟨hr, rfl, rfl, hU, hlen, by omega, rfl⟩⟩ (fun c => .inl ⟨rfl, rfl, hU⟩) (ρ := ρ) (w := w)
      refine sxb hX [.r 8] [] 4000 rfl (by (simp [-List.getD_eq_getElem?_getD, -List.length_eq_zero_iff, conjP, hr, hla] <;> (first | omega | ((repeat' (refine And.intro ?_ ?_)) <;> (first | omega | exact decide_eq_false (by omega) | exact decide_eq_true (by omega)))))) ?_
      refine sxb hX [.r 8] [.F] 4000 rfl (by (simp [-List.getD_eq_getElem?_getD, -List.length_eq_zero_iff, conjP, z0, List.getD_cons_zero, List.getD_cons_succ] <;> (first | omega | ((repeat' (refine And.intro ?_ ?_)) <;> (first | omega | exact decide_eq_false (by omega) | exact decide_eq_true (by omega)))))) ?_
      refine sxb hX [.r 8] [.F] 4000 rfl (by (simp [-List.getD_eq_getElem?_getD, -List.length_eq_zero_iff, conjP, addOP, z1, List.getD_cons_zero, List.getD_cons_succ] <;> (first | omega | ((repeat' (refine And.intro ?_ ?_)) <;> (first | omega | exact decide_eq_false (by omega) | exact decide_eq_true (by omega)))))) ?_
      (refine ss_sub hX (T' := liTna Wl.length Wl.length) (H' := liHna (cAnd 1 l0) 4 (cAnd 1 l1) 2 4 (cMod 6 l2) 6 (cMod 6 l3) 2 q0 q1 Wl) [0, 2, 3, 4] rfl rfl rfl rfl (by (repeat' (first | exact rfl | exact trivial | exact sim_refl _ | refine And.intro ?_ ?_))) (by (repeat' (first | exact rfl | exact trivial | exact sim_refl _ | refine And.intro ?_ ?_))) (by (repeat' (first | exact rfl | exact trivial | exact sim_refl _ | refine And.intro ?_ ?_))) (by (repeat' (first | exact rfl | exact trivial | exact sim_refl _ | refine And.intro ?_ ?_))) ?_; exact key)
end Go.Proofs.YtfdkaakllceebaaDoor
namespace Go.Proofs.YtfdkaakllceebaaDoor.headsList
open Go Go.Hx
abbrev ks67 : List (Option IntKind) := [some .i64, some .i64, some .u32, some .u64, none]
theorem two {l : List SV} (hl : okK [some .i64, some .i64] l) : ∃ a b, l = [.int .i64 a, .int .i64 b] := by
  rcases l with _ | ⟨a, _ | ⟨b, _ | ⟨c, r⟩⟩⟩ <;> simp only [okK, and_false] at hl
  obtain ⟨⟨n1, rfl, h1⟩, ⟨n2, rfl, h2⟩, _⟩ := hl
  exact ⟨n1, n2, rfl⟩
theorem walk_nil (a : Option Addr) (l : List SV) (hl : okK [some .i64, some .i64, some .i64, some .i64] l) (q : List SV) (hq : okK [some .i64, some .i64] q) : ∃ L, Gives Tryd.prog 7 [.agg l, .raw (.slice a 0 0), .agg q] [pinE RTV] (Is .tt L) := by
  obtain ⟨l0, l1, l2, l3, e⟩ := headsOnce.four hl
  obtain ⟨q0, q1, rfl⟩ := two hq
  rw [e]
  exact ⟨_, list_fnn l0 l1 l2 l3 q0 q1 a⟩
theorem walk (l : List SV) (hl : okK [some .i64, some .i64, some .i64, some .i64] l) (q : List SV) (hq : okK [some .i64, some .i64] q) (o : Nat → List SV) (h : ∀ i, okK ks67 (o i)) (len cap : Nat) (_ : len ≤ maxLen) :
    ∃ L, Gives Tryd.prog 7 [.agg l, .slice 0 0 len cap, .agg q] [.obj (.rows len 5 o), pinE RTV] (Is .tt L) := by
  obtain ⟨l0, l1, l2, l3, e⟩ := headsOnce.four hl
  obtain ⟨q0, q1, rfl⟩ := two hq
  obtain ⟨p, rfl, hp⟩ := headsOnce.rows_of o h
  rw [e]
  exact ⟨_, list_fn l0 l1 l2 l3 q0 q1 len cap p hp⟩
end Go.Proofs.YtfdkaakllceebaaDoor.headsList
