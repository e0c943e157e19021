/- HeadsList: lists are told as the document tells them. -/
import Derived.Test.YtfdkaakllceebaaDoorFreeLaw
namespace Go.Proofs.YtfdkaakllceebaaDoor
open Go Go.Hx
set_option maxRecDepth 8000
abbrev pinO : SO := .pin 0 RTV

theorem fr_frame {f : Nat} {a0 a1 a2 a3 a4 a5 a6 a7 a8 : Int} {x y : SV} {o : SO} {r : HR} {H : List HE} {h : Nat}
    (hF : Gives Tryd.prog f [C9 a0 a1 a2 a3 a4 a5 a6 a7 a8, x] [.obj o] (Is (hlV r) (hlL o r))) (hx : x.ren (nm [h] H) = y) (hok : x.okh (there [.obj o]) = true) (ho : okHs (there [.obj o]) [.obj o] = true) (hg : getH H h = some o) (hor : o.ren (nm [h] H) = o) :
    Gives Tryd.prog f [C9 a0 a1 a2 a3 a4 a5 a6 a7 a8, y] H (Is (lsP H.length r) (H ++ lsN r)) := by
  have hgo : getH H h = some (o.ren (nm [h] H)) := by rw [hor]; exact hg
  have hL : hlL o r = .obj o :: lsN r := by
    rcases r with (_ | l) | _ | _ <;> rfl
  rw [hL] at hF
  have hcok : SV.okhs (there [.obj o]) [C9 a0 a1 a2 a3 a4 a5 a6 a7 a8, x] = true := by
    simp only [SV.okhs, hok, Bool.and_true]; rfl
  have := frame1 (ags := [C9 a0 a1 a2 a3 a4 a5 a6 a7 a8, y]) (N := lsN r) (H := H) (h0 := h) ⟨_, hTE⟩ hF (by rw [← hx]; rfl) hcok ho hgo (by rcases r with (_ | l) | _ | _ <;> rfl)
  rw [hor, set_self hg] at this
  have e2 : (hlV r).ren (nm [h] H) = lsP H.length r := by rcases r with (_ | l) | _ | _ <;> rfl
  have e3 : (lsN r).map (HE.ren (nm [h] H)) = lsN r := by rcases r with (_ | l) | _ | _ <;> rfl
  rw [e2, e3] at this
  exact this

def ctfrc (r0 : HR) : Nat → Option Hx.Spec
  | 11 => some (lsS r0)
  | _ => none
theorem ctfrc_ok (r0 : HR) : ∀ f s args H ob V L, ctfrc r0 f = some s → s args H = some (ob, V, L) → AllP ob → Gives Tryd.prog f args H (Is V L) := by
  intro f s args H ob V L h hs ho
  unfold ctfrc at h
  split at h
  · simp at h; subst h; exact lsS_ok hs ho
  · simp at h
noncomputable def Xfrc (r0 : HR) : Tabs := tabs tr ft xt (fun _ => none) (ctfrc r0) 20
theorem hXfrc (r0 : HR) : TOk Tryd.prog (Xfrc r0) := ⟨hTE, hFT, (ctfrc_ok r0), hXT, fun t ks h => by simp [Xfrc, tabs] at h, mixed⟩
theorem fr_code_a {a0 a1 a2 a3 a4 a5 a6 a7 a8 e : Int} {W : List Int} {m k : Nat} (h : hsR a0 a1 a2 a3 a4 a5 a6 a7 a8 0 m W = .code e) : Gives Tryd.prog 21 [C9 a0 a1 a2 a3 a4 a5 a6 a7 a8, .slice 0 0 m k] [.obj (.ints .u64 W 43)] (Is (hlV (.code e)) (hlL (.ints .u64 W 43) (.code e))) := by
  have o0 : lsOb (.code e) m k W := .inr rfl
  have o1 : isCode (.code e) = true := rfl
  have he : e = 1 ∨ e = 23 := by
    rcases hs_split h with ⟨_, q⟩ | ⟨_, _, _, _, q⟩ | ⟨_, _, _, _, q⟩
    · simp only [HR.code.injEq] at q; omega
    · simp only [HR.code.injEq] at q; omega
    · simp [isCode] at q
  have hX := hXfrc (.code e)
  refine gives_x hX (fn := Tryd.f21) rfl rfl rfl rfl fun ρ w => ?_
  refine sx hX [] 4000 rfl (by (simp [-List.getD_eq_getElem?_getD, -List.length_eq_zero_iff, conjP] <;> (first | omega | ((repeat' (refine And.intro ?_ ?_)) <;> (first | omega | exact decide_eq_false (by omega) | exact decide_eq_true (by omega)))))) ?_
  refine sx hX [.T] 4000 rfl (by (simp [-List.getD_eq_getElem?_getD, -List.length_eq_zero_iff, conjP, h, o0] <;> (first | omega | ((repeat' (refine And.intro ?_ ?_)) <;> (first | omega | exact decide_eq_false (by omega) | exact decide_eq_true (by omega)))))) ?_
  (exact ss_end hX [0] rfl rfl trivial rfl rfl rfl rfl (by (repeat' (first | exact rfl | exact trivial | exact sim_refl _ | refine And.intro ?_ ?_))) (by (repeat' (first | exact rfl | exact trivial | exact sim_refl _ | refine And.intro ?_ ?_))) (by (repeat' (first | exact rfl | exact trivial | exact sim_refl _ | refine And.intro ?_ ?_))) (by (repeat' (first | exact rfl | exact trivial | exact sim_refl _ | refine And.intro ?_ ?_))))
theorem fr_code_b {a0 a1 a2 a3 a4 a5 a6 a7 a8 e : Int} {W : List Int} {m : Nat} (h : hsR a0 a1 a2 a3 a4 a5 a6 a7 a8 0 m W = .code e) : Gives Tryd.prog 21 [C9 a0 a1 a2 a3 a4 a5 a6 a7 a8, .sbuf 0 1 0 m] [.obj (.buf .u64 W 1 43)] (Is (hlV (.code e)) (hlL (.buf .u64 W 1 43) (.code e))) := by
  have o0 : lsOb (.code e) m m W := .inr rfl
  have o1 : isCode (.code e) = true := rfl
  have he : e = 1 ∨ e = 23 := by
    rcases hs_split h with ⟨_, q⟩ | ⟨_, _, _, _, q⟩ | ⟨_, _, _, _, q⟩
    · simp only [HR.code.injEq] at q; omega
    · simp only [HR.code.injEq] at q; omega
    · simp [isCode] at q
  have hX := hXfrc (.code e)
  refine gives_x hX (fn := Tryd.f21) rfl rfl rfl rfl fun ρ w => ?_
  refine sx hX [] 4000 rfl (by (simp [-List.getD_eq_getElem?_getD, -List.length_eq_zero_iff, conjP] <;> (first | omega | ((repeat' (refine And.intro ?_ ?_)) <;> (first | omega | exact decide_eq_false (by omega) | exact decide_eq_true (by omega)))))) ?_
  refine sx hX [.T] 4000 rfl (by (simp [-List.getD_eq_getElem?_getD, -List.length_eq_zero_iff, conjP, h, o1] <;> (first | omega | ((repeat' (refine And.intro ?_ ?_)) <;> (first | omega | exact decide_eq_false (by omega) | exact decide_eq_true (by omega)))))) ?_
  (exact ss_end hX [0] rfl rfl trivial rfl rfl rfl rfl (by (repeat' (first | exact rfl | exact trivial | exact sim_refl _ | refine And.intro ?_ ?_))) (by (repeat' (first | exact rfl | exact trivial | exact sim_refl _ | refine And.intro ?_ ?_))) (by (repeat' (first | exact rfl | exact trivial | exact sim_refl _ | refine And.intro ?_ ?_))) (by (repeat' (first | exact rfl | exact trivial | exact sim_refl _ | refine And.intro ?_ ?_))))
variable {a0 a1 a2 a3 a4 a5 a6 a7 a8 : Int} {W : List Int}
theorem hs_len {c : Int} {n : Nat} {r : HR} (h : hsR a0 a1 a2 a3 a4 a5 a6 a7 a8 c n W = r) (hn : isCode r = false) : rightB a0 a1 a2 a3 a4 a5 a6 a7 a8 = true ∧ (n : Int) = sizeV a0 a1 a2 a4 a5 a6 a7 := by
  rcases hs_split h with ⟨_, rfl⟩ | ⟨_, _, _, _, rfl⟩ | ⟨q1, _, q3, _, _⟩
  · simp [isCode] at hn
  · simp [isCode] at hn
  · exact ⟨q1, q3⟩
theorem ok_len {c : Int} {n : Nat} {l : List Int} (h : hsR a0 a1 a2 a3 a4 a5 a6 a7 a8 c n W = .ok (some l)) (hr : rightB a0 a1 a2 a3 a4 a5 a6 a7 a8 = true) : 0 < l.length ∧ l.length ≤ 12 ∧ (l.length : Int) ≤ cntV c a5 a7 := by
  have h1 := hs_well h
  have h2 := (hs_told h).2.2
  have hrA := right_iff.1 hr
  have h3 : cntV c a5 a7 ≤ 12 := by unfold cntV; split <;> omega
  have h4 : (l.length : Int) ≤ cntV c a5 a7 := h2
  cases l with
  | nil => simp [wellO] at h1
  | cons x r => simp only [List.length_cons] at h4 ⊢; omega
theorem code1 {n : Nat} {e : Int} (hr : rightB a0 a1 a2 a3 a4 a5 a6 a7 a8 = true) (hn : (n : Int) = sizeV a0 a1 a2 a4 a5 a6 a7) (h : hsR a0 a1 a2 a3 a4 a5 a6 a7 a8 1 n W = .code e) : False := by
  have := hs_code h hr (by decide) hn
  simp [isCode] at this
set_option maxHeartbeats 4000000 in
theorem fr_all {r0 r1 : HR} (hU : InU W) (hr : rightB a0 a1 a2 a3 a4 a5 a6 a7 a8 = true) (hn : (W.length : Int) = sizeV a0 a1 a2 a4 a5 a6 a7) (h12 : a5 + a7 ≤ 12) (e0 : hsR a0 a1 a2 a3 a4 a5 a6 a7 a8 0 W.length W = r0) (e1 : hsR a0 a1 a2 a3 a4 a5 a6 a7 a8 1 W.length W = r1) :
    Gives Tryd.prog 21 [C9 a0 a1 a2 a3 a4 a5 a6 a7 a8, .slice 0 0 W.length W.length] [.obj (.ints .u64 W 43)] (Is (hlV (frR r0 r1)) (hlL (.ints .u64 W 43) (frR r0 r1))) := by
  have hc0 := hs_code e0 hr (by decide) hn
  have hc1 := hs_code e1 hr (by decide) hn
  rcases r0 with (_ | l) | ⟨e, p⟩ | e
  · rcases r1 with (_ | m) | ⟨e, p⟩ | e
    · exact fr_nn hU e0 e1
    · obtain ⟨m0, m1, _⟩ := ok_len e1 hr
      exact fr_ns hU e0 e1 m0 m1
    · exact fr_nb hU e0 e1
    · simp [isCode] at hc1
  · obtain ⟨l0, l1, l2⟩ := ok_len e0 hr
    rcases r1 with (_ | m) | ⟨e, p⟩ | e
    · exact fr_sn hU e0 e1 l0 l1
    · obtain ⟨m0, m1, m2⟩ := ok_len e1 hr
      exact fr_ss hU e0 e1 l0 l1 m0 m1 (by have : cntV 0 a5 a7 = a5 := rfl; have : cntV 1 a5 a7 = a7 := rfl; omega)
    · exact fr_sb hU e0 e1 l0 l1
    · simp [isCode] at hc1
  · exact fr_bx hU e0
  · simp [isCode] at hc0
/-- Both lists of words that are wholly there, or not asked. -/
def fOb (a0 a1 a2 a3 a4 a5 a6 a7 a8 : Int) (r : HR) (n m : Nat) (W : List Int) : Prop := (rightB a0 a1 a2 a3 a4 a5 a6 a7 a8 = true ∧ n = W.length ∧ m = n ∧ InU W ∧ (n : Int) = sizeV a0 a1 a2 a4 a5 a6 a7 ∧ a5 + a7 ≤ 12 ∧ frR (hsR a0 a1 a2 a3 a4 a5 a6 a7 a8 0 n W) (hsR a0 a1 a2 a3 a4 a5 a6 a7 a8 1 n W) = r) ∨ ∃ e, hsR a0 a1 a2 a3 a4 a5 a6 a7 a8 0 n W = .code e ∧ r = .code e

def frS (r : HR) : Hx.Spec := fun args H => match args with
  | [.agg [.int .i64 a0, .int .i64 a1, .int .i64 a2, .int .i64 a3, .int .i64 a4, .int .i64 a5, .int .i64 a6, .int .i64 a7, .int .i64 a8], .slice h 0 n m] => match getH H h, nums[H.length]? with
    | some (.ints .u64 W 43), some k => some ([fOb a0 a1 a2 a3 a4 a5 a6 a7 a8 r n m W], lsP k r, H ++ lsN r)
    | _, _ => none
  | [.agg [.int .i64 a0, .int .i64 a1, .int .i64 a2, .int .i64 a3, .int .i64 a4, .int .i64 a5, .int .i64 a6, .int .i64 a7, .int .i64 a8], .sbuf h 1 0 n] => match getH H h, nums[H.length]? with
    | some (.buf .u64 W 1 43), some k => some ([∃ e, hsR a0 a1 a2 a3 a4 a5 a6 a7 a8 0 n W = .code e ∧ r = .code e], lsP k r, H ++ lsN r)
    | _, _ => none
  | _ => none
theorem frS_ok {r : HR} {args : List SV} {H : List HE} {ob : List Prop} {V : SV} {L : List HE} (hs : frS r args H = some (ob, V, L)) (ho : AllP ob) : Gives Tryd.prog 21 args H (Is V L) := by
  unfold frS at hs
  split at hs
  · rename_i _ a0 a1 a2 a3 a4 a5 a6 a7 a8 h n m
    split at hs
    case h_2 => simp at hs
    rename_i _ _ W k hg hk
    have hk' := nums_get _ _ hk
    subst hk'
    simp only [Option.some.injEq, Prod.mk.injEq] at hs
    obtain ⟨rfl, rfl, rfl⟩ := hs
    have o1 := ho _ (List.mem_cons_self ..)
    rcases o1 with ⟨o1, rfl, rfl, o4, o5, o6, rfl⟩ | ⟨e, o1, rfl⟩
    · refine fr_frame (x := .slice 0 0 W.length W.length) ?_ rfl rfl rfl hg rfl
      exact fr_all o4 o1 o5 o6 rfl rfl
    · exact fr_frame (x := .slice 0 0 n m) (fr_code_a o1) rfl rfl rfl hg rfl
  · rename_i _ a0 a1 a2 a3 a4 a5 a6 a7 a8 h n
    split at hs
    case h_2 => simp at hs
    rename_i _ _ W k hg hk
    have hk' := nums_get _ _ hk
    subst hk'
    simp only [Option.some.injEq, Prod.mk.injEq] at hs
    obtain ⟨rfl, rfl, rfl⟩ := hs
    obtain ⟨e, o1, rfl⟩ := ho _ (List.mem_cons_self ..)
    exact fr_frame (x := .sbuf 0 1 0 n) (fr_code_b o1) rfl rfl rfl hg rfl
  · simp at hs

end Go.Proofs.YtfdkaakllceebaaDoor
