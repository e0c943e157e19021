/- Ap1: a text of this seat. -/
import Derived.Test.YtbmjhlgkddhhnaaTables
namespace Go.Proofs.Ytbmjhlgkddhhnaa
open Go Go.Hx
set_option maxRecDepth 8000

noncomputable def X0 : Tabs := tabs tr ft xt (fun _ => none) (fun _ => none) 0
theorem hX0 : TOk Try.prog X0 := ⟨hTE, hFT, fun f s args H ob V L h => by simp [X0, tabs] at h, hXT, fun t ks h => by simp [X0, tabs] at h, mixed⟩

abbrev AO (h n : Nat) (st kd wd vl : Int) (ch er : SV) : HE := .obj (.cells [.slice h 0 n n, .int .i64 st, .int .i64 kd, .int .i64 wd, .int .u64 vl, ch, er] 69)
abbrev WO (ws : List Int) : HE := .obj (.ints .u64 ws 26)
abbrev BO (ws : List Int) : HE := .obj (.buf .u64 ws 1 26)

structure OpV where
  (kind i old new : Int) (far wide : Bool)
def opRow (o : Nat → OpV) (j : Nat) : List SV := [.int .i64 (o j).kind, .int .i64 (o j).i, .int .u64 (o j).old, .int .u64 (o j).new, .bool (o j).far, .bool (o j).wide]
def erV : Bool → SV
  | true => .iface 87 (.ptr 3 0)
  | false => .niliface
def erE : Bool → HE
  | true => .opq
  | false => .absent

/-- an arena's state: its words, steps, last step, whether there was trouble -/
structure ArS where
  (ws : List Int) (st kd wd vl : Int) (ch e : Bool)
def apT (n cap : Nat) : Nat × ArS → List (Nat × SV)
  | (i, _) => [(0, .slice 0 0 n cap), (3, .tt), (4, .ptr 2 0), (5, .int .i64 i)]
def apH (n : Nat) (o : Nat → OpV) : Nat × ArS → List HE
  | (_, ⟨ws, st, kd, wd, vl, ch, e⟩) => [.obj (.rows n 6 (opRow o)), WO ws, AO 1 8 st kd wd vl (.bool ch) (erV e), erE e]
structure MidS where
  (w old v kd3 : Int)
def miT (n cap : Nat) (i : Nat) : MidS → List (Nat × SV)
  | ⟨w, old, v, kd3⟩ => [(0, .slice 0 0 n cap), (3, .tt), (4, .ptr 2 0), (5, .int .i64 i), (7, .int .i64 w), (8, .int .u64 old), (9, .int .u64 v), (10, .sbuf 4 1 0 8), (46, .int .i64 kd3)]
def miH (n : Nat) (o : Nat → OpV) : ArS → List HE
  | ⟨ws, st, kd, wd, vl, ch, e⟩ => [.obj (.rows n 6 (opRow o)), WO ws, AO 1 8 st kd wd vl (.bool ch) (erV e), erE e, BO ws]
def jnT (n cap : Nat) (i : Nat) (w v : Int) (_ : ArS) : List (Nat × SV) := [(0, .slice 0 0 n cap), (3, .tt), (4, .ptr 2 0), (5, .int .i64 i), (7, .int .i64 w), (9, .int .u64 v), (10, .sbuf 4 1 0 8)]
def jnH (n : Nat) (o : Nat → OpV) (was : List Int) : ArS → List HE
  | ⟨ws, st, kd, wd, vl, ch, e⟩ => [.obj (.rows n 6 (opRow o)), WO ws, AO 1 8 st kd wd vl (.bool ch) (erV e), erE e, BO was]
def lkT (n cap : Nat) (i : Nat) (w v : Int) (ch : Bool) (k : Nat) : List (Nat × SV) := [(0, .slice 0 0 n cap), (3, .tt), (4, .ptr 2 0), (5, .int .i64 i), (7, .int .i64 w), (9, .int .u64 v), (10, .sbuf 4 1 0 8), (11, .sbuf 5 1 0 8), (12, .bool ch), (13, .int .i64 k)]
def lkH (n : Nat) (o : Nat → OpV) (was : List Int) : ArS → List HE
  | ⟨ws, st, kd, wd, vl, ch, e⟩ => [.obj (.rows n 6 (opRow o)), WO ws, AO 1 8 st kd wd vl (.bool ch) (erV e), erE e, BO was, BO ws]

/-- what a step upon a word has done -/
structure Did (was : List Int) (w v : Int) (a : ArS) : Prop where
  len : a.ws.length = 8
  at' : a.wd = w
  hit : a.ch = true → 0 ≤ w ∧ w < 8 ∧ a.ws.getD w.toNat 0 = v
  oth : ∀ k : Nat, k < 8 → a.ws.getD k 0 ≠ was.getD k 0 → (k : Int) = w ∧ a.ch = true

theorem wordsC {ws : List Int} {n : Nat} (h : ws.length = n) : List.take (mulS 0 1) [] ++ List.take (mulS n 1) (List.drop 0 ws) = ws := by
  simp [mulS, ← h]

theorem wi64 {n : Int} (h1 : -9223372036854775808 ≤ n) (h2 : n < 9223372036854775808) : IntKind.i64.wrap n = n := by
  rw [IntKind.wrap_i64]; omega
theorem wi1 {k : Nat} (h : k < 1000000) : IntKind.i64.wrap ((k : Int) + 1) = ((k + 1 : Nat) : Int) := by
  rw [wi64 (by omega) (by omega)]; omega


theorem did_same {ws : List Int} {w v st kd vl : Int} {e : Bool} (hw : ws.length = 8) : Did ws w v ⟨ws, st, kd, w, vl, false, e⟩ :=
  ⟨hw, rfl, fun h => by simp at h, fun k _ h => absurd rfl h⟩
theorem did_set {ws : List Int} {w v st kd vl : Int} {e : Bool} (hw : ws.length = 8) (h1 : 0 ≤ w) (h2 : w < 8) : Did ws w v ⟨ws.set w.toNat v, st, kd, w, vl, true, e⟩ := by
  refine ⟨by simpa using hw, rfl, fun _ => ⟨h1, h2, ?_⟩, fun k hk h => ⟨?_, rfl⟩⟩
  · rw [List.getD_eq_getElem?_getD, List.getElem?_set_self (by omega)]; rfl
  · rcases Decidable.em ((k : Int) = w) with h3 | h3
    · exact h3
    · exfalso; apply h
      have : w.toNat ≠ k := by omega
      simp [this]

set_option maxHeartbeats 4000000 in
theorem apart_fn (n cap : Nat) (o : Nat → OpV) : Gives Try.prog 4 [.slice 0 0 n cap] [.obj (.rows n 6 (opRow o))] (Is .tt [.obj (.rows n 6 (opRow o))]) := by
  refine gives_x hX0 (fn := Try.f4) rfl rfl rfl rfl fun ρ0 w0 => ?_
  refine sx hX0 (List.replicate 100 .C) 2000 rfl (by simp [conjP]) ?_
  refine ss_sub hX0 (T' := apT n cap ⟨0, [0, 0, 0, 0, 0, 0, 0, 0], 0, 0, 0, 0, false, false⟩) (H' := apH n o ⟨0, [0, 0, 0, 0, 0, 0, 0, 0], 0, 0, 0, 0, false, false⟩) [0, 8, 9, 99] rfl rfl rfl rfl (by repeat' (first | exact rfl | exact trivial | exact sim_refl _ | refine And.intro ?_ ?_)) (by repeat' (first | exact rfl | exact trivial | exact sim_refl _ | refine And.intro ?_ ?_)) (by repeat' (first | exact rfl | exact trivial | exact sim_refl _ | refine And.intro ?_ ?_)) (by repeat' (first | exact rfl | exact trivial | exact sim_refl _ | refine And.intro ?_ ?_)) ?_
  refine ss_loop hX0 (apT n cap) (apH n o) (fun x => x.1 ≤ 30 ∧ x.2.ws.length = 8) (fun x => 30 - x.1) _ ⟨by decide, by decide⟩ ?_
  rintro ⟨i, ws, st, kd, wd, vl, ch, e⟩ ⟨hi, hw⟩ I back
  simp only at hi hw back
  refine sx hX0 [] 2000 rfl trivial ?_
  refine ss_guard hX0 rfl (fun h1 => ?_) (fun h1 => ?_)
  · refine sx hX0 [] 2000 rfl trivial ?_
    refine ss_cond hX0 rfl (fun h2 => ?_) (fun h2 => ?_)
    · simp at h1 h2
      refine' ss_via hX0 (miT n cap i) (fun _ => miH n o ⟨ws, st, kd, wd, vl, ch, e⟩) (fun _ => True) (fun J => ?first) (fun x _ => ?rest)
      case first =>
        cases hf : (o i).far <;> cases hwi : (o i).wide
        · refine sxb hX0 [.b 2] [.F, .F, .C] 2000 rfl (by simp [conjP, hf, hwi, h1, hw]) ?_
          refine J ⟨_, _, _, _⟩ trivial _ _ _ (sub_of [0, 1, 2, 3, 8] rfl rfl rfl rfl (by repeat' (first | exact rfl | exact trivial | exact sim_refl _ | refine And.intro ?_ ?_)) (by cases e <;> repeat' (first | exact rfl | exact trivial | exact sim_refl _ | exact wordsC (by assumption) | exact wi1 (by omega) | refine And.intro ?_ ?_)) (by repeat' (first | exact rfl | exact trivial | exact sim_refl _ | refine And.intro ?_ ?_)) (by cases e <;> repeat' (first | exact rfl | exact trivial | exact sim_refl _ | exact wordsC (by assumption) | exact wi1 (by omega) | refine And.intro ?_ ?_)))
        · refine sxb hX0 [.b 2] [.F, .T, .C] 2000 rfl (by simp [conjP, hf, hwi, h1, hw]) ?_
          refine J ⟨_, _, _, _⟩ trivial _ _ _ (sub_of [0, 1, 2, 3, 8] rfl rfl rfl rfl (by repeat' (first | exact rfl | exact trivial | exact sim_refl _ | refine And.intro ?_ ?_)) (by cases e <;> repeat' (first | exact rfl | exact trivial | exact sim_refl _ | exact wordsC (by assumption) | exact wi1 (by omega) | refine And.intro ?_ ?_)) (by repeat' (first | exact rfl | exact trivial | exact sim_refl _ | refine And.intro ?_ ?_)) (by cases e <;> repeat' (first | exact rfl | exact trivial | exact sim_refl _ | exact wordsC (by assumption) | exact wi1 (by omega) | refine And.intro ?_ ?_)))
        · refine sxb hX0 [.b 2] [.T, .F, .C] 2000 rfl (by simp [conjP, hf, hwi, h1, hw]) ?_
          refine J ⟨_, _, _, _⟩ trivial _ _ _ (sub_of [0, 1, 2, 3, 8] rfl rfl rfl rfl (by repeat' (first | exact rfl | exact trivial | exact sim_refl _ | refine And.intro ?_ ?_)) (by cases e <;> repeat' (first | exact rfl | exact trivial | exact sim_refl _ | exact wordsC (by assumption) | exact wi1 (by omega) | refine And.intro ?_ ?_)) (by repeat' (first | exact rfl | exact trivial | exact sim_refl _ | refine And.intro ?_ ?_)) (by cases e <;> repeat' (first | exact rfl | exact trivial | exact sim_refl _ | exact wordsC (by assumption) | exact wi1 (by omega) | refine And.intro ?_ ?_)))
        · refine sxb hX0 [.b 2] [.T, .T, .C] 2000 rfl (by simp [conjP, hf, hwi, h1, hw]) ?_
          refine J ⟨_, _, _, _⟩ trivial _ _ _ (sub_of [0, 1, 2, 3, 8] rfl rfl rfl rfl (by repeat' (first | exact rfl | exact trivial | exact sim_refl _ | refine And.intro ?_ ?_)) (by cases e <;> repeat' (first | exact rfl | exact trivial | exact sim_refl _ | exact wordsC (by assumption) | exact wi1 (by omega) | refine And.intro ?_ ?_)) (by repeat' (first | exact rfl | exact trivial | exact sim_refl _ | refine And.intro ?_ ?_)) (by cases e <;> repeat' (first | exact rfl | exact trivial | exact sim_refl _ | exact wordsC (by assumption) | exact wi1 (by omega) | refine And.intro ?_ ?_)))
      case rest =>
        obtain ⟨w, old, v, kd3⟩ := x
        refine ss_join hX0 (jnT n cap i w v) (jnH n o ws) (Did ws w v) (fun a hd => ?_) (fun J back2 => ?_)
        · obtain ⟨ws', st', kd', wd', vl', ch', e'⟩ := a
          obtain ⟨d1, d2, d3, d4⟩ := hd
          simp only at d1 d2 d3 d4
          subst d2
          refine sx hX0 [] 2000 rfl (by simp [conjP, d1]) ?_
          refine ss_sub hX0 (T' := lkT n cap i wd' v ch' 0) (H' := lkH n o ws ⟨ws', st', kd', wd', vl', ch', e'⟩) [0, 1, 2, 3, 4, 6] rfl rfl rfl rfl (by repeat' (first | exact rfl | exact trivial | exact sim_refl _ | refine And.intro ?_ ?_)) (by cases e' <;> repeat' (first | exact rfl | exact trivial | exact sim_refl _ | exact wordsC (by assumption) | exact wi1 (by omega) | refine And.intro ?_ ?_)) (by repeat' (first | exact rfl | exact trivial | exact sim_refl _ | refine And.intro ?_ ?_)) (by cases e' <;> repeat' (first | exact rfl | exact trivial | exact sim_refl _ | exact wordsC (by assumption) | exact wi1 (by omega) | refine And.intro ?_ ?_)) ?_
          refine ss_loop hX0 (lkT n cap i wd' v ch') (fun _ => lkH n o ws ⟨ws', st', kd', wd', vl', ch', e'⟩) (fun k => k ≤ 8) (fun k => 8 - k) _ (by decide) ?_
          intro k hk I3 back3
          refine sx hX0 [] 2000 rfl trivial ?_
          refine ss_cond hX0 rfl (fun h3 => ?_) (fun h3 => ?_)
          · simp at h3
            by_cases hne : ws'.getD k 0 = ws.getD k 0
            · refine sx hX0 [.F] 2000 rfl (by simp [conjP, cellOff]; simp at hne; omega) ?_
              exact back3 (k + 1) (by omega) (by omega) _ _ _ (sub_of [0, 1, 2, 3, 4, 5] rfl rfl rfl rfl (by cases e' <;> repeat' (first | exact rfl | exact trivial | exact sim_refl _ | exact wordsC (by assumption) | exact wi1 (by omega) | refine And.intro ?_ ?_)) (by cases e' <;> repeat' (first | exact rfl | exact trivial | exact sim_refl _ | exact wordsC (by assumption) | exact wi1 (by omega) | refine And.intro ?_ ?_)) (by repeat' (first | exact rfl | exact trivial | exact sim_refl _ | refine And.intro ?_ ?_)) (by cases e' <;> repeat' (first | exact rfl | exact trivial | exact sim_refl _ | exact wordsC (by assumption) | exact wi1 (by omega) | refine And.intro ?_ ?_)))
            · obtain ⟨q1, q2⟩ := d4 k (by omega) hne
              refine sx hX0 [.T, .F, .T] 2000 rfl (by simp [conjP, cellOff, q2]; simp at hne; omega) ?_
              exact back3 (k + 1) (by omega) (by omega) _ _ _ (sub_of [0, 1, 2, 3, 4, 5] rfl rfl rfl rfl (by cases e' <;> repeat' (first | exact rfl | exact trivial | exact sim_refl _ | exact wordsC (by assumption) | exact wi1 (by omega) | refine And.intro ?_ ?_)) (by cases e' <;> repeat' (first | exact rfl | exact trivial | exact sim_refl _ | exact wordsC (by assumption) | exact wi1 (by omega) | refine And.intro ?_ ?_)) (by repeat' (first | exact rfl | exact trivial | exact sim_refl _ | refine And.intro ?_ ?_)) (by cases e' <;> repeat' (first | exact rfl | exact trivial | exact sim_refl _ | exact wordsC (by assumption) | exact wi1 (by omega) | refine And.intro ?_ ?_)))
          · cases hc : ch'
            · refine sx hX0 [.F, .F, .F] 2000 rfl (by simp [conjP]) ?_
              exact back ⟨i + 1, ⟨ws', st', kd', wd', vl', false, e'⟩⟩ ⟨by simp only; omega, by simp only; exact d1⟩ (by simp only; omega) _ _ _ (sub_of [0, 1, 2, 3] rfl rfl rfl rfl (by cases e' <;> repeat' (first | exact rfl | exact trivial | exact sim_refl _ | exact wordsC (by assumption) | exact wi1 (by omega) | refine And.intro ?_ ?_)) (by cases e' <;> repeat' (first | exact rfl | exact trivial | exact sim_refl _ | exact wordsC (by assumption) | exact wi1 (by omega) | refine And.intro ?_ ?_)) (by repeat' (first | exact rfl | exact trivial | exact sim_refl _ | refine And.intro ?_ ?_)) (by cases e' <;> repeat' (first | exact rfl | exact trivial | exact sim_refl _ | exact wordsC (by assumption) | exact wi1 (by omega) | refine And.intro ?_ ?_)))
            · obtain ⟨q1, q2, q3⟩ := d3 hc
              refine sx hX0 [.F, .T, .F] 2000 rfl (by simp [conjP, cellOff]; simp at q3; omega) ?_
              exact back ⟨i + 1, ⟨ws', st', kd', wd', vl', true, e'⟩⟩ ⟨by simp only; omega, by simp only; exact d1⟩ (by simp only; omega) _ _ _ (sub_of [0, 1, 2, 3] rfl rfl rfl rfl (by cases e' <;> repeat' (first | exact rfl | exact trivial | exact sim_refl _ | exact wordsC (by assumption) | exact wi1 (by omega) | refine And.intro ?_ ?_)) (by cases e' <;> repeat' (first | exact rfl | exact trivial | exact sim_refl _ | exact wordsC (by assumption) | exact wi1 (by omega) | refine And.intro ?_ ?_)) (by repeat' (first | exact rfl | exact trivial | exact sim_refl _ | refine And.intro ?_ ?_)) (by cases e' <;> repeat' (first | exact rfl | exact trivial | exact sim_refl _ | exact wordsC (by assumption) | exact wi1 (by omega) | refine And.intro ?_ ?_)))
        · have hcl : ∀ a : Int, (a < 0 ∨ 8 ≤ a) ∨ (0 ≤ a ∧ a < 8) := fun a => by omega
          by_cases k0 : kd3 = 0
          · rcases hcl w with (hn | hg) | ⟨hin1, hin2⟩
            · cases e
              · refine sx hX0 [.T, .T, .C] 2000 rfl (by simp [conjP, k0]; omega) ?_
                exact back2 ⟨ws, _, _, w, _, false, true⟩ (did_same hw) _ _ _ (sub_of [0, 1, 2, 6, 4] rfl rfl rfl rfl (by repeat' (first | exact rfl | exact trivial | exact sim_refl _ | refine And.intro ?_ ?_)) (by repeat' (first | exact rfl | exact trivial | exact sim_refl _ | refine And.intro ?_ ?_)) (by repeat' (first | exact rfl | exact trivial | exact sim_refl _ | refine And.intro ?_ ?_)) (by repeat' (first | exact rfl | exact trivial | exact sim_refl _ | refine And.intro ?_ ?_)))
              · refine sx hX0 [.T, .T] 2000 rfl (by simp [conjP, k0]; omega) ?_
                exact back2 ⟨ws, _, _, w, _, false, true⟩ (did_same hw) _ _ _ (sub_of [0, 1, 2, 3, 4] rfl rfl rfl rfl (by repeat' (first | exact rfl | exact trivial | exact sim_refl _ | refine And.intro ?_ ?_)) (by repeat' (first | exact rfl | exact trivial | exact sim_refl _ | refine And.intro ?_ ?_)) (by repeat' (first | exact rfl | exact trivial | exact sim_refl _ | refine And.intro ?_ ?_)) (by repeat' (first | exact rfl | exact trivial | exact sim_refl _ | refine And.intro ?_ ?_)))
            · cases e
              · refine sx hX0 [.T, .F, .T, .C] 2000 rfl (by simp [conjP, k0]; omega) ?_
                exact back2 ⟨ws, _, _, w, _, false, true⟩ (did_same hw) _ _ _ (sub_of [0, 1, 2, 6, 4] rfl rfl rfl rfl (by repeat' (first | exact rfl | exact trivial | exact sim_refl _ | refine And.intro ?_ ?_)) (by repeat' (first | exact rfl | exact trivial | exact sim_refl _ | refine And.intro ?_ ?_)) (by repeat' (first | exact rfl | exact trivial | exact sim_refl _ | refine And.intro ?_ ?_)) (by repeat' (first | exact rfl | exact trivial | exact sim_refl _ | refine And.intro ?_ ?_)))
              · refine sx hX0 [.T, .F, .T] 2000 rfl (by simp [conjP, k0]; omega) ?_
                exact back2 ⟨ws, _, _, w, _, false, true⟩ (did_same hw) _ _ _ (sub_of [0, 1, 2, 3, 4] rfl rfl rfl rfl (by repeat' (first | exact rfl | exact trivial | exact sim_refl _ | refine And.intro ?_ ?_)) (by repeat' (first | exact rfl | exact trivial | exact sim_refl _ | refine And.intro ?_ ?_)) (by repeat' (first | exact rfl | exact trivial | exact sim_refl _ | refine And.intro ?_ ?_)) (by repeat' (first | exact rfl | exact trivial | exact sim_refl _ | refine And.intro ?_ ?_)))
            · refine sx hX0 [.T, .F, .F] 2000 rfl (by simp [conjP, k0]; omega) ?_
              exact back2 ⟨ws, _, _, w, _, false, e⟩ (did_same hw) _ _ _ (sub_of [0, 1, 2, 3, 4] rfl rfl rfl rfl (by repeat' (first | exact rfl | exact trivial | exact sim_refl _ | refine And.intro ?_ ?_)) (by cases e <;> repeat' (first | exact rfl | exact trivial | exact sim_refl _ | exact wordsC (by assumption) | exact wi1 (by omega) | refine And.intro ?_ ?_)) (by repeat' (first | exact rfl | exact trivial | exact sim_refl _ | refine And.intro ?_ ?_)) (by cases e <;> repeat' (first | exact rfl | exact trivial | exact sim_refl _ | exact wordsC (by assumption) | exact wi1 (by omega) | refine And.intro ?_ ?_)))
          · by_cases k1 : kd3 = 1
            · rcases hcl w with (hn | hg) | ⟨hin1, hin2⟩
              · cases e
                · refine sx hX0 [.F, .T, .T, .C] 2000 rfl (by simp [conjP, k0, k1]; omega) ?_
                  exact back2 ⟨ws, _, _, w, _, false, true⟩ (did_same hw) _ _ _ (sub_of [0, 1, 2, 6, 4] rfl rfl rfl rfl (by repeat' (first | exact rfl | exact trivial | exact sim_refl _ | refine And.intro ?_ ?_)) (by repeat' (first | exact rfl | exact trivial | exact sim_refl _ | refine And.intro ?_ ?_)) (by repeat' (first | exact rfl | exact trivial | exact sim_refl _ | refine And.intro ?_ ?_)) (by repeat' (first | exact rfl | exact trivial | exact sim_refl _ | refine And.intro ?_ ?_)))
                · refine sx hX0 [.F, .T, .T] 2000 rfl (by simp [conjP, k0, k1]; omega) ?_
                  exact back2 ⟨ws, _, _, w, _, false, true⟩ (did_same hw) _ _ _ (sub_of [0, 1, 2, 3, 4] rfl rfl rfl rfl (by repeat' (first | exact rfl | exact trivial | exact sim_refl _ | refine And.intro ?_ ?_)) (by repeat' (first | exact rfl | exact trivial | exact sim_refl _ | refine And.intro ?_ ?_)) (by repeat' (first | exact rfl | exact trivial | exact sim_refl _ | refine And.intro ?_ ?_)) (by repeat' (first | exact rfl | exact trivial | exact sim_refl _ | refine And.intro ?_ ?_)))
              · cases e
                · refine sx hX0 [.F, .T, .F, .T, .C] 2000 rfl (by simp [conjP, k0, k1]; omega) ?_
                  exact back2 ⟨ws, _, _, w, _, false, true⟩ (did_same hw) _ _ _ (sub_of [0, 1, 2, 6, 4] rfl rfl rfl rfl (by repeat' (first | exact rfl | exact trivial | exact sim_refl _ | refine And.intro ?_ ?_)) (by repeat' (first | exact rfl | exact trivial | exact sim_refl _ | refine And.intro ?_ ?_)) (by repeat' (first | exact rfl | exact trivial | exact sim_refl _ | refine And.intro ?_ ?_)) (by repeat' (first | exact rfl | exact trivial | exact sim_refl _ | refine And.intro ?_ ?_)))
                · refine sx hX0 [.F, .T, .F, .T] 2000 rfl (by simp [conjP, k0, k1]; omega) ?_
                  exact back2 ⟨ws, _, _, w, _, false, true⟩ (did_same hw) _ _ _ (sub_of [0, 1, 2, 3, 4] rfl rfl rfl rfl (by repeat' (first | exact rfl | exact trivial | exact sim_refl _ | refine And.intro ?_ ?_)) (by repeat' (first | exact rfl | exact trivial | exact sim_refl _ | refine And.intro ?_ ?_)) (by repeat' (first | exact rfl | exact trivial | exact sim_refl _ | refine And.intro ?_ ?_)) (by repeat' (first | exact rfl | exact trivial | exact sim_refl _ | refine And.intro ?_ ?_)))
              · refine sx hX0 [.F, .T, .F, .F] 2000 rfl (by simp [conjP, k0, k1]; omega) ?_
                exact back2 ⟨ws.set w.toNat v, _, _, w, _, true, e⟩ (did_set hw hin1 hin2) _ _ _ (sub_of [0, 1, 2, 3, 4] rfl rfl rfl rfl (by repeat' (first | exact rfl | exact trivial | exact sim_refl _ | refine And.intro ?_ ?_)) (by cases e <;> repeat' (first | exact rfl | exact trivial | exact sim_refl _ | exact wordsC (by assumption) | exact wi1 (by omega) | refine And.intro ?_ ?_)) (by repeat' (first | exact rfl | exact trivial | exact sim_refl _ | refine And.intro ?_ ?_)) (by cases e <;> repeat' (first | exact rfl | exact trivial | exact sim_refl _ | exact wordsC (by assumption) | exact wi1 (by omega) | refine And.intro ?_ ?_)))
            · rcases hcl w with (hn | hg) | ⟨hin1, hin2⟩
              · cases e
                · refine sx hX0 [.F, .F, .T, .C] 2000 rfl (by simp [conjP, k0, k1]; omega) ?_
                  exact back2 ⟨ws, _, _, w, _, false, true⟩ (did_same hw) _ _ _ (sub_of [0, 1, 2, 7, 4] rfl rfl rfl rfl (by repeat' (first | exact rfl | exact trivial | exact sim_refl _ | refine And.intro ?_ ?_)) (by repeat' (first | exact rfl | exact trivial | exact sim_refl _ | refine And.intro ?_ ?_)) (by repeat' (first | exact rfl | exact trivial | exact sim_refl _ | refine And.intro ?_ ?_)) (by repeat' (first | exact rfl | exact trivial | exact sim_refl _ | refine And.intro ?_ ?_)))
                · refine sx hX0 [.F, .F, .T] 2000 rfl (by simp [conjP, k0, k1]; omega) ?_
                  exact back2 ⟨ws, _, _, w, _, false, true⟩ (did_same hw) _ _ _ (sub_of [0, 1, 2, 3, 4] rfl rfl rfl rfl (by repeat' (first | exact rfl | exact trivial | exact sim_refl _ | refine And.intro ?_ ?_)) (by repeat' (first | exact rfl | exact trivial | exact sim_refl _ | refine And.intro ?_ ?_)) (by repeat' (first | exact rfl | exact trivial | exact sim_refl _ | refine And.intro ?_ ?_)) (by repeat' (first | exact rfl | exact trivial | exact sim_refl _ | refine And.intro ?_ ?_)))
              · cases e
                · refine sx hX0 [.F, .F, .F, .T, .C] 2000 rfl (by simp [conjP, k0, k1]; omega) ?_
                  exact back2 ⟨ws, _, _, w, _, false, true⟩ (did_same hw) _ _ _ (sub_of [0, 1, 2, 7, 4] rfl rfl rfl rfl (by repeat' (first | exact rfl | exact trivial | exact sim_refl _ | refine And.intro ?_ ?_)) (by repeat' (first | exact rfl | exact trivial | exact sim_refl _ | refine And.intro ?_ ?_)) (by repeat' (first | exact rfl | exact trivial | exact sim_refl _ | refine And.intro ?_ ?_)) (by repeat' (first | exact rfl | exact trivial | exact sim_refl _ | refine And.intro ?_ ?_)))
                · refine sx hX0 [.F, .F, .F, .T] 2000 rfl (by simp [conjP, k0, k1]; omega) ?_
                  exact back2 ⟨ws, _, _, w, _, false, true⟩ (did_same hw) _ _ _ (sub_of [0, 1, 2, 3, 4] rfl rfl rfl rfl (by repeat' (first | exact rfl | exact trivial | exact sim_refl _ | refine And.intro ?_ ?_)) (by repeat' (first | exact rfl | exact trivial | exact sim_refl _ | refine And.intro ?_ ?_)) (by repeat' (first | exact rfl | exact trivial | exact sim_refl _ | refine And.intro ?_ ?_)) (by repeat' (first | exact rfl | exact trivial | exact sim_refl _ | refine And.intro ?_ ?_)))
              · by_cases hh : ws.getD w.toNat 0 = old
                · refine sx hX0 [.F, .F, .F, .F, .F] 2000 rfl (by simp [conjP, k0, k1]; simp at hh; omega) ?_
                  exact back2 ⟨ws.set w.toNat v, _, _, w, _, true, e⟩ (did_set hw hin1 hin2) _ _ _ (sub_of [0, 1, 2, 3, 4] rfl rfl rfl rfl (by repeat' (first | exact rfl | exact trivial | exact sim_refl _ | refine And.intro ?_ ?_)) (by cases e <;> repeat' (first | exact rfl | exact trivial | exact sim_refl _ | exact wordsC (by assumption) | exact wi1 (by omega) | refine And.intro ?_ ?_)) (by repeat' (first | exact rfl | exact trivial | exact sim_refl _ | refine And.intro ?_ ?_)) (by cases e <;> repeat' (first | exact rfl | exact trivial | exact sim_refl _ | exact wordsC (by assumption) | exact wi1 (by omega) | refine And.intro ?_ ?_)))
                · refine sx hX0 [.F, .F, .F, .F, .T] 2000 rfl (by simp [conjP, k0, k1]; simp at hh; omega) ?_
                  exact back2 ⟨ws, _, _, w, _, false, e⟩ (did_same hw) _ _ _ (sub_of [0, 1, 2, 3, 4] rfl rfl rfl rfl (by repeat' (first | exact rfl | exact trivial | exact sim_refl _ | refine And.intro ?_ ?_)) (by cases e <;> repeat' (first | exact rfl | exact trivial | exact sim_refl _ | exact wordsC (by assumption) | exact wi1 (by omega) | refine And.intro ?_ ?_)) (by repeat' (first | exact rfl | exact trivial | exact sim_refl _ | refine And.intro ?_ ?_)) (by cases e <;> repeat' (first | exact rfl | exact trivial | exact sim_refl _ | exact wordsC (by assumption) | exact wi1 (by omega) | refine And.intro ?_ ?_)))
    · refine sx hX0 [] 2000 rfl trivial ?_
      exact ss_end hX0 [0] rfl rfl trivial rfl rfl rfl rfl rfl (by repeat' (first | exact rfl | exact trivial | exact sim_refl _ | refine And.intro ?_ ?_)) trivial (by repeat' (first | exact rfl | exact trivial | exact sim_refl _ | refine And.intro ?_ ?_))
  · refine sx hX0 [] 2000 rfl trivial ?_
    exact ss_end hX0 [0] rfl rfl trivial rfl rfl rfl rfl rfl (by repeat' (first | exact rfl | exact trivial | exact sim_refl _ | refine And.intro ?_ ?_)) trivial (by repeat' (first | exact rfl | exact trivial | exact sim_refl _ | refine And.intro ?_ ?_))

def apT0 (a : Option Addr) (_ : Unit) : List (Nat × SV) := [(0, .raw (.slice a 0 0)), (3, .tt), (4, .ptr 1 0), (5, .int .i64 0)]
def apH0 (_ : Unit) : List HE := [WO [0, 0, 0, 0, 0, 0, 0, 0], AO 0 8 0 0 0 0 .ff .niliface]
theorem apart_nil (a : Option Addr) : Gives Try.prog 4 [.raw (.slice a 0 0)] [] (Is .tt []) := by
  refine gives_x hX0 (fn := Try.f4) rfl rfl rfl rfl fun ρ0 w0 => ?_
  refine sx hX0 (List.replicate 100 .C) 2000 rfl (by simp [conjP]) ?_
  refine ss_sub hX0 (T' := apT0 a ()) (H' := apH0 ()) [7, 8] rfl rfl rfl rfl (by repeat' (first | exact rfl | exact trivial | exact sim_refl _ | refine And.intro ?_ ?_)) (by repeat' (first | exact rfl | exact trivial | exact sim_refl _ | refine And.intro ?_ ?_)) (by repeat' (first | exact rfl | exact trivial | exact sim_refl _ | refine And.intro ?_ ?_)) (by repeat' (first | exact rfl | exact trivial | exact sim_refl _ | refine And.intro ?_ ?_)) ?_
  refine ss_loop hX0 (apT0 a) apH0 (fun _ => True) (fun _ => 0) () trivial ?_
  rintro ⟨⟩ _ I back
  refine sx hX0 [.F] 2000 rfl (by simp [conjP]) ?_
  exact ss_end hX0 [] rfl rfl trivial rfl rfl rfl rfl rfl (by repeat' (first | exact rfl | exact trivial | exact sim_refl _ | refine And.intro ?_ ?_)) trivial (by repeat' (first | exact rfl | exact trivial | exact sim_refl _ | refine And.intro ?_ ?_))
end Go.Proofs.Ytbmjhlgkddhhnaa
