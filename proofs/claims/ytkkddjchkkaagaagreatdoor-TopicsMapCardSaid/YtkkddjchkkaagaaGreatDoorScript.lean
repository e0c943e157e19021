/- Of the script, of its absence, and what closes a walk; the world as made. -/
import Derived.Test.YtkkddjchkkaagaaGreatDoorWorld
import Derived.Test.YtkkddjchkkaagaaGreatDoorAwake
import Derived.Test.YtkkddjchkkaagaaGreatDoorAsVar
namespace Go.Proofs.YtkkddjchkkaagaaGreatDoor
open Go Go.Hx
set_option maxRecDepth 8000
def actR (o : Nat → Int × Int × Bool × Bool) (i : Nat) : List SV := [.int .i64 (o i).1, .int .i64 (o i).2.1, .bool (o i).2.2.1, .bool (o i).2.2.2]
/-- cause.Top, where the laid variable is the second thing. -/
def top1S : Hx.Spec := fun args H => match args with
  | [.niliface] => some ([], .int .i64 0, H)
  | [.iface 35 (.int .i64 n)] => match H with
    | _ :: .obj (.pin 0 v) :: _ => some ([v = RTV], .int .i64 n, H)
    | _ => none
  | _ => none
theorem top1S_ok {args : List SV} {H : List HE} {ob : List Prop} {V : SV} {L : List HE} (hs : top1S args H = some (ob, V, L)) (ho : AllP ob) : Gives Tryz.prog 18 args H (Is V L) := by
  unfold top1S at hs
  split at hs
  · exact topS_ok (by unfold topS; exact hs) ho
  · rename_i _ n
    split at hs
    · rename_i _ e v r
      simp only [Option.some.injEq, Prod.mk.injEq] at hs
      obtain ⟨rfl, rfl, rfl⟩ := hs
      have hv := ho _ (List.mem_cons_self ..)
      subst hv
      have := frame1 (H := e :: pinE RTV :: r) (h0 := 1) (N := []) ⟨_, hTE⟩ (top_code n) rfl rfl rfl rfl rfl
      simp only [List.map_nil, List.append_nil, SO.ren] at this
      exact this
    · simp at hs
  · simp at hs
/-- The script's actions; or there are none. -/
def scE (bb : Bool) (N : Nat) (o : Nat → Int × Int × Bool × Bool) : HE := bif bb then .obj (.rows N 4 (actR o)) else .absent
theorem ren_scE {bb : Bool} {N : Nat} {o : Nat → Int × Int × Bool × Bool} {σ : Nat → Nat} : (scE bb N o).ren σ = scE bb N o := by cases bb <;> rfl
theorem okE_scE {bb : Bool} {N : Nat} {o : Nat → Int × Int × Bool × Bool} {A : Nat → Bool} : okE A (scE bb N o) := by cases bb <;> trivial
theorem abs_gives1 {P : Program} {f : Nat} {args : List SV} {V : SV} {b : Nat} {v : Value} (hA : ∀ ρ ρ' : Nat → Nat × Nat, SV.trs ρ args = SV.trs ρ' args) (hk : ∀ A B : Nat → Bool, SV.okhs A args = SV.okhs B args) (hV : ∀ ρ ρ' : Nat → Nat × Nat, V.tr ρ = V.tr ρ') (hVk : ∀ A B : Nat → Bool, V.okh A = V.okh B)
    (h : Gives P f args [.absent, .obj (.pin b v)] (Is V [.absent, .obj (.pin b v)])) : Gives P f args [.obj (.pin b v)] (Is V [.obj (.pin b v)]) := by
  intro ρ w hS hok
  have g0 : ∀ (x : Nat) (ox : SO), ([.absent, .obj (.pin b v)] : List HE)[x]? = some (.obj ox) → x = 1 ∧ ox = .pin b v := fun x ox hx => by
    rcases x with _ | _ | x
    · simp at hx
    · simp at hx; exact ⟨rfl, hx.symm⟩
    · simp at hx
  have g1 : ∀ (x : Nat) (ox : SO), ([.obj (.pin b v)] : List HE)[x]? = some (.obj ox) → x = 0 ∧ ox = .pin b v := fun x ox hx => by
    rcases x with _ | x
    · simp at hx; exact ⟨rfl, hx.symm⟩
    · simp at hx
  have t0 : ∀ x, there ([.absent, .obj (.pin b v)] : List HE) x = true → x = 1 := fun x hx => by
    rcases x with _ | _ | x
    · simp [there, HE.there] at hx
    · rfl
    · simp [there] at hx
  have t1 : ∀ x, there ([.obj (.pin b v)] : List HE) x = true → x = 0 := fun x hx => by
    rcases x with _ | x
    · rfl
    · simp [there] at hx
  have fr0 : ∀ (ρ' : Nat → Nat × Nat) b', ¬ Own ρ' [.absent, .obj (.pin b v)] b' := fun ρ' b' ⟨x, o, hx, ho, _⟩ => by
    obtain ⟨_, rfl⟩ := g0 x o hx; simp [SO.owned] at ho
  have fr1 : ∀ (ρ' : Nat → Nat × Nat) b', ¬ Own ρ' [.obj (.pin b v)] b' := fun ρ' b' ⟨x, o, hx, ho, _⟩ => by
    obtain ⟨_, rfl⟩ := g1 x o hx; simp [SO.owned] at ho
  have hS' : HSat w (Own (fun x => ρ (x - 1)) [.absent, .obj (.pin b v)]) (fun x => ρ (x - 1)) [.absent, .obj (.pin b v)] w := by
    refine ⟨fun x o hx => ?_, fun x hx => ?_, fun x y ox oy hx hy _ => ?_, fun x o hx ho => ?_, Fr.refl _ _⟩
    · obtain ⟨rfl, rfl⟩ := g0 x o hx
      exact ⟨(hS.objs 0 _ rfl).1, rfl⟩
    · obtain rfl := t0 x hx
      exact hS.size 0 rfl
    · rw [(g0 x ox hx).1, (g0 y oy hy).1]
    · obtain ⟨_, rfl⟩ := g0 x o hx; simp [SO.owned] at ho
  have hc := h (fun x => ρ (x - 1)) w hS' (by rw [hk _ (there [.obj (.pin b v)])]; exact hok)
  rw [hA (fun x => ρ (x - 1)) ρ] at hc
  refine Calls.mono hc fun e w' he => ?_
  cases e with
  | returned VV =>
    obtain ⟨ρ', H', v', ⟨rfl, rfl⟩, h4, h5, h6, h7⟩ := he
    refine ⟨fun x => ρ' (x + 1), _, _, ⟨rfl, rfl⟩, h4.trans (hV _ _), by rw [hVk _ (there [.absent, .obj (.pin b v)])]; exact h5, ⟨fun x o hx => ?_, fun x hx => ?_, fun x y ox oy hx hy _ => ?_, fun x o hx ho => ?_, ⟨h6.fr.size, fun b' hb hn => h6.fr.same b' hb (fr0 _ _), h6.fr.io⟩⟩, fun x hx => ?_⟩
    · obtain ⟨rfl, rfl⟩ := g1 x o hx
      exact ⟨(h6.objs 1 _ rfl).1, rfl⟩
    · obtain rfl := t1 x hx
      exact h6.size 1 rfl
    · rw [(g1 x ox hx).1, (g1 y oy hy).1]
    · obtain ⟨_, rfl⟩ := g1 x o hx; simp [SO.owned] at ho
    · obtain rfl := t1 x hx
      exact ⟨(h7 1 rfl).1, rfl⟩
  | panicked c => exact he
  | outgrown => exact he
/-- What follows a round. -/
def downLp : List KI → List KI
  | [] => []
  | .lp I :: k => .lp I :: k
  | _ :: r => downLp r
theorem a3_cases (m : Int) : ibits .and .i64 m 3 = 0 ∨ ibits .and .i64 m 3 = 1 ∨ ibits .and .i64 m 3 = 2 ∨ ibits .and .i64 m 3 = 3 := by
  have := and3 m
  omega
/-- The world as made. -/
def mkQ (T : Nat) (R : Int) (v : Nat → Value) : Tq := ⟨(mkA (T : Int) 4 1 4 4 1 6 0 R).W, (mkA (T : Int) 4 1 4 4 1 6 0 R).st, 2, (mkA (T : Int) 4 1 4 4 1 6 0 R).wd, (mkA (T : Int) 4 1 4 4 1 6 0 R).vl, true, none, none, none, v 0, v 1, v 2, 0, 0, 0⟩
def vv3 (a b c : Value) : Nat → Value
  | 0 => a
  | 1 => b
  | _ => c
theorem mkQ_len {T : Nat} {R : Int} (t1 : 1 ≤ T) (t4 : T ≤ 4) : (mkA (T : Int) 4 1 4 4 1 6 0 R).W.length = 11 + 10 * T := by
  rw [mkA_len]
  unfold sizeV
  omega
theorem mkQ_bi {T : Nat} {R : Int} (t1 : 1 ≤ T) (t4 : T ≤ 4) (r1 : 1 ≤ R) (r8 : R ≤ 8) : BI T R 0 (mkA (T : Int) 4 1 4 4 1 6 0 R).W (mkA (T : Int) 4 1 4 4 1 6 0 R).st := by
  have hr := right_TR t1 t4 r1 r8
  have hst := mkA_st hr
  have w2 : (mkA (T : Int) 4 1 4 4 1 6 0 R).W.getD 2 0 = 0 := mkA_zero hr (.inl rfl)
  exact ⟨t1, t4, r1, r8, by decide, by decide, mkQ_len t1 t4, mkA_bd hr, by omega, by omega, by omega⟩
theorem cfg_cases (q0 q1 : Int) : ∃ T : Nat, 1 ≤ T ∧ T ≤ 4 ∧ cAnd 3 q0 = (T : Int) ∧ 1 ≤ cAnd 7 q1 ∧ cAnd 7 q1 ≤ 8 := by
  have h3 := cAnd3 q0
  have h7 := cAnd7 q1
  exact ⟨(cAnd 3 q0).toNat, by omega, by omega, by omega, by omega, by omega⟩
end Go.Proofs.YtkkddjchkkaagaaGreatDoor
