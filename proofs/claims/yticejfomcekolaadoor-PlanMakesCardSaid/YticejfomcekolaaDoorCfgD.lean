/- A right config by numbers. -/
import Derived.Test.YticejfomcekolaaDoorRSize
namespace Go.Proofs.YticejfomcekolaaDoor
open Go Go.Hx
set_option maxRecDepth 8000


abbrev L9 (l0 l1 l2 l3 l4 l5 l6 l7 l8 : Int) : SV := .agg [.int .i64 l0, .int .i64 l1, .int .i64 l2, .int .i64 l3, .int .i64 l4, .int .i64 l5, .int .i64 l6, .int .i64 l7, .int .i64 l8]
abbrev cfgV (l0 l1 l2 l3 l4 l5 l6 l7 l8 : Int) : SV := C9 (cAnd 7 l0) (cRem 4 29 l1) (cAnd 7 l2) (cAnd 7 l3) (cRem 4 60 l5) (cMod 13 l6) (cUp (cRem 4 60 l5) l7) (cMod 13 l8) (cAnd 7 l4)
theorem cfg_right (l0 l1 l2 l3 l4 l5 l6 l7 l8 : Int) : rightB (cAnd 7 l0) (cRem 4 29 l1) (cAnd 7 l2) (cAnd 7 l3) (cRem 4 60 l5) (cMod 13 l6) (cUp (cRem 4 60 l5) l7) (cMod 13 l8) (cAnd 7 l4) = true := by
  have h0 := cAnd7 l0
  have h1 := cRemB 4 29 l1 (by decide) (by decide) (by decide) (by decide)
  have h2 := cAnd7 l2
  have h3 := cAnd7 l3
  have h4 := cAnd7 l4
  have h5 := cRemB 4 60 l5 (by decide) (by decide) (by decide) (by decide)
  have h6 := cModB 13 l6 (by decide) (by decide)
  have h7 := cUpB (cRem 4 60 l5) l7 (by omega) (by omega)
  have h8 := cModB 13 l8 (by decide) (by decide)
  exact right_iff.2 (by omega)

theorem config_fn (l0 l1 l2 l3 l4 l5 l6 l7 l8 : Int) : Gives Tryd.prog 25 [L9 l0 l1 l2 l3 l4 l5 l6 l7 l8] [] (Is (cfgV l0 l1 l2 l3 l4 l5 l6 l7 l8) []) := by
  refine gives_x hXR (fn := Tryd.f25) rfl rfl rfl rfl fun ρ w => ?_
  refine sx hXR [] 1000 rfl (by simp [conjP, getH]) ?_
  exact ss_end hXR [] rfl rfl trivial rfl rfl rfl rfl ⟨⟨rfl, rfl⟩, ⟨rfl, rfl⟩, ⟨rfl, rfl⟩, ⟨rfl, rfl⟩, ⟨rfl, rfl⟩, ⟨rfl, rfl⟩, ⟨rfl, rfl⟩, ⟨rfl, rfl⟩, ⟨rfl, rfl⟩, trivial⟩ trivial (by (repeat' (first | exact rfl | exact trivial | exact sim_refl _ | refine And.intro ?_ ?_))) trivial

def configS : List SV → Option (List Prop × SV)
  | [.agg [.int .i64 l0, .int .i64 l1, .int .i64 l2, .int .i64 l3, .int .i64 l4, .int .i64 l5, .int .i64 l6, .int .i64 l7, .int .i64 l8]] => some ([], cfgV l0 l1 l2 l3 l4 l5 l6 l7 l8)
  | _ => none
theorem configS_ok : PureOk 25 configS := by
  intro args ob V hs _
  unfold configS at hs
  split at hs
  · simp at hs; obtain ⟨rfl, rfl⟩ := hs; exact ⟨rfl, rfl, config_fn _ _ _ _ _ _ _ _ _⟩
  · simp at hs

end Go.Proofs.YticejfomcekolaaDoor
