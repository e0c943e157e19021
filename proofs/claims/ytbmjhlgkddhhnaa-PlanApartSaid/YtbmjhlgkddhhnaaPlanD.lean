/- A right config by numbers; the places that are told of it. -/
import Derived.Test.YtbmjhlgkddhhnaaCfgL
namespace Go.Proofs.Ytbmjhlgkddhhnaa
open Go Go.Hx
set_option maxRecDepth 8000


abbrev L9 (l0 l1 l2 l3 l4 l5 l6 l7 l8 : Int) : SV := .agg [.int .i64 l0, .int .i64 l1, .int .i64 l2, .int .i64 l3, .int .i64 l4, .int .i64 l5, .int .i64 l6, .int .i64 l7, .int .i64 l8]
abbrev cfgV (l0 l1 l2 l3 l4 l5 l6 l7 l8 : Int) : SV := C9 (cAnd 7 l0) (cRem 4 29 l1) (cAnd 7 l2) (cAnd 7 l3) (cRem 4 60 l5) (cMod 13 l6) (cUp (cRem 4 60 l5) l7) (cMod 13 l8) (cAnd 7 l4)
theorem cfg_right (l0 l1 l2 l3 l4 l5 l6 l7 l8 : Int) : rightB (cAnd 7 l0) (cRem 4 29 l1) (cAnd 7 l2) (cAnd 7 l3) (cRem 4 60 l5) (cMod 13 l6) (cUp (cRem 4 60 l5) l7) (cMod 13 l8) (cAnd 7 l4) = true := by
  have h0 := cAnd7 l0
  have h1 := cRemB 4 29 l1 (by decide) (by decide) (by decide) (by decide)
  have h2 := cAnd7 l2
  have h3 := cAnd7 l3
  have h4 := cAnd7 l4
  have h5 := cRemB 4 60 l5 (by decide) (by decide) (by decide) (by decide)
  have h6 := cModB 13 l6 (by decide) (by decide)
  have h7 := cUpB (cRem 4 60 l5) l7 (by omega) (by omega)
  have h8 := cModB 13 l8 (by decide) (by decide)
  exact right_iff.2 (by omega)

theorem config_fn (l0 l1 l2 l3 l4 l5 l6 l7 l8 : Int) : Gives Try.prog 17 [L9 l0 l1 l2 l3 l4 l5 l6 l7 l8] [] (Is (cfgV l0 l1 l2 l3 l4 l5 l6 l7 l8) []) := by
  refine gives_x hXR (fn := Try.f17) rfl rfl rfl rfl fun ρ w => ?_
  refine sx hXR [] 1000 rfl (by simp [conjP, getH]) ?_
  exact ss_end hXR [] rfl rfl trivial rfl rfl rfl rfl ⟨⟨rfl, rfl⟩, ⟨rfl, rfl⟩, ⟨rfl, rfl⟩, ⟨rfl, rfl⟩, ⟨rfl, rfl⟩, ⟨rfl, rfl⟩, ⟨rfl, rfl⟩, ⟨rfl, rfl⟩, ⟨rfl, rfl⟩, trivial⟩ trivial (by repeat' (first | exact rfl | exact trivial | exact sim_refl _ | refine And.intro ?_ ?_)) trivial

def headV (i : Int) : Int := if 0 ≤ i ∧ i ≤ 1 then 3 + i else -1
theorem head_fn (i : Int) : Gives Try.prog 23 [.int .i64 i] [] (Is (.int .i64 (headV i)) []) := by
  refine gives_x hXR (fn := Try.f23) rfl rfl rfl rfl fun ρ w => ?_
  by_cases h1 : i < 0
  · refine sx hXR [.T] 1000 rfl (by simp [conjP]; omega) ?_
    exact ss_end hXR [] rfl rfl trivial rfl rfl rfl rfl ⟨rfl, by rw [headV, if_neg (by omega)]⟩ trivial (by repeat' (first | exact rfl | exact trivial | exact sim_refl _ | refine And.intro ?_ ?_)) trivial
  · by_cases h2 : 1 < i
    · refine sx hXR [.F, .T] 1000 rfl (by simp [conjP]; omega) ?_
      exact ss_end hXR [] rfl rfl trivial rfl rfl rfl rfl ⟨rfl, by rw [headV, if_neg (by omega)]⟩ trivial (by repeat' (first | exact rfl | exact trivial | exact sim_refl _ | refine And.intro ?_ ?_)) trivial
    · refine sx hXR [.F, .F] 1000 rfl (by simp [conjP]; omega) ?_
      exact ss_end hXR [] rfl rfl trivial rfl rfl rfl rfl ⟨rfl, by rw [headV, if_pos (by omega)]; exact wi64 (by omega) (by omega)⟩ trivial (by repeat' (first | exact rfl | exact trivial | exact sim_refl _ | refine And.intro ?_ ?_)) trivial

def headS : List SV → Option (List Prop × SV)
  | [.int .i64 i] => some ([], .int .i64 (headV i))
  | _ => none
theorem headS_ok : PureOk 23 headS := by
  intro args ob V hs _
  unfold headS at hs
  split at hs
  · simp at hs; obtain ⟨rfl, rfl⟩ := hs; exact ⟨rfl, rfl, head_fn _⟩
  · simp at hs
def configS : List SV → Option (List Prop × SV)
  | [.agg [.int .i64 l0, .int .i64 l1, .int .i64 l2, .int .i64 l3, .int .i64 l4, .int .i64 l5, .int .i64 l6, .int .i64 l7, .int .i64 l8]] => some ([], cfgV l0 l1 l2 l3 l4 l5 l6 l7 l8)
  | _ => none
theorem configS_ok : PureOk 17 configS := by
  intro args ob V hs _
  unfold configS at hs
  split at hs
  · simp at hs; obtain ⟨rfl, rfl⟩ := hs; exact ⟨rfl, rfl, config_fn _ _ _ _ _ _ _ _ _⟩
  · simp at hs

/-- What is known of places. -/
def ctP : Nat → Option Hx.Spec
  | 42 => some (pureS rightS)
  | 20 => some (pureS blocksS)
  | 22 => some (pureS sizeS)
  | 23 => some (pureS headS)
  | 24 => some (pureS (placeS slotF))
  | 36 => some (pureS (placeS slotF))
  | 25 => some (pureS (placeS entryF))
  | 37 => some (pureS (placeS entryF))
  | 26 => some (pureS (placeS ctlF))
  | 38 => some (pureS (placeS ctlF))
  | 27 => some (pureS (buffS bufF))
  | 39 => some (pureS (buffS bufF))
  | 28 => some (pureS (placeS classF))
  | 41 => some (pureS (placeS classF))
  | 29 => some (pureS (placeS blockF))
  | 40 => some (pureS (placeS blockF))
  | 17 => some (pureS configS)
  | _ => none
theorem ctP_ok : ∀ f s args H ob V L, ctP f = some s → s args H = some (ob, V, L) → AllP ob → Gives Try.prog f args H (Is V L) := by
  intro f s args H ob V L h hs ho
  unfold ctP at h
  split at h
  · simp at h; subst h; exact pureS_ok ⟨_, hTE⟩ (rightS_ok right42) hs ho
  · simp at h; subst h; exact pureS_ok ⟨_, hTE⟩ blocksS_ok hs ho
  · simp at h; subst h; exact pureS_ok ⟨_, hTE⟩ sizeS_ok hs ho
  · simp at h; subst h; exact pureS_ok ⟨_, hTE⟩ headS_ok hs ho
  · simp at h; subst h; exact pureS_ok ⟨_, hTE⟩ (placeS_ok (v := slotF) slot_fn) hs ho
  · simp at h; subst h; exact pureS_ok ⟨_, hTE⟩ (placeS_ok (v := slotF) rslot_fn) hs ho
  · simp at h; subst h; exact pureS_ok ⟨_, hTE⟩ (placeS_ok (v := entryF) entry_fn) hs ho
  · simp at h; subst h; exact pureS_ok ⟨_, hTE⟩ (placeS_ok (v := entryF) rentry_fn) hs ho
  · simp at h; subst h; exact pureS_ok ⟨_, hTE⟩ (placeS_ok (v := ctlF) ctl_fn) hs ho
  · simp at h; subst h; exact pureS_ok ⟨_, hTE⟩ (placeS_ok (v := ctlF) rctl_fn) hs ho
  · simp at h; subst h; exact pureS_ok ⟨_, hTE⟩ (buffS_ok (v := bufF) buf_fn) hs ho
  · simp at h; subst h; exact pureS_ok ⟨_, hTE⟩ (buffS_ok (v := bufF) rbuf_fn) hs ho
  · simp at h; subst h; exact pureS_ok ⟨_, hTE⟩ (placeS_ok (v := classF) class_fn) hs ho
  · simp at h; subst h; exact pureS_ok ⟨_, hTE⟩ (placeS_ok (v := classF) rclass_fn) hs ho
  · simp at h; subst h; exact pureS_ok ⟨_, hTE⟩ (placeS_ok (v := blockF) block_fn) hs ho
  · simp at h; subst h; exact pureS_ok ⟨_, hTE⟩ (placeS_ok (v := blockF) rblock_fn) hs ho
  · simp at h; subst h; exact pureS_ok ⟨_, hTE⟩ configS_ok hs ho
  · simp at h
noncomputable def XP : Tabs := tabs tr ft xt (fun _ => none) ctP 20
theorem hXP : TOk Try.prog XP := ⟨hTE, hFT, ctP_ok, hXT, fun t ks h => by simp [XP, tabs] at h, mixed⟩

theorem awake_eq : (if rightB 1 4 1 1 4 1 8 1 1 = true then sizeV 1 4 1 4 1 8 1 else 0) = 30 := by decide
end Go.Proofs.Ytbmjhlgkddhhnaa
