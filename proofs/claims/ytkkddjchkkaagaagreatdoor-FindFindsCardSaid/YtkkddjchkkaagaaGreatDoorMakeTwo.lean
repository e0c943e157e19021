/- What an arena is made as. -/
import Derived.Test.YtkkddjchkkaagaaGreatDoorMakeLaw
namespace Go.Proofs.YtkkddjchkkaagaaGreatDoor
open Go Go.Hx
set_option maxRecDepth 8000


abbrev AOm (h : Nat) (s : MkS) : HE := .obj (.cells [.slice h 0 s.W.length s.W.length, .int .i64 s.st, .int .i64 2, .int .i64 s.wd, .int .u64 s.vl, .bool true, .niliface] 151)
abbrev WOm (s : MkS) : HE := .obj (.ints .u64 s.W 52)
def mkT (_b : Nat) : MkS → List (Nat × SV)
  | _ => [(1, .ptr 0 0), (5, .ptr 2 0)]
def mkH (a0 a1 a2 a3 a4 a5 a6 a7 a8 : Int) : MkS → List HE
  | s => [.obj (.cells [.int .i64 a0, .int .i64 a1, .int .i64 a2, .int .i64 a3, .int .i64 a4, .int .i64 a5, .int .i64 a6, .int .i64 a7, .int .i64 a8] 43), WOm s, AOm 1 s]

def ctM : Nat → Option Hx.Spec
  | 143 => some (pureS rightS)
  | 95 => some (pureS blocksS)
  | 92 => some (pureS sizeS)
  | 93 => some (pureS packS)
  | 96 => some (pureS (placeS classF))
  | 97 => some (pureS (placeS blockF))
  | _ => none
theorem ctM_ok : ∀ f s args H ob V L, ctM f = some s → s args H = some (ob, V, L) → AllP ob → Gives Tryz.prog f args H (Is V L) := by
  intro f s args H ob V L h hs ho
  unfold ctM at h
  split at h
  · simp at h; subst h; exact pureS_ok ⟨_, hTE⟩ (rightS_ok right143) hs ho
  · simp at h; subst h; exact pureS_ok ⟨_, hTE⟩ (blocksS_ok) hs ho
  · simp at h; subst h; exact pureS_ok ⟨_, hTE⟩ (sizeS_ok) hs ho
  · simp at h; subst h; exact pureS_ok ⟨_, hTE⟩ (packS_ok) hs ho
  · simp at h; subst h; exact pureS_ok ⟨_, hTE⟩ (placeS_ok (v := classF) class_fn) hs ho
  · simp at h; subst h; exact pureS_ok ⟨_, hTE⟩ (placeS_ok (v := blockF) block_fn) hs ho
  · simp at h
noncomputable def XM : Tabs := tabs tr ft xt (fun _ => none) ctM 0
theorem hXM : TOk Tryz.prog (XM) := ⟨hTE, hFT, ctM_ok, hXT, fun t ks h => by simp [XM, tabs] at h, mixed⟩
noncomputable def XM1 : Tabs := tabs tr ft xt (fun _ => none) ctM 20
theorem hXM1 : TOk Tryz.prog XM1 := ⟨hTE, hFT, ctM_ok, hXT, fun t ks h => by simp [XM1, tabs] at h, mixed⟩

def mkU : Nat → List (Nat × SV)
  | m => [(1, .ptr 0 0), (5, .ptr 2 0), (9, .int .i64 ((m : Int) + 1))]

section
variable {a0 a1 a2 a3 a4 a5 a6 a7 a8 : Int}
set_option maxHeartbeats 8000000 in
theorem make_fn (hr : rightB a0 a1 a2 a3 a4 a5 a6 a7 a8 = true) : Gives Tryz.prog 27 [C9 a0 a1 a2 a3 a4 a5 a6 a7 a8] [] (Is (.tup [.ptr 1 0, .niliface]) [WOm (mkA a0 a1 a2 a3 a4 a5 a6 a7 a8), AOm 0 (mkA a0 a1 a2 a3 a4 a5 a6 a7 a8)]) := by
  have hr' := right_iff.1 hr
  obtain ⟨n1, n2⟩ := size_bd hr
  unfold mkA
  refine gives_x hXM1 (fn := Tryz.f27) rfl rfl rfl rfl fun ρ w => ?_
  refine' ss_via hXM1 (fun _ : Unit => mkT 1 (mk0 (sizeV a0 a1 a2 a4 a5 a6 a7).toNat (packV a0 a1 a2 a3 a4 a5 a6 a7 a8) a5 a7)) (fun _ => mkH a0 a1 a2 a3 a4 a5 a6 a7 a8 (mk0 (sizeV a0 a1 a2 a4 a5 a6 a7).toNat (packV a0 a1 a2 a3 a4 a5 a6 a7 a8) a5 a7)) (fun _ => True) (fun J => ?first) (fun _ _ => ?rest)
  case first =>
   by_cases h5 : 0 < a5
   · by_cases h7 : 0 < a7
     · refine sxb hXM1 [.r 15] [.F, .F, .F, .C, .F, .C, .F, .C, .T, .C, .C, .C, .F, .C, .T, .C, .C, .C, .F, .C] 4000 rfl (by simp [conjP, hr, IntKind.wrap_i64]; omega) ?_
       refine' J () trivial _ _ _ (sub_of [0, 2, 3] rfl rfl rfl rfl ?tt ?hh (by (repeat' (first | exact rfl | exact trivial | exact sim_refl _ | refine And.intro ?_ ?_))) (by (repeat' (first | exact rfl | exact trivial | exact sim_refl _ | refine And.intro ?_ ?_))))
       case tt => (repeat' (first | exact rfl | exact trivial | exact sim_refl _ | refine And.intro ?_ ?_))
       case hh =>
         have u1 : IntKind.u64.wrap (IntKind.i64.wrap (1 + a5)) = 1 + a5 := by rw [wi64 (by omega) (by omega), wu64 (by omega) (by omega)]
         have u2 : IntKind.u64.wrap 1 = 1 := by decide
         have hN : 4 < (sizeV a0 a1 a2 a4 a5 a6 a7).toNat := by omega
         have hN3 : 3 < (sizeV a0 a1 a2 a4 a5 a6 a7).toNat := by omega
         have hN1 : 1 < (sizeV a0 a1 a2 a4 a5 a6 a7).toNat := by omega
         simp only [hr, if_true]
         refine ⟨by (repeat' (first | exact rfl | exact trivial | exact sim_refl _ | refine And.intro ?_ ?_)), ⟨rfl, ?_, rfl⟩, ⟨rfl, ⟨rfl, rfl, ?_, ?_⟩, ⟨rfl, ?_⟩, ⟨rfl, rfl⟩, ⟨rfl, ?_⟩, ⟨rfl, ?_⟩, rfl, rfl, trivial⟩, trivial⟩
         all_goals try simp only [u1]
         all_goals simp [mk0, sto, h5, h7, magicV, IntKind.wrap_i64, u2, hN]
         all_goals try omega
     · refine sxb hXM1 [.r 15] [.F, .F, .F, .C, .F, .C, .F, .C, .T, .C, .C, .C, .F, .C, .F, .C] 4000 rfl (by simp [conjP, hr, IntKind.wrap_i64]; omega) ?_
       refine' J () trivial _ _ _ (sub_of [0, 2, 3] rfl rfl rfl rfl ?tt ?hh (by (repeat' (first | exact rfl | exact trivial | exact sim_refl _ | refine And.intro ?_ ?_))) (by (repeat' (first | exact rfl | exact trivial | exact sim_refl _ | refine And.intro ?_ ?_))))
       case tt => (repeat' (first | exact rfl | exact trivial | exact sim_refl _ | refine And.intro ?_ ?_))
       case hh =>
         have u1 : IntKind.u64.wrap (IntKind.i64.wrap (1 + a5)) = 1 + a5 := by rw [wi64 (by omega) (by omega), wu64 (by omega) (by omega)]
         have u2 : IntKind.u64.wrap 1 = 1 := by decide
         have hN : 4 < (sizeV a0 a1 a2 a4 a5 a6 a7).toNat := by omega
         have hN3 : 3 < (sizeV a0 a1 a2 a4 a5 a6 a7).toNat := by omega
         have hN1 : 1 < (sizeV a0 a1 a2 a4 a5 a6 a7).toNat := by omega
         simp only [hr, if_true]
         refine ⟨by (repeat' (first | exact rfl | exact trivial | exact sim_refl _ | refine And.intro ?_ ?_)), ⟨rfl, ?_, rfl⟩, ⟨rfl, ⟨rfl, rfl, ?_, ?_⟩, ⟨rfl, ?_⟩, ⟨rfl, rfl⟩, ⟨rfl, ?_⟩, ⟨rfl, ?_⟩, rfl, rfl, trivial⟩, trivial⟩
         all_goals try simp only [u1]
         all_goals simp [mk0, sto, h5, h7, magicV, IntKind.wrap_i64, u2, hN3]
         all_goals try omega
   · by_cases h7 : 0 < a7
     · refine sxb hXM1 [.r 15] [.F, .F, .F, .C, .F, .C, .F, .C, .F, .C, .T, .C, .C, .C, .F, .C] 4000 rfl (by simp [conjP, hr, IntKind.wrap_i64]; omega) ?_
       refine' J () trivial _ _ _ (sub_of [0, 2, 3] rfl rfl rfl rfl ?tt ?hh (by (repeat' (first | exact rfl | exact trivial | exact sim_refl _ | refine And.intro ?_ ?_))) (by (repeat' (first | exact rfl | exact trivial | exact sim_refl _ | refine And.intro ?_ ?_))))
       case tt => (repeat' (first | exact rfl | exact trivial | exact sim_refl _ | refine And.intro ?_ ?_))
       case hh =>
         have u1 : IntKind.u64.wrap (IntKind.i64.wrap (1 + a5)) = 1 + a5 := by rw [wi64 (by omega) (by omega), wu64 (by omega) (by omega)]
         have u2 : IntKind.u64.wrap 1 = 1 := by decide
         have hN : 4 < (sizeV a0 a1 a2 a4 a5 a6 a7).toNat := by omega
         have hN3 : 3 < (sizeV a0 a1 a2 a4 a5 a6 a7).toNat := by omega
         have hN1 : 1 < (sizeV a0 a1 a2 a4 a5 a6 a7).toNat := by omega
         simp only [hr, if_true]
         refine ⟨by (repeat' (first | exact rfl | exact trivial | exact sim_refl _ | refine And.intro ?_ ?_)), ⟨rfl, ?_, rfl⟩, ⟨rfl, ⟨rfl, rfl, ?_, ?_⟩, ⟨rfl, ?_⟩, ⟨rfl, rfl⟩, ⟨rfl, ?_⟩, ⟨rfl, ?_⟩, rfl, rfl, trivial⟩, trivial⟩
         all_goals try simp only [u1]
         all_goals simp [mk0, sto, h5, h7, magicV, IntKind.wrap_i64, hN]
         all_goals try omega
     · refine sxb hXM1 [.r 15] [.F, .F, .F, .C, .F, .C, .F, .C, .F, .C, .F, .C] 4000 rfl (by simp [conjP, hr, IntKind.wrap_i64]; omega) ?_
       refine' J () trivial _ _ _ (sub_of [0, 2, 3] rfl rfl rfl rfl ?tt ?hh (by (repeat' (first | exact rfl | exact trivial | exact sim_refl _ | refine And.intro ?_ ?_))) (by (repeat' (first | exact rfl | exact trivial | exact sim_refl _ | refine And.intro ?_ ?_))))
       case tt => (repeat' (first | exact rfl | exact trivial | exact sim_refl _ | refine And.intro ?_ ?_))
       case hh =>
         have u1 : IntKind.u64.wrap (IntKind.i64.wrap (1 + a5)) = 1 + a5 := by rw [wi64 (by omega) (by omega), wu64 (by omega) (by omega)]
         have u2 : IntKind.u64.wrap 1 = 1 := by decide
         have hN : 4 < (sizeV a0 a1 a2 a4 a5 a6 a7).toNat := by omega
         have hN3 : 3 < (sizeV a0 a1 a2 a4 a5 a6 a7).toNat := by omega
         have hN1 : 1 < (sizeV a0 a1 a2 a4 a5 a6 a7).toNat := by omega
         simp only [hr, if_true]
         refine ⟨by (repeat' (first | exact rfl | exact trivial | exact sim_refl _ | refine And.intro ?_ ?_)), ⟨rfl, ?_, rfl⟩, ⟨rfl, ⟨rfl, rfl, ?_, ?_⟩, ⟨rfl, ?_⟩, ⟨rfl, rfl⟩, ⟨rfl, ?_⟩, ⟨rfl, ?_⟩, rfl, rfl, trivial⟩, trivial⟩
         all_goals try simp only [u1]
         all_goals simp [mk0, sto, h5, h7, magicV, IntKind.wrap_i64, hN1]
         all_goals try omega
  case rest =>
    refine ss_sw hXM1 (sw_ss hXM (cs := []) ?_)
    refine sx hXM [] 100 rfl trivial ?_
    generalize hs0 : (mk0 (sizeV a0 a1 a2 a4 a5 a6 a7).toNat (packV a0 a1 a2 a3 a4 a5 a6 a7 a8) a5 a7) = S0
    have hl0 : S0.W.length = (sizeV a0 a1 a2 a4 a5 a6 a7).toNat := by rw [← hs0, mk0_len]
    have ht0 := mk0_st (sizeV a0 a1 a2 a4 a5 a6 a7).toNat (packV a0 a1 a2 a3 a4 a5 a6 a7 a8) a5 a7
    rw [hs0] at ht0
    refine ss_sub hXM (T' := mkU 0) (H' := mkH a0 a1 a2 a3 a4 a5 a6 a7 a8 (mkN a0 a1 a2 a4 a5 a6 a7 S0 0)) [0, 1, 2] rfl rfl rfl rfl (by (repeat' (first | exact rfl | exact trivial | exact sim_refl _ | refine And.intro ?_ ?_))) (by (repeat' (first | exact rfl | exact trivial | exact sim_refl _ | refine And.intro ?_ ?_))) (by (repeat' (first | exact rfl | exact trivial | exact sim_refl _ | refine And.intro ?_ ?_))) (by (repeat' (first | exact rfl | exact trivial | exact sim_refl _ | refine And.intro ?_ ?_))) ?_
    refine ss_loop hXM mkU (fun m => mkH a0 a1 a2 a3 a4 a5 a6 a7 a8 (mkN a0 a1 a2 a4 a5 a6 a7 S0 m)) (fun m => m ≤ (a5 + a7 - 1).toNat) (fun m => (a5 + a7 - 1).toNat - m) _ (Nat.zero_le _) ?_
    intro m hm I back
    refine sx hXM [] 200 rfl (by simp [conjP]) ?_
    refine ss_cond hXM rfl (fun h1 => ?_) (fun h1 => ?_)
    · simp [hr] at h1
      have hlm := mkN_len a0 a1 a2 a4 a5 a6 a7 S0 m
      have htm := mkN_st a0 a1 a2 a4 a5 a6 a7 S0 m
      have ew : IntKind.i64.wrap ((m : Int) + 1 + 1) = (m : Int) + 1 + 1 := wi64 (by omega) (by omega)
      have eu : IntKind.u64.wrap ((m : Int) + 1 + 1) = (m : Int) + 1 + 1 := wu64 (by omega) (by omega)
      have hbr := block_range hr (b := (m : Int) + 1) (by omega) (by omega)
      by_cases hc : classV a5 a7 ((m : Int) + 1) = classV a5 a7 ((m : Int) + 1 + 1)
      · refine sx hXM [.T, .F, .F] 2000 rfl (by simp [conjP, getH, HE.so, hr, classF, blockF, ew, hc, hlm, hl0]; (repeat' (refine And.intro ?_ ?_)) <;> (first | omega | exact decide_eq_false (by omega))) ?_
        refine back (m + 1) (by omega) (by omega) _ _ _ (sub_of [0, 1, 2] rfl rfl rfl rfl ?_ ?_ (by (repeat' (first | exact rfl | exact trivial | exact sim_refl _ | refine And.intro ?_ ?_))) (by (repeat' (first | exact rfl | exact trivial | exact sim_refl _ | refine And.intro ?_ ?_))))
        · exact ⟨by (repeat' (first | exact rfl | exact trivial | exact sim_refl _ | refine And.intro ?_ ?_)), by (repeat' (first | exact rfl | exact trivial | exact sim_refl _ | refine And.intro ?_ ?_)), ⟨rfl, wi64 (by omega) (by omega)⟩, trivial⟩
        · rw [mkN_yes hc]
          have hv : IntKind.u64.wrap (IntKind.i64.wrap ((m : Int) + 1 + 1)) = (m : Int) + 1 + 1 := by rw [ew, eu]
          have hst : IntKind.i64.wrap ((mkN a0 a1 a2 a4 a5 a6 a7 S0 m).st + 1) = (mkN a0 a1 a2 a4 a5 a6 a7 S0 m).st + 1 := wi64 (by omega) (by omega)
          have hF : blockF a0 a1 a2 a3 a4 a5 a6 a7 a8 ((m : Int) + 1) = blockV a0 a1 a2 a4 a5 a6 a7 ((m : Int) + 1) := rfl
          have hg := set_getD (mkN a0 a1 a2 a4 a5 a6 a7 S0 m).W (blockV a0 a1 a2 a4 a5 a6 a7 ((m : Int) + 1)).toNat (blockV a0 a1 a2 a4 a5 a6 a7 ((m : Int) + 1)).toNat ((m : Int) + 1 + 1)
          rw [if_pos ⟨rfl, by omega⟩] at hg
          simp only [hv, hst, hF, Nat.add_zero, hg]
          refine ⟨by (repeat' (first | exact rfl | exact trivial | exact sim_refl _ | refine And.intro ?_ ?_)), ⟨rfl, rfl, rfl⟩, ⟨rfl, ⟨rfl, rfl, ?_, ?_⟩, ⟨rfl, rfl⟩, ⟨rfl, rfl⟩, ⟨rfl, rfl⟩, ⟨rfl, rfl⟩, rfl, rfl, trivial⟩, trivial⟩ <;> rw [sto_len]
      · refine sx hXM [.F] 2000 rfl (by simp [conjP, getH, HE.so, hr, classF, ew, hc]; omega) ?_
        refine back (m + 1) (by omega) (by omega) _ _ _ (sub_of [0, 1, 2] rfl rfl rfl rfl ?_ ?_ (by (repeat' (first | exact rfl | exact trivial | exact sim_refl _ | refine And.intro ?_ ?_))) (by (repeat' (first | exact rfl | exact trivial | exact sim_refl _ | refine And.intro ?_ ?_))))
        · exact ⟨by (repeat' (first | exact rfl | exact trivial | exact sim_refl _ | refine And.intro ?_ ?_)), by (repeat' (first | exact rfl | exact trivial | exact sim_refl _ | refine And.intro ?_ ?_)), ⟨rfl, wi64 (by omega) (by omega)⟩, trivial⟩
        · rw [mkN_no hc]; (repeat' (first | exact rfl | exact trivial | exact sim_refl _ | refine And.intro ?_ ?_))
    · simp [hr] at h1
      have : m = (a5 + a7 - 1).toNat := by omega
      subst this
      refine sx hXM [] 200 rfl trivial ?_
      exact ss_end hXM [1, 2] rfl rfl trivial rfl rfl rfl rfl (by (repeat' (first | exact rfl | exact trivial | exact sim_refl _ | refine And.intro ?_ ?_))) (by (repeat' (first | exact rfl | exact trivial | exact sim_refl _ | refine And.intro ?_ ?_))) (by (repeat' (first | exact rfl | exact trivial | exact sim_refl _ | refine And.intro ?_ ?_))) (by (repeat' (first | exact rfl | exact trivial | exact sim_refl _ | refine And.intro ?_ ?_)))
end
end Go.Proofs.YtkkddjchkkaagaaGreatDoor
