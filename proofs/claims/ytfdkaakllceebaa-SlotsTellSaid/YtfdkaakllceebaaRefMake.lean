/- What the document's arena of a config is made as. -/
import Derived.Test.YtfdkaakllceebaaMake
import Derived.Test.YtfdkaakllceebaaHyc
namespace Go.Proofs.Ytfdkaakllceebaa
open Go Go.Hx
set_option maxRecDepth 8000


def rsizeS : List SV → Option (List Prop × SV)
  | [.agg [.int .i64 a0, .int .i64 a1, .int .i64 a2, .int .i64 a3, .int .i64 a4, .int .i64 a5, .int .i64 a6, .int .i64 a7, .int .i64 a8]] => some ([rightB a0 a1 a2 a3 a4 a5 a6 a7 a8 = true], .int .i64 (sizeV a0 a1 a2 a4 a5 a6 a7))
  | _ => none
theorem rsizeS_ok : PureOk 59 rsizeS := by
  intro args ob V hs ho
  unfold rsizeS at hs
  split at hs
  · simp at hs; obtain ⟨rfl, rfl⟩ := hs; exact ⟨rfl, rfl, rsize_fn (ho _ (by simp))⟩
  · simp at hs

def ctRM : Nat → Option Hx.Spec
  | 59 => some (pureS rsizeS)
  | 60 => some (pureS rpackS)
  | 62 => some (pureS (placeS classF))
  | 63 => some (pureS (placeS blockF))
  | _ => none
theorem ctRM_ok : ∀ f s args H ob V L, ctRM f = some s → s args H = some (ob, V, L) → AllP ob → Gives Try.prog f args H (Is V L) := by
  intro f s args H ob V L h hs ho
  unfold ctRM at h
  split at h
  · simp at h; subst h; exact pureS_ok ⟨_, hTE⟩ (rsizeS_ok) hs ho
  · simp at h; subst h; exact pureS_ok ⟨_, hTE⟩ (rpackS_ok) hs ho
  · simp at h; subst h; exact pureS_ok ⟨_, hTE⟩ (placeS_ok (v := classF) rclass_fn) hs ho
  · simp at h; subst h; exact pureS_ok ⟨_, hTE⟩ (placeS_ok (v := blockF) rblock_fn) hs ho
  · simp at h
noncomputable def XRM : Tabs := tabs tr ft xt (fun _ => none) ctRM 0
theorem hXRM : TOk Try.prog XRM := ⟨hTE, hFT, ctRM_ok, hXT, fun t ks h => by simp [XRM, tabs] at h, mixed⟩

/-- The document's arena. -/
abbrev ROa (h : Nat) (W : List Int) (st kd wd vl : Int) (ch : SV) : HE := .obj (.cells [.slice h 0 W.length W.length, .int .i64 st, .int .i64 kd, .int .i64 wd, .int .u64 vl, ch, .ff, .int .i64 0] 69)
abbrev ROm (h : Nat) (s : MkS) : HE := ROa h s.W s.st 2 s.wd s.vl (.bool true)
abbrev WOr (W : List Int) : HE := .obj (.ints .u64 W 56)
abbrev COm (a0 a1 a2 a3 a4 a5 a6 a7 a8 : Int) : HE := .obj (.cells [.int .i64 a0, .int .i64 a1, .int .i64 a2, .int .i64 a3, .int .i64 a4, .int .i64 a5, .int .i64 a6, .int .i64 a7, .int .i64 a8] 28)
def rmT : Nat → List (Nat × SV)
  | m => [(1, .ptr 0 0), (3, .ptr 2 0), (4, .int .i64 ((m : Int) + 1))]
def rmH (a0 a1 a2 a3 a4 a5 a6 a7 a8 : Int) : List Int → List HE
  | W => [COm a0 a1 a2 a3 a4 a5 a6 a7 a8, WOr W, ROa 1 W 0 0 0 0 .ff]
def rmU : Nat → List (Nat × SV)
  | i => [(1, .ptr 0 0), (3, .ptr 2 0), (5, .int .i64 (i : Int))]
def rkd (W : List Int) (i : Nat) : Int := if (refN W i).1 = 0 then 0 else 2
def rch (W : List Int) (i : Nat) : SV := .bool (decide (¬ (refN W i).1 = 0))
def rmV (a0 a1 a2 a3 a4 a5 a6 a7 a8 : Int) (W : List Int) : Nat → List HE
  | i => [COm a0 a1 a2 a3 a4 a5 a6 a7 a8, WOr W, ROa 1 W (refN W i).1 (rkd W i) (refN W i).2.1 (refN W i).2.2 (rch W i)]
theorem refN_bd (W : List Int) : ∀ n : Nat, 0 ≤ (refN W n).1 ∧ (refN W n).1 ≤ n
  | 0 => by simp [refN]
  | n + 1 => by
    have := refN_bd W n
    rw [refN]; split
    · omega
    · omega

section
variable {a0 a1 a2 a3 a4 a5 a6 a7 a8 : Int}
set_option maxHeartbeats 8000000 in
theorem rmake_fn (hr : rightB a0 a1 a2 a3 a4 a5 a6 a7 a8 = true) : Gives Try.prog 27 [C9 a0 a1 a2 a3 a4 a5 a6 a7 a8] [] (Is (.ptr 1 0) [WOm (mkA a0 a1 a2 a3 a4 a5 a6 a7 a8), ROm 0 (mkA a0 a1 a2 a3 a4 a5 a6 a7 a8)]) := by
  have hr' := right_iff.1 hr
  obtain ⟨n1, n2⟩ := size_bd hr
  have hasc := mkA_asc hr
  have hall := hasc.all
  have hlA := mkA_len (a0 := a0) (a1 := a1) (a2 := a2) (a3 := a3) (a4 := a4) (a5 := a5) (a6 := a6) (a7 := a7) (a8 := a8)
  have hstA := mkA_st hr
  have e75 : IntKind.i64.wrap (a5 + a7) = a5 + a7 := wi64 (by omega) (by omega)
  refine gives_x hXRM (fn := Try.f27) rfl rfl rfl rfl fun ρ w => ?_
  refine' ss_via hXRM (fun _ : Unit => rmT 0) (fun _ => rmH a0 a1 a2 a3 a4 a5 a6 a7 a8 (mk0 (sizeV a0 a1 a2 a4 a5 a6 a7).toNat (packV a0 a1 a2 a3 a4 a5 a6 a7 a8) a5 a7).W) (fun _ => True) (fun J => ?first) (fun _ _ => ?rest)
  case first =>
    have hN : 4 < (sizeV a0 a1 a2 a4 a5 a6 a7).toNat := by omega
    have u1 : IntKind.u64.wrap (IntKind.i64.wrap (a5 + 1)) = 1 + a5 := by rw [wi64 (by omega) (by omega), wu64 (by omega) (by omega)]; omega
    refine sx hXRM [] 4000 rfl (by (simp [conjP, getH, HE.so, hr] <;> (first | omega | ((repeat' (refine And.intro ?_ ?_)) <;> (first | omega | exact decide_eq_false (by omega) | exact decide_eq_true (by omega)))))) ?_
    refine ss_br hXRM [.T] 4000 3 rfl rfl (fun hb0 => ?_) (fun hb0 => ?_)
    · try simp at hb0
      refine sx hXRM [.T] 4000 rfl (by (simp [conjP, hb0] <;> (first | omega | ((repeat' (refine And.intro ?_ ?_)) <;> (first | omega | exact decide_eq_false (by omega) | exact decide_eq_true (by omega)))))) ?_
      refine ss_br hXRM [.T] 4000 3 rfl rfl (fun hb1 => ?_) (fun hb1 => ?_)
      · try simp at hb1
        refine sx hXRM [.T] 4000 rfl (by (simp [conjP, hb1] <;> (first | omega | ((repeat' (refine And.intro ?_ ?_)) <;> (first | omega | exact decide_eq_false (by omega) | exact decide_eq_true (by omega)))))) ?_
        (by_cases h5 : 0 < a5 <;> by_cases h7 : 0 < a7 <;> first | (exfalso; omega) | (refine J () trivial _ _ _ (sub_of [0, 1, 2] rfl rfl rfl rfl (by (repeat' (first | exact rfl | exact trivial | exact sim_refl _ | refine And.intro ?_ ?_))) ?_ (by (repeat' (first | exact rfl | exact trivial | exact sim_refl _ | refine And.intro ?_ ?_))) (by (repeat' (first | exact rfl | exact trivial | exact sim_refl _ | refine And.intro ?_ ?_)))); refine ⟨by (repeat' (first | exact rfl | exact trivial | exact sim_refl _ | refine And.intro ?_ ?_)), ⟨rfl, ?_, rfl⟩, ⟨rfl, ⟨rfl, rfl, ?_, ?_⟩, by (repeat' (first | exact rfl | exact trivial | exact sim_refl _ | refine And.intro ?_ ?_))⟩, trivial⟩ <;> simp [mk0, sto, magicV, u1, h5, h7]))
      · try simp at hb1
        refine sx hXRM [.F] 4000 rfl (by (simp [conjP, addOP, hb1] <;> (first | omega | ((repeat' (refine And.intro ?_ ?_)) <;> (first | omega | exact decide_eq_false (by omega) | exact decide_eq_true (by omega)))))) ?_
        (by_cases h5 : 0 < a5 <;> by_cases h7 : 0 < a7 <;> first | (exfalso; omega) | (refine J () trivial _ _ _ (sub_of [0, 1, 2] rfl rfl rfl rfl (by (repeat' (first | exact rfl | exact trivial | exact sim_refl _ | refine And.intro ?_ ?_))) ?_ (by (repeat' (first | exact rfl | exact trivial | exact sim_refl _ | refine And.intro ?_ ?_))) (by (repeat' (first | exact rfl | exact trivial | exact sim_refl _ | refine And.intro ?_ ?_)))); refine ⟨by (repeat' (first | exact rfl | exact trivial | exact sim_refl _ | refine And.intro ?_ ?_)), ⟨rfl, ?_, rfl⟩, ⟨rfl, ⟨rfl, rfl, ?_, ?_⟩, by (repeat' (first | exact rfl | exact trivial | exact sim_refl _ | refine And.intro ?_ ?_))⟩, trivial⟩ <;> simp [mk0, sto, magicV, h5, h7]))
    · try simp at hb0
      refine sx hXRM [.F] 4000 rfl (by (simp [conjP, hb0] <;> (first | omega | ((repeat' (refine And.intro ?_ ?_)) <;> (first | omega | exact decide_eq_false (by omega) | exact decide_eq_true (by omega)))))) ?_
      refine ss_br hXRM [.T] 4000 3 rfl rfl (fun hb2 => ?_) (fun hb2 => ?_)
      · try simp at hb2
        refine sx hXRM [.T] 4000 rfl (by (simp [conjP, hb2] <;> (first | omega | ((repeat' (refine And.intro ?_ ?_)) <;> (first | omega | exact decide_eq_false (by omega) | exact decide_eq_true (by omega)))))) ?_
        (by_cases h5 : 0 < a5 <;> by_cases h7 : 0 < a7 <;> first | (exfalso; omega) | (refine J () trivial _ _ _ (sub_of [0, 1, 2] rfl rfl rfl rfl (by (repeat' (first | exact rfl | exact trivial | exact sim_refl _ | refine And.intro ?_ ?_))) ?_ (by (repeat' (first | exact rfl | exact trivial | exact sim_refl _ | refine And.intro ?_ ?_))) (by (repeat' (first | exact rfl | exact trivial | exact sim_refl _ | refine And.intro ?_ ?_)))); refine ⟨by (repeat' (first | exact rfl | exact trivial | exact sim_refl _ | refine And.intro ?_ ?_)), ⟨rfl, ?_, rfl⟩, ⟨rfl, ⟨rfl, rfl, ?_, ?_⟩, by (repeat' (first | exact rfl | exact trivial | exact sim_refl _ | refine And.intro ?_ ?_))⟩, trivial⟩ <;> simp [mk0, sto, magicV, u1, h5, h7]))
      · try simp at hb2
        refine sx hXRM [.F] 4000 rfl (by (simp [conjP, addOP, hb2] <;> (first | omega | ((repeat' (refine And.intro ?_ ?_)) <;> (first | omega | exact decide_eq_false (by omega) | exact decide_eq_true (by omega)))))) ?_
        (by_cases h5 : 0 < a5 <;> by_cases h7 : 0 < a7 <;> first | (exfalso; omega) | (refine J () trivial _ _ _ (sub_of [0, 1, 2] rfl rfl rfl rfl (by (repeat' (first | exact rfl | exact trivial | exact sim_refl _ | refine And.intro ?_ ?_))) ?_ (by (repeat' (first | exact rfl | exact trivial | exact sim_refl _ | refine And.intro ?_ ?_))) (by (repeat' (first | exact rfl | exact trivial | exact sim_refl _ | refine And.intro ?_ ?_)))); refine ⟨by (repeat' (first | exact rfl | exact trivial | exact sim_refl _ | refine And.intro ?_ ?_)), ⟨rfl, ?_, rfl⟩, ⟨rfl, ⟨rfl, rfl, ?_, ?_⟩, by (repeat' (first | exact rfl | exact trivial | exact sim_refl _ | refine And.intro ?_ ?_))⟩, trivial⟩ <;> simp [mk0, sto, magicV, h5, h7]))
  case rest =>
    refine sx hXRM [] 100 rfl trivial ?_
    generalize hs0 : (mk0 (sizeV a0 a1 a2 a4 a5 a6 a7).toNat (packV a0 a1 a2 a3 a4 a5 a6 a7 a8) a5 a7) = S0
    have hl0 : S0.W.length = (sizeV a0 a1 a2 a4 a5 a6 a7).toNat := by rw [← hs0, mk0_len]
    have hlm := mkN_len a0 a1 a2 a4 a5 a6 a7 S0
    refine ss_sub hXRM (T' := rmT 0) (H' := rmH a0 a1 a2 a3 a4 a5 a6 a7 a8 (mkN a0 a1 a2 a4 a5 a6 a7 S0 0).W) [0, 1, 2] rfl rfl rfl rfl (by (repeat' (first | exact rfl | exact trivial | exact sim_refl _ | refine And.intro ?_ ?_))) (by (repeat' (first | exact rfl | exact trivial | exact sim_refl _ | refine And.intro ?_ ?_))) (by (repeat' (first | exact rfl | exact trivial | exact sim_refl _ | refine And.intro ?_ ?_))) (by (repeat' (first | exact rfl | exact trivial | exact sim_refl _ | refine And.intro ?_ ?_))) ?_
    refine ss_loop hXRM rmT (fun m => rmH a0 a1 a2 a3 a4 a5 a6 a7 a8 (mkN a0 a1 a2 a4 a5 a6 a7 S0 m).W) (fun m => m ≤ (a5 + a7 - 1).toNat) (fun m => (a5 + a7 - 1).toNat - m) _ (Nat.zero_le _) ?_
    intro m hm I back
    have hl := hlm m
    have ew : IntKind.i64.wrap ((m : Int) + 1 + 1) = (m : Int) + 1 + 1 := wi64 (by omega) (by omega)
    have eu : IntKind.u64.wrap ((m : Int) + 1 + 1) = (m : Int) + 1 + 1 := wu64 (by omega) (by omega)
    have hbr : (m : Int) + 1 < a5 + a7 → 0 ≤ blockV a0 a1 a2 a4 a5 a6 a7 ((m : Int) + 1) ∧ blockV a0 a1 a2 a4 a5 a6 a7 ((m : Int) + 1) < sizeV a0 a1 a2 a4 a5 a6 a7 := fun h => block_range hr (by omega) (by omega)
    refine sx hXRM [] 4000 rfl (by (simp [conjP] <;> (first | omega | ((repeat' (refine And.intro ?_ ?_)) <;> (first | omega | exact decide_eq_false (by omega) | exact decide_eq_true (by omega)))))) ?_
    refine ss_br hXRM [.T] 4000 7 rfl rfl (fun hb3 => ?_) (fun hb3 => ?_)
    · try simp [e75] at hb3
      refine sx hXRM [.T] 4000 rfl (by (simp [conjP, getH, HE.so, hr, e75, ew, hb3] <;> (first | omega | ((repeat' (refine And.intro ?_ ?_)) <;> (first | omega | exact decide_eq_false (by omega) | exact decide_eq_true (by omega)))))) ?_
      refine ss_br hXRM [.T] 4000 6 rfl rfl (fun hb4 => ?_) (fun hb4 => ?_)
      · try simp [ew, classF] at hb4
        refine sx hXRM [.T] 4000 rfl (by (simp [conjP, getH, HE.so, hr, ew, classF, blockF, hl, hl0, hb4] <;> (first | omega | ((repeat' (refine And.intro ?_ ?_)) <;> (first | omega | exact decide_eq_false (by omega) | exact decide_eq_true (by omega)))))) ?_
        (refine back (m + 1) (by omega) (by omega) _ _ _ (sub_of [0, 1, 2] rfl rfl rfl rfl ?_ ?_ (by (repeat' (first | exact rfl | exact trivial | exact sim_refl _ | refine And.intro ?_ ?_))) (by (repeat' (first | exact rfl | exact trivial | exact sim_refl _ | refine And.intro ?_ ?_)))); exact ⟨by (repeat' (first | exact rfl | exact trivial | exact sim_refl _ | refine And.intro ?_ ?_)), by (repeat' (first | exact rfl | exact trivial | exact sim_refl _ | refine And.intro ?_ ?_)), ⟨rfl, wi64 (by omega) (by omega)⟩, trivial⟩; first | (rw [mkN_no (by assumption)]; (repeat' (first | exact rfl | exact trivial | exact sim_refl _ | refine And.intro ?_ ?_))) | (rw [mkN_yes (by assumption)]; simp only [ew, eu, Nat.add_zero, blockF]; refine ⟨by (repeat' (first | exact rfl | exact trivial | exact sim_refl _ | refine And.intro ?_ ?_)), ⟨rfl, rfl, rfl⟩, ⟨rfl, ⟨rfl, rfl, ?_, ?_⟩, by (repeat' (first | exact rfl | exact trivial | exact sim_refl _ | refine And.intro ?_ ?_))⟩, trivial⟩ <;> simp [sto_len]))
      · try simp [ew, classF] at hb4
        refine sx hXRM [.F] 4000 rfl (by (simp [conjP, addOP, ew, classF, hb4] <;> (first | omega | ((repeat' (refine And.intro ?_ ?_)) <;> (first | omega | exact decide_eq_false (by omega) | exact decide_eq_true (by omega)))))) ?_
        (refine back (m + 1) (by omega) (by omega) _ _ _ (sub_of [0, 1, 2] rfl rfl rfl rfl ?_ ?_ (by (repeat' (first | exact rfl | exact trivial | exact sim_refl _ | refine And.intro ?_ ?_))) (by (repeat' (first | exact rfl | exact trivial | exact sim_refl _ | refine And.intro ?_ ?_)))); exact ⟨by (repeat' (first | exact rfl | exact trivial | exact sim_refl _ | refine And.intro ?_ ?_)), by (repeat' (first | exact rfl | exact trivial | exact sim_refl _ | refine And.intro ?_ ?_)), ⟨rfl, wi64 (by omega) (by omega)⟩, trivial⟩; first | (rw [mkN_no (by assumption)]; (repeat' (first | exact rfl | exact trivial | exact sim_refl _ | refine And.intro ?_ ?_))) | (rw [mkN_yes (by assumption)]; simp only [ew, eu, Nat.add_zero, blockF]; refine ⟨by (repeat' (first | exact rfl | exact trivial | exact sim_refl _ | refine And.intro ?_ ?_)), ⟨rfl, rfl, rfl⟩, ⟨rfl, ⟨rfl, rfl, ?_, ?_⟩, by (repeat' (first | exact rfl | exact trivial | exact sim_refl _ | refine And.intro ?_ ?_))⟩, trivial⟩ <;> simp [sto_len]))
    · try simp [e75] at hb3
      refine sx hXRM [.F] 4000 rfl (by (simp [conjP, addOP, e75, hb3] <;> (first | omega | ((repeat' (refine And.intro ?_ ?_)) <;> (first | omega | exact decide_eq_false (by omega) | exact decide_eq_true (by omega)))))) ?_
      have hmm : (mkN a0 a1 a2 a4 a5 a6 a7 S0 m).W = (mkA a0 a1 a2 a3 a4 a5 a6 a7 a8).W := by
        have : m = (a5 + a7 - 1).toNat := by omega
        rw [this, mkA, hs0]
      rw [hmm]
      generalize hA : mkA a0 a1 a2 a3 a4 a5 a6 a7 a8 = A at *
      have hk0 : rkd A.W 0 = 0 := rfl
      refine ss_sub hXRM (T' := rmU 0) (H' := rmV a0 a1 a2 a3 a4 a5 a6 a7 a8 A.W 0) [0, 1, 2] rfl rfl rfl rfl (by (repeat' (first | exact rfl | exact trivial | exact sim_refl _ | refine And.intro ?_ ?_))) (by (repeat' (first | exact rfl | exact trivial | exact sim_refl _ | refine And.intro ?_ ?_))) (by (repeat' (first | exact rfl | exact trivial | exact sim_refl _ | refine And.intro ?_ ?_))) (by (repeat' (first | exact rfl | exact trivial | exact sim_refl _ | refine And.intro ?_ ?_))) ?_
      refine ss_loop hXRM rmU (fun i => rmV a0 a1 a2 a3 a4 a5 a6 a7 a8 A.W i) (fun i => i ≤ A.W.length) (fun i => A.W.length - i) _ (Nat.zero_le _) ?_
      intro i hi I2 back2
      have hbd := refN_bd A.W i
      have hs1 : IntKind.i64.wrap ((refN A.W i).1 + 1) = (refN A.W i).1 + 1 := wi64 (by omega) (by omega)
      refine sx hXRM [] 4000 rfl (by (simp [conjP] <;> (first | omega | ((repeat' (refine And.intro ?_ ?_)) <;> (first | omega | exact decide_eq_false (by omega) | exact decide_eq_true (by omega)))))) ?_
      refine ss_br hXRM [.T] 4000 2 rfl rfl (fun hb0 => ?_) (fun hb0 => ?_)
      · try simp at hb0
        refine sx hXRM [.T] 4000 rfl (by (simp [conjP, hb0] <;> (first | omega | ((repeat' (refine And.intro ?_ ?_)) <;> (first | omega | exact decide_eq_false (by omega) | exact decide_eq_true (by omega)))))) ?_
        refine ss_br hXRM [.T] 4000 2 rfl rfl (fun hb1 => ?_) (fun hb1 => ?_)
        · try simp [hb0] at hb1
          refine sx hXRM [.T] 4000 rfl (by (simp [conjP, hb0, hb1] <;> (first | omega | ((repeat' (refine And.intro ?_ ?_)) <;> (first | omega | exact decide_eq_false (by omega) | exact decide_eq_true (by omega)))))) ?_
          have hz : ¬ A.W.getD i 0 = 0 := by simpa [hb0] using hb1
          have e1 : refN A.W (i + 1) = ((refN A.W i).1 + 1, (i : Int), A.W.getD i 0) := by rw [refN, if_neg hz]
          have e2 : ¬ (refN A.W i).1 + 1 = 0 := by omega
          refine back2 (i + 1) (by omega) (by omega) _ _ _ (sub_of [0, 1, 2] rfl rfl rfl rfl ?_ ?_ (by (repeat' (first | exact rfl | exact trivial | exact sim_refl _ | refine And.intro ?_ ?_))) (by (repeat' (first | exact rfl | exact trivial | exact sim_refl _ | refine And.intro ?_ ?_))))
          · exact ⟨by (repeat' (first | exact rfl | exact trivial | exact sim_refl _ | refine And.intro ?_ ?_)), by (repeat' (first | exact rfl | exact trivial | exact sim_refl _ | refine And.intro ?_ ?_)), ⟨rfl, wi64 (by omega) (by omega)⟩, trivial⟩
          · simp only [rmV, rkd, rch, e1, hs1, e2]
            (repeat' (first | exact rfl | exact trivial | exact sim_refl _ | refine And.intro ?_ ?_))
        · try simp [hb0] at hb1
          refine sx hXRM [.F] 4000 rfl (by (simp [conjP, addOP, hb0, hb1] <;> (first | omega | ((repeat' (refine And.intro ?_ ?_)) <;> (first | omega | exact decide_eq_false (by omega) | exact decide_eq_true (by omega)))))) ?_
          have hz : A.W.getD i 0 = 0 := by simpa [hb0] using hb1
          have e1 : refN A.W (i + 1) = refN A.W i := by rw [refN, if_pos hz]
          refine back2 (i + 1) (by omega) (by omega) _ _ _ (sub_of [0, 1, 2] rfl rfl rfl rfl ?_ ?_ (by (repeat' (first | exact rfl | exact trivial | exact sim_refl _ | refine And.intro ?_ ?_))) (by (repeat' (first | exact rfl | exact trivial | exact sim_refl _ | refine And.intro ?_ ?_))))
          · exact ⟨by (repeat' (first | exact rfl | exact trivial | exact sim_refl _ | refine And.intro ?_ ?_)), by (repeat' (first | exact rfl | exact trivial | exact sim_refl _ | refine And.intro ?_ ?_)), ⟨rfl, wi64 (by omega) (by omega)⟩, trivial⟩
          · simp only [rmV, rkd, rch, e1]
            (repeat' (first | exact rfl | exact trivial | exact sim_refl _ | refine And.intro ?_ ?_))
      · try simp at hb0
        refine sx hXRM [.F] 4000 rfl (by (simp [conjP, addOP, hb0] <;> (first | omega | ((repeat' (refine And.intro ?_ ?_)) <;> (first | omega | exact decide_eq_false (by omega) | exact decide_eq_true (by omega)))))) ?_
        have hi2 : i = A.W.length := by omega
        subst hi2
        have e2 : ¬ A.st = 0 := by omega
        refine ss_end hXRM [1, 2] rfl rfl trivial rfl rfl rfl rfl (by (repeat' (first | exact rfl | exact trivial | exact sim_refl _ | refine And.intro ?_ ?_))) ?_ (by (repeat' (first | exact rfl | exact trivial | exact sim_refl _ | refine And.intro ?_ ?_))) (by (repeat' (first | exact rfl | exact trivial | exact sim_refl _ | refine And.intro ?_ ?_)))
        simp only [rmV, rkd, rch, hall, if_neg e2, decide_eq_true e2]
        exact ⟨by (repeat' (first | exact rfl | exact trivial | exact sim_refl _ | refine And.intro ?_ ?_)), by (repeat' (first | exact rfl | exact trivial | exact sim_refl _ | refine And.intro ?_ ?_)), trivial⟩
end
end Go.Proofs.Ytfdkaakllceebaa
