/- Named blocks: slots.Named. -/
import Derived.Test.YtfdkaakllceebaaNamedLaw
namespace Go.Proofs.Ytfdkaakllceebaa
open Go Go.Hx
set_option maxRecDepth 8000
def sortedS : Hx.Spec := fun args H => match args with
  | [.func (.func 86) [] [.ptr h 0]] => match getH H h with
    | some (.cells [.map m] 109) => match getH H m, nums[H.length]?, nodupN [h, m] with
      | some (.mp ks), some n, true => some ([ks.length ≤ 12], slV (opL (srt (ks.map (·.1)))) n, H ++ [slE (opL (srt (ks.map (·.1)))) .i64 3])
      | _, _, _ => none
    | _ => none
  | _ => none
theorem set_get {H : List HE} {h : Nat} {o : SO} (hg : getH H h = some o) : H.set h (.obj o) = H := by
  have := getH_some.1 hg
  apply List.ext_getElem?
  intro i
  rw [List.getElem?_set]
  split
  · rename_i e; subst e
    rw [this, if_pos (there_lt (there_of_obj this))]
  · rfl
theorem sortedS_ok {args : List SV} {H : List HE} {ob : List Prop} {V : SV} {L : List HE} (hs : sortedS args H = some (ob, V, L)) (ho : AllP ob) : Gives Try.prog 66 args H (Is V L) := by
  unfold sortedS at hs
  split at hs
  case h_2 => simp at hs
  rename_i _ h
  split at hs
  case h_2 => simp at hs
  rename_i _ m hg
  split at hs
  case h_2 => simp at hs
  rename_i _ _ _ ks n hm hn hnd
  have hn' := nums_get _ _ hn
  subst hn'
  simp only [Option.some.injEq, Prod.mk.injEq] at hs
  obtain ⟨rfl, rfl, rfl⟩ := hs
  have o1 := ho _ (List.mem_cons_self ..)
  have g0 : getH H h = some ((SO.cells [.map 1] 109).ren (nm [h, m] H)) := hg
  have g1 : getH H m = some ((SO.mp ks).ren (nm [h, m] H)) := hm
  have := frame2 (N := [slE (opL (srt (ks.map (·.1)))) .i64 3]) (H := H) (h0 := h) (h1 := m) (ags := [.func (.func 86) [] [.ptr h 0]]) ⟨_, hTE⟩ (sortedM_fn ks o1) rfl rfl rfl hnd g0 g1 (by cases opL (srt (ks.map (·.1))) <;> rfl)
  have e1 : (SO.cells [.map 1] 109).ren (nm [h, m] H) = .cells [.map m] 109 := rfl
  have e2 : (SO.mp ks).ren (nm [h, m] H) = .mp ks := rfl
  have e3 : (slV (opL (srt (ks.map (·.1)))) 2).ren (nm [h, m] H) = slV (opL (srt (ks.map (·.1)))) H.length := by cases opL (srt (ks.map (·.1))) <;> rfl
  rw [e1, e2, e3, set_get hg, set_get hm] at this
  simp only [List.map_cons, List.map_nil, ren_slE] at this
  exact this
def ctNm : Nat → Option Hx.Spec
  | 70 => some (pureS rightS)
  | 43 => some (pureS sizeS)
  | 23 => some (pureS (placeS slotF))
  | 22 => some (pureS clientS)
  | 37 => some (pureS blkS)
  | 66 => some (sortedS)
  | _ => none
theorem ctNm_ok : ∀ f s args H ob V L, ctNm f = some s → s args H = some (ob, V, L) → AllP ob → Gives Try.prog f args H (Is V L) := by
  intro f s args H ob V L h hs ho
  unfold ctNm at h
  split at h
  · simp at h; subst h; exact pureS_ok ⟨_, hTE⟩ (rightS_ok right70) hs ho
  · simp at h; subst h; exact pureS_ok ⟨_, hTE⟩ (sizeS_ok) hs ho
  · simp at h; subst h; exact pureS_ok ⟨_, hTE⟩ (placeS_ok (v := slotF) slot_fn) hs ho
  · simp at h; subst h; exact pureS_ok ⟨_, hTE⟩ (clientS_ok) hs ho
  · simp at h; subst h; exact pureS_ok ⟨_, hTE⟩ (blkS_ok) hs ho
  · simp at h; subst h; exact sortedS_ok hs ho
  · simp at h
noncomputable def XNm : Tabs := tabs tr ft xt (fun _ => none) ctNm 0
theorem hXNm : TOk Try.prog (XNm) := ⟨hTE, hFT, ctNm_ok, hXT, fun t ks h => by simp [XNm, tabs] at h, mixed⟩
theorem clhN {P : Prop} (h : P := by repeat' (first | exact rfl | exact trivial | exact sim_refl _ | exact simO_refl _ | exact sim_slVr rfl | exact subE_same rfl ren_slE | exact len_setN | assumption | refine And.intro ?_ ?_)) : P := h
theorem clkN {P : Prop} (h : P := by repeat' (first | exact rfl | exact trivial | exact okE_slE | exact okP_slV rfl | refine And.intro ?_ ?_)) : P := h
def downLq : List KI → List KI
  | [] => []
  | .lp I :: k => .lp I :: k
  | _ :: r => downLq r
theorem ss_mkMap {P : Program} {X : Tabs} (hX : TOk P X) {R : SV → List HE → Prop} {H0 : List HE} {ρ0 : Nat → Nat × Nat} {w0 : World} {fn : Func} {nt : Nat} {k : List KI} {cs : List Ch} {T : List (Nat × SV)} {H : List HE} {all r : List Oper} {o : Oper} {t d : Nat} (n : Nat) (H' : List HE) (hop : o.op = .makeMap t none) (hg : guardF all T o.guard = 0) (hd : o.dst = some d) (hdn : d < nt) (hn : H.length = n) (hh : H ++ [.obj (.mp [])] = H')
    (h : SS hX (At ρ0 w0) R ⟨[], [], fn, nt, H0, .ops all r :: k, (d, .map n) :: T, H'⟩) : SS hX (At ρ0 w0) R ⟨cs, [], fn, nt, H0, .ops all (o :: r) :: k, T, H⟩ := by
  subst hn; subst hh
  exact ss_makeMap hX hop hg hd hdn h
abbrev cfN : HE := .obj (.cells [.int .i64 1, .int .i64 4, .int .i64 8, .int .i64 4, .int .i64 4, .int .i64 2, .int .i64 6, .int .i64 2, .int .i64 2] 28)
abbrev nmT (n : Nat) (i : Nat) : List (Nat × SV) := [(1, .slice 0 0 n n), (2, .ptr 1 0), (5, .map 2), (20, .int .i64 8), (21, .int .i64 (i : Int))]
abbrev nmH (W : List Int) (ks : List (Int × Int)) : List HE := [WO W, cfN, .obj (.mp ks)]
theorem mN_on {W : List Int} {i : Nat} (h1 : ¬ clientV (W.getD (5 + i) 0) = -1) (h2 : ¬ blkV (W.getD (5 + i) 0) = 0) : mN W (i + 1) = upM (blkV (W.getD (5 + i) 0)) (IntKind.i64.wrap (vlM (blkV (W.getD (5 + i) 0)) (mN W i) + 1)) (mN W i) := by
  rw [mN, if_pos (by simp [okN, h1, h2, -List.getD_eq_getElem?_getD])]
theorem mN_c {W : List Int} {i : Nat} (h1 : clientV (W.getD (5 + i) 0) = -1) : mN W (i + 1) = mN W i := by
  rw [mN, if_neg (by simp [okN, h1, -List.getD_eq_getElem?_getD])]
theorem mN_b {W : List Int} {i : Nat} (h2 : blkV (W.getD (5 + i) 0) = 0) : mN W (i + 1) = mN W i := by
  rw [mN, if_neg (by simp [okN, h2, -List.getD_eq_getElem?_getD])]
set_option maxHeartbeats 8000000 in
theorem named_fn {W : List Int} (hW : (W.length : Int) = sizeV 1 4 8 4 2 6 2) (hl : 13 ≤ W.length) (hbd : ∀ j, j < 8 → 0 ≤ W.getD (5 + j) 0 ∧ W.getD (5 + j) 0 < 18446744073709551616) : Gives Try.prog 35 [C9 1 4 8 4 4 2 6 2 2, .slice 0 0 W.length W.length] [WO W] (Is (slV (opL (nmV W)) 1) [WO W, slE (opL (nmV W)) .i64 3]) := by
  have hX := hXNm
  have hr := right12
  have hw : ((W.length : Int) == sizeV 1 4 8 4 2 6 2) = true := by rw [hW]; exact beq_self_eq_true _
  have round : ∀ {ρ : Nat → Nat × Nat} {w : World} {I : Act → World → Prop} (i : Nat), i < 8 →
    (∀ cs T H, Sub (FEnv Try.prog XNm.TE hX.te Try.f35 Try.f35.ntmps [WO W] (Is (slV (opL (nmV W)) 1) [WO W, slE (opL (nmV W)) .i64 3]) ρ w) T H (nmT W.length (i + 1)) (nmH W (mN W (i + 1))) → SS hX (At ρ w) (Is (slV (opL (nmV W)) 1) [WO W, slE (opL (nmV W)) .i64 3]) ⟨cs, [], Try.f35, Try.f35.ntmps, [WO W], downLq (contF Try.f35 5 [I]), T, H⟩) →
    SS hX (At ρ w) (Is (slV (opL (nmV W)) 1) [WO W, slE (opL (nmV W)) .i64 3]) ⟨[], [], Try.f35, Try.f35.ntmps, [WO W], contF Try.f35 5 [I], nmT W.length i, nmH W (mN W i)⟩ := by
    intro ρ w I i hi bk
    have h1 : (i : Int) < 8 := by omega
    have es : slotF 1 4 8 4 4 2 6 2 2 (i : Int) = 5 + (i : Int) := by rw [slot_at hi]; omega
    have et : (5 + (i : Int)).toNat = 5 + i := by omega
    have h2 : 5 + (i : Int) < (W.length : Int) := by omega
    have h3 : (0 : Int) ≤ 5 + (i : Int) := by omega
    have h4 : 5 + i < W.length := by omega
    have hb5 := hbd i hi
    have ewi : IntKind.i64.wrap ((i : Int) + 1) = (i : Int) + 1 := wi64 (by omega) (by omega)
    have en : ((i + 1 : Nat) : Int) = (i : Int) + 1 := rfl
    dsimp only [nmT, nmH, cfN, en] at bk ⊢
    by_cases hc : clientV (W.getD (5 + i) 0) = -1
    · rw [mN_c hc] at bk
      refine sx hX [] 4000 rfl (by (simp [-List.getD_eq_getElem?_getD, -List.length_eq_zero_iff, conjP])) ?_
      refine sx hX [.T] 4000 rfl (by (simp [-List.getD_eq_getElem?_getD, -List.length_eq_zero_iff, conjP, hr, es, et, h1, h2, h3, h4, hb5.1, hb5.2] <;> (first | omega | ((repeat' (refine And.intro ?_ ?_)) <;> (first | omega | exact decide_eq_false (by omega) | exact decide_eq_true (by omega)))))) ?_
      refine sx hX [.F] 4000 rfl (by (simp [-List.getD_eq_getElem?_getD, -List.length_eq_zero_iff, conjP, addOP, es, et, hc])) ?_
      (refine bk _ _ _ (sub_of [0, 1, 2] rfl rfl rfl rfl ?tt ?hh ?ot ?ok); (case tt => (try simp only [ewi]); exact clhN); (case hh => exact clhN); (case ot => exact clkN); (case ok => exact clkN))
    · by_cases hz : blkV (W.getD (5 + i) 0) = 0
      · rw [mN_b hz] at bk
        refine sx hX [] 4000 rfl (by (simp [-List.getD_eq_getElem?_getD, -List.length_eq_zero_iff, conjP])) ?_
        refine sx hX [.T] 4000 rfl (by (simp [-List.getD_eq_getElem?_getD, -List.length_eq_zero_iff, conjP, hr, es, et, h1, h2, h3, h4, hb5.1, hb5.2] <;> (first | omega | ((repeat' (refine And.intro ?_ ?_)) <;> (first | omega | exact decide_eq_false (by omega) | exact decide_eq_true (by omega)))))) ?_
        refine sx hX [.T] 4000 rfl (by (simp [-List.getD_eq_getElem?_getD, -List.length_eq_zero_iff, conjP, es, et, hb5.1, hb5.2, hc])) ?_
        refine sx hX [.F] 4000 rfl (by (simp [-List.getD_eq_getElem?_getD, -List.length_eq_zero_iff, conjP, addOP, es, et, hz])) ?_
        (refine bk _ _ _ (sub_of [0, 1, 2] rfl rfl rfl rfl ?tt ?hh ?ot ?ok); (case tt => (try simp only [ewi]); exact clhN); (case hh => exact clhN); (case ot => exact clkN); (case ok => exact clkN))
      · rw [mN_on hc hz] at bk
        refine sx hX [] 4000 rfl (by (simp [-List.getD_eq_getElem?_getD, -List.length_eq_zero_iff, conjP])) ?_
        refine sx hX [.T] 4000 rfl (by (simp [-List.getD_eq_getElem?_getD, -List.length_eq_zero_iff, conjP, hr, es, et, h1, h2, h3, h4, hb5.1, hb5.2] <;> (first | omega | ((repeat' (refine And.intro ?_ ?_)) <;> (first | omega | exact decide_eq_false (by omega) | exact decide_eq_true (by omega)))))) ?_
        refine sx hX [.T] 4000 rfl (by (simp [-List.getD_eq_getElem?_getD, -List.length_eq_zero_iff, conjP, es, et, hb5.1, hb5.2, hc])) ?_
        refine sx hX [.T] 4000 rfl (by (simp [-List.getD_eq_getElem?_getD, -List.length_eq_zero_iff, conjP, es, et, hb5.1, hb5.2, hz])) ?_
        (refine ss_lookup hX (m := 2) (ks := mN W i) rfl rfl rfl rfl rfl rfl rfl rfl rfl rfl (by decide) ?_; refine sx hX [] 400 rfl (by first | exact trivial | simp [conjP]) ?_; refine ss_mapUpdate hX (m := 2) (ks := mN W i) rfl rfl rfl rfl rfl rfl rfl rfl rfl ?_; refine sx hX [] 400 rfl (by first | exact trivial | simp [conjP]) ?_; refine bk _ _ _ (sub_of [0, 1, 2] rfl rfl rfl rfl ?tt ?hh ?ot ?ok); (case tt => (try simp only [ewi]); exact clhN); (case hh => simp only [es, et, Nat.add_zero]; exact clhN); (case ot => exact clkN); (case ok => exact clkN))
  have fin : ∀ {ρ : Nat → Nat × Nat} {w : World} {I : Act → World → Prop},
    SS hX (At ρ w) (Is (slV (opL (nmV W)) 1) [WO W, slE (opL (nmV W)) .i64 3]) ⟨[], [], Try.f35, Try.f35.ntmps, [WO W], contF Try.f35 5 [I], nmT W.length 8, nmH W (mN W 8)⟩ := by
    intro ρ w I
    have h8 : (mN W 8).length ≤ 12 := by have := mN_len (W := W) 8; omega
    have en : srt ((mN W 8).map (·.1)) = nmV W := rfl
    dsimp only [nmT, nmH, cfN]
    refine sx hX [] 4000 rfl (by (simp [-List.getD_eq_getElem?_getD, -List.length_eq_zero_iff, conjP])) ?_
    refine sx hX [.F] 4000 rfl (by (simp [-List.getD_eq_getElem?_getD, -List.length_eq_zero_iff, conjP, h8])) ?_
    (rw [← en]; refine ss_end hX [0, 4] rfl rfl trivial rfl rfl rfl rfl ?tt ?hh ?ot ?ok; (case tt => exact clhN); (case hh => exact clhN); (case ot => exact clkN); (case ok => exact clkN))
  refine gives_x hX (fn := Try.f35) rfl rfl rfl rfl fun ρ w => ?_
  refine sx hX [] 4000 rfl (by (simp [-List.getD_eq_getElem?_getD, -List.length_eq_zero_iff, conjP])) ?_
  refine sx hX [.F] 4000 rfl (by (simp [-List.getD_eq_getElem?_getD, -List.length_eq_zero_iff, conjP, addOP, hr])) ?_
  refine sx hX [.F] 4000 rfl (by (simp [-List.getD_eq_getElem?_getD, -List.length_eq_zero_iff, conjP, addOP, hr, hW])) ?_
  (refine ss_mkMap hX 3 [WO W, cfN, cfN, .obj (.mp [])] rfl rfl rfl (by decide) rfl rfl ?_; refine sxb hX [.l] [] 400 rfl trivial ?_; refine ss_sub hX (T' := nmT W.length 0) (H' := nmH W []) [0, 1, 3] rfl rfl rfl rfl ?tt ?hh ?ot ?ok ?jj; (case tt => exact clhN); (case hh => exact clhN); (case ot => exact clkN); (case ok => exact clkN); (case jj => refine ss_loop hX (nmT W.length) (fun i => nmH W (mN W i)) (fun i => i ≤ 8) (fun i => 8 - i) 0 (Nat.zero_le _) ?_; intro i hi I back; refine sxb hX [.r 5] [] 100 rfl trivial ?_; exact (Nat.lt_or_ge i 8).elim (fun q => round i q (fun cs T H hs => back (i + 1) (by show i + 1 ≤ 8; omega) (by show 8 - (i + 1) < 8 - i; omega) cs T H hs)) (fun q => by have hi : i ≤ 8 := hi; obtain rfl : i = 8 := (by omega); exact fin)))
end Go.Proofs.Ytfdkaakllceebaa
