/- PlanApart: no two things lie in one word, none outside, and no word is left over. -/
import Derived.Test.YtbmjhlgkddhhnaaApartLaw
namespace Go.Proofs.Ytbmjhlgkddhhnaa
open Go Go.Hx
set_option maxRecDepth 8000

noncomputable def XZ : Tabs := tabs tr ft xt (fun _ => none) ctP 0
theorem hXZ : TOk Try.prog XZ := ⟨hTE, hFT, ctP_ok, hXT, fun t ks h => by simp [XZ, tabs] at h, mixed⟩

abbrev CH (a0 a1 a2 a3 a4 a5 a6 a7 a8 : Int) : HE := .obj (.cells [.int .i64 a0, .int .i64 a1, .int .i64 a2, .int .i64 a3, .int .i64 a4, .int .i64 a5, .int .i64 a6, .int .i64 a7, .int .i64 a8] 51)
section
variable {a0 a1 a2 a3 a4 a5 a6 a7 a8 : Int}
/-- the rows, as they are added one by one -/
def aT (n : Int) (v : Nat) : Nat × List (Int × Int) → List (Nat × SV)
  | (0, _) => [(3, .tt), (4, .ptr 0 0), (5, .int .i64 n), (6, .slice 1 0 n.toNat n.toNat), (7, .slice 2 0 5 5), (v, .int .i64 0)]
  | (i + 1, R) => [(3, .tt), (4, .ptr 0 0), (5, .int .i64 n), (6, .slice 1 0 n.toNat n.toNat), (7, .sbuf 2 2 0 R.length), (v, .int .i64 ((i + 1 : Nat) : Int))]
def aH (a0 a1 a2 a3 a4 a5 a6 a7 a8 n : Int) : Nat × List (Int × Int) → List HE
  | (0, _) => [CH a0 a1 a2 a3 a4 a5 a6 a7 a8, .obj (.ints .i64 (List.replicate n.toNat 0) 3), .obj (.cells [.int .i64 0, .int .i64 1, .int .i64 1, .int .i64 1, .int .i64 2, .int .i64 1, .int .i64 3, .int .i64 1, .int .i64 4, .int .i64 1] 46)]
  | (_ + 1, R) => [CH a0 a1 a2 a3 a4 a5 a6 a7 a8, .obj (.ints .i64 (List.replicate n.toNat 0) 3), .obj (.buf .i64 (flat R) 2 46)]
end

def bT (n : Int) (v : Nat) : Nat × List (Int × Int) → List (Nat × SV)
  | (i, R) => [(3, .tt), (4, .ptr 0 0), (5, .int .i64 n), (6, .slice 1 0 n.toNat n.toNat), (7, .sbuf 2 2 0 R.length), (v, .int .i64 (i : Int))]
def cT (n : Int) (c : Int) : Nat × List (Int × Int) → List (Nat × SV)
  | (i, R) => [(3, .tt), (4, .ptr 0 0), (5, .int .i64 n), (6, .slice 1 0 n.toNat n.toNat), (7, .sbuf 2 2 0 R.length), (10, .int .i64 (i : Int)), (11, .int .i64 c)]
def dT (n : Int) (R : List (Int × Int)) : Nat → List (Nat × SV)
  | m => [(3, .tt), (5, .int .i64 n), (6, .slice 1 0 n.toNat n.toNat), (7, .sbuf 2 2 0 R.length), (12, .int .i64 (m : Int))]
def gT (n : Int) : Nat → List (Nat × SV)
  | x => [(3, .tt), (5, .int .i64 n), (6, .slice 1 0 n.toNat n.toNat), (14, .int .i64 (x : Int))]
def eT (n : Int) (R : List (Int × Int)) (m : Nat) : Nat → List (Nat × SV)
  | k => [(3, .tt), (5, .int .i64 n), (6, .slice 1 0 n.toNat n.toNat), (7, .sbuf 2 2 0 R.length), (12, .int .i64 (m : Int)), (13, .int .i64 (k : Int))]
def bH (a0 a1 a2 a3 a4 a5 a6 a7 a8 n : Int) : Nat × List (Int × Int) → List HE
  | (_, R) => [CH a0 a1 a2 a3 a4 a5 a6 a7 a8, .obj (.ints .i64 (List.replicate n.toNat 0) 3), .obj (.buf .i64 (flat R) 2 46)]
def fH (a0 a1 a2 a3 a4 a5 a6 a7 a8 : Int) (R : List (Int × Int)) (cs : List Int) : List HE := [CH a0 a1 a2 a3 a4 a5 a6 a7 a8, .obj (.ints .i64 cs 3), .obj (.buf .i64 (flat R) 2 46)]

theorem size_bound {a0 a1 a2 a3 a4 a5 a6 a7 a8 : Int} (hr : rightB a0 a1 a2 a3 a4 a5 a6 a7 a8 = true) : 5 ≤ sizeV a0 a1 a2 a4 a5 a6 a7 ∧ sizeV a0 a1 a2 a4 a5 a6 a7 ≤ 4096 := by
  have hr' := right_iff.1 hr
  have m1 := mulB (x := a0) (y := 1 + 2 * a1) (X := 8) (Y := 65) (by omega) (by omega) (by omega) (by omega)
  have m2 := mulB (x := a5) (y := 1 + a4) (X := 12) (Y := 97) (by omega) (by omega) (by omega) (by omega)
  have m3 := mulB (x := a7) (y := 1 + a6) (X := 12) (Y := 97) (by omega) (by omega) (by omega) (by omega)
  unfold sizeV; omega

set_option maxHeartbeats 4000000 in
theorem planApart_fn (l0 l1 l2 l3 l4 l5 l6 l7 l8 : Int) : Gives Try.prog 6 [L9 l0 l1 l2 l3 l4 l5 l6 l7 l8] [] (Is .tt []) := by
  have hr := cfg_right l0 l1 l2 l3 l4 l5 l6 l7 l8
  refine gives_x hXZ (fn := Try.f6) rfl rfl rfl rfl fun ρ w => ?_
  refine sxb hXZ [.r 3] [] 1000 rfl (by simp [conjP, getH]) ?_
  generalize cAnd 7 l0 = a0 at hr ⊢
  generalize cRem 4 29 l1 = a1 at hr ⊢
  generalize cAnd 7 l2 = a2 at hr ⊢
  generalize cAnd 7 l3 = a3 at hr ⊢
  generalize cUp (cRem 4 60 l5) l7 = a6 at hr ⊢
  generalize cRem 4 60 l5 = a4 at hr ⊢
  generalize cMod 13 l6 = a5 at hr ⊢
  generalize cMod 13 l8 = a7 at hr ⊢
  generalize cAnd 7 l4 = a8 at hr ⊢
  have hr' := right_iff.1 hr
  obtain ⟨n1, n2⟩ := size_bound hr
  have ea := awake_eq
  refine sx hXZ [.F, .F] 1000 rfl (by simp [conjP, hr]; omega) ?_
  generalize hn : sizeV a0 a1 a2 a4 a5 a6 a7 = n at n1 n2 ⊢
  refine ss_sub hXZ (T' := aT n 8 (0, [])) (H' := aH a0 a1 a2 a3 a4 a5 a6 a7 a8 n (0, [])) [1, 2, 3] rfl rfl rfl rfl ?_ ?_ (by repeat' (first | exact rfl | exact trivial | exact sim_refl _ | refine And.intro ?_ ?_)) (by repeat' (first | exact rfl | exact trivial | exact sim_refl _ | refine And.intro ?_ ?_)) ?_
  · simp only [hr, if_true]
    repeat' (first | exact rfl | exact trivial | exact sim_refl _ | refine And.intro ?_ ?_)
  · simp only [hr, if_true]
    repeat' (first | exact rfl | exact trivial | exact sim_refl _ | refine And.intro ?_ ?_)
  refine ss_loop hXZ (aT n 8) (aH a0 a1 a2 a3 a4 a5 a6 a7 a8 n) (fun x => (x.1 : Int) ≤ a2 ∧ (0 < x.1 → x.2 = base5 ++ slotsR a2 x.1)) (fun x => a2.toNat - x.1) _ ⟨by simp only; omega, fun h => by simp at h⟩ ?_
  rintro ⟨i, R⟩ ⟨hi, hR⟩ I back
  simp only at hi hR back
  cases i with
  | zero =>
    have es : (XZ.TE 46).size = 2 := rfl
    refine sx hXZ [.T] 1000 rfl (by simp [conjP, hr, es, flat, base5]; omega) ?_
    refine back (1, base5 ++ slotsR a2 1) ⟨by simp only; omega, fun _ => rfl⟩ (by simp only; omega) _ _ _ (sub_of [0, 1, 4] rfl rfl rfl rfl ?_ ?_ (by repeat' (first | exact rfl | exact trivial | exact sim_refl _ | refine And.intro ?_ ?_)) (by repeat' (first | exact rfl | exact trivial | exact sim_refl _ | refine And.intro ?_ ?_)))
    · repeat' (first | exact rfl | exact trivial | exact sim_refl _ | refine And.intro ?_ ?_)
    · refine ⟨(by repeat' (first | exact rfl | exact trivial | exact sim_refl _ | refine And.intro ?_ ?_)), (by repeat' (first | exact rfl | exact trivial | exact sim_refl _ | refine And.intro ?_ ?_)), ⟨rfl, ?_, rfl, rfl⟩, trivial⟩
      show List.take (5 * 2) [(0 : Int), 1, 1, 1, 2, 1, 3, 1, 4, 1] ++ List.take (1 * 2) [slotV a2 0, 1] = _
      rfl
  | succ i =>
    have es : (XZ.TE 46).size = 2 := rfl
    refine sx hXZ [] 1000 rfl trivial ?_
    refine ss_cond hXZ rfl (fun h1 => ?_) (fun h1 => ?_)
    · simp at h1
      have hR' := hR (by omega)
      have hlen : R.length = 5 + (i + 1) := by rw [hR']; simp [base5, slotsR]; omega
      refine sx hXZ [] 1000 rfl (by simp [conjP, hr, es, flat_length]; omega) ?_
      refine back (i + 2, base5 ++ slotsR a2 (i + 2)) ⟨by simp only; omega, fun _ => rfl⟩ (by simp only; omega) _ _ _ (sub_of [0, 1, 4] rfl rfl rfl rfl ?_ ?_ (by repeat' (first | exact rfl | exact trivial | exact sim_refl _ | refine And.intro ?_ ?_)) (by repeat' (first | exact rfl | exact trivial | exact sim_refl _ | refine And.intro ?_ ?_)))
      · refine ⟨(by repeat' (first | exact rfl | exact trivial | exact sim_refl _ | refine And.intro ?_ ?_)), (by repeat' (first | exact rfl | exact trivial | exact sim_refl _ | refine And.intro ?_ ?_)), (by repeat' (first | exact rfl | exact trivial | exact sim_refl _ | refine And.intro ?_ ?_)), (by repeat' (first | exact rfl | exact trivial | exact sim_refl _ | refine And.intro ?_ ?_)), ⟨rfl, rfl, rfl, ?_⟩, ⟨rfl, ?_⟩, trivial⟩
        · rw [hlen]; simp [base5, slotsR]; omega
        · exact wi64 (by omega) (by omega)
      · refine ⟨(by repeat' (first | exact rfl | exact trivial | exact sim_refl _ | refine And.intro ?_ ?_)), (by repeat' (first | exact rfl | exact trivial | exact sim_refl _ | refine And.intro ?_ ?_)), ⟨rfl, ?_, rfl, rfl⟩, trivial⟩
        show flat R ++ List.take (1 * 2) [slotV a2 ((i + 1 : Nat) : Int), 1] = _
        rw [hR', slotsR_succ a2 (i + 1), ← List.append_assoc, flat_append (base5 ++ slotsR a2 (i + 1))]
        rfl
    · simp at h1
      have hia : ((i + 1 : Nat) : Int) = a2 := by omega
      have hR' := hR (by omega)
      refine sx hXZ [] 1000 rfl trivial ?_
      refine ss_sub hXZ (T' := bT n 9 (0, R)) (H' := bH a0 a1 a2 a3 a4 a5 a6 a7 a8 n (0, R)) [0, 1, 2] rfl rfl rfl rfl (by repeat' (first | exact rfl | exact trivial | exact sim_refl _ | refine And.intro ?_ ?_)) (by repeat' (first | exact rfl | exact trivial | exact sim_refl _ | refine And.intro ?_ ?_)) (by repeat' (first | exact rfl | exact trivial | exact sim_refl _ | refine And.intro ?_ ?_)) (by repeat' (first | exact rfl | exact trivial | exact sim_refl _ | refine And.intro ?_ ?_)) ?_
      refine ss_loop hXZ (bT n 9) (bH a0 a1 a2 a3 a4 a5 a6 a7 a8 n) (fun x => (x.1 : Int) ≤ a0 ∧ x.2 = base5 ++ slotsR a2 a2.toNat ++ topicsR a0 a1 a2 x.1) (fun x => a0.toNat - x.1) _ ⟨by simp only; omega, by simp only; rw [hR', ← hia]; simp [topicsR]⟩ ?_
      rintro ⟨t, R2⟩ ⟨ht, hR2⟩ I2 back2
      simp only at ht hR2 back2
      have hlen2 : R2.length = 5 + a2.toNat + 4 * t := by rw [hR2]; simp [base5, slotsR_length, topicsR_length]; omega
      refine sx hXZ [] 1000 rfl trivial ?_
      refine ss_cond hXZ rfl (fun h2 => ?_) (fun h2 => ?_)
      · simp at h2
        refine sx hXZ [] 1000 rfl (by simp [conjP, addOP, getH, bH, HE.so, hr, es, flat_length]; omega) ?_
        refine back2 (t + 1, R2 ++ topicRow a0 a1 a2 t) ⟨by simp only; omega, by simp only; rw [hR2, topicsR, List.append_assoc]⟩ (by simp only; omega) _ _ _ (sub_of [0, 1, 4] rfl rfl rfl rfl ?_ ?_ (by repeat' (first | exact rfl | exact trivial | exact sim_refl _ | refine And.intro ?_ ?_)) (by repeat' (first | exact rfl | exact trivial | exact sim_refl _ | refine And.intro ?_ ?_)))
        · refine ⟨(by repeat' (first | exact rfl | exact trivial | exact sim_refl _ | refine And.intro ?_ ?_)), (by repeat' (first | exact rfl | exact trivial | exact sim_refl _ | refine And.intro ?_ ?_)), (by repeat' (first | exact rfl | exact trivial | exact sim_refl _ | refine And.intro ?_ ?_)), (by repeat' (first | exact rfl | exact trivial | exact sim_refl _ | refine And.intro ?_ ?_)), ⟨rfl, rfl, rfl, ?_⟩, ⟨rfl, ?_⟩, trivial⟩
          · simp [topicRow]
          · exact wi64 (by omega) (by omega)
        · refine ⟨(by repeat' (first | exact rfl | exact trivial | exact sim_refl _ | refine And.intro ?_ ?_)), (by repeat' (first | exact rfl | exact trivial | exact sim_refl _ | refine And.intro ?_ ?_)), ⟨rfl, ?_, rfl, rfl⟩, trivial⟩
          rw [flat_append]; rfl
      · simp at h2
        have hta : (t : Int) = a0 := by omega
        refine sx hXZ [] 1000 rfl trivial ?_
        refine ss_sub hXZ (T' := bT n 10 (1, R2)) (H' := bH a0 a1 a2 a3 a4 a5 a6 a7 a8 n (1, R2)) [0, 1, 2] rfl rfl rfl rfl (by repeat' (first | exact rfl | exact trivial | exact sim_refl _ | refine And.intro ?_ ?_)) (by repeat' (first | exact rfl | exact trivial | exact sim_refl _ | refine And.intro ?_ ?_)) (by repeat' (first | exact rfl | exact trivial | exact sim_refl _ | refine And.intro ?_ ?_)) (by repeat' (first | exact rfl | exact trivial | exact sim_refl _ | refine And.intro ?_ ?_)) ?_
        refine ss_loop hXZ (bT n 10) (bH a0 a1 a2 a3 a4 a5 a6 a7 a8 n) (fun x => 1 ≤ x.1 ∧ (x.1 : Int) ≤ a5 + a7 + 1 ∧ x.2 = base5 ++ slotsR a2 a2.toNat ++ topicsR a0 a1 a2 a0.toNat ++ blocksR a0 a1 a2 a4 a5 a6 a7 (x.1 - 1)) (fun x => (a5 + a7 + 1).toNat - x.1) _ ⟨by show 1 ≤ 1; omega, by simp only; omega, by simp only; rw [hR2, ← hta]; simp [blocksR]⟩ ?_
        rintro ⟨b, R3⟩ ⟨hb, hb2, hR3⟩ I3 back3
        simp only at hb hb2 hR3 back3
        have hlen3 : R3.length = 5 + a2.toNat + 4 * a0.toNat + (b - 1) := by rw [hR3]; simp [base5, slotsR_length, topicsR_length, blocksR_length]; omega
        refine sx hXZ [] 1000 rfl (by simp [conjP]) ?_
        refine ss_cond hXZ rfl (fun h3 => ?_) (fun h3 => ?_)
        · simp [hr] at h3
          have hb' : b = (b - 1) + 1 := by omega
          by_cases h4 : (b : Int) ≤ a5
          · have ec : classV a5 a7 b = 0 := by rw [classV, if_pos (by omega), if_pos h4]
            refine sxb hXZ [.r 22] [.F, .F] 1000 rfl (by simp [conjP, hr, classF, ec]; omega) ?_
            refine ss_sub hXZ (T' := cT n 0 (b, R3)) (H' := bH a0 a1 a2 a3 a4 a5 a6 a7 a8 n (b, R3)) [0, 1, 2] rfl rfl rfl rfl ⟨(by repeat' (first | exact rfl | exact trivial | exact sim_refl _ | refine And.intro ?_ ?_)), (by repeat' (first | exact rfl | exact trivial | exact sim_refl _ | refine And.intro ?_ ?_)), (by repeat' (first | exact rfl | exact trivial | exact sim_refl _ | refine And.intro ?_ ?_)), (by repeat' (first | exact rfl | exact trivial | exact sim_refl _ | refine And.intro ?_ ?_)), (by repeat' (first | exact rfl | exact trivial | exact sim_refl _ | refine And.intro ?_ ?_)), (by repeat' (first | exact rfl | exact trivial | exact sim_refl _ | refine And.intro ?_ ?_)), ⟨rfl, ec⟩, trivial⟩ (by repeat' (first | exact rfl | exact trivial | exact sim_refl _ | refine And.intro ?_ ?_)) (by repeat' (first | exact rfl | exact trivial | exact sim_refl _ | refine And.intro ?_ ?_)) (by repeat' (first | exact rfl | exact trivial | exact sim_refl _ | refine And.intro ?_ ?_)) ?_
            refine sx hXZ [] 1000 rfl (by simp [conjP, addOP, getH, bH, HE.so, hr, es, flat_length]; omega) ?_
            refine back3 (b + 1, R3 ++ [(blockV a0 a1 a2 a4 a5 a6 a7 b, 1 + a4)]) ⟨by simp only; omega, by simp only; omega, ?_⟩ (by simp only; omega) _ _ _ (sub_of [0, 1, 4] rfl rfl rfl rfl ?_ ?_ (by repeat' (first | exact rfl | exact trivial | exact sim_refl _ | refine And.intro ?_ ?_)) (by repeat' (first | exact rfl | exact trivial | exact sim_refl _ | refine And.intro ?_ ?_)))
            · show _ = _ ++ blocksR a0 a1 a2 a4 a5 a6 a7 b
              rw [hR3, List.append_assoc]
              congr 1
              conv => rhs; rw [hb']
              rw [blocksR, ← hb', if_pos h4]
            · refine ⟨(by repeat' (first | exact rfl | exact trivial | exact sim_refl _ | refine And.intro ?_ ?_)), (by repeat' (first | exact rfl | exact trivial | exact sim_refl _ | refine And.intro ?_ ?_)), (by repeat' (first | exact rfl | exact trivial | exact sim_refl _ | refine And.intro ?_ ?_)), (by repeat' (first | exact rfl | exact trivial | exact sim_refl _ | refine And.intro ?_ ?_)), ⟨rfl, rfl, rfl, ?_⟩, ⟨rfl, ?_⟩, trivial⟩
              · simp
              · exact wi64 (by omega) (by omega)
            · refine ⟨(by repeat' (first | exact rfl | exact trivial | exact sim_refl _ | refine And.intro ?_ ?_)), (by repeat' (first | exact rfl | exact trivial | exact sim_refl _ | refine And.intro ?_ ?_)), ⟨rfl, ?_, rfl, rfl⟩, trivial⟩
              rw [flat_append]
              show _ ++ [_, IntKind.i64.wrap (1 + a4)] = _
              rw [wi64 (by omega) (by omega)]
              rfl
          · have ec : classV a5 a7 b = 1 := by rw [classV, if_pos (by omega), if_neg h4]
            refine sxb hXZ [.r 22] [.F, .F] 1000 rfl (by simp [conjP, hr, classF, ec]; omega) ?_
            refine ss_sub hXZ (T' := cT n 1 (b, R3)) (H' := bH a0 a1 a2 a3 a4 a5 a6 a7 a8 n (b, R3)) [0, 1, 2] rfl rfl rfl rfl ⟨(by repeat' (first | exact rfl | exact trivial | exact sim_refl _ | refine And.intro ?_ ?_)), (by repeat' (first | exact rfl | exact trivial | exact sim_refl _ | refine And.intro ?_ ?_)), (by repeat' (first | exact rfl | exact trivial | exact sim_refl _ | refine And.intro ?_ ?_)), (by repeat' (first | exact rfl | exact trivial | exact sim_refl _ | refine And.intro ?_ ?_)), (by repeat' (first | exact rfl | exact trivial | exact sim_refl _ | refine And.intro ?_ ?_)), (by repeat' (first | exact rfl | exact trivial | exact sim_refl _ | refine And.intro ?_ ?_)), ⟨rfl, ec⟩, trivial⟩ (by repeat' (first | exact rfl | exact trivial | exact sim_refl _ | refine And.intro ?_ ?_)) (by repeat' (first | exact rfl | exact trivial | exact sim_refl _ | refine And.intro ?_ ?_)) (by repeat' (first | exact rfl | exact trivial | exact sim_refl _ | refine And.intro ?_ ?_)) ?_
            refine sx hXZ [] 1000 rfl (by simp [conjP, addOP, getH, bH, HE.so, hr, es, flat_length]; omega) ?_
            refine back3 (b + 1, R3 ++ [(blockV a0 a1 a2 a4 a5 a6 a7 b, 1 + a6)]) ⟨by simp only; omega, by simp only; omega, ?_⟩ (by simp only; omega) _ _ _ (sub_of [0, 1, 4] rfl rfl rfl rfl ?_ ?_ (by repeat' (first | exact rfl | exact trivial | exact sim_refl _ | refine And.intro ?_ ?_)) (by repeat' (first | exact rfl | exact trivial | exact sim_refl _ | refine And.intro ?_ ?_)))
            · show _ = _ ++ blocksR a0 a1 a2 a4 a5 a6 a7 b
              rw [hR3, List.append_assoc]
              congr 1
              conv => rhs; rw [hb']
              rw [blocksR, ← hb', if_neg h4]
            · refine ⟨(by repeat' (first | exact rfl | exact trivial | exact sim_refl _ | refine And.intro ?_ ?_)), (by repeat' (first | exact rfl | exact trivial | exact sim_refl _ | refine And.intro ?_ ?_)), (by repeat' (first | exact rfl | exact trivial | exact sim_refl _ | refine And.intro ?_ ?_)), (by repeat' (first | exact rfl | exact trivial | exact sim_refl _ | refine And.intro ?_ ?_)), ⟨rfl, rfl, rfl, ?_⟩, ⟨rfl, ?_⟩, trivial⟩
              · simp
              · exact wi64 (by omega) (by omega)
            · refine ⟨(by repeat' (first | exact rfl | exact trivial | exact sim_refl _ | refine And.intro ?_ ?_)), (by repeat' (first | exact rfl | exact trivial | exact sim_refl _ | refine And.intro ?_ ?_)), ⟨rfl, ?_, rfl, rfl⟩, trivial⟩
              rw [flat_append]
              show _ ++ [_, IntKind.i64.wrap (1 + a6)] = _
              rw [wi64 (by omega) (by omega)]
              rfl
        · simp [hr] at h3
          have hbB : b - 1 = (a5 + a7).toNat := by omega
          rw [hbB] at hR3
          have hR4 : R3 = allR a0 a1 a2 a4 a5 a6 a7 := hR3
          have hgood : ∀ m, m < R3.length → 0 ≤ (R3.getD m (0, 0)).1 ∧ 0 ≤ (R3.getD m (0, 0)).2 ∧ (R3.getD m (0, 0)).1 + (R3.getD m (0, 0)).2 ≤ n := by
            intro m hm
            have : R3.getD m (0, 0) ∈ R3 := by rw [List.getD_eq_getElem?_getD, List.getElem?_eq_getElem hm]; exact List.getElem_mem _
            rw [hR4] at this
            have := all_good hr _ this
            rw [hR4, ← hn]; exact this
          have honce : ∀ x : Nat, (x : Int) < n → cnt R3 x = 1 := fun x hx => by rw [hR4]; exact all_once hr x (by rw [hn]; exact hx)
          clear hR3 hR4
          refine sx hXZ [] 1000 rfl trivial ?_
          refine ss_sub hXZ (T' := dT n R3 0) (H' := fH a0 a1 a2 a3 a4 a5 a6 a7 a8 R3 (cover n.toNat R3 0)) [0, 1, 2] rfl rfl rfl rfl (by repeat' (first | exact rfl | exact trivial | exact sim_refl _ | refine And.intro ?_ ?_)) ?_ (by repeat' (first | exact rfl | exact trivial | exact sim_refl _ | refine And.intro ?_ ?_)) (by repeat' (first | exact rfl | exact trivial | exact sim_refl _ | refine And.intro ?_ ?_)) ?_
          · rw [cover_zero]; refine ⟨(by repeat' (first | exact rfl | exact trivial | exact sim_refl _ | refine And.intro ?_ ?_)), (by repeat' (first | exact rfl | exact trivial | exact sim_refl _ | refine And.intro ?_ ?_)), (by repeat' (first | exact rfl | exact trivial | exact sim_refl _ | refine And.intro ?_ ?_)), trivial⟩
          refine ss_loop hXZ (dT n R3) (fun m => fH a0 a1 a2 a3 a4 a5 a6 a7 a8 R3 (cover n.toNat R3 m)) (fun m => m ≤ R3.length) (fun m => R3.length - m) _ (by show 0 ≤ R3.length; omega) ?_
          intro m hm I4 back4
          refine sx hXZ [] 1000 rfl trivial ?_
          refine ss_cond hXZ rfl (fun h5 => ?_) (fun h5 => ?_)
          · simp at h5
            obtain ⟨g1, g2, g3⟩ := hgood m h5
            obtain ⟨f1, f2⟩ := flat_get 0 R3 m h5
            have es3 : (XZ.TE 3).size = 1 := rfl
            rw [List.getD_eq_getElem?_getD] at f1 f2
            generalize hs : (R3.getD m (0, 0)).1 = s at g1 g3 f1
            generalize hl : (R3.getD m (0, 0)).2 = l at g2 g3 f2
            have ew : IntKind.i64.wrap (s + l) = s + l := wi64 (by omega) (by omega)
            refine sx hXZ [.F, .F] 1000 rfl (by simp [conjP, getH, fH, HE.so, cellOff, mulS, flat_length, es3, es, f1, f2, ew]; omega) ?_
            refine ss_sub hXZ (T' := eT n R3 m 0) (H' := fH a0 a1 a2 a3 a4 a5 a6 a7 a8 R3 (coverK n.toNat R3 m 0)) [0, 1, 2] rfl rfl rfl rfl (by repeat' (first | exact rfl | exact trivial | exact sim_refl _ | refine And.intro ?_ ?_)) ?_ (by repeat' (first | exact rfl | exact trivial | exact sim_refl _ | refine And.intro ?_ ?_)) (by repeat' (first | exact rfl | exact trivial | exact sim_refl _ | refine And.intro ?_ ?_)) ?_
            · rw [coverK_zero]; refine ⟨(by repeat' (first | exact rfl | exact trivial | exact sim_refl _ | refine And.intro ?_ ?_)), (by repeat' (first | exact rfl | exact trivial | exact sim_refl _ | refine And.intro ?_ ?_)), (by repeat' (first | exact rfl | exact trivial | exact sim_refl _ | refine And.intro ?_ ?_)), trivial⟩
            refine ss_loop hXZ (eT n R3 m) (fun k => fH a0 a1 a2 a3 a4 a5 a6 a7 a8 R3 (coverK n.toNat R3 m k)) (fun k => (k : Int) ≤ l) (fun k => l.toNat - k) _ (by show ((0 : Nat) : Int) ≤ l; omega) ?_
            intro k hk I5 back5
            refine sx hXZ [] 1000 rfl (by simp [conjP, getH, fH, HE.so, cellOff, mulS, flat_length, es3, es, f1, f2, ew]; omega) ?_
            refine ss_cond hXZ rfl (fun h6 => ?_) (fun h6 => ?_)
            · simp [cellOff, mulS, es3, es, f2] at h6
              have ew2 : IntKind.i64.wrap (s + k) = s + k := wi64 (by omega) (by omega)
              have hc1 : (coverK n.toNat R3 m k).getD (s + k).toNat 0 = cnt (R3.take m) (s + k).toNat + ind s k (s + k).toNat := by rw [coverK_get n.toNat R3 m k (by omega), hs]
              have hb1 := cnt_bd (s + k).toNat (R3.take m)
              have hb3 := ind_bd s k (s + k).toNat
              have hb4 : (R3.take m).length ≤ R3.length := by rw [List.length_take]; omega
              have ew3 : IntKind.i64.wrap ((coverK n.toNat R3 m k).getD (s + k).toNat 0 + 1) = (coverK n.toNat R3 m k).getD (s + k).toNat 0 + 1 := wi64 (by omega) (by omega)
              have ew4 : IntKind.i64.wrap ((k : Int) + 1) = ((k + 1 : Nat) : Int) := by rw [wi64 (by omega) (by omega)]; omega
              refine sx hXZ [] 1000 rfl (by simp [conjP, addOP, getH, fH, HE.so, cellOff, mulS, flat_length, coverK_length, es3, es, f1, f2, ew2]; omega) ?_
              refine back5 (k + 1) (by omega) (by omega) _ _ _ (sub_of [0, 1, 2] rfl rfl rfl rfl ?_ ?_ (by repeat' (first | exact rfl | exact trivial | exact sim_refl _ | refine And.intro ?_ ?_)) (by repeat' (first | exact rfl | exact trivial | exact sim_refl _ | refine And.intro ?_ ?_)))
              · exact ⟨(by repeat' (first | exact rfl | exact trivial | exact sim_refl _ | refine And.intro ?_ ?_)), (by repeat' (first | exact rfl | exact trivial | exact sim_refl _ | refine And.intro ?_ ?_)), (by repeat' (first | exact rfl | exact trivial | exact sim_refl _ | refine And.intro ?_ ?_)), (by repeat' (first | exact rfl | exact trivial | exact sim_refl _ | refine And.intro ?_ ?_)), (by repeat' (first | exact rfl | exact trivial | exact sim_refl _ | refine And.intro ?_ ?_)), ⟨rfl, ew4⟩, trivial⟩
              · refine ⟨(by repeat' (first | exact rfl | exact trivial | exact sim_refl _ | refine And.intro ?_ ?_)), ⟨rfl, ?_, rfl⟩, (by repeat' (first | exact rfl | exact trivial | exact sim_refl _ | refine And.intro ?_ ?_)), trivial⟩
                rw [List.getD_eq_getElem?_getD] at ew3
                simp [cellOff, mulS, es3, es, f1, ew2, ew3]
                exact coverK_set n.toNat R3 m k (by rw [hs]; omega) _ (by rw [List.getD_eq_getElem?_getD]) (by omega)
            · simp [cellOff, mulS, es3, es, f2] at h6
              refine sx hXZ [] 1000 rfl (by simp [conjP]) ?_
              refine back4 (m + 1) (by omega) (by omega) _ _ _ (sub_of [0, 1, 2] rfl rfl rfl rfl ?_ ?_ (by repeat' (first | exact rfl | exact trivial | exact sim_refl _ | refine And.intro ?_ ?_)) (by repeat' (first | exact rfl | exact trivial | exact sim_refl _ | refine And.intro ?_ ?_)))
              · exact ⟨(by repeat' (first | exact rfl | exact trivial | exact sim_refl _ | refine And.intro ?_ ?_)), (by repeat' (first | exact rfl | exact trivial | exact sim_refl _ | refine And.intro ?_ ?_)), (by repeat' (first | exact rfl | exact trivial | exact sim_refl _ | refine And.intro ?_ ?_)), (by repeat' (first | exact rfl | exact trivial | exact sim_refl _ | refine And.intro ?_ ?_)), ⟨rfl, by rw [wi64 (by omega) (by omega)]; omega⟩, trivial⟩
              · rw [← cover_succ n.toNat R3 h5 (k := k) (by rw [hl]; omega)]
                exact ⟨(by repeat' (first | exact rfl | exact trivial | exact sim_refl _ | refine And.intro ?_ ?_)), (by repeat' (first | exact rfl | exact trivial | exact sim_refl _ | refine And.intro ?_ ?_)), (by repeat' (first | exact rfl | exact trivial | exact sim_refl _ | refine And.intro ?_ ?_)), trivial⟩
          · simp at h5
            have hmR : m = R3.length := by omega
            subst hmR
            have es3 : (XZ.TE 3).size = 1 := rfl
            have hcv : ∀ x : Nat, (x : Int) < n → (cover n.toNat R3 R3.length)[x]?.getD 0 = 1 := by
              intro x hx
              have hx' : x < n.toNat := by omega
              simp [cover, hx', honce x hx]
            refine sx hXZ [] 1000 rfl trivial ?_
            refine ss_sub hXZ (T' := gT n 0) (H' := fH a0 a1 a2 a3 a4 a5 a6 a7 a8 R3 (cover n.toNat R3 R3.length)) [0, 1, 2] rfl rfl rfl rfl (by repeat' (first | exact rfl | exact trivial | exact sim_refl _ | refine And.intro ?_ ?_)) ⟨(by repeat' (first | exact rfl | exact trivial | exact sim_refl _ | refine And.intro ?_ ?_)), (by repeat' (first | exact rfl | exact trivial | exact sim_refl _ | refine And.intro ?_ ?_)), (by repeat' (first | exact rfl | exact trivial | exact sim_refl _ | refine And.intro ?_ ?_)), trivial⟩ (by repeat' (first | exact rfl | exact trivial | exact sim_refl _ | refine And.intro ?_ ?_)) (by repeat' (first | exact rfl | exact trivial | exact sim_refl _ | refine And.intro ?_ ?_)) ?_
            refine ss_loop hXZ (gT n) (fun _ => fH a0 a1 a2 a3 a4 a5 a6 a7 a8 R3 (cover n.toNat R3 R3.length)) (fun x => (x : Int) ≤ n) (fun x => n.toNat - x) _ (by show ((0 : Nat) : Int) ≤ n; omega) ?_
            intro x hx I6 back6
            refine sx hXZ [] 1000 rfl trivial ?_
            refine ss_cond hXZ rfl (fun h7 => ?_) (fun h7 => ?_)
            · simp at h7
              have hv := hcv x h7
              refine sx hXZ [.F] 1000 rfl (by simp [conjP, addOP, getH, fH, HE.so, cover_length, hv]; omega) ?_
              refine back6 (x + 1) (by omega) (by omega) _ _ _ (sub_of [0, 1, 2] rfl rfl rfl rfl ?_ (by repeat' (first | exact rfl | exact trivial | exact sim_refl _ | refine And.intro ?_ ?_)) (by repeat' (first | exact rfl | exact trivial | exact sim_refl _ | refine And.intro ?_ ?_)) (by repeat' (first | exact rfl | exact trivial | exact sim_refl _ | refine And.intro ?_ ?_)))
              exact ⟨(by repeat' (first | exact rfl | exact trivial | exact sim_refl _ | refine And.intro ?_ ?_)), (by repeat' (first | exact rfl | exact trivial | exact sim_refl _ | refine And.intro ?_ ?_)), (by repeat' (first | exact rfl | exact trivial | exact sim_refl _ | refine And.intro ?_ ?_)), ⟨rfl, by rw [wi64 (by omega) (by omega)]; omega⟩, trivial⟩
            · refine sx hXZ [] 1000 rfl trivial ?_
              exact ss_end hXZ [] rfl rfl trivial rfl rfl rfl rfl (by repeat' (first | exact rfl | exact trivial | exact sim_refl _ | refine And.intro ?_ ?_)) trivial (by repeat' (first | exact rfl | exact trivial | exact sim_refl _ | refine And.intro ?_ ?_)) trivial
end Go.Proofs.Ytbmjhlgkddhhnaa

namespace Go.Proofs.Ytbmjhlgkddhhnaa.planApart
open Go Go.Hx
theorem walk (l : List SV) (hl : okK [some .i64, some .i64, some .i64, some .i64, some .i64, some .i64, some .i64, some .i64, some .i64] l) : Gives Try.prog 6 [.agg l] [] (Is .tt []) := by
  rcases l with _ | ⟨a, _ | ⟨b, _ | ⟨c, _ | ⟨d, _ | ⟨e, _ | ⟨f, _ | ⟨g, _ | ⟨h, _ | ⟨i, _ | ⟨j, r⟩⟩⟩⟩⟩⟩⟩⟩⟩⟩ <;> simp only [okK, and_false, false_and] at hl
  obtain ⟨⟨n0, rfl, _⟩, ⟨n1, rfl, _⟩, ⟨n2, rfl, _⟩, ⟨n3, rfl, _⟩, ⟨n4, rfl, _⟩, ⟨n5, rfl, _⟩, ⟨n6, rfl, _⟩, ⟨n7, rfl, _⟩, ⟨n8, rfl, _⟩, _⟩ := hl
  exact planApart_fn _ _ _ _ _ _ _ _ _
end Go.Proofs.Ytbmjhlgkddhhnaa.planApart
