/- Heads: an arena's words as made, with words laid. -/
import Derived.Test.YtfdkaakllceebaaDoorTell
import Derived.Test.YtfdkaakllceebaaDoorMakeWords
namespace Go.Proofs.YtfdkaakllceebaaDoor
open Go Go.Hx
set_option maxRecDepth 8000
/-- A word that is laid. -/
structure SetP where
  (num b tag w : Int) (far : Bool)
def setRow (o : Nat → SetP) (j : Nat) : List SV := [.int .i64 (o j).num, .int .i64 (o j).b, .int .u32 (o j).tag, .int .u64 (o j).w, .bool (o j).far]
def SetOk (o : Nat → SetP) : Prop := ∀ j, (0 ≤ (o j).tag ∧ (o j).tag < 4294967296) ∧ 0 ≤ (o j).w ∧ (o j).w < 18446744073709551616
theorem and15 (x : Int) : 0 ≤ ibits .and .i64 x 15 ∧ ibits .and .i64 x 15 ≤ 15 := andB (m := 4) x 15 (by decide) (by decide)
def laAt (a0 a1 a2 a4 a5 a6 a7 : Int) (s : SetP) : Int :=
  if 1 < ibits .and .i64 s.num 15 ∧ ibits .and .i64 s.num 15 - 1 ≤ a5 + a7 then blockV a0 a1 a2 a4 a5 a6 a7 (ibits .and .i64 s.num 15 - 1) else 3 + ibits .and .i64 (ibits .and .i64 s.num 15) 1
def laVal (s : SetP) : Int := if s.far = true then s.w else s.tag * 4294967296 + ibits .and .i64 s.b 15 % 4294967296
def laW (a0 a1 a2 a4 a5 a6 a7 : Int) (W : List Int) (o : Nat → SetP) : Nat → List Int
  | 0 => W
  | i + 1 => (laW a0 a1 a2 a4 a5 a6 a7 W o i).set (laAt a0 a1 a2 a4 a5 a6 a7 (o i)).toNat (laVal (o i))
variable {a0 a1 a2 a3 a4 a5 a6 a7 a8 : Int} {W : List Int} {o : Nat → SetP}
theorem laW_len : ∀ i, (laW a0 a1 a2 a4 a5 a6 a7 W o i).length = W.length
  | 0 => rfl
  | i + 1 => by rw [laW, List.length_set, laW_len i]
theorem la_at (hr : rightB a0 a1 a2 a3 a4 a5 a6 a7 a8 = true) (s : SetP) : 0 ≤ laAt a0 a1 a2 a4 a5 a6 a7 s ∧ laAt a0 a1 a2 a4 a5 a6 a7 s < sizeV a0 a1 a2 a4 a5 a6 a7 := by
  have h1 := and1 (ibits .and .i64 s.num 15)
  have h2 := size_bd hr
  unfold laAt
  split
  · rename_i h
    exact block_range hr (by omega) (by omega)
  · omega
theorem InU.set {W : List Int} (h : InU W) {i : Nat} {v : Int} (h0 : 0 ≤ v) (h1 : v < 18446744073709551616) : InU (W.set i v) := fun x hx => by
  rcases List.mem_or_eq_of_mem_set hx with q | rfl
  · exact h x q
  · exact ⟨h0, h1⟩
theorem la_val (ho : SetOk o) (i : Nat) : 0 ≤ laVal (o i) ∧ laVal (o i) < 18446744073709551616 := by
  obtain ⟨⟨h1, h2⟩, h3, h4⟩ := ho i
  unfold laVal
  split <;> omega
theorem laW_in (h : InU W) (ho : SetOk o) : ∀ i, InU (laW a0 a1 a2 a4 a5 a6 a7 W o i)
  | 0 => h
  | i + 1 => InU.set (laW_in h ho i) (la_val ho i).1 (la_val ho i).2
theorem mkA_in (hr : rightB a0 a1 a2 a3 a4 a5 a6 a7 a8 = true) : InU (mkA a0 a1 a2 a3 a4 a5 a6 a7 a8).W := fun x hx => by
  obtain ⟨i, hi, rfl⟩ := List.mem_iff_getElem.1 hx
  have := mkA_bd hr i
  rw [List.getD_eq_getElem?_getD, List.getElem?_eq_getElem hi] at this
  exact this
def ctLa : Nat → Option Hx.Spec
  | 22 => some (rmakeS)
  | 28 => some (pureS (placeS blockF))
  | 16 => some (pureS rhMakeS)
  | _ => none
theorem ctLa_ok : ∀ f s args H ob V L, ctLa f = some s → s args H = some (ob, V, L) → AllP ob → Gives Tryd.prog f args H (Is V L) := by
  intro f s args H ob V L h hs ho
  unfold ctLa at h
  split at h
  · simp at h; subst h; exact rmakeS_ok hs ho
  · simp at h; subst h; exact pureS_ok ⟨_, hTE⟩ (placeS_ok (v := blockF) rblock_fn) hs ho
  · simp at h; subst h; exact pureS_ok ⟨_, hTE⟩ (rhMakeS_ok) hs ho
  · simp at h
noncomputable def XLa : Tabs := tabs tr ft xt (fun _ => none) ctLa 0
theorem hXLa : TOk Tryd.prog (XLa) := ⟨hTE, hFT, ctLa_ok, hXT, fun t ks h => by simp [XLa, tabs] at h, mixed⟩
abbrev stO (n : Nat) (o : Nat → SetP) : HE := .obj (.rows n 5 (setRow o))
def laT (n cap : Nat) (N : Nat) (i : Nat) : List (Nat × SV) := [(1, .slice 0 0 n cap), (2, .ptr 1 0), (5, .slice 2 0 N N), (6, .int .i64 (i : Int))]
def laH (a0 a1 a2 a3 a4 a5 a6 a7 a8 : Int) (n : Nat) (o : Nat → SetP) (V : List Int) : List HE := [stO n o, .obj (.cells [.int .i64 a0, .int .i64 a1, .int .i64 a2, .int .i64 a3, .int .i64 a4, .int .i64 a5, .int .i64 a6, .int .i64 a7, .int .i64 a8] 29), .obj (.ints .u64 V 43)]
/-- How many are laid. -/
def laN (n : Nat) : Nat := min n 12
set_option maxHeartbeats 8000000 in
theorem laid_fn (hr : rightB a0 a1 a2 a3 a4 a5 a6 a7 a8 = true) (ho : SetOk o) (n cap : Nat) : Gives Tryd.prog 10 [C9 a0 a1 a2 a3 a4 a5 a6 a7 a8, .slice 0 0 n cap] [stO n o]
    (Is (.slice 1 0 (laW a0 a1 a2 a4 a5 a6 a7 (mkA a0 a1 a2 a3 a4 a5 a6 a7 a8).W o (laN n)).length (laW a0 a1 a2 a4 a5 a6 a7 (mkA a0 a1 a2 a3 a4 a5 a6 a7 a8).W o (laN n)).length) [stO n o, .obj (.ints .u64 (laW a0 a1 a2 a4 a5 a6 a7 (mkA a0 a1 a2 a3 a4 a5 a6 a7 a8).W o (laN n)) 43)]) := by
  have hsz := size_bd hr
  have hlen : (mkA a0 a1 a2 a3 a4 a5 a6 a7 a8).W.length = (sizeV a0 a1 a2 a4 a5 a6 a7).toNat := mkA_len
  have hrA := right_iff.1 hr
  refine gives_x hXLa (fn := Tryd.f10) rfl rfl rfl rfl fun ρ w => ?_
  refine sxb hXLa [.l] [] 4000 rfl (by simp [conjP, hr]) ?_
  refine ss_sub hXLa (T' := laT n cap (mkA a0 a1 a2 a3 a4 a5 a6 a7 a8).W.length 0) (H' := laH a0 a1 a2 a3 a4 a5 a6 a7 a8 n o (mkA a0 a1 a2 a3 a4 a5 a6 a7 a8).W) [0, 1, 2] rfl rfl rfl rfl (by (repeat' (first | exact rfl | exact trivial | exact sim_refl _ | refine And.intro ?_ ?_))) (by (repeat' (first | exact rfl | exact trivial | exact sim_refl _ | refine And.intro ?_ ?_))) (by (repeat' (first | exact rfl | exact trivial | exact sim_refl _ | refine And.intro ?_ ?_))) (by (repeat' (first | exact rfl | exact trivial | exact sim_refl _ | refine And.intro ?_ ?_))) ?_
  refine ss_loop hXLa (fun i : Nat => laT n cap (mkA a0 a1 a2 a3 a4 a5 a6 a7 a8).W.length i) (fun i => laH a0 a1 a2 a3 a4 a5 a6 a7 a8 n o (laW a0 a1 a2 a4 a5 a6 a7 (mkA a0 a1 a2 a3 a4 a5 a6 a7 a8).W o i)) (fun i => i ≤ laN n) (fun i => laN n - i) 0 (Nat.zero_le _) ?_
  intro i hi0 I back
  have hi : i ≤ laN n := hi0
  have hN := laW_len (a0 := a0) (a1 := a1) (a2 := a2) (a4 := a4) (a5 := a5) (a6 := a6) (a7 := a7) (W := (mkA a0 a1 a2 a3 a4 a5 a6 a7 a8).W) (o := o)
  by_cases h1 : i < n
  · have h1' : (i : Int) < (n : Int) := by omega
    by_cases h2 : i < 12
    · have h2' : (i : Int) < 12 := by omega
      have hlt : i < laN n := by unfold laN; omega
      have k0 := and15 (o i).num
      have k1 := and1 (ibits .and .i64 (o i).num 15)
      have k2 := and15 (o i).b
      have hw1 : IntKind.i64.wrap (ibits .and .i64 (o i).num 15 - 1) = ibits .and .i64 (o i).num 15 - 1 := wi64 (by omega) (by omega)
      have hw3 : IntKind.i64.wrap (3 + ibits .and .i64 (ibits .and .i64 (o i).num 15) 1) = 3 + ibits .and .i64 (ibits .and .i64 (o i).num 15) 1 := wi64 (by omega) (by omega)
      have hw5 : IntKind.i64.wrap (a5 + a7) = a5 + a7 := wi64 (by omega) (by omega)
      obtain ⟨⟨t0, t1⟩, f0, f1⟩ := ho i
      have hat := la_at hr (o i)
      have hLn := hN i
      have e : laW a0 a1 a2 a4 a5 a6 a7 (mkA a0 a1 a2 a3 a4 a5 a6 a7 a8).W o (i + 1) = (laW a0 a1 a2 a4 a5 a6 a7 (mkA a0 a1 a2 a3 a4 a5 a6 a7 a8).W o i).set (laAt a0 a1 a2 a4 a5 a6 a7 (o i)).toNat (laVal (o i)) := rfl
      generalize hV : laW a0 a1 a2 a4 a5 a6 a7 (mkA a0 a1 a2 a3 a4 a5 a6 a7 a8).W o i = V at *
      by_cases hk : 1 < ibits .and .i64 (o i).num 15 ∧ ibits .and .i64 (o i).num 15 - 1 ≤ a5 + a7
      · have hA : laAt a0 a1 a2 a4 a5 a6 a7 (o i) = blockV a0 a1 a2 a4 a5 a6 a7 (ibits .and .i64 (o i).num 15 - 1) := if_pos hk
        rw [hA] at hat e
        have hB : blockF a0 a1 a2 a3 a4 a5 a6 a7 a8 (ibits .and .i64 (o i).num 15 - 1) = blockV a0 a1 a2 a4 a5 a6 a7 (ibits .and .i64 (o i).num 15 - 1) := rfl
        have hx1 : (blockV a0 a1 a2 a4 a5 a6 a7 (ibits .and .i64 (o i).num 15 - 1)).toNat < V.length := by omega
        have hx2 : (blockV a0 a1 a2 a4 a5 a6 a7 (ibits .and .i64 (o i).num 15 - 1)).toNat < (mkA a0 a1 a2 a3 a4 a5 a6 a7 a8).W.length := by omega
        have hx3 : blockV a0 a1 a2 a4 a5 a6 a7 (ibits .and .i64 (o i).num 15 - 1) < ((mkA a0 a1 a2 a3 a4 a5 a6 a7 a8).W.length : Int) := by omega
        have hx0 := hat.1
        have hk1 := hk.1
        have hk2 := hk.2
        by_cases hf : (o i).far = true
        · have hv : laVal (o i) = (o i).w := if_pos hf
          rw [hv] at e
          refine sx hXLa [] 4000 rfl (by (simp [conjP])) ?_
          refine sx hXLa [.T] 4000 rfl (by (simp [conjP, addOP, h1'])) ?_
          refine sx hXLa [.T] 4000 rfl (by (simp [conjP, h1', h2', h1])) ?_
          refine sx hXLa [.T] 4000 rfl (by (simp [conjP, hk1])) ?_
          refine sx hXLa [.T] 4000 rfl (by (simp [conjP, hr, hw1, hw5, hB, hx0, hx1, hx3, hk2, t0, t1] <;> (first | omega | ((repeat' (refine And.intro ?_ ?_)) <;> (first | omega | exact decide_eq_false (by omega) | exact decide_eq_true (by omega)))))) ?_
          refine sx hXLa [.T] 4000 rfl (by (simp [conjP, hw1, hB, hx0, hx1, hx3, hf])) ?_
          (simp only [Int.toNat_natCast, Nat.add_zero, hw1, hB, List.set_set]; refine back (i + 1) ?q1 ?q2 _ _ _ (sub_of [0, 1, 2] rfl rfl rfl rfl ⟨by (repeat' (first | exact rfl | exact trivial | exact sim_refl _ | refine And.intro ?_ ?_)), by (repeat' (first | exact rfl | exact trivial | exact sim_refl _ | refine And.intro ?_ ?_)), by (repeat' (first | exact rfl | exact trivial | exact sim_refl _ | refine And.intro ?_ ?_)), ⟨rfl, wi64 (by omega) (by omega)⟩, trivial⟩ ?hh (by (repeat' (first | exact rfl | exact trivial | exact sim_refl _ | refine And.intro ?_ ?_))) (by (repeat' (first | exact rfl | exact trivial | exact sim_refl _ | refine And.intro ?_ ?_)))); (case hh => rw [e]; (repeat' (first | exact rfl | exact trivial | exact sim_refl _ | (simp; done) | refine And.intro ?_ ?_))); (case q1 => omega); (case q2 => omega))
        · have hv : laVal (o i) = (o i).tag * 4294967296 + ibits .and .i64 (o i).b 15 % 4294967296 := if_neg hf
          have hf : (o i).far = false := by simpa using hf
          rw [hv] at e
          refine sx hXLa [] 4000 rfl (by (simp [conjP])) ?_
          refine sx hXLa [.T] 4000 rfl (by (simp [conjP, addOP, h1'])) ?_
          refine sx hXLa [.T] 4000 rfl (by (simp [conjP, h1', h2', h1])) ?_
          refine sx hXLa [.T] 4000 rfl (by (simp [conjP, hk1])) ?_
          refine sx hXLa [.T] 4000 rfl (by (simp [conjP, hr, hw1, hw5, hB, hx0, hx1, hx3, hk2, t0, t1] <;> (first | omega | ((repeat' (refine And.intro ?_ ?_)) <;> (first | omega | exact decide_eq_false (by omega) | exact decide_eq_true (by omega)))))) ?_
          refine sx hXLa [.F] 4000 rfl (by (simp [conjP, addOP, hf])) ?_
          (simp only [Int.toNat_natCast, Nat.add_zero, hw1, hB]; refine back (i + 1) ?q1 ?q2 _ _ _ (sub_of [0, 1, 2] rfl rfl rfl rfl ⟨by (repeat' (first | exact rfl | exact trivial | exact sim_refl _ | refine And.intro ?_ ?_)), by (repeat' (first | exact rfl | exact trivial | exact sim_refl _ | refine And.intro ?_ ?_)), by (repeat' (first | exact rfl | exact trivial | exact sim_refl _ | refine And.intro ?_ ?_)), ⟨rfl, wi64 (by omega) (by omega)⟩, trivial⟩ ?hh (by (repeat' (first | exact rfl | exact trivial | exact sim_refl _ | refine And.intro ?_ ?_))) (by (repeat' (first | exact rfl | exact trivial | exact sim_refl _ | refine And.intro ?_ ?_)))); (case hh => rw [e]; (repeat' (first | exact rfl | exact trivial | exact sim_refl _ | (simp; done) | refine And.intro ?_ ?_))); (case q1 => omega); (case q2 => omega))
      · have hA : laAt a0 a1 a2 a4 a5 a6 a7 (o i) = 3 + ibits .and .i64 (ibits .and .i64 (o i).num 15) 1 := if_neg hk
        rw [hA] at hat e
        have hx1 : (3 + ibits .and .i64 (ibits .and .i64 (o i).num 15) 1).toNat < V.length := by omega
        have hx2 : (3 + ibits .and .i64 (ibits .and .i64 (o i).num 15) 1).toNat < (mkA a0 a1 a2 a3 a4 a5 a6 a7 a8).W.length := by omega
        have hx3 : 3 + ibits .and .i64 (ibits .and .i64 (o i).num 15) 1 < ((mkA a0 a1 a2 a3 a4 a5 a6 a7 a8).W.length : Int) := by omega
        have hx0 := hat.1
        have hkn : 1 < ibits .and .i64 (o i).num 15 → ¬ ibits .and .i64 (o i).num 15 - 1 ≤ a5 + a7 := fun a b => hk ⟨a, b⟩
        by_cases hf : (o i).far = true
        · have hv : laVal (o i) = (o i).w := if_pos hf
          rw [hv] at e
          refine sx hXLa [] 4000 rfl (by (simp [conjP])) ?_
          refine sx hXLa [.T] 4000 rfl (by (simp [conjP, addOP, h1'])) ?_
          refine sx hXLa [.T] 4000 rfl (by (simp [conjP, h1', h2', h1])) ?_
          refine ss_pb hXLa [] [] 4000 rfl (fun hb0 => ?_) (fun hb0 => ?_)
          · try simp [-List.getD_eq_getElem?_getD, -List.length_eq_zero_iff] at hb0
            refine sx hXLa [.T] 4000 rfl (by (simp [conjP, hb0])) ?_
            refine sx hXLa [.F] 4000 rfl (by (simp [conjP, hw1, hw3, hw5, hx0, hx1, hx3, hkn, t0, t1, hb0])) ?_
            refine sx hXLa [.T] 4000 rfl (by (simp [conjP, hw3, hx0, hx1, hx3, hf])) ?_
            (simp only [Int.toNat_natCast, Nat.add_zero, hw3, List.set_set]; refine back (i + 1) ?q1 ?q2 _ _ _ (sub_of [0, 1, 2] rfl rfl rfl rfl ⟨by (repeat' (first | exact rfl | exact trivial | exact sim_refl _ | refine And.intro ?_ ?_)), by (repeat' (first | exact rfl | exact trivial | exact sim_refl _ | refine And.intro ?_ ?_)), by (repeat' (first | exact rfl | exact trivial | exact sim_refl _ | refine And.intro ?_ ?_)), ⟨rfl, wi64 (by omega) (by omega)⟩, trivial⟩ ?hh (by (repeat' (first | exact rfl | exact trivial | exact sim_refl _ | refine And.intro ?_ ?_))) (by (repeat' (first | exact rfl | exact trivial | exact sim_refl _ | refine And.intro ?_ ?_)))); (case hh => rw [e]; (repeat' (first | exact rfl | exact trivial | exact sim_refl _ | (simp; done) | refine And.intro ?_ ?_))); (case q1 => omega); (case q2 => omega))
          · try simp [-List.getD_eq_getElem?_getD, -List.length_eq_zero_iff] at hb0
            refine sx hXLa [.F] 4000 rfl (by (simp [conjP, hw3, hx0, hx1, hx3, t0, t1, hb0])) ?_
            refine sx hXLa [.T] 4000 rfl (by (simp [conjP, hw3, hx0, hx1, hx3, hf])) ?_
            (simp only [Int.toNat_natCast, Nat.add_zero, hw3, List.set_set]; refine back (i + 1) ?q1 ?q2 _ _ _ (sub_of [0, 1, 2] rfl rfl rfl rfl ⟨by (repeat' (first | exact rfl | exact trivial | exact sim_refl _ | refine And.intro ?_ ?_)), by (repeat' (first | exact rfl | exact trivial | exact sim_refl _ | refine And.intro ?_ ?_)), by (repeat' (first | exact rfl | exact trivial | exact sim_refl _ | refine And.intro ?_ ?_)), ⟨rfl, wi64 (by omega) (by omega)⟩, trivial⟩ ?hh (by (repeat' (first | exact rfl | exact trivial | exact sim_refl _ | refine And.intro ?_ ?_))) (by (repeat' (first | exact rfl | exact trivial | exact sim_refl _ | refine And.intro ?_ ?_)))); (case hh => rw [e]; (repeat' (first | exact rfl | exact trivial | exact sim_refl _ | (simp; done) | refine And.intro ?_ ?_))); (case q1 => omega); (case q2 => omega))
        · have hv : laVal (o i) = (o i).tag * 4294967296 + ibits .and .i64 (o i).b 15 % 4294967296 := if_neg hf
          have hf : (o i).far = false := by simpa using hf
          rw [hv] at e
          refine sx hXLa [] 4000 rfl (by (simp [conjP])) ?_
          refine sx hXLa [.T] 4000 rfl (by (simp [conjP, addOP, h1'])) ?_
          refine sx hXLa [.T] 4000 rfl (by (simp [conjP, h1', h2', h1])) ?_
          refine ss_pb hXLa [] [] 4000 rfl (fun hb0 => ?_) (fun hb0 => ?_)
          · try simp [-List.getD_eq_getElem?_getD, -List.length_eq_zero_iff] at hb0
            refine sx hXLa [.T] 4000 rfl (by (simp [conjP, hb0])) ?_
            refine sx hXLa [.F] 4000 rfl (by (simp [conjP, hw1, hw3, hw5, hx0, hx1, hx3, hkn, t0, t1, hb0])) ?_
            refine sx hXLa [.F] 4000 rfl (by (simp [conjP, addOP, hf])) ?_
            (simp only [Int.toNat_natCast, Nat.add_zero, hw3]; refine back (i + 1) ?q1 ?q2 _ _ _ (sub_of [0, 1, 2] rfl rfl rfl rfl ⟨by (repeat' (first | exact rfl | exact trivial | exact sim_refl _ | refine And.intro ?_ ?_)), by (repeat' (first | exact rfl | exact trivial | exact sim_refl _ | refine And.intro ?_ ?_)), by (repeat' (first | exact rfl | exact trivial | exact sim_refl _ | refine And.intro ?_ ?_)), ⟨rfl, wi64 (by omega) (by omega)⟩, trivial⟩ ?hh (by (repeat' (first | exact rfl | exact trivial | exact sim_refl _ | refine And.intro ?_ ?_))) (by (repeat' (first | exact rfl | exact trivial | exact sim_refl _ | refine And.intro ?_ ?_)))); (case hh => rw [e]; (repeat' (first | exact rfl | exact trivial | exact sim_refl _ | (simp; done) | refine And.intro ?_ ?_))); (case q1 => omega); (case q2 => omega))
          · try simp [-List.getD_eq_getElem?_getD, -List.length_eq_zero_iff] at hb0
            refine sx hXLa [.F] 4000 rfl (by (simp [conjP, hw3, hx0, hx1, hx3, t0, t1, hb0])) ?_
            refine sx hXLa [.F] 4000 rfl (by (simp [conjP, addOP, hf])) ?_
            (simp only [Int.toNat_natCast, Nat.add_zero, hw3]; refine back (i + 1) ?q1 ?q2 _ _ _ (sub_of [0, 1, 2] rfl rfl rfl rfl ⟨by (repeat' (first | exact rfl | exact trivial | exact sim_refl _ | refine And.intro ?_ ?_)), by (repeat' (first | exact rfl | exact trivial | exact sim_refl _ | refine And.intro ?_ ?_)), by (repeat' (first | exact rfl | exact trivial | exact sim_refl _ | refine And.intro ?_ ?_)), ⟨rfl, wi64 (by omega) (by omega)⟩, trivial⟩ ?hh (by (repeat' (first | exact rfl | exact trivial | exact sim_refl _ | refine And.intro ?_ ?_))) (by (repeat' (first | exact rfl | exact trivial | exact sim_refl _ | refine And.intro ?_ ?_)))); (case hh => rw [e]; (repeat' (first | exact rfl | exact trivial | exact sim_refl _ | (simp; done) | refine And.intro ?_ ?_))); (case q1 => omega); (case q2 => omega))
    · have h2' : ¬ (i : Int) < 12 := by omega
      have hiN : i = laN n := by unfold laN at hi ⊢; omega
      have hLn := hN i
      refine sx hXLa [] 4000 rfl (by (simp [conjP])) ?_
      refine sx hXLa [.T] 4000 rfl (by (simp [conjP, addOP, h1'])) ?_
      refine sx hXLa [.F] 4000 rfl (by (simp [conjP, addOP, h2'])) ?_
      (refine ss_end hXLa [0, 2] rfl rfl trivial rfl rfl rfl rfl ?vv ?hh (by (repeat' (first | exact rfl | exact trivial | exact sim_refl _ | refine And.intro ?_ ?_))) (by (repeat' (first | exact rfl | exact trivial | exact sim_refl _ | refine And.intro ?_ ?_))); (case vv => rw [← hiN, hLn]; (repeat' (first | exact rfl | exact trivial | exact sim_refl _ | (simp; done) | refine And.intro ?_ ?_))); (case hh => rw [← hiN]; (repeat' (first | exact rfl | exact trivial | exact sim_refl _ | refine And.intro ?_ ?_))))
  · have h1' : ¬ (i : Int) < (n : Int) := by omega
    have hiN : i = laN n := by unfold laN at hi ⊢; omega
    have hLn := hN i
    refine sx hXLa [] 4000 rfl (by (simp [conjP])) ?_
    refine sx hXLa [.F] 4000 rfl (by (simp [conjP, addOP, h1'])) ?_
    (refine ss_end hXLa [0, 2] rfl rfl trivial rfl rfl rfl rfl ?vv ?hh (by (repeat' (first | exact rfl | exact trivial | exact sim_refl _ | refine And.intro ?_ ?_))) (by (repeat' (first | exact rfl | exact trivial | exact sim_refl _ | refine And.intro ?_ ?_))); (case vv => rw [← hiN, hLn]; (repeat' (first | exact rfl | exact trivial | exact sim_refl _ | (simp; done) | refine And.intro ?_ ?_))); (case hh => rw [← hiN]; (repeat' (first | exact rfl | exact trivial | exact sim_refl _ | refine And.intro ?_ ?_))))
end Go.Proofs.YtfdkaakllceebaaDoor
