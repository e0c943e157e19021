/- HeadsOnce: whatever words are laid, a list that is told has blocks of its class alone, each once. -/
import Derived.Test.YtfdkaakllceebaaDoorOnceLaw
namespace Go.Proofs.YtfdkaakllceebaaDoor
open Go Go.Hx
set_option maxRecDepth 8000
def hasTw (m : Nat) (n : Int) : Nat → List (Nat × SV)
  | i => [(0, .sbuf 0 1 0 m), (1, .int .i64 n), (5, .int .i64 (i : Int))]
theorem hasw_fn (l : List Int) (m : Nat) (n : Int) (hm : m ≤ l.length) (hl : l.length < 1000000) : Gives Tryd.prog 14 [.sbuf 0 1 0 m, .int .i64 n] [IB l] (Is (.bool (hasL (l.take m) n)) [IB l]) := by
  refine gives_x hXS0 (fn := Tryd.f14) rfl rfl rfl rfl fun ρ w0 => ?_
  refine sx hXS0 [] 100 rfl trivial ?_
  refine ss_sub hXS0 (T' := hasTw m n 0) (H' := [IB l]) [0] rfl rfl rfl rfl (by (repeat' (first | exact rfl | exact trivial | exact sim_refl _ | refine And.intro ?_ ?_))) (by (repeat' (first | exact rfl | exact trivial | exact sim_refl _ | refine And.intro ?_ ?_))) (by (repeat' (first | exact rfl | exact trivial | exact sim_refl _ | refine And.intro ?_ ?_))) (by (repeat' (first | exact rfl | exact trivial | exact sim_refl _ | refine And.intro ?_ ?_))) ?_
  refine ss_loop hXS0 (hasTw m n) (fun _ => [IB l]) (fun i => i ≤ m ∧ hasL (l.take m) n = hasL ((l.take m).drop i) n) (fun i => m - i) _ ⟨Nat.zero_le _, rfl⟩ ?_
  rintro i ⟨hi, hd⟩ I back
  have hX : (l.take m).length = m := by simp; omega
  have hgt : i < m → (l.take m).getD i 0 = l.getD i 0 := fun h => by
    rw [List.getD_eq_getElem?_getD, List.getElem?_take, if_pos h, List.getD_eq_getElem?_getD]
  have hil : i < m → i < l.length := fun h => by omega
  by_cases h1 : i < m
  · have h2 := hil h1
    have h3 : (i : Int) < (m : Int) := by omega
    have hg := hgt h1
    have q := hasL_drop (l := l.take m) (i := i) (by omega) n
    rw [hg] at q
    by_cases hz : l.getD i 0 = n
    · rw [if_pos hz] at q
      refine sx hXS0 [] 400 rfl (by (simp [-List.getD_eq_getElem?_getD, -List.length_eq_zero_iff, conjP] <;> (first | omega | ((repeat' (refine And.intro ?_ ?_)) <;> (first | omega | exact decide_eq_false (by omega) | exact decide_eq_true (by omega)))))) ?_
      refine sx hXS0 [.T] 400 rfl (by (simp [-List.getD_eq_getElem?_getD, -List.length_eq_zero_iff, conjP, h2, h3, cellOff] <;> (first | omega | ((repeat' (refine And.intro ?_ ?_)) <;> (first | omega | exact decide_eq_false (by omega) | exact decide_eq_true (by omega)))))) ?_
      refine sx hXS0 [.T] 400 rfl (by (simp [-List.getD_eq_getElem?_getD, -List.length_eq_zero_iff, conjP, addOP, hz, cellOff] <;> (first | omega | ((repeat' (refine And.intro ?_ ?_)) <;> (first | omega | exact decide_eq_false (by omega) | exact decide_eq_true (by omega)))))) ?_
      (refine ss_end hXS0 [0] rfl rfl trivial rfl rfl rfl rfl ?_ (by (repeat' (first | exact rfl | exact trivial | exact sim_refl _ | refine And.intro ?_ ?_))) (by (repeat' (first | exact rfl | exact trivial | exact sim_refl _ | refine And.intro ?_ ?_))) (by (repeat' (first | exact rfl | exact trivial | exact sim_refl _ | refine And.intro ?_ ?_))); rw [hd, q]; exact rfl)
    · rw [if_neg hz] at q
      refine sx hXS0 [] 400 rfl (by (simp [-List.getD_eq_getElem?_getD, -List.length_eq_zero_iff, conjP] <;> (first | omega | ((repeat' (refine And.intro ?_ ?_)) <;> (first | omega | exact decide_eq_false (by omega) | exact decide_eq_true (by omega)))))) ?_
      refine sx hXS0 [.T] 400 rfl (by (simp [-List.getD_eq_getElem?_getD, -List.length_eq_zero_iff, conjP, h2, h3, cellOff] <;> (first | omega | ((repeat' (refine And.intro ?_ ?_)) <;> (first | omega | exact decide_eq_false (by omega) | exact decide_eq_true (by omega)))))) ?_
      refine sx hXS0 [.F] 400 rfl (by (simp [-List.getD_eq_getElem?_getD, -List.length_eq_zero_iff, conjP, addOP, hz, cellOff] <;> (first | omega | ((repeat' (refine And.intro ?_ ?_)) <;> (first | omega | exact decide_eq_false (by omega) | exact decide_eq_true (by omega)))))) ?_
      (refine back (i + 1) ⟨by omega, by rw [hd, q]⟩ (by omega) _ _ _ (sub_of [0] rfl rfl rfl rfl ⟨by (repeat' (first | exact rfl | exact trivial | exact sim_refl _ | refine And.intro ?_ ?_)), by (repeat' (first | exact rfl | exact trivial | exact sim_refl _ | refine And.intro ?_ ?_)), ⟨rfl, wi64 (by omega) (by omega)⟩, trivial⟩ (by (repeat' (first | exact rfl | exact trivial | exact sim_refl _ | refine And.intro ?_ ?_))) (by (repeat' (first | exact rfl | exact trivial | exact sim_refl _ | refine And.intro ?_ ?_))) (by (repeat' (first | exact rfl | exact trivial | exact sim_refl _ | refine And.intro ?_ ?_)))))
  · have h3 : ¬ (i : Int) < (m : Int) := by omega
    refine sx hXS0 [] 400 rfl (by (simp [-List.getD_eq_getElem?_getD, -List.length_eq_zero_iff, conjP] <;> (first | omega | ((repeat' (refine And.intro ?_ ?_)) <;> (first | omega | exact decide_eq_false (by omega) | exact decide_eq_true (by omega)))))) ?_
    refine sx hXS0 [.F] 400 rfl (by (simp [-List.getD_eq_getElem?_getD, -List.length_eq_zero_iff, conjP, addOP, h3] <;> (first | omega | ((repeat' (refine And.intro ?_ ?_)) <;> (first | omega | exact decide_eq_false (by omega) | exact decide_eq_true (by omega)))))) ?_
    (refine ss_end hXS0 [0] rfl rfl trivial rfl rfl rfl rfl ?_ (by (repeat' (first | exact rfl | exact trivial | exact sim_refl _ | refine And.intro ?_ ?_))) (by (repeat' (first | exact rfl | exact trivial | exact sim_refl _ | refine And.intro ?_ ?_))) (by (repeat' (first | exact rfl | exact trivial | exact sim_refl _ | refine And.intro ?_ ?_))); rw [hd, List.drop_eq_nil_of_le (by omega)]; exact rfl)
def hasS2 : Hx.Spec := fun args H => match args with
  | [.sbuf h 1 0 m, .int .i64 n] => match getH H h with
    | some (.buf .i64 L 1 3) => some ([m ≤ L.length, L.length < 1000000], .bool (hasL (L.take m) n), H)
    | _ => none
  | _ => none
theorem hasS2_ok {args : List SV} {H : List HE} {ob : List Prop} {V : SV} {L : List HE} (hs : hasS2 args H = some (ob, V, L)) (ho : AllP ob) : Gives Tryd.prog 14 args H (Is V L) := by
  unfold hasS2 at hs
  split at hs
  · rename_i _ h m n
    split at hs
    · rename_i _ X hg
      simp only [Option.some.injEq, Prod.mk.injEq] at hs
      obtain ⟨rfl, rfl, rfl⟩ := hs
      have o1 := ho _ (List.mem_cons_self ..)
      have o2 := ho _ (List.mem_cons_of_mem _ (List.mem_cons_self ..))
      have := frame1 (N := []) (H := H) (h0 := h) ⟨_, hTE⟩ (hasw_fn X m n o1 o2) rfl rfl rfl hg rfl
      simp only [List.map_nil, List.append_nil] at this
      have e : SO.ren (nm [h] H) (SO.buf .i64 X 1 3) = SO.buf .i64 X 1 3 := rfl
      rw [e, set_self hg] at this
      exact this
    · simp at hs
  · simp at hs

/-! Words with words laid, as a contract. -/
def laOb (a0 a1 a2 a4 a5 a6 a7 : Int) (W0 : List Int) (rf : Nat → List SV) (n : Nat) (Wl : List Int) : Prop := ∃ o, SetOk o ∧ rf = setRow o ∧ laW a0 a1 a2 a4 a5 a6 a7 W0 o (laN n) = Wl
def laS (Wl : List Int) : Hx.Spec := fun args H => match args with
  | [.agg [.int .i64 a0, .int .i64 a1, .int .i64 a2, .int .i64 a3, .int .i64 a4, .int .i64 a5, .int .i64 a6, .int .i64 a7, .int .i64 a8], .slice h 0 n _] => match getH H h, nums[H.length]? with
    | some (.rows m 5 rf), some k => some ([rightB a0 a1 a2 a3 a4 a5 a6 a7 a8 = true, m = n, laOb a0 a1 a2 a4 a5 a6 a7 (mkA a0 a1 a2 a3 a4 a5 a6 a7 a8).W rf n Wl], .slice k 0 Wl.length Wl.length, H ++ [.obj (.ints .u64 Wl 43)])
    | _, _ => none
  | [.agg [.int .i64 a0, .int .i64 a1, .int .i64 a2, .int .i64 a3, .int .i64 a4, .int .i64 a5, .int .i64 a6, .int .i64 a7, .int .i64 a8], .raw (.slice _ 0 0)] => match nums[H.length]? with
    | some k => some ([rightB a0 a1 a2 a3 a4 a5 a6 a7 a8 = true, (mkA a0 a1 a2 a3 a4 a5 a6 a7 a8).W = Wl], .slice k 0 Wl.length Wl.length, H ++ [.obj (.ints .u64 Wl 43)])
    | _ => none
  | _ => none
variable {a0 a1 a2 a3 a4 a5 a6 a7 a8 : Int} {W : List Int}
theorem laid_nil (hr : rightB a0 a1 a2 a3 a4 a5 a6 a7 a8 = true) (a : Option Addr) : Gives Tryd.prog 10 [C9 a0 a1 a2 a3 a4 a5 a6 a7 a8, .raw (.slice a 0 0)] [] (Is (.slice 0 0 (mkA a0 a1 a2 a3 a4 a5 a6 a7 a8).W.length (mkA a0 a1 a2 a3 a4 a5 a6 a7 a8).W.length) [.obj (.ints .u64 (mkA a0 a1 a2 a3 a4 a5 a6 a7 a8).W 43)]) := by
  refine gives_x hXLa (fn := Tryd.f10) rfl rfl rfl rfl fun ρ w => ?_
  refine sxb hXLa [.l] [] 4000 rfl (by simp [conjP, hr]) ?_
  refine ss_sub hXLa (T' := [(1, .raw (.slice a 0 0)), (2, .ptr 0 0), (5, .slice 1 0 (mkA a0 a1 a2 a3 a4 a5 a6 a7 a8).W.length (mkA a0 a1 a2 a3 a4 a5 a6 a7 a8).W.length), (6, .int .i64 0)]) (H' := [c9O a0 a1 a2 a3 a4 a5 a6 a7 a8, .obj (.ints .u64 (mkA a0 a1 a2 a3 a4 a5 a6 a7 a8).W 43)]) [0, 1] rfl rfl rfl rfl (by (repeat' (first | exact rfl | exact trivial | exact sim_refl _ | refine And.intro ?_ ?_))) (by (repeat' (first | exact rfl | exact trivial | exact sim_refl _ | refine And.intro ?_ ?_))) (by (repeat' (first | exact rfl | exact trivial | exact sim_refl _ | refine And.intro ?_ ?_))) (by (repeat' (first | exact rfl | exact trivial | exact sim_refl _ | refine And.intro ?_ ?_))) ?_
  refine ss_loop hXLa (fun _ : Unit => [(1, .raw (.slice a 0 0)), (2, .ptr 0 0), (5, .slice 1 0 (mkA a0 a1 a2 a3 a4 a5 a6 a7 a8).W.length (mkA a0 a1 a2 a3 a4 a5 a6 a7 a8).W.length), (6, .int .i64 0)]) (fun _ => [c9O a0 a1 a2 a3 a4 a5 a6 a7 a8, .obj (.ints .u64 (mkA a0 a1 a2 a3 a4 a5 a6 a7 a8).W 43)]) (fun _ => True) (fun _ => 0) () trivial ?_
  intro _ _ I back
  refine sx hXLa [] 4000 rfl (by (simp [-List.getD_eq_getElem?_getD, -List.length_eq_zero_iff, conjP] <;> (first | omega | ((repeat' (refine And.intro ?_ ?_)) <;> (first | omega | exact decide_eq_false (by omega) | exact decide_eq_true (by omega)))))) ?_
  refine sx hXLa [.F] 4000 rfl (by (simp [-List.getD_eq_getElem?_getD, -List.length_eq_zero_iff, conjP, addOP] <;> (first | omega | ((repeat' (refine And.intro ?_ ?_)) <;> (first | omega | exact decide_eq_false (by omega) | exact decide_eq_true (by omega)))))) ?_
  (exact ss_end hXLa [1] rfl rfl trivial rfl rfl rfl rfl (by (repeat' (first | exact rfl | exact trivial | exact sim_refl _ | refine And.intro ?_ ?_))) (by (repeat' (first | exact rfl | exact trivial | exact sim_refl _ | refine And.intro ?_ ?_))) (by (repeat' (first | exact rfl | exact trivial | exact sim_refl _ | refine And.intro ?_ ?_))) (by (repeat' (first | exact rfl | exact trivial | exact sim_refl _ | refine And.intro ?_ ?_))))
theorem laS_ok {Wl : List Int} {args : List SV} {H : List HE} {ob : List Prop} {V : SV} {L : List HE} (hs : laS Wl args H = some (ob, V, L)) (ho : AllP ob) : Gives Tryd.prog 10 args H (Is V L) := by
  unfold laS at hs
  split at hs
  · split at hs
    case h_2 => simp at hs
    rename_i _ b0 b1 b2 b3 b4 b5 b6 b7 b8 h n cap _ _ m rf k hg hk
    have hk' := nums_get _ _ hk
    subst hk'
    simp only [Option.some.injEq, Prod.mk.injEq] at hs
    obtain ⟨rfl, rfl, rfl⟩ := hs
    simp only [AllP, List.mem_cons, List.not_mem_nil, or_false, forall_eq_or_imp, forall_eq] at ho
    obtain ⟨o1, rfl, o, o3, rfl, rfl⟩ := ho
    have := frame1 (H := H) (h0 := h) ⟨_, hTE⟩ (laid_fn o1 o3 m cap) rfl rfl rfl hg rfl
    have e : SO.ren (nm [h] H) (SO.rows m 5 (setRow o)) = SO.rows m 5 (setRow o) := rfl
    rw [e, set_self hg] at this
    exact this
  · split at hs
    case h_2 => simp at hs
    rename_i _ b0 b1 b2 b3 b4 b5 b6 b7 b8 a _ k hk
    have hk' := nums_get _ _ hk
    subst hk'
    simp only [Option.some.injEq, Prod.mk.injEq] at hs
    obtain ⟨rfl, rfl, rfl⟩ := hs
    simp only [AllP, List.mem_cons, List.not_mem_nil, or_false, forall_eq_or_imp, forall_eq] at ho
    obtain ⟨o1, rfl⟩ := ho
    have := frame0 (H := H) ⟨_, hTE⟩ (laid_nil o1 a) rfl rfl
    exact this
  · simp at hs
def ctOc (Wl : List Int) (r0 r1 : HR) : Nat → Option Hx.Spec
  | 8 => some (pureS awHS)
  | 9 => some (pureS cfgHS)
  | 10 => some (laS Wl)
  | 11 => some (lsS2 r0 r1)
  | 12 => some (topS)
  | 13 => some (pureS (placeS classF))
  | 14 => some (hasS2)
  | _ => none
theorem ctOc_ok (Wl : List Int) (r0 r1 : HR) : ∀ f s args H ob V L, ctOc Wl r0 r1 f = some s → s args H = some (ob, V, L) → AllP ob → Gives Tryd.prog f args H (Is V L) := by
  intro f s args H ob V L h hs ho
  unfold ctOc at h
  split at h
  · simp at h; subst h; exact pureS_ok ⟨_, hTE⟩ (awHS_ok) hs ho
  · simp at h; subst h; exact pureS_ok ⟨_, hTE⟩ (cfgHS_ok) hs ho
  · simp at h; subst h; exact laS_ok hs ho
  · simp at h; subst h; exact lsS2_ok hs ho
  · simp at h; subst h; exact topS_ok hs ho
  · simp at h; subst h; exact pureS_ok ⟨_, hTE⟩ (placeS_ok (v := classF) rclass_fn) hs ho
  · simp at h; subst h; exact hasS2_ok hs ho
  · simp at h
noncomputable def XOc (Wl : List Int) (r0 r1 : HR) : Tabs := tabs tr ft xt (fun _ => none) (ctOc Wl r0 r1) 0
theorem hXOc (Wl : List Int) (r0 r1 : HR) : TOk Tryd.prog (XOc Wl r0 r1) := ⟨hTE, hFT, (ctOc_ok Wl r0 r1), hXT, fun t ks h => by simp [XOc, tabs] at h, mixed⟩

def onT (N : Nat) : Nat → List (Nat × SV)
  | 0 => [(5, .tt), (6, .ptr 2 0), (7, .slice 3 0 N N), (8, .int .i64 0)]
  | 1 => [(5, .tt), (6, .ptr 2 0), (7, .slice 3 0 N N), (8, .int .i64 1)]
  | _ => [(5, .tt), (6, .ptr 2 0), (7, .slice 3 0 N N), (8, .int .i64 2)]
def onH (n : Nat) (o : Nat → SetP) (a0 a1 a2 a3 a4 a5 a6 a7 a8 : Int) (Wl : List Int) : List HE := [stO n o, pinE RTV, c9O a0 a1 a2 a3 a4 a5 a6 a7 a8, .obj (.ints .u64 Wl 43)]
def oiT (N : Nat) (k : Int) (l : List Int) (i : Nat) : List (Nat × SV) := [(5, .tt), (6, .ptr 2 0), (7, .slice 3 0 N N), (8, .int .i64 k), (9, .sbuf 4 1 0 l.length), (11, .int .i64 (i : Int))]
def oiT0 (N : Nat) (k : Int) (l : List Int) : List (Nat × SV) := [(5, .tt), (6, .ptr 2 0), (7, .slice 3 0 N N), (8, .int .i64 k), (9, .sbuf 4 1 0 l.length)]
def oiH (n : Nat) (o : Nat → SetP) (a0 a1 a2 a3 a4 a5 a6 a7 a8 : Int) (Wl l : List Int) : List HE := [stO n o, pinE RTV, c9O a0 a1 a2 a3 a4 a5 a6 a7 a8, .obj (.ints .u64 Wl 43), IB l]
set_option maxHeartbeats 16000000 in
theorem once_loop (n : Nat) (o : Nat → SetP) {Wl : List Int} {r0 r1 : HR} (hr : rightB a0 a1 a2 a3 a4 a5 a6 a7 a8 = true) (hU : InU Wl) (hlen : (Wl.length : Int) = sizeV a0 a1 a2 a4 a5 a6 a7) (e0 : hsR a0 a1 a2 a3 a4 a5 a6 a7 a8 0 Wl.length Wl = r0) (e1 : hsR a0 a1 a2 a3 a4 a5 a6 a7 a8 1 Wl.length Wl = r1) {ρ : Nat → Nat × Nat} {w : World} :
    SS (hXOc Wl r0 r1) (At ρ w) (Is .tt [stO n o, pinE RTV]) ⟨[], [], Tryd.f3, Tryd.f3.ntmps, [stO n o, pinE RTV], contF Tryd.f3 4 [], [(5, .tt), (6, .ptr 2 0), (7, .slice 3 0 Wl.length Wl.length)], onH n o a0 a1 a2 a3 a4 a5 a6 a7 a8 Wl⟩ := by
  have hX := hXOc Wl r0 r1
  have hrA := right_iff.1 hr
  have n0 : ∀ l, r0 = .ok l → (lst l).Nodup ∧ (∀ b ∈ lst l, classV a5 a7 b = 0) ∧ ((lst l).length : Int) ≤ a5 := fun l q => hs_told (e0.trans q)
  have n1 : ∀ l, r1 = .ok l → (lst l).Nodup ∧ (∀ b ∈ lst l, classV a5 a7 b = 1) ∧ ((lst l).length : Int) ≤ a7 := fun l q => hs_told (e1.trans q)
  have l0 : lsOb r0 Wl.length Wl.length Wl := .inl ⟨rfl, rfl, hU⟩
  have l1 : lsOb r1 Wl.length Wl.length Wl := .inl ⟨rfl, rfl, hU⟩
  refine sxb (hXOc Wl r0 r1) [.l] [] 400 rfl trivial ?_
  refine ss_sub (hXOc Wl r0 r1) (T' := onT Wl.length 0) (H' := onH n o a0 a1 a2 a3 a4 a5 a6 a7 a8 Wl) [0, 1, 2, 3] rfl rfl rfl rfl (by (repeat' (first | exact rfl | exact trivial | exact sim_refl _ | refine And.intro ?_ ?_))) (by (repeat' (first | exact rfl | exact trivial | exact sim_refl _ | refine And.intro ?_ ?_))) (by (repeat' (first | exact rfl | exact trivial | exact sim_refl _ | refine And.intro ?_ ?_))) (by (repeat' (first | exact rfl | exact trivial | exact sim_refl _ | refine And.intro ?_ ?_))) ?_
  refine ss_loop (hXOc Wl r0 r1) (onT Wl.length) (fun _ => onH n o a0 a1 a2 a3 a4 a5 a6 a7 a8 Wl) (fun k => k ≤ 2) (fun k => 2 - k) 0 (by decide) ?_
  intro k hk I back
  rcases k with _ | _ | k
  · dsimp only [onT]
    have innerN : SS (hXOc Wl r0 r1) (At ρ w) (Is .tt [stO n o, pinE RTV]) ⟨[], [], Tryd.f3, Tryd.f3.ntmps, [stO n o, pinE RTV], contF Tryd.f3 10 [I], [(5, .tt), (6, .ptr 2 0), (7, .slice 3 0 Wl.length Wl.length), (8, .int .i64 0), (9, .nilslice)], onH n o a0 a1 a2 a3 a4 a5 a6 a7 a8 Wl⟩ := by
      refine sxb hX [.l] [] 400 rfl trivial ?_
      refine ss_sub hX (T' := [(5, .tt), (6, .ptr 2 0), (7, .slice 3 0 Wl.length Wl.length), (8, .int .i64 0), (9, .nilslice), (11, .int .i64 0)]) (H' := onH n o a0 a1 a2 a3 a4 a5 a6 a7 a8 Wl) [0, 1, 2, 3] rfl rfl rfl rfl (by (repeat' (first | exact rfl | exact trivial | exact sim_refl _ | refine And.intro ?_ ?_))) (by (repeat' (first | exact rfl | exact trivial | exact sim_refl _ | refine And.intro ?_ ?_))) (by (repeat' (first | exact rfl | exact trivial | exact sim_refl _ | refine And.intro ?_ ?_))) (by (repeat' (first | exact rfl | exact trivial | exact sim_refl _ | refine And.intro ?_ ?_))) ?_
      refine ss_loop hX (fun _ : Unit => [(5, .tt), (6, .ptr 2 0), (7, .slice 3 0 Wl.length Wl.length), (8, .int .i64 0), (9, .nilslice), (11, .int .i64 0)]) (fun _ => onH n o a0 a1 a2 a3 a4 a5 a6 a7 a8 Wl) (fun _ => True) (fun _ => 0) () trivial ?_
      intro _ _ I2 _
      refine sx hX [] 4000 rfl (by (simp [-List.getD_eq_getElem?_getD, -List.length_eq_zero_iff, conjP] <;> (first | omega | ((repeat' (refine And.intro ?_ ?_)) <;> (first | omega | exact decide_eq_false (by omega) | exact decide_eq_true (by omega)))))) ?_
      refine sx hX [.F] 4000 rfl (by (simp [-List.getD_eq_getElem?_getD, -List.length_eq_zero_iff, conjP, addOP] <;> (first | omega | ((repeat' (refine And.intro ?_ ?_)) <;> (first | omega | exact decide_eq_false (by omega) | exact decide_eq_true (by omega)))))) ?_
      (refine back 1 (by decide) (by decide) _ _ _ (sub_of [0, 1, 2, 3] rfl rfl rfl rfl (by (repeat' (first | exact rfl | exact trivial | exact sim_refl _ | refine And.intro ?_ ?_))) (by (repeat' (first | exact rfl | exact trivial | exact sim_refl _ | refine And.intro ?_ ?_))) (by (repeat' (first | exact rfl | exact trivial | exact sim_refl _ | refine And.intro ?_ ?_))) (by (repeat' (first | exact rfl | exact trivial | exact sim_refl _ | refine And.intro ?_ ?_)))))
    have hnc := hs_code e0 hr (by decide) hlen
    rcases r0 with (_ | l) | ⟨e, p⟩ | e
    · refine sxb hX [.r 10] [] 4000 rfl (by (simp [-List.getD_eq_getElem?_getD, -List.length_eq_zero_iff, conjP] <;> (first | omega | ((repeat' (refine And.intro ?_ ?_)) <;> (first | omega | exact decide_eq_false (by omega) | exact decide_eq_true (by omega)))))) ?_
      refine sxb hX [.r 10] [.T] 4000 rfl (by (simp [-List.getD_eq_getElem?_getD, -List.length_eq_zero_iff, conjP, sel0, e0, l0] <;> (first | omega | ((repeat' (refine And.intro ?_ ?_)) <;> (first | omega | exact decide_eq_false (by omega) | exact decide_eq_true (by omega)))))) ?_
      refine sxb hX [.r 10] [.F] 4000 rfl (by (simp [-List.getD_eq_getElem?_getD, -List.length_eq_zero_iff, conjP] <;> (first | omega | ((repeat' (refine And.intro ?_ ?_)) <;> (first | omega | exact decide_eq_false (by omega) | exact decide_eq_true (by omega)))))) ?_
      refine sxb hX [.r 10] [.F] 4000 rfl (by (simp [-List.getD_eq_getElem?_getD, -List.length_eq_zero_iff, conjP, addOP, hrA] <;> (first | omega | ((repeat' (refine And.intro ?_ ?_)) <;> (first | omega | exact decide_eq_false (by omega) | exact decide_eq_true (by omega)))))) ?_
      (refine ss_sub hX (T' := [(5, .tt), (6, .ptr 2 0), (7, .slice 3 0 Wl.length Wl.length), (8, .int .i64 0), (9, .nilslice)]) (H' := onH n o a0 a1 a2 a3 a4 a5 a6 a7 a8 Wl) [0, 1, 2, 3] rfl rfl rfl rfl (by (repeat' (first | exact rfl | exact trivial | exact sim_refl _ | refine And.intro ?_ ?_))) (by (repeat' (first | exact rfl | exact trivial | exact sim_refl _ | refine And.intro ?_ ?_))) (by (repeat' (first | exact rfl | exact trivial | exact sim_refl _ | refine And.intro ?_ ?_))) (by (repeat' (first | exact rfl | exact trivial | exact sim_refl _ | refine And.intro ?_ ?_))) ?_; exact innerN)
    · obtain ⟨d1, d2, d3⟩ := n0 _ rfl
      have d1 : l.Nodup := d1
      have d2 : ∀ b ∈ l, classV a5 a7 b = 0 := d2
      have d3 : (l.length : Int) ≤ a5 := d3
      have inner : SS hX (At ρ w) (Is .tt [stO n o, pinE RTV]) ⟨[], [], Tryd.f3, Tryd.f3.ntmps, [stO n o, pinE RTV], contF Tryd.f3 10 [I], oiT0 Wl.length 0 l, oiH n o a0 a1 a2 a3 a4 a5 a6 a7 a8 Wl l⟩ := by
        refine sxb hX [.l] [] 400 rfl trivial ?_
        refine ss_sub hX (T' := oiT Wl.length 0 l 0) (H' := oiH n o a0 a1 a2 a3 a4 a5 a6 a7 a8 Wl l) [0, 1, 2, 3, 4] rfl rfl rfl rfl (by (repeat' (first | exact rfl | exact trivial | exact sim_refl _ | refine And.intro ?_ ?_))) (by (repeat' (first | exact rfl | exact trivial | exact sim_refl _ | refine And.intro ?_ ?_))) (by (repeat' (first | exact rfl | exact trivial | exact sim_refl _ | refine And.intro ?_ ?_))) (by (repeat' (first | exact rfl | exact trivial | exact sim_refl _ | refine And.intro ?_ ?_))) ?_
        refine ss_loop hX (oiT Wl.length 0 l) (fun _ => oiH n o a0 a1 a2 a3 a4 a5 a6 a7 a8 Wl l) (fun i => i ≤ l.length) (fun i => l.length - i) 0 (Nat.zero_le _) ?_
        intro i hi I2 back2
        have hi : i ≤ l.length := hi
        by_cases h1 : i < l.length
        · have h2 : (i : Int) < (l.length : Int) := by omega
          have hm : l.getD i 0 ∈ l := by rw [List.getD_eq_getElem?_getD, List.getElem?_eq_getElem h1]; simp
          have hcl : classF a0 a1 a2 a3 a4 a5 a6 a7 a8 (l.getD i 0) = 0 := d2 _ hm
          have hb0 := class_there hcl (by decide)
          have hha := nodup_has d1 h1
          have h25 : l.length < 1000000 := by omega
          refine sx hX [] 4000 rfl (by (simp [-List.getD_eq_getElem?_getD, -List.length_eq_zero_iff, conjP] <;> (first | omega | ((repeat' (refine And.intro ?_ ?_)) <;> (first | omega | exact decide_eq_false (by omega) | exact decide_eq_true (by omega)))))) ?_
          refine sx hX [.T] 4000 rfl (by (simp [-List.getD_eq_getElem?_getD, -List.length_eq_zero_iff, conjP, addOP, h2] <;> (first | omega | ((repeat' (refine And.intro ?_ ?_)) <;> (first | omega | exact decide_eq_false (by omega) | exact decide_eq_true (by omega)))))) ?_
          refine sx hX [.K, .F] 4000 rfl (by (simp [-List.getD_eq_getElem?_getD, -List.length_eq_zero_iff, conjP, h1, h2, hr, hcl, h25, cellOff] <;> (first | omega | ((repeat' (refine And.intro ?_ ?_)) <;> (first | omega | exact decide_eq_false (by omega) | exact decide_eq_true (by omega)))))) ?_
          refine sx hX [.F] 4000 rfl (by (simp [-List.getD_eq_getElem?_getD, -List.length_eq_zero_iff, conjP, addOP, hha, cellOff] <;> (first | omega | ((repeat' (refine And.intro ?_ ?_)) <;> (first | omega | exact decide_eq_false (by omega) | exact decide_eq_true (by omega)))))) ?_
          (refine back2 (i + 1) ?q1 ?q2 _ _ _ (sub_of [0, 1, 2, 3, 4] rfl rfl rfl rfl ⟨by (repeat' (first | exact rfl | exact trivial | exact sim_refl _ | refine And.intro ?_ ?_)), by (repeat' (first | exact rfl | exact trivial | exact sim_refl _ | refine And.intro ?_ ?_)), by (repeat' (first | exact rfl | exact trivial | exact sim_refl _ | refine And.intro ?_ ?_)), by (repeat' (first | exact rfl | exact trivial | exact sim_refl _ | refine And.intro ?_ ?_)), by (repeat' (first | exact rfl | exact trivial | exact sim_refl _ | refine And.intro ?_ ?_)), ⟨rfl, wi64 (by omega) (by omega)⟩, trivial⟩ (by (repeat' (first | exact rfl | exact trivial | exact sim_refl _ | refine And.intro ?_ ?_))) (by (repeat' (first | exact rfl | exact trivial | exact sim_refl _ | refine And.intro ?_ ?_))) (by (repeat' (first | exact rfl | exact trivial | exact sim_refl _ | refine And.intro ?_ ?_)))); (case q1 => omega); (case q2 => omega))
        · have h2 : ¬ (i : Int) < (l.length : Int) := by omega
          refine sx hX [] 4000 rfl (by (simp [-List.getD_eq_getElem?_getD, -List.length_eq_zero_iff, conjP] <;> (first | omega | ((repeat' (refine And.intro ?_ ?_)) <;> (first | omega | exact decide_eq_false (by omega) | exact decide_eq_true (by omega)))))) ?_
          refine sx hX [.F] 4000 rfl (by (simp [-List.getD_eq_getElem?_getD, -List.length_eq_zero_iff, conjP, addOP, h2] <;> (first | omega | ((repeat' (refine And.intro ?_ ?_)) <;> (first | omega | exact decide_eq_false (by omega) | exact decide_eq_true (by omega)))))) ?_
          (refine back 1 (by decide) (by decide) _ _ _ (sub_of [0, 1, 2, 3] rfl rfl rfl rfl (by (repeat' (first | exact rfl | exact trivial | exact sim_refl _ | refine And.intro ?_ ?_))) (by (repeat' (first | exact rfl | exact trivial | exact sim_refl _ | refine And.intro ?_ ?_))) (by (repeat' (first | exact rfl | exact trivial | exact sim_refl _ | refine And.intro ?_ ?_))) (by (repeat' (first | exact rfl | exact trivial | exact sim_refl _ | refine And.intro ?_ ?_)))))
      refine sxb hX [.r 10] [] 4000 rfl (by (simp [-List.getD_eq_getElem?_getD, -List.length_eq_zero_iff, conjP] <;> (first | omega | ((repeat' (refine And.intro ?_ ?_)) <;> (first | omega | exact decide_eq_false (by omega) | exact decide_eq_true (by omega)))))) ?_
      refine sxb hX [.r 10] [.T] 4000 rfl (by (simp [-List.getD_eq_getElem?_getD, -List.length_eq_zero_iff, conjP, sel0, e0, l0] <;> (first | omega | ((repeat' (refine And.intro ?_ ?_)) <;> (first | omega | exact decide_eq_false (by omega) | exact decide_eq_true (by omega)))))) ?_
      refine sxb hX [.r 10] [.F] 4000 rfl (by (simp [-List.getD_eq_getElem?_getD, -List.length_eq_zero_iff, conjP] <;> (first | omega | ((repeat' (refine And.intro ?_ ?_)) <;> (first | omega | exact decide_eq_false (by omega) | exact decide_eq_true (by omega)))))) ?_
      refine sxb hX [.r 10] [.F] 4000 rfl (by (simp [-List.getD_eq_getElem?_getD, -List.length_eq_zero_iff, conjP, addOP, d3] <;> (first | omega | ((repeat' (refine And.intro ?_ ?_)) <;> (first | omega | exact decide_eq_false (by omega) | exact decide_eq_true (by omega)))))) ?_
      (refine ss_sub hX (T' := oiT0 Wl.length 0 l) (H' := oiH n o a0 a1 a2 a3 a4 a5 a6 a7 a8 Wl l) [0, 1, 2, 3, 4] rfl rfl rfl rfl (by (repeat' (first | exact rfl | exact trivial | exact sim_refl _ | refine And.intro ?_ ?_))) (by (repeat' (first | exact rfl | exact trivial | exact sim_refl _ | refine And.intro ?_ ?_))) (by (repeat' (first | exact rfl | exact trivial | exact sim_refl _ | refine And.intro ?_ ?_))) (by (repeat' (first | exact rfl | exact trivial | exact sim_refl _ | refine And.intro ?_ ?_))) ?_; exact inner)
    · have he := hs_bad e0
      refine sxb hX [.r 10] [] 4000 rfl (by (simp [-List.getD_eq_getElem?_getD, -List.length_eq_zero_iff, conjP] <;> (first | omega | ((repeat' (refine And.intro ?_ ?_)) <;> (first | omega | exact decide_eq_false (by omega) | exact decide_eq_true (by omega)))))) ?_
      refine sxb hX [.r 10] [.T] 4000 rfl (by (simp [-List.getD_eq_getElem?_getD, -List.length_eq_zero_iff, conjP, sel0, e0, l0] <;> (first | omega | ((repeat' (refine And.intro ?_ ?_)) <;> (first | omega | exact decide_eq_false (by omega) | exact decide_eq_true (by omega)))))) ?_
      refine sxb hX [.r 10] [.T] 4000 rfl (by (simp [-List.getD_eq_getElem?_getD, -List.length_eq_zero_iff, conjP, addOP] <;> (first | omega | ((repeat' (refine And.intro ?_ ?_)) <;> (first | omega | exact decide_eq_false (by omega) | exact decide_eq_true (by omega)))))) ?_
      refine sxb hX [.r 10] [.F] 4000 rfl (by (simp [-List.getD_eq_getElem?_getD, -List.length_eq_zero_iff, conjP] <;> (first | omega | ((repeat' (refine And.intro ?_ ?_)) <;> (first | omega | exact decide_eq_false (by omega) | exact decide_eq_true (by omega)))))) ?_
      refine sxb hX [.r 10] [.F] 4000 rfl (by (simp [-List.getD_eq_getElem?_getD, -List.length_eq_zero_iff, conjP, addOP, hrA] <;> (first | omega | ((repeat' (refine And.intro ?_ ?_)) <;> (first | omega | exact decide_eq_false (by omega) | exact decide_eq_true (by omega)))))) ?_
      (refine ss_sub hX (T' := [(5, .tt), (6, .ptr 2 0), (7, .slice 3 0 Wl.length Wl.length), (8, .int .i64 0), (9, .nilslice)]) (H' := onH n o a0 a1 a2 a3 a4 a5 a6 a7 a8 Wl) [0, 1, 2, 3] rfl rfl rfl rfl (by (repeat' (first | exact rfl | exact trivial | exact sim_refl _ | refine And.intro ?_ ?_))) (by (repeat' (first | exact rfl | exact trivial | exact sim_refl _ | refine And.intro ?_ ?_))) (by (repeat' (first | exact rfl | exact trivial | exact sim_refl _ | refine And.intro ?_ ?_))) (by (repeat' (first | exact rfl | exact trivial | exact sim_refl _ | refine And.intro ?_ ?_))) ?_; exact innerN)
    · simp [isCode] at hnc
  · dsimp only [onT]
    have innerN : SS (hXOc Wl r0 r1) (At ρ w) (Is .tt [stO n o, pinE RTV]) ⟨[], [], Tryd.f3, Tryd.f3.ntmps, [stO n o, pinE RTV], contF Tryd.f3 10 [I], [(5, .tt), (6, .ptr 2 0), (7, .slice 3 0 Wl.length Wl.length), (8, .int .i64 1), (9, .nilslice)], onH n o a0 a1 a2 a3 a4 a5 a6 a7 a8 Wl⟩ := by
      refine sxb hX [.l] [] 400 rfl trivial ?_
      refine ss_sub hX (T' := [(5, .tt), (6, .ptr 2 0), (7, .slice 3 0 Wl.length Wl.length), (8, .int .i64 1), (9, .nilslice), (11, .int .i64 0)]) (H' := onH n o a0 a1 a2 a3 a4 a5 a6 a7 a8 Wl) [0, 1, 2, 3] rfl rfl rfl rfl (by (repeat' (first | exact rfl | exact trivial | exact sim_refl _ | refine And.intro ?_ ?_))) (by (repeat' (first | exact rfl | exact trivial | exact sim_refl _ | refine And.intro ?_ ?_))) (by (repeat' (first | exact rfl | exact trivial | exact sim_refl _ | refine And.intro ?_ ?_))) (by (repeat' (first | exact rfl | exact trivial | exact sim_refl _ | refine And.intro ?_ ?_))) ?_
      refine ss_loop hX (fun _ : Unit => [(5, .tt), (6, .ptr 2 0), (7, .slice 3 0 Wl.length Wl.length), (8, .int .i64 1), (9, .nilslice), (11, .int .i64 0)]) (fun _ => onH n o a0 a1 a2 a3 a4 a5 a6 a7 a8 Wl) (fun _ => True) (fun _ => 0) () trivial ?_
      intro _ _ I2 _
      refine sx hX [] 4000 rfl (by (simp [-List.getD_eq_getElem?_getD, -List.length_eq_zero_iff, conjP] <;> (first | omega | ((repeat' (refine And.intro ?_ ?_)) <;> (first | omega | exact decide_eq_false (by omega) | exact decide_eq_true (by omega)))))) ?_
      refine sx hX [.F] 4000 rfl (by (simp [-List.getD_eq_getElem?_getD, -List.length_eq_zero_iff, conjP, addOP] <;> (first | omega | ((repeat' (refine And.intro ?_ ?_)) <;> (first | omega | exact decide_eq_false (by omega) | exact decide_eq_true (by omega)))))) ?_
      (refine back 2 (by decide) (by decide) _ _ _ (sub_of [0, 1, 2, 3] rfl rfl rfl rfl (by (repeat' (first | exact rfl | exact trivial | exact sim_refl _ | refine And.intro ?_ ?_))) (by (repeat' (first | exact rfl | exact trivial | exact sim_refl _ | refine And.intro ?_ ?_))) (by (repeat' (first | exact rfl | exact trivial | exact sim_refl _ | refine And.intro ?_ ?_))) (by (repeat' (first | exact rfl | exact trivial | exact sim_refl _ | refine And.intro ?_ ?_)))))
    have hnc := hs_code e1 hr (by decide) hlen
    rcases r1 with (_ | l) | ⟨e, p⟩ | e
    · refine sxb hX [.r 10] [] 4000 rfl (by (simp [-List.getD_eq_getElem?_getD, -List.length_eq_zero_iff, conjP] <;> (first | omega | ((repeat' (refine And.intro ?_ ?_)) <;> (first | omega | exact decide_eq_false (by omega) | exact decide_eq_true (by omega)))))) ?_
      refine sxb hX [.r 10] [.T] 4000 rfl (by (simp [-List.getD_eq_getElem?_getD, -List.length_eq_zero_iff, conjP, sel1, e1, l1] <;> (first | omega | ((repeat' (refine And.intro ?_ ?_)) <;> (first | omega | exact decide_eq_false (by omega) | exact decide_eq_true (by omega)))))) ?_
      refine sxb hX [.r 10] [.F] 4000 rfl (by (simp [-List.getD_eq_getElem?_getD, -List.length_eq_zero_iff, conjP] <;> (first | omega | ((repeat' (refine And.intro ?_ ?_)) <;> (first | omega | exact decide_eq_false (by omega) | exact decide_eq_true (by omega)))))) ?_
      refine sxb hX [.r 10] [.F] 4000 rfl (by (simp [-List.getD_eq_getElem?_getD, -List.length_eq_zero_iff, conjP, addOP, hrA] <;> (first | omega | ((repeat' (refine And.intro ?_ ?_)) <;> (first | omega | exact decide_eq_false (by omega) | exact decide_eq_true (by omega)))))) ?_
      (refine ss_sub hX (T' := [(5, .tt), (6, .ptr 2 0), (7, .slice 3 0 Wl.length Wl.length), (8, .int .i64 1), (9, .nilslice)]) (H' := onH n o a0 a1 a2 a3 a4 a5 a6 a7 a8 Wl) [0, 1, 2, 3] rfl rfl rfl rfl (by (repeat' (first | exact rfl | exact trivial | exact sim_refl _ | refine And.intro ?_ ?_))) (by (repeat' (first | exact rfl | exact trivial | exact sim_refl _ | refine And.intro ?_ ?_))) (by (repeat' (first | exact rfl | exact trivial | exact sim_refl _ | refine And.intro ?_ ?_))) (by (repeat' (first | exact rfl | exact trivial | exact sim_refl _ | refine And.intro ?_ ?_))) ?_; exact innerN)
    · obtain ⟨d1, d2, d3⟩ := n1 _ rfl
      have d1 : l.Nodup := d1
      have d2 : ∀ b ∈ l, classV a5 a7 b = 1 := d2
      have d3 : (l.length : Int) ≤ a7 := d3
      have inner : SS hX (At ρ w) (Is .tt [stO n o, pinE RTV]) ⟨[], [], Tryd.f3, Tryd.f3.ntmps, [stO n o, pinE RTV], contF Tryd.f3 10 [I], oiT0 Wl.length 1 l, oiH n o a0 a1 a2 a3 a4 a5 a6 a7 a8 Wl l⟩ := by
        refine sxb hX [.l] [] 400 rfl trivial ?_
        refine ss_sub hX (T' := oiT Wl.length 1 l 0) (H' := oiH n o a0 a1 a2 a3 a4 a5 a6 a7 a8 Wl l) [0, 1, 2, 3, 4] rfl rfl rfl rfl (by (repeat' (first | exact rfl | exact trivial | exact sim_refl _ | refine And.intro ?_ ?_))) (by (repeat' (first | exact rfl | exact trivial | exact sim_refl _ | refine And.intro ?_ ?_))) (by (repeat' (first | exact rfl | exact trivial | exact sim_refl _ | refine And.intro ?_ ?_))) (by (repeat' (first | exact rfl | exact trivial | exact sim_refl _ | refine And.intro ?_ ?_))) ?_
        refine ss_loop hX (oiT Wl.length 1 l) (fun _ => oiH n o a0 a1 a2 a3 a4 a5 a6 a7 a8 Wl l) (fun i => i ≤ l.length) (fun i => l.length - i) 0 (Nat.zero_le _) ?_
        intro i hi I2 back2
        have hi : i ≤ l.length := hi
        by_cases h1 : i < l.length
        · have h2 : (i : Int) < (l.length : Int) := by omega
          have hm : l.getD i 0 ∈ l := by rw [List.getD_eq_getElem?_getD, List.getElem?_eq_getElem h1]; simp
          have hcl : classF a0 a1 a2 a3 a4 a5 a6 a7 a8 (l.getD i 0) = 1 := d2 _ hm
          have hb0 := class_there hcl (by decide)
          have hha := nodup_has d1 h1
          have h25 : l.length < 1000000 := by omega
          refine sx hX [] 4000 rfl (by (simp [-List.getD_eq_getElem?_getD, -List.length_eq_zero_iff, conjP] <;> (first | omega | ((repeat' (refine And.intro ?_ ?_)) <;> (first | omega | exact decide_eq_false (by omega) | exact decide_eq_true (by omega)))))) ?_
          refine sx hX [.T] 4000 rfl (by (simp [-List.getD_eq_getElem?_getD, -List.length_eq_zero_iff, conjP, addOP, h2] <;> (first | omega | ((repeat' (refine And.intro ?_ ?_)) <;> (first | omega | exact decide_eq_false (by omega) | exact decide_eq_true (by omega)))))) ?_
          refine sx hX [.K, .F] 4000 rfl (by (simp [-List.getD_eq_getElem?_getD, -List.length_eq_zero_iff, conjP, h1, h2, hr, hcl, h25, cellOff] <;> (first | omega | ((repeat' (refine And.intro ?_ ?_)) <;> (first | omega | exact decide_eq_false (by omega) | exact decide_eq_true (by omega)))))) ?_
          refine sx hX [.F] 4000 rfl (by (simp [-List.getD_eq_getElem?_getD, -List.length_eq_zero_iff, conjP, addOP, hha, cellOff] <;> (first | omega | ((repeat' (refine And.intro ?_ ?_)) <;> (first | omega | exact decide_eq_false (by omega) | exact decide_eq_true (by omega)))))) ?_
          (refine back2 (i + 1) ?q1 ?q2 _ _ _ (sub_of [0, 1, 2, 3, 4] rfl rfl rfl rfl ⟨by (repeat' (first | exact rfl | exact trivial | exact sim_refl _ | refine And.intro ?_ ?_)), by (repeat' (first | exact rfl | exact trivial | exact sim_refl _ | refine And.intro ?_ ?_)), by (repeat' (first | exact rfl | exact trivial | exact sim_refl _ | refine And.intro ?_ ?_)), by (repeat' (first | exact rfl | exact trivial | exact sim_refl _ | refine And.intro ?_ ?_)), by (repeat' (first | exact rfl | exact trivial | exact sim_refl _ | refine And.intro ?_ ?_)), ⟨rfl, wi64 (by omega) (by omega)⟩, trivial⟩ (by (repeat' (first | exact rfl | exact trivial | exact sim_refl _ | refine And.intro ?_ ?_))) (by (repeat' (first | exact rfl | exact trivial | exact sim_refl _ | refine And.intro ?_ ?_))) (by (repeat' (first | exact rfl | exact trivial | exact sim_refl _ | refine And.intro ?_ ?_)))); (case q1 => omega); (case q2 => omega))
        · have h2 : ¬ (i : Int) < (l.length : Int) := by omega
          refine sx hX [] 4000 rfl (by (simp [-List.getD_eq_getElem?_getD, -List.length_eq_zero_iff, conjP] <;> (first | omega | ((repeat' (refine And.intro ?_ ?_)) <;> (first | omega | exact decide_eq_false (by omega) | exact decide_eq_true (by omega)))))) ?_
          refine sx hX [.F] 4000 rfl (by (simp [-List.getD_eq_getElem?_getD, -List.length_eq_zero_iff, conjP, addOP, h2] <;> (first | omega | ((repeat' (refine And.intro ?_ ?_)) <;> (first | omega | exact decide_eq_false (by omega) | exact decide_eq_true (by omega)))))) ?_
          (refine back 2 (by decide) (by decide) _ _ _ (sub_of [0, 1, 2, 3] rfl rfl rfl rfl (by (repeat' (first | exact rfl | exact trivial | exact sim_refl _ | refine And.intro ?_ ?_))) (by (repeat' (first | exact rfl | exact trivial | exact sim_refl _ | refine And.intro ?_ ?_))) (by (repeat' (first | exact rfl | exact trivial | exact sim_refl _ | refine And.intro ?_ ?_))) (by (repeat' (first | exact rfl | exact trivial | exact sim_refl _ | refine And.intro ?_ ?_)))))
      refine sxb hX [.r 10] [] 4000 rfl (by (simp [-List.getD_eq_getElem?_getD, -List.length_eq_zero_iff, conjP] <;> (first | omega | ((repeat' (refine And.intro ?_ ?_)) <;> (first | omega | exact decide_eq_false (by omega) | exact decide_eq_true (by omega)))))) ?_
      refine sxb hX [.r 10] [.T] 4000 rfl (by (simp [-List.getD_eq_getElem?_getD, -List.length_eq_zero_iff, conjP, sel1, e1, l1] <;> (first | omega | ((repeat' (refine And.intro ?_ ?_)) <;> (first | omega | exact decide_eq_false (by omega) | exact decide_eq_true (by omega)))))) ?_
      refine sxb hX [.r 10] [.F] 4000 rfl (by (simp [-List.getD_eq_getElem?_getD, -List.length_eq_zero_iff, conjP] <;> (first | omega | ((repeat' (refine And.intro ?_ ?_)) <;> (first | omega | exact decide_eq_false (by omega) | exact decide_eq_true (by omega)))))) ?_
      refine sxb hX [.r 10] [.F] 4000 rfl (by (simp [-List.getD_eq_getElem?_getD, -List.length_eq_zero_iff, conjP, addOP, d3] <;> (first | omega | ((repeat' (refine And.intro ?_ ?_)) <;> (first | omega | exact decide_eq_false (by omega) | exact decide_eq_true (by omega)))))) ?_
      (refine ss_sub hX (T' := oiT0 Wl.length 1 l) (H' := oiH n o a0 a1 a2 a3 a4 a5 a6 a7 a8 Wl l) [0, 1, 2, 3, 4] rfl rfl rfl rfl (by (repeat' (first | exact rfl | exact trivial | exact sim_refl _ | refine And.intro ?_ ?_))) (by (repeat' (first | exact rfl | exact trivial | exact sim_refl _ | refine And.intro ?_ ?_))) (by (repeat' (first | exact rfl | exact trivial | exact sim_refl _ | refine And.intro ?_ ?_))) (by (repeat' (first | exact rfl | exact trivial | exact sim_refl _ | refine And.intro ?_ ?_))) ?_; exact inner)
    · have he := hs_bad e1
      refine sxb hX [.r 10] [] 4000 rfl (by (simp [-List.getD_eq_getElem?_getD, -List.length_eq_zero_iff, conjP] <;> (first | omega | ((repeat' (refine And.intro ?_ ?_)) <;> (first | omega | exact decide_eq_false (by omega) | exact decide_eq_true (by omega)))))) ?_
      refine sxb hX [.r 10] [.T] 4000 rfl (by (simp [-List.getD_eq_getElem?_getD, -List.length_eq_zero_iff, conjP, sel1, e1, l1] <;> (first | omega | ((repeat' (refine And.intro ?_ ?_)) <;> (first | omega | exact decide_eq_false (by omega) | exact decide_eq_true (by omega)))))) ?_
      refine sxb hX [.r 10] [.T] 4000 rfl (by (simp [-List.getD_eq_getElem?_getD, -List.length_eq_zero_iff, conjP, addOP] <;> (first | omega | ((repeat' (refine And.intro ?_ ?_)) <;> (first | omega | exact decide_eq_false (by omega) | exact decide_eq_true (by omega)))))) ?_
      refine sxb hX [.r 10] [.F] 4000 rfl (by (simp [-List.getD_eq_getElem?_getD, -List.length_eq_zero_iff, conjP] <;> (first | omega | ((repeat' (refine And.intro ?_ ?_)) <;> (first | omega | exact decide_eq_false (by omega) | exact decide_eq_true (by omega)))))) ?_
      refine sxb hX [.r 10] [.F] 4000 rfl (by (simp [-List.getD_eq_getElem?_getD, -List.length_eq_zero_iff, conjP, addOP, hrA] <;> (first | omega | ((repeat' (refine And.intro ?_ ?_)) <;> (first | omega | exact decide_eq_false (by omega) | exact decide_eq_true (by omega)))))) ?_
      (refine ss_sub hX (T' := [(5, .tt), (6, .ptr 2 0), (7, .slice 3 0 Wl.length Wl.length), (8, .int .i64 1), (9, .nilslice)]) (H' := onH n o a0 a1 a2 a3 a4 a5 a6 a7 a8 Wl) [0, 1, 2, 3] rfl rfl rfl rfl (by (repeat' (first | exact rfl | exact trivial | exact sim_refl _ | refine And.intro ?_ ?_))) (by (repeat' (first | exact rfl | exact trivial | exact sim_refl _ | refine And.intro ?_ ?_))) (by (repeat' (first | exact rfl | exact trivial | exact sim_refl _ | refine And.intro ?_ ?_))) (by (repeat' (first | exact rfl | exact trivial | exact sim_refl _ | refine And.intro ?_ ?_))) ?_; exact innerN)
    · simp [isCode] at hnc
  · dsimp only [onT]
    refine sx hX [] 4000 rfl (by (simp [-List.getD_eq_getElem?_getD, -List.length_eq_zero_iff, conjP] <;> (first | omega | ((repeat' (refine And.intro ?_ ?_)) <;> (first | omega | exact decide_eq_false (by omega) | exact decide_eq_true (by omega)))))) ?_
    refine sx hX [.F] 4000 rfl (by (simp [-List.getD_eq_getElem?_getD, -List.length_eq_zero_iff, conjP, addOP] <;> (first | omega | ((repeat' (refine And.intro ?_ ?_)) <;> (first | omega | exact decide_eq_false (by omega) | exact decide_eq_true (by omega)))))) ?_
    (exact ss_end hX [0, 1] rfl rfl trivial rfl rfl rfl rfl (by (repeat' (first | exact rfl | exact trivial | exact sim_refl _ | refine And.intro ?_ ?_))) (by (repeat' (first | exact rfl | exact trivial | exact sim_refl _ | refine And.intro ?_ ?_))) (by (repeat' (first | exact rfl | exact trivial | exact sim_refl _ | refine And.intro ?_ ?_))) (by (repeat' (first | exact rfl | exact trivial | exact sim_refl _ | refine And.intro ?_ ?_))))

def onTn (N : Nat) : Nat → List (Nat × SV)
  | 0 => [(5, .tt), (6, .ptr 1 0), (7, .slice 2 0 N N), (8, .int .i64 0)]
  | 1 => [(5, .tt), (6, .ptr 1 0), (7, .slice 2 0 N N), (8, .int .i64 1)]
  | _ => [(5, .tt), (6, .ptr 1 0), (7, .slice 2 0 N N), (8, .int .i64 2)]
def onHn (a0 a1 a2 a3 a4 a5 a6 a7 a8 : Int) (Wl : List Int) : List HE := [pinE RTV, c9O a0 a1 a2 a3 a4 a5 a6 a7 a8, .obj (.ints .u64 Wl 43)]
def oiTn (N : Nat) (k : Int) (l : List Int) (i : Nat) : List (Nat × SV) := [(5, .tt), (6, .ptr 1 0), (7, .slice 2 0 N N), (8, .int .i64 k), (9, .sbuf 3 1 0 l.length), (11, .int .i64 (i : Int))]
def oiT0n (N : Nat) (k : Int) (l : List Int) : List (Nat × SV) := [(5, .tt), (6, .ptr 1 0), (7, .slice 2 0 N N), (8, .int .i64 k), (9, .sbuf 3 1 0 l.length)]
def oiHn (a0 a1 a2 a3 a4 a5 a6 a7 a8 : Int) (Wl l : List Int) : List HE := [pinE RTV, c9O a0 a1 a2 a3 a4 a5 a6 a7 a8, .obj (.ints .u64 Wl 43), IB l]
set_option maxHeartbeats 16000000 in
theorem once_loopn {Wl : List Int} {r0 r1 : HR} (hr : rightB a0 a1 a2 a3 a4 a5 a6 a7 a8 = true) (hU : InU Wl) (hlen : (Wl.length : Int) = sizeV a0 a1 a2 a4 a5 a6 a7) (e0 : hsR a0 a1 a2 a3 a4 a5 a6 a7 a8 0 Wl.length Wl = r0) (e1 : hsR a0 a1 a2 a3 a4 a5 a6 a7 a8 1 Wl.length Wl = r1) {ρ : Nat → Nat × Nat} {w : World} :
    SS (hXOc Wl r0 r1) (At ρ w) (Is .tt [pinE RTV]) ⟨[], [], Tryd.f3, Tryd.f3.ntmps, [pinE RTV], contF Tryd.f3 4 [], [(5, .tt), (6, .ptr 1 0), (7, .slice 2 0 Wl.length Wl.length)], onHn a0 a1 a2 a3 a4 a5 a6 a7 a8 Wl⟩ := by
  have hX := hXOc Wl r0 r1
  have hrA := right_iff.1 hr
  have n0 : ∀ l, r0 = .ok l → (lst l).Nodup ∧ (∀ b ∈ lst l, classV a5 a7 b = 0) ∧ ((lst l).length : Int) ≤ a5 := fun l q => hs_told (e0.trans q)
  have n1 : ∀ l, r1 = .ok l → (lst l).Nodup ∧ (∀ b ∈ lst l, classV a5 a7 b = 1) ∧ ((lst l).length : Int) ≤ a7 := fun l q => hs_told (e1.trans q)
  have l0 : lsOb r0 Wl.length Wl.length Wl := .inl ⟨rfl, rfl, hU⟩
  have l1 : lsOb r1 Wl.length Wl.length Wl := .inl ⟨rfl, rfl, hU⟩
  refine sxb (hXOc Wl r0 r1) [.l] [] 400 rfl trivial ?_
  refine ss_sub (hXOc Wl r0 r1) (T' := onTn Wl.length 0) (H' := onHn a0 a1 a2 a3 a4 a5 a6 a7 a8 Wl) [0, 1, 2] rfl rfl rfl rfl (by (repeat' (first | exact rfl | exact trivial | exact sim_refl _ | refine And.intro ?_ ?_))) (by (repeat' (first | exact rfl | exact trivial | exact sim_refl _ | refine And.intro ?_ ?_))) (by (repeat' (first | exact rfl | exact trivial | exact sim_refl _ | refine And.intro ?_ ?_))) (by (repeat' (first | exact rfl | exact trivial | exact sim_refl _ | refine And.intro ?_ ?_))) ?_
  refine ss_loop (hXOc Wl r0 r1) (onTn Wl.length) (fun _ => onHn a0 a1 a2 a3 a4 a5 a6 a7 a8 Wl) (fun k => k ≤ 2) (fun k => 2 - k) 0 (by decide) ?_
  intro k hk I back
  rcases k with _ | _ | k
  · dsimp only [onTn]
    have innerN : SS (hXOc Wl r0 r1) (At ρ w) (Is .tt [pinE RTV]) ⟨[], [], Tryd.f3, Tryd.f3.ntmps, [pinE RTV], contF Tryd.f3 10 [I], [(5, .tt), (6, .ptr 1 0), (7, .slice 2 0 Wl.length Wl.length), (8, .int .i64 0), (9, .nilslice)], onHn a0 a1 a2 a3 a4 a5 a6 a7 a8 Wl⟩ := by
      refine sxb hX [.l] [] 400 rfl trivial ?_
      refine ss_sub hX (T' := [(5, .tt), (6, .ptr 1 0), (7, .slice 2 0 Wl.length Wl.length), (8, .int .i64 0), (9, .nilslice), (11, .int .i64 0)]) (H' := onHn a0 a1 a2 a3 a4 a5 a6 a7 a8 Wl) [0, 1, 2] rfl rfl rfl rfl (by (repeat' (first | exact rfl | exact trivial | exact sim_refl _ | refine And.intro ?_ ?_))) (by (repeat' (first | exact rfl | exact trivial | exact sim_refl _ | refine And.intro ?_ ?_))) (by (repeat' (first | exact rfl | exact trivial | exact sim_refl _ | refine And.intro ?_ ?_))) (by (repeat' (first | exact rfl | exact trivial | exact sim_refl _ | refine And.intro ?_ ?_))) ?_
      refine ss_loop hX (fun _ : Unit => [(5, .tt), (6, .ptr 1 0), (7, .slice 2 0 Wl.length Wl.length), (8, .int .i64 0), (9, .nilslice), (11, .int .i64 0)]) (fun _ => onHn a0 a1 a2 a3 a4 a5 a6 a7 a8 Wl) (fun _ => True) (fun _ => 0) () trivial ?_
      intro _ _ I2 _
      refine sx hX [] 4000 rfl (by (simp [-List.getD_eq_getElem?_getD, -List.length_eq_zero_iff, conjP] <;> (first | omega | ((repeat' (refine And.intro ?_ ?_)) <;> (first | omega | exact decide_eq_false (by omega) | exact decide_eq_true (by omega)))))) ?_
      refine sx hX [.F] 4000 rfl (by (simp [-List.getD_eq_getElem?_getD, -List.length_eq_zero_iff, conjP, addOP] <;> (first | omega | ((repeat' (refine And.intro ?_ ?_)) <;> (first | omega | exact decide_eq_false (by omega) | exact decide_eq_true (by omega)))))) ?_
      (refine back 1 (by decide) (by decide) _ _ _ (sub_of [0, 1, 2] rfl rfl rfl rfl (by (repeat' (first | exact rfl | exact trivial | exact sim_refl _ | refine And.intro ?_ ?_))) (by (repeat' (first | exact rfl | exact trivial | exact sim_refl _ | refine And.intro ?_ ?_))) (by (repeat' (first | exact rfl | exact trivial | exact sim_refl _ | refine And.intro ?_ ?_))) (by (repeat' (first | exact rfl | exact trivial | exact sim_refl _ | refine And.intro ?_ ?_)))))
    have hnc := hs_code e0 hr (by decide) hlen
    rcases r0 with (_ | l) | ⟨e, p⟩ | e
    · refine sxb hX [.r 10] [] 4000 rfl (by (simp [-List.getD_eq_getElem?_getD, -List.length_eq_zero_iff, conjP] <;> (first | omega | ((repeat' (refine And.intro ?_ ?_)) <;> (first | omega | exact decide_eq_false (by omega) | exact decide_eq_true (by omega)))))) ?_
      refine sxb hX [.r 10] [.T] 4000 rfl (by (simp [-List.getD_eq_getElem?_getD, -List.length_eq_zero_iff, conjP, sel0, e0, l0] <;> (first | omega | ((repeat' (refine And.intro ?_ ?_)) <;> (first | omega | exact decide_eq_false (by omega) | exact decide_eq_true (by omega)))))) ?_
      refine sxb hX [.r 10] [.F] 4000 rfl (by (simp [-List.getD_eq_getElem?_getD, -List.length_eq_zero_iff, conjP] <;> (first | omega | ((repeat' (refine And.intro ?_ ?_)) <;> (first | omega | exact decide_eq_false (by omega) | exact decide_eq_true (by omega)))))) ?_
      refine sxb hX [.r 10] [.F] 4000 rfl (by (simp [-List.getD_eq_getElem?_getD, -List.length_eq_zero_iff, conjP, addOP, hrA] <;> (first | omega | ((repeat' (refine And.intro ?_ ?_)) <;> (first | omega | exact decide_eq_false (by omega) | exact decide_eq_true (by omega)))))) ?_
      (refine ss_sub hX (T' := [(5, .tt), (6, .ptr 1 0), (7, .slice 2 0 Wl.length Wl.length), (8, .int .i64 0), (9, .nilslice)]) (H' := onHn a0 a1 a2 a3 a4 a5 a6 a7 a8 Wl) [0, 1, 2] rfl rfl rfl rfl (by (repeat' (first | exact rfl | exact trivial | exact sim_refl _ | refine And.intro ?_ ?_))) (by (repeat' (first | exact rfl | exact trivial | exact sim_refl _ | refine And.intro ?_ ?_))) (by (repeat' (first | exact rfl | exact trivial | exact sim_refl _ | refine And.intro ?_ ?_))) (by (repeat' (first | exact rfl | exact trivial | exact sim_refl _ | refine And.intro ?_ ?_))) ?_; exact innerN)
    · obtain ⟨d1, d2, d3⟩ := n0 _ rfl
      have d1 : l.Nodup := d1
      have d2 : ∀ b ∈ l, classV a5 a7 b = 0 := d2
      have d3 : (l.length : Int) ≤ a5 := d3
      have inner : SS hX (At ρ w) (Is .tt [pinE RTV]) ⟨[], [], Tryd.f3, Tryd.f3.ntmps, [pinE RTV], contF Tryd.f3 10 [I], oiT0n Wl.length 0 l, oiHn a0 a1 a2 a3 a4 a5 a6 a7 a8 Wl l⟩ := by
        refine sxb hX [.l] [] 400 rfl trivial ?_
        refine ss_sub hX (T' := oiTn Wl.length 0 l 0) (H' := oiHn a0 a1 a2 a3 a4 a5 a6 a7 a8 Wl l) [0, 1, 2, 3] rfl rfl rfl rfl (by (repeat' (first | exact rfl | exact trivial | exact sim_refl _ | refine And.intro ?_ ?_))) (by (repeat' (first | exact rfl | exact trivial | exact sim_refl _ | refine And.intro ?_ ?_))) (by (repeat' (first | exact rfl | exact trivial | exact sim_refl _ | refine And.intro ?_ ?_))) (by (repeat' (first | exact rfl | exact trivial | exact sim_refl _ | refine And.intro ?_ ?_))) ?_
        refine ss_loop hX (oiTn Wl.length 0 l) (fun _ => oiHn a0 a1 a2 a3 a4 a5 a6 a7 a8 Wl l) (fun i => i ≤ l.length) (fun i => l.length - i) 0 (Nat.zero_le _) ?_
        intro i hi I2 back2
        have hi : i ≤ l.length := hi
        by_cases h1 : i < l.length
        · have h2 : (i : Int) < (l.length : Int) := by omega
          have hm : l.getD i 0 ∈ l := by rw [List.getD_eq_getElem?_getD, List.getElem?_eq_getElem h1]; simp
          have hcl : classF a0 a1 a2 a3 a4 a5 a6 a7 a8 (l.getD i 0) = 0 := d2 _ hm
          have hb0 := class_there hcl (by decide)
          have hha := nodup_has d1 h1
          have h25 : l.length < 1000000 := by omega
          refine sx hX [] 4000 rfl (by (simp [-List.getD_eq_getElem?_getD, -List.length_eq_zero_iff, conjP] <;> (first | omega | ((repeat' (refine And.intro ?_ ?_)) <;> (first | omega | exact decide_eq_false (by omega) | exact decide_eq_true (by omega)))))) ?_
          refine sx hX [.T] 4000 rfl (by (simp [-List.getD_eq_getElem?_getD, -List.length_eq_zero_iff, conjP, addOP, h2] <;> (first | omega | ((repeat' (refine And.intro ?_ ?_)) <;> (first | omega | exact decide_eq_false (by omega) | exact decide_eq_true (by omega)))))) ?_
          refine sx hX [.K, .F] 4000 rfl (by (simp [-List.getD_eq_getElem?_getD, -List.length_eq_zero_iff, conjP, h1, h2, hr, hcl, h25, cellOff] <;> (first | omega | ((repeat' (refine And.intro ?_ ?_)) <;> (first | omega | exact decide_eq_false (by omega) | exact decide_eq_true (by omega)))))) ?_
          refine sx hX [.F] 4000 rfl (by (simp [-List.getD_eq_getElem?_getD, -List.length_eq_zero_iff, conjP, addOP, hha, cellOff] <;> (first | omega | ((repeat' (refine And.intro ?_ ?_)) <;> (first | omega | exact decide_eq_false (by omega) | exact decide_eq_true (by omega)))))) ?_
          (refine back2 (i + 1) ?q1 ?q2 _ _ _ (sub_of [0, 1, 2, 3] rfl rfl rfl rfl ⟨by (repeat' (first | exact rfl | exact trivial | exact sim_refl _ | refine And.intro ?_ ?_)), by (repeat' (first | exact rfl | exact trivial | exact sim_refl _ | refine And.intro ?_ ?_)), by (repeat' (first | exact rfl | exact trivial | exact sim_refl _ | refine And.intro ?_ ?_)), by (repeat' (first | exact rfl | exact trivial | exact sim_refl _ | refine And.intro ?_ ?_)), by (repeat' (first | exact rfl | exact trivial | exact sim_refl _ | refine And.intro ?_ ?_)), ⟨rfl, wi64 (by omega) (by omega)⟩, trivial⟩ (by (repeat' (first | exact rfl | exact trivial | exact sim_refl _ | refine And.intro ?_ ?_))) (by (repeat' (first | exact rfl | exact trivial | exact sim_refl _ | refine And.intro ?_ ?_))) (by (repeat' (first | exact rfl | exact trivial | exact sim_refl _ | refine And.intro ?_ ?_)))); (case q1 => omega); (case q2 => omega))
        · have h2 : ¬ (i : Int) < (l.length : Int) := by omega
          refine sx hX [] 4000 rfl (by (simp [-List.getD_eq_getElem?_getD, -List.length_eq_zero_iff, conjP] <;> (first | omega | ((repeat' (refine And.intro ?_ ?_)) <;> (first | omega | exact decide_eq_false (by omega) | exact decide_eq_true (by omega)))))) ?_
          refine sx hX [.F] 4000 rfl (by (simp [-List.getD_eq_getElem?_getD, -List.length_eq_zero_iff, conjP, addOP, h2] <;> (first | omega | ((repeat' (refine And.intro ?_ ?_)) <;> (first | omega | exact decide_eq_false (by omega) | exact decide_eq_true (by omega)))))) ?_
          (refine back 1 (by decide) (by decide) _ _ _ (sub_of [0, 1, 2] rfl rfl rfl rfl (by (repeat' (first | exact rfl | exact trivial | exact sim_refl _ | refine And.intro ?_ ?_))) (by (repeat' (first | exact rfl | exact trivial | exact sim_refl _ | refine And.intro ?_ ?_))) (by (repeat' (first | exact rfl | exact trivial | exact sim_refl _ | refine And.intro ?_ ?_))) (by (repeat' (first | exact rfl | exact trivial | exact sim_refl _ | refine And.intro ?_ ?_)))))
      refine sxb hX [.r 10] [] 4000 rfl (by (simp [-List.getD_eq_getElem?_getD, -List.length_eq_zero_iff, conjP] <;> (first | omega | ((repeat' (refine And.intro ?_ ?_)) <;> (first | omega | exact decide_eq_false (by omega) | exact decide_eq_true (by omega)))))) ?_
      refine sxb hX [.r 10] [.T] 4000 rfl (by (simp [-List.getD_eq_getElem?_getD, -List.length_eq_zero_iff, conjP, sel0, e0, l0] <;> (first | omega | ((repeat' (refine And.intro ?_ ?_)) <;> (first | omega | exact decide_eq_false (by omega) | exact decide_eq_true (by omega)))))) ?_
      refine sxb hX [.r 10] [.F] 4000 rfl (by (simp [-List.getD_eq_getElem?_getD, -List.length_eq_zero_iff, conjP] <;> (first | omega | ((repeat' (refine And.intro ?_ ?_)) <;> (first | omega | exact decide_eq_false (by omega) | exact decide_eq_true (by omega)))))) ?_
      refine sxb hX [.r 10] [.F] 4000 rfl (by (simp [-List.getD_eq_getElem?_getD, -List.length_eq_zero_iff, conjP, addOP, d3] <;> (first | omega | ((repeat' (refine And.intro ?_ ?_)) <;> (first | omega | exact decide_eq_false (by omega) | exact decide_eq_true (by omega)))))) ?_
      (refine ss_sub hX (T' := oiT0n Wl.length 0 l) (H' := oiHn a0 a1 a2 a3 a4 a5 a6 a7 a8 Wl l) [0, 1, 2, 3] rfl rfl rfl rfl (by (repeat' (first | exact rfl | exact trivial | exact sim_refl _ | refine And.intro ?_ ?_))) (by (repeat' (first | exact rfl | exact trivial | exact sim_refl _ | refine And.intro ?_ ?_))) (by (repeat' (first | exact rfl | exact trivial | exact sim_refl _ | refine And.intro ?_ ?_))) (by (repeat' (first | exact rfl | exact trivial | exact sim_refl _ | refine And.intro ?_ ?_))) ?_; exact inner)
    · have he := hs_bad e0
      refine sxb hX [.r 10] [] 4000 rfl (by (simp [-List.getD_eq_getElem?_getD, -List.length_eq_zero_iff, conjP] <;> (first | omega | ((repeat' (refine And.intro ?_ ?_)) <;> (first | omega | exact decide_eq_false (by omega) | exact decide_eq_true (by omega)))))) ?_
      refine sxb hX [.r 10] [.T] 4000 rfl (by (simp [-List.getD_eq_getElem?_getD, -List.length_eq_zero_iff, conjP, sel0, e0, l0] <;> (first | omega | ((repeat' (refine And.intro ?_ ?_)) <;> (first | omega | exact decide_eq_false (by omega) | exact decide_eq_true (by omega)))))) ?_
      refine sxb hX [.r 10] [.T] 4000 rfl (by (simp [-List.getD_eq_getElem?_getD, -List.length_eq_zero_iff, conjP, addOP] <;> (first | omega | ((repeat' (refine And.intro ?_ ?_)) <;> (first | omega | exact decide_eq_false (by omega) | exact decide_eq_true (by omega)))))) ?_
      refine sxb hX [.r 10] [.F] 4000 rfl (by (simp [-List.getD_eq_getElem?_getD, -List.length_eq_zero_iff, conjP] <;> (first | omega | ((repeat' (refine And.intro ?_ ?_)) <;> (first | omega | exact decide_eq_false (by omega) | exact decide_eq_true (by omega)))))) ?_
      refine sxb hX [.r 10] [.F] 4000 rfl (by (simp [-List.getD_eq_getElem?_getD, -List.length_eq_zero_iff, conjP, addOP, hrA] <;> (first | omega | ((repeat' (refine And.intro ?_ ?_)) <;> (first | omega | exact decide_eq_false (by omega) | exact decide_eq_true (by omega)))))) ?_
      (refine ss_sub hX (T' := [(5, .tt), (6, .ptr 1 0), (7, .slice 2 0 Wl.length Wl.length), (8, .int .i64 0), (9, .nilslice)]) (H' := onHn a0 a1 a2 a3 a4 a5 a6 a7 a8 Wl) [0, 1, 2] rfl rfl rfl rfl (by (repeat' (first | exact rfl | exact trivial | exact sim_refl _ | refine And.intro ?_ ?_))) (by (repeat' (first | exact rfl | exact trivial | exact sim_refl _ | refine And.intro ?_ ?_))) (by (repeat' (first | exact rfl | exact trivial | exact sim_refl _ | refine And.intro ?_ ?_))) (by (repeat' (first | exact rfl | exact trivial | exact sim_refl _ | refine And.intro ?_ ?_))) ?_; exact innerN)
    · simp [isCode] at hnc
  · dsimp only [onTn]
    have innerN : SS (hXOc Wl r0 r1) (At ρ w) (Is .tt [pinE RTV]) ⟨[], [], Tryd.f3, Tryd.f3.ntmps, [pinE RTV], contF Tryd.f3 10 [I], [(5, .tt), (6, .ptr 1 0), (7, .slice 2 0 Wl.length Wl.length), (8, .int .i64 1), (9, .nilslice)], onHn a0 a1 a2 a3 a4 a5 a6 a7 a8 Wl⟩ := by
      refine sxb hX [.l] [] 400 rfl trivial ?_
      refine ss_sub hX (T' := [(5, .tt), (6, .ptr 1 0), (7, .slice 2 0 Wl.length Wl.length), (8, .int .i64 1), (9, .nilslice), (11, .int .i64 0)]) (H' := onHn a0 a1 a2 a3 a4 a5 a6 a7 a8 Wl) [0, 1, 2] rfl rfl rfl rfl (by (repeat' (first | exact rfl | exact trivial | exact sim_refl _ | refine And.intro ?_ ?_))) (by (repeat' (first | exact rfl | exact trivial | exact sim_refl _ | refine And.intro ?_ ?_))) (by (repeat' (first | exact rfl | exact trivial | exact sim_refl _ | refine And.intro ?_ ?_))) (by (repeat' (first | exact rfl | exact trivial | exact sim_refl _ | refine And.intro ?_ ?_))) ?_
      refine ss_loop hX (fun _ : Unit => [(5, .tt), (6, .ptr 1 0), (7, .slice 2 0 Wl.length Wl.length), (8, .int .i64 1), (9, .nilslice), (11, .int .i64 0)]) (fun _ => onHn a0 a1 a2 a3 a4 a5 a6 a7 a8 Wl) (fun _ => True) (fun _ => 0) () trivial ?_
      intro _ _ I2 _
      refine sx hX [] 4000 rfl (by (simp [-List.getD_eq_getElem?_getD, -List.length_eq_zero_iff, conjP] <;> (first | omega | ((repeat' (refine And.intro ?_ ?_)) <;> (first | omega | exact decide_eq_false (by omega) | exact decide_eq_true (by omega)))))) ?_
      refine sx hX [.F] 4000 rfl (by (simp [-List.getD_eq_getElem?_getD, -List.length_eq_zero_iff, conjP, addOP] <;> (first | omega | ((repeat' (refine And.intro ?_ ?_)) <;> (first | omega | exact decide_eq_false (by omega) | exact decide_eq_true (by omega)))))) ?_
      (refine back 2 (by decide) (by decide) _ _ _ (sub_of [0, 1, 2] rfl rfl rfl rfl (by (repeat' (first | exact rfl | exact trivial | exact sim_refl _ | refine And.intro ?_ ?_))) (by (repeat' (first | exact rfl | exact trivial | exact sim_refl _ | refine And.intro ?_ ?_))) (by (repeat' (first | exact rfl | exact trivial | exact sim_refl _ | refine And.intro ?_ ?_))) (by (repeat' (first | exact rfl | exact trivial | exact sim_refl _ | refine And.intro ?_ ?_)))))
    have hnc := hs_code e1 hr (by decide) hlen
    rcases r1 with (_ | l) | ⟨e, p⟩ | e
    · refine sxb hX [.r 10] [] 4000 rfl (by (simp [-List.getD_eq_getElem?_getD, -List.length_eq_zero_iff, conjP] <;> (first | omega | ((repeat' (refine And.intro ?_ ?_)) <;> (first | omega | exact decide_eq_false (by omega) | exact decide_eq_true (by omega)))))) ?_
      refine sxb hX [.r 10] [.T] 4000 rfl (by (simp [-List.getD_eq_getElem?_getD, -List.length_eq_zero_iff, conjP, sel1, e1, l1] <;> (first | omega | ((repeat' (refine And.intro ?_ ?_)) <;> (first | omega | exact decide_eq_false (by omega) | exact decide_eq_true (by omega)))))) ?_
      refine sxb hX [.r 10] [.F] 4000 rfl (by (simp [-List.getD_eq_getElem?_getD, -List.length_eq_zero_iff, conjP] <;> (first | omega | ((repeat' (refine And.intro ?_ ?_)) <;> (first | omega | exact decide_eq_false (by omega) | exact decide_eq_true (by omega)))))) ?_
      refine sxb hX [.r 10] [.F] 4000 rfl (by (simp [-List.getD_eq_getElem?_getD, -List.length_eq_zero_iff, conjP, addOP, hrA] <;> (first | omega | ((repeat' (refine And.intro ?_ ?_)) <;> (first | omega | exact decide_eq_false (by omega) | exact decide_eq_true (by omega)))))) ?_
      (refine ss_sub hX (T' := [(5, .tt), (6, .ptr 1 0), (7, .slice 2 0 Wl.length Wl.length), (8, .int .i64 1), (9, .nilslice)]) (H' := onHn a0 a1 a2 a3 a4 a5 a6 a7 a8 Wl) [0, 1, 2] rfl rfl rfl rfl (by (repeat' (first | exact rfl | exact trivial | exact sim_refl _ | refine And.intro ?_ ?_))) (by (repeat' (first | exact rfl | exact trivial | exact sim_refl _ | refine And.intro ?_ ?_))) (by (repeat' (first | exact rfl | exact trivial | exact sim_refl _ | refine And.intro ?_ ?_))) (by (repeat' (first | exact rfl | exact trivial | exact sim_refl _ | refine And.intro ?_ ?_))) ?_; exact innerN)
    · obtain ⟨d1, d2, d3⟩ := n1 _ rfl
      have d1 : l.Nodup := d1
      have d2 : ∀ b ∈ l, classV a5 a7 b = 1 := d2
      have d3 : (l.length : Int) ≤ a7 := d3
      have inner : SS hX (At ρ w) (Is .tt [pinE RTV]) ⟨[], [], Tryd.f3, Tryd.f3.ntmps, [pinE RTV], contF Tryd.f3 10 [I], oiT0n Wl.length 1 l, oiHn a0 a1 a2 a3 a4 a5 a6 a7 a8 Wl l⟩ := by
        refine sxb hX [.l] [] 400 rfl trivial ?_
        refine ss_sub hX (T' := oiTn Wl.length 1 l 0) (H' := oiHn a0 a1 a2 a3 a4 a5 a6 a7 a8 Wl l) [0, 1, 2, 3] rfl rfl rfl rfl (by (repeat' (first | exact rfl | exact trivial | exact sim_refl _ | refine And.intro ?_ ?_))) (by (repeat' (first | exact rfl | exact trivial | exact sim_refl _ | refine And.intro ?_ ?_))) (by (repeat' (first | exact rfl | exact trivial | exact sim_refl _ | refine And.intro ?_ ?_))) (by (repeat' (first | exact rfl | exact trivial | exact sim_refl _ | refine And.intro ?_ ?_))) ?_
        refine ss_loop hX (oiTn Wl.length 1 l) (fun _ => oiHn a0 a1 a2 a3 a4 a5 a6 a7 a8 Wl l) (fun i => i ≤ l.length) (fun i => l.length - i) 0 (Nat.zero_le _) ?_
        intro i hi I2 back2
        have hi : i ≤ l.length := hi
        by_cases h1 : i < l.length
        · have h2 : (i : Int) < (l.length : Int) := by omega
          have hm : l.getD i 0 ∈ l := by rw [List.getD_eq_getElem?_getD, List.getElem?_eq_getElem h1]; simp
          have hcl : classF a0 a1 a2 a3 a4 a5 a6 a7 a8 (l.getD i 0) = 1 := d2 _ hm
          have hb0 := class_there hcl (by decide)
          have hha := nodup_has d1 h1
          have h25 : l.length < 1000000 := by omega
          refine sx hX [] 4000 rfl (by (simp [-List.getD_eq_getElem?_getD, -List.length_eq_zero_iff, conjP] <;> (first | omega | ((repeat' (refine And.intro ?_ ?_)) <;> (first | omega | exact decide_eq_false (by omega) | exact decide_eq_true (by omega)))))) ?_
          refine sx hX [.T] 4000 rfl (by (simp [-List.getD_eq_getElem?_getD, -List.length_eq_zero_iff, conjP, addOP, h2] <;> (first | omega | ((repeat' (refine And.intro ?_ ?_)) <;> (first | omega | exact decide_eq_false (by omega) | exact decide_eq_true (by omega)))))) ?_
          refine sx hX [.K, .F] 4000 rfl (by (simp [-List.getD_eq_getElem?_getD, -List.length_eq_zero_iff, conjP, h1, h2, hr, hcl, h25, cellOff] <;> (first | omega | ((repeat' (refine And.intro ?_ ?_)) <;> (first | omega | exact decide_eq_false (by omega) | exact decide_eq_true (by omega)))))) ?_
          refine sx hX [.F] 4000 rfl (by (simp [-List.getD_eq_getElem?_getD, -List.length_eq_zero_iff, conjP, addOP, hha, cellOff] <;> (first | omega | ((repeat' (refine And.intro ?_ ?_)) <;> (first | omega | exact decide_eq_false (by omega) | exact decide_eq_true (by omega)))))) ?_
          (refine back2 (i + 1) ?q1 ?q2 _ _ _ (sub_of [0, 1, 2, 3] rfl rfl rfl rfl ⟨by (repeat' (first | exact rfl | exact trivial | exact sim_refl _ | refine And.intro ?_ ?_)), by (repeat' (first | exact rfl | exact trivial | exact sim_refl _ | refine And.intro ?_ ?_)), by (repeat' (first | exact rfl | exact trivial | exact sim_refl _ | refine And.intro ?_ ?_)), by (repeat' (first | exact rfl | exact trivial | exact sim_refl _ | refine And.intro ?_ ?_)), by (repeat' (first | exact rfl | exact trivial | exact sim_refl _ | refine And.intro ?_ ?_)), ⟨rfl, wi64 (by omega) (by omega)⟩, trivial⟩ (by (repeat' (first | exact rfl | exact trivial | exact sim_refl _ | refine And.intro ?_ ?_))) (by (repeat' (first | exact rfl | exact trivial | exact sim_refl _ | refine And.intro ?_ ?_))) (by (repeat' (first | exact rfl | exact trivial | exact sim_refl _ | refine And.intro ?_ ?_)))); (case q1 => omega); (case q2 => omega))
        · have h2 : ¬ (i : Int) < (l.length : Int) := by omega
          refine sx hX [] 4000 rfl (by (simp [-List.getD_eq_getElem?_getD, -List.length_eq_zero_iff, conjP] <;> (first | omega | ((repeat' (refine And.intro ?_ ?_)) <;> (first | omega | exact decide_eq_false (by omega) | exact decide_eq_true (by omega)))))) ?_
          refine sx hX [.F] 4000 rfl (by (simp [-List.getD_eq_getElem?_getD, -List.length_eq_zero_iff, conjP, addOP, h2] <;> (first | omega | ((repeat' (refine And.intro ?_ ?_)) <;> (first | omega | exact decide_eq_false (by omega) | exact decide_eq_true (by omega)))))) ?_
          (refine back 2 (by decide) (by decide) _ _ _ (sub_of [0, 1, 2] rfl rfl rfl rfl (by (repeat' (first | exact rfl | exact trivial | exact sim_refl _ | refine And.intro ?_ ?_))) (by (repeat' (first | exact rfl | exact trivial | exact sim_refl _ | refine And.intro ?_ ?_))) (by (repeat' (first | exact rfl | exact trivial | exact sim_refl _ | refine And.intro ?_ ?_))) (by (repeat' (first | exact rfl | exact trivial | exact sim_refl _ | refine And.intro ?_ ?_)))))
      refine sxb hX [.r 10] [] 4000 rfl (by (simp [-List.getD_eq_getElem?_getD, -List.length_eq_zero_iff, conjP] <;> (first | omega | ((repeat' (refine And.intro ?_ ?_)) <;> (first | omega | exact decide_eq_false (by omega) | exact decide_eq_true (by omega)))))) ?_
      refine sxb hX [.r 10] [.T] 4000 rfl (by (simp [-List.getD_eq_getElem?_getD, -List.length_eq_zero_iff, conjP, sel1, e1, l1] <;> (first | omega | ((repeat' (refine And.intro ?_ ?_)) <;> (first | omega | exact decide_eq_false (by omega) | exact decide_eq_true (by omega)))))) ?_
      refine sxb hX [.r 10] [.F] 4000 rfl (by (simp [-List.getD_eq_getElem?_getD, -List.length_eq_zero_iff, conjP] <;> (first | omega | ((repeat' (refine And.intro ?_ ?_)) <;> (first | omega | exact decide_eq_false (by omega) | exact decide_eq_true (by omega)))))) ?_
      refine sxb hX [.r 10] [.F] 4000 rfl (by (simp [-List.getD_eq_getElem?_getD, -List.length_eq_zero_iff, conjP, addOP, d3] <;> (first | omega | ((repeat' (refine And.intro ?_ ?_)) <;> (first | omega | exact decide_eq_false (by omega) | exact decide_eq_true (by omega)))))) ?_
      (refine ss_sub hX (T' := oiT0n Wl.length 1 l) (H' := oiHn a0 a1 a2 a3 a4 a5 a6 a7 a8 Wl l) [0, 1, 2, 3] rfl rfl rfl rfl (by (repeat' (first | exact rfl | exact trivial | exact sim_refl _ | refine And.intro ?_ ?_))) (by (repeat' (first | exact rfl | exact trivial | exact sim_refl _ | refine And.intro ?_ ?_))) (by (repeat' (first | exact rfl | exact trivial | exact sim_refl _ | refine And.intro ?_ ?_))) (by (repeat' (first | exact rfl | exact trivial | exact sim_refl _ | refine And.intro ?_ ?_))) ?_; exact inner)
    · have he := hs_bad e1
      refine sxb hX [.r 10] [] 4000 rfl (by (simp [-List.getD_eq_getElem?_getD, -List.length_eq_zero_iff, conjP] <;> (first | omega | ((repeat' (refine And.intro ?_ ?_)) <;> (first | omega | exact decide_eq_false (by omega) | exact decide_eq_true (by omega)))))) ?_
      refine sxb hX [.r 10] [.T] 4000 rfl (by (simp [-List.getD_eq_getElem?_getD, -List.length_eq_zero_iff, conjP, sel1, e1, l1] <;> (first | omega | ((repeat' (refine And.intro ?_ ?_)) <;> (first | omega | exact decide_eq_false (by omega) | exact decide_eq_true (by omega)))))) ?_
      refine sxb hX [.r 10] [.T] 4000 rfl (by (simp [-List.getD_eq_getElem?_getD, -List.length_eq_zero_iff, conjP, addOP] <;> (first | omega | ((repeat' (refine And.intro ?_ ?_)) <;> (first | omega | exact decide_eq_false (by omega) | exact decide_eq_true (by omega)))))) ?_
      refine sxb hX [.r 10] [.F] 4000 rfl (by (simp [-List.getD_eq_getElem?_getD, -List.length_eq_zero_iff, conjP] <;> (first | omega | ((repeat' (refine And.intro ?_ ?_)) <;> (first | omega | exact decide_eq_false (by omega) | exact decide_eq_true (by omega)))))) ?_
      refine sxb hX [.r 10] [.F] 4000 rfl (by (simp [-List.getD_eq_getElem?_getD, -List.length_eq_zero_iff, conjP, addOP, hrA] <;> (first | omega | ((repeat' (refine And.intro ?_ ?_)) <;> (first | omega | exact decide_eq_false (by omega) | exact decide_eq_true (by omega)))))) ?_
      (refine ss_sub hX (T' := [(5, .tt), (6, .ptr 1 0), (7, .slice 2 0 Wl.length Wl.length), (8, .int .i64 1), (9, .nilslice)]) (H' := onHn a0 a1 a2 a3 a4 a5 a6 a7 a8 Wl) [0, 1, 2] rfl rfl rfl rfl (by (repeat' (first | exact rfl | exact trivial | exact sim_refl _ | refine And.intro ?_ ?_))) (by (repeat' (first | exact rfl | exact trivial | exact sim_refl _ | refine And.intro ?_ ?_))) (by (repeat' (first | exact rfl | exact trivial | exact sim_refl _ | refine And.intro ?_ ?_))) (by (repeat' (first | exact rfl | exact trivial | exact sim_refl _ | refine And.intro ?_ ?_))) ?_; exact innerN)
    · simp [isCode] at hnc
  · dsimp only [onTn]
    refine sx hX [] 4000 rfl (by (simp [-List.getD_eq_getElem?_getD, -List.length_eq_zero_iff, conjP] <;> (first | omega | ((repeat' (refine And.intro ?_ ?_)) <;> (first | omega | exact decide_eq_false (by omega) | exact decide_eq_true (by omega)))))) ?_
    refine sx hX [.F] 4000 rfl (by (simp [-List.getD_eq_getElem?_getD, -List.length_eq_zero_iff, conjP, addOP] <;> (first | omega | ((repeat' (refine And.intro ?_ ?_)) <;> (first | omega | exact decide_eq_false (by omega) | exact decide_eq_true (by omega)))))) ?_
    (exact ss_end hX [0] rfl rfl trivial rfl rfl rfl rfl (by (repeat' (first | exact rfl | exact trivial | exact sim_refl _ | refine And.intro ?_ ?_))) (by (repeat' (first | exact rfl | exact trivial | exact sim_refl _ | refine And.intro ?_ ?_))) (by (repeat' (first | exact rfl | exact trivial | exact sim_refl _ | refine And.intro ?_ ?_))) (by (repeat' (first | exact rfl | exact trivial | exact sim_refl _ | refine And.intro ?_ ?_))))

set_option maxHeartbeats 16000000 in
theorem once_fn (l0 l1 l2 l3 : Int) (n cap : Nat) (o : Nat → SetP) (ho : SetOk o) : Gives Tryd.prog 3 [L4 l0 l1 l2 l3, .slice 0 0 n cap] [stO n o, pinE RTV] (Is .tt [stO n o, pinE RTV]) := by
  have hr := cfg_rightH l0 l1 l2 l3
  have hsz := size_bd hr
  have hU : InU (laW (cAnd 1 l0) 4 (cAnd 1 l1) 4 (cMod 6 l2) 6 (cMod 6 l3) (mkA (cAnd 1 l0) 4 (cAnd 1 l1) 2 4 (cMod 6 l2) 6 (cMod 6 l3) 2).W o (laN n)) := laW_in (mkA_in hr) ho _
  have hlen : ((laW (cAnd 1 l0) 4 (cAnd 1 l1) 4 (cMod 6 l2) 6 (cMod 6 l3) (mkA (cAnd 1 l0) 4 (cAnd 1 l1) 2 4 (cMod 6 l2) 6 (cMod 6 l3) 2).W o (laN n)).length : Int) = sizeV (cAnd 1 l0) 4 (cAnd 1 l1) 4 (cMod 6 l2) 6 (cMod 6 l3) := by rw [laW_len, mkA_len]; omega
  generalize hWl : laW (cAnd 1 l0) 4 (cAnd 1 l1) 4 (cMod 6 l2) 6 (cMod 6 l3) (mkA (cAnd 1 l0) 4 (cAnd 1 l1) 2 4 (cMod 6 l2) 6 (cMod 6 l3) 2).W o (laN n) = Wl at hU hlen
  have hla : laOb (cAnd 1 l0) 4 (cAnd 1 l1) 4 (cMod 6 l2) 6 (cMod 6 l3) (mkA (cAnd 1 l0) 4 (cAnd 1 l1) 2 4 (cMod 6 l2) 6 (cMod 6 l3) 2).W (setRow o) n Wl := ⟨o, ho, rfl, hWl⟩
  generalize e0 : hsR (cAnd 1 l0) 4 (cAnd 1 l1) 2 4 (cMod 6 l2) 6 (cMod 6 l3) 2 0 Wl.length Wl = r0
  generalize e1 : hsR (cAnd 1 l0) 4 (cAnd 1 l1) 2 4 (cMod 6 l2) 6 (cMod 6 l3) 2 1 Wl.length Wl = r1
  have hX := hXOc Wl r0 r1
  refine gives_x (hXOc Wl r0 r1) (fn := Tryd.f3) rfl rfl rfl rfl fun ρ w => ?_
  have key := once_loop n o hr hU hlen e0 e1 (ρ := ρ) (w := w)
  refine sxb hX [.r 4] [] 4000 rfl (by (simp [-List.getD_eq_getElem?_getD, -List.length_eq_zero_iff, conjP, hr, hla] <;> (first | omega | ((repeat' (refine And.intro ?_ ?_)) <;> (first | omega | exact decide_eq_false (by omega) | exact decide_eq_true (by omega)))))) ?_
  (refine ss_sub hX (T' := [(5, .tt), (6, .ptr 2 0), (7, .slice 3 0 Wl.length Wl.length)]) (H' := onH n o (cAnd 1 l0) 4 (cAnd 1 l1) 2 4 (cMod 6 l2) 6 (cMod 6 l3) 2 Wl) [0, 1, 3, 4] rfl rfl rfl rfl (by (repeat' (first | exact rfl | exact trivial | exact sim_refl _ | refine And.intro ?_ ?_))) (by (repeat' (first | exact rfl | exact trivial | exact sim_refl _ | refine And.intro ?_ ?_))) (by (repeat' (first | exact rfl | exact trivial | exact sim_refl _ | refine And.intro ?_ ?_))) (by (repeat' (first | exact rfl | exact trivial | exact sim_refl _ | refine And.intro ?_ ?_))) ?_; exact key)

set_option maxHeartbeats 16000000 in
theorem once_fnn (l0 l1 l2 l3 : Int) (a : Option Addr) : Gives Tryd.prog 3 [L4 l0 l1 l2 l3, .raw (.slice a 0 0)] [pinE RTV] (Is .tt [pinE RTV]) := by
  have hr := cfg_rightH l0 l1 l2 l3
  have hsz := size_bd hr
  have hU : InU ((mkA (cAnd 1 l0) 4 (cAnd 1 l1) 2 4 (cMod 6 l2) 6 (cMod 6 l3) 2).W) := mkA_in hr
  have hlen : (((mkA (cAnd 1 l0) 4 (cAnd 1 l1) 2 4 (cMod 6 l2) 6 (cMod 6 l3) 2).W).length : Int) = sizeV (cAnd 1 l0) 4 (cAnd 1 l1) 4 (cMod 6 l2) 6 (cMod 6 l3) := by rw [mkA_len]; omega
  generalize hWl : (mkA (cAnd 1 l0) 4 (cAnd 1 l1) 2 4 (cMod 6 l2) 6 (cMod 6 l3) 2).W = Wl at hU hlen
  have hla := hWl
  generalize e0 : hsR (cAnd 1 l0) 4 (cAnd 1 l1) 2 4 (cMod 6 l2) 6 (cMod 6 l3) 2 0 Wl.length Wl = r0
  generalize e1 : hsR (cAnd 1 l0) 4 (cAnd 1 l1) 2 4 (cMod 6 l2) 6 (cMod 6 l3) 2 1 Wl.length Wl = r1
  have hX := hXOc Wl r0 r1
  refine gives_x (hXOc Wl r0 r1) (fn := Tryd.f3) rfl rfl rfl rfl fun ρ w => ?_
  have key := once_loopn hr hU hlen e0 e1 (ρ := ρ) (w := w)
  refine sxb hX [.r 4] [] 4000 rfl (by (simp [-List.getD_eq_getElem?_getD, -List.length_eq_zero_iff, conjP, hr, hla] <;> (first | omega | ((repeat' (refine And.intro ?_ ?_)) <;> (first | omega | exact decide_eq_false (by omega) | exact decide_eq_true (by omega)))))) ?_
  (refine ss_sub hX (T' := [(5, .tt), (6, .ptr 1 0), (7, .slice 2 0 Wl.length Wl.length)]) (H' := onHn (cAnd 1 l0) 4 (cAnd 1 l1) 2 4 (cMod 6 l2) 6 (cMod 6 l3) 2 Wl) [0, 2, 3] rfl rfl rfl rfl (by (repeat' (first | exact rfl | exact trivial | exact sim_refl _ | refine And.intro ?_ ?_))) (by (repeat' (first | exact rfl | exact trivial | exact sim_refl _ | refine And.intro ?_ ?_))) (by (repeat' (first | exact rfl | exact trivial | exact sim_refl _ | refine And.intro ?_ ?_))) (by (repeat' (first | exact rfl | exact trivial | exact sim_refl _ | refine And.intro ?_ ?_))) ?_; exact key)
end Go.Proofs.YtfdkaakllceebaaDoor
namespace Go.Proofs.YtfdkaakllceebaaDoor.headsOnce
open Go Go.Hx
theorem four {l : List SV} (hl : okK [some .i64, some .i64, some .i64, some .i64] l) : ∃ l0 l1 l2 l3, .agg l = L4 l0 l1 l2 l3 := by
  rcases l with _ | ⟨a, _ | ⟨b, _ | ⟨c, _ | ⟨d, _ | ⟨e, r⟩⟩⟩⟩⟩ <;> simp only [okK, and_false] at hl
  obtain ⟨⟨n0, rfl, _⟩, ⟨n1, rfl, _⟩, ⟨n2, rfl, _⟩, ⟨n3, rfl, _⟩, _⟩ := hl
  exact ⟨_, _, _, _, rfl⟩
abbrev ks67 : List (Option IntKind) := [some .i64, some .i64, some .u32, some .u64, none]
theorem row_of (l : List SV) (h : okK ks67 l) : ∃ o : SetP, l = setRow (fun _ => o) 0 ∧ (0 ≤ o.tag ∧ o.tag < 4294967296) ∧ 0 ≤ o.w ∧ o.w < 18446744073709551616 := by
  rcases l with _ | ⟨a, _ | ⟨b, _ | ⟨c, _ | ⟨d, _ | ⟨e, _ | ⟨f, r⟩⟩⟩⟩⟩⟩ <;> simp only [okK, and_false] at h
  obtain ⟨⟨n1, rfl, _⟩, ⟨n2, rfl, _⟩, ⟨n3, rfl, h3⟩, ⟨n4, rfl, h4⟩, ⟨b1, rfl⟩, _⟩ := h
  have q3 : 0 ≤ n3 ∧ n3 < 4294967296 := by
    simp only [Lit.wf, Bool.and_eq_true, decide_eq_true_eq] at h3
    have e1 : IntKind.u32.min = 0 := by decide
    have e2 : IntKind.u32.max = 4294967295 := by decide
    omega
  exact ⟨⟨n1, n2, n3, n4, b1⟩, rfl, q3, wfU h4⟩
theorem rows_of (o : Nat → List SV) (h : ∀ i, okK ks67 (o i)) : ∃ q : Nat → SetP, o = setRow q ∧ SetOk q :=
  ⟨fun i => Classical.choose (row_of (o i) (h i)), funext fun i => (Classical.choose_spec (row_of (o i) (h i))).1, fun i => (Classical.choose_spec (row_of (o i) (h i))).2⟩
theorem walk_nil (a : Option Addr) (l : List SV) (hl : okK [some .i64, some .i64, some .i64, some .i64] l) : ∃ L, Gives Tryd.prog 3 [.agg l, .raw (.slice a 0 0)] [pinE RTV] (Is .tt L) := by
  obtain ⟨l0, l1, l2, l3, e⟩ := four hl
  rw [e]
  exact ⟨_, once_fnn l0 l1 l2 l3 a⟩
theorem walk (l : List SV) (hl : okK [some .i64, some .i64, some .i64, some .i64] l) (o : Nat → List SV) (h : ∀ i, okK ks67 (o i)) (len cap : Nat) (_ : len ≤ maxLen) :
    ∃ L, Gives Tryd.prog 3 [.agg l, .slice 0 0 len cap] [.obj (.rows len 5 o), pinE RTV] (Is .tt L) := by
  obtain ⟨l0, l1, l2, l3, e⟩ := four hl
  obtain ⟨p, rfl, hp⟩ := rows_of o h
  rw [e]
  exact ⟨_, once_fn l0 l1 l2 l3 len cap p hp⟩
end Go.Proofs.YtfdkaakllceebaaDoor.headsOnce
