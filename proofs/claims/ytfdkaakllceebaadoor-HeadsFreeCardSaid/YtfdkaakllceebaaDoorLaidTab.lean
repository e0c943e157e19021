/- HeadsOnce: whatever words are laid, a list that is told has blocks of its class alone, each once. -/
import Derived.Test.YtfdkaakllceebaaDoorOnceLaw
namespace Go.Proofs.YtfdkaakllceebaaDoor
open Go Go.Hx
set_option maxRecDepth 8000
theorem hasS_ok {args : List SV} {H : List HE} {ob : List Prop} {V : SV} {L : List HE} (hs : hasS args H = some (ob, V, L)) (ho : AllP ob) : Gives Tryd.prog 14 args H (Is V L) := by
  unfold hasS at hs
  split at hs
  · simp only [Option.some.injEq, Prod.mk.injEq] at hs
    obtain ⟨rfl, rfl, rfl⟩ := hs
    exact gives_pure ⟨_, hTE⟩ (has_nil _) rfl rfl _
  · rename_i _ h l n
    split at hs
    · rename_i _ X hg
      simp only [Option.some.injEq, Prod.mk.injEq] at hs
      obtain ⟨rfl, rfl, rfl⟩ := hs
      have o1 := ho _ (List.mem_cons_self ..)
      have o2 := ho _ (List.mem_cons_of_mem _ (List.mem_cons_self ..))
      subst o1
      have := frame1 (N := []) (H := H) (h0 := h) ⟨_, hTE⟩ (has_fn X n o2) rfl rfl rfl hg rfl
      simp only [List.map_nil, List.append_nil] at this
      have e : SO.ren (nm [h] H) (SO.buf .i64 X 1 3) = SO.buf .i64 X 1 3 := rfl
      rw [e, set_self hg] at this
      exact this
    · simp at hs
  · simp at hs
/-! Words with words laid, as a contract. -/
def laOb (a0 a1 a2 a4 a5 a6 a7 : Int) (W0 : List Int) (rf : Nat → List SV) (n : Nat) (Wl : List Int) : Prop := ∃ o, SetOk o ∧ rf = setRow o ∧ laW a0 a1 a2 a4 a5 a6 a7 W0 o (laN n) = Wl
def laS (Wl : List Int) : Hx.Spec := fun args H => match args with
  | [.agg [.int .i64 a0, .int .i64 a1, .int .i64 a2, .int .i64 a3, .int .i64 a4, .int .i64 a5, .int .i64 a6, .int .i64 a7, .int .i64 a8], .slice h 0 n _] => match getH H h, nums[H.length]? with
    | some (.rows m 5 rf), some k => some ([rightB a0 a1 a2 a3 a4 a5 a6 a7 a8 = true, m = n, laOb a0 a1 a2 a4 a5 a6 a7 (mkA a0 a1 a2 a3 a4 a5 a6 a7 a8).W rf n Wl], .slice k 0 Wl.length Wl.length, H ++ [.obj (.ints .u64 Wl 43)])
    | _, _ => none
  | [.agg [.int .i64 a0, .int .i64 a1, .int .i64 a2, .int .i64 a3, .int .i64 a4, .int .i64 a5, .int .i64 a6, .int .i64 a7, .int .i64 a8], .raw (.slice _ 0 0)] => match nums[H.length]? with
    | some k => some ([rightB a0 a1 a2 a3 a4 a5 a6 a7 a8 = true, (mkA a0 a1 a2 a3 a4 a5 a6 a7 a8).W = Wl], .slice k 0 Wl.length Wl.length, H ++ [.obj (.ints .u64 Wl 43)])
    | _ => none
  | _ => none
variable {a0 a1 a2 a3 a4 a5 a6 a7 a8 : Int} {W : List Int}
theorem laid_nil (hr : rightB a0 a1 a2 a3 a4 a5 a6 a7 a8 = true) (a : Option Addr) : Gives Tryd.prog 10 [C9 a0 a1 a2 a3 a4 a5 a6 a7 a8, .raw (.slice a 0 0)] [] (Is (.slice 0 0 (mkA a0 a1 a2 a3 a4 a5 a6 a7 a8).W.length (mkA a0 a1 a2 a3 a4 a5 a6 a7 a8).W.length) [.obj (.ints .u64 (mkA a0 a1 a2 a3 a4 a5 a6 a7 a8).W 43)]) := by
  refine gives_x hXLa (fn := Tryd.f10) rfl rfl rfl rfl fun ρ w => ?_
  refine sxb hXLa [.l] [] 4000 rfl (by simp [conjP, hr]) ?_
  refine ss_sub hXLa (T' := [(1, .raw (.slice a 0 0)), (2, .ptr 0 0), (5, .slice 1 0 (mkA a0 a1 a2 a3 a4 a5 a6 a7 a8).W.length (mkA a0 a1 a2 a3 a4 a5 a6 a7 a8).W.length), (6, .int .i64 0)]) (H' := [c9O a0 a1 a2 a3 a4 a5 a6 a7 a8, .obj (.ints .u64 (mkA a0 a1 a2 a3 a4 a5 a6 a7 a8).W 43)]) [0, 1] rfl rfl rfl rfl (by (repeat' (first | exact rfl | exact trivial | exact sim_refl _ | refine And.intro ?_ ?_))) (by (repeat' (first | exact rfl | exact trivial | exact sim_refl _ | refine And.intro ?_ ?_))) (by (repeat' (first | exact rfl | exact trivial | exact sim_refl _ | refine And.intro ?_ ?_))) (by (repeat' (first | exact rfl | exact trivial | exact sim_refl _ | refine And.intro ?_ ?_))) ?_
  refine ss_loop hXLa (fun _ : Unit => [(1, .raw (.slice a 0 0)), (2, .ptr 0 0), (5, .slice 1 0 (mkA a0 a1 a2 a3 a4 a5 a6 a7 a8).W.length (mkA a0 a1 a2 a3 a4 a5 a6 a7 a8).W.length), (6, .int .i64 0)]) (fun _ => [c9O a0 a1 a2 a3 a4 a5 a6 a7 a8, .obj (.ints .u64 (mkA a0 a1 a2 a3 a4 a5 a6 a7 a8).W 43)]) (fun _ => True) (fun _ => 0) () trivial ?_
  intro _ _ I back
  refine sx hXLa [] 4000 rfl (by (simp [-List.getD_eq_getElem?_getD, -List.length_eq_zero_iff, conjP] <;> (first | omega | ((repeat' (refine And.intro ?_ ?_)) <;> (first | omega | exact decide_eq_false (by omega) | exact decide_eq_true (by omega)))))) ?_
  refine sx hXLa [.F] 4000 rfl (by (simp [-List.getD_eq_getElem?_getD, -List.length_eq_zero_iff, conjP, addOP] <;> (first | omega | ((repeat' (refine And.intro ?_ ?_)) <;> (first | omega | exact decide_eq_false (by omega) | exact decide_eq_true (by omega)))))) ?_
  (exact ss_end hXLa [1] rfl rfl trivial rfl rfl rfl rfl (by (repeat' (first | exact rfl | exact trivial | exact sim_refl _ | refine And.intro ?_ ?_))) (by (repeat' (first | exact rfl | exact trivial | exact sim_refl _ | refine And.intro ?_ ?_))) (by (repeat' (first | exact rfl | exact trivial | exact sim_refl _ | refine And.intro ?_ ?_))) (by (repeat' (first | exact rfl | exact trivial | exact sim_refl _ | refine And.intro ?_ ?_))))
theorem laS_ok {Wl : List Int} {args : List SV} {H : List HE} {ob : List Prop} {V : SV} {L : List HE} (hs : laS Wl args H = some (ob, V, L)) (ho : AllP ob) : Gives Tryd.prog 10 args H (Is V L) := by
  unfold laS at hs
  split at hs
  · split at hs
    case h_2 => simp at hs
    rename_i _ b0 b1 b2 b3 b4 b5 b6 b7 b8 h n cap _ _ m rf k hg hk
    have hk' := nums_get _ _ hk
    subst hk'
    simp only [Option.some.injEq, Prod.mk.injEq] at hs
    obtain ⟨rfl, rfl, rfl⟩ := hs
    simp only [AllP, List.mem_cons, List.not_mem_nil, or_false, forall_eq_or_imp, forall_eq] at ho
    obtain ⟨o1, rfl, o, o3, rfl, rfl⟩ := ho
    have := frame1 (H := H) (h0 := h) ⟨_, hTE⟩ (laid_fn o1 o3 m cap) rfl rfl rfl hg rfl
    have e : SO.ren (nm [h] H) (SO.rows m 5 (setRow o)) = SO.rows m 5 (setRow o) := rfl
    rw [e, set_self hg] at this
    exact this
  · split at hs
    case h_2 => simp at hs
    rename_i _ b0 b1 b2 b3 b4 b5 b6 b7 b8 a _ k hk
    have hk' := nums_get _ _ hk
    subst hk'
    simp only [Option.some.injEq, Prod.mk.injEq] at hs
    obtain ⟨rfl, rfl, rfl⟩ := hs
    simp only [AllP, List.mem_cons, List.not_mem_nil, or_false, forall_eq_or_imp, forall_eq] at ho
    obtain ⟨o1, rfl⟩ := ho
    have := frame0 (H := H) ⟨_, hTE⟩ (laid_nil o1 a) rfl rfl
    exact this
  · simp at hs
end Go.Proofs.YtfdkaakllceebaaDoor
namespace Go.Proofs.YtfdkaakllceebaaDoor.headsOnce
open Go Go.Hx
theorem four {l : List SV} (hl : okK [some .i64, some .i64, some .i64, some .i64] l) : ∃ l0 l1 l2 l3, .agg l = L4 l0 l1 l2 l3 := by
  rcases l with _ | ⟨a, _ | ⟨b, _ | ⟨c, _ | ⟨d, _ | ⟨e, r⟩⟩⟩⟩⟩ <;> simp only [okK, and_false] at hl
  obtain ⟨⟨n0, rfl, _⟩, ⟨n1, rfl, _⟩, ⟨n2, rfl, _⟩, ⟨n3, rfl, _⟩, _⟩ := hl
  exact ⟨_, _, _, _, rfl⟩
abbrev ks67 : List (Option IntKind) := [some .i64, some .i64, some .u32, some .u64, none]
theorem row_of (l : List SV) (h : okK ks67 l) : ∃ o : SetP, l = setRow (fun _ => o) 0 ∧ (0 ≤ o.tag ∧ o.tag < 4294967296) ∧ 0 ≤ o.w ∧ o.w < 18446744073709551616 := by
  rcases l with _ | ⟨a, _ | ⟨b, _ | ⟨c, _ | ⟨d, _ | ⟨e, _ | ⟨f, r⟩⟩⟩⟩⟩⟩ <;> simp only [okK, and_false] at h
  obtain ⟨⟨n1, rfl, _⟩, ⟨n2, rfl, _⟩, ⟨n3, rfl, h3⟩, ⟨n4, rfl, h4⟩, ⟨b1, rfl⟩, _⟩ := h
  have q3 : 0 ≤ n3 ∧ n3 < 4294967296 := by
    simp only [Lit.wf, Bool.and_eq_true, decide_eq_true_eq] at h3
    have e1 : IntKind.u32.min = 0 := by decide
    have e2 : IntKind.u32.max = 4294967295 := by decide
    omega
  exact ⟨⟨n1, n2, n3, n4, b1⟩, rfl, q3, wfU h4⟩
theorem rows_of (o : Nat → List SV) (h : ∀ i, okK ks67 (o i)) : ∃ q : Nat → SetP, o = setRow q ∧ SetOk q :=
  ⟨fun i => Classical.choose (row_of (o i) (h i)), funext fun i => (Classical.choose_spec (row_of (o i) (h i))).1, fun i => (Classical.choose_spec (row_of (o i) (h i))).2⟩
end Go.Proofs.YtfdkaakllceebaaDoor.headsOnce
