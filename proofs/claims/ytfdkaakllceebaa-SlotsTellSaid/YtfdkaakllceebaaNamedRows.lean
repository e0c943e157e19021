/- SlotsTell: both Named as rows. -/
import Derived.Test.YtfdkaakllceebaaNamedNone
import Derived.Test.YtfdkaakllceebaaSameList
namespace Go.Proofs.Ytfdkaakllceebaa
open Go Go.Hx
set_option maxRecDepth 8000
/-- A list as a slice of the program. -/
def slX (x : List Int) (n : Nat) : SV := match x with
  | [] => .nilslice
  | _ :: t => .sbuf n 1 0 (t.length + 1)
def slEX (x : List Int) : HE := match x with
  | [] => .absent
  | y :: t => .obj (.buf .i64 (y :: t) 1 3)
theorem slX_eq {x : List Int} {n : Nat} : slX x n = slV (opL x) n := by cases x <;> rfl
theorem slEX_eq {x : List Int} : slEX x = slE (opL x) .i64 3 := by cases x <;> rfl
def named3P (x : List Int) : Hx.Spec := fun args H => match args with
  | [.agg [.int .i64 a0, .int .i64 a1, .int .i64 a2, .int .i64 a3, .int .i64 a4, .int .i64 a5, .int .i64 a6, .int .i64 a7, .int .i64 a8], .slice h o l c] => match getH H h, nums[H.length]? with
    | some (.ints .u64 W 56), some n => match a0 with
      | 0 => some ([a1 = 0 ∧ a2 = 0 ∧ a3 = 0 ∧ a4 = 0 ∧ a5 = 0 ∧ a6 = 0 ∧ a7 = 0 ∧ a8 = 0], .nilslice, H)
      | _ => match o with
        | 0 => some ([a0 = 1 ∧ a1 = 4 ∧ a2 = 8 ∧ a3 = 4 ∧ a4 = 4 ∧ a5 = 2 ∧ a6 = 6 ∧ a7 = 2 ∧ a8 = 2, l = W.length, c = W.length, (W.length : Int) = sizeV 1 4 8 4 2 6 2, 13 ≤ W.length, bdN W, nmV W = x], slX x n, H ++ [slEX x])
        | _ + 1 => some ([a0 = 1 ∧ a1 = 4 ∧ a2 = 8 ∧ a3 = 4 ∧ a4 = 4 ∧ a5 = 2 ∧ a6 = 6 ∧ a7 = 2 ∧ a8 = 2, ¬ (l : Int) = sizeV 1 4 8 4 2 6 2], .nilslice, H)
    | _, _ => none
  | _ => none
theorem named3P_ok {x : List Int} {args : List SV} {H : List HE} {ob : List Prop} {V : SV} {L : List HE} (hs : named3P x args H = some (ob, V, L)) (ho : AllP ob) : Gives Try.prog 35 args H (Is V L) := by
  unfold named3P at hs
  split at hs
  case h_2 => simp at hs
  rename_i _ a0 a1 a2 a3 a4 a5 a6 a7 a8 h o l c
  split at hs
  case h_2 => simp at hs
  · rename_i _ _ W n hg hn
    have hn' := nums_get _ _ hn
    subst hn'
    have e1 : (SO.ints .u64 W 56).ren (nm [h] H) = .ints .u64 W 56 := rfl
    split at hs
    · simp only [Option.some.injEq, Prod.mk.injEq] at hs
      obtain ⟨rfl, rfl, rfl⟩ := hs
      obtain ⟨rfl, rfl, rfl, rfl, rfl, rfl, rfl, rfl⟩ := ho _ (List.mem_cons_self ..)
      have := frame1 (N := []) (H := H) (h0 := h) (ags := [C9 0 0 0 0 0 0 0 0 0, .slice h o l c]) ⟨_, hTE⟩ (named_zero (W := W) (o := o) (l := l) (c := c)) rfl rfl rfl hg rfl
      rw [e1, set_get hg] at this
      simpa [SV.ren] using this
    · split at hs
      · simp only [Option.some.injEq, Prod.mk.injEq] at hs
        obtain ⟨rfl, rfl, rfl⟩ := hs
        obtain ⟨o0, o1, o2, o3, o4, o5, o6⟩ := (⟨ho _ (by simp), ho _ (by simp), ho _ (by simp), ho _ (by simp), ho _ (by simp), ho _ (List.mem_of_getElem? (i := 5) rfl), ho _ (List.mem_of_getElem? (i := 6) rfl)⟩ : (a0 = 1 ∧ a1 = 4 ∧ a2 = 8 ∧ a3 = 4 ∧ a4 = 4 ∧ a5 = 2 ∧ a6 = 6 ∧ a7 = 2 ∧ a8 = 2) ∧ l = W.length ∧ c = W.length ∧ (W.length : Int) = sizeV 1 4 8 4 2 6 2 ∧ 13 ≤ W.length ∧ bdN W ∧ nmV W = x)
        obtain ⟨rfl, rfl, rfl, rfl, rfl, rfl, rfl, rfl, rfl⟩ := o0
        subst o1; subst o2; subst o6
        rw [slX_eq, slEX_eq]
        have := frame1 (N := [slE (opL (nmV W)) .i64 3]) (H := H) (h0 := h) (ags := [C9 1 4 8 4 4 2 6 2 2, .slice h 0 W.length W.length]) ⟨_, hTE⟩ (named_fn (W := W) o3 o4 o5) rfl rfl rfl hg (by cases opL (nmV W) <;> rfl)
        have e3 : (slV (opL (nmV W)) 1).ren (nm [h] H) = slV (opL (nmV W)) H.length := by cases opL (nmV W) <;> rfl
        rw [e1, e3, set_get hg] at this
        simp only [List.map_cons, List.map_nil, ren_slE] at this
        exact this
      · rename_i o'
        simp only [Option.some.injEq, Prod.mk.injEq] at hs
        obtain ⟨rfl, rfl, rfl⟩ := hs
        obtain ⟨rfl, rfl, rfl, rfl, rfl, rfl, rfl, rfl, rfl⟩ := ho _ (List.mem_cons_self ..)
        have o1 := ho _ (List.mem_cons_of_mem _ (List.mem_cons_self ..))
        have := frame1 (N := []) (H := H) (h0 := h) (ags := [C9 1 4 8 4 4 2 6 2 2, .slice h (o' + 1) l c]) ⟨_, hTE⟩ (named_sh (W := W) (o := o' + 1) (l := l) (c := c) o1) rfl rfl rfl hg rfl
        rw [e1, set_get hg] at this
        simpa [SV.ren] using this
def rnamed3P (x : List Int) : Hx.Spec := fun args H => match args with
  | [.agg [.int .i64 a0, .int .i64 a1, .int .i64 a2, .int .i64 a3, .int .i64 a4, .int .i64 a5, .int .i64 a6, .int .i64 a7, .int .i64 a8], .slice h o l c] => match getH H h, nums[H.length]? with
    | some (.ints .u64 W 56), some n => match o with
        | 0 => some ([a0 = 1 ∧ a1 = 4 ∧ a2 = 8 ∧ a3 = 4 ∧ a4 = 4 ∧ a5 = 2 ∧ a6 = 6 ∧ a7 = 2 ∧ a8 = 2, l = W.length, c = W.length, (W.length : Int) = sizeV 1 4 8 4 2 6 2, 13 ≤ W.length, bdN W, nmV W = x], slX x n, H ++ [slEX x])
        | _ + 1 => some ([a0 = 1 ∧ a1 = 4 ∧ a2 = 8 ∧ a3 = 4 ∧ a4 = 4 ∧ a5 = 2 ∧ a6 = 6 ∧ a7 = 2 ∧ a8 = 2, ¬ (l : Int) = sizeV 1 4 8 4 2 6 2], .nilslice, H)
    | _, _ => none
  | _ => none
theorem rnamed3P_ok {x : List Int} {args : List SV} {H : List HE} {ob : List Prop} {V : SV} {L : List HE} (hs : rnamed3P x args H = some (ob, V, L)) (ho : AllP ob) : Gives Try.prog 36 args H (Is V L) := by
  unfold rnamed3P at hs
  split at hs
  case h_2 => simp at hs
  rename_i _ a0 a1 a2 a3 a4 a5 a6 a7 a8 h o l c
  split at hs
  case h_2 => simp at hs
  · rename_i _ _ W n hg hn
    have hn' := nums_get _ _ hn
    subst hn'
    have e1 : (SO.ints .u64 W 56).ren (nm [h] H) = .ints .u64 W 56 := rfl
    · split at hs
      · simp only [Option.some.injEq, Prod.mk.injEq] at hs
        obtain ⟨rfl, rfl, rfl⟩ := hs
        obtain ⟨o0, o1, o2, o3, o4, o5, o6⟩ := (⟨ho _ (by simp), ho _ (by simp), ho _ (by simp), ho _ (by simp), ho _ (by simp), ho _ (List.mem_of_getElem? (i := 5) rfl), ho _ (List.mem_of_getElem? (i := 6) rfl)⟩ : (a0 = 1 ∧ a1 = 4 ∧ a2 = 8 ∧ a3 = 4 ∧ a4 = 4 ∧ a5 = 2 ∧ a6 = 6 ∧ a7 = 2 ∧ a8 = 2) ∧ l = W.length ∧ c = W.length ∧ (W.length : Int) = sizeV 1 4 8 4 2 6 2 ∧ 13 ≤ W.length ∧ bdN W ∧ nmV W = x)
        obtain ⟨rfl, rfl, rfl, rfl, rfl, rfl, rfl, rfl, rfl⟩ := o0
        subst o1; subst o2; subst o6
        rw [slX_eq, slEX_eq]
        have := frame1 (N := [slE (opL (nmV W)) .i64 3]) (H := H) (h0 := h) (ags := [C9 1 4 8 4 4 2 6 2 2, .slice h 0 W.length W.length]) ⟨_, hTE⟩ (rnamed_fn (W := W) o3 o4 o5) rfl rfl rfl hg (by cases opL (nmV W) <;> rfl)
        have e3 : (slV (opL (nmV W)) 1).ren (nm [h] H) = slV (opL (nmV W)) H.length := by cases opL (nmV W) <;> rfl
        rw [e1, e3, set_get hg] at this
        simp only [List.map_cons, List.map_nil, ren_slE] at this
        exact this
      · rename_i o'
        simp only [Option.some.injEq, Prod.mk.injEq] at hs
        obtain ⟨rfl, rfl, rfl⟩ := hs
        obtain ⟨rfl, rfl, rfl, rfl, rfl, rfl, rfl, rfl, rfl⟩ := ho _ (List.mem_cons_self ..)
        have o1 := ho _ (List.mem_cons_of_mem _ (List.mem_cons_self ..))
        have := frame1 (N := []) (H := H) (h0 := h) (ags := [C9 1 4 8 4 4 2 6 2 2, .slice h (o' + 1) l c]) ⟨_, hTE⟩ (rnamed_sh (W := W) (o := o' + 1) (l := l) (c := c) o1) rfl rfl rfl hg rfl
        rw [e1, set_get hg] at this
        simpa [SV.ren] using this
end Go.Proofs.Ytfdkaakllceebaa

