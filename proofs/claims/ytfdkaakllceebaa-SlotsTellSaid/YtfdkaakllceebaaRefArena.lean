/- The document's arena's steps. -/
import Derived.Test.YtfdkaakllceebaaArenaSteps
namespace Go.Proofs.Ytfdkaakllceebaa
open Go Go.Hx
set_option maxRecDepth 8000


/-- The document's arena, without trouble. -/
abbrev RO (h : Nat) (s : Ar) : HE := .obj (.cells [.slice h 0 s.W.length s.W.length, .int .i64 s.st, .int .i64 s.kd, .int .i64 s.wd, .int .u64 s.vl, .bool s.ch, .ff, .int .i64 0] 69)


section
variable {s : Ar} {i : Int} (h0 : 0 ≤ i) (h1 : i < s.W.length) (hs : 0 ≤ s.st) (hs' : s.st < 9000000000000000000)
include h0 h1 hs hs'
end

/-! In any heap. -/
abbrev ROx (h : Nat) (W : List Int) (st kd wd vl : Int) (ch : Bool) : HE := RO h ⟨W, st, kd, wd, vl, ch⟩
/-! What arenas are made. -/
def rmakeS : Hx.Spec := fun args H => match args with
  | [.agg [.int .i64 a0, .int .i64 a1, .int .i64 a2, .int .i64 a3, .int .i64 a4, .int .i64 a5, .int .i64 a6, .int .i64 a7, .int .i64 a8]] =>
    match nums[H.length]?, nums[H.length + 1]? with
    | some n0, some n1 => some ([rightB a0 a1 a2 a3 a4 a5 a6 a7 a8 = true], .ptr n1 0, H ++ [WO (mkA a0 a1 a2 a3 a4 a5 a6 a7 a8).W, ROx n0 (mkA a0 a1 a2 a3 a4 a5 a6 a7 a8).W (mkA a0 a1 a2 a3 a4 a5 a6 a7 a8).st 2 (mkA a0 a1 a2 a3 a4 a5 a6 a7 a8).wd (mkA a0 a1 a2 a3 a4 a5 a6 a7 a8).vl true])
    | _, _ => none
  | _ => none
theorem rmakeS_ok {args : List SV} {H : List HE} {ob : List Prop} {V : SV} {L : List HE} (hs : rmakeS args H = some (ob, V, L)) (ho : AllP ob) : Gives Try.prog 27 args H (Is V L) := by
  unfold rmakeS at hs
  split at hs
  · split at hs
    case h_2 => simp at hs
    rename_i n0 n1 e0 e1
    have e0' := nums_get _ _ e0
    have e1' := nums_get _ _ e1
    subst e0'; subst e1'
    simp only [Option.some.injEq, Prod.mk.injEq] at hs
    obtain ⟨rfl, rfl, rfl⟩ := hs
    have q := ho _ (List.mem_cons_self ..)
    have := frame0 (H := H) ⟨_, hTE⟩ (rmake_fn q) rfl rfl
    exact this
  · simp at hs
end Go.Proofs.Ytfdkaakllceebaa
