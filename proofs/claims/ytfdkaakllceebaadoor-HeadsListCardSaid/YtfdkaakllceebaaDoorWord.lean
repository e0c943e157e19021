/- cause.Word, in handles. -/
import Derived.Test.YtfdkaakllceebaaDoorWordWalk
import Derived.Test.YtfdkaakllceebaaDoorAsVar
import Derived.Test.YtfdkaakllceebaaDoorRSize
namespace Go.Proofs.YtfdkaakllceebaaDoor
open Go Go.Hx Go.RowKit
/-- A call that makes new blocks alone. -/
theorem fnPost_below {w w' : World} {ρ : Nat → Nat × Nat} {H : List HE} {V : SV} (hS : HSat w (Hx.Own ρ H) ρ H w) (hV : V.okh (there H) = true) (hb : Below w.heap.size w w') : FnPost w ρ H (Is V H) (.returned (V.tr ρ)) w' := by
  refine ⟨ρ, H, V, ⟨rfl, rfl⟩, rfl, hV, ⟨?_, ?_, hS.inj, hS.own, ?_⟩, fun _ hh => ⟨rfl, hh⟩⟩
  · intro h o ho
    obtain ⟨q1, q2⟩ := hS.objs h o ho
    exact ⟨SO.holds_world (hb.block _ (hS.size _ (there_of_obj ho))) o q1, q2⟩
  · intro h hh
    exact Nat.lt_of_lt_of_le (hS.size h hh) hb.size
  · exact ⟨hb.size, fun b hbl _ => hb.block b hbl, hb.os, hb.tape, hb.output⟩
theorem word_nil_g (H : List HE) : Gives Tryd.prog 62 [.niliface] H (Is (.tup [.int .i64 0, .ff]) H) := fun ρ w hS _ =>
  (word_nilW w).mono fun e w' h => by obtain ⟨rfl, hb⟩ := h; exact fnPost_below (V := .tup [.int .i64 0, .ff]) hS rfl hb
theorem word_code_g (n : Int) (H : List HE) : Gives Tryd.prog 62 [.iface 38 (.int .i64 n)] H (Is (.tup [.int .i64 0, .ff]) H) := fun ρ w hS _ =>
  (word_codeW n w).mono fun e w' h => by obtain ⟨rfl, hb⟩ := h; exact fnPost_below (V := .tup [.int .i64 0, .ff]) hS rfl hb
theorem word_at_g (n i : Int) (g : Nat) (H : List HE) (hg : getH H g = some (.cells [.iface 38 (.int .i64 n), .int .i64 i] 95)) : Gives Tryd.prog 62 [.iface 93 (.ptr g 0)] H (Is (.tup [.int .i64 i, .tt]) H) := fun ρ w hS _ => by
  obtain ⟨⟨h1, h2⟩, _⟩ := hS.objs g _ (getH_some.1 hg)
  have ea : (⟨(ρ g).1, (ρ g).2 + 0, none⟩ : Addr) = ⟨(ρ g).1, 0, none⟩ := by rw [h1]
  show Calls Tryd.prog 62 #[.iface 93 (.pointer (some ⟨(ρ g).1, (ρ g).2 + 0, none⟩))] w _
  rw [ea]
  refine (word_atW n i (ρ g).1 w h2).mono fun e w' h => ?_
  obtain ⟨rfl, hb⟩ := h
  exact fnPost_below (V := .tup [.int .i64 i, .tt]) hS rfl hb
/-- cause.Word: the contract. -/
def wordS : Hx.Spec := fun args H => match args with
  | [.niliface] => some ([], .tup [.int .i64 0, .ff], H)
  | [.iface 38 (.int .i64 _)] => some ([], .tup [.int .i64 0, .ff], H)
  | [.iface 93 (.ptr g 0)] => match getH H g with
    | some (.cells [.iface 38 (.int .i64 _), .int .i64 i] 95) => some ([], .tup [.int .i64 i, .tt], H)
    | _ => none
  | _ => none
theorem wordS_ok {args : List SV} {H : List HE} {ob : List Prop} {V : SV} {L : List HE} (hs : wordS args H = some (ob, V, L)) (_ : AllP ob) : Gives Tryd.prog 62 args H (Is V L) := by
  unfold wordS at hs
  split at hs
  · simp only [Option.some.injEq, Prod.mk.injEq] at hs
    obtain ⟨rfl, rfl, rfl⟩ := hs
    exact word_nil_g _
  · simp only [Option.some.injEq, Prod.mk.injEq] at hs
    obtain ⟨rfl, rfl, rfl⟩ := hs
    exact word_code_g _ _
  · split at hs
    · rename_i _ _ _ n i hg
      simp only [Option.some.injEq, Prod.mk.injEq] at hs
      obtain ⟨rfl, rfl, rfl⟩ := hs
      exact word_at_g n i _ _ hg
    · simp at hs
  · simp at hs
end Go.Proofs.YtfdkaakllceebaaDoor
