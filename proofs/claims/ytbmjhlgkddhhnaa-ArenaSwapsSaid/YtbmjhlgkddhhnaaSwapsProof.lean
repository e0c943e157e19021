/- ArenaSwaps returns true for every slice of turns (any length, any numbers): of the clients that load a word and swap it by one more, just as many are told true as the word says at last; the arguments read as before. Conditions: none beyond the row's own. -/
import Derived.Test.YtbmjhlgkddhhnaaSwaps
import Derived.Test.YtbmjhlgkddhhnaaRows
import Derived.ProofKit
import Derived.OpenShut
import Derived.ShutString
import Derived.ChangeOld
import Derived.Below
namespace Go.Proofs.Ytbmjhlgkddhhnaa.arenaSwaps
open Go.ChangeShapes Go.WideShapes Go.ChangeAt Go.RowKit
open Go.ChangeMaps (open_string shut_string)
set_option linter.unusedVariables false

theorem own : ownKnob Try.prog.godebug = none := by kernel_rfl
theorem laidOut : laidOutB Try.prog = true := by kernel_rfl

/-- What is known of a slice of integers that came in. -/
def IsRow (k : IntKind) (w : World) (a : Option Addr) (len cap : Nat) (zs : List Int) : Prop :=
  (a = none ∧ len = 0 ∧ cap = 0 ∧ zs = []) ∨
  ∃ x, a = some x ∧ len ≤ cap ∧ cap ≤ maxLen ∧ zs.length = cap ∧ (∀ i, i < zs.length → w.cell? (x.add i) = some (.int k (zs.getD i 0))) ∧ ∀ n ∈ zs, (Lit.int k n).wf = true

theorem nilCall (a : Option Addr) (w : World) : Calls Try.prog 3 #[.slice a 0 0] w fun e w' => e = .returned (.bool true) ∧ Below w.heap.size w w' :=
  Hx.calls_true (fun _ => (0, 0)) (swaps_nil a) (Hx.hsat_nil w _) rfl (Hx.own_none fun i o h => by simp at h) rfl

theorem walk (a0 : Option Addr) (len0 cap0 : Nat) (z0 : List Int) (w : World) (w0 : IsRow .i64 w a0 len0 cap0 z0) :
    Calls Try.prog 3 #[.slice a0 len0 cap0] w fun e w' => e = .returned (.bool true) ∧ Below w.heap.size w w' := by
  rcases w0 with ⟨rfl, rfl, rfl, rfl⟩ | ⟨x, rfl, hl, _, hz, hc, _⟩
  · exact nilCall none w
  · by_cases h0 : cap0 = 0
    · subst h0
      have : len0 = 0 := by omega
      subst this
      exact nilCall (some x) w
    · have hadd : ∀ i, x.spot = none → x.add i = ⟨x.block, x.off + i, none⟩ := by
        intro i hs
        obtain ⟨b, o, s⟩ := x
        simp only at hs; subst hs
        exact Hx.add_off b o i
      have hx0 : x.add 0 = x := by simp [Addr.add]
      have hc0 := hc 0 (by omega)
      rw [hx0] at hc0
      have hspot : x.spot = none := by
        unfold World.cell? at hc0
        split at hc0
        · split at hc0
          · simp at hc0
          · rename_i h; simpa using h
        · simp at hc0
      have hblk : x.block < w.heap.size := block_lt_of_cell hc0
      refine Hx.calls_true (fun _ => (x.block, x.off)) (swaps_fn (z0.take len0) len0 cap0 (by simp; omega)) (Hx.hsat_winI hblk ?_) rfl (Hx.own_none fun i o h => ?_) ?_
      · intro i n hi
        rw [List.getElem?_take] at hi
        split at hi
        · rename_i hlt
          have := hc i (by omega)
          rw [hadd i hspot] at this
          rw [this, List.getD_eq_getElem?_getD, hi]
          rfl
        · simp at hi
      · cases i with
        | zero => simp at h; subst h; rfl
        | succ i => simp at h
      · obtain ⟨b, o, s⟩ := x
        simp only at hspot; subst hspot
        simp [Hx.SV.trs, Hx.SV.tr]

set_option maxRecDepth 100000 in
theorem lifted (os : Os) (started : os.Started) (H : Type) (enc : TypeId × Value → H) :
    ReturnsInHanded {} Try.checked os 3 .any (Rows.arenaSwapsSpec.pre6 enc Try.prog Try.f3 Rows.arenaSwapsRow.domain false) (Rows.arenaSwapsSpec.post enc Try.prog Try.f3 false true false false) := by
  refine returnsInHanded_of_change (C := Try.checked) own started (by kernel_rfl) Try.func3
    (ChangeSpec.witness6 (enc := enc) (C := Try.checked) false ⟨#[], #[.slice none 0 0], []⟩ 8 (by kernel_rfl) (by kernel_rfl) (by kernel_rfl) (by kernel_rfl)) ?_
  intro W base args ds gs before hval0 hW hcnd _
  have hval : ∀ (j : Nat) t v, Try.f3.params[j]? = some t → args[j]? = some v → Value.okWide Try.prog W .any base t v := hval0
  have hW' := hW
  obtain ⟨p, q, hA0, hV, rfl, hfz, hnd⟩ := hW
  have hA : DataW.TrodAll enc Try.prog W 0 (fun _ => true) true Try.f3.params.toList args.toList ds p := hA0
  rw [Try.params3] at hA hval
  obtain ⟨v0, vs0, d0, ds0, p0, q0, hargs, rfl, rfl, h0, r0⟩ := trodAll_cons hA
  obtain ⟨rfl, rfl, rfl⟩ := trodAll_nil r0
  obtain rfl : args = #[v0] := by cases args; simp_all
  obtain ⟨rfl, rfl⟩ := trodVars_none hV
  obtain ⟨a0, len0, cap0, rfl⟩ := okWide_slice Try.underlying22 (hval 0 22 v0 rfl rfl)
  have k0 := h0
  have lt0 : ∀ x ∈ p0, x.block < W.heap.size := by obtain ⟨m, hm⟩ := k0; exact DataW.trod_lt m _ _ _ hm
  obtain ⟨z0, w0⟩ : ∃ zs, IsRow .i64 W a0 len0 cap0 zs := by
    obtain ⟨fuel, hf⟩ := h0
    rcases open_ints Try.underlying22 Try.underlying3 (by kernel_rfl) hf with ⟨hcs, _⟩ | ⟨x, l, c, zs, hcs, _, hl, hm, hz, _, hcell, hwz⟩
    · simp [Value.cells] at hcs
      obtain ⟨rfl, rfl, rfl⟩ := hcs
      exact ⟨[], .inl ⟨rfl, rfl, rfl, rfl⟩⟩
    · simp [Value.cells] at hcs
      obtain ⟨rfl, rfl, rfl⟩ := hcs
      exact ⟨zs, .inr ⟨_, rfl, hl, hm, by simpa using hz, hcell, hwz⟩⟩
  clear hA0 hval0
  refine (walk a0 len0 cap0 z0 W w0).mono fun e W' ⟨he, bel⟩ => ?_
  subst he
  exact ⟨_, rfl, _, _, _, [], _, [], hW', trodAll_mk1 (shut_bool Try.underlying4 _), (trodAll_cons_mk (Below.trod laidOut (by kernel_rfl) (of_decide_eq_true (by kernel_rfl)) k0 bel lt0) trodAll_mk0), rfl, bel.frame _, fun h => by cases h⟩

theorem over : Rows.arenaSwapsRow.holds Try.pinned (OpenSpec.ofChange Rows.arenaSwapsSpec) :=
  OpenClaim.holds_of_wide 3 Try.f3 rfl rfl rfl rfl rfl rfl rfl ⟨rfl, rfl, rfl, rfl, rfl⟩ rfl rfl rfl rfl rfl (by kernel_rfl) Try.func3 (by kernel_rfl)
    (of_decide_eq_true (by kernel_rfl)) (by unfold Func.isWrapper; first | (rw [if_pos (by decide +kernel)]; kernel_rfl) | (rw [if_neg (by decide +kernel)]; exact ⟨rfl, rfl⟩))
    (fun os started H enc _ => lifted os started H enc)

theorem proved : Rows.ArenaSwapsSaid := over
#print axioms proved
end Go.Proofs.Ytbmjhlgkddhhnaa.arenaSwaps
