/- What the frame of FindEntries' row wants of the walk. -/
import Derived.Test.YtkkddjchkkaagaaEntries
namespace Go.Proofs.Ytkkddjchkkaagaa.findEntries
open Go Go.Hx
theorem walk (key : Int) (_ : (Lit.int .i64 key).wf = true) (w : Int) (hw : (Lit.int .u64 w).wf = true) (l : List SV) (hl : okK [some .i64, some .i64] l) :
    Gives Try.prog 3 [.int .i64 key, .int .u64 w, .agg l] [] (Is .tt []) := by
  rcases l with _ | ⟨a, _ | ⟨b, _ | ⟨c, r⟩⟩⟩ <;> simp only [okK, and_false, false_and] at hl
  obtain ⟨⟨q0, rfl, _⟩, ⟨q1, rfl, _⟩, _⟩ := hl
  obtain ⟨h0, h1⟩ := wfU hw
  exact entries_fn key w q0 q1 h0 h1
end Go.Proofs.Ytkkddjchkkaagaa.findEntries
