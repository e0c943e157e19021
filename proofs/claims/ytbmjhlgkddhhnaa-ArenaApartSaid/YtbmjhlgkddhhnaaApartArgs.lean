/- What the frame of ArenaApart's row wants of the walks. -/
import Derived.Test.YtbmjhlgkddhhnaaApartWalk
import Derived.Test.YtbmjhlgkddhhnaaHyc
namespace Go.Proofs.Ytbmjhlgkddhhnaa.arenaApart
open Go Go.Hx

abbrev ks34 : List (Option IntKind) := [some .i64, some .i64, some .u64, some .u64, none, none]

theorem row_of (l : List SV) (h : okK ks34 l) : ∃ o : OpV, l = opRow (fun _ => o) 0 := by
  rcases l with _ | ⟨a, _ | ⟨b, _ | ⟨c, _ | ⟨d, _ | ⟨e, _ | ⟨f, _ | ⟨g, r⟩⟩⟩⟩⟩⟩⟩ <;> simp only [okK, and_false, false_and] at h
  obtain ⟨⟨n1, rfl, _⟩, ⟨n2, rfl, _⟩, ⟨n3, rfl, _⟩, ⟨n4, rfl, _⟩, ⟨b1, rfl⟩, ⟨b2, rfl⟩, _⟩ := h
  exact ⟨⟨n1, n2, n3, n4, b1, b2⟩, rfl⟩

theorem rows_of (o : Nat → List SV) (h : ∀ i, okK ks34 (o i)) : ∃ q : Nat → OpV, o = opRow q := by
  refine ⟨fun i => Classical.choose (row_of (o i) (h i)), funext fun i => ?_⟩
  exact Classical.choose_spec (row_of (o i) (h i))

theorem walk_nil (a : Option Addr) : Gives Try.prog 4 [.raw (.slice a 0 0)] [] (Is .tt []) := apart_nil a
theorem walk (o : Nat → List SV) (h : ∀ i, okK ks34 (o i)) (len cap : Nat) (_ : len ≤ maxLen) :
    ∃ L, Gives Try.prog 4 [.slice 0 0 len cap] [.obj (.rows len 6 o)] (Is .tt L) := by
  obtain ⟨q, rfl⟩ := rows_of o h
  exact ⟨_, apart_fn len cap q⟩
end Go.Proofs.Ytbmjhlgkddhhnaa.arenaApart
