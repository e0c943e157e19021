/- Who holds the topic; how long a run that goes on alone may take. -/
import Derived.Test.YtmghcelohnlceaaGreatDoorFailsLaw
namespace Go.Proofs.YtmghcelohnlceaaGreatDoor
open Go Go.Hx
set_option maxRecDepth 8000
section
variable {R : Int} {s : WS} {W : List Int} {st : Int}
end
/-! How long it may take alone. -/
section
variable {R : Int} {s : WS} {W : List Int} {st : Int}
end
section
variable {R : Int} {s : RS} {W : List Int} {st : Int}
end
end Go.Proofs.YtmghcelohnlceaaGreatDoor

/- How runs end. -/
namespace Go.Proofs.YtmghcelohnlceaaGreatDoor
open Go Go.Hx
set_option maxRecDepth 8000
section
variable {R : Int} {s : WS} {W : List Int} {st : Int}
/-- How a write ends. -/
theorem wEnd (ok : WOk R s) : ((wStep R s W st).k ≠ 0 → (wStep R s W st).nx = 0) ∧ ((wStep R s W st).k = 1 → (wStep R s W st).c = 22 ∨ (wStep R s W st).c = 17 ∨ (wStep R s W st).c = 16 ∧ geW (W.getD 7 0) = 2147483647) := by
  obtain ⟨ep, nx, sn, fl, tm, i, hd, l⟩ := s
  have x0 : 1 ≤ nx := ok.nx0
  have x1 : nx ≤ 4 := ok.nx1
  have hn : nx = 1 ∨ nx = 2 ∨ nx = 3 ∨ nx = 4 := by omega
  unfold wStep
  dsimp only
  rcases hn with rfl | rfl | rfl | rfl
  · rw [if_pos rfl]
    by_cases g : liW (W.getD 7 0) = true ∧ epW (W.getD 7 0) = ep
    · rw [if_neg (fun q => q g)]
      by_cases g3 : geW (W.getD 7 0) = 2147483647
      · rw [if_pos g3]; exact ⟨fun _ => rfl, fun _ => .inr (.inr ⟨rfl, g3⟩)⟩
      · rw [if_neg g3]
        by_cases g4 : buW (W.getD 7 0) = true
        · rw [if_pos g4]
          by_cases g5 : fl + 1 = R
          · rw [if_pos g5]; exact ⟨fun _ => rfl, fun _ => .inr (.inl rfl)⟩
          · rw [if_neg g5]; exact ⟨fun q => absurd rfl q, fun q => by simp at q⟩
        · rw [if_neg g4]; exact ⟨fun q => absurd rfl q, fun q => by simp at q⟩
    · rw [if_pos g]; exact ⟨fun _ => rfl, fun _ => .inl rfl⟩
  · rw [if_neg (by decide), if_pos rfl]
    by_cases g : W.getD 7 0 = sn
    · rw [if_pos g]; exact ⟨fun q => absurd rfl q, fun q => by simp at q⟩
    · rw [if_neg g]
      by_cases g5 : fl + 1 = R
      · rw [if_pos g5]; exact ⟨fun _ => rfl, fun _ => .inr (.inl rfl)⟩
      · rw [if_neg g5]; exact ⟨fun q => absurd rfl q, fun q => by simp at q⟩
  · rw [if_neg (by decide), if_neg (by decide), if_pos rfl]; exact ⟨fun q => absurd rfl q, fun q => by simp at q⟩
  · rw [if_neg (by decide), if_neg (by decide), if_neg (by decide)]; exact ⟨fun _ => rfl, fun q => by simp at q⟩
end
section
variable {R : Int} {s : RS} {W : List Int} {st : Int}
theorem rEnd (ok : ROk R s) : ((rStep R s W st).k = 1 ∨ (rStep R s W st).k = 2 ∨ (rStep R s W st).k = 5) → (rStep R s W st).nx = 0 := by
  obtain ⟨ep, nx, sn, fl, tm, o⟩ := s
  have hn : nx = 1 ∨ nx = 3 ∨ nx = 4 := ok.nxc
  unfold rStep
  dsimp only
  rcases hn with rfl | rfl | rfl
  · rw [if_pos rfl]
    by_cases g : liW (W.getD 7 0) = true ∧ epW (W.getD 7 0) = ep
    · rw [if_neg (fun q => q g)]
      by_cases g3 : geW (W.getD 7 0) = 0
      · rw [if_pos g3]; exact fun _ => rfl
      · rw [if_neg g3]; intro q; simp at q
    · rw [if_pos g]; exact fun _ => rfl
  · rw [if_neg (by decide), if_pos rfl]; intro q; simp at q
  · rw [if_neg (by decide), if_neg (by decide)]
    by_cases g : stillB sn (W.getD 7 0) = true
    · rw [if_pos g]; exact fun _ => rfl
    · rw [if_neg g]
      by_cases g5 : fl + 1 = R
      · rw [if_pos g5]; exact fun _ => rfl
      · rw [if_neg g5]; intro q; simp at q
end
end Go.Proofs.YtmghcelohnlceaaGreatDoor
