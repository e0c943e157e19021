/- Whatever a client does -/
import Derived.Test.YtmghcelohnlceaaApartA
import Derived.Test.YtmghcelohnlceaaApartB
import Derived.Test.YtmghcelohnlceaaApartC
import Derived.Test.YtmghcelohnlceaaApartD
import Derived.Test.YtmghcelohnlceaaApartE
namespace Go.Proofs.Ytmghcelohnlceaa
open Go Go.Hx
set_option maxRecDepth 8000
section
variable {n cap : Nat} {G : List Int} {o : Nat → ActP} {A B : Int} {i mi : Nat} {k : Nat → Pk} {L : Int → List Int} {ρ : Nat → Nat × Nat} {w : World} {I J0 : Act → World → Prop} {W : List Int} {st kd wd vl : Int} {ch : Bool} {p : VV} {own : Option (List Int)} {b1 b3 : Bool}
/-- Whatever a client does: its turn. -/
theorem ap_turn (h : TurnH A B G n i mi k L W st) : ∃ b1 b3 : Bool, ∀ (cap : Nat) (ρ : Nat → Nat × Nat) (w : World) (I J0 : Act → World → Prop) (kd wd vl : Int) (ch : Bool) (p : VV), JP A B b1 b3 n cap i mi o k ρ w J0 G ⟨W, st, kd, wd, vl, ch⟩ (k mi) p → GP A B b1 b3 n cap i mi o ρ w I J0 G ⟨W, st, kd, wd, vl, ch⟩ (k mi) p := by
  rcases hc : k mi with ⟨own, ph⟩
  cases ph with
  | idle =>
    by_cases hg : (o i).give = true ∧ 0 < (lst own).length
    · exact ⟨true, true, fun cap ρ w I J0 kd wd vl ch p J => ap_idg h hc hg.1 hg.2 J⟩
    · have hng : (o i).give = false ∨ (lst own).length = 0 := by
        cases hv : (o i).give with
        | false => exact .inl rfl
        | true => exact .inr (Nat.eq_zero_of_not_pos fun q => hg ⟨hv, q⟩)
      by_cases hcl : classV A B (W.getD (3 + (ibits .and .i64 (o i).which 1)).toNat 0 % 4294967296) = (ibits .and .i64 (o i).which 1)
      · exact ⟨true, true, fun cap ρ w I J0 kd wd vl ch p J => ap_idty h hc hng hcl J⟩
      · exact ⟨false, true, fun cap ρ w I J0 kd wd vl ch p J => ap_idtn h hc hng hcl J⟩
  | t1 c s b f =>
    by_cases hcl : classV A B (W.getD (3 + c).toNat 0 % 4294967296) = c
    · exact ⟨true, true, fun cap ρ w I J0 kd wd vl ch p J => ap_t1y h hc hcl J⟩
    · exact ⟨false, true, fun cap ρ w I J0 kd wd vl ch p J => ap_t1n h hc hcl J⟩
  | t2 c s b f => exact ⟨true, true, fun cap ρ w I J0 kd wd vl ch p J => ap_t2 h hc J⟩
  | t3 c s b f =>
    by_cases hsw : W.getD (3 + c).toNat 0 = s
    · exact ⟨true, true, fun cap ρ w I J0 kd wd vl ch p J => ap_t3y h hc hsw J⟩
    · exact ⟨true, false, fun cap ρ w I J0 kd wd vl ch p J => ap_t3n h hc hsw J⟩
  | g1 b s => exact ⟨true, true, fun cap ρ w I J0 kd wd vl ch p J => ap_g1 h hc J⟩
  | g2 b s => exact ⟨true, true, fun cap ρ w I J0 kd wd vl ch p J => ap_g2 h hc J⟩
  | g3 b s =>
    by_cases hsw : W.getD (3 + classV A B b).toNat 0 = s
    · exact ⟨true, true, fun cap ρ w I J0 kd wd vl ch p J => ap_g3y h hc hsw J⟩
    · exact ⟨true, false, fun cap ρ w I J0 kd wd vl ch p J => ap_g3n h hc hsw J⟩
end
end Go.Proofs.Ytmghcelohnlceaa
