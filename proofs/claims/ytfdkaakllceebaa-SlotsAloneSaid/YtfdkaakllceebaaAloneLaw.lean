/- A claim that goes on alone: the plain law. -/
import Derived.Test.YtfdkaakllceebaaSlotTab
namespace Go.Proofs.Ytfdkaakllceebaa
open Go Go.Hx
set_option maxRecDepth 8000

/-- Is slot i not free, by bits? -/
def occI (b i : Int) : Bool := ibits .and .i64 (b.fdiv (2 ^ (min (IntKind.u64.wrap i).toNat IntKind.i64.bits))) 1 == 1
/-- An arena, and which slot is the first free one among those that were laid. -/
structure AS where
  (W : List Int) (st kd wd vl : Int) (ch : Bool) (fr : Int)
def al0 (S : Int) : AS := ⟨(mkA 1 4 S 4 4 2 6 2 2).W, (mkA 1 4 S 4 4 2 6 2 2).st, 2, (mkA 1 4 S 4 4 2 6 2 2).wd, (mkA 1 4 S 4 4 2 6 2 2).vl, true, -1⟩
def alN (b S : Int) : Nat → AS
  | 0 => al0 S
  | k + 1 => if occI b (S - 1 - k) = true then ⟨(alN b S k).W.set (5 + (S - 1 - k)).toNat (markV (ibits .and .i64 (S - 1 - k) 3) 1), (alN b S k).st + 1, 2, 5 + (S - 1 - k), markV (ibits .and .i64 (S - 1 - k) 3) 1, true, (alN b S k).fr⟩
    else ⟨(alN b S k).W, (alN b S k).st, (alN b S k).kd, (alN b S k).wd, (alN b S k).vl, (alN b S k).ch, S - 1 - k⟩
theorem alN_yes {b S : Int} {k : Nat} (h : occI b (S - 1 - k) = true) : alN b S (k + 1) = ⟨(alN b S k).W.set (5 + (S - 1 - k)).toNat (markV (ibits .and .i64 (S - 1 - k) 3) 1), (alN b S k).st + 1, 2, 5 + (S - 1 - k), markV (ibits .and .i64 (S - 1 - k) 3) 1, true, (alN b S k).fr⟩ := by rw [alN, if_pos h]
theorem alN_no {b S : Int} {k : Nat} (h : occI b (S - 1 - k) = false) : alN b S (k + 1) = ⟨(alN b S k).W, (alN b S k).st, (alN b S k).kd, (alN b S k).wd, (alN b S k).vl, (alN b S k).ch, S - 1 - k⟩ := by rw [alN, if_neg (by rw [h]; decide)]
theorem mark_bd (a b : Int) : 0 ≤ markV a b ∧ markV a b < 18446744073709551616 := by
  have h1 := u32_bd (a + 1); have h2 := u32_bd b
  unfold markV; omega
theorem mark_one (a : Int) : 1 ≤ markV a 1 := by
  have h1 := u32_bd (a + 1)
  have : u32 1 = 1 := by decide
  unfold markV; omega
structure AlI (b S : Int) (k : Nat) (x : AS) : Prop where
  len : x.W.length = (39 + S).toNat
  st0 : 0 ≤ x.st
  st1 : x.st ≤ 30 + k
  occ : ∀ j : Int, S - k ≤ j → j < S → (occI b j = true → 1 ≤ x.W.getD (5 + j).toNat 0) ∧ (occI b j = false → x.W.getD (5 + j).toNat 0 = 0)
  rest : ∀ j : Int, 0 ≤ j → j < S - k → x.W.getD (5 + j).toNat 0 = 0
  fr : (x.fr = -1 ∧ ∀ j : Int, S - k ≤ j → j < S → occI b j = true) ∨ (S - k ≤ x.fr ∧ x.fr < S ∧ occI b x.fr = false ∧ ∀ j : Int, S - k ≤ j → j < x.fr → occI b j = true)
theorem al_inv {b S : Int} (hr : rightB 1 4 S 4 4 2 6 2 2 = true) : ∀ k : Nat, (k : Int) ≤ S → AlI b S k (alN b S k)
  | 0, _ => by
    have hr' := right_iff.1 hr
    have hst := mkA_st hr
    refine ⟨?_, by show 0 ≤ (mkA 1 4 S 4 4 2 6 2 2).st; omega, by show (mkA 1 4 S 4 4 2 6 2 2).st ≤ _; omega, fun j h1 h2 => by omega, fun j h1 h2 => mkA_zero hr (.inr ⟨by omega, by omega⟩), .inl ⟨rfl, fun j h1 h2 => by omega⟩⟩
    show (mkA 1 4 S 4 4 2 6 2 2).W.length = _
    rw [mkA_len]; unfold sizeV; congr 1; omega
  | k + 1, hk => by
    have hr' := right_iff.1 hr
    have ih := al_inv hr (b := b) k (by omega)
    have hlen := ih.len
    have h0 := ih.st0
    have h1 := ih.st1
    cases ho : occI b (S - 1 - k) with
    | true =>
      rw [alN_yes ho]
      have hm := mark_one (ibits .and .i64 (S - 1 - k) 3)
      refine ⟨by simpa using hlen, by show 0 ≤ (alN b S k).st + 1; omega, by show (alN b S k).st + 1 ≤ _; omega, fun j g1 g2 => ?_, fun j g1 g2 => ?_, ?_⟩
      · show (_ → 1 ≤ ((alN b S k).W.set _ _).getD _ 0) ∧ (_ → ((alN b S k).W.set _ _).getD _ 0 = 0)
        by_cases e : j = S - 1 - k
        · have e1 : ((alN b S k).W.set (5 + (S - 1 - (k : Int))).toNat (markV (ibits .and .i64 (S - 1 - k) 3) 1)).getD (5 + j).toNat 0 = markV (ibits .and .i64 (S - 1 - k) 3) 1 := by
            rw [set_getD, if_pos ⟨by rw [e], by omega⟩]
          rw [e1]
          exact ⟨fun _ => hm, fun h => (by rw [e, ho] at h; cases h)⟩
        · have e1 : ((alN b S k).W.set (5 + (S - 1 - (k : Int))).toNat (markV (ibits .and .i64 (S - 1 - k) 3) 1)).getD (5 + j).toNat 0 = (alN b S k).W.getD (5 + j).toNat 0 := by
            rw [set_getD, if_neg (by omega)]
          rw [e1]
          exact ih.occ j (by omega) g2
      · show ((alN b S k).W.set _ _).getD _ 0 = 0
        rw [set_getD, if_neg (by omega)]
        exact ih.rest j g1 (by omega)
      · show ((alN b S k).fr = -1 ∧ _) ∨ (_ ≤ (alN b S k).fr ∧ (alN b S k).fr < S ∧ occI b (alN b S k).fr = false ∧ _)
        have hx : ∀ j : Int, S - (k + 1 : Nat) ≤ j → j < S - k → occI b j = true := fun j g1 g2 => by
          have : j = S - 1 - k := by omega
          rw [this]; exact ho
        rcases ih.fr with ⟨q1, q2⟩ | ⟨q1, q2, q3, q4⟩
        · refine .inl ⟨q1, fun j g1 g2 => ?_⟩
          rcases Int.lt_or_le j (S - k) with g | g
          · exact hx j g1 g
          · exact q2 j g g2
        · refine .inr ⟨by omega, q2, q3, fun j g1 g2 => ?_⟩
          rcases Int.lt_or_le j (S - k) with g | g
          · exact hx j g1 g
          · exact q4 j g g2
    | false =>
      rw [alN_no ho]
      refine ⟨hlen, h0, by show (alN b S k).st ≤ _; omega, fun j g1 g2 => ?_, fun j g1 g2 => ih.rest j g1 (by omega), .inr ⟨by show _ ≤ S - 1 - (k : Int); omega, by show S - 1 - (k : Int) < S; omega, ho, fun j g1 g2 => by have : j < S - 1 - (k : Int) := g2; omega⟩⟩
      by_cases e : j = S - 1 - k
      · exact ⟨fun h => (by rw [e, ho] at h; cases h), fun _ => ih.rest j (by omega) (by omega)⟩
      · exact ih.occ j (by omega) g2
end Go.Proofs.Ytfdkaakllceebaa
