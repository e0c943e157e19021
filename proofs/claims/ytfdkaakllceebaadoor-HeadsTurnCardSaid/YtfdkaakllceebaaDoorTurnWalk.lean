/- HeadsTurn: a head that was turned, up to 300 times, is never what it was. -/
import Derived.Test.YtfdkaakllceebaaDoorTell
namespace Go.Proofs.YtfdkaakllceebaaDoor
open Go Go.Hx
set_option maxRecDepth 8000
abbrev q3O (q0 q1 q2 : Int) : HE := .obj (.ints .i64 [q0, q1, q2] 50)
def huT (w x : Int) (i : Int) : List (Nat × SV) := [(0, .int .u64 w), (3, .ptr 1 0), (5, .tt), (6, .int .u64 x), (7, .int .i64 i)]
/-- How often. -/
def huN (q0 : Int) : Int := IntKind.i64.wrap (1 + (IntKind.i64.wrap (q0.tmod 300 + 300)).tmod 300)
theorem huN_bd (q0 : Int) : 1 ≤ huN q0 ∧ huN q0 ≤ 300 := by
  have := cModB 300 q0 (by decide) (by decide)
  unfold cMod at this
  unfold huN
  rw [wi64 (by omega) (by omega)]
  omega
theorem turn_bd (w b : Int) : 0 ≤ turnV w b ∧ turnV w b < 18446744073709551616 ∧ turnV w b / 4294967296 = (w / 4294967296 + 1) % 4294967296 ∧ turnV w b % 4294967296 = b % 4294967296 := by
  unfold turnV; omega
set_option maxHeartbeats 8000000 in
theorem headsTurn_fn (w q0 q1 q2 : Int) (w0 : 0 ≤ w) (w1 : w < 18446744073709551616) :
    Gives Tryd.prog 5 [.int .u64 w, .agg [.int .i64 q0, .int .i64 q1, .int .i64 q2]] [pinE RTV] (Is .tt [pinE RTV]) := by
  obtain ⟨n0, n1⟩ := huN_bd q0
  refine gives_x hXHt (fn := Tryd.f5) rfl rfl rfl rfl fun ρ W0 => ?_
  refine sxb hXHt [.l] [] 400 rfl (by first | exact trivial | simp [conjP]) ?_
  refine ss_sub hXHt (T' := huT w w 0) (H' := [pinE RTV, q3O q0 q1 q2]) [0, 1] rfl rfl rfl rfl (by (repeat' (first | exact rfl | exact trivial | exact sim_refl _ | refine And.intro ?_ ?_))) (by (repeat' (first | exact rfl | exact trivial | exact sim_refl _ | refine And.intro ?_ ?_))) (by (repeat' (first | exact rfl | exact trivial | exact sim_refl _ | refine And.intro ?_ ?_))) (by (repeat' (first | exact rfl | exact trivial | exact sim_refl _ | refine And.intro ?_ ?_))) ?_
  refine ss_loop hXHt (fun x : Int × Nat => huT w x.1 x.2) (fun _ => [pinE RTV, q3O q0 q1 q2]) (fun x => (x.2 : Int) ≤ 300 ∧ 0 ≤ x.1 ∧ x.1 < 18446744073709551616 ∧ x.1 / 4294967296 = (w / 4294967296 + x.2) % 4294967296) (fun x => 400 - x.2) (w, 0) ⟨by simp, w0, w1, by simp only; omega⟩ ?_
  rintro ⟨x, i⟩ ⟨i1, i2, i3, i4⟩ I back
  dsimp only at i1 i2 i3 i4
  dsimp only
  by_cases hi : (i : Int) < huN q0
  · have hi' : (i : Int) < IntKind.i64.wrap (1 + (IntKind.i64.wrap (q0.tmod 300 + 300)).tmod 300) := hi
    have ha := and1 i
    have hw : IntKind.i64.wrap (1 + ibits .and .i64 i 1) = 1 + ibits .and .i64 i 1 := wi64 (by omega) (by omega)
    have hne : ∀ b, ¬ turnV x b = w := fun b e => by
      have := (turn_bd x b).2.2.1
      rw [e, i4] at this
      omega
    have hbk : ∀ b, turnV x b % 4294967296 = b % 4294967296 := fun b => (turn_bd x b).2.2.2
    have hb0 : ∀ b, 0 ≤ turnV x b := fun b => (turn_bd x b).1
    have hb1 : ∀ b, turnV x b < 18446744073709551616 := fun b => (turn_bd x b).2.1
    have hb2 : ∀ b, turnV x b / 4294967296 = (w / 4294967296 + ((i + 1 : Nat) : Int)) % 4294967296 := fun b => by rw [(turn_bd x b).2.2.1, i4]; omega
    have ht : (1 + ibits .and .i64 i 1).toNat < 3 := by omega
    refine sx hXHt [] 4000 rfl (by (simp [-List.getD_eq_getElem?_getD, -List.length_eq_zero_iff, conjP] <;> (first | omega | ((repeat' (refine And.intro ?_ ?_)) <;> (first | omega | exact decide_eq_false (by omega) | exact decide_eq_true (by omega)))))) ?_
    refine sx hXHt [.T] 4000 rfl (by (simp [-List.getD_eq_getElem?_getD, -List.length_eq_zero_iff, conjP, hi', List.getD_cons_zero, hw, ht, i2, i3] <;> (first | omega | ((repeat' (refine And.intro ?_ ?_)) <;> (first | omega | exact decide_eq_false (by omega) | exact decide_eq_true (by omega)))))) ?_
    refine sx hXHt [.K, .F] 4000 rfl (by (simp [-List.getD_eq_getElem?_getD, -List.length_eq_zero_iff, conjP, getH, HE.so, hw, ht, hne, hb0, hb1] <;> (first | omega | ((repeat' (refine And.intro ?_ ?_)) <;> (first | omega | exact decide_eq_false (by omega) | exact decide_eq_true (by omega)))))) ?_
    refine sx hXHt [.F] 4000 rfl (by (simp [-List.getD_eq_getElem?_getD, -List.length_eq_zero_iff, conjP, addOP, hw, hbk, and32i] <;> (first | omega | ((repeat' (refine And.intro ?_ ?_)) <;> (first | omega | exact decide_eq_false (by omega) | exact decide_eq_true (by omega)))))) ?_
    (refine back (_, i + 1) ⟨?q1, hb0 _, hb1 _, hb2 _⟩ ?q2 _ _ _ (sub_of [0, 1] rfl rfl rfl rfl ⟨by (repeat' (first | exact rfl | exact trivial | exact sim_refl _ | refine And.intro ?_ ?_)), by (repeat' (first | exact rfl | exact trivial | exact sim_refl _ | refine And.intro ?_ ?_)), by (repeat' (first | exact rfl | exact trivial | exact sim_refl _ | refine And.intro ?_ ?_)), by (repeat' (first | exact rfl | exact trivial | exact sim_refl _ | refine And.intro ?_ ?_)), ⟨rfl, wi64 (by omega) (by omega)⟩, trivial⟩ (by (repeat' (first | exact rfl | exact trivial | exact sim_refl _ | refine And.intro ?_ ?_))) (by (repeat' (first | exact rfl | exact trivial | exact sim_refl _ | refine And.intro ?_ ?_))) (by (repeat' (first | exact rfl | exact trivial | exact sim_refl _ | refine And.intro ?_ ?_)))); (case q1 => dsimp only; omega); (case q2 => dsimp only; omega))
  · have hi' : ¬ (i : Int) < IntKind.i64.wrap (1 + (IntKind.i64.wrap (q0.tmod 300 + 300)).tmod 300) := hi
    refine sx hXHt [] 4000 rfl (by (simp [-List.getD_eq_getElem?_getD, -List.length_eq_zero_iff, conjP] <;> (first | omega | ((repeat' (refine And.intro ?_ ?_)) <;> (first | omega | exact decide_eq_false (by omega) | exact decide_eq_true (by omega)))))) ?_
    refine sx hXHt [.F] 4000 rfl (by (simp [-List.getD_eq_getElem?_getD, -List.length_eq_zero_iff, conjP, addOP, hi', List.getD_cons_zero] <;> (first | omega | ((repeat' (refine And.intro ?_ ?_)) <;> (first | omega | exact decide_eq_false (by omega) | exact decide_eq_true (by omega)))))) ?_
    (exact ss_end hXHt [0] rfl rfl trivial rfl rfl rfl rfl (by (repeat' (first | exact rfl | exact trivial | exact sim_refl _ | refine And.intro ?_ ?_))) (by (repeat' (first | exact rfl | exact trivial | exact sim_refl _ | refine And.intro ?_ ?_))) (by (repeat' (first | exact rfl | exact trivial | exact sim_refl _ | refine And.intro ?_ ?_))) (by (repeat' (first | exact rfl | exact trivial | exact sim_refl _ | refine And.intro ?_ ?_))))
end Go.Proofs.YtfdkaakllceebaaDoor
namespace Go.Proofs.YtfdkaakllceebaaDoor.headsTurn
open Go Go.Hx
theorem three {l : List SV} (hl : okK [some .i64, some .i64, some .i64] l) : ∃ l0 l1 l2, l = [.int .i64 l0, .int .i64 l1, .int .i64 l2] := by
  rcases l with _ | ⟨a, _ | ⟨b, _ | ⟨c, _ | ⟨d, r⟩⟩⟩⟩ <;> simp only [okK, and_false] at hl
  obtain ⟨⟨n0, rfl, _⟩, ⟨n1, rfl, _⟩, ⟨n2, rfl, _⟩, _⟩ := hl
  exact ⟨_, _, _, rfl⟩
theorem walk (w : Int) (hw : (Lit.int .u64 w).wf = true) (l : List SV) (hl : okK [some .i64, some .i64, some .i64] l) :
    Gives Tryd.prog 5 [.int .u64 w, .agg l] [pinE RTV] (Is .tt [pinE RTV]) := by
  obtain ⟨l0, l1, l2, rfl⟩ := three hl
  have h1 := wfU hw
  exact headsTurn_fn w l0 l1 l2 h1.1 h1.2
end Go.Proofs.YtfdkaakllceebaaDoor.headsTurn
