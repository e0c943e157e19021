/- FindFinds: what is there is found, with its epoch, and what is not is not; all that is there is listed; in as many steps as there are topics, and three, at most, if nobody changes anything. -/
import Derived.Test.YtkkddjchkkaagaaGreatDoorFindsJoin
import Derived.ChangeSame

namespace Go.Proofs.YtkkddjchkkaagaaGreatDoor
open Go Go.Hx
set_option maxRecDepth 8000
theorem list_ext {a b : List Int} (h : a.length = b.length) (e : ∀ j, j < b.length → a.getD j 0 = b.getD j 0) : a = b := by
  apply List.ext_getElem h
  intro j h1 h2
  have := e j h2
  rw [List.getD_eq_getElem?_getD, List.getD_eq_getElem?_getD, List.getElem?_eq_getElem h1, List.getElem?_eq_getElem h2] at this
  exact this
section
variable {bb : Bool} {z : List Int} {T : Nat} {R k key : Int} {W1 all : List Int} {q : Option (List Int)} {n0 : Int} {ρ : Nat → Nat × Nat} {w : World} {I : Act → World → Prop}
/-- A round of the loop that stores. -/
theorem krnd (c : KC T R W1 all k) (hk : cRem 1 20 key = k) {i : Nat} {y : AQ} (b1 : i ≤ W1.length) (b2 : y.W.length = W1.length) (b3 : ∀ j, j < i → y.W.getD j 0 = W1.getD j 0) (b4 : 0 ≤ y.st) (b5 : y.st ≤ 30 + (i : Int))
    (back : ∀ y', i + 1 ≤ W1.length → y'.W.length = W1.length → (∀ j, j < i + 1 → y'.W.getD j 0 = W1.getD j 0) → 0 ≤ y'.st → y'.st ≤ 30 + ((i + 1 : Nat) : Int) → KJ (kp0 T R) bb z ρ w I 8 (k1T W1 (opL all) key (i + 1)) (kdH bb z T R y' W1 (opL all) [])) :
    KG (kp0 T R) bb z ρ w I 8 (k1T W1 (opL all) key i) (kdH bb z T R y W1 (opL all) []) := by
  have hl := c.d.hl
  have t8 := c.t8
  by_cases hlt : i < W1.length
  · exact ka1 b2 (by omega) c.d.bd b4 (by omega) hlt (back ⟨y.W.set i (W1.getD i 0), y.st + 1, 2, (i : Int), W1.getD i 0, true⟩ hlt (by simp only [List.length_set]; exact b2) (fun j hj => by
      dsimp only
      rw [set_getD]
      by_cases e : i = j
      · rw [if_pos ⟨e, by omega⟩, e]
      · rw [if_neg (fun x => e x.1)]; exact b3 j (by omega)) (by dsimp only; omega) (by dsimp only; omega))
  · have e : i = W1.length := by omega
    subst e
    exact kA_end c hk (list_ext b2 b3) b4 (by omega)
end
theorem kc_of {T : Nat} {R key : Int} {W1 all : List Int} (t1 : 1 ≤ T) (t8 : T ≤ 8) (r1 : 1 ≤ R) (r4 : R ≤ 4) (d : DK T (sfV T R) W1 all) (a8 : all.length ≤ 8) : KC T R W1 all (cRem 1 20 key) := by
  obtain ⟨a, b⟩ := cRemB 1 20 key (by decide) (by decide) (by decide) (by decide)
  exact ⟨t1, t8, r1, r4, d, a8, a, by omega⟩
set_option maxHeartbeats 8000000 in
theorem findFinds_fn (q0 q1 : Int) (N cap : Nat) (z : List Int) (hN : z.length = N) (g key : Int) : Gives Tryz.prog 5 [L2 q0 q1, .agg [.slice 0 0 N cap, .int .i64 g], .int .i64 key] [keE true z, pinE RTV] (Is .tt [keE true z, pinE RTV]) := by
  obtain ⟨T, t1, t8, eT, r1, r4⟩ := cfgF_cases q0 q1
  generalize hR : cAnd 3 q1 = R at r1 r4
  have hX := hXKl (kp0 T R)
  have hr := right_FR t1 t8 r1 r4
  have c := kc_of (key := key) t1 t8 r1 r4 (left_dk (z := z) t1 t8 r1 r4 (gBt g)) (left_len (gBt g))
  have hlW := c.d.hl
  have hl0 : (mkA (T : Int) 4 1 2 4 1 6 0 R).W.length = 11 + 10 * T := (dk_new (sf := sfV T R) t1 t8 r1 r4).hl
  have hy0 : (mkA (T : Int) 4 1 2 4 1 6 0 R).W.length = (leftV T R z (gBt g)).1.length := hl0.trans hlW.symm
  obtain ⟨hs0, hs1⟩ := mkA_st hr
  have hs0 : 0 ≤ (mkA (T : Int) 4 1 2 4 1 6 0 R).st := by omega
  have hs1 : (mkA (T : Int) 4 1 2 4 1 6 0 R).st ≤ 30 + ((0 : Nat) : Int) := by omega
  have t1' : 1 ≤ (T : Int) := by omega
  have t8' : (T : Int) ≤ 8 := by omega
  refine gives_x hX (fn := Tryz.f5) rfl rfl rfl rfl fun ρ w => ?_
  refine sxb hX [.l] [] 4000 rfl (by (simp [-List.getD_eq_getElem?_getD, -List.length_eq_zero_iff, conjP, eT, hR, hr, t1', t8', r1, r4, hN.symm, hl0])) ?_
  refine sxb hX [.l] [.F] 4000 rfl (by (simp [-List.getD_eq_getElem?_getD, -List.length_eq_zero_iff, conjP, addOP, eT, hR, hl0, hlW, Int.toNat_natCast])) ?_
  (simp only [eT, hR, Int.toNat_natCast]; refine ss_sub hX (T' := k1T (leftV T R z (gBt g)).1 (opL (leftV T R z (gBt g)).2) key 0) (H' := kdH true z T R ⟨(mkA (T : Int) 4 1 2 4 1 6 0 R).W, (mkA (T : Int) 4 1 2 4 1 6 0 R).st, 2, (mkA (T : Int) 4 1 2 4 1 6 0 R).wd, (mkA (T : Int) 4 1 2 4 1 6 0 R).vl, true⟩ (leftV T R z (gBt g)).1 (opL (leftV T R z (gBt g)).2) []) [0, 1, 4, 6, 5, 7, 8] rfl rfl rfl rfl ?tt ?hh ?ot ?ok ?jj; (case tt => exact clhK); (case hh => exact clhK); (case ot => exact clkK); (case ok => exact clkK); (case jj => refine ss_loop hX (fun x : Nat × AQ => k1T (leftV T R z (gBt g)).1 (opL (leftV T R z (gBt g)).2) key x.1) (fun x => kdH true z T R x.2 (leftV T R z (gBt g)).1 (opL (leftV T R z (gBt g)).2) []) (fun x => x.1 ≤ (leftV T R z (gBt g)).1.length ∧ x.2.W.length = (leftV T R z (gBt g)).1.length ∧ (∀ j, j < x.1 → x.2.W.getD j 0 = (leftV T R z (gBt g)).1.getD j 0) ∧ 0 ≤ x.2.st ∧ x.2.st ≤ 30 + (x.1 : Int)) (fun x => (leftV T R z (gBt g)).1.length - x.1) (0, ⟨(mkA (T : Int) 4 1 2 4 1 6 0 R).W, (mkA (T : Int) 4 1 2 4 1 6 0 R).st, 2, (mkA (T : Int) 4 1 2 4 1 6 0 R).wd, (mkA (T : Int) 4 1 2 4 1 6 0 R).vl, true⟩) ⟨Nat.zero_le _, hy0, fun j hj => absurd hj (Nat.not_lt_zero j), hs0, hs1⟩ ?_; rintro ⟨i, y⟩ ⟨b1, b2, b3, b4, b5⟩ I2 back; refine sxb hX [.r 8] [] 100 rfl trivial ?_; exact ss_sw hX (sw_ss hX (cs := []) (krnd c rfl b1 b2 b3 b4 b5 (fun y' a0 a1 a2 a3 a4 => back (i + 1, y') ⟨a0, a1, a2, a3, a4⟩ (by show (leftV T R z (gBt g)).1.length - (i + 1) < (leftV T R z (gBt g)).1.length - i; omega))))))
set_option maxHeartbeats 8000000 in
theorem findFinds_nil (q0 q1 : Int) (a : Option Addr) (g key : Int) : Gives Tryz.prog 5 [L2 q0 q1, .agg [.raw (.slice a 0 0), .int .i64 g], .int .i64 key] [keE false [], pinE RTV] (Is .tt [keE false [], pinE RTV]) := by
  obtain ⟨T, t1, t8, eT, r1, r4⟩ := cfgF_cases q0 q1
  generalize hR : cAnd 3 q1 = R at r1 r4
  have hX := hXKl (kp0 T R)
  have hr := right_FR t1 t8 r1 r4
  have c := kc_of (key := key) t1 t8 r1 r4 (dk_new t1 t8 r1 r4) (Nat.zero_le 8)
  have hlW := c.d.hl
  have hl0 : (mkA (T : Int) 4 1 2 4 1 6 0 R).W.length = 11 + 10 * T := (dk_new (sf := sfV T R) t1 t8 r1 r4).hl
  have hy0 : (mkA (T : Int) 4 1 2 4 1 6 0 R).W.length = (W0V T R).length := hl0.trans hlW.symm
  obtain ⟨hs0, hs1⟩ := mkA_st hr
  have hs0 : 0 ≤ (mkA (T : Int) 4 1 2 4 1 6 0 R).st := by omega
  have hs1 : (mkA (T : Int) 4 1 2 4 1 6 0 R).st ≤ 30 + ((0 : Nat) : Int) := by omega
  have t1' : 1 ≤ (T : Int) := by omega
  have t8' : (T : Int) ≤ 8 := by omega
  refine gives_x hX (fn := Tryz.f5) rfl rfl rfl rfl fun ρ w => ?_
  refine sxb hX [.l] [] 4000 rfl (by (simp [-List.getD_eq_getElem?_getD, -List.length_eq_zero_iff, conjP, eT, hR, hr, t1', t8', r1, r4, hl0])) ?_
  refine sxb hX [.l] [.F] 4000 rfl (by (simp [-List.getD_eq_getElem?_getD, -List.length_eq_zero_iff, conjP, addOP, eT, hR, hl0, Int.toNat_natCast] <;> (first | omega | ((repeat' (refine And.intro ?_ ?_)) <;> (first | omega | exact decide_eq_false (by omega) | exact decide_eq_true (by omega)))))) ?_
  (simp only [eT, hR, Int.toNat_natCast]; refine ss_sub hX (T' := k1T (W0V T R) (opL []) key 0) (H' := kdH false [] T R ⟨(mkA (T : Int) 4 1 2 4 1 6 0 R).W, (mkA (T : Int) 4 1 2 4 1 6 0 R).st, 2, (mkA (T : Int) 4 1 2 4 1 6 0 R).wd, (mkA (T : Int) 4 1 2 4 1 6 0 R).vl, true⟩ (W0V T R) (opL []) []) [0, 1, 4, 6, 5, 7, 60] rfl rfl rfl rfl ?tt ?hh ?ot ?ok ?jj; (case tt => exact clhK); (case hh => exact clhK); (case ot => exact clkK); (case ok => exact clkK); (case jj => refine ss_loop hX (fun x : Nat × AQ => k1T (W0V T R) (opL []) key x.1) (fun x => kdH false [] T R x.2 (W0V T R) (opL []) []) (fun x => x.1 ≤ (W0V T R).length ∧ x.2.W.length = (W0V T R).length ∧ (∀ j, j < x.1 → x.2.W.getD j 0 = (W0V T R).getD j 0) ∧ 0 ≤ x.2.st ∧ x.2.st ≤ 30 + (x.1 : Int)) (fun x => (W0V T R).length - x.1) (0, ⟨(mkA (T : Int) 4 1 2 4 1 6 0 R).W, (mkA (T : Int) 4 1 2 4 1 6 0 R).st, 2, (mkA (T : Int) 4 1 2 4 1 6 0 R).wd, (mkA (T : Int) 4 1 2 4 1 6 0 R).vl, true⟩) ⟨Nat.zero_le _, hy0, fun j hj => absurd hj (Nat.not_lt_zero j), hs0, hs1⟩ ?_; rintro ⟨i, y⟩ ⟨b1, b2, b3, b4, b5⟩ I2 back; refine sxb hX [.r 8] [] 100 rfl trivial ?_; exact ss_sw hX (sw_ss hX (cs := []) (krnd c rfl b1 b2 b3 b4 b5 (fun y' a0 a1 a2 a3 a4 => back (i + 1, y') ⟨a0, a1, a2, a3, a4⟩ (by show (W0V T R).length - (i + 1) < (W0V T R).length - i; omega))))))
end Go.Proofs.YtkkddjchkkaagaaGreatDoor

/- FindFinds: the arguments: a struct of a slice and a number. -/
namespace Go.Proofs.YtkkddjchkkaagaaGreatDoor
open Go Go.Hx Go.RowKit Go.ChangeShapes Go.WideShapes
set_option maxRecDepth 8000
theorem absK_gives {P : Program} {f : Nat} {args : List SV} {V : SV} {b : Nat} {v : Value} (hA : ∀ ρ ρ' : Nat → Nat × Nat, SV.trs ρ args = SV.trs ρ' args) (hk : ∀ A B : Nat → Bool, SV.okhs A args = SV.okhs B args) (hV : ∀ ρ ρ' : Nat → Nat × Nat, V.tr ρ = V.tr ρ') (hVk : ∀ A B : Nat → Bool, V.okh A = V.okh B)
    (h : Gives P f args [.absent, .obj (.pin b v)] (Is V [.absent, .obj (.pin b v)])) : Gives P f args [.obj (.pin b v)] (Is V [.obj (.pin b v)]) := by
  intro ρ w hS hok
  have g0 : ∀ (x : Nat) (ox : SO), ([.absent, .obj (.pin b v)] : List HE)[x]? = some (.obj ox) → x = 1 ∧ ox = .pin b v := fun x ox hx => by
    rcases x with _ | _ | x
    · simp at hx
    · simp at hx; exact ⟨rfl, hx.symm⟩
    · simp at hx
  have g1 : ∀ (x : Nat) (ox : SO), ([.obj (.pin b v)] : List HE)[x]? = some (.obj ox) → x = 0 ∧ ox = .pin b v := fun x ox hx => by
    rcases x with _ | x
    · simp at hx; exact ⟨rfl, hx.symm⟩
    · simp at hx
  have t0 : ∀ x, there ([.absent, .obj (.pin b v)] : List HE) x = true → x = 1 := fun x hx => by
    rcases x with _ | _ | x
    · simp [there, HE.there] at hx
    · rfl
    · simp [there] at hx
  have t1 : ∀ x, there ([.obj (.pin b v)] : List HE) x = true → x = 0 := fun x hx => by
    rcases x with _ | x
    · rfl
    · simp [there] at hx
  have fr0 : ∀ (ρ' : Nat → Nat × Nat) b', ¬ Own ρ' [.absent, .obj (.pin b v)] b' := fun ρ' b' ⟨x, o, hx, ho, _⟩ => by
    obtain ⟨_, rfl⟩ := g0 x o hx; simp [SO.owned] at ho
  have fr1 : ∀ (ρ' : Nat → Nat × Nat) b', ¬ Own ρ' [.obj (.pin b v)] b' := fun ρ' b' ⟨x, o, hx, ho, _⟩ => by
    obtain ⟨_, rfl⟩ := g1 x o hx; simp [SO.owned] at ho
  have hS' : HSat w (Own (fun x => ρ (x - 1)) [.absent, .obj (.pin b v)]) (fun x => ρ (x - 1)) [.absent, .obj (.pin b v)] w := by
    refine ⟨fun x o hx => ?_, fun x hx => ?_, fun x y ox oy hx hy _ => ?_, fun x o hx ho => ?_, Fr.refl _ _⟩
    · obtain ⟨rfl, rfl⟩ := g0 x o hx
      exact ⟨(hS.objs 0 _ rfl).1, rfl⟩
    · obtain rfl := t0 x hx
      exact hS.size 0 rfl
    · rw [(g0 x ox hx).1, (g0 y oy hy).1]
    · obtain ⟨_, rfl⟩ := g0 x o hx; simp [SO.owned] at ho
  have hc := h (fun x => ρ (x - 1)) w hS' (by rw [hk _ (there [.obj (.pin b v)])]; exact hok)
  rw [hA (fun x => ρ (x - 1)) ρ] at hc
  refine Calls.mono hc fun e w' he => ?_
  cases e with
  | returned VV =>
    obtain ⟨ρ', H', v', ⟨rfl, rfl⟩, h4, h5, h6, h7⟩ := he
    refine ⟨fun x => ρ' (x + 1), _, _, ⟨rfl, rfl⟩, h4.trans (hV _ _), by rw [hVk _ (there [.absent, .obj (.pin b v)])]; exact h5, ⟨fun x o hx => ?_, fun x hx => ?_, fun x y ox oy hx hy _ => ?_, fun x o hx ho => ?_, ⟨h6.fr.size, fun b' hb hn => h6.fr.same b' hb (fr0 _ _), h6.fr.io⟩⟩, fun x hx => ?_⟩
    · obtain ⟨rfl, rfl⟩ := g1 x o hx
      exact ⟨(h6.objs 1 _ rfl).1, rfl⟩
    · obtain rfl := t1 x hx
      exact h6.size 1 rfl
    · rw [(g1 x ox hx).1, (g1 y oy hy).1]
    · obtain ⟨_, rfl⟩ := g1 x o hx; simp [SO.owned] at ho
    · obtain rfl := t1 x hx
      exact ⟨(h7 1 rfl).1, rfl⟩
  | panicked c => exact he
  | outgrown => exact he

section
variable {H : Type} {enc : TypeId × Value → H} {P : Program} {w : World} {t : TypeId} {v : Value} {d : DataW H} {ps : List MemPlace}
/-- A struct of a slice of integers and an integer. -/
theorem arg_dir {e : TypeId} {f0 f1 : Field} (ht : P.underlying t = some (.struct #[f0, f1])) (hs : P.underlying f0.type = some (.slice e)) (he : P.underlying e = some (.int .i64)) (hc : P.cellsOf e = 1) (hi : P.underlying f1.type = some (.int .i64))
    (o0 : f0.offset = 0) (o1 : f1.offset = 1) (c0 : P.cellsOf f0.type = 1) (c1 : P.cellsOf f1.type = 1) (ct : P.cellsOf t = 2) (ha : ∃ cs, v = .agg cs) (h : DataW.Trod enc P w 0 (fun _ => true) true t v d ps) :
    ∃ a len cap g, v = .agg #[.slice a len cap, .int .i64 g] ∧ (Lit.int .i64 g).wf = true ∧ ArgInts w .i64 a len cap ∧ (0 < cap → ∃ b o n, a = some ⟨b, o, none⟩ ∧ w.cell? ⟨b, o, none⟩ = some (.int .i64 n)) := by
  obtain ⟨cs, rfl⟩ := ha
  obtain ⟨fuel, hf⟩ := h
  obtain ⟨y0, y1, n, _, hl, h0, h1⟩ := trod_struct2 ht hf
  have hl' : cs.toList.length = 2 := by rw [← ct]; exact hl
  obtain ⟨l⟩ := cs
  rcases l with _ | ⟨x0, _ | ⟨x1, _ | ⟨x2, r⟩⟩⟩ <;> simp only [List.length_cons, List.length_nil] at hl' <;> try omega
  rw [o0, c0] at h0
  rw [o1, c1] at h1
  have h0 : DataW.trod enc P w 0 (fun _ => true) true n f0.type [x0] = some y0 := h0
  have h1 : DataW.trod enc P w 0 (fun _ => true) true n f1.type [x1] = some y1 := h1
  obtain ⟨g, e1, _, hw⟩ := DataW.trod_int hi h1
  obtain rfl : x1 = .int .i64 g := by simpa using e1
  rcases open_ints hs he hc h0 with ⟨e0, _⟩ | ⟨a, len, cap, zs, e0, _⟩
  · have e0' : [x0] = [.slice none 0 0] := e0
    obtain rfl : x0 = .slice none 0 0 := by simpa using e0'
    exact ⟨none, 0, 0, g, rfl, hw, .inl ⟨rfl, rfl⟩, fun q => absurd q (by decide)⟩
  · have e0' : [x0] = [.slice (some a) len cap] := e0
    obtain rfl : x0 = .slice (some a) len cap := by simpa using e0'
    have T : DataW.Trod enc P w 0 (fun _ => true) true f0.type (.slice (some a) len cap) y0.1 y0.2 := ⟨n, h0⟩
    exact ⟨some a, len, cap, g, rfl, hw, arg_ints hs he hc T, arg_ints_first hs he hc T⟩
end
theorem calls_dir {P : Program} {f : Nat} {l0 : List SV} {g m : Int} {w : World} {a : Option Addr} {len cap : Nat} {v : Value} {ty : TypeId} {fr : Nat × Nat}
    (hp : w.heap[0]? = some (.cells #[v] ty fr)) (hv : ∃ t u, v = .iface t u) (hf : 0 < cap → ∃ b o n, a = some ⟨b, o, none⟩ ∧ w.cell? ⟨b, o, none⟩ = some (.int .i64 n)) (h : ArgInts w .i64 a len cap) (hl : SV.okhs (fun _ => false) l0 = true)
    (g0 : Gives P f [.agg l0, .agg [.raw (.slice a 0 0), .int .i64 g], .int .i64 m] [.absent, pinE v] (Is .tt [.absent, pinE v]))
    (g1 : ∀ (z : List Int), z.length = len → len ≤ maxLen → ∃ L, Gives P f [.agg l0, .agg [.slice 0 0 len cap, .int .i64 g], .int .i64 m] [.obj (.winI .i64 z), pinE v] (Is .tt L)) :
    Calls P f #[.agg (SV.trs (fun _ => (0, 0)) l0).toArray, .agg #[.slice a len cap, .int .i64 g], .int .i64 m] w fun e w' => e = .returned (.bool true) ∧ Below w.heap.size w w' := by
  have hc0 := pin_cell hp
  have hcl : ∀ ρ ρ' : Nat → Nat × Nat, SV.trs ρ l0 = SV.trs ρ' l0 := fun ρ ρ' => trs_congr (A := fun _ => false) (fun x hx => by simp at hx) l0 hl
  have hok : ∀ A : Nat → Bool, SV.okhs A l0 = true := fun A => okhs_none _ _ hl
  rcases h with ⟨rfl, rfl⟩ | ⟨b, o, z, rfl, hl2, h0, hm, hb, hz, hwz, hc⟩
  · have g0' := absK_gives (fun ρ ρ' => by simp only [SV.trs, SV.tr, hcl ρ ρ']) (fun A B => by simp only [SV.okhs, SV.okh, hok A, hok B]) (fun _ _ => rfl) (fun _ _ => rfl) g0
    refine calls_true (fun _ => (0, 0)) g0' (hsat_pin hc0) ?_ (own_one rfl) ?_
    · simp [SV.okhs, SV.okh, hok]
    · rfl
  · obtain ⟨L, hg⟩ := g1 z hz (by omega)
    have hne : b ≠ 0 := by
      obtain ⟨b', o', n, e, hu⟩ := hf h0
      simp at e
      obtain ⟨rfl, rfl⟩ := e
      exact pin_ne hp hv hu (fun t x => by simp)
    refine calls_true (fun h => if h = 0 then (b, o) else (0, 0)) hg (hsat_two hc0 rfl rfl (hsat_winI hb hc) hne) ?_ (own_two rfl) ?_
    · simp [SV.okhs, SV.okh, hok, there, HE.there]
    · simp only [SV.trs, SV.tr]
      rw [hcl (fun h => if h = 0 then (b, o) else (0, 0)) (fun _ => (0, 0))]
      rfl
end Go.Proofs.YtkkddjchkkaagaaGreatDoor
namespace Go.Proofs.YtkkddjchkkaagaaGreatDoor.findFinds
open Go Go.Hx
theorem walk_nil (l : List SV) (h : okK [some .i64, some .i64] l) (a : Option Addr) (g m : Int) : Gives Tryz.prog 5 [.agg l, .agg [.raw (.slice a 0 0), .int .i64 g], .int .i64 m] [.absent, pinE RTV] (Is .tt [.absent, pinE RTV]) := by
  rcases l with _ | ⟨x, _ | ⟨y, _ | ⟨z, r⟩⟩⟩ <;> simp only [okK, and_false] at h
  obtain ⟨⟨n0, rfl, _⟩, ⟨n1, rfl, _⟩, _⟩ := h
  exact findFinds_nil n0 n1 a g m
theorem walk (l : List SV) (h : okK [some .i64, some .i64] l) (g m : Int) (len cap : Nat) (z : List Int) (hz : z.length = len) : ∃ L, Gives Tryz.prog 5 [.agg l, .agg [.slice 0 0 len cap, .int .i64 g], .int .i64 m] [.obj (.winI .i64 z), pinE RTV] (Is .tt L) := by
  rcases l with _ | ⟨x, _ | ⟨y, _ | ⟨w, r⟩⟩⟩ <;> simp only [okK, and_false] at h
  obtain ⟨⟨n0, rfl, _⟩, ⟨n1, rfl, _⟩, _⟩ := h
  exact ⟨_, findFinds_fn n0 n1 len cap z hz g m⟩
end Go.Proofs.YtkkddjchkkaagaaGreatDoor.findFinds
