/- PoolApart: shapes; is it in the beginning of a row? -/
import Derived.Test.YtmghcelohnlceaaApartTurn
namespace Go.Proofs.Ytmghcelohnlceaa
open Go Go.Hx
set_option maxRecDepth 8000
def hasTw (m : Nat) (n : Int) : Nat → List (Nat × SV)
  | i => [(0, .sbuf 0 1 0 m), (1, .int .i64 n), (5, .int .i64 (i : Int))]
theorem hasw_fn (l : List Int) (m : Nat) (n : Int) (hm : m ≤ l.length) (hl : l.length < 1000000) : Gives Try.prog 12 [.sbuf 0 1 0 m, .int .i64 n] [IB l] (Is (.bool (hasL (l.take m) n)) [IB l]) := by
  refine gives_x hXS0 (fn := Try.f12) rfl rfl rfl rfl fun ρ w0 => ?_
  refine sx hXS0 [] 100 rfl trivial ?_
  refine ss_sub hXS0 (T' := hasTw m n 0) (H' := [IB l]) [0] rfl rfl rfl rfl (by (repeat' (first | exact rfl | exact trivial | exact sim_refl _ | refine And.intro ?_ ?_))) (by (repeat' (first | exact rfl | exact trivial | exact sim_refl _ | refine And.intro ?_ ?_))) (by (repeat' (first | exact rfl | exact trivial | exact sim_refl _ | refine And.intro ?_ ?_))) (by (repeat' (first | exact rfl | exact trivial | exact sim_refl _ | refine And.intro ?_ ?_))) ?_
  refine ss_loop hXS0 (hasTw m n) (fun _ => [IB l]) (fun i => i ≤ m ∧ hasL (l.take m) n = hasL ((l.take m).drop i) n) (fun i => m - i) _ ⟨Nat.zero_le _, rfl⟩ ?_
  rintro i ⟨hi, hd⟩ I back
  have hX : (l.take m).length = m := by simp; omega
  have hgt : i < m → (l.take m).getD i 0 = l.getD i 0 := fun h => by
    rw [List.getD_eq_getElem?_getD, List.getElem?_take, if_pos h, List.getD_eq_getElem?_getD]
  have hil : i < m → i < l.length := fun h => by omega
  by_cases h1 : i < m
  · have h2 := hil h1
    have h3 : (i : Int) < (m : Int) := by omega
    have hg := hgt h1
    have q := hasL_drop (l := l.take m) (i := i) (by omega) n
    rw [hg] at q
    by_cases hz : l.getD i 0 = n
    · rw [if_pos hz] at q
      refine sx hXS0 [] 400 rfl (by (simp [-List.getD_eq_getElem?_getD, -List.length_eq_zero_iff, conjP] <;> (first | omega | ((repeat' (refine And.intro ?_ ?_)) <;> (first | omega | exact decide_eq_false (by omega) | exact decide_eq_true (by omega)))))) ?_
      refine sx hXS0 [.T] 400 rfl (by (simp [-List.getD_eq_getElem?_getD, -List.length_eq_zero_iff, conjP, h2, h3, cellOff] <;> (first | omega | ((repeat' (refine And.intro ?_ ?_)) <;> (first | omega | exact decide_eq_false (by omega) | exact decide_eq_true (by omega)))))) ?_
      refine sx hXS0 [.T] 400 rfl (by (simp [-List.getD_eq_getElem?_getD, -List.length_eq_zero_iff, conjP, addOP, hz, cellOff] <;> (first | omega | ((repeat' (refine And.intro ?_ ?_)) <;> (first | omega | exact decide_eq_false (by omega) | exact decide_eq_true (by omega)))))) ?_
      (refine ss_end hXS0 [0] rfl rfl trivial rfl rfl rfl rfl ?_ (by (repeat' (first | exact rfl | exact trivial | exact sim_refl _ | refine And.intro ?_ ?_))) (by (repeat' (first | exact rfl | exact trivial | exact sim_refl _ | refine And.intro ?_ ?_))) (by (repeat' (first | exact rfl | exact trivial | exact sim_refl _ | refine And.intro ?_ ?_))); rw [hd, q]; exact rfl)
    · rw [if_neg hz] at q
      refine sx hXS0 [] 400 rfl (by (simp [-List.getD_eq_getElem?_getD, -List.length_eq_zero_iff, conjP] <;> (first | omega | ((repeat' (refine And.intro ?_ ?_)) <;> (first | omega | exact decide_eq_false (by omega) | exact decide_eq_true (by omega)))))) ?_
      refine sx hXS0 [.T] 400 rfl (by (simp [-List.getD_eq_getElem?_getD, -List.length_eq_zero_iff, conjP, h2, h3, cellOff] <;> (first | omega | ((repeat' (refine And.intro ?_ ?_)) <;> (first | omega | exact decide_eq_false (by omega) | exact decide_eq_true (by omega)))))) ?_
      refine sx hXS0 [.F] 400 rfl (by (simp [-List.getD_eq_getElem?_getD, -List.length_eq_zero_iff, conjP, addOP, hz, cellOff] <;> (first | omega | ((repeat' (refine And.intro ?_ ?_)) <;> (first | omega | exact decide_eq_false (by omega) | exact decide_eq_true (by omega)))))) ?_
      (refine back (i + 1) ⟨by omega, by rw [hd, q]⟩ (by omega) _ _ _ (sub_of [0] rfl rfl rfl rfl ⟨by (repeat' (first | exact rfl | exact trivial | exact sim_refl _ | refine And.intro ?_ ?_)), by (repeat' (first | exact rfl | exact trivial | exact sim_refl _ | refine And.intro ?_ ?_)), ⟨rfl, wi64 (by omega) (by omega)⟩, trivial⟩ (by (repeat' (first | exact rfl | exact trivial | exact sim_refl _ | refine And.intro ?_ ?_))) (by (repeat' (first | exact rfl | exact trivial | exact sim_refl _ | refine And.intro ?_ ?_))) (by (repeat' (first | exact rfl | exact trivial | exact sim_refl _ | refine And.intro ?_ ?_)))))
  · have h3 : ¬ (i : Int) < (m : Int) := by omega
    refine sx hXS0 [] 400 rfl (by (simp [-List.getD_eq_getElem?_getD, -List.length_eq_zero_iff, conjP] <;> (first | omega | ((repeat' (refine And.intro ?_ ?_)) <;> (first | omega | exact decide_eq_false (by omega) | exact decide_eq_true (by omega)))))) ?_
    refine sx hXS0 [.F] 400 rfl (by (simp [-List.getD_eq_getElem?_getD, -List.length_eq_zero_iff, conjP, addOP, h3] <;> (first | omega | ((repeat' (refine And.intro ?_ ?_)) <;> (first | omega | exact decide_eq_false (by omega) | exact decide_eq_true (by omega)))))) ?_
    (refine ss_end hXS0 [0] rfl rfl trivial rfl rfl rfl rfl ?_ (by (repeat' (first | exact rfl | exact trivial | exact sim_refl _ | refine And.intro ?_ ?_))) (by (repeat' (first | exact rfl | exact trivial | exact sim_refl _ | refine And.intro ?_ ?_))) (by (repeat' (first | exact rfl | exact trivial | exact sim_refl _ | refine And.intro ?_ ?_))); rw [hd, List.drop_eq_nil_of_le (by omega)]; exact rfl)
def hasS2 : Hx.Spec := fun args H => match args with
  | [.sbuf h 1 0 m, .int .i64 n] => match getH H h with
    | some (.buf .i64 L 1 3) => some ([m ≤ L.length, L.length < 1000000], .bool (hasL (L.take m) n), H)
    | _ => none
  | _ => none
theorem hasS2_ok {args : List SV} {H : List HE} {ob : List Prop} {V : SV} {L : List HE} (hs : hasS2 args H = some (ob, V, L)) (ho : AllP ob) : Gives Try.prog 12 args H (Is V L) := by
  unfold hasS2 at hs
  split at hs
  · rename_i _ h m n
    split at hs
    · rename_i _ X hg
      simp only [Option.some.injEq, Prod.mk.injEq] at hs
      obtain ⟨rfl, rfl, rfl⟩ := hs
      have o1 := ho _ (List.mem_cons_self ..)
      have o2 := ho _ (List.mem_cons_of_mem _ (List.mem_cons_self ..))
      have := frame1 (N := []) (H := H) (h0 := h) ⟨_, hTE⟩ (hasw_fn X m n o1 o2) rfl rfl rfl hg rfl
      simp only [List.map_nil, List.append_nil] at this
      have e : SO.ren (nm [h] H) (SO.buf .i64 X 1 3) = SO.buf .i64 X 1 3 := rfl
      rw [e, set_self hg] at this
      exact this
    · simp at hs
  · simp at hs
/-- Behind the loop's head. -/
def dnLp : List KI → List KI
  | [] => []
  | .lp _ :: k => k
  | _ :: k => dnLp k
abbrev kpO : HE := .obj (.cells [.ptr 6 0, .ptr 9 0, .ptr 12 0, .ptr 15 0] 36)
def spH (n : Nat) (o : Nat → ActP) (A B : Int) (x : SP) (k : Nat → Pk) (p : Nat → VV) (G : List Int) : List HE :=
  [.obj (.rows n 3 (actRow o)), cfO A B, WO x.W, AOx 2 x.W x.st x.kd x.wd x.vl x.ch, kpO, gvP1 G,
    cqO 6 7 8 (k 0) (p 0), slE (k 0).own .i64 3, phE A B 8 (k 0).ph,
    cqO 9 10 11 (k 1) (p 1), slE (k 1).own .i64 3, phE A B 11 (k 1).ph,
    cqO 12 13 14 (k 2) (p 2), slE (k 2).own .i64 3, phE A B 14 (k 2).ph,
    cqO 15 16 17 (k 3) (p 3), slE (k 3).own .i64 3, phE A B 17 (k 3).ph]
def ckH (n : Nat) (o : Nat → ActP) (A B : Int) (x : SP) (c0 c1 c2 c3 : Pk) (p : Nat → VV) (G : List Int) (e : HE) : List HE :=
  [.obj (.rows n 3 (actRow o)), cfO A B, WO x.W, AOx 2 x.W x.st x.kd x.wd x.vl x.ch, kpO, gvP1 G,
    cqO 6 7 8 c0 (p 0), slE c0.own .i64 3, phE A B 8 c0.ph,
    cqO 9 10 11 c1 (p 1), slE c1.own .i64 3, phE A B 11 c1.ph,
    cqO 12 13 14 c2 (p 2), slE c2.own .i64 3, phE A B 14 c2.ph,
    cqO 15 16 17 c3 (p 3), slE c3.own .i64 3, phE A B 17 c3.ph, e]
def spT (sv : SV) (i : Nat) : List (Nat × SV) := [(1, sv), (5, .tt), (6, .ptr 1 0), (7, .ptr 3 0), (9, .slice 4 0 4 4), (10, .slice 5 0 4 4), (11, .int .i64 (i : Int))]
/-- The row that is put together. -/
def allV (a : Option (List Int)) (h : Nat) : SV := match a with | none => .slice h 0 0 0 | some l => .sbuf h 1 0 l.length
def allE (a : Option (List Int)) : HE := match a with | none => .obj (.ints .i64 [] 3) | some l => .obj (.buf .i64 l 1 3)
def ckT (sv : SV) (i : Nat) (v : SV) : List (Nat × SV) := [(1, sv), (5, .tt), (6, .ptr 1 0), (7, .ptr 3 0), (9, .slice 4 0 4 4), (10, .slice 5 0 4 4), (11, .int .i64 (i : Int)), (18, v)]
def ckTj (sv : SV) (i : Nat) (v : SV) (j : Nat) : List (Nat × SV) := [(1, sv), (5, .tt), (6, .ptr 1 0), (7, .ptr 3 0), (9, .slice 4 0 4 4), (10, .slice 5 0 4 4), (11, .int .i64 (i : Int)), (18, v), (19, .int .i64 (j : Int))]
def ckTq (sv : SV) (i : Nat) (v : SV) (j : Nat) : List (Nat × SV) := [(1, sv), (5, .tt), (6, .ptr 1 0), (7, .ptr 3 0), (9, .slice 4 0 4 4), (10, .slice 5 0 4 4), (11, .int .i64 (i : Int)), (18, v), (20, .int .i64 (j : Int))]
structure AS where
  x : SP
  k : Nat → Pk
  p : Nat → VV
  G : List Int
def InvB (A B : Int) (i : Nat) (s : AS) : Prop := (0 ≤ s.x.st ∧ s.x.st ≤ 30 + (i : Int)) ∧ (s.G.length = 4 ∧ ∀ m, m < 4 → s.G.getD m 0 = gb (s.k m).ph) ∧ ∃ L, InvQ A B i s.x.W s.k L
/-- What is put together up to a client. -/
def seg (c : Pk) : List Int := lst c.own ++ c.ph.giv
def aQ (Fr : List Int) (c0 c1 c2 c3 : Pk) : Nat → List Int
  | 0 => Fr
  | 1 => Fr ++ seg c0
  | 2 => Fr ++ seg c0 ++ seg c1
  | 3 => Fr ++ seg c0 ++ seg c1 ++ seg c2
  | _ + 4 => Fr ++ seg c0 ++ seg c1 ++ seg c2 ++ seg c3
theorem aQ_all {A B : Int} {L : Int → List Int} {k : Nat → Pk} : aQ (frL (L 0) (L 1) (A + B).toNat) (k 0) (k 1) (k 2) (k 3) 4 = allQ A B L k := rfl
theorem giv_gb {A B : Int} {i : Nat} {W : List Int} {k : Nat → Pk} {L : Int → List Int} (h : InvQ A B i W k L) {m : Nat} (hm : m < 4) : (gb (k m).ph = 0 ∧ (k m).ph.giv = []) ∨ (0 < gb (k m).ph ∧ gb (k m).ph ≤ 20 ∧ (k m).ph.giv = [gb (k m).ph]) := by
  have hp := h.ph m hm
  have h1 := h.a1
  have h3 := h.b1
  cases e : (k m).ph with
  | g1 b s => rw [e] at hp; have hp : 1 ≤ b ∧ b ≤ A + B := hp; exact .inr ⟨by show 0 < b; omega, by show b ≤ 20; omega, rfl⟩
  | g2 b s => rw [e] at hp; have hp : 1 ≤ b ∧ b ≤ A + B := hp.1; exact .inr ⟨by show 0 < b; omega, by show b ≤ 20; omega, rfl⟩
  | g3 b s => rw [e] at hp; have hp : 1 ≤ b ∧ b ≤ A + B := hp.1; exact .inr ⟨by show 0 < b; omega, by show b ≤ 20; omega, rfl⟩
  | _ => exact .inl ⟨rfl, rfl⟩
end Go.Proofs.Ytmghcelohnlceaa
