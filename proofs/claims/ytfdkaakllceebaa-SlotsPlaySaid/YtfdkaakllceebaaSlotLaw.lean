/- However claims and releases are interleaved, no two clients have one slot: the plain law. -/
import Derived.Test.YtfdkaakllceebaaSlotTab
namespace Go.Proofs.Ytfdkaakllceebaa
open Go Go.Hx
set_option maxRecDepth 8000

structure ActV where
  (who which : Int) (back : Bool)
structure Cl where
  (own : Option (List Int)) (take : Option Int) (tb gb : Bool)
structure SA where
  (W : List Int) (st kd wd vl : Int) (ch : Bool) (c0 c1 c2 c3 : Cl)
def SA.cl (x : SA) : Nat → Cl
  | 0 => x.c0
  | 1 => x.c1
  | 2 => x.c2
  | _ => x.c3
def SA.setc (x : SA) (m : Nat) (c : Cl) : SA :=
  match m with
  | 0 => ⟨x.W, x.st, x.kd, x.wd, x.vl, x.ch, c, x.c1, x.c2, x.c3⟩
  | 1 => ⟨x.W, x.st, x.kd, x.wd, x.vl, x.ch, x.c0, c, x.c2, x.c3⟩
  | 2 => ⟨x.W, x.st, x.kd, x.wd, x.vl, x.ch, x.c0, x.c1, c, x.c3⟩
  | _ => ⟨x.W, x.st, x.kd, x.wd, x.vl, x.ch, x.c0, x.c1, x.c2, c⟩
def SA.ar (x : SA) (W : List Int) (st kd wd vl : Int) (ch : Bool) : SA := ⟨W, st, kd, wd, vl, ch, x.c0, x.c1, x.c2, x.c3⟩
def SA.sw (x : SA) (i o n : Int) : SA := x.ar (swW x.W i o n) (x.st + 1) 3 i (if x.W.getD i.toNat 0 = o then n else x.W.getD i.toNat 0) (decide (x.W.getD i.toNat 0 = o))
def SA.sto (x : SA) (i v : Int) : SA := x.ar (x.W.set i.toNat v) (x.st + 1) 2 i v true
theorem cl_setc {x : SA} {m k : Nat} {c : Cl} (hm : m < 4) (hk : k < 4) : (x.setc m c).cl k = if k = m then c else x.cl k := by
  rcases m with _ | _ | _ | _ | m <;> rcases k with _ | _ | _ | _ | k <;> first | rfl | omega
theorem W_setc {x : SA} {m : Nat} {c : Cl} : (x.setc m c).W = x.W ∧ (x.setc m c).st = x.st := by
  rcases m with _ | _ | _ | m <;> exact ⟨rfl, rfl⟩
theorem cl_ar {x : SA} {W : List Int} {st kd wd vl : Int} {ch : Bool} {k : Nat} : (x.ar W st kd wd vl ch).cl k = x.cl k := by
  rcases k with _ | _ | _ | k <;> rfl
def noneC : Cl := ⟨none, none, false, false⟩
def sa0 (S : Int) : SA := ⟨(mkA 1 4 S 4 4 2 6 2 2).W, (mkA 1 4 S 4 4 2 6 2 2).st, 2, (mkA 1 4 S 4 4 2 6 2 2).wd, (mkA 1 4 S 4 4 2 6 2 2).vl, true, noneC, noneC, noneC, noneC⟩

/-- Slot j is free, and nobody's; or one client's, and says so. -/
def SlotOk (x : SA) (j : Int) : Prop :=
  (x.W.getD (5 + j).toNat 0 = 0 ∧ ∀ m, m < 4 → j ∉ lst (x.cl m).own) ∨
  ∃ m : Nat, m < 4 ∧ x.W.getD (5 + j).toNat 0 = ((m : Int) + 1) * 4294967296 ∧ ∀ k : Nat, k < 4 → (j ∈ lst (x.cl k).own ↔ k = m)
structure InvA (S : Int) (i : Nat) (x : SA) : Prop where
  len : x.W.length = (39 + S).toNat
  st0 : 0 ≤ x.st
  st1 : x.st ≤ 30 + i
  tk : ∀ m a, m < 4 → (x.cl m).take = some a → 0 ≤ a ∧ a < S
  nd : ∀ m, m < 4 → (lst (x.cl m).own).Nodup
  rg : ∀ m, m < 4 → ∀ j ∈ lst (x.cl m).own, 0 ≤ j ∧ j < S
  ln : ∀ m, m < 4 → (lst (x.cl m).own).length ≤ i
  sl : ∀ j, 0 ≤ j → j < S → SlotOk x j

theorem inv0 {S : Int} (hr : rightB 1 4 S 4 4 2 6 2 2 = true) : InvA S 0 (sa0 S) := by
  have hr' := right_iff.1 hr
  have hst := mkA_st hr
  have hz : ∀ m, lst ((sa0 S).cl m).own = [] := by intro m; rcases m with _ | _ | _ | m <;> rfl
  have ht : ∀ m, ((sa0 S).cl m).take = none := by intro m; rcases m with _ | _ | _ | m <;> rfl
  refine ⟨?_, by show 0 ≤ (mkA 1 4 S 4 4 2 6 2 2).st; omega, by show (mkA 1 4 S 4 4 2 6 2 2).st ≤ _; omega, fun m a _ h => by rw [ht m] at h; simp at h, fun m _ => by rw [hz]; exact List.nodup_nil, fun m _ j hj => by rw [hz] at hj; simp at hj, fun m _ => by rw [hz]; simp, fun j h0 h1 => .inl ⟨?_, fun m _ => by rw [hz]; simp⟩⟩
  · show (mkA 1 4 S 4 4 2 6 2 2).W.length = _
    rw [mkA_len]; unfold sizeV; congr 1; omega
  · exact mkA_zero hr (.inr ⟨by omega, by omega⟩)

/-- A round of client m: its own row and its claim are others; one slot's word may be. -/
theorem inv_step {S : Int} {i : Nat} {x : SA} (hI : InvA S i x) {m : Nat} (hm : m < 4) {c : Cl} {W : List Int} {kd wd vl : Int} {ch : Bool} {st : Int} (hl : W.length = x.W.length) (hst : 0 ≤ st) (hst' : st ≤ x.st + 1)
    (htk : ∀ a, c.take = some a → 0 ≤ a ∧ a < S) (hnd : (lst c.own).Nodup) (hrg : ∀ j ∈ lst c.own, 0 ≤ j ∧ j < S) (hln : (lst c.own).length ≤ i + 1)
    (hsl : ∀ j, 0 ≤ j → j < S → SlotOk ((x.ar W st kd wd vl ch).setc m c) j) : InvA S (i + 1) ((x.ar W st kd wd vl ch).setc m c) := by
  have hcl : ∀ k, k < 4 → ((x.ar W st kd wd vl ch).setc m c).cl k = if k = m then c else x.cl k := fun k hk => by rw [cl_setc hm hk, cl_ar]
  obtain ⟨e1, e2⟩ := W_setc (x := x.ar W st kd wd vl ch) (m := m) (c := c)
  refine ⟨by rw [e1]; show W.length = _; rw [hl, hI.len], by rw [e2]; exact hst, by rw [e2]; have := hI.st1; show st ≤ _; omega, ?_, ?_, ?_, ?_, hsl⟩
  · intro k a hk h
    rw [hcl k hk] at h
    split at h
    · exact htk a h
    · exact hI.tk k a hk h
  · intro k hk
    rw [hcl k hk]; split
    · exact hnd
    · exact hI.nd k hk
  · intro k hk
    rw [hcl k hk]; split
    · exact hrg
    · exact hI.rg k hk
  · intro k hk
    rw [hcl k hk]; split
    · exact hln
    · have := hI.ln k hk; omega

/-- Nothing is changed but the claim. -/
theorem inv_keep {S : Int} {i : Nat} {x : SA} (hI : InvA S i x) {m : Nat} (hm : m < 4) {c : Cl} (hown : c.own = (x.cl m).own) (htk : ∀ a, c.take = some a → 0 ≤ a ∧ a < S) {kd wd vl : Int} {ch : Bool} {st : Int} (hst : st = x.st + 1) {W' : List Int} (hW' : W' = x.W) :
    InvA S (i + 1) ((x.ar W' st kd wd vl ch).setc m c) := by
  subst hW'
  have hcl : ∀ k, k < 4 → ((x.ar x.W st kd wd vl ch).setc m c).cl k = if k = m then c else x.cl k := fun k hk => by rw [cl_setc hm hk, cl_ar]
  have ho : ∀ k, k < 4 → (((x.ar x.W st kd wd vl ch).setc m c).cl k).own = (x.cl k).own := by
    intro k hk; rw [hcl k hk]; split
    · rename_i e; rw [e, hown]
    · rfl
  have h0 := hI.st0
  refine inv_step hI hm rfl (by omega) (by omega) htk (by rw [hown]; exact hI.nd m hm) (by rw [hown]; exact hI.rg m hm) (by rw [hown]; have := hI.ln m hm; omega) fun j h0 h1 => ?_
  have e1 := (W_setc (x := x.ar x.W st kd wd vl ch) (m := m) (c := c)).1
  rcases hI.sl j h0 h1 with ⟨q1, q2⟩ | ⟨n, hn, q1, q2⟩
  · exact .inl ⟨by rw [e1]; exact q1, fun k hk => by rw [ho k hk]; exact q2 k hk⟩
  · exact .inr ⟨n, hn, by rw [e1]; exact q1, fun k hk => by rw [ho k hk]; exact q2 k hk⟩

/-- A claim has got slot a. -/
theorem inv_win {S : Int} {i : Nat} {x : SA} (hS : 1 ≤ S ∧ S ≤ 8) (hI : InvA S i x) {m : Nat} (hm : m < 4) {a : Int} (h0 : 0 ≤ a) (h1 : a < S) (hz : x.W.getD (5 + a).toNat 0 = 0) {c : Cl} (hown : lst c.own = lst (x.cl m).own ++ [a]) (htk : c.take = none)
    {kd wd vl : Int} {ch : Bool} {st : Int} (hst : st = x.st + 1) {W' : List Int} (hW' : W' = x.W.set (5 + a).toNat (((m : Int) + 1) * 4294967296)) :
    InvA S (i + 1) ((x.ar W' st kd wd vl ch).setc m c) := by
  subst hW'
  have hcl : ∀ k, k < 4 → ((x.ar (x.W.set (5 + a).toNat (((m : Int) + 1) * 4294967296)) st kd wd vl ch).setc m c).cl k = if k = m then c else x.cl k := fun k hk => by rw [cl_setc hm hk, cl_ar]
  have hfree : ∀ k, k < 4 → a ∉ lst (x.cl k).own := by
    rcases hI.sl a h0 h1 with ⟨_, q2⟩ | ⟨n, hn, q1, _⟩
    · exact q2
    · rw [hz] at q1; omega
  have hs0 := hI.st0
  have hlen := hI.len
  refine inv_step hI hm (by simp) (by omega) (by omega) (fun a h => by rw [htk] at h; simp at h) ?_ ?_ ?_ fun j g0 g1 => ?_
  · rw [hown, List.nodup_append]
    refine ⟨hI.nd m hm, by simp, ?_⟩
    intro p hp q hq
    simp at hq; subst hq
    intro e; subst e
    exact hfree m hm hp
  · intro j hj
    rw [hown] at hj
    simp at hj
    rcases hj with hj | rfl
    · exact hI.rg m hm j hj
    · exact ⟨h0, h1⟩
  · rw [hown]; have := hI.ln m hm; simp; omega
  · have e1 := (W_setc (x := x.ar (x.W.set (5 + a).toNat (((m : Int) + 1) * 4294967296)) st kd wd vl ch) (m := m) (c := c)).1
    have e2 : (x.ar (x.W.set (5 + a).toNat (((m : Int) + 1) * 4294967296)) st kd wd vl ch).W = x.W.set (5 + a).toNat (((m : Int) + 1) * 4294967296) := rfl
    by_cases hj : j = a
    · subst hj
      refine .inr ⟨m, hm, ?_, fun k hk => ?_⟩
      · rw [e1, e2, set_getD, if_pos ⟨rfl, by omega⟩]
      · rw [hcl k hk]
        by_cases hkm : k = m
        · simp [hkm, hown]
        · simp only [hkm, iff_false]; exact hfree k hk
    · have hw : (x.W.set (5 + a).toNat (((m : Int) + 1) * 4294967296)).getD (5 + j).toNat 0 = x.W.getD (5 + j).toNat 0 := by
        rw [set_getD, if_neg (by omega)]
      have hm2 : ∀ k, k < 4 → (j ∈ lst (((x.ar (x.W.set (5 + a).toNat (((m : Int) + 1) * 4294967296)) st kd wd vl ch).setc m c).cl k).own ↔ j ∈ lst (x.cl k).own) := by
        intro k hk
        rw [hcl k hk]
        by_cases hkm : k = m
        · subst hkm; simp [hown, hj]
        · rw [if_neg hkm]
      rcases hI.sl j g0 g1 with ⟨q1, q2⟩ | ⟨n, hn, q1, q2⟩
      · exact .inl ⟨by rw [e1, e2, hw]; exact q1, fun k hk => by rw [hm2 k hk]; exact q2 k hk⟩
      · exact .inr ⟨n, hn, by rw [e1, e2, hw]; exact q1, fun k hk => by rw [hm2 k hk]; exact q2 k hk⟩

/-- A slot is given back. -/
theorem inv_back {S : Int} {i : Nat} {x : SA} (hS : 1 ≤ S ∧ S ≤ 8) (hI : InvA S i x) {m : Nat} (hm : m < 4) {d : Nat} (hd : d < (lst (x.cl m).own).length) {c : Cl} (hown : lst c.own = (lst (x.cl m).own).take d ++ (lst (x.cl m).own).drop (d + 1)) (htk : c.take = none)
    {b : Int} (hb : b = (lst (x.cl m).own).getD d 0) {kd wd vl : Int} {ch : Bool} {st : Int} (hst : st = x.st + 1) {W' : List Int} (hW' : W' = x.W.set (5 + b).toNat 0) :
    InvA S (i + 1) ((x.ar W' st kd wd vl ch).setc m c) := by
  subst hW'
  have hcl : ∀ k, k < 4 → ((x.ar (x.W.set (5 + b).toNat 0) st kd wd vl ch).setc m c).cl k = if k = m then c else x.cl k := fun k hk => by rw [cl_setc hm hk, cl_ar]
  have hnd := hI.nd m hm
  have hrg := hI.rg m hm
  have hln := hI.ln m hm
  have hs0 := hI.st0
  have hlen := hI.len
  generalize hl : lst (x.cl m).own = l at hnd hrg hd hown hb hln
  have hsplit : l = l.take d ++ b :: l.drop (d + 1) := by
    rw [hb, List.getD_eq_getElem?_getD, List.getElem?_eq_getElem hd, Option.getD_some, ← List.drop_eq_getElem_cons hd, List.take_append_drop]
  have hbm : b ∈ l := by rw [hsplit]; simp
  have hnd' := hnd
  rw [hsplit, List.nodup_append] at hnd'
  obtain ⟨n1, n2, n3⟩ := hnd'
  rw [List.nodup_cons] at n2
  have hbn : b ∉ l.take d ++ l.drop (d + 1) := by
    simp only [List.mem_append, not_or]
    exact ⟨fun h => n3 b h b (by simp) rfl, n2.1⟩
  have hsub : ∀ j, j ∈ l.take d ++ l.drop (d + 1) → j ∈ l := fun j hj => by
    simp only [List.mem_append] at hj
    rcases hj with hj | hj
    · exact List.mem_of_mem_take hj
    · exact List.mem_of_mem_drop hj
  have hrb := hrg b hbm
  have hmem : ∀ j, j ≠ b → (j ∈ l.take d ++ l.drop (d + 1) ↔ j ∈ l) := fun j hj => ⟨hsub j, fun h => by
    rw [hsplit] at h
    simp only [List.mem_append, List.mem_cons] at h ⊢
    rcases h with h | h | h
    · exact .inl h
    · exact (hj h).elim
    · exact .inr h⟩
  refine inv_step hI hm (by simp) (by omega) (by omega) (fun a h => by rw [htk] at h; simp at h) ?_ ?_ ?_ fun j g0 g1 => ?_
  · rw [hown, List.nodup_append]
    exact ⟨n1, n2.2, fun p hp q hq => n3 p hp q (by simp [hq])⟩
  · intro j hj; rw [hown] at hj; exact hrg j (hsub j hj)
  · rw [hown]; simp; omega
  · have e1 := (W_setc (x := x.ar (x.W.set (5 + b).toNat 0) st kd wd vl ch) (m := m) (c := c)).1
    have e2 : (x.ar (x.W.set (5 + b).toNat 0) st kd wd vl ch).W = x.W.set (5 + b).toNat 0 := rfl
    by_cases hj : j = b
    · subst hj
      refine .inl ⟨?_, fun k hk => ?_⟩
      · rw [e1, e2, set_getD, if_pos ⟨rfl, by omega⟩]
      · rw [hcl k hk]
        by_cases hkm : k = m
        · rw [if_pos hkm, hown]; exact hbn
        · rw [if_neg hkm]
          rcases hI.sl j g0 g1 with ⟨_, q2⟩ | ⟨n, hn, q1, q2⟩
          · exact q2 k hk
          · intro h
            have h1 := (q2 k hk).1 h
            have h2 := (q2 m hm).1 (by rw [hl]; exact hbm)
            exact hkm (h1.trans h2.symm)
    · have hw : (x.W.set (5 + b).toNat 0).getD (5 + j).toNat 0 = x.W.getD (5 + j).toNat 0 := by
        rw [set_getD, if_neg (by omega)]
      have hm2 : ∀ k, k < 4 → (j ∈ lst (((x.ar (x.W.set (5 + b).toNat 0) st kd wd vl ch).setc m c).cl k).own ↔ j ∈ lst (x.cl k).own) := by
        intro k hk
        rw [hcl k hk]
        by_cases hkm : k = m
        · subst hkm; rw [if_pos rfl, hown, hl]; exact hmem j hj
        · rw [if_neg hkm]
      rcases hI.sl j g0 g1 with ⟨q1, q2⟩ | ⟨n, hn, q1, q2⟩
      · exact .inl ⟨by rw [e1, e2, hw]; exact q1, fun k hk => by rw [hm2 k hk]; exact q2 k hk⟩
      · exact .inr ⟨n, hn, by rw [e1, e2, hw]; exact q1, fun k hk => by rw [hm2 k hk]; exact q2 k hk⟩

theorem getD_mem {l : List Int} {d : Nat} (h : d < l.length) : l.getD d 0 ∈ l := by
  rw [List.getD_eq_getElem?_getD, List.getElem?_eq_getElem h]; exact List.getElem_mem h
theorem inv_win' {S : Int} {i : Nat} {x : SA} (hS : 1 ≤ S ∧ S ≤ 8) (hI : InvA S i x) {m : Nat} (hm : m < 4) {a p v : Int} (h0 : 0 ≤ a) (h1 : a < S) (hp : p = 5 + a) (hv : v = ((m : Int) + 1) * 4294967296) (hz : x.W.getD (5 + a).toNat 0 = 0) {c : Cl} (hown : lst c.own = lst (x.cl m).own ++ [a]) (htk : c.take = none) :
    InvA S (i + 1) ((x.sw p 0 v).setc m c) := by
  subst hp; subst hv
  exact inv_win hS hI hm h0 h1 hz hown htk rfl (by rw [swW, if_pos hz])
theorem inv_keep' {S : Int} {i : Nat} {x : SA} (hI : InvA S i x) {m : Nat} (hm : m < 4) {p v a : Int} (hp : p = 5 + a) (hz : ¬ x.W.getD (5 + a).toNat 0 = 0) {c : Cl} (hown : c.own = (x.cl m).own) (htk : ∀ a, c.take = some a → 0 ≤ a ∧ a < S) :
    InvA S (i + 1) ((x.sw p 0 v).setc m c) := by
  subst hp
  exact inv_keep hI hm hown htk rfl (by rw [swW, if_neg hz])
theorem inv_back' {S : Int} {i : Nat} {x : SA} (hS : 1 ≤ S ∧ S ≤ 8) (hI : InvA S i x) {m : Nat} (hm : m < 4) {d : Nat} (hd : d < (lst (x.cl m).own).length) {c : Cl} (hown : lst c.own = (lst (x.cl m).own).take d ++ (lst (x.cl m).own).drop (d + 1)) (htk : c.take = none)
    {b p : Int} (hb : b = (lst (x.cl m).own).getD d 0) (hp : p = 5 + b) : InvA S (i + 1) ((x.sto p 0).setc m c) := by
  subst hp
  exact inv_back hS hI hm hd hown htk hb rfl rfl
end Go.Proofs.Ytfdkaakllceebaa
