/- PoolStack: the plain law. -/
import Derived.Test.YtmghcelohnlceaaPoolHeap
namespace Go.Proofs.Ytmghcelohnlceaa
open Go Go.Hx
set_option maxRecDepth 8000
/-- One client alone: what it has, and the list of its class. -/
def PS (A B c : Int) (t : Nat) (W : List Int) (own rest : List Int) : Prop :=
  (0 ≤ c ∧ c ≤ 1) ∧ (∀ b ∈ own, classV A B b = c) ∧ ∃ (k : Nat → Pk) (L : Int → List Int), InvQ A B t W k L ∧ k 0 = ⟨some own, .idle⟩ ∧ L c = rest
section
variable {A B c : Int} {t : Nat} {W : List Int} {own rest : List Int}
theorem PS.facts (h : PS A B c t W own rest) : rightB 1 4 1 2 4 A 6 B 2 = true ∧ ((W.length : Int) = 16 + A * 5 + B * 7) ∧ (∀ j, 0 ≤ W.getD j 0 ∧ W.getD j 0 < 18446744073709551616) ∧ (0 ≤ A ∧ A ≤ 5) ∧ (0 ≤ B ∧ B ≤ 5) := by
  obtain ⟨_, _, k, L, h, _, _⟩ := h
  have h1 := h.a0
  have h2 := h.a1
  have h3 := h.b0
  have h4 := h.b1
  refine ⟨pool_right h1 h2 h3 h4, ?_, h.bd, ⟨h1, h2⟩, ⟨h3, h4⟩⟩
  have e := h.len
  rw [szP_eq] at e
  omega
theorem PS.own_rng (h : PS A B c t W own rest) {b : Int} (hb : b ∈ own) : (1 ≤ b ∧ b ≤ A + B) ∧ classV A B b = c := by
  obtain ⟨_, hc, k, L, h, hk, _⟩ := h
  exact ⟨h.rng (m := 0) (by decide) (by rw [hk]; exact hb), hc b hb⟩
theorem PS.own_le (h : PS A B c t W own rest) : own.length ≤ 10 := by
  obtain ⟨_, _, k, L, h, hk, _⟩ := h
  exact own_len h (m := 0) (by decide) (by rw [hk]; rfl)
theorem PS.rest_le (h : PS A B c t W own rest) : rest.length ≤ 10 := by
  obtain ⟨hc, _, k, L, h, _, rfl⟩ := h
  have h0 := h.a0
  have h1 := h.a1
  have h2 := h.b0
  have h3 := h.b1
  have := len_le (A + B).toNat (L c) fun b => by
    have q1 := h.cnt b
    have e : ((A + B).toNat : Int) = A + B := by omega
    rw [e, ← q1]
    have : c = 0 ∨ c = 1 := by omega
    rcases this with rfl | rfl <;> omega
  omega
theorem ps_0 (h1 : 0 ≤ A ∧ A ≤ 5) (h2 : 0 ≤ B ∧ B ≤ 5) (hc : 0 ≤ c ∧ c ≤ 1) : PS A B c 0 (mkA 1 4 1 2 4 A 6 B 2).W [] (if c = 0 then upto 1 A.toNat else upto (A + 1) B.toNat) := by
  have h := q_0 h1.1 h1.2 h2.1 h2.2
  refine ⟨hc, fun b hb => by simp at hb, kset k0 0 ⟨some [], .idle⟩, L0 A B, q_keep h (by decide) trivial (fun b => rfl), kset_same _ _ _, rfl⟩
theorem ps_none (h : PS A B c t W own []) : ¬ classV A B (W.getD (3 + c).toNat 0 % 4294967296) = c ∧ PS A B c (t + 1) W own [] := by
  obtain ⟨hc, ho, k, L, h, hk, hl⟩ := h
  exact ⟨(q_none h hc.1 hc.2 rfl).1 hl, hc, ho, k, L, h.up, hk, hl⟩
theorem ps_take {b : Int} {r : List Int} (h : PS A B c t W own (b :: r)) (ht : t < 900000) {v : Int} (hv : W.getD (3 + c).toNat 0 = v) :
    v % 4294967296 = b ∧ classV A B (v % 4294967296) = c ∧ 1 ≤ v % 4294967296 ∧ PS A B c (t + 3) (W.set (3 + c).toNat (turnV v (W.getD (bkP A B (v % 4294967296)).toNat 0 % 4294967296))) (own ++ [v % 4294967296]) r := by
  subst hv
  obtain ⟨hc, ho, k, L, h, hk, hl⟩ := h
  have hq := h.chn c hc.1 hc.2
  rw [hl] at hq
  have e1 : W.getD (3 + c).toNat 0 % 4294967296 = b := hq.1
  have e2 : classV A B b = c := h.cls c hc.1 hc.2 b (by rw [hl]; simp)
  rw [e1]
  refine ⟨rfl, e2, (cls_iff hc.1 e2).1, hc, ?_, ?_⟩
  · intro x hx
    simp only [List.mem_append, List.mem_singleton] at hx
    rcases hx with hx | rfl
    · exact ho x hx
    · exact e2
  · have s1 := q_bt (c := c) (s := 0) (b := 0) (f := 0) h (m := 0) (by decide) hc (by rw [hk])
    rw [hk] at s1
    have s2 := q_t1y s1 (by decide) (kset_same _ _ _) rfl (by rw [e1]; exact e2)
    rw [kset_kset, e1] at s2
    have s3 := q_t2 s2 (by decide) (kset_same _ _ _) rfl
    rw [kset_kset] at s3
    obtain ⟨r', e3, s4⟩ := q_t3y (o' := some (own ++ [b])) s3 (by decide) (by omega) (kset_same _ _ _) rfl rfl
    rw [kset_kset] at s4
    rw [hl, List.cons.injEq] at e3
    obtain ⟨_, rfl⟩ := e3
    exact ⟨_, _, s4, kset_same _ _ _, by simp [Lset]⟩
theorem ps_give (h : PS A B c t W own rest) (ht : t < 900000) {d : Nat} (hd : d < own.length) {b s : Int} (hb : own.getD d 0 = b) (hs : W.getD (3 + classV A B b).toNat 0 = s) :
    (1 ≤ b ∧ b ≤ A + B) ∧ (0 ≤ classV A B b ∧ classV A B b ≤ 1) ∧ (W.set (bkP A B b).toNat (s % 4294967296)).getD (3 + classV A B b).toNat 0 = s ∧
      PS A B c (t + 3) ((W.set (bkP A B b).toNat (s % 4294967296)).set (3 + classV A B b).toNat (turnV s b)) (own.take d ++ own.drop (d + 1)) (b :: rest) := by
  have hmem : b ∈ own := by
    rw [← hb, List.getD_eq_getElem?_getD, List.getElem?_eq_getElem hd]; exact List.getElem_mem hd
  have hrg := h.own_rng hmem
  obtain ⟨hc, ho, k, L, h, hk, hl⟩ := h
  have hrb := bkP_range h.a0 h.b0 hrg.1.1 hrg.1.2
  rw [hrg.2] at hs ⊢
  have e3 : (W.set (bkP A B b).toNat (s % 4294967296)).getD (3 + c).toNat 0 = s := by rw [set_getD, if_neg (by omega), hs]
  refine ⟨hrg.1, hc, e3, hc, ?_, ?_⟩
  · intro x hx
    simp only [List.mem_append] at hx
    rcases hx with hx | hx
    · exact ho x (List.mem_of_mem_take hx)
    · exact ho x (List.mem_of_mem_drop hx)
  · have s1 := q_bg (o := some (own.take d ++ own.drop (d + 1))) (s := 0) h (m := 0) (by decide) hk hd rfl
    rw [hb] at s1
    have s2 := q_g1 s1 (by decide) (kset_same _ _ _) rfl
    rw [kset_kset, hrg.2, hs] at s2
    have s3 := q_g2 s2 (by decide) (kset_same _ _ _)
    rw [kset_kset] at s3
    have s4 := q_g3y s3 (by decide) (by omega) (kset_same _ _ _) (by rw [hrg.2]; exact e3)
    rw [kset_kset, hrg.2] at s4
    exact ⟨_, _, s4, kset_same _ _ _, by simp [Lset, hl]⟩
theorem upto_succ (a : Int) (n : Nat) : upto a (n + 1) = a :: upto (a + 1) n := rfl
theorem take_rev {l : List Int} {i : Nat} (h : i < l.length) : (l.take (i + 1)).reverse = l.getD i 0 :: (l.take i).reverse := by
  rw [List.take_succ_eq_append_getElem h, List.reverse_append, List.getD_eq_getElem?_getD, List.getElem?_eq_getElem h]
  rfl
end
end Go.Proofs.Ytmghcelohnlceaa
