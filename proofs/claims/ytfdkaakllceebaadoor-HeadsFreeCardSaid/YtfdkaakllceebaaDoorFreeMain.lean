/- HeadsFree: the whole. -/
import Derived.Test.YtfdkaakllceebaaDoorFreeRows
import Derived.Test.YtfdkaakllceebaaDoorFreeNone
namespace Go.Proofs.YtfdkaakllceebaaDoor
open Go Go.Hx
set_option maxRecDepth 8000

set_option maxHeartbeats 8000000 in
theorem free_fn (l0 l1 l2 l3 : Int) (n cap : Nat) (o : Nat → SetP) (ho : SetOk o) : Gives Tryd.prog 6 [L4 l0 l1 l2 l3, .slice 0 0 n cap] [stO n o, pinE RTV] (Is .tt [stO n o, pinE RTV]) := by
  have hr := cfg_rightH l0 l1 l2 l3
  have hsz2 := size_bd hr
  have hU : InU (laW (cAnd 1 l0) 4 (cAnd 1 l1) 4 (cMod 6 l2) 6 (cMod 6 l3) (mkA (cAnd 1 l0) 4 (cAnd 1 l1) 2 4 (cMod 6 l2) 6 (cMod 6 l3) 2).W o (laN n)) := laW_in (mkA_in hr) ho _
  have hlen : ((laW (cAnd 1 l0) 4 (cAnd 1 l1) 4 (cMod 6 l2) 6 (cMod 6 l3) (mkA (cAnd 1 l0) 4 (cAnd 1 l1) 2 4 (cMod 6 l2) 6 (cMod 6 l3) 2).W o (laN n)).length : Int) = sizeV (cAnd 1 l0) 4 (cAnd 1 l1) 4 (cMod 6 l2) 6 (cMod 6 l3) := by rw [laW_len, mkA_len]; omega
  generalize hWl : laW (cAnd 1 l0) 4 (cAnd 1 l1) 4 (cMod 6 l2) 6 (cMod 6 l3) (mkA (cAnd 1 l0) 4 (cAnd 1 l1) 2 4 (cMod 6 l2) 6 (cMod 6 l3) 2).W o (laN n) = Wl at hU hlen
  have hla : laOb (cAnd 1 l0) 4 (cAnd 1 l1) 4 (cMod 6 l2) 6 (cMod 6 l3) (mkA (cAnd 1 l0) 4 (cAnd 1 l1) 2 4 (cMod 6 l2) 6 (cMod 6 l3) 2).W (setRow o) n Wl := ⟨o, ho, rfl, hWl⟩
  rcases e0 : hsR (cAnd 1 l0) 4 (cAnd 1 l1) 2 4 (cMod 6 l2) 6 (cMod 6 l3) 2 0 Wl.length Wl with (_ | l) | ⟨e, p⟩ | e
  · rcases e1 : hsR (cAnd 1 l0) 4 (cAnd 1 l1) 2 4 (cMod 6 l2) 6 (cMod 6 l3) 2 1 Wl.length Wl with (_ | m) | ⟨e, p⟩ | e
    · by_cases hM : cMod 6 l2 + cMod 6 l3 = 0
      · exact fe_nn_n l0 l1 l2 l3 (n := n) (cap := cap) (o := o) hla hU hlen e0 e1 rfl hM
      · exact fe_nn_g l0 l1 l2 l3 (n := n) (cap := cap) (o := o) hla hU hlen e0 e1 rfl hM
    · obtain ⟨m0, m1, _⟩ := ok_len e1 hr
      obtain ⟨d1, _, _⟩ := hs_told e1
      obtain ⟨q1, q2, q3⟩ := fr_props (l := []) (m := m) List.nodup_nil d1 (by simp)
      have q4 : (srt m).length ≤ 24 := by rw [srt_len]; omega
      by_cases hM : cMod 6 l2 + cMod 6 l3 = 0
      · exact fe_nm_n l0 l1 l2 l3 (n := n) (cap := cap) (o := o) hla hU hlen e0 e1 rfl q2 q1 q3 q4 hM
      · exact fe_nm_g l0 l1 l2 l3 (n := n) (cap := cap) (o := o) hla hU hlen e0 e1 rfl q2 q1 q3 q4 hM
    · have he := hs_bad e1
      by_cases hM : cMod 6 l2 + cMod 6 l3 = 0
      · exact fe_nb_n l0 l1 l2 l3 (n := n) (cap := cap) (o := o) hla hU hlen e0 e1 rfl he hM
      · exact fe_nb_g l0 l1 l2 l3 (n := n) (cap := cap) (o := o) hla hU hlen e0 e1 rfl he hM
    · exact (code1 hr hlen e1).elim
  · obtain ⟨l0', l1', _⟩ := ok_len e0 hr
    obtain ⟨c1, c2, _⟩ := hs_told e0
    rcases e1 : hsR (cAnd 1 l0) 4 (cAnd 1 l1) 2 4 (cMod 6 l2) 6 (cMod 6 l3) 2 1 Wl.length Wl with (_ | m) | ⟨e, p⟩ | e
    · obtain ⟨q1, q2, q3⟩ := fr_props (l := l) (m := []) c1 List.nodup_nil (by simp)
      rw [List.append_nil] at q1 q2 q3
      have q4 : (srt l).length ≤ 24 := by rw [srt_len]; omega
      by_cases hM : cMod 6 l2 + cMod 6 l3 = 0
      · exact fe_ln_n l0 l1 l2 l3 (n := n) (cap := cap) (o := o) hla hU hlen e0 e1 rfl q2 q1 q3 q4 hM
      · exact fe_ln_g l0 l1 l2 l3 (n := n) (cap := cap) (o := o) hla hU hlen e0 e1 rfl q2 q1 q3 q4 hM
    · obtain ⟨m0, m1, _⟩ := ok_len e1 hr
      obtain ⟨d1, d2, _⟩ := hs_told e1
      obtain ⟨q1, q2, q3⟩ := fr_props (l := l) (m := m) c1 d1 (fun x hx hy => by
        have a1 := c2 x hx
        have a2 := d2 x hy
        rw [a1] at a2
        omega)
      have q4 : (srt (l ++ m)).length ≤ 24 := by rw [srt_len, List.length_append]; omega
      by_cases hM : cMod 6 l2 + cMod 6 l3 = 0
      · exact fe_lm_n l0 l1 l2 l3 (n := n) (cap := cap) (o := o) hla hU hlen e0 e1 rfl q2 q1 q3 q4 hM
      · exact fe_lm_g l0 l1 l2 l3 (n := n) (cap := cap) (o := o) hla hU hlen e0 e1 rfl q2 q1 q3 q4 hM
    · have he := hs_bad e1
      by_cases hM : cMod 6 l2 + cMod 6 l3 = 0
      · exact fe_lb_n l0 l1 l2 l3 (n := n) (cap := cap) (o := o) hla hU hlen e0 e1 rfl he hM
      · exact fe_lb_g l0 l1 l2 l3 (n := n) (cap := cap) (o := o) hla hU hlen e0 e1 rfl he hM
    · exact (code1 hr hlen e1).elim
  · have he := hs_bad e0
    rcases e1 : hsR (cAnd 1 l0) 4 (cAnd 1 l1) 2 4 (cMod 6 l2) 6 (cMod 6 l3) 2 1 Wl.length Wl with (_ | m) | ⟨e2, p2⟩ | e2
    · by_cases hM : cMod 6 l2 + cMod 6 l3 = 0
      · exact fe_bn_n l0 l1 l2 l3 (n := n) (cap := cap) (o := o) hla hU hlen e0 e1 rfl he hM
      · exact fe_bn_g l0 l1 l2 l3 (n := n) (cap := cap) (o := o) hla hU hlen e0 e1 rfl he hM
    · by_cases hM : cMod 6 l2 + cMod 6 l3 = 0
      · exact fe_bm_n l0 l1 l2 l3 (n := n) (cap := cap) (o := o) hla hU hlen e0 e1 rfl he hM
      · exact fe_bm_g l0 l1 l2 l3 (n := n) (cap := cap) (o := o) hla hU hlen e0 e1 rfl he hM
    · by_cases hM : cMod 6 l2 + cMod 6 l3 = 0
      · exact fe_bc_n l0 l1 l2 l3 (n := n) (cap := cap) (o := o) hla hU hlen e0 e1 rfl he hM
      · exact fe_bc_g l0 l1 l2 l3 (n := n) (cap := cap) (o := o) hla hU hlen e0 e1 rfl he hM
    · exact (code1 hr hlen e1).elim
  · have := hs_code e0 hr (by decide) hlen
    simp [isCode] at this

set_option maxHeartbeats 8000000 in
theorem free_fnn (l0 l1 l2 l3 : Int) (a : Option Addr) : Gives Tryd.prog 6 [L4 l0 l1 l2 l3, .raw (.slice a 0 0)] [pinE RTV] (Is .tt [pinE RTV]) := by
  have hr := cfg_rightH l0 l1 l2 l3
  have hsz2 := size_bd hr
  have hU : InU ((mkA (cAnd 1 l0) 4 (cAnd 1 l1) 2 4 (cMod 6 l2) 6 (cMod 6 l3) 2).W) := mkA_in hr
  have hlen : (((mkA (cAnd 1 l0) 4 (cAnd 1 l1) 2 4 (cMod 6 l2) 6 (cMod 6 l3) 2).W).length : Int) = sizeV (cAnd 1 l0) 4 (cAnd 1 l1) 4 (cMod 6 l2) 6 (cMod 6 l3) := by rw [mkA_len]; omega
  generalize hWl : (mkA (cAnd 1 l0) 4 (cAnd 1 l1) 2 4 (cMod 6 l2) 6 (cMod 6 l3) 2).W = Wl at hU hlen
  have hla := hWl
  rcases e0 : hsR (cAnd 1 l0) 4 (cAnd 1 l1) 2 4 (cMod 6 l2) 6 (cMod 6 l3) 2 0 Wl.length Wl with (_ | l) | ⟨e, p⟩ | e
  · rcases e1 : hsR (cAnd 1 l0) 4 (cAnd 1 l1) 2 4 (cMod 6 l2) 6 (cMod 6 l3) 2 1 Wl.length Wl with (_ | m) | ⟨e, p⟩ | e
    · by_cases hM : cMod 6 l2 + cMod 6 l3 = 0
      · exact fe_nnn_n l0 l1 l2 l3 (a := a) hla hU hlen e0 e1 rfl hM
      · exact fe_nnn_g l0 l1 l2 l3 (a := a) hla hU hlen e0 e1 rfl hM
    · obtain ⟨m0, m1, _⟩ := ok_len e1 hr
      obtain ⟨d1, _, _⟩ := hs_told e1
      obtain ⟨q1, q2, q3⟩ := fr_props (l := []) (m := m) List.nodup_nil d1 (by simp)
      have q4 : (srt m).length ≤ 24 := by rw [srt_len]; omega
      by_cases hM : cMod 6 l2 + cMod 6 l3 = 0
      · exact fe_nmn_n l0 l1 l2 l3 (a := a) hla hU hlen e0 e1 rfl q2 q1 q3 q4 hM
      · exact fe_nmn_g l0 l1 l2 l3 (a := a) hla hU hlen e0 e1 rfl q2 q1 q3 q4 hM
    · have he := hs_bad e1
      by_cases hM : cMod 6 l2 + cMod 6 l3 = 0
      · exact fe_nbn_n l0 l1 l2 l3 (a := a) hla hU hlen e0 e1 rfl he hM
      · exact fe_nbn_g l0 l1 l2 l3 (a := a) hla hU hlen e0 e1 rfl he hM
    · exact (code1 hr hlen e1).elim
  · obtain ⟨l0', l1', _⟩ := ok_len e0 hr
    obtain ⟨c1, c2, _⟩ := hs_told e0
    rcases e1 : hsR (cAnd 1 l0) 4 (cAnd 1 l1) 2 4 (cMod 6 l2) 6 (cMod 6 l3) 2 1 Wl.length Wl with (_ | m) | ⟨e, p⟩ | e
    · obtain ⟨q1, q2, q3⟩ := fr_props (l := l) (m := []) c1 List.nodup_nil (by simp)
      rw [List.append_nil] at q1 q2 q3
      have q4 : (srt l).length ≤ 24 := by rw [srt_len]; omega
      by_cases hM : cMod 6 l2 + cMod 6 l3 = 0
      · exact fe_lnn_n l0 l1 l2 l3 (a := a) hla hU hlen e0 e1 rfl q2 q1 q3 q4 hM
      · exact fe_lnn_g l0 l1 l2 l3 (a := a) hla hU hlen e0 e1 rfl q2 q1 q3 q4 hM
    · obtain ⟨m0, m1, _⟩ := ok_len e1 hr
      obtain ⟨d1, d2, _⟩ := hs_told e1
      obtain ⟨q1, q2, q3⟩ := fr_props (l := l) (m := m) c1 d1 (fun x hx hy => by
        have a1 := c2 x hx
        have a2 := d2 x hy
        rw [a1] at a2
        omega)
      have q4 : (srt (l ++ m)).length ≤ 24 := by rw [srt_len, List.length_append]; omega
      by_cases hM : cMod 6 l2 + cMod 6 l3 = 0
      · exact fe_lmn_n l0 l1 l2 l3 (a := a) hla hU hlen e0 e1 rfl q2 q1 q3 q4 hM
      · exact fe_lmn_g l0 l1 l2 l3 (a := a) hla hU hlen e0 e1 rfl q2 q1 q3 q4 hM
    · have he := hs_bad e1
      by_cases hM : cMod 6 l2 + cMod 6 l3 = 0
      · exact fe_lbn_n l0 l1 l2 l3 (a := a) hla hU hlen e0 e1 rfl he hM
      · exact fe_lbn_g l0 l1 l2 l3 (a := a) hla hU hlen e0 e1 rfl he hM
    · exact (code1 hr hlen e1).elim
  · have he := hs_bad e0
    rcases e1 : hsR (cAnd 1 l0) 4 (cAnd 1 l1) 2 4 (cMod 6 l2) 6 (cMod 6 l3) 2 1 Wl.length Wl with (_ | m) | ⟨e2, p2⟩ | e2
    · by_cases hM : cMod 6 l2 + cMod 6 l3 = 0
      · exact fe_bnn_n l0 l1 l2 l3 (a := a) hla hU hlen e0 e1 rfl he hM
      · exact fe_bnn_g l0 l1 l2 l3 (a := a) hla hU hlen e0 e1 rfl he hM
    · by_cases hM : cMod 6 l2 + cMod 6 l3 = 0
      · exact fe_bmn_n l0 l1 l2 l3 (a := a) hla hU hlen e0 e1 rfl he hM
      · exact fe_bmn_g l0 l1 l2 l3 (a := a) hla hU hlen e0 e1 rfl he hM
    · by_cases hM : cMod 6 l2 + cMod 6 l3 = 0
      · exact fe_bcn_n l0 l1 l2 l3 (a := a) hla hU hlen e0 e1 rfl he hM
      · exact fe_bcn_g l0 l1 l2 l3 (a := a) hla hU hlen e0 e1 rfl he hM
    · exact (code1 hr hlen e1).elim
  · have := hs_code e0 hr (by decide) hlen
    simp [isCode] at this
end Go.Proofs.YtfdkaakllceebaaDoor
namespace Go.Proofs.YtfdkaakllceebaaDoor.headsFree
open Go Go.Hx
abbrev ks67 : List (Option IntKind) := [some .i64, some .i64, some .u32, some .u64, none]
theorem walk_nil (a : Option Addr) (l : List SV) (hl : okK [some .i64, some .i64, some .i64, some .i64] l) : ∃ L, Gives Tryd.prog 6 [.agg l, .raw (.slice a 0 0)] [pinE RTV] (Is .tt L) := by
  obtain ⟨l0, l1, l2, l3, e⟩ := headsOnce.four hl
  rw [e]
  exact ⟨_, free_fnn l0 l1 l2 l3 a⟩
theorem walk (l : List SV) (hl : okK [some .i64, some .i64, some .i64, some .i64] l) (o : Nat → List SV) (h : ∀ i, okK ks67 (o i)) (len cap : Nat) (_ : len ≤ maxLen) :
    ∃ L, Gives Tryd.prog 6 [.agg l, .slice 0 0 len cap] [.obj (.rows len 5 o), pinE RTV] (Is .tt L) := by
  obtain ⟨l0, l1, l2, l3, e⟩ := headsOnce.four hl
  obtain ⟨p, rfl, hp⟩ := headsOnce.rows_of o h
  rw [e]
  exact ⟨_, free_fn l0 l1 l2 l3 len cap p hp⟩
end Go.Proofs.YtfdkaakllceebaaDoor.headsFree
