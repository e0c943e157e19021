/- SmallWhole: what is read was written by one writer, whole. -/
import Derived.Test.YtmghcelohnlceaaGreatDoorWholeTurnA
import Derived.Test.YtmghcelohnlceaaGreatDoorWholeTurnB
import Derived.Test.YtmghcelohnlceaaGreatDoorWholeTurnC
namespace Go.Proofs.YtmghcelohnlceaaGreatDoor
open Go Go.Hx
set_option maxRecDepth 8000
section
variable {R : Int} {N cap : Nat} {o : Nat → Int × Int} {x : XS} {ρ : Nat → Nat × Nat} {w : World} {I : Act → World → Prop}
theorem xa (h : XInv R N 0 x) (hin : x.i < N) (hi : x.i < 200) (J : ∀ p, XJJ p R N cap o x ρ w I) : ∃ p, XG p R N cap o x ρ w I := by
  rcases hb : bkB (o x.i).1 (o x.i).2 (hdO x.z.c0) (hdO x.z.c1) with _ | _
  · rcases a3_cases (o x.i).1 with ha | ha | ha | ha
    · rcases hc : x.z.c0 with _ | ⟨ep, nx, sn, fl, tm, ii, hd, l⟩
      · rcases hbm : x.b with _ | _
        · exact xg0a h hin hi ha hb hc hbm (fun x' h' e ne => xt0 h' (by rw [e]; exact hin) (by rw [e]; exact hi) ne fun p x'' hx hi2 => J p x'' hx (by rw [hi2, e]))
        · exact xg0b h hin hi ha hb hc hbm (fun x' h' e ne => xt0 h' (by rw [e]; exact hin) (by rw [e]; exact hi) ne fun p x'' hx hi2 => J p x'' hx (by rw [hi2, e]))
      · exact xo0 h hin hi ha hb hc (fun x' h' e ne => xt0 h' (by rw [e]; exact hin) (by rw [e]; exact hi) ne fun p x'' hx hi2 => J p x'' hx (by rw [hi2, e]))
    · rcases hc : x.z.c1 with _ | ⟨ep, nx, sn, fl, tm, ii, hd, l⟩
      · rcases hbm : x.b with _ | _
        · exact xg1a h hin hi ha hb hc hbm (fun x' h' e ne => xt1 h' (by rw [e]; exact hin) (by rw [e]; exact hi) ne fun p x'' hx hi2 => J p x'' hx (by rw [hi2, e]))
        · exact xg1b h hin hi ha hb hc hbm (fun x' h' e ne => xt1 h' (by rw [e]; exact hin) (by rw [e]; exact hi) ne fun p x'' hx hi2 => J p x'' hx (by rw [hi2, e]))
      · exact xo1 h hin hi ha hb hc (fun x' h' e ne => xt1 h' (by rw [e]; exact hin) (by rw [e]; exact hi) ne fun p x'' hx hi2 => J p x'' hx (by rw [hi2, e]))
    · rcases hc : x.z.c2 with _ | ⟨ep, nx, sn, fl, tm, o'⟩
      · exact xg2 h hin hi ha hb hc (fun x' h' e ne => xt2 h' (by rw [e]; exact hin) (by rw [e]; exact hi) ne fun p x'' hx hi2 => J p x'' hx (by rw [hi2, e]))
      · exact xo2 h hin hi ha hb hc (fun x' h' e ne => xt2 h' (by rw [e]; exact hin) (by rw [e]; exact hi) ne fun p x'' hx hi2 => J p x'' hx (by rw [hi2, e]))
    · rcases hc : x.z.c3 with _ | ⟨ep, nx, sn, fl, tm, o'⟩
      · exact xg3 h hin hi ha hb hc (fun x' h' e ne => xt3 h' (by rw [e]; exact hin) (by rw [e]; exact hi) ne fun p x'' hx hi2 => J p x'' hx (by rw [hi2, e]))
      · exact xo3 h hin hi ha hb hc (fun x' h' e ne => xt3 h' (by rw [e]; exact hin) (by rw [e]; exact hi) ne fun p x'' hx hi2 => J p x'' hx (by rw [hi2, e]))
  · exact xbk h hin hi hb J
end
theorem bg7 {R : Int} : (bgW R).getD 7 0 = bornW 0 := by
  have hl := bgW_len R
  unfold bgW at hl ⊢
  rw [set_getD, if_pos ⟨rfl, by simp at hl ⊢; omega⟩]
theorem lj0_ok {R : Int} (v : Nat → Value) : LJ (wd0 R v).W none none 0 0 0 0 [0] := by
  have hf : fitC (epW 0) 0 0 := ⟨by decide, by decide, by decide, by decide, by decide, by decide⟩
  have e : (wd0 R v).W.getD 7 0 = bornW 0 := bg7
  refine ⟨by rw [e]; exact li_pk hf true false, fun q => ?_, by decide, by decide, by decide, fun k k1 k2 => absurd (show k < 1 from k2) (by omega), ?_, fun q => absurd rfl q, fun s hs => (by cases hs), fun s hs => (by cases hs)⟩
  · rw [e, show buW (bornW 0) = false from bu_pk hf true false] at q; cases q
  · rw [e]; exact ⟨fun _ => ge_pk hf true false, fun _ => rfl⟩
theorem xs0_ok {R : Int} {N : Nat} (r1 : 1 ≤ R) (r2 : R ≤ 8) (v : Nat → Value) : XInv R N 0 ⟨0, wd0 R v, 0, false, [], [], 0, 0, 0, 0⟩ := by
  have hf : fitC (epW 0) 0 0 := ⟨by decide, by decide, by decide, by decide, by decide, by decide⟩
  have e : (wd0 R v).W.getD 7 0 = bornW 0 := bg7
  exact ⟨wd0_ok r1 r2 v, Nat.zero_le _, Nat.zero_le _, ⟨fun _ e => (by cases e), fun _ e => (by cases e), fun _ _ e => (by cases e)⟩, lj0_ok v, fun _ => ⟨rfl, rfl⟩, rfl, fun k hk => absurd hk (Nat.not_lt_zero k), by (show epW ((wd0 R v).W.getD 7 0) ≤ 0); rw [e, show epW (bornW 0) = epW 0 from ep_pk hf true false]; decide, fun s hs => (by cases hs), fun s hs => (by cases hs)⟩
set_option maxHeartbeats 8000000 in
theorem smallWhole_fn (r : Int) (N cap : Nat) (o : Nat → Int × Int) : Gives Tryz.prog 5 [.int .i64 r, .slice 0 0 N cap] [.obj (.rows N 2 (actR o)), pinE RTV] (Is .tt [.obj (.rows N 2 (actR o)), pinE RTV]) := by
  have hX := hXMa
  obtain ⟨c1, c2⟩ := cAnd7 r
  refine gives_x hX (fn := Tryz.f5) rfl rfl rfl rfl fun ρ w => ?_
  refine sxb hX [.l] [] 4000 rfl (by first | exact trivial | simp [conjP, getH, HE.so]) ?_
  refine ss_raw hX 8 2 rfl rfl fun v0 => ?_
  refine ss_raw hX 8 3 rfl rfl fun v1 => ?_
  refine ss_raw hX 9 2 rfl rfl fun v2 => ?_
  refine ss_raw hX 9 3 rfl rfl fun v3 => ?_
  refine ss_raw hX 10 2 rfl rfl fun v4 => ?_
  refine ss_raw hX 10 3 rfl rfl fun v5 => ?_
  refine ss_raw hX 11 2 rfl rfl fun v6 => ?_
  refine ss_raw hX 11 3 rfl rfl fun v7 => ?_
  refine ss_sub hX (T' := xwT N cap ⟨0, (wd0 (cAnd 7 r) (vv v0 v1 v2 v3 v4 v5 v6 v7)), 0, false, [], [], 0, 0, 0, 0⟩) (H' := xwH N o (cAnd 7 r) ⟨0, (wd0 (cAnd 7 r) (vv v0 v1 v2 v3 v4 v5 v6 v7)), 0, false, [], [], 0, 0, 0, 0⟩) [0, 1, 2, 3, 4, 5, 6, 7, 8, 9, 10, 11, 60, 61, 62, 63, 64, 65, 66, 67, 12, 13, 68, 69] rfl rfl rfl rfl ?tt ?hh ?ot ?ok ?_
  case tt => (exact clhX)
  case hh =>
    have hl := bgW_len (cAnd 7 r)
    have hl' := hl.symm
    (exact clhX)
  case ot => (exact clkX)
  case ok => (exact clkX)
  refine ss_loop hX (xwT N cap) (xwH N o (cAnd 7 r)) (XInv (cAnd 7 r) N 0) (fun x => 200 - x.i) _ (xs0_ok c1 c2 _) ?_
  intro x hx I back
  by_cases hlt : x.i < N ∧ x.i < 200
  · obtain ⟨p, hp⟩ := xa (cap := cap) (o := o) (ρ := ρ) (w := w) (I := I) hx hlt.1 hlt.2 (fun p x' hx' hi' cs T H hsub => ss_sw (hXTw p) (sw_ss hX (back x' hx' (by show 200 - x'.i < 200 - x.i; omega) [] T H hsub)))
    refine sxb hX [.r 11] [] 100 rfl trivial ?_
    exact ss_sw hX (sw_ss (hXTw p) (cs := []) hp)
  · have hn : (x.i : Int) < (N : Int) → ¬ (x.i : Int) < 200 := fun q q2 => hlt ⟨by omega, by omega⟩
    dsimp only [xwT, xwH, wdH]
    refine sx hX [] 4000 rfl (by (simp [-List.getD_eq_getElem?_getD, -List.length_eq_zero_iff, conjP] <;> (first | omega | ((repeat' (refine And.intro ?_ ?_)) <;> (first | omega | exact decide_eq_false (by omega) | exact decide_eq_true (by omega)))))) ?_
    refine ss_pb hX [] [] 4000 rfl (fun hb0 => ?_) (fun hb0 => ?_)
    · try simp [-List.getD_eq_getElem?_getD, -List.length_eq_zero_iff] at hb0
      refine sx hX [.T] 4000 rfl (by (simp [-List.getD_eq_getElem?_getD, -List.length_eq_zero_iff, conjP, addOP, hb0] <;> (first | omega | ((repeat' (refine And.intro ?_ ?_)) <;> (first | omega | exact decide_eq_false (by omega) | exact decide_eq_true (by omega)))))) ?_
      refine sx hX [.F] 4000 rfl (by (simp [-List.getD_eq_getElem?_getD, -List.length_eq_zero_iff, conjP, addOP, hn, hb0] <;> (first | omega | ((repeat' (refine And.intro ?_ ?_)) <;> (first | omega | exact decide_eq_false (by omega) | exact decide_eq_true (by omega)))))) ?_
      (exact ss_end hX [0, 1] rfl rfl trivial rfl rfl rfl rfl (by (repeat' (first | exact rfl | exact trivial | exact sim_refl _ | refine And.intro ?_ ?_))) (by (repeat' (first | exact rfl | exact trivial | exact sim_refl _ | refine And.intro ?_ ?_))) (by (repeat' (first | exact rfl | exact trivial | exact sim_refl _ | refine And.intro ?_ ?_))) (by (repeat' (first | exact rfl | exact trivial | exact sim_refl _ | refine And.intro ?_ ?_))))
    · try simp [-List.getD_eq_getElem?_getD, -List.length_eq_zero_iff] at hb0
      refine sx hX [.F] 4000 rfl (by (simp [-List.getD_eq_getElem?_getD, -List.length_eq_zero_iff, conjP, addOP, hb0] <;> (first | omega | ((repeat' (refine And.intro ?_ ?_)) <;> (first | omega | exact decide_eq_false (by omega) | exact decide_eq_true (by omega)))))) ?_
      (exact ss_end hX [0, 1] rfl rfl trivial rfl rfl rfl rfl (by (repeat' (first | exact rfl | exact trivial | exact sim_refl _ | refine And.intro ?_ ?_))) (by (repeat' (first | exact rfl | exact trivial | exact sim_refl _ | refine And.intro ?_ ?_))) (by (repeat' (first | exact rfl | exact trivial | exact sim_refl _ | refine And.intro ?_ ?_))) (by (repeat' (first | exact rfl | exact trivial | exact sim_refl _ | refine And.intro ?_ ?_))))
set_option maxHeartbeats 8000000 in
theorem smallWhole_nil (r : Int) (a : Option Addr) : Gives Tryz.prog 5 [.int .i64 r, .raw (.slice a 0 0)] [pinE RTV] (Is .tt [pinE RTV]) := by
  have hX := hXMa
  refine gives_x hX (fn := Tryz.f5) rfl rfl rfl rfl fun ρ w => ?_
  refine sx hX [] 4000 rfl (by (simp [-List.getD_eq_getElem?_getD, -List.length_eq_zero_iff, conjP] <;> (first | omega | ((repeat' (refine And.intro ?_ ?_)) <;> (first | omega | exact decide_eq_false (by omega) | exact decide_eq_true (by omega)))))) ?_
  refine sx hX [.F] 4000 rfl (by (simp [-List.getD_eq_getElem?_getD, -List.length_eq_zero_iff, conjP, addOP] <;> (first | omega | ((repeat' (refine And.intro ?_ ?_)) <;> (first | omega | exact decide_eq_false (by omega) | exact decide_eq_true (by omega)))))) ?_
  (exact ss_end hX [0] rfl rfl trivial rfl rfl rfl rfl (by (repeat' (first | exact rfl | exact trivial | exact sim_refl _ | refine And.intro ?_ ?_))) (by (repeat' (first | exact rfl | exact trivial | exact sim_refl _ | refine And.intro ?_ ?_))) (by (repeat' (first | exact rfl | exact trivial | exact sim_refl _ | refine And.intro ?_ ?_))) (by (repeat' (first | exact rfl | exact trivial | exact sim_refl _ | refine And.intro ?_ ?_))))
end Go.Proofs.YtmghcelohnlceaaGreatDoor
namespace Go.Proofs.YtmghcelohnlceaaGreatDoor.smallWhole
open Go Go.Hx
abbrev ks28 : List (Option IntKind) := [some .i64, some .i64]
theorem row_of (l : List SV) (h : okK ks28 l) : ∃ o : Int × Int, l = actR (fun _ => o) 0 := by
  rcases l with _ | ⟨a, _ | ⟨b, _ | ⟨c, r⟩⟩⟩ <;> simp only [okK, and_false] at h
  obtain ⟨⟨n1, rfl, _⟩, ⟨n2, rfl, _⟩, _⟩ := h
  exact ⟨(n1, n2), rfl⟩
theorem rows_of (o : Nat → List SV) (h : ∀ i, okK ks28 (o i)) : ∃ q : Nat → Int × Int, o = actR q :=
  ⟨fun i => Classical.choose (row_of (o i) (h i)), funext fun i => Classical.choose_spec (row_of (o i) (h i))⟩
theorem walk_nil (a : Option Addr) (k : Int) (_ : (Lit.int .i64 k).wf = true) : ∃ L, Gives Tryz.prog 5 [.int .i64 k, .raw (.slice a 0 0)] [pinE RTV] (Is .tt L) := ⟨_, smallWhole_nil k a⟩
theorem walk (k : Int) (_ : (Lit.int .i64 k).wf = true) (o : Nat → List SV) (h : ∀ i, okK ks28 (o i)) (len cap : Nat) (_ : len ≤ maxLen) : ∃ L, Gives Tryz.prog 5 [.int .i64 k, .slice 0 0 len cap] [.obj (.rows len 2 o), pinE RTV] (Is .tt L) := by
  obtain ⟨q, rfl⟩ := rows_of o h
  exact ⟨_, smallWhole_fn k len cap q⟩
end Go.Proofs.YtmghcelohnlceaaGreatDoor.smallWhole
