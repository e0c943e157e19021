/- SmallPlays: writers and readers, interleaved in any way, go on step by step as the document says. -/
import Derived.Test.YtmghcelohnlceaaGreatDoorPlaysTurnA
import Derived.Test.YtmghcelohnlceaaGreatDoorPlaysTurnB
import Derived.Test.YtmghcelohnlceaaGreatDoorPlaysTurnC
import Derived.Test.YtmghcelohnlceaaGreatDoorAloneMade
namespace Go.Proofs.YtmghcelohnlceaaGreatDoor
open Go Go.Hx
set_option maxRecDepth 8000
theorem clhZ {P : Prop} (h : P := by repeat' (first | exact rfl | exact trivial | exact sim_refl _ | exact simO_refl _ | exact subE_same rfl ren_scE | exact subE_same rfl ren_wlE | exact subE_same rfl ren_rlE | exact subE_same rfl ren_dlE | exact subE_wrE rfl rfl | exact subE_rdE rfl rfl | exact subE_dwE rfl rfl | exact subE_drE rfl rfl | exact sim_wrP rfl | exact sim_rdP rfl | exact sim_dwP rfl | exact sim_drP rfl | assumption | refine And.intro ?_ ?_)) : P := h
theorem clkZ {P : Prop} (h : P := by repeat' (first | exact rfl | exact trivial | exact okE_scE | exact okE_wlE | exact okE_rlE | exact okE_dlE | exact okE_wrE rfl | exact okE_rdE rfl | exact okE_dwE rfl | exact okE_drE rfl | exact okP_wrP (i := 13) rfl | exact okP_wrP (i := 15) rfl | exact okP_rdP (i := 17) rfl | exact okP_rdP (i := 19) rfl | exact okP_dwP (i := 21) rfl | exact okP_dwP (i := 23) rfl | exact okP_drP (i := 25) rfl | exact okP_drP (i := 27) rfl | refine And.intro ?_ ?_)) : P := h
section
variable {R : Int} {N cap : Nat} {o : Nat → Int × Int} {x : YS} {ρ : Nat → Nat × Nat} {w : World} {I : Act → World → Prop}
theorem ya (h : YInv R N 0 x) (hin : x.i < N) (hi : x.i < 150) (J : ∀ p, YJ p R N cap o x ρ w I) : ∃ p, YG p R N cap o x ρ w I := by
  rcases hb : bkB (o x.i).1 (o x.i).2 (hdO x.z.c0) (hdO x.z.c1) with _ | _
  · rcases a3_cases (o x.i).1 with ha | ha | ha | ha
    · rcases hc : x.z.c0 with _ | ⟨ep, nx, sn, fl, tm, ii, hd, l⟩
      · exact yg0 h hin hi ha hb hc (fun x' h' e ne => yt0 h' (by rw [e]; exact hin) (by rw [e]; exact hi) ne fun p x'' hx hi2 => J p x'' hx (by rw [hi2, e]))
      · exact yo0 h hin hi ha hb hc (fun x' h' e ne => yt0 h' (by rw [e]; exact hin) (by rw [e]; exact hi) ne fun p x'' hx hi2 => J p x'' hx (by rw [hi2, e]))
    · rcases hc : x.z.c1 with _ | ⟨ep, nx, sn, fl, tm, ii, hd, l⟩
      · exact yg1 h hin hi ha hb hc (fun x' h' e ne => yt1 h' (by rw [e]; exact hin) (by rw [e]; exact hi) ne fun p x'' hx hi2 => J p x'' hx (by rw [hi2, e]))
      · exact yo1 h hin hi ha hb hc (fun x' h' e ne => yt1 h' (by rw [e]; exact hin) (by rw [e]; exact hi) ne fun p x'' hx hi2 => J p x'' hx (by rw [hi2, e]))
    · rcases hc : x.z.c2 with _ | ⟨ep, nx, sn, fl, tm, o'⟩
      · exact yg2 h hin hi ha hb hc (fun x' h' e ne => yt2 h' (by rw [e]; exact hin) (by rw [e]; exact hi) ne fun p x'' hx hi2 => J p x'' hx (by rw [hi2, e]))
      · exact yo2 h hin hi ha hb hc (fun x' h' e ne => yt2 h' (by rw [e]; exact hin) (by rw [e]; exact hi) ne fun p x'' hx hi2 => J p x'' hx (by rw [hi2, e]))
    · rcases hc : x.z.c3 with _ | ⟨ep, nx, sn, fl, tm, o'⟩
      · exact yg3 h hin hi ha hb hc (fun x' h' e ne => yt3 h' (by rw [e]; exact hin) (by rw [e]; exact hi) ne fun p x'' hx hi2 => J p x'' hx (by rw [hi2, e]))
      · exact yo3 h hin hi ha hb hc (fun x' h' e ne => yt3 h' (by rw [e]; exact hin) (by rw [e]; exact hi) ne fun p x'' hx hi2 => J p x'' hx (by rw [hi2, e]))
  · exact ybk h hin hi hb J
set_option maxHeartbeats 4000000 in
theorem yend {bb : Bool} {z : Wd} (p : YP) (hl : z.W.length = 21) :
    SS (hXTy p) (At ρ w) (Is .tt [scE bb N o, pinE RTV]) ⟨[], [], Tryz.f8, Tryz.f8.ntmps, [scE bb N o, pinE RTV], contF Tryz.f8 34 [], [(5, .tt), (6, .ptr 2 0)], ypH (scE bb N o) R z []⟩ := by
  have hX := hXTy p
  have hl1 : z.W.length < 1000000 := by omega
  dsimp only [ypH]
  refine sx hX [] 4000 rfl (by (simp [-List.getD_eq_getElem?_getD, -List.length_eq_zero_iff, conjP, getH, HE.so, hl] <;> (first | omega | ((repeat' (refine And.intro ?_ ?_)) <;> (first | omega | exact decide_eq_false (by omega) | exact decide_eq_true (by omega)))))) ?_
  (refine ss_end hX [0, 1] rfl rfl trivial rfl rfl rfl (by cases bb <;> rfl) ?hv (by exact clhZ) (by (repeat' (first | exact rfl | exact trivial | exact sim_refl _ | refine And.intro ?_ ?_))) (by exact clkZ); (case hv => rw [decide_eq_true (p := z.W = z.W) rfl]; exact rfl))
end
theorem ys0_ok {R : Int} {N : Nat} (r1 : 1 ≤ R) (r2 : R ≤ 8) (v : Nat → Value) : YInv R N 0 ⟨0, wd0 R v⟩ :=
  ⟨wd0_ok r1 r2 v, Nat.zero_le _, Nat.zero_le _⟩
set_option maxHeartbeats 8000000 in
theorem smallPlays_fn (r : Int) (N cap : Nat) (o : Nat → Int × Int) : Gives Tryz.prog 8 [.int .i64 r, .slice 0 0 N cap] [.obj (.rows N 2 (actR o)), pinE RTV] (Is .tt [.obj (.rows N 2 (actR o)), pinE RTV]) := by
  have hX := hXMa
  obtain ⟨c1, c2⟩ := cAnd7 r
  refine gives_x hX (fn := Tryz.f8) rfl rfl rfl rfl fun ρ w => ?_
  refine sxb hX [.l] [] 4000 rfl (by first | exact trivial | simp [conjP, getH, HE.so]) ?_
  refine ss_raw hX 8 2 rfl rfl fun v0 => ?_
  refine ss_raw hX 8 3 rfl rfl fun v1 => ?_
  refine ss_raw hX 9 2 rfl rfl fun v2 => ?_
  refine ss_raw hX 9 3 rfl rfl fun v3 => ?_
  refine ss_raw hX 10 2 rfl rfl fun v4 => ?_
  refine ss_raw hX 10 3 rfl rfl fun v5 => ?_
  refine ss_raw hX 11 2 rfl rfl fun v6 => ?_
  refine ss_raw hX 11 3 rfl rfl fun v7 => ?_
  refine ss_sub hX (T' := yT N cap ⟨0, (wd0 (cAnd 7 r) (vv v0 v1 v2 v3 v4 v5 v6 v7))⟩) (H' := yH N o (cAnd 7 r) ⟨0, (wd0 (cAnd 7 r) (vv v0 v1 v2 v3 v4 v5 v6 v7))⟩) [0, 1, 2, 3, 4, 5, 6, 7, 8, 9, 10, 11, 60, 61, 62, 63, 64, 65, 66, 67, 68, 69, 70, 71, 72, 73, 74, 75] rfl rfl rfl rfl ?tt ?hh ?ot ?ok ?_
  case tt => (exact clhY)
  case hh =>
    have hl := bgW_len (cAnd 7 r)
    have hl' := hl.symm
    (exact clhY)
  case ot => (exact clkY)
  case ok => (exact clkY)
  refine ss_loop hX (yT N cap) (yH N o (cAnd 7 r)) (YInv (cAnd 7 r) N 0) (fun x => 150 - x.i) _ (ys0_ok c1 c2 _) ?_
  intro x hx I back
  by_cases hlt : x.i < N ∧ x.i < 150
  · obtain ⟨p, hp⟩ := ya (cap := cap) (o := o) (ρ := ρ) (w := w) (I := I) hx hlt.1 hlt.2 (fun p x' hx' hi' cs T H hsub => ss_sw (hXTy p) (sw_ss hX (back x' hx' (by show 150 - x'.i < 150 - x.i; omega) [] T H hsub)))
    refine sxb hX [.r 6] [] 100 rfl trivial ?_
    exact ss_sw hX (sw_ss (hXTy p) (cs := []) hp)
  · have hn : (x.i : Int) < (N : Int) → ¬ (x.i : Int) < 150 := fun q q2 => hlt ⟨by omega, by omega⟩
    have hz := ss_sw hX (cs := []) (sw_ss (hXTy ⟨none, none, x.z.p0, x.z.p1, false, 0, false, 0, w00, r00, dp0⟩) (cs := []) (yend (bb := true) (N := N) (o := o) (R := cAnd 7 r) (ρ := ρ) (w := w) (z := x.z) _ hx.b.hl))
    dsimp only [yT, yH, ypH, scE, cond_true] at hz ⊢
    refine sxb hX [.r 34] [] 4000 rfl (by (simp [-List.getD_eq_getElem?_getD, -List.length_eq_zero_iff, conjP] <;> (first | omega | ((repeat' (refine And.intro ?_ ?_)) <;> (first | omega | exact decide_eq_false (by omega) | exact decide_eq_true (by omega)))))) ?_
    refine ss_pb hX [.r 34] [] 4000 rfl (fun hb0 => ?_) (fun hb0 => ?_)
    · try simp [-List.getD_eq_getElem?_getD, -List.length_eq_zero_iff] at hb0
      refine sxb hX [.r 34] [.T] 4000 rfl (by (simp [-List.getD_eq_getElem?_getD, -List.length_eq_zero_iff, conjP, addOP, hb0] <;> (first | omega | ((repeat' (refine And.intro ?_ ?_)) <;> (first | omega | exact decide_eq_false (by omega) | exact decide_eq_true (by omega)))))) ?_
      refine sxb hX [.r 34] [.F] 4000 rfl (by (simp [-List.getD_eq_getElem?_getD, -List.length_eq_zero_iff, conjP, addOP, hn, hb0] <;> (first | omega | ((repeat' (refine And.intro ?_ ?_)) <;> (first | omega | exact decide_eq_false (by omega) | exact decide_eq_true (by omega)))))) ?_
      (refine ss_sub hX (T' := [(5, .tt), (6, .ptr 2 0)]) (H' := ypH (.obj (.rows N 2 (actR o))) (cAnd 7 r) x.z []) [0, 1, 2, 3, 4, 5, 6, 7, 8, 9, 10, 11, 12, 13, 14, 15, 16, 17, 18, 19, 20, 21, 22, 23, 24, 25, 26, 27] rfl rfl rfl rfl ?tt ?hh ?ot ?ok hz; (case tt => (exact clhY)); (case hh => (exact clhY)); (case ot => (exact clkY)); (case ok => (exact clkY)))
    · try simp [-List.getD_eq_getElem?_getD, -List.length_eq_zero_iff] at hb0
      refine sxb hX [.r 34] [.F] 4000 rfl (by (simp [-List.getD_eq_getElem?_getD, -List.length_eq_zero_iff, conjP, addOP, hb0] <;> (first | omega | ((repeat' (refine And.intro ?_ ?_)) <;> (first | omega | exact decide_eq_false (by omega) | exact decide_eq_true (by omega)))))) ?_
      (refine ss_sub hX (T' := [(5, .tt), (6, .ptr 2 0)]) (H' := ypH (.obj (.rows N 2 (actR o))) (cAnd 7 r) x.z []) [0, 1, 2, 3, 4, 5, 6, 7, 8, 9, 10, 11, 12, 13, 14, 15, 16, 17, 18, 19, 20, 21, 22, 23, 24, 25, 26, 27] rfl rfl rfl rfl ?tt ?hh ?ot ?ok hz; (case tt => (exact clhY)); (case hh => (exact clhY)); (case ot => (exact clkY)); (case ok => (exact clkY)))
set_option maxHeartbeats 8000000 in
theorem smallPlays_nil (r : Int) (a : Option Addr) : Gives Tryz.prog 8 [.int .i64 r, .raw (.slice a 0 0)] [pinE RTV] (Is .tt [pinE RTV]) := by
  refine abs_gives1 (fun _ _ => rfl) (fun _ _ => rfl) (fun _ _ => rfl) (fun _ _ => rfl) ?_
  have hX := hXMa
  obtain ⟨c1, c2⟩ := cAnd7 r
  have hl := bgW_len (cAnd 7 r)
  have hl' := hl.symm
  refine gives_x hX (fn := Tryz.f8) rfl rfl rfl rfl fun ρ w => ?_
  refine sxb hX [.l] [] 4000 rfl (by first | exact trivial | simp [conjP, getH, HE.so]) ?_
  refine ss_raw hX 8 2 rfl rfl fun v0 => ?_
  refine ss_raw hX 8 3 rfl rfl fun v1 => ?_
  refine ss_raw hX 9 2 rfl rfl fun v2 => ?_
  refine ss_raw hX 9 3 rfl rfl fun v3 => ?_
  refine ss_raw hX 10 2 rfl rfl fun v4 => ?_
  refine ss_raw hX 10 3 rfl rfl fun v5 => ?_
  refine ss_raw hX 11 2 rfl rfl fun v6 => ?_
  refine ss_raw hX 11 3 rfl rfl fun v7 => ?_
  have hz := ss_sw hX (cs := []) (sw_ss (hXTy ⟨none, none, v0, v2, false, 0, false, 0, w00, r00, dp0⟩) (cs := []) (yend (bb := false) (N := 0) (o := fun _ => (0, 0)) (R := cAnd 7 r) (ρ := ρ) (w := w) (z := (wd0 (cAnd 7 r) (vv v0 v1 v2 v3 v4 v5 v6 v7))) _ hl))
  refine sxb hX [.r 34] [] 4000 rfl (by (simp [-List.getD_eq_getElem?_getD, -List.length_eq_zero_iff, conjP] <;> (first | omega | ((repeat' (refine And.intro ?_ ?_)) <;> (first | omega | exact decide_eq_false (by omega) | exact decide_eq_true (by omega)))))) ?_
  refine sxb hX [.r 34] [.F] 4000 rfl (by (simp [-List.getD_eq_getElem?_getD, -List.length_eq_zero_iff, conjP, addOP] <;> (first | omega | ((repeat' (refine And.intro ?_ ?_)) <;> (first | omega | exact decide_eq_false (by omega) | exact decide_eq_true (by omega)))))) ?_
  (refine ss_sub hX (T' := [(5, .tt), (6, .ptr 2 0)]) (H' := ypH (scE false 0 (fun _ => (0, 0))) (cAnd 7 r) (wd0 (cAnd 7 r) (vv v0 v1 v2 v3 v4 v5 v6 v7)) []) [0, 1, 2, 3, 4, 5, 6, 7, 8, 9, 10, 11, 60, 61, 62, 63, 64, 65, 66, 67, 68, 69, 70, 71, 72, 73, 74, 75] rfl rfl rfl rfl ?tt ?hh ?ot ?ok hz; (case tt => (exact clhY)); (case hh => exact clhZ); (case ot => (exact clkY)); (case ok => exact clkZ))
end Go.Proofs.YtmghcelohnlceaaGreatDoor
namespace Go.Proofs.YtmghcelohnlceaaGreatDoor.smallPlays
open Go Go.Hx
abbrev ks28 : List (Option IntKind) := [some .i64, some .i64]
theorem row_of (l : List SV) (h : okK ks28 l) : ∃ o : Int × Int, l = actR (fun _ => o) 0 := by
  rcases l with _ | ⟨a, _ | ⟨b, _ | ⟨c, r⟩⟩⟩ <;> simp only [okK, and_false] at h
  obtain ⟨⟨n1, rfl, _⟩, ⟨n2, rfl, _⟩, _⟩ := h
  exact ⟨(n1, n2), rfl⟩
theorem rows_of (o : Nat → List SV) (h : ∀ i, okK ks28 (o i)) : ∃ q : Nat → Int × Int, o = actR q :=
  ⟨fun i => Classical.choose (row_of (o i) (h i)), funext fun i => Classical.choose_spec (row_of (o i) (h i))⟩
theorem walk_nil (a : Option Addr) (k : Int) (_ : (Lit.int .i64 k).wf = true) : ∃ L, Gives Tryz.prog 8 [.int .i64 k, .raw (.slice a 0 0)] [pinE RTV] (Is .tt L) := ⟨_, smallPlays_nil k a⟩
theorem walk (k : Int) (_ : (Lit.int .i64 k).wf = true) (o : Nat → List SV) (h : ∀ i, okK ks28 (o i)) (len cap : Nat) (_ : len ≤ maxLen) : ∃ L, Gives Tryz.prog 8 [.int .i64 k, .slice 0 0 len cap] [.obj (.rows len 2 o), pinE RTV] (Is .tt L) := by
  obtain ⟨q, rfl⟩ := rows_of o h
  exact ⟨_, smallPlays_fn k len cap q⟩
end Go.Proofs.YtmghcelohnlceaaGreatDoor.smallPlays
