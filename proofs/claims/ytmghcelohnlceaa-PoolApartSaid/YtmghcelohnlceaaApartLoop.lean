/- PoolApart: the turns of four clients -/
import Derived.Test.YtmghcelohnlceaaApartMain
namespace Go.Proofs.Ytmghcelohnlceaa
open Go Go.Hx
set_option maxRecDepth 8000
abbrev flP : List Fl := [.new, .new, .new, .new, .keep, .new, .new, .drop, .drop]
def pset (p : Nat → VV) (m : Nat) (v : VV) : Nat → VV := fun j => if j = m then v else p j
section
variable {n cap : Nat} {o : Nat → ActP} {A B : Int} {i : Nat} {k : Nat → Pk} {ρ : Nat → Nat × Nat} {w : World} {I : Act → World → Prop} {W : List Int} {st kd wd vl : Int} {ch : Bool} {p : Nat → VV} {G : List Int}
theorem inv_next {m : Nat} {c : Pk} {v : VV} {x : SP} {G' : List Int} (hm : m < 4) (hG : G.length = 4) (hg : ∀ m, m < 4 → G.getD m 0 = gb (k m).ph) (h : qPa A B i m k G ⟨x, c, v, G'⟩) : InvB A B (i + 1) ⟨x, kset k m c, pset p m v, G'⟩ := by
  obtain ⟨hs, hG', L, hq⟩ := h
  have hG' : G' = G.set m (gb c.ph) := hG'
  subst hG'
  refine ⟨hs, ⟨by rw [List.length_set]; exact hG, fun m' hm' => ?_⟩, L, hq⟩
  show (G.set m (gb c.ph)).getD m' 0 = gb (kset k m c m').ph
  rw [set_getD]
  by_cases e : m' = m
  · subst e; rw [if_pos ⟨rfl, by omega⟩, kset_same]
  · rw [if_neg (fun q => e q.1.symm), kset_other e]; exact hg m' hm'
set_option maxHeartbeats 4000000 in
theorem ap_play0 (hin : i < n) (hi : i < 200) (hI : InvB A B i ⟨⟨W, st, kd, wd, vl, ch⟩, k, p, G⟩) (e : ibits .and .i64 (o i).who 3 = 0)
    (back : ∀ s : AS, InvB A B (i + 1) s → ∀ cs T H, Sub (FEnv Try.prog (Xap A B true true).TE (hXap A B true true).te Try.f3 Try.f3.ntmps [.obj (.rows n 3 (actRow o))] (Is .tt [.obj (.rows n 3 (actRow o))]) ρ w) T H (spT (.slice 0 0 n cap) (i + 1)) (spH n o A B s.x s.k s.p s.G) → SS (hXap A B true true) (At ρ w) (Is .tt [.obj (.rows n 3 (actRow o))]) ⟨cs, [], Try.f3, Try.f3.ntmps, [.obj (.rows n 3 (actRow o))], .lp I :: dnLp (flatS (contF Try.f3 11 [I])), T, H⟩) : SS (hXap A B true true) (At ρ w) (Is .tt [.obj (.rows n 3 (actRow o))]) ⟨[], [], Try.f3, Try.f3.ntmps, [.obj (.rows n 3 (actRow o))], flatS (contF Try.f3 11 [I]), spT (.slice 0 0 n cap) i, spH n o A B ⟨W, st, kd, wd, vl, ch⟩ k p G⟩ := by
  obtain ⟨⟨s0, s1⟩, ⟨hG, hg⟩, L, hq⟩ := hI
  dsimp only at s0 s1 hG hg hq
  have hT : TurnH A B G n i 0 k L W st := ⟨hin, hi, hq, s0, s1, by decide, hG, hg 0 (by decide)⟩
  obtain ⟨b1, b3, ht⟩ := ap_turn (o := o) hT
  refine sxb (hXap A B true true) [.r 12] [] 4000 rfl (by simp [conjP, hin]) ?_
  simp only [Int.toNat_natCast, e]
  refine sxb (hXap A B true true) [.r 13] [] 4000 rfl (by first | exact trivial | simp [conjP]) ?_
  refine ss_sw (hXap A B true true) (sw_ss (hXap A B b1 b3) (cs := []) ?_)
  refine ss_split (hXap A B b1 b3) 30 ?_
  refine ss_frame2 (hXap A B b1 b3) (K1 := preK 30 (flatS (contF Try.f3 13 [I]))) (K2 := postK 30 (flatS (contF Try.f3 13 [I]))) (α := PQ) [0, 1, 2, 3, 4, 5, 6, 7, 8] flP (sqT n cap i 0) (sqH n o A B G ⟨W, st, kd, wd, vl, ch⟩ (k 0) (p 0)) (fun _ => sqTj n cap i) (fun q => sqJ n o A B (k 0) q.G q.x q.c q.p) (qPa A B i 0 k G) rfl rfl rfl (by (((repeat' (first | exact trivial | exact ⟨_, rfl⟩ | refine And.intro ?_ ?_)); done))) (by (repeat' (first | exact rfl | exact trivial | exact sim_refl _ | refine And.intro ?_ ?_))) (by (((repeat' (first | exact rfl | exact trivial | exact sim_refl _ | exact subE_same rfl ren_slE | exact subE_r rfl ren_slE ren_slE | exact subE_phE rfl rfl | exact sim_slV rfl | exact sim_slVr rfl | exact sim_slV3 rfl | exact sim_tkP rfl | exact sim_gvP rfl | exact sim_tkP3 rfl | exact sim_gvP3 rfl | (simp; done) | (unfold lst; simp; done) | refine And.intro ?_ ?_)); done))) (by (repeat' (first | exact rfl | exact trivial | exact sim_refl _ | refine And.intro ?_ ?_))) (by (((repeat' (first | exact rfl | exact trivial | exact okE_slE | exact okE_phE rfl | exact okP_slV rfl | exact okP_tkP rfl | exact okP_gvP rfl | refine And.intro ?_ ?_)); done))) (fun x _ => by (((repeat' (first | exact trivial | exact rfl | exact dim_of | exact okNew_slE | exact okNew_phE | refine And.intro ?_ ?_)); done))) (fun ρ1 w1 J hJ => ht cap ρ1 w1 I J kd wd vl ch (p 0) hJ) ?_
  rintro ⟨⟨W', st', kd', wd', vl', ch'⟩, c, v, G'⟩ hq'
  refine ss_sw (hXap A B b1 b3) (sw_ss (hXap A B true true) (cs := []) ?_)
  have hinv := inv_next (p := p) (by decide) hG hg hq'
  refine ss_sub (hXap A B true true) (T' := spT (.slice 0 0 n cap) i) (H' := spH n o A B ⟨W', st', kd', wd', vl', ch'⟩ (kset k 0 c) (pset p 0 v) G') [0, 1, 2, 3, 4, 5, 6, 18, 19, 9, 10, 11, 12, 13, 14, 15, 16, 17] rfl rfl rfl rfl (by (repeat' (first | exact rfl | exact trivial | exact sim_refl _ | refine And.intro ?_ ?_))) ?hh (by (repeat' (first | exact rfl | exact trivial | exact sim_refl _ | refine And.intro ?_ ?_))) ?ok ?_
  case hh =>
    simp only [sqJ, spH, mergeB, layB, appL, renL, dropL, setN, dimN, ren_obj, SO.ren, SV.rens, SV.ren, ren_slVe, ren_tkP, ren_gvP, ren_slE, ren_phE, sig, List.length_cons, List.length_nil]
    (((repeat' (first | exact rfl | exact trivial | exact sim_refl _ | exact subE_same rfl ren_slE | exact subE_r rfl ren_slE ren_slE | exact subE_phE rfl rfl | exact sim_slV rfl | exact sim_slVr rfl | exact sim_slV3 rfl | exact sim_tkP rfl | exact sim_gvP rfl | exact sim_tkP3 rfl | exact sim_gvP3 rfl | (simp; done) | (unfold lst; simp; done) | refine And.intro ?_ ?_)); done))
  case ok => (((repeat' (first | exact rfl | exact trivial | exact okE_slE | exact okE_phE rfl | exact okP_slV rfl | exact okP_tkP rfl | exact okP_gvP rfl | refine And.intro ?_ ?_)); done))
  exact ck_main hi hinv (back _ hinv)
set_option maxHeartbeats 4000000 in
theorem ap_play1 (hin : i < n) (hi : i < 200) (hI : InvB A B i ⟨⟨W, st, kd, wd, vl, ch⟩, k, p, G⟩) (e : ibits .and .i64 (o i).who 3 = 1)
    (back : ∀ s : AS, InvB A B (i + 1) s → ∀ cs T H, Sub (FEnv Try.prog (Xap A B true true).TE (hXap A B true true).te Try.f3 Try.f3.ntmps [.obj (.rows n 3 (actRow o))] (Is .tt [.obj (.rows n 3 (actRow o))]) ρ w) T H (spT (.slice 0 0 n cap) (i + 1)) (spH n o A B s.x s.k s.p s.G) → SS (hXap A B true true) (At ρ w) (Is .tt [.obj (.rows n 3 (actRow o))]) ⟨cs, [], Try.f3, Try.f3.ntmps, [.obj (.rows n 3 (actRow o))], .lp I :: dnLp (flatS (contF Try.f3 11 [I])), T, H⟩) : SS (hXap A B true true) (At ρ w) (Is .tt [.obj (.rows n 3 (actRow o))]) ⟨[], [], Try.f3, Try.f3.ntmps, [.obj (.rows n 3 (actRow o))], flatS (contF Try.f3 11 [I]), spT (.slice 0 0 n cap) i, spH n o A B ⟨W, st, kd, wd, vl, ch⟩ k p G⟩ := by
  obtain ⟨⟨s0, s1⟩, ⟨hG, hg⟩, L, hq⟩ := hI
  dsimp only at s0 s1 hG hg hq
  have hT : TurnH A B G n i 1 k L W st := ⟨hin, hi, hq, s0, s1, by decide, hG, hg 1 (by decide)⟩
  obtain ⟨b1, b3, ht⟩ := ap_turn (o := o) hT
  refine sxb (hXap A B true true) [.r 12] [] 4000 rfl (by simp [conjP, hin]) ?_
  simp only [Int.toNat_natCast, e]
  refine sxb (hXap A B true true) [.r 13] [] 4000 rfl (by first | exact trivial | simp [conjP]) ?_
  refine ss_sw (hXap A B true true) (sw_ss (hXap A B b1 b3) (cs := []) ?_)
  refine ss_split (hXap A B b1 b3) 30 ?_
  refine ss_frame2 (hXap A B b1 b3) (K1 := preK 30 (flatS (contF Try.f3 13 [I]))) (K2 := postK 30 (flatS (contF Try.f3 13 [I]))) (α := PQ) [0, 1, 2, 3, 4, 5, 9, 10, 11] flP (sqT n cap i 1) (sqH n o A B G ⟨W, st, kd, wd, vl, ch⟩ (k 1) (p 1)) (fun _ => sqTj n cap i) (fun q => sqJ n o A B (k 1) q.G q.x q.c q.p) (qPa A B i 1 k G) rfl rfl rfl (by (((repeat' (first | exact trivial | exact ⟨_, rfl⟩ | refine And.intro ?_ ?_)); done))) (by (repeat' (first | exact rfl | exact trivial | exact sim_refl _ | refine And.intro ?_ ?_))) (by (((repeat' (first | exact rfl | exact trivial | exact sim_refl _ | exact subE_same rfl ren_slE | exact subE_r rfl ren_slE ren_slE | exact subE_phE rfl rfl | exact sim_slV rfl | exact sim_slVr rfl | exact sim_slV3 rfl | exact sim_tkP rfl | exact sim_gvP rfl | exact sim_tkP3 rfl | exact sim_gvP3 rfl | (simp; done) | (unfold lst; simp; done) | refine And.intro ?_ ?_)); done))) (by (repeat' (first | exact rfl | exact trivial | exact sim_refl _ | refine And.intro ?_ ?_))) (by (((repeat' (first | exact rfl | exact trivial | exact okE_slE | exact okE_phE rfl | exact okP_slV rfl | exact okP_tkP rfl | exact okP_gvP rfl | refine And.intro ?_ ?_)); done))) (fun x _ => by (((repeat' (first | exact trivial | exact rfl | exact dim_of | exact okNew_slE | exact okNew_phE | refine And.intro ?_ ?_)); done))) (fun ρ1 w1 J hJ => ht cap ρ1 w1 I J kd wd vl ch (p 1) hJ) ?_
  rintro ⟨⟨W', st', kd', wd', vl', ch'⟩, c, v, G'⟩ hq'
  refine ss_sw (hXap A B b1 b3) (sw_ss (hXap A B true true) (cs := []) ?_)
  have hinv := inv_next (p := p) (by decide) hG hg hq'
  refine ss_sub (hXap A B true true) (T' := spT (.slice 0 0 n cap) i) (H' := spH n o A B ⟨W', st', kd', wd', vl', ch'⟩ (kset k 1 c) (pset p 1 v) G') [0, 1, 2, 3, 4, 5, 6, 7, 8, 9, 18, 19, 12, 13, 14, 15, 16, 17] rfl rfl rfl rfl (by (repeat' (first | exact rfl | exact trivial | exact sim_refl _ | refine And.intro ?_ ?_))) ?hh (by (repeat' (first | exact rfl | exact trivial | exact sim_refl _ | refine And.intro ?_ ?_))) ?ok ?_
  case hh =>
    simp only [sqJ, spH, mergeB, layB, appL, renL, dropL, setN, dimN, ren_obj, SO.ren, SV.rens, SV.ren, ren_slVe, ren_tkP, ren_gvP, ren_slE, ren_phE, sig, List.length_cons, List.length_nil]
    (((repeat' (first | exact rfl | exact trivial | exact sim_refl _ | exact subE_same rfl ren_slE | exact subE_r rfl ren_slE ren_slE | exact subE_phE rfl rfl | exact sim_slV rfl | exact sim_slVr rfl | exact sim_slV3 rfl | exact sim_tkP rfl | exact sim_gvP rfl | exact sim_tkP3 rfl | exact sim_gvP3 rfl | (simp; done) | (unfold lst; simp; done) | refine And.intro ?_ ?_)); done))
  case ok => (((repeat' (first | exact rfl | exact trivial | exact okE_slE | exact okE_phE rfl | exact okP_slV rfl | exact okP_tkP rfl | exact okP_gvP rfl | refine And.intro ?_ ?_)); done))
  exact ck_main hi hinv (back _ hinv)
set_option maxHeartbeats 4000000 in
theorem ap_play2 (hin : i < n) (hi : i < 200) (hI : InvB A B i ⟨⟨W, st, kd, wd, vl, ch⟩, k, p, G⟩) (e : ibits .and .i64 (o i).who 3 = 2)
    (back : ∀ s : AS, InvB A B (i + 1) s → ∀ cs T H, Sub (FEnv Try.prog (Xap A B true true).TE (hXap A B true true).te Try.f3 Try.f3.ntmps [.obj (.rows n 3 (actRow o))] (Is .tt [.obj (.rows n 3 (actRow o))]) ρ w) T H (spT (.slice 0 0 n cap) (i + 1)) (spH n o A B s.x s.k s.p s.G) → SS (hXap A B true true) (At ρ w) (Is .tt [.obj (.rows n 3 (actRow o))]) ⟨cs, [], Try.f3, Try.f3.ntmps, [.obj (.rows n 3 (actRow o))], .lp I :: dnLp (flatS (contF Try.f3 11 [I])), T, H⟩) : SS (hXap A B true true) (At ρ w) (Is .tt [.obj (.rows n 3 (actRow o))]) ⟨[], [], Try.f3, Try.f3.ntmps, [.obj (.rows n 3 (actRow o))], flatS (contF Try.f3 11 [I]), spT (.slice 0 0 n cap) i, spH n o A B ⟨W, st, kd, wd, vl, ch⟩ k p G⟩ := by
  obtain ⟨⟨s0, s1⟩, ⟨hG, hg⟩, L, hq⟩ := hI
  dsimp only at s0 s1 hG hg hq
  have hT : TurnH A B G n i 2 k L W st := ⟨hin, hi, hq, s0, s1, by decide, hG, hg 2 (by decide)⟩
  obtain ⟨b1, b3, ht⟩ := ap_turn (o := o) hT
  refine sxb (hXap A B true true) [.r 12] [] 4000 rfl (by simp [conjP, hin]) ?_
  simp only [Int.toNat_natCast, e]
  refine sxb (hXap A B true true) [.r 13] [] 4000 rfl (by first | exact trivial | simp [conjP]) ?_
  refine ss_sw (hXap A B true true) (sw_ss (hXap A B b1 b3) (cs := []) ?_)
  refine ss_split (hXap A B b1 b3) 30 ?_
  refine ss_frame2 (hXap A B b1 b3) (K1 := preK 30 (flatS (contF Try.f3 13 [I]))) (K2 := postK 30 (flatS (contF Try.f3 13 [I]))) (α := PQ) [0, 1, 2, 3, 4, 5, 12, 13, 14] flP (sqT n cap i 2) (sqH n o A B G ⟨W, st, kd, wd, vl, ch⟩ (k 2) (p 2)) (fun _ => sqTj n cap i) (fun q => sqJ n o A B (k 2) q.G q.x q.c q.p) (qPa A B i 2 k G) rfl rfl rfl (by (((repeat' (first | exact trivial | exact ⟨_, rfl⟩ | refine And.intro ?_ ?_)); done))) (by (repeat' (first | exact rfl | exact trivial | exact sim_refl _ | refine And.intro ?_ ?_))) (by (((repeat' (first | exact rfl | exact trivial | exact sim_refl _ | exact subE_same rfl ren_slE | exact subE_r rfl ren_slE ren_slE | exact subE_phE rfl rfl | exact sim_slV rfl | exact sim_slVr rfl | exact sim_slV3 rfl | exact sim_tkP rfl | exact sim_gvP rfl | exact sim_tkP3 rfl | exact sim_gvP3 rfl | (simp; done) | (unfold lst; simp; done) | refine And.intro ?_ ?_)); done))) (by (repeat' (first | exact rfl | exact trivial | exact sim_refl _ | refine And.intro ?_ ?_))) (by (((repeat' (first | exact rfl | exact trivial | exact okE_slE | exact okE_phE rfl | exact okP_slV rfl | exact okP_tkP rfl | exact okP_gvP rfl | refine And.intro ?_ ?_)); done))) (fun x _ => by (((repeat' (first | exact trivial | exact rfl | exact dim_of | exact okNew_slE | exact okNew_phE | refine And.intro ?_ ?_)); done))) (fun ρ1 w1 J hJ => ht cap ρ1 w1 I J kd wd vl ch (p 2) hJ) ?_
  rintro ⟨⟨W', st', kd', wd', vl', ch'⟩, c, v, G'⟩ hq'
  refine ss_sw (hXap A B b1 b3) (sw_ss (hXap A B true true) (cs := []) ?_)
  have hinv := inv_next (p := p) (by decide) hG hg hq'
  refine ss_sub (hXap A B true true) (T' := spT (.slice 0 0 n cap) i) (H' := spH n o A B ⟨W', st', kd', wd', vl', ch'⟩ (kset k 2 c) (pset p 2 v) G') [0, 1, 2, 3, 4, 5, 6, 7, 8, 9, 10, 11, 12, 18, 19, 15, 16, 17] rfl rfl rfl rfl (by (repeat' (first | exact rfl | exact trivial | exact sim_refl _ | refine And.intro ?_ ?_))) ?hh (by (repeat' (first | exact rfl | exact trivial | exact sim_refl _ | refine And.intro ?_ ?_))) ?ok ?_
  case hh =>
    simp only [sqJ, spH, mergeB, layB, appL, renL, dropL, setN, dimN, ren_obj, SO.ren, SV.rens, SV.ren, ren_slVe, ren_tkP, ren_gvP, ren_slE, ren_phE, sig, List.length_cons, List.length_nil]
    (((repeat' (first | exact rfl | exact trivial | exact sim_refl _ | exact subE_same rfl ren_slE | exact subE_r rfl ren_slE ren_slE | exact subE_phE rfl rfl | exact sim_slV rfl | exact sim_slVr rfl | exact sim_slV3 rfl | exact sim_tkP rfl | exact sim_gvP rfl | exact sim_tkP3 rfl | exact sim_gvP3 rfl | (simp; done) | (unfold lst; simp; done) | refine And.intro ?_ ?_)); done))
  case ok => (((repeat' (first | exact rfl | exact trivial | exact okE_slE | exact okE_phE rfl | exact okP_slV rfl | exact okP_tkP rfl | exact okP_gvP rfl | refine And.intro ?_ ?_)); done))
  exact ck_main hi hinv (back _ hinv)
set_option maxHeartbeats 4000000 in
theorem ap_play3 (hin : i < n) (hi : i < 200) (hI : InvB A B i ⟨⟨W, st, kd, wd, vl, ch⟩, k, p, G⟩) (e : ibits .and .i64 (o i).who 3 = 3)
    (back : ∀ s : AS, InvB A B (i + 1) s → ∀ cs T H, Sub (FEnv Try.prog (Xap A B true true).TE (hXap A B true true).te Try.f3 Try.f3.ntmps [.obj (.rows n 3 (actRow o))] (Is .tt [.obj (.rows n 3 (actRow o))]) ρ w) T H (spT (.slice 0 0 n cap) (i + 1)) (spH n o A B s.x s.k s.p s.G) → SS (hXap A B true true) (At ρ w) (Is .tt [.obj (.rows n 3 (actRow o))]) ⟨cs, [], Try.f3, Try.f3.ntmps, [.obj (.rows n 3 (actRow o))], .lp I :: dnLp (flatS (contF Try.f3 11 [I])), T, H⟩) : SS (hXap A B true true) (At ρ w) (Is .tt [.obj (.rows n 3 (actRow o))]) ⟨[], [], Try.f3, Try.f3.ntmps, [.obj (.rows n 3 (actRow o))], flatS (contF Try.f3 11 [I]), spT (.slice 0 0 n cap) i, spH n o A B ⟨W, st, kd, wd, vl, ch⟩ k p G⟩ := by
  obtain ⟨⟨s0, s1⟩, ⟨hG, hg⟩, L, hq⟩ := hI
  dsimp only at s0 s1 hG hg hq
  have hT : TurnH A B G n i 3 k L W st := ⟨hin, hi, hq, s0, s1, by decide, hG, hg 3 (by decide)⟩
  obtain ⟨b1, b3, ht⟩ := ap_turn (o := o) hT
  refine sxb (hXap A B true true) [.r 12] [] 4000 rfl (by simp [conjP, hin]) ?_
  simp only [Int.toNat_natCast, e]
  refine sxb (hXap A B true true) [.r 13] [] 4000 rfl (by first | exact trivial | simp [conjP]) ?_
  refine ss_sw (hXap A B true true) (sw_ss (hXap A B b1 b3) (cs := []) ?_)
  refine ss_split (hXap A B b1 b3) 30 ?_
  refine ss_frame2 (hXap A B b1 b3) (K1 := preK 30 (flatS (contF Try.f3 13 [I]))) (K2 := postK 30 (flatS (contF Try.f3 13 [I]))) (α := PQ) [0, 1, 2, 3, 4, 5, 15, 16, 17] flP (sqT n cap i 3) (sqH n o A B G ⟨W, st, kd, wd, vl, ch⟩ (k 3) (p 3)) (fun _ => sqTj n cap i) (fun q => sqJ n o A B (k 3) q.G q.x q.c q.p) (qPa A B i 3 k G) rfl rfl rfl (by (((repeat' (first | exact trivial | exact ⟨_, rfl⟩ | refine And.intro ?_ ?_)); done))) (by (repeat' (first | exact rfl | exact trivial | exact sim_refl _ | refine And.intro ?_ ?_))) (by (((repeat' (first | exact rfl | exact trivial | exact sim_refl _ | exact subE_same rfl ren_slE | exact subE_r rfl ren_slE ren_slE | exact subE_phE rfl rfl | exact sim_slV rfl | exact sim_slVr rfl | exact sim_slV3 rfl | exact sim_tkP rfl | exact sim_gvP rfl | exact sim_tkP3 rfl | exact sim_gvP3 rfl | (simp; done) | (unfold lst; simp; done) | refine And.intro ?_ ?_)); done))) (by (repeat' (first | exact rfl | exact trivial | exact sim_refl _ | refine And.intro ?_ ?_))) (by (((repeat' (first | exact rfl | exact trivial | exact okE_slE | exact okE_phE rfl | exact okP_slV rfl | exact okP_tkP rfl | exact okP_gvP rfl | refine And.intro ?_ ?_)); done))) (fun x _ => by (((repeat' (first | exact trivial | exact rfl | exact dim_of | exact okNew_slE | exact okNew_phE | refine And.intro ?_ ?_)); done))) (fun ρ1 w1 J hJ => ht cap ρ1 w1 I J kd wd vl ch (p 3) hJ) ?_
  rintro ⟨⟨W', st', kd', wd', vl', ch'⟩, c, v, G'⟩ hq'
  refine ss_sw (hXap A B b1 b3) (sw_ss (hXap A B true true) (cs := []) ?_)
  have hinv := inv_next (p := p) (by decide) hG hg hq'
  refine ss_sub (hXap A B true true) (T' := spT (.slice 0 0 n cap) i) (H' := spH n o A B ⟨W', st', kd', wd', vl', ch'⟩ (kset k 3 c) (pset p 3 v) G') [0, 1, 2, 3, 4, 5, 6, 7, 8, 9, 10, 11, 12, 13, 14, 15, 18, 19] rfl rfl rfl rfl (by (repeat' (first | exact rfl | exact trivial | exact sim_refl _ | refine And.intro ?_ ?_))) ?hh (by (repeat' (first | exact rfl | exact trivial | exact sim_refl _ | refine And.intro ?_ ?_))) ?ok ?_
  case hh =>
    simp only [sqJ, spH, mergeB, layB, appL, renL, dropL, setN, dimN, ren_obj, SO.ren, SV.rens, SV.ren, ren_slVe, ren_tkP, ren_gvP, ren_slE, ren_phE, sig, List.length_cons, List.length_nil]
    (((repeat' (first | exact rfl | exact trivial | exact sim_refl _ | exact subE_same rfl ren_slE | exact subE_r rfl ren_slE ren_slE | exact subE_phE rfl rfl | exact sim_slV rfl | exact sim_slVr rfl | exact sim_slV3 rfl | exact sim_tkP rfl | exact sim_gvP rfl | exact sim_tkP3 rfl | exact sim_gvP3 rfl | (simp; done) | (unfold lst; simp; done) | refine And.intro ?_ ?_)); done))
  case ok => (((repeat' (first | exact rfl | exact trivial | exact okE_slE | exact okE_phE rfl | exact okP_slV rfl | exact okP_tkP rfl | exact okP_gvP rfl | refine And.intro ?_ ?_)); done))
  exact ck_main hi hinv (back _ hinv)
end
end Go.Proofs.Ytmghcelohnlceaa
