/- The turns of four clients. -/
import Derived.Test.YtmghcelohnlceaaPlaysTurn
namespace Go.Proofs.Ytmghcelohnlceaa
open Go Go.Hx
set_option maxRecDepth 8000
/-- Behind the loop's head. -/
def dnLp : List KI → List KI
  | [] => []
  | .lp _ :: k => k
  | _ :: k => dnLp k
abbrev kpO : HE := .obj (.cells [.ptr 7 0, .ptr 11 0, .ptr 15 0, .ptr 19 0] 36)
def spH (n : Nat) (o : Nat → ActP) (A B : Int) (x : SP) (k : Nat → Pk) (p : Nat → VV) : List HE :=
  [.obj (.rows n 3 (actRow o)), cfO A B, WO x.W, AOx 2 x.W x.st x.kd x.wd x.vl x.ch, WO x.W, ROx 4 x.W x.st x.kd x.wd x.vl x.ch, kpO,
    cqO 7 8 9 10 (k 0) (p 0), slE (k 0).own .i64 3, phE A B 9 (k 0).ph, rphE A B (k 0).ph,
    cqO 11 12 13 14 (k 1) (p 1), slE (k 1).own .i64 3, phE A B 13 (k 1).ph, rphE A B (k 1).ph,
    cqO 15 16 17 18 (k 2) (p 2), slE (k 2).own .i64 3, phE A B 17 (k 2).ph, rphE A B (k 2).ph,
    cqO 19 20 21 22 (k 3) (p 3), slE (k 3).own .i64 3, phE A B 21 (k 3).ph, rphE A B (k 3).ph]
def spT (sv : SV) (i : Nat) : List (Nat × SV) := [(1, sv), (5, .tt), (6, .ptr 1 0), (7, .ptr 3 0), (9, .ptr 5 0), (10, .slice 6 0 4 4), (11, .int .i64 (i : Int))]
structure AS where
  x : SP
  k : Nat → Pk
  p : Nat → VV
def InvB (A B : Int) (i : Nat) (s : AS) : Prop := (0 ≤ s.x.st ∧ s.x.st ≤ 30 + (i : Int)) ∧ ∃ L, InvQ A B i s.x.W s.k L
abbrev flP : List Fl := [.new, .new, .new, .new, .new, .new, .keep, .new, .drop, .drop, .drop]
def pset (p : Nat → VV) (m : Nat) (v : VV) : Nat → VV := fun j => if j = m then v else p j
section
variable {n cap : Nat} {o : Nat → ActP} {A B : Int} {i : Nat} {k : Nat → Pk} {ρ : Nat → Nat × Nat} {w : World} {I : Act → World → Prop} {W : List Int} {st kd wd vl : Int} {ch : Bool} {p : Nat → VV}
set_option maxHeartbeats 4000000 in
theorem pl_play0 (hin : i < n) (hi : i < 150) (hI : InvB A B i ⟨⟨W, st, kd, wd, vl, ch⟩, k, p⟩) (e : ibits .and .i64 (o i).who 3 = 0)
    (back : ∀ s : AS, InvB A B (i + 1) s → ∀ cs T H, Sub (FEnv Try.prog (Xpl A B true true).TE (hXpl A B true true).te Try.f7 Try.f7.ntmps [.obj (.rows n 3 (actRow o))] (Is .tt [.obj (.rows n 3 (actRow o))]) ρ w) T H (spT (.slice 0 0 n cap) (i + 1)) (spH n o A B s.x s.k s.p) → SS (hXpl A B true true) (At ρ w) (Is .tt [.obj (.rows n 3 (actRow o))]) ⟨cs, [], Try.f7, Try.f7.ntmps, [.obj (.rows n 3 (actRow o))], .lp I :: dnLp (contF Try.f7 11 [I]), T, H⟩) :
    SS (hXpl A B true true) (At ρ w) (Is .tt [.obj (.rows n 3 (actRow o))]) ⟨[], [], Try.f7, Try.f7.ntmps, [.obj (.rows n 3 (actRow o))], contF Try.f7 11 [I], spT (.slice 0 0 n cap) i, spH n o A B ⟨W, st, kd, wd, vl, ch⟩ k p⟩ := by
  obtain ⟨⟨s0, s1⟩, L, hq⟩ := hI
  dsimp only at s0 s1 hq
  have hT : TurnH A B n i 0 k L W st := ⟨hin, hi, hq, s0, s1, by decide⟩
  obtain ⟨b1, b3, ht⟩ := pl_turn (o := o) hT
  refine sx (hXpl A B true true) [] 8 rfl (by simp [conjP, hin]; omega) ?_
  simp only [Int.toNat_natCast, e]
  refine sxb (hXpl A B true true) [.r 12] [] 4000 rfl (by first | exact trivial | simp [conjP, hin]) ?_
  refine ss_sw (hXpl A B true true) (sw_ss (hXpl A B b1 b3) (cs := []) ?_)
  refine ss_frame (hXpl A B b1 b3) (K1 := upLp (contF Try.f7 12 [I])) (α := PQ) [0, 1, 2, 3, 4, 5, 6, 7, 8, 9, 10] flP (sqT n cap i) (sqH n o A B ⟨W, st, kd, wd, vl, ch⟩ (k 0) (p 0)) (fun _ => sqTj n cap i) (fun q => sqJ n o A B (k 0) q.x q.c q.p) (qPa A B i 0 k) rfl rfl rfl (by (((repeat' (first | exact trivial | exact ⟨_, rfl⟩ | refine And.intro ?_ ?_)); done))) (by (repeat' (first | exact rfl | exact trivial | exact sim_refl _ | refine And.intro ?_ ?_))) (by (((repeat' (first | exact rfl | exact trivial | exact sim_refl _ | exact subE_same rfl ren_slE | exact subE_r rfl ren_slE ren_slE | exact subE_phE rfl rfl | exact sim_slV rfl | exact sim_slVr rfl | exact sim_slV3 rfl | exact sim_tkP rfl | exact sim_gvP rfl | exact sim_tkP3 rfl | exact sim_gvP3 rfl | exact subE_same rfl ren_rphE | exact subE_r rfl ren_rphE ren_rphE | exact sim_rtP rfl | exact sim_rgP rfl | exact sim_rtP3 rfl | exact sim_rgP3 rfl | refine And.intro ?_ ?_)); done))) (by (repeat' (first | exact rfl | exact trivial | exact sim_refl _ | refine And.intro ?_ ?_))) (by (((repeat' (first | exact rfl | exact trivial | exact okE_slE | exact okE_phE rfl | exact okP_slV rfl | exact okP_tkP rfl | exact okP_gvP rfl | exact okE_rphE | exact okP_rtP rfl | exact okP_rgP rfl | refine And.intro ?_ ?_)); done))) (fun x _ => by (((repeat' (first | exact trivial | exact rfl | exact dim_of | exact okNew_slE | exact okNew_phE | exact okNew_rphE | refine And.intro ?_ ?_)); done))) (fun ρ1 w1 J hJ => ht cap ρ1 w1 _ J kd wd vl ch (p 0) hJ) ?_
  rintro ⟨⟨W', st', kd', wd', vl', ch'⟩, c, v⟩ hq'
  refine ss_sw (hXpl A B b1 b3) (sw_ss (hXpl A B true true) (cs := []) ?_)
  refine back ⟨⟨W', st', kd', wd', vl', ch'⟩, kset k 0 c, pset p 0 v⟩ hq' _ _ _ (sub_of [0, 1, 2, 3, 4, 5, 6, 7, 23, 24, 25, 11, 12, 13, 14, 15, 16, 17, 18, 19, 20, 21, 22] rfl rfl rfl rfl (by (repeat' (first | exact rfl | exact trivial | exact sim_refl _ | refine And.intro ?_ ?_))) ?hh (by (repeat' (first | exact rfl | exact trivial | exact sim_refl _ | refine And.intro ?_ ?_))) ?ok)
  case hh =>
    simp only [sqJ, spH, mergeB, layB, appL, renL, dropL, setN, dimN, ren_obj, SO.ren, SV.rens, SV.ren, ren_slVe, ren_tkP, ren_gvP, ren_rtP, ren_rgP, ren_rphE, ren_slE, ren_phE, sig, List.length_cons, List.length_nil]
    (((repeat' (first | exact rfl | exact trivial | exact sim_refl _ | exact subE_same rfl ren_slE | exact subE_r rfl ren_slE ren_slE | exact subE_phE rfl rfl | exact sim_slV rfl | exact sim_slVr rfl | exact sim_slV3 rfl | exact sim_tkP rfl | exact sim_gvP rfl | exact sim_tkP3 rfl | exact sim_gvP3 rfl | exact subE_same rfl ren_rphE | exact subE_r rfl ren_rphE ren_rphE | exact sim_rtP rfl | exact sim_rgP rfl | exact sim_rtP3 rfl | exact sim_rgP3 rfl | refine And.intro ?_ ?_)); done))
  case ok => (((repeat' (first | exact rfl | exact trivial | exact okE_slE | exact okE_phE rfl | exact okP_slV rfl | exact okP_tkP rfl | exact okP_gvP rfl | exact okE_rphE | exact okP_rtP rfl | exact okP_rgP rfl | refine And.intro ?_ ?_)); done))
set_option maxHeartbeats 4000000 in
theorem pl_play1 (hin : i < n) (hi : i < 150) (hI : InvB A B i ⟨⟨W, st, kd, wd, vl, ch⟩, k, p⟩) (e : ibits .and .i64 (o i).who 3 = 1)
    (back : ∀ s : AS, InvB A B (i + 1) s → ∀ cs T H, Sub (FEnv Try.prog (Xpl A B true true).TE (hXpl A B true true).te Try.f7 Try.f7.ntmps [.obj (.rows n 3 (actRow o))] (Is .tt [.obj (.rows n 3 (actRow o))]) ρ w) T H (spT (.slice 0 0 n cap) (i + 1)) (spH n o A B s.x s.k s.p) → SS (hXpl A B true true) (At ρ w) (Is .tt [.obj (.rows n 3 (actRow o))]) ⟨cs, [], Try.f7, Try.f7.ntmps, [.obj (.rows n 3 (actRow o))], .lp I :: dnLp (contF Try.f7 11 [I]), T, H⟩) :
    SS (hXpl A B true true) (At ρ w) (Is .tt [.obj (.rows n 3 (actRow o))]) ⟨[], [], Try.f7, Try.f7.ntmps, [.obj (.rows n 3 (actRow o))], contF Try.f7 11 [I], spT (.slice 0 0 n cap) i, spH n o A B ⟨W, st, kd, wd, vl, ch⟩ k p⟩ := by
  obtain ⟨⟨s0, s1⟩, L, hq⟩ := hI
  dsimp only at s0 s1 hq
  have hT : TurnH A B n i 1 k L W st := ⟨hin, hi, hq, s0, s1, by decide⟩
  obtain ⟨b1, b3, ht⟩ := pl_turn (o := o) hT
  refine sx (hXpl A B true true) [] 8 rfl (by simp [conjP, hin]; omega) ?_
  simp only [Int.toNat_natCast, e]
  refine sxb (hXpl A B true true) [.r 12] [] 4000 rfl (by first | exact trivial | simp [conjP, hin]) ?_
  refine ss_sw (hXpl A B true true) (sw_ss (hXpl A B b1 b3) (cs := []) ?_)
  refine ss_frame (hXpl A B b1 b3) (K1 := upLp (contF Try.f7 12 [I])) (α := PQ) [0, 1, 2, 3, 4, 5, 6, 11, 12, 13, 14] flP (sqT n cap i) (sqH n o A B ⟨W, st, kd, wd, vl, ch⟩ (k 1) (p 1)) (fun _ => sqTj n cap i) (fun q => sqJ n o A B (k 1) q.x q.c q.p) (qPa A B i 1 k) rfl rfl rfl (by (((repeat' (first | exact trivial | exact ⟨_, rfl⟩ | refine And.intro ?_ ?_)); done))) (by (repeat' (first | exact rfl | exact trivial | exact sim_refl _ | refine And.intro ?_ ?_))) (by (((repeat' (first | exact rfl | exact trivial | exact sim_refl _ | exact subE_same rfl ren_slE | exact subE_r rfl ren_slE ren_slE | exact subE_phE rfl rfl | exact sim_slV rfl | exact sim_slVr rfl | exact sim_slV3 rfl | exact sim_tkP rfl | exact sim_gvP rfl | exact sim_tkP3 rfl | exact sim_gvP3 rfl | exact subE_same rfl ren_rphE | exact subE_r rfl ren_rphE ren_rphE | exact sim_rtP rfl | exact sim_rgP rfl | exact sim_rtP3 rfl | exact sim_rgP3 rfl | refine And.intro ?_ ?_)); done))) (by (repeat' (first | exact rfl | exact trivial | exact sim_refl _ | refine And.intro ?_ ?_))) (by (((repeat' (first | exact rfl | exact trivial | exact okE_slE | exact okE_phE rfl | exact okP_slV rfl | exact okP_tkP rfl | exact okP_gvP rfl | exact okE_rphE | exact okP_rtP rfl | exact okP_rgP rfl | refine And.intro ?_ ?_)); done))) (fun x _ => by (((repeat' (first | exact trivial | exact rfl | exact dim_of | exact okNew_slE | exact okNew_phE | exact okNew_rphE | refine And.intro ?_ ?_)); done))) (fun ρ1 w1 J hJ => ht cap ρ1 w1 _ J kd wd vl ch (p 1) hJ) ?_
  rintro ⟨⟨W', st', kd', wd', vl', ch'⟩, c, v⟩ hq'
  refine ss_sw (hXpl A B b1 b3) (sw_ss (hXpl A B true true) (cs := []) ?_)
  refine back ⟨⟨W', st', kd', wd', vl', ch'⟩, kset k 1 c, pset p 1 v⟩ hq' _ _ _ (sub_of [0, 1, 2, 3, 4, 5, 6, 7, 8, 9, 10, 11, 23, 24, 25, 15, 16, 17, 18, 19, 20, 21, 22] rfl rfl rfl rfl (by (repeat' (first | exact rfl | exact trivial | exact sim_refl _ | refine And.intro ?_ ?_))) ?hh (by (repeat' (first | exact rfl | exact trivial | exact sim_refl _ | refine And.intro ?_ ?_))) ?ok)
  case hh =>
    simp only [sqJ, spH, mergeB, layB, appL, renL, dropL, setN, dimN, ren_obj, SO.ren, SV.rens, SV.ren, ren_slVe, ren_tkP, ren_gvP, ren_rtP, ren_rgP, ren_rphE, ren_slE, ren_phE, sig, List.length_cons, List.length_nil]
    (((repeat' (first | exact rfl | exact trivial | exact sim_refl _ | exact subE_same rfl ren_slE | exact subE_r rfl ren_slE ren_slE | exact subE_phE rfl rfl | exact sim_slV rfl | exact sim_slVr rfl | exact sim_slV3 rfl | exact sim_tkP rfl | exact sim_gvP rfl | exact sim_tkP3 rfl | exact sim_gvP3 rfl | exact subE_same rfl ren_rphE | exact subE_r rfl ren_rphE ren_rphE | exact sim_rtP rfl | exact sim_rgP rfl | exact sim_rtP3 rfl | exact sim_rgP3 rfl | refine And.intro ?_ ?_)); done))
  case ok => (((repeat' (first | exact rfl | exact trivial | exact okE_slE | exact okE_phE rfl | exact okP_slV rfl | exact okP_tkP rfl | exact okP_gvP rfl | exact okE_rphE | exact okP_rtP rfl | exact okP_rgP rfl | refine And.intro ?_ ?_)); done))
set_option maxHeartbeats 4000000 in
theorem pl_play2 (hin : i < n) (hi : i < 150) (hI : InvB A B i ⟨⟨W, st, kd, wd, vl, ch⟩, k, p⟩) (e : ibits .and .i64 (o i).who 3 = 2)
    (back : ∀ s : AS, InvB A B (i + 1) s → ∀ cs T H, Sub (FEnv Try.prog (Xpl A B true true).TE (hXpl A B true true).te Try.f7 Try.f7.ntmps [.obj (.rows n 3 (actRow o))] (Is .tt [.obj (.rows n 3 (actRow o))]) ρ w) T H (spT (.slice 0 0 n cap) (i + 1)) (spH n o A B s.x s.k s.p) → SS (hXpl A B true true) (At ρ w) (Is .tt [.obj (.rows n 3 (actRow o))]) ⟨cs, [], Try.f7, Try.f7.ntmps, [.obj (.rows n 3 (actRow o))], .lp I :: dnLp (contF Try.f7 11 [I]), T, H⟩) :
    SS (hXpl A B true true) (At ρ w) (Is .tt [.obj (.rows n 3 (actRow o))]) ⟨[], [], Try.f7, Try.f7.ntmps, [.obj (.rows n 3 (actRow o))], contF Try.f7 11 [I], spT (.slice 0 0 n cap) i, spH n o A B ⟨W, st, kd, wd, vl, ch⟩ k p⟩ := by
  obtain ⟨⟨s0, s1⟩, L, hq⟩ := hI
  dsimp only at s0 s1 hq
  have hT : TurnH A B n i 2 k L W st := ⟨hin, hi, hq, s0, s1, by decide⟩
  obtain ⟨b1, b3, ht⟩ := pl_turn (o := o) hT
  refine sx (hXpl A B true true) [] 8 rfl (by simp [conjP, hin]; omega) ?_
  simp only [Int.toNat_natCast, e]
  refine sxb (hXpl A B true true) [.r 12] [] 4000 rfl (by first | exact trivial | simp [conjP, hin]) ?_
  refine ss_sw (hXpl A B true true) (sw_ss (hXpl A B b1 b3) (cs := []) ?_)
  refine ss_frame (hXpl A B b1 b3) (K1 := upLp (contF Try.f7 12 [I])) (α := PQ) [0, 1, 2, 3, 4, 5, 6, 15, 16, 17, 18] flP (sqT n cap i) (sqH n o A B ⟨W, st, kd, wd, vl, ch⟩ (k 2) (p 2)) (fun _ => sqTj n cap i) (fun q => sqJ n o A B (k 2) q.x q.c q.p) (qPa A B i 2 k) rfl rfl rfl (by (((repeat' (first | exact trivial | exact ⟨_, rfl⟩ | refine And.intro ?_ ?_)); done))) (by (repeat' (first | exact rfl | exact trivial | exact sim_refl _ | refine And.intro ?_ ?_))) (by (((repeat' (first | exact rfl | exact trivial | exact sim_refl _ | exact subE_same rfl ren_slE | exact subE_r rfl ren_slE ren_slE | exact subE_phE rfl rfl | exact sim_slV rfl | exact sim_slVr rfl | exact sim_slV3 rfl | exact sim_tkP rfl | exact sim_gvP rfl | exact sim_tkP3 rfl | exact sim_gvP3 rfl | exact subE_same rfl ren_rphE | exact subE_r rfl ren_rphE ren_rphE | exact sim_rtP rfl | exact sim_rgP rfl | exact sim_rtP3 rfl | exact sim_rgP3 rfl | refine And.intro ?_ ?_)); done))) (by (repeat' (first | exact rfl | exact trivial | exact sim_refl _ | refine And.intro ?_ ?_))) (by (((repeat' (first | exact rfl | exact trivial | exact okE_slE | exact okE_phE rfl | exact okP_slV rfl | exact okP_tkP rfl | exact okP_gvP rfl | exact okE_rphE | exact okP_rtP rfl | exact okP_rgP rfl | refine And.intro ?_ ?_)); done))) (fun x _ => by (((repeat' (first | exact trivial | exact rfl | exact dim_of | exact okNew_slE | exact okNew_phE | exact okNew_rphE | refine And.intro ?_ ?_)); done))) (fun ρ1 w1 J hJ => ht cap ρ1 w1 _ J kd wd vl ch (p 2) hJ) ?_
  rintro ⟨⟨W', st', kd', wd', vl', ch'⟩, c, v⟩ hq'
  refine ss_sw (hXpl A B b1 b3) (sw_ss (hXpl A B true true) (cs := []) ?_)
  refine back ⟨⟨W', st', kd', wd', vl', ch'⟩, kset k 2 c, pset p 2 v⟩ hq' _ _ _ (sub_of [0, 1, 2, 3, 4, 5, 6, 7, 8, 9, 10, 11, 12, 13, 14, 15, 23, 24, 25, 19, 20, 21, 22] rfl rfl rfl rfl (by (repeat' (first | exact rfl | exact trivial | exact sim_refl _ | refine And.intro ?_ ?_))) ?hh (by (repeat' (first | exact rfl | exact trivial | exact sim_refl _ | refine And.intro ?_ ?_))) ?ok)
  case hh =>
    simp only [sqJ, spH, mergeB, layB, appL, renL, dropL, setN, dimN, ren_obj, SO.ren, SV.rens, SV.ren, ren_slVe, ren_tkP, ren_gvP, ren_rtP, ren_rgP, ren_rphE, ren_slE, ren_phE, sig, List.length_cons, List.length_nil]
    (((repeat' (first | exact rfl | exact trivial | exact sim_refl _ | exact subE_same rfl ren_slE | exact subE_r rfl ren_slE ren_slE | exact subE_phE rfl rfl | exact sim_slV rfl | exact sim_slVr rfl | exact sim_slV3 rfl | exact sim_tkP rfl | exact sim_gvP rfl | exact sim_tkP3 rfl | exact sim_gvP3 rfl | exact subE_same rfl ren_rphE | exact subE_r rfl ren_rphE ren_rphE | exact sim_rtP rfl | exact sim_rgP rfl | exact sim_rtP3 rfl | exact sim_rgP3 rfl | refine And.intro ?_ ?_)); done))
  case ok => (((repeat' (first | exact rfl | exact trivial | exact okE_slE | exact okE_phE rfl | exact okP_slV rfl | exact okP_tkP rfl | exact okP_gvP rfl | exact okE_rphE | exact okP_rtP rfl | exact okP_rgP rfl | refine And.intro ?_ ?_)); done))
set_option maxHeartbeats 4000000 in
theorem pl_play3 (hin : i < n) (hi : i < 150) (hI : InvB A B i ⟨⟨W, st, kd, wd, vl, ch⟩, k, p⟩) (e : ibits .and .i64 (o i).who 3 = 3)
    (back : ∀ s : AS, InvB A B (i + 1) s → ∀ cs T H, Sub (FEnv Try.prog (Xpl A B true true).TE (hXpl A B true true).te Try.f7 Try.f7.ntmps [.obj (.rows n 3 (actRow o))] (Is .tt [.obj (.rows n 3 (actRow o))]) ρ w) T H (spT (.slice 0 0 n cap) (i + 1)) (spH n o A B s.x s.k s.p) → SS (hXpl A B true true) (At ρ w) (Is .tt [.obj (.rows n 3 (actRow o))]) ⟨cs, [], Try.f7, Try.f7.ntmps, [.obj (.rows n 3 (actRow o))], .lp I :: dnLp (contF Try.f7 11 [I]), T, H⟩) :
    SS (hXpl A B true true) (At ρ w) (Is .tt [.obj (.rows n 3 (actRow o))]) ⟨[], [], Try.f7, Try.f7.ntmps, [.obj (.rows n 3 (actRow o))], contF Try.f7 11 [I], spT (.slice 0 0 n cap) i, spH n o A B ⟨W, st, kd, wd, vl, ch⟩ k p⟩ := by
  obtain ⟨⟨s0, s1⟩, L, hq⟩ := hI
  dsimp only at s0 s1 hq
  have hT : TurnH A B n i 3 k L W st := ⟨hin, hi, hq, s0, s1, by decide⟩
  obtain ⟨b1, b3, ht⟩ := pl_turn (o := o) hT
  refine sx (hXpl A B true true) [] 8 rfl (by simp [conjP, hin]; omega) ?_
  simp only [Int.toNat_natCast, e]
  refine sxb (hXpl A B true true) [.r 12] [] 4000 rfl (by first | exact trivial | simp [conjP, hin]) ?_
  refine ss_sw (hXpl A B true true) (sw_ss (hXpl A B b1 b3) (cs := []) ?_)
  refine ss_frame (hXpl A B b1 b3) (K1 := upLp (contF Try.f7 12 [I])) (α := PQ) [0, 1, 2, 3, 4, 5, 6, 19, 20, 21, 22] flP (sqT n cap i) (sqH n o A B ⟨W, st, kd, wd, vl, ch⟩ (k 3) (p 3)) (fun _ => sqTj n cap i) (fun q => sqJ n o A B (k 3) q.x q.c q.p) (qPa A B i 3 k) rfl rfl rfl (by (((repeat' (first | exact trivial | exact ⟨_, rfl⟩ | refine And.intro ?_ ?_)); done))) (by (repeat' (first | exact rfl | exact trivial | exact sim_refl _ | refine And.intro ?_ ?_))) (by (((repeat' (first | exact rfl | exact trivial | exact sim_refl _ | exact subE_same rfl ren_slE | exact subE_r rfl ren_slE ren_slE | exact subE_phE rfl rfl | exact sim_slV rfl | exact sim_slVr rfl | exact sim_slV3 rfl | exact sim_tkP rfl | exact sim_gvP rfl | exact sim_tkP3 rfl | exact sim_gvP3 rfl | exact subE_same rfl ren_rphE | exact subE_r rfl ren_rphE ren_rphE | exact sim_rtP rfl | exact sim_rgP rfl | exact sim_rtP3 rfl | exact sim_rgP3 rfl | refine And.intro ?_ ?_)); done))) (by (repeat' (first | exact rfl | exact trivial | exact sim_refl _ | refine And.intro ?_ ?_))) (by (((repeat' (first | exact rfl | exact trivial | exact okE_slE | exact okE_phE rfl | exact okP_slV rfl | exact okP_tkP rfl | exact okP_gvP rfl | exact okE_rphE | exact okP_rtP rfl | exact okP_rgP rfl | refine And.intro ?_ ?_)); done))) (fun x _ => by (((repeat' (first | exact trivial | exact rfl | exact dim_of | exact okNew_slE | exact okNew_phE | exact okNew_rphE | refine And.intro ?_ ?_)); done))) (fun ρ1 w1 J hJ => ht cap ρ1 w1 _ J kd wd vl ch (p 3) hJ) ?_
  rintro ⟨⟨W', st', kd', wd', vl', ch'⟩, c, v⟩ hq'
  refine ss_sw (hXpl A B b1 b3) (sw_ss (hXpl A B true true) (cs := []) ?_)
  refine back ⟨⟨W', st', kd', wd', vl', ch'⟩, kset k 3 c, pset p 3 v⟩ hq' _ _ _ (sub_of [0, 1, 2, 3, 4, 5, 6, 7, 8, 9, 10, 11, 12, 13, 14, 15, 16, 17, 18, 19, 23, 24, 25] rfl rfl rfl rfl (by (repeat' (first | exact rfl | exact trivial | exact sim_refl _ | refine And.intro ?_ ?_))) ?hh (by (repeat' (first | exact rfl | exact trivial | exact sim_refl _ | refine And.intro ?_ ?_))) ?ok)
  case hh =>
    simp only [sqJ, spH, mergeB, layB, appL, renL, dropL, setN, dimN, ren_obj, SO.ren, SV.rens, SV.ren, ren_slVe, ren_tkP, ren_gvP, ren_rtP, ren_rgP, ren_rphE, ren_slE, ren_phE, sig, List.length_cons, List.length_nil]
    (((repeat' (first | exact rfl | exact trivial | exact sim_refl _ | exact subE_same rfl ren_slE | exact subE_r rfl ren_slE ren_slE | exact subE_phE rfl rfl | exact sim_slV rfl | exact sim_slVr rfl | exact sim_slV3 rfl | exact sim_tkP rfl | exact sim_gvP rfl | exact sim_tkP3 rfl | exact sim_gvP3 rfl | exact subE_same rfl ren_rphE | exact subE_r rfl ren_rphE ren_rphE | exact sim_rtP rfl | exact sim_rgP rfl | exact sim_rtP3 rfl | exact sim_rgP3 rfl | refine And.intro ?_ ?_)); done))
  case ok => (((repeat' (first | exact rfl | exact trivial | exact okE_slE | exact okE_phE rfl | exact okP_slV rfl | exact okP_tkP rfl | exact okP_gvP rfl | exact okE_rphE | exact okP_rtP rfl | exact okP_rgP rfl | refine And.intro ?_ ?_)); done))
end
end Go.Proofs.Ytmghcelohnlceaa
