/- SlotsPlay's walk: the whole. -/
import Derived.Test.YtfdkaakllceebaaPlayTurn
import Derived.Test.YtfdkaakllceebaaHyc
namespace Go.Proofs.Ytfdkaakllceebaa
open Go Go.Hx
set_option maxRecDepth 8000

section
variable {σ σ' : Nat → Nat} {H : List HE} {h h' : Nat} {o : Option Int} {v : Value}
theorem sim_tVr (hs : σ h = h') : sim (tV o v h') ((tV o v h).ren σ) := by subst hs; cases o <;> simp [tV, SV.ren] <;> exact sim_refl _
theorem sim_tV3 (hs : σ' h' = σ h) : sim ((tV o v h').ren σ') ((tV o v h).ren σ) := by cases o <;> simp [tV, SV.ren, hs] <;> exact sim_refl _
end
theorem ren_tVe {σ : Nat → Nat} {o : Option Int} {v : Value} {h : Nat} : (tV o v h).ren σ = tV o v (σ h) := by cases o <;> rfl
/-- Behind the loop's head. -/
def dnLp : List KI → List KI
  | [] => []
  | .lp _ :: k => k
  | _ :: k => dnLp k
abbrev flP : List Fl := [.new, .new, .new, .new, .new, .new, .keep, .new, .drop, .drop, .drop]
set_option maxHeartbeats 2000000 in
theorem playM0 {n cap : Nat} {o : Nat → ActV} {S : Int} {i : Nat} {ρ : Nat → Nat × Nat} {w : World} {I : Act → World → Prop} {W : List Int} {st kd wd vl : Int} {ch : Bool} {c0 c1 c2 c3 : Cl} {p0 p1 p2 p3 : VV} (hr : rightB 1 4 S 4 4 2 6 2 2 = true) (hb0 : i < n) (hi150 : (i : Int) < 120) (hI : InvP S i ⟨W, st, kd, wd, vl, ch, c0, c1, c2, c3⟩) (e : ibits .and .i64 (o i).who 3 = 0)
    (back : ∀ x : SQ, InvP S (i + 1) x.1 → ∀ cs T H, Sub (FEnv Try.prog XSp.TE hXSp.te Try.f6 Try.f6.ntmps [.obj (.rows n 3 (actRow o))] (Is .tt [.obj (.rows n 3 (actRow o))]) ρ w) T H (spT (.slice 0 0 n cap) (i + 1)) (spX n o S x) → SS hXSp (At ρ w) (Is .tt [.obj (.rows n 3 (actRow o))]) ⟨cs, [], Try.f6, Try.f6.ntmps, [.obj (.rows n 3 (actRow o))], .lp I :: dnLp (contF Try.f6 11 [I]), T, H⟩) :
    SS hXSp (At ρ w) (Is .tt [.obj (.rows n 3 (actRow o))]) ⟨[], [], Try.f6, Try.f6.ntmps, [.obj (.rows n 3 (actRow o))], contF Try.f6 11 [I], spT (.slice 0 0 n cap) i, spX n o S (⟨W, st, kd, wd, vl, ch, c0, c1, c2, c3⟩, p0, p1, p2, p3)⟩ := by
  have h3 := and3 (o i).who
  refine sx hXSp [] 8 rfl (by simp [conjP, hb0]; omega) ?_
  simp only [Int.toNat_natCast, e]
  refine sxb hXSp [.r 12] [] 4000 rfl (by first | exact trivial | simp [conjP, hb0]) ?_
  refine ss_frame hXSp (K1 := upLp (contF Try.f6 12 [I])) (α := SA × Cl × VV) [0, 1, 2, 3, 4, 5, 6, 7, 8, 9, 10] flP (sqT n cap i) (sqH n o S 0 W st kd wd vl ch c0 p0) (fun _ => sqTj n cap i) (fun q => sqJ n o S 0 c0 q.1 q.2.1 q.2.2) (qP S i 0 c0 c1 c2 c3) rfl rfl rfl (by (((repeat' (first | exact trivial | exact ⟨_, rfl⟩ | refine And.intro ?_ ?_)); done))) (by (repeat' (first | exact rfl | exact trivial | exact sim_refl _ | refine And.intro ?_ ?_))) (by (((repeat' (first | exact rfl | exact trivial | exact sim_refl _ | exact subE_same rfl ren_slE | exact subE_same rfl ren_tk | exact subE_same rfl ren_rc | exact subE_r rfl ren_slE ren_slE | exact subE_r rfl ren_tk ren_tk | exact subE_r rfl ren_rc ren_rc | exact sim_slV rfl | exact sim_ptrV rfl | exact sim_tV rfl | exact sim_slVr rfl | exact sim_ptrVr rfl | exact sim_tVr rfl | exact sim_slV3 rfl | exact sim_ptrV3 rfl | exact sim_tV3 rfl | refine And.intro ?_ ?_)); done))) (by (repeat' (first | exact rfl | exact trivial | exact sim_refl _ | refine And.intro ?_ ?_))) (by (((repeat' (first | exact rfl | exact trivial | exact okE_slE | exact okE_tk | exact okE_rc | exact okP_slV rfl | exact okP_ptrV (f := tkO _ 0) rfl | exact okP_ptrV (f := tkO _ 1) rfl | exact okP_ptrV (f := tkO _ 2) rfl | exact okP_ptrV (f := tkO _ 3) rfl | exact okP_tV (m := 0) rfl | exact okP_tV (m := 1) rfl | exact okP_tV (m := 2) rfl | exact okP_tV (m := 3) rfl | refine And.intro ?_ ?_)); done))) (fun x _ => by (((repeat' (first | exact trivial | exact rfl | exact dim_of | exact okNew_slE | exact okNew_objM (fun _ => rfl) | refine And.intro ?_ ?_)); done))) (fun ρ1 w1 J hJ => playT hr hb0 hi150 hI (by omega) rfl e hJ) ?_
  rintro ⟨⟨W, st, kd, wd, vl, ch, d0, d1, d2, d3⟩, d, p⟩ ⟨hI', h0, h1, h2, h3⟩
  dsimp only at h0 h1 h2 h3 hI'
  subst h0; subst h1; subst h2; subst h3
  refine back ((⟨W, st, kd, wd, vl, ch, d0, d1, d2, d3⟩ : SA).setc 0 d, p, p1, p2, p3) hI' _ _ _ (sub_of [0, 1, 2, 3, 4, 5, 6, 7, 23, 24, 25, 11, 12, 13, 14, 15, 16, 17, 18, 19, 20, 21, 22] rfl rfl rfl rfl (by (repeat' (first | exact rfl | exact trivial | exact sim_refl _ | refine And.intro ?_ ?_))) ?hh (by (repeat' (first | exact rfl | exact trivial | exact sim_refl _ | refine And.intro ?_ ?_))) ?ok)
  case hh =>
    simp only [sqJ, spX, spH, mergeB, layB, appL, renL, dropL, setN, dimN, ren_obj, SO.ren, SV.rens, SV.ren, ren_slVe, ren_ptrVe, ren_tVe, ren_slE, ren_tk, ren_rc, sig, List.length_cons, List.length_nil]
    (((repeat' (first | exact rfl | exact trivial | exact sim_refl _ | exact subE_same rfl ren_slE | exact subE_same rfl ren_tk | exact subE_same rfl ren_rc | exact subE_r rfl ren_slE ren_slE | exact subE_r rfl ren_tk ren_tk | exact subE_r rfl ren_rc ren_rc | exact sim_slV rfl | exact sim_ptrV rfl | exact sim_tV rfl | exact sim_slVr rfl | exact sim_ptrVr rfl | exact sim_tVr rfl | exact sim_slV3 rfl | exact sim_ptrV3 rfl | exact sim_tV3 rfl | refine And.intro ?_ ?_)); done))
  case ok => (((repeat' (first | exact rfl | exact trivial | exact okE_slE | exact okE_tk | exact okE_rc | exact okP_slV rfl | exact okP_ptrV (f := tkO _ 0) rfl | exact okP_ptrV (f := tkO _ 1) rfl | exact okP_ptrV (f := tkO _ 2) rfl | exact okP_ptrV (f := tkO _ 3) rfl | exact okP_tV (m := 0) rfl | exact okP_tV (m := 1) rfl | exact okP_tV (m := 2) rfl | exact okP_tV (m := 3) rfl | refine And.intro ?_ ?_)); done))
set_option maxHeartbeats 2000000 in
theorem playM1 {n cap : Nat} {o : Nat → ActV} {S : Int} {i : Nat} {ρ : Nat → Nat × Nat} {w : World} {I : Act → World → Prop} {W : List Int} {st kd wd vl : Int} {ch : Bool} {c0 c1 c2 c3 : Cl} {p0 p1 p2 p3 : VV} (hr : rightB 1 4 S 4 4 2 6 2 2 = true) (hb0 : i < n) (hi150 : (i : Int) < 120) (hI : InvP S i ⟨W, st, kd, wd, vl, ch, c0, c1, c2, c3⟩) (e : ibits .and .i64 (o i).who 3 = 1)
    (back : ∀ x : SQ, InvP S (i + 1) x.1 → ∀ cs T H, Sub (FEnv Try.prog XSp.TE hXSp.te Try.f6 Try.f6.ntmps [.obj (.rows n 3 (actRow o))] (Is .tt [.obj (.rows n 3 (actRow o))]) ρ w) T H (spT (.slice 0 0 n cap) (i + 1)) (spX n o S x) → SS hXSp (At ρ w) (Is .tt [.obj (.rows n 3 (actRow o))]) ⟨cs, [], Try.f6, Try.f6.ntmps, [.obj (.rows n 3 (actRow o))], .lp I :: dnLp (contF Try.f6 11 [I]), T, H⟩) :
    SS hXSp (At ρ w) (Is .tt [.obj (.rows n 3 (actRow o))]) ⟨[], [], Try.f6, Try.f6.ntmps, [.obj (.rows n 3 (actRow o))], contF Try.f6 11 [I], spT (.slice 0 0 n cap) i, spX n o S (⟨W, st, kd, wd, vl, ch, c0, c1, c2, c3⟩, p0, p1, p2, p3)⟩ := by
  have h3 := and3 (o i).who
  refine sx hXSp [] 8 rfl (by simp [conjP, hb0]; omega) ?_
  simp only [Int.toNat_natCast, e]
  refine sxb hXSp [.r 12] [] 4000 rfl (by first | exact trivial | simp [conjP, hb0]) ?_
  refine ss_frame hXSp (K1 := upLp (contF Try.f6 12 [I])) (α := SA × Cl × VV) [0, 1, 2, 3, 4, 5, 6, 11, 12, 13, 14] flP (sqT n cap i) (sqH n o S 1 W st kd wd vl ch c1 p1) (fun _ => sqTj n cap i) (fun q => sqJ n o S 1 c1 q.1 q.2.1 q.2.2) (qP S i 1 c0 c1 c2 c3) rfl rfl rfl (by (((repeat' (first | exact trivial | exact ⟨_, rfl⟩ | refine And.intro ?_ ?_)); done))) (by (repeat' (first | exact rfl | exact trivial | exact sim_refl _ | refine And.intro ?_ ?_))) (by (((repeat' (first | exact rfl | exact trivial | exact sim_refl _ | exact subE_same rfl ren_slE | exact subE_same rfl ren_tk | exact subE_same rfl ren_rc | exact subE_r rfl ren_slE ren_slE | exact subE_r rfl ren_tk ren_tk | exact subE_r rfl ren_rc ren_rc | exact sim_slV rfl | exact sim_ptrV rfl | exact sim_tV rfl | exact sim_slVr rfl | exact sim_ptrVr rfl | exact sim_tVr rfl | exact sim_slV3 rfl | exact sim_ptrV3 rfl | exact sim_tV3 rfl | refine And.intro ?_ ?_)); done))) (by (repeat' (first | exact rfl | exact trivial | exact sim_refl _ | refine And.intro ?_ ?_))) (by (((repeat' (first | exact rfl | exact trivial | exact okE_slE | exact okE_tk | exact okE_rc | exact okP_slV rfl | exact okP_ptrV (f := tkO _ 0) rfl | exact okP_ptrV (f := tkO _ 1) rfl | exact okP_ptrV (f := tkO _ 2) rfl | exact okP_ptrV (f := tkO _ 3) rfl | exact okP_tV (m := 0) rfl | exact okP_tV (m := 1) rfl | exact okP_tV (m := 2) rfl | exact okP_tV (m := 3) rfl | refine And.intro ?_ ?_)); done))) (fun x _ => by (((repeat' (first | exact trivial | exact rfl | exact dim_of | exact okNew_slE | exact okNew_objM (fun _ => rfl) | refine And.intro ?_ ?_)); done))) (fun ρ1 w1 J hJ => playT hr hb0 hi150 hI (by omega) rfl e hJ) ?_
  rintro ⟨⟨W, st, kd, wd, vl, ch, d0, d1, d2, d3⟩, d, p⟩ ⟨hI', h0, h1, h2, h3⟩
  dsimp only at h0 h1 h2 h3 hI'
  subst h0; subst h1; subst h2; subst h3
  refine back ((⟨W, st, kd, wd, vl, ch, d0, d1, d2, d3⟩ : SA).setc 1 d, p0, p, p2, p3) hI' _ _ _ (sub_of [0, 1, 2, 3, 4, 5, 6, 7, 8, 9, 10, 11, 23, 24, 25, 15, 16, 17, 18, 19, 20, 21, 22] rfl rfl rfl rfl (by (repeat' (first | exact rfl | exact trivial | exact sim_refl _ | refine And.intro ?_ ?_))) ?hh (by (repeat' (first | exact rfl | exact trivial | exact sim_refl _ | refine And.intro ?_ ?_))) ?ok)
  case hh =>
    simp only [sqJ, spX, spH, mergeB, layB, appL, renL, dropL, setN, dimN, ren_obj, SO.ren, SV.rens, SV.ren, ren_slVe, ren_ptrVe, ren_tVe, ren_slE, ren_tk, ren_rc, sig, List.length_cons, List.length_nil]
    (((repeat' (first | exact rfl | exact trivial | exact sim_refl _ | exact subE_same rfl ren_slE | exact subE_same rfl ren_tk | exact subE_same rfl ren_rc | exact subE_r rfl ren_slE ren_slE | exact subE_r rfl ren_tk ren_tk | exact subE_r rfl ren_rc ren_rc | exact sim_slV rfl | exact sim_ptrV rfl | exact sim_tV rfl | exact sim_slVr rfl | exact sim_ptrVr rfl | exact sim_tVr rfl | exact sim_slV3 rfl | exact sim_ptrV3 rfl | exact sim_tV3 rfl | refine And.intro ?_ ?_)); done))
  case ok => (((repeat' (first | exact rfl | exact trivial | exact okE_slE | exact okE_tk | exact okE_rc | exact okP_slV rfl | exact okP_ptrV (f := tkO _ 0) rfl | exact okP_ptrV (f := tkO _ 1) rfl | exact okP_ptrV (f := tkO _ 2) rfl | exact okP_ptrV (f := tkO _ 3) rfl | exact okP_tV (m := 0) rfl | exact okP_tV (m := 1) rfl | exact okP_tV (m := 2) rfl | exact okP_tV (m := 3) rfl | refine And.intro ?_ ?_)); done))
set_option maxHeartbeats 2000000 in
theorem playM2 {n cap : Nat} {o : Nat → ActV} {S : Int} {i : Nat} {ρ : Nat → Nat × Nat} {w : World} {I : Act → World → Prop} {W : List Int} {st kd wd vl : Int} {ch : Bool} {c0 c1 c2 c3 : Cl} {p0 p1 p2 p3 : VV} (hr : rightB 1 4 S 4 4 2 6 2 2 = true) (hb0 : i < n) (hi150 : (i : Int) < 120) (hI : InvP S i ⟨W, st, kd, wd, vl, ch, c0, c1, c2, c3⟩) (e : ibits .and .i64 (o i).who 3 = 2)
    (back : ∀ x : SQ, InvP S (i + 1) x.1 → ∀ cs T H, Sub (FEnv Try.prog XSp.TE hXSp.te Try.f6 Try.f6.ntmps [.obj (.rows n 3 (actRow o))] (Is .tt [.obj (.rows n 3 (actRow o))]) ρ w) T H (spT (.slice 0 0 n cap) (i + 1)) (spX n o S x) → SS hXSp (At ρ w) (Is .tt [.obj (.rows n 3 (actRow o))]) ⟨cs, [], Try.f6, Try.f6.ntmps, [.obj (.rows n 3 (actRow o))], .lp I :: dnLp (contF Try.f6 11 [I]), T, H⟩) :
    SS hXSp (At ρ w) (Is .tt [.obj (.rows n 3 (actRow o))]) ⟨[], [], Try.f6, Try.f6.ntmps, [.obj (.rows n 3 (actRow o))], contF Try.f6 11 [I], spT (.slice 0 0 n cap) i, spX n o S (⟨W, st, kd, wd, vl, ch, c0, c1, c2, c3⟩, p0, p1, p2, p3)⟩ := by
  have h3 := and3 (o i).who
  refine sx hXSp [] 8 rfl (by simp [conjP, hb0]; omega) ?_
  simp only [Int.toNat_natCast, e]
  refine sxb hXSp [.r 12] [] 4000 rfl (by first | exact trivial | simp [conjP, hb0]) ?_
  refine ss_frame hXSp (K1 := upLp (contF Try.f6 12 [I])) (α := SA × Cl × VV) [0, 1, 2, 3, 4, 5, 6, 15, 16, 17, 18] flP (sqT n cap i) (sqH n o S 2 W st kd wd vl ch c2 p2) (fun _ => sqTj n cap i) (fun q => sqJ n o S 2 c2 q.1 q.2.1 q.2.2) (qP S i 2 c0 c1 c2 c3) rfl rfl rfl (by (((repeat' (first | exact trivial | exact ⟨_, rfl⟩ | refine And.intro ?_ ?_)); done))) (by (repeat' (first | exact rfl | exact trivial | exact sim_refl _ | refine And.intro ?_ ?_))) (by (((repeat' (first | exact rfl | exact trivial | exact sim_refl _ | exact subE_same rfl ren_slE | exact subE_same rfl ren_tk | exact subE_same rfl ren_rc | exact subE_r rfl ren_slE ren_slE | exact subE_r rfl ren_tk ren_tk | exact subE_r rfl ren_rc ren_rc | exact sim_slV rfl | exact sim_ptrV rfl | exact sim_tV rfl | exact sim_slVr rfl | exact sim_ptrVr rfl | exact sim_tVr rfl | exact sim_slV3 rfl | exact sim_ptrV3 rfl | exact sim_tV3 rfl | refine And.intro ?_ ?_)); done))) (by (repeat' (first | exact rfl | exact trivial | exact sim_refl _ | refine And.intro ?_ ?_))) (by (((repeat' (first | exact rfl | exact trivial | exact okE_slE | exact okE_tk | exact okE_rc | exact okP_slV rfl | exact okP_ptrV (f := tkO _ 0) rfl | exact okP_ptrV (f := tkO _ 1) rfl | exact okP_ptrV (f := tkO _ 2) rfl | exact okP_ptrV (f := tkO _ 3) rfl | exact okP_tV (m := 0) rfl | exact okP_tV (m := 1) rfl | exact okP_tV (m := 2) rfl | exact okP_tV (m := 3) rfl | refine And.intro ?_ ?_)); done))) (fun x _ => by (((repeat' (first | exact trivial | exact rfl | exact dim_of | exact okNew_slE | exact okNew_objM (fun _ => rfl) | refine And.intro ?_ ?_)); done))) (fun ρ1 w1 J hJ => playT hr hb0 hi150 hI (by omega) rfl e hJ) ?_
  rintro ⟨⟨W, st, kd, wd, vl, ch, d0, d1, d2, d3⟩, d, p⟩ ⟨hI', h0, h1, h2, h3⟩
  dsimp only at h0 h1 h2 h3 hI'
  subst h0; subst h1; subst h2; subst h3
  refine back ((⟨W, st, kd, wd, vl, ch, d0, d1, d2, d3⟩ : SA).setc 2 d, p0, p1, p, p3) hI' _ _ _ (sub_of [0, 1, 2, 3, 4, 5, 6, 7, 8, 9, 10, 11, 12, 13, 14, 15, 23, 24, 25, 19, 20, 21, 22] rfl rfl rfl rfl (by (repeat' (first | exact rfl | exact trivial | exact sim_refl _ | refine And.intro ?_ ?_))) ?hh (by (repeat' (first | exact rfl | exact trivial | exact sim_refl _ | refine And.intro ?_ ?_))) ?ok)
  case hh =>
    simp only [sqJ, spX, spH, mergeB, layB, appL, renL, dropL, setN, dimN, ren_obj, SO.ren, SV.rens, SV.ren, ren_slVe, ren_ptrVe, ren_tVe, ren_slE, ren_tk, ren_rc, sig, List.length_cons, List.length_nil]
    (((repeat' (first | exact rfl | exact trivial | exact sim_refl _ | exact subE_same rfl ren_slE | exact subE_same rfl ren_tk | exact subE_same rfl ren_rc | exact subE_r rfl ren_slE ren_slE | exact subE_r rfl ren_tk ren_tk | exact subE_r rfl ren_rc ren_rc | exact sim_slV rfl | exact sim_ptrV rfl | exact sim_tV rfl | exact sim_slVr rfl | exact sim_ptrVr rfl | exact sim_tVr rfl | exact sim_slV3 rfl | exact sim_ptrV3 rfl | exact sim_tV3 rfl | refine And.intro ?_ ?_)); done))
  case ok => (((repeat' (first | exact rfl | exact trivial | exact okE_slE | exact okE_tk | exact okE_rc | exact okP_slV rfl | exact okP_ptrV (f := tkO _ 0) rfl | exact okP_ptrV (f := tkO _ 1) rfl | exact okP_ptrV (f := tkO _ 2) rfl | exact okP_ptrV (f := tkO _ 3) rfl | exact okP_tV (m := 0) rfl | exact okP_tV (m := 1) rfl | exact okP_tV (m := 2) rfl | exact okP_tV (m := 3) rfl | refine And.intro ?_ ?_)); done))
set_option maxHeartbeats 2000000 in
theorem playM3 {n cap : Nat} {o : Nat → ActV} {S : Int} {i : Nat} {ρ : Nat → Nat × Nat} {w : World} {I : Act → World → Prop} {W : List Int} {st kd wd vl : Int} {ch : Bool} {c0 c1 c2 c3 : Cl} {p0 p1 p2 p3 : VV} (hr : rightB 1 4 S 4 4 2 6 2 2 = true) (hb0 : i < n) (hi150 : (i : Int) < 120) (hI : InvP S i ⟨W, st, kd, wd, vl, ch, c0, c1, c2, c3⟩) (e : ibits .and .i64 (o i).who 3 = 3)
    (back : ∀ x : SQ, InvP S (i + 1) x.1 → ∀ cs T H, Sub (FEnv Try.prog XSp.TE hXSp.te Try.f6 Try.f6.ntmps [.obj (.rows n 3 (actRow o))] (Is .tt [.obj (.rows n 3 (actRow o))]) ρ w) T H (spT (.slice 0 0 n cap) (i + 1)) (spX n o S x) → SS hXSp (At ρ w) (Is .tt [.obj (.rows n 3 (actRow o))]) ⟨cs, [], Try.f6, Try.f6.ntmps, [.obj (.rows n 3 (actRow o))], .lp I :: dnLp (contF Try.f6 11 [I]), T, H⟩) :
    SS hXSp (At ρ w) (Is .tt [.obj (.rows n 3 (actRow o))]) ⟨[], [], Try.f6, Try.f6.ntmps, [.obj (.rows n 3 (actRow o))], contF Try.f6 11 [I], spT (.slice 0 0 n cap) i, spX n o S (⟨W, st, kd, wd, vl, ch, c0, c1, c2, c3⟩, p0, p1, p2, p3)⟩ := by
  have h3 := and3 (o i).who
  refine sx hXSp [] 8 rfl (by simp [conjP, hb0]; omega) ?_
  simp only [Int.toNat_natCast, e]
  refine sxb hXSp [.r 12] [] 4000 rfl (by first | exact trivial | simp [conjP, hb0]) ?_
  refine ss_frame hXSp (K1 := upLp (contF Try.f6 12 [I])) (α := SA × Cl × VV) [0, 1, 2, 3, 4, 5, 6, 19, 20, 21, 22] flP (sqT n cap i) (sqH n o S 3 W st kd wd vl ch c3 p3) (fun _ => sqTj n cap i) (fun q => sqJ n o S 3 c3 q.1 q.2.1 q.2.2) (qP S i 3 c0 c1 c2 c3) rfl rfl rfl (by (((repeat' (first | exact trivial | exact ⟨_, rfl⟩ | refine And.intro ?_ ?_)); done))) (by (repeat' (first | exact rfl | exact trivial | exact sim_refl _ | refine And.intro ?_ ?_))) (by (((repeat' (first | exact rfl | exact trivial | exact sim_refl _ | exact subE_same rfl ren_slE | exact subE_same rfl ren_tk | exact subE_same rfl ren_rc | exact subE_r rfl ren_slE ren_slE | exact subE_r rfl ren_tk ren_tk | exact subE_r rfl ren_rc ren_rc | exact sim_slV rfl | exact sim_ptrV rfl | exact sim_tV rfl | exact sim_slVr rfl | exact sim_ptrVr rfl | exact sim_tVr rfl | exact sim_slV3 rfl | exact sim_ptrV3 rfl | exact sim_tV3 rfl | refine And.intro ?_ ?_)); done))) (by (repeat' (first | exact rfl | exact trivial | exact sim_refl _ | refine And.intro ?_ ?_))) (by (((repeat' (first | exact rfl | exact trivial | exact okE_slE | exact okE_tk | exact okE_rc | exact okP_slV rfl | exact okP_ptrV (f := tkO _ 0) rfl | exact okP_ptrV (f := tkO _ 1) rfl | exact okP_ptrV (f := tkO _ 2) rfl | exact okP_ptrV (f := tkO _ 3) rfl | exact okP_tV (m := 0) rfl | exact okP_tV (m := 1) rfl | exact okP_tV (m := 2) rfl | exact okP_tV (m := 3) rfl | refine And.intro ?_ ?_)); done))) (fun x _ => by (((repeat' (first | exact trivial | exact rfl | exact dim_of | exact okNew_slE | exact okNew_objM (fun _ => rfl) | refine And.intro ?_ ?_)); done))) (fun ρ1 w1 J hJ => playT hr hb0 hi150 hI (by omega) rfl e hJ) ?_
  rintro ⟨⟨W, st, kd, wd, vl, ch, d0, d1, d2, d3⟩, d, p⟩ ⟨hI', h0, h1, h2, h3⟩
  dsimp only at h0 h1 h2 h3 hI'
  subst h0; subst h1; subst h2; subst h3
  refine back ((⟨W, st, kd, wd, vl, ch, d0, d1, d2, d3⟩ : SA).setc 3 d, p0, p1, p2, p) hI' _ _ _ (sub_of [0, 1, 2, 3, 4, 5, 6, 7, 8, 9, 10, 11, 12, 13, 14, 15, 16, 17, 18, 19, 23, 24, 25] rfl rfl rfl rfl (by (repeat' (first | exact rfl | exact trivial | exact sim_refl _ | refine And.intro ?_ ?_))) ?hh (by (repeat' (first | exact rfl | exact trivial | exact sim_refl _ | refine And.intro ?_ ?_))) ?ok)
  case hh =>
    simp only [sqJ, spX, spH, mergeB, layB, appL, renL, dropL, setN, dimN, ren_obj, SO.ren, SV.rens, SV.ren, ren_slVe, ren_ptrVe, ren_tVe, ren_slE, ren_tk, ren_rc, sig, List.length_cons, List.length_nil]
    (((repeat' (first | exact rfl | exact trivial | exact sim_refl _ | exact subE_same rfl ren_slE | exact subE_same rfl ren_tk | exact subE_same rfl ren_rc | exact subE_r rfl ren_slE ren_slE | exact subE_r rfl ren_tk ren_tk | exact subE_r rfl ren_rc ren_rc | exact sim_slV rfl | exact sim_ptrV rfl | exact sim_tV rfl | exact sim_slVr rfl | exact sim_ptrVr rfl | exact sim_tVr rfl | exact sim_slV3 rfl | exact sim_ptrV3 rfl | exact sim_tV3 rfl | refine And.intro ?_ ?_)); done))
  case ok => (((repeat' (first | exact rfl | exact trivial | exact okE_slE | exact okE_tk | exact okE_rc | exact okP_slV rfl | exact okP_ptrV (f := tkO _ 0) rfl | exact okP_ptrV (f := tkO _ 1) rfl | exact okP_ptrV (f := tkO _ 2) rfl | exact okP_ptrV (f := tkO _ 3) rfl | exact okP_tV (m := 0) rfl | exact okP_tV (m := 1) rfl | exact okP_tV (m := 2) rfl | exact okP_tV (m := 3) rfl | refine And.intro ?_ ?_)); done))
set_option maxHeartbeats 8000000 in
theorem play_fn (n cap : Nat) (q : Int) (o : Nat → ActV) : Gives Try.prog 6 [.int .i64 q, .slice 0 0 n cap] [.obj (.rows n 3 (actRow o))] (Is .tt [.obj (.rows n 3 (actRow o))]) := by
  have hr := slots_right q
  have hS := cAnd7 q
  refine gives_x hXSp (fn := Try.f6) rfl rfl rfl rfl fun ρ w => ?_
  refine sx hXSp [] 4000 rfl (by simp [conjP, hr]) ?_
  refine ss_raw hXSp 6 3 rfl rfl fun v0 => ?_
  refine ss_raw hXSp 6 4 rfl rfl fun u0 => ?_
  refine ss_raw hXSp 7 3 rfl rfl fun v1 => ?_
  refine ss_raw hXSp 7 4 rfl rfl fun u1 => ?_
  refine ss_raw hXSp 8 3 rfl rfl fun v2 => ?_
  refine ss_raw hXSp 8 4 rfl rfl fun u2 => ?_
  refine ss_raw hXSp 9 3 rfl rfl fun v3 => ?_
  refine ss_raw hXSp 9 4 rfl rfl fun u3 => ?_
  refine ss_sub hXSp (T' := spT (.slice 0 0 n cap) 0) (H' := spX n o (cAnd 7 q) (sa0 (cAnd 7 q), (v0, u0), (v1, u1), (v2, u2), (v3, u3))) [0, 1, 2, 3, 4, 5, 10, 6, 30, 31, 32, 7, 33, 34, 35, 8, 36, 37, 38, 9, 39, 40, 41] rfl rfl rfl rfl (by (repeat' (first | exact rfl | exact trivial | exact sim_refl _ | refine And.intro ?_ ?_))) (by (repeat' (first | exact rfl | exact trivial | exact sim_refl _ | refine And.intro ?_ ?_))) (by (repeat' (first | exact rfl | exact trivial | exact sim_refl _ | refine And.intro ?_ ?_))) (by (repeat' (first | exact rfl | exact trivial | exact sim_refl _ | refine And.intro ?_ ?_))) ?_
  have hI0 := invP0 hr
  generalize cAnd 7 q = S at *
  refine ss_loop hXSp (fun p : Nat × SQ => spT (.slice 0 0 n cap) p.1) (fun p => spX n o S p.2) (fun p => p.1 ≤ n ∧ p.1 ≤ 120 ∧ InvP S p.1 p.2.1) (fun p => 120 - p.1) (0, (sa0 S, (v0, u0), (v1, u1), (v2, u2), (v3, u3))) ⟨Nat.zero_le _, Nat.zero_le _, hI0⟩ ?_
  rintro ⟨i, ⟨⟨W, st, kd, wd, vl, ch, c0, c1, c2, c3⟩, p0, p1, p2, p3⟩⟩ ⟨hi, hi2, hI⟩ I back
  simp only at hi hi2 hI
  dsimp only
  have hl : W.length = (39 + S).toNat := hI.len
  have hS' := right_iff.1 hr
  have hl6 : W.length ≤ 5000 := by omega
  have hl7 : W.length < 1000000 := by omega
  by_cases hb0 : i < n
  · by_cases hb1 : i < 120
    · refine sxb hXSp [.r 11] [.T, .T] 4000 rfl (by simp [conjP, hb0]; omega) ?_
      have h3 := and3 (o i).who
      have hm : ibits .and .i64 (o i).who 3 = 0 ∨ ibits .and .i64 (o i).who 3 = 1 ∨ ibits .and .i64 (o i).who 3 = 2 ∨ ibits .and .i64 (o i).who 3 = 3 := by omega
      have hi150 : (i : Int) < 120 := by omega
      refine ss_sub hXSp (T' := spT (.slice 0 0 n cap) i) (H' := spX n o S (⟨W, st, kd, wd, vl, ch, c0, c1, c2, c3⟩, p0, p1, p2, p3)) [0, 1, 2, 3, 4, 5, 6, 7, 8, 9, 10, 11, 12, 13, 14, 15, 16, 17, 18, 19, 20, 21, 22] rfl rfl rfl rfl (by (repeat' (first | exact rfl | exact trivial | exact sim_refl _ | refine And.intro ?_ ?_))) (by (((repeat' (first | exact rfl | exact trivial | exact sim_refl _ | exact subE_same rfl ren_slE | exact subE_same rfl ren_tk | exact subE_same rfl ren_rc | exact subE_r rfl ren_slE ren_slE | exact subE_r rfl ren_tk ren_tk | exact subE_r rfl ren_rc ren_rc | exact sim_slV rfl | exact sim_ptrV rfl | exact sim_tV rfl | exact sim_slVr rfl | exact sim_ptrVr rfl | exact sim_tVr rfl | exact sim_slV3 rfl | exact sim_ptrV3 rfl | exact sim_tV3 rfl | refine And.intro ?_ ?_)); done))) (by (repeat' (first | exact rfl | exact trivial | exact sim_refl _ | refine And.intro ?_ ?_))) (by (((repeat' (first | exact rfl | exact trivial | exact okE_slE | exact okE_tk | exact okE_rc | exact okP_slV rfl | exact okP_ptrV (f := tkO _ 0) rfl | exact okP_ptrV (f := tkO _ 1) rfl | exact okP_ptrV (f := tkO _ 2) rfl | exact okP_ptrV (f := tkO _ 3) rfl | exact okP_tV (m := 0) rfl | exact okP_tV (m := 1) rfl | exact okP_tV (m := 2) rfl | exact okP_tV (m := 3) rfl | refine And.intro ?_ ?_)); done))) ?_
      have bk := fun (x : SQ) (hx : InvP S (i + 1) x.1) => back (i + 1, x) ⟨by simp only; omega, by simp only; omega, hx⟩ (by simp only; omega)
      rcases hm with e | e | e | e
      · exact playM0 hr hb0 hi150 hI e bk
      · exact playM1 hr hb0 hi150 hI e bk
      · exact playM2 hr hb0 hi150 hI e bk
      · exact playM3 hr hb0 hi150 hI e bk
    · dsimp only [spX, spH]
      refine sx hXSp [] 4000 rfl (by (simp [-List.getD_eq_getElem?_getD, -List.length_eq_zero_iff, conjP] <;> (first | omega | ((repeat' (refine And.intro ?_ ?_)) <;> (first | omega | exact decide_eq_false (by omega) | exact decide_eq_true (by omega)))))) ?_
      refine sx hXSp [.T] 4000 rfl (by (simp [-List.getD_eq_getElem?_getD, -List.length_eq_zero_iff, conjP, addOP, hb0] <;> (first | omega | ((repeat' (refine And.intro ?_ ?_)) <;> (first | omega | exact decide_eq_false (by omega) | exact decide_eq_true (by omega)))))) ?_
      refine sx hXSp [.F] 4000 rfl (by (simp [-List.getD_eq_getElem?_getD, -List.length_eq_zero_iff, conjP, getH, HE.so, hl6, hl7] <;> (first | omega | ((repeat' (refine And.intro ?_ ?_)) <;> (first | omega | exact decide_eq_false (by omega) | exact decide_eq_true (by omega)))))) ?_
      (exact ss_end hXSp [0] rfl rfl trivial rfl rfl rfl rfl (by first | ((repeat' (first | exact rfl | exact trivial | exact sim_refl _ | refine And.intro ?_ ?_)); done) | (simp [tupF, SV.ren, sim, simO0]; done)) (by (repeat' (first | exact rfl | exact trivial | exact sim_refl _ | refine And.intro ?_ ?_))) (by (repeat' (first | exact rfl | exact trivial | exact sim_refl _ | refine And.intro ?_ ?_))) (by (repeat' (first | exact rfl | exact trivial | exact sim_refl _ | refine And.intro ?_ ?_))))
  · dsimp only [spX, spH]
    refine sx hXSp [] 4000 rfl (by (simp [-List.getD_eq_getElem?_getD, -List.length_eq_zero_iff, conjP] <;> (first | omega | ((repeat' (refine And.intro ?_ ?_)) <;> (first | omega | exact decide_eq_false (by omega) | exact decide_eq_true (by omega)))))) ?_
    refine sx hXSp [.F] 4000 rfl (by (simp [-List.getD_eq_getElem?_getD, -List.length_eq_zero_iff, conjP, getH, HE.so, hb0, hl6, hl7] <;> (first | omega | ((repeat' (refine And.intro ?_ ?_)) <;> (first | omega | exact decide_eq_false (by omega) | exact decide_eq_true (by omega)))))) ?_
    (exact ss_end hXSp [0] rfl rfl trivial rfl rfl rfl rfl (by first | ((repeat' (first | exact rfl | exact trivial | exact sim_refl _ | refine And.intro ?_ ?_)); done) | (simp [tupF, SV.ren, sim, simO0]; done)) (by (repeat' (first | exact rfl | exact trivial | exact sim_refl _ | refine And.intro ?_ ?_))) (by (repeat' (first | exact rfl | exact trivial | exact sim_refl _ | refine And.intro ?_ ?_))) (by (repeat' (first | exact rfl | exact trivial | exact sim_refl _ | refine And.intro ?_ ?_))))
noncomputable def XSpu : Tabs := tabs tr ft xt etA ctSp 20
theorem hXSpu : TOk Try.prog XSpu := ⟨hTE, hFT, ctSp_ok, hXT, etA_ok, mixed⟩
set_option maxHeartbeats 8000000 in
theorem play_nil (q : Int) (a : Option Addr) : Gives Try.prog 6 [.int .i64 q, .raw (.slice a 0 0)] [] (Is .tt []) := by
  have hr := slots_right q
  have hS := cAnd7 q
  have hl : (mkA 1 4 (cAnd 7 q) 4 4 2 6 2 2).W.length = (39 + cAnd 7 q).toNat := (invP0 hr).len
  have hl6 : (mkA 1 4 (cAnd 7 q) 4 4 2 6 2 2).W.length ≤ 5000 := by omega
  have hl7 : (mkA 1 4 (cAnd 7 q) 4 4 2 6 2 2).W.length < 1000000 := by omega
  refine gives_x hXSpu (fn := Try.f6) rfl rfl rfl rfl fun ρ w => ?_
  refine sx hXSpu [] 4000 rfl (by (simp [-List.getD_eq_getElem?_getD, -List.length_eq_zero_iff, conjP, hr] <;> (first | omega | ((repeat' (refine And.intro ?_ ?_)) <;> (first | omega | exact decide_eq_false (by omega) | exact decide_eq_true (by omega)))))) ?_
  refine sx hXSpu [.F] 4000 rfl (by (simp [-List.getD_eq_getElem?_getD, -List.length_eq_zero_iff, conjP, getH, HE.so, hl6, hl7] <;> (first | omega | ((repeat' (refine And.intro ?_ ?_)) <;> (first | omega | exact decide_eq_false (by omega) | exact decide_eq_true (by omega)))))) ?_
  (exact ss_end hXSpu [] rfl rfl trivial rfl rfl rfl rfl (by first | ((repeat' (first | exact rfl | exact trivial | exact sim_refl _ | refine And.intro ?_ ?_)); done) | (simp [tupF, SV.ren, sim, simO0]; done)) (by (repeat' (first | exact rfl | exact trivial | exact sim_refl _ | refine And.intro ?_ ?_))) (by (repeat' (first | exact rfl | exact trivial | exact sim_refl _ | refine And.intro ?_ ?_))) (by (repeat' (first | exact rfl | exact trivial | exact sim_refl _ | refine And.intro ?_ ?_))))
end Go.Proofs.Ytfdkaakllceebaa
namespace Go.Proofs.Ytfdkaakllceebaa.slotsPlay
open Go Go.Hx
abbrev ks50 : List (Option IntKind) := [some .i64, some .i64, none]
theorem row_of (l : List SV) (h : okK ks50 l) : ∃ o : ActV, l = actRow (fun _ => o) 0 := by
  rcases l with _ | ⟨a, _ | ⟨b, _ | ⟨c, _ | ⟨d, r⟩⟩⟩⟩ <;> simp only [okK, and_false] at h
  obtain ⟨⟨n1, rfl, _⟩, ⟨n2, rfl, _⟩, ⟨b1, rfl⟩, _⟩ := h
  exact ⟨⟨n1, n2, b1⟩, rfl⟩
theorem rows_of (o : Nat → List SV) (h : ∀ i, okK ks50 (o i)) : ∃ q : Nat → ActV, o = actRow q :=
  ⟨fun i => Classical.choose (row_of (o i) (h i)), funext fun i => Classical.choose_spec (row_of (o i) (h i))⟩
theorem walk_nil (a : Option Addr) (n0 : Int) (_ : (Lit.int .i64 n0).wf = true) : Gives Try.prog 6 [.int .i64 n0, .raw (.slice a 0 0)] [] (Is .tt []) := play_nil n0 a
theorem walk (n0 : Int) (_ : (Lit.int .i64 n0).wf = true) (o : Nat → List SV) (h : ∀ i, okK ks50 (o i)) (len cap : Nat) (_ : len ≤ maxLen) :
    ∃ L, Gives Try.prog 6 [.int .i64 n0, .slice 0 0 len cap] [.obj (.rows len 3 o)] (Is .tt L) := by
  obtain ⟨q, rfl⟩ := rows_of o h
  exact ⟨_, play_fn len cap n0 q⟩
end Go.Proofs.Ytfdkaakllceebaa.slotsPlay
