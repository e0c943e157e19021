/- SmallAlone: a client that goes on alone: the table, and the places. -/
import Derived.Test.YtmghcelohnlceaaGreatDoorAloneRows
import Derived.Test.YtmghcelohnlceaaGreatDoorAloneTurnA
namespace Go.Proofs.YtmghcelohnlceaaGreatDoor
open Go Go.Hx
set_option maxRecDepth 8000
/-- cause.Top, where the laid variable is the second thing. -/
def top1S : Hx.Spec := fun args H => match args with
  | [.niliface] => some ([], .int .i64 0, H)
  | [.iface 55 (.int .i64 n)] => match H with
    | _ :: .obj (.pin 0 v) :: _ => some ([v = RTV], .int .i64 n, H)
    | _ => none
  | _ => none
theorem top1S_ok {args : List SV} {H : List HE} {ob : List Prop} {V : SV} {L : List HE} (hs : top1S args H = some (ob, V, L)) (ho : AllP ob) : Gives Tryz.prog 17 args H (Is V L) := by
  unfold top1S at hs
  split at hs
  · exact topS_ok (by unfold topS; exact hs) ho
  · rename_i _ n
    split at hs
    · rename_i _ e v r
      simp only [Option.some.injEq, Prod.mk.injEq] at hs
      obtain ⟨rfl, rfl, rfl⟩ := hs
      have hv := ho _ (List.mem_cons_self ..)
      subst hv
      have := frame1 (H := e :: pinE RTV :: r) (h0 := 1) (N := []) ⟨_, hTE⟩ (top_code n) rfl rfl rfl rfl rfl
      simp only [List.map_nil, List.append_nil, SO.ren] at this
      exact this
    · simp at hs
  · simp at hs
/-- What is told of the calls behind the first loop. -/
structure TQ where
  (R : Int) (f : Bool) (o : Option WS) (d : Nat) (i : Nat) (idle : Bool) (q : Nat) (w : WR) (r : RR)
def ctTq (p : TQ) : Nat → Option Hx.Spec
  | 12 => some (begS p.i p.f p.idle)
  | 13 => some (wStH p.q p.w)
  | 14 => some (rStH p.q p.r)
  | 16 => some (holdS p.R p.o p.d)
  | 17 => some (top1S)
  | _ => none
theorem ctTq_ok (p : TQ) : ∀ f s args H ob V L, ctTq p f = some s → s args H = some (ob, V, L) → AllP ob → Gives Tryz.prog f args H (Is V L) := by
  intro f s args H ob V L h hs ho
  unfold ctTq at h
  split at h
  · simp at h; subst h; exact begS_ok hs ho
  · simp at h; subst h; exact wStH_ok hs ho
  · simp at h; subst h; exact rStH_ok hs ho
  · simp at h; subst h; exact holdS_ok hs ho
  · simp at h; subst h; exact top1S_ok hs ho
  · simp at h
noncomputable def XTq (p : TQ) : Tabs := tabs tr ft xt (fun _ => none) (ctTq p) 0
theorem hXTq (p : TQ) : TOk Tryz.prog (XTq p) := ⟨hTE, hFT, (ctTq_ok p), hXT, fun t ks h => by simp [XTq, tabs] at h, mixed⟩
/-- The script's actions; or there are none. -/
def scE (bb : Bool) (N : Nat) (o : Nat → Int × Int) : HE := bif bb then .obj (.rows N 2 (actR o)) else .absent
theorem ren_scE {bb : Bool} {N : Nat} {o : Nat → Int × Int} {σ : Nat → Nat} : (scE bb N o).ren σ = scE bb N o := by cases bb <;> rfl
theorem okE_scE {bb : Bool} {N : Nat} {o : Nat → Int × Int} {A : Nat → Bool} : okE A (scE bb N o) := by cases bb <;> trivial
def alT2 (q : Int) : List (Nat × SV) := [(2, .int .i64 q), (7, .tt), (8, .ptr 2 0)]
def alH2 (bb : Bool) (N : Nat) (o : Nat → Int × Int) (R : Int) (z : Wd) : List HE := wdH (scE bb N o) R z []
theorem andV {m : Nat} (x M : Int) (hM : M = 2 ^ m - 1) (hm : m ≤ 32) : ibits .and .i64 x M = (((BitVec.ofInt IntKind.i64.bits x).toNat % 2 ^ m : Nat) : Int) := by
  subst hM
  have e2 : ((2 : Int) ^ m - 1) = ((2 ^ m - 1 : Nat) : Int) := by
    have : 1 ≤ 2 ^ m := Nat.one_le_two_pow
    rw [Int.ofNat_sub this]; norm_cast
  have hlt : 2 ^ m ≤ 2 ^ 32 := Nat.pow_le_pow_right (by decide) hm
  have e3 : (BitVec.ofInt IntKind.i64.bits ((2 : Int) ^ m - 1)).toNat = 2 ^ m - 1 := by
    rw [e2]
    show (BitVec.ofInt 64 ((2 ^ m - 1 : Nat) : Int)).toNat = _
    rw [BitVec.ofInt_natCast, BitVec.toNat_ofNat]
    exact Nat.mod_eq_of_lt (by omega)
  have h : (BitVec.ofInt IntKind.i64.bits x &&& BitVec.ofInt IntKind.i64.bits ((2 : Int) ^ m - 1)).toNat = (BitVec.ofInt IntKind.i64.bits x).toNat % 2 ^ m := by
    rw [BitVec.toNat_and, e3]
    exact Nat.and_two_pow_sub_one_eq_mod _ m
  have h2 : (BitVec.ofInt IntKind.i64.bits x).toNat % 2 ^ m < 2 ^ m := Nat.mod_lt _ (Nat.two_pow_pos m)
  simp only [ibits, h]
  rw [wi64 (by omega) (by omega)]
theorem and1_of (x : Int) : ibits .and .i64 x 1 = a3 x % 2 := by
  unfold a3
  rw [andV (m := 1) x 1 (by decide) (by decide), andV (m := 2) x 3 (by decide) (by decide)]
  omega
end Go.Proofs.YtmghcelohnlceaaGreatDoor

/- SmallAlone: client 0 goes on alone. -/
namespace Go.Proofs.YtmghcelohnlceaaGreatDoor
open Go Go.Hx
set_option maxRecDepth 8000
section
variable {bb : Bool} {R q : Int} {N : Nat} {o : Nat → Int × Int} {x : AS} {ρ : Nat → Nat × Nat} {w : World}
def soT0 (hd : Bool) : List (Nat × SV) := [(7, .tt), (8, .ptr 2 0), (12, .ptr 8 0), (13, .bool hd)]
/-- What is to be shown of the world in which the client's run is under way. -/
abbrev SJ0 (bb : Bool) (R : Int) (N : Nat) (o : Nat → Int × Int) (ρ : Nat → Nat × Nat) (w : World) (hd : Bool) (z : Wd) : Prop :=
  ∀ p : TQ, SS (hXTq p) (At ρ w) (Is .tt [scE bb N o, pinE RTV]) ⟨[], [], Tryz.f3, Tryz.f3.ntmps, [scE bb N o, pinE RTV], contF Tryz.f3 20 [], soT0 hd, alH2 bb N o R z⟩
set_option maxHeartbeats 4000000 in
theorem so0b (h : AInv R N x) (hq : a3 q = 0) {ep nx sn fl tm ii : Int} {hd : Bool} {l : List Int} (hc : x.z.c0 = (some ⟨ep, nx, sn, fl, tm, ii, hd, l⟩)) (J : BInv R (x.i + 1) x.z → MI x.z.W x.z.c0 x.z.c1 → SJ0 bb R N o ρ w (hdO x.z.c1) x.z) :
    ∃ p, SS (hXTq p) (At ρ w) (Is .tt [scE bb N o, pinE RTV]) ⟨[], [], Tryz.f3, Tryz.f3.ntmps, [scE bb N o, pinE RTV], contF Tryz.f3 17 [], alT2 q, alH2 bb N o R x.z⟩ := by
  obtain ⟨i, ⟨W, st, kd, wd, vl, ch, stb, kdb, wdb, vlb, chb, f, n, c0, c1, c2, c3, p0, q0, p1, q1, p2, q2, p3, q3, d0, d1, d2, d3⟩⟩ := x
  dsimp only at hc J
  subst hc
  have b := h.b
  have hi1 : i ≤ 100 := h.hi
  have hq3 : ibits .and .i64 q 3 = 0 := hq
  have hq1 : ibits .and .i64 q 1 = 0 := by rw [and1_of, hq]; decide
  have hx : ibits .xor .i64 0 1 = 1 := by decide
  refine ⟨⟨R, f, c1, 14, 0, false, 0, w00, r00⟩, ?_⟩
  have hX := hXTq ⟨R, f, c1, 14, 0, false, 0, w00, r00⟩
  dsimp only [alT2, alH2, wdH]
  refine sxb hX [.r 18] [] 4000 rfl (by simp [conjP, getH, HE.so, hq3, wrP, wrE]) ?_
  refine sx hX [] 6 rfl trivial ?_
  simp only [hq3]
  refine sxb hX [.r 19] [] 4000 rfl (by first | exact trivial | simp [conjP, addOP]) ?_
  refine sx hX [] 7 rfl trivial ?_
  simp only [hq1, hx]
  refine sxb hX [.r 20] [] 4000 rfl (by simp [conjP]) ?_
  refine ss_sub hX (T' := soT0 (hdO c1)) (H' := alH2 bb N o R ⟨W, st, kd, wd, vl, ch, stb, kdb, wdb, vlb, chb, f, n, (some ⟨ep, nx, sn, fl, tm, ii, hd, l⟩), c1, c2, c3, p0, q0, p1, q1, p2, q2, p3, q3, d0, d1, d2, d3⟩) [0, 1, 2, 3, 4, 5, 6, 7, 8, 9, 10, 11, 12, 13, 14, 15, 16, 17, 18, 19] rfl rfl rfl (by cases bb <;> rfl) ?tt ?hh (by (repeat' (first | exact rfl | exact trivial | exact sim_refl _ | refine And.intro ?_ ?_))) ?ok (J (BInv.nx b b.hl b.hw b.o0 b.o1 b.o2 b.o3 (hi := by omega)) h.m _)
  case tt => (repeat' (first | exact rfl | exact trivial | exact sim_refl _ | refine And.intro ?_ ?_)); done
  case hh => (((repeat' (first | exact rfl | exact trivial | exact sim_refl _ | exact simO_refl _ | exact subE_same rfl ren_scE | exact subE_same rfl ren_wlE | exact subE_same rfl ren_rlE | exact subE_same rfl ren_bwE | exact subE_wrE rfl rfl | exact subE_rdE rfl rfl | exact sim_wrP rfl | exact sim_rdP rfl | exact sim_bsV rfl | assumption | refine And.intro ?_ ?_)); done))
  case ok => (((repeat' (first | exact rfl | exact trivial | exact okE_scE | exact okE_wlE | exact okE_rlE | exact okE_bwE | exact okE_wrE rfl | exact okE_rdE rfl | exact okP_wrP (i := 13) rfl | exact okP_wrP (i := 15) rfl | exact okP_rdP (i := 17) rfl | exact okP_rdP (i := 19) rfl | exact okP_bsV rfl | refine And.intro ?_ ?_)); done))
set_option maxHeartbeats 4000000 in
theorem so0i (h : AInv R N x) (hq : a3 q = 0) (hc : x.z.c0 = none) (J : ∀ z', BInv R (x.i + 1) z' → MI z'.W z'.c0 z'.c1 → z'.c1 = x.z.c1 → z'.c0 ≠ none → SJ0 bb R N o ρ w (hdO x.z.c1) z') :
    ∃ p, SS (hXTq p) (At ρ w) (Is .tt [scE bb N o, pinE RTV]) ⟨[], [], Tryz.f3, Tryz.f3.ntmps, [scE bb N o, pinE RTV], contF Tryz.f3 17 [], alT2 q, alH2 bb N o R x.z⟩ := by
  obtain ⟨i, ⟨W, st, kd, wd, vl, ch, stb, kdb, wdb, vlb, chb, f, n, c0, c1, c2, c3, p0, q0, p1, q1, p2, q2, p3, q3, d0, d1, d2, d3⟩⟩ := x
  dsimp only at hc J
  subst hc
  have b := h.b
  have hi1 : i ≤ 100 := h.hi
  have hq3 : ibits .and .i64 q 3 = 0 := hq
  have hq1 : ibits .and .i64 q 1 = 0 := by rw [and1_of, hq]; decide
  have hx : ibits .xor .i64 0 1 = 1 := by decide
  have r1 := b.r1
  have r2 := b.r2
  have hl : W.length = 21 := b.hl
  have w0 : 0 ≤ W.getD 7 0 := (b.hw 7).1
  have w1 : W.getD 7 0 < 18446744073709551616 := (b.hw 7).2
  have n0 : 0 ≤ n := b.n0
  have n1 : n < 1000000 - 1 := by have h1 : n ≤ (i : Int) := b.n1; have h2 : i ≤ 10000 := b.hi; omega
  have n2 : n < 1000000 := by omega
  refine ⟨⟨R, f, c1, 14, 0, true, 0, w00, r00⟩, ?_⟩
  have hX := hXTq ⟨R, f, c1, 14, 0, true, 0, w00, r00⟩
  dsimp only [alT2, alH2, wdH]
  refine sxb hX [.r 18] [] 4000 rfl (by simp [-List.getD_eq_getElem?_getD, conjP, hq3, wrP, r1, r2, hl, w0, w1, n0, n2]) ?_
  refine sx hX [] 6 rfl trivial ?_
  simp only [hq3]
  refine sxb hX [.r 19] [] 4000 rfl (by first | exact trivial | simp [conjP, addOP]) ?_
  refine sx hX [] 7 rfl trivial ?_
  simp only [hq1, hx]
  refine sxb hX [.r 20] [] 4000 rfl (by simp [conjP]) ?_
  refine ss_raw hX 8 2 rfl rfl fun v => ?_
  refine ss_sub hX (T' := soT0 (hdO c1)) (H' := alH2 bb N o R ⟨W, st, kd, wd, vl, ch, stb, kdb, wdb, vlb, chb, f, n + 1, (some ⟨epW (W.getD 7 0), 1, 0, 0, 0, 0, false, List.replicate (1 + a3 3).toNat (n + 1)⟩), c1, c2, c3, v, q0, p1, q1, p2, q2, p3, q3, n + 1, d1, d2, d3⟩) [0, 1, 2, 3, 4, 5, 6, 7, 8, 9, 10, 11, 20, 21, 14, 15, 16, 17, 18, 19] rfl rfl rfl (by cases bb <;> rfl) ?tt ?hh (by (repeat' (first | exact rfl | exact trivial | exact sim_refl _ | refine And.intro ?_ ?_))) ?ok (J _ ?iv ?mi rfl (fun q => by cases q) _)
  case tt => (repeat' (first | exact rfl | exact trivial | exact sim_refl _ | refine And.intro ?_ ?_)); done
  case hh => (((repeat' (first | exact rfl | exact trivial | exact sim_refl _ | exact simO_refl _ | exact subE_same rfl ren_scE | exact subE_same rfl ren_wlE | exact subE_same rfl ren_rlE | exact subE_same rfl ren_bwE | exact subE_wrE rfl rfl | exact subE_rdE rfl rfl | exact sim_wrP rfl | exact sim_rdP rfl | exact sim_bsV rfl | assumption | refine And.intro ?_ ?_)); done))
  case ok => (((repeat' (first | exact rfl | exact trivial | exact okE_scE | exact okE_wlE | exact okE_rlE | exact okE_bwE | exact okE_wrE rfl | exact okE_rdE rfl | exact okP_wrP (i := 13) rfl | exact okP_wrP (i := 15) rfl | exact okP_rdP (i := 17) rfl | exact okP_rdP (i := 19) rfl | exact okP_bsV rfl | refine And.intro ?_ ?_)); done))
  case iv => exact BInv.nx b b.hl b.hw (wok_new r1 (by decide) (by decide) (by omega) (by omega)) (b.o1) (b.o2) (b.o3) (hi := by omega)
  case mi => exact h.m.new rfl
end
end Go.Proofs.YtmghcelohnlceaaGreatDoor

/- SmallAlone: client 1 goes on alone. -/
namespace Go.Proofs.YtmghcelohnlceaaGreatDoor
open Go Go.Hx
set_option maxRecDepth 8000
section
variable {bb : Bool} {R q : Int} {N : Nat} {o : Nat → Int × Int} {x : AS} {ρ : Nat → Nat × Nat} {w : World}
def soT1 (hd : Bool) : List (Nat × SV) := [(7, .tt), (8, .ptr 2 0), (12, .ptr 9 0), (13, .bool hd)]
/-- What is to be shown of the world in which the client's run is under way. -/
abbrev SJ1 (bb : Bool) (R : Int) (N : Nat) (o : Nat → Int × Int) (ρ : Nat → Nat × Nat) (w : World) (hd : Bool) (z : Wd) : Prop :=
  ∀ p : TQ, SS (hXTq p) (At ρ w) (Is .tt [scE bb N o, pinE RTV]) ⟨[], [], Tryz.f3, Tryz.f3.ntmps, [scE bb N o, pinE RTV], contF Tryz.f3 20 [], soT1 hd, alH2 bb N o R z⟩
set_option maxHeartbeats 4000000 in
theorem so1b (h : AInv R N x) (hq : a3 q = 1) {ep nx sn fl tm ii : Int} {hd : Bool} {l : List Int} (hc : x.z.c1 = (some ⟨ep, nx, sn, fl, tm, ii, hd, l⟩)) (J : BInv R (x.i + 1) x.z → MI x.z.W x.z.c0 x.z.c1 → SJ1 bb R N o ρ w (hdO x.z.c0) x.z) :
    ∃ p, SS (hXTq p) (At ρ w) (Is .tt [scE bb N o, pinE RTV]) ⟨[], [], Tryz.f3, Tryz.f3.ntmps, [scE bb N o, pinE RTV], contF Tryz.f3 17 [], alT2 q, alH2 bb N o R x.z⟩ := by
  obtain ⟨i, ⟨W, st, kd, wd, vl, ch, stb, kdb, wdb, vlb, chb, f, n, c0, c1, c2, c3, p0, q0, p1, q1, p2, q2, p3, q3, d0, d1, d2, d3⟩⟩ := x
  dsimp only at hc J
  subst hc
  have b := h.b
  have hi1 : i ≤ 100 := h.hi
  have hq3 : ibits .and .i64 q 3 = 1 := hq
  have hq1 : ibits .and .i64 q 1 = 1 := by rw [and1_of, hq]; decide
  have hx : ibits .xor .i64 1 1 = 0 := by decide
  refine ⟨⟨R, f, c0, 12, 1, false, 0, w00, r00⟩, ?_⟩
  have hX := hXTq ⟨R, f, c0, 12, 1, false, 0, w00, r00⟩
  dsimp only [alT2, alH2, wdH]
  refine sxb hX [.r 18] [] 4000 rfl (by simp [conjP, getH, HE.so, hq3, wrP, wrE]) ?_
  refine sx hX [] 6 rfl trivial ?_
  simp only [hq3]
  refine sxb hX [.r 19] [] 4000 rfl (by first | exact trivial | simp [conjP, addOP]) ?_
  refine sx hX [] 7 rfl trivial ?_
  simp only [hq1, hx]
  refine sxb hX [.r 20] [] 4000 rfl (by simp [conjP]) ?_
  refine ss_sub hX (T' := soT1 (hdO c0)) (H' := alH2 bb N o R ⟨W, st, kd, wd, vl, ch, stb, kdb, wdb, vlb, chb, f, n, c0, (some ⟨ep, nx, sn, fl, tm, ii, hd, l⟩), c2, c3, p0, q0, p1, q1, p2, q2, p3, q3, d0, d1, d2, d3⟩) [0, 1, 2, 3, 4, 5, 6, 7, 8, 9, 10, 11, 12, 13, 14, 15, 16, 17, 18, 19] rfl rfl rfl (by cases bb <;> rfl) ?tt ?hh (by (repeat' (first | exact rfl | exact trivial | exact sim_refl _ | refine And.intro ?_ ?_))) ?ok (J (BInv.nx b b.hl b.hw b.o0 b.o1 b.o2 b.o3 (hi := by omega)) h.m _)
  case tt => (repeat' (first | exact rfl | exact trivial | exact sim_refl _ | refine And.intro ?_ ?_)); done
  case hh => (((repeat' (first | exact rfl | exact trivial | exact sim_refl _ | exact simO_refl _ | exact subE_same rfl ren_scE | exact subE_same rfl ren_wlE | exact subE_same rfl ren_rlE | exact subE_same rfl ren_bwE | exact subE_wrE rfl rfl | exact subE_rdE rfl rfl | exact sim_wrP rfl | exact sim_rdP rfl | exact sim_bsV rfl | assumption | refine And.intro ?_ ?_)); done))
  case ok => (((repeat' (first | exact rfl | exact trivial | exact okE_scE | exact okE_wlE | exact okE_rlE | exact okE_bwE | exact okE_wrE rfl | exact okE_rdE rfl | exact okP_wrP (i := 13) rfl | exact okP_wrP (i := 15) rfl | exact okP_rdP (i := 17) rfl | exact okP_rdP (i := 19) rfl | exact okP_bsV rfl | refine And.intro ?_ ?_)); done))
set_option maxHeartbeats 4000000 in
theorem so1i (h : AInv R N x) (hq : a3 q = 1) (hc : x.z.c1 = none) (J : ∀ z', BInv R (x.i + 1) z' → MI z'.W z'.c0 z'.c1 → z'.c0 = x.z.c0 → z'.c1 ≠ none → SJ1 bb R N o ρ w (hdO x.z.c0) z') :
    ∃ p, SS (hXTq p) (At ρ w) (Is .tt [scE bb N o, pinE RTV]) ⟨[], [], Tryz.f3, Tryz.f3.ntmps, [scE bb N o, pinE RTV], contF Tryz.f3 17 [], alT2 q, alH2 bb N o R x.z⟩ := by
  obtain ⟨i, ⟨W, st, kd, wd, vl, ch, stb, kdb, wdb, vlb, chb, f, n, c0, c1, c2, c3, p0, q0, p1, q1, p2, q2, p3, q3, d0, d1, d2, d3⟩⟩ := x
  dsimp only at hc J
  subst hc
  have b := h.b
  have hi1 : i ≤ 100 := h.hi
  have hq3 : ibits .and .i64 q 3 = 1 := hq
  have hq1 : ibits .and .i64 q 1 = 1 := by rw [and1_of, hq]; decide
  have hx : ibits .xor .i64 1 1 = 0 := by decide
  have r1 := b.r1
  have r2 := b.r2
  have hl : W.length = 21 := b.hl
  have w0 : 0 ≤ W.getD 7 0 := (b.hw 7).1
  have w1 : W.getD 7 0 < 18446744073709551616 := (b.hw 7).2
  have n0 : 0 ≤ n := b.n0
  have n1 : n < 1000000 - 1 := by have h1 : n ≤ (i : Int) := b.n1; have h2 : i ≤ 10000 := b.hi; omega
  have n2 : n < 1000000 := by omega
  refine ⟨⟨R, f, c0, 12, 1, true, 0, w00, r00⟩, ?_⟩
  have hX := hXTq ⟨R, f, c0, 12, 1, true, 0, w00, r00⟩
  dsimp only [alT2, alH2, wdH]
  refine sxb hX [.r 18] [] 4000 rfl (by simp [-List.getD_eq_getElem?_getD, conjP, hq3, wrP, r1, r2, hl, w0, w1, n0, n2]) ?_
  refine sx hX [] 6 rfl trivial ?_
  simp only [hq3]
  refine sxb hX [.r 19] [] 4000 rfl (by first | exact trivial | simp [conjP, addOP]) ?_
  refine sx hX [] 7 rfl trivial ?_
  simp only [hq1, hx]
  refine sxb hX [.r 20] [] 4000 rfl (by simp [conjP]) ?_
  refine ss_raw hX 9 2 rfl rfl fun v => ?_
  refine ss_sub hX (T' := soT1 (hdO c0)) (H' := alH2 bb N o R ⟨W, st, kd, wd, vl, ch, stb, kdb, wdb, vlb, chb, f, n + 1, c0, (some ⟨epW (W.getD 7 0), 1, 0, 0, 0, 0, false, List.replicate (1 + a3 3).toNat (n + 1)⟩), c2, c3, p0, q0, v, q1, p2, q2, p3, q3, d0, n + 1, d2, d3⟩) [0, 1, 2, 3, 4, 5, 6, 7, 8, 9, 10, 11, 12, 13, 20, 21, 16, 17, 18, 19] rfl rfl rfl (by cases bb <;> rfl) ?tt ?hh (by (repeat' (first | exact rfl | exact trivial | exact sim_refl _ | refine And.intro ?_ ?_))) ?ok (J _ ?iv ?mi rfl (fun q => by cases q) _)
  case tt => (repeat' (first | exact rfl | exact trivial | exact sim_refl _ | refine And.intro ?_ ?_)); done
  case hh => (((repeat' (first | exact rfl | exact trivial | exact sim_refl _ | exact simO_refl _ | exact subE_same rfl ren_scE | exact subE_same rfl ren_wlE | exact subE_same rfl ren_rlE | exact subE_same rfl ren_bwE | exact subE_wrE rfl rfl | exact subE_rdE rfl rfl | exact sim_wrP rfl | exact sim_rdP rfl | exact sim_bsV rfl | assumption | refine And.intro ?_ ?_)); done))
  case ok => (((repeat' (first | exact rfl | exact trivial | exact okE_scE | exact okE_wlE | exact okE_rlE | exact okE_bwE | exact okE_wrE rfl | exact okE_rdE rfl | exact okP_wrP (i := 13) rfl | exact okP_wrP (i := 15) rfl | exact okP_rdP (i := 17) rfl | exact okP_rdP (i := 19) rfl | exact okP_bsV rfl | refine And.intro ?_ ?_)); done))
  case iv => exact BInv.nx b b.hl b.hw (b.o0) (wok_new r1 (by decide) (by decide) (by omega) (by omega)) (b.o2) (b.o3) (hi := by omega)
  case mi => exact (h.m.swap.new rfl).swap
end
end Go.Proofs.YtmghcelohnlceaaGreatDoor

/- SmallAlone: client 2 goes on alone. -/
namespace Go.Proofs.YtmghcelohnlceaaGreatDoor
open Go Go.Hx
set_option maxRecDepth 8000
section
variable {bb : Bool} {R q : Int} {N : Nat} {o : Nat → Int × Int} {x : AS} {ρ : Nat → Nat × Nat} {w : World}
def soT2 (hd : Bool) : List (Nat × SV) := [(7, .tt), (8, .ptr 2 0), (12, .ptr 10 0), (13, .bool hd)]
/-- What is to be shown of the world in which the client's run is under way. -/
abbrev SJ2 (bb : Bool) (R : Int) (N : Nat) (o : Nat → Int × Int) (ρ : Nat → Nat × Nat) (w : World) (hd : Bool) (z : Wd) : Prop :=
  ∀ p : TQ, SS (hXTq p) (At ρ w) (Is .tt [scE bb N o, pinE RTV]) ⟨[], [], Tryz.f3, Tryz.f3.ntmps, [scE bb N o, pinE RTV], contF Tryz.f3 20 [], soT2 hd, alH2 bb N o R z⟩
set_option maxHeartbeats 4000000 in
theorem so2b (h : AInv R N x) (hq : a3 q = 2) {ep nx sn fl tm : Int} {o' : Option (List Int)} (hc : x.z.c2 = (some ⟨ep, nx, sn, fl, tm, o'⟩)) (J : BInv R (x.i + 1) x.z → MI x.z.W x.z.c0 x.z.c1 → SJ2 bb R N o ρ w (hdO x.z.c1) x.z) :
    ∃ p, SS (hXTq p) (At ρ w) (Is .tt [scE bb N o, pinE RTV]) ⟨[], [], Tryz.f3, Tryz.f3.ntmps, [scE bb N o, pinE RTV], contF Tryz.f3 17 [], alT2 q, alH2 bb N o R x.z⟩ := by
  obtain ⟨i, ⟨W, st, kd, wd, vl, ch, stb, kdb, wdb, vlb, chb, f, n, c0, c1, c2, c3, p0, q0, p1, q1, p2, q2, p3, q3, d0, d1, d2, d3⟩⟩ := x
  dsimp only at hc J
  subst hc
  have b := h.b
  have hi1 : i ≤ 100 := h.hi
  have hq3 : ibits .and .i64 q 3 = 2 := hq
  have hq1 : ibits .and .i64 q 1 = 0 := by rw [and1_of, hq]; decide
  have hx : ibits .xor .i64 0 1 = 1 := by decide
  refine ⟨⟨R, f, c1, 14, 2, false, 0, w00, r00⟩, ?_⟩
  have hX := hXTq ⟨R, f, c1, 14, 2, false, 0, w00, r00⟩
  dsimp only [alT2, alH2, wdH]
  refine sxb hX [.r 18] [] 4000 rfl (by simp [conjP, getH, HE.so, hq3, rdP, rdE]) ?_
  refine sx hX [] 6 rfl trivial ?_
  simp only [hq3]
  refine sxb hX [.r 19] [] 4000 rfl (by first | exact trivial | simp [conjP, addOP]) ?_
  refine sx hX [] 7 rfl trivial ?_
  simp only [hq1, hx]
  refine sxb hX [.r 20] [] 4000 rfl (by simp [conjP]) ?_
  refine ss_sub hX (T' := soT2 (hdO c1)) (H' := alH2 bb N o R ⟨W, st, kd, wd, vl, ch, stb, kdb, wdb, vlb, chb, f, n, c0, c1, (some ⟨ep, nx, sn, fl, tm, o'⟩), c3, p0, q0, p1, q1, p2, q2, p3, q3, d0, d1, d2, d3⟩) [0, 1, 2, 3, 4, 5, 6, 7, 8, 9, 10, 11, 12, 13, 14, 15, 16, 17, 18, 19] rfl rfl rfl (by cases bb <;> rfl) ?tt ?hh (by (repeat' (first | exact rfl | exact trivial | exact sim_refl _ | refine And.intro ?_ ?_))) ?ok (J (BInv.nx b b.hl b.hw b.o0 b.o1 b.o2 b.o3 (hi := by omega)) h.m _)
  case tt => (repeat' (first | exact rfl | exact trivial | exact sim_refl _ | refine And.intro ?_ ?_)); done
  case hh => (((repeat' (first | exact rfl | exact trivial | exact sim_refl _ | exact simO_refl _ | exact subE_same rfl ren_scE | exact subE_same rfl ren_wlE | exact subE_same rfl ren_rlE | exact subE_same rfl ren_bwE | exact subE_wrE rfl rfl | exact subE_rdE rfl rfl | exact sim_wrP rfl | exact sim_rdP rfl | exact sim_bsV rfl | assumption | refine And.intro ?_ ?_)); done))
  case ok => (((repeat' (first | exact rfl | exact trivial | exact okE_scE | exact okE_wlE | exact okE_rlE | exact okE_bwE | exact okE_wrE rfl | exact okE_rdE rfl | exact okP_wrP (i := 13) rfl | exact okP_wrP (i := 15) rfl | exact okP_rdP (i := 17) rfl | exact okP_rdP (i := 19) rfl | exact okP_bsV rfl | refine And.intro ?_ ?_)); done))
set_option maxHeartbeats 4000000 in
theorem so2i (h : AInv R N x) (hq : a3 q = 2) (hc : x.z.c2 = none) (J : ∀ z', BInv R (x.i + 1) z' → MI z'.W z'.c0 z'.c1 → z'.c1 = x.z.c1 → z'.c2 ≠ none → SJ2 bb R N o ρ w (hdO x.z.c1) z') :
    ∃ p, SS (hXTq p) (At ρ w) (Is .tt [scE bb N o, pinE RTV]) ⟨[], [], Tryz.f3, Tryz.f3.ntmps, [scE bb N o, pinE RTV], contF Tryz.f3 17 [], alT2 q, alH2 bb N o R x.z⟩ := by
  obtain ⟨i, ⟨W, st, kd, wd, vl, ch, stb, kdb, wdb, vlb, chb, f, n, c0, c1, c2, c3, p0, q0, p1, q1, p2, q2, p3, q3, d0, d1, d2, d3⟩⟩ := x
  dsimp only at hc J
  subst hc
  have b := h.b
  have hi1 : i ≤ 100 := h.hi
  have hq3 : ibits .and .i64 q 3 = 2 := hq
  have hq1 : ibits .and .i64 q 1 = 0 := by rw [and1_of, hq]; decide
  have hx : ibits .xor .i64 0 1 = 1 := by decide
  have r1 := b.r1
  have r2 := b.r2
  have hl : W.length = 21 := b.hl
  have w0 : 0 ≤ W.getD 7 0 := (b.hw 7).1
  have w1 : W.getD 7 0 < 18446744073709551616 := (b.hw 7).2
  have n0 : 0 ≤ n := b.n0
  have n1 : n < 1000000 - 1 := by have h1 : n ≤ (i : Int) := b.n1; have h2 : i ≤ 10000 := b.hi; omega
  have n2 : n < 1000000 := by omega
  refine ⟨⟨R, f, c1, 14, 2, true, 0, w00, r00⟩, ?_⟩
  have hX := hXTq ⟨R, f, c1, 14, 2, true, 0, w00, r00⟩
  dsimp only [alT2, alH2, wdH]
  refine sxb hX [.r 18] [] 4000 rfl (by simp [-List.getD_eq_getElem?_getD, conjP, hq3, rdP, r1, r2, hl, w0, w1]) ?_
  refine sx hX [] 6 rfl trivial ?_
  simp only [hq3]
  refine sxb hX [.r 19] [] 4000 rfl (by first | exact trivial | simp [conjP, addOP]) ?_
  refine sx hX [] 7 rfl trivial ?_
  simp only [hq1, hx]
  refine sxb hX [.r 20] [] 4000 rfl (by simp [conjP]) ?_
  refine ss_raw hX 10 3 rfl rfl fun v => ?_
  refine ss_sub hX (T' := soT2 (hdO c1)) (H' := alH2 bb N o R ⟨W, st, kd, wd, vl, ch, stb, kdb, wdb, vlb, chb, f, n, c0, c1, (some ⟨epW (W.getD 7 0), 1, 0, 0, 0, none⟩), c3, p0, q0, p1, q1, p2, v, p3, q3, d0, d1, d2, d3⟩) [0, 1, 2, 3, 4, 5, 6, 7, 8, 9, 10, 11, 12, 13, 14, 15, 20, 61, 18, 19] rfl rfl rfl (by cases bb <;> rfl) ?tt ?hh (by (repeat' (first | exact rfl | exact trivial | exact sim_refl _ | refine And.intro ?_ ?_))) ?ok (J _ ?iv ?mi rfl (fun q => by cases q) _)
  case tt => (repeat' (first | exact rfl | exact trivial | exact sim_refl _ | refine And.intro ?_ ?_)); done
  case hh => (((repeat' (first | exact rfl | exact trivial | exact sim_refl _ | exact simO_refl _ | exact subE_same rfl ren_scE | exact subE_same rfl ren_wlE | exact subE_same rfl ren_rlE | exact subE_same rfl ren_bwE | exact subE_wrE rfl rfl | exact subE_rdE rfl rfl | exact sim_wrP rfl | exact sim_rdP rfl | exact sim_bsV rfl | assumption | refine And.intro ?_ ?_)); done))
  case ok => (((repeat' (first | exact rfl | exact trivial | exact okE_scE | exact okE_wlE | exact okE_rlE | exact okE_bwE | exact okE_wrE rfl | exact okE_rdE rfl | exact okP_wrP (i := 13) rfl | exact okP_wrP (i := 15) rfl | exact okP_rdP (i := 17) rfl | exact okP_rdP (i := 19) rfl | exact okP_bsV rfl | refine And.intro ?_ ?_)); done))
  case iv => exact BInv.nx b b.hl b.hw (b.o0) (b.o1) (rok_new r1) (b.o3) (hi := by omega)
  case mi => exact h.m
end
end Go.Proofs.YtmghcelohnlceaaGreatDoor

/- SmallAlone: client 3 goes on alone. -/
namespace Go.Proofs.YtmghcelohnlceaaGreatDoor
open Go Go.Hx
set_option maxRecDepth 8000
section
variable {bb : Bool} {R q : Int} {N : Nat} {o : Nat → Int × Int} {x : AS} {ρ : Nat → Nat × Nat} {w : World}
def soT3 (hd : Bool) : List (Nat × SV) := [(7, .tt), (8, .ptr 2 0), (12, .ptr 11 0), (13, .bool hd)]
/-- What is to be shown of the world in which the client's run is under way. -/
abbrev SJ3 (bb : Bool) (R : Int) (N : Nat) (o : Nat → Int × Int) (ρ : Nat → Nat × Nat) (w : World) (hd : Bool) (z : Wd) : Prop :=
  ∀ p : TQ, SS (hXTq p) (At ρ w) (Is .tt [scE bb N o, pinE RTV]) ⟨[], [], Tryz.f3, Tryz.f3.ntmps, [scE bb N o, pinE RTV], contF Tryz.f3 20 [], soT3 hd, alH2 bb N o R z⟩
set_option maxHeartbeats 4000000 in
theorem so3b (h : AInv R N x) (hq : a3 q = 3) {ep nx sn fl tm : Int} {o' : Option (List Int)} (hc : x.z.c3 = (some ⟨ep, nx, sn, fl, tm, o'⟩)) (J : BInv R (x.i + 1) x.z → MI x.z.W x.z.c0 x.z.c1 → SJ3 bb R N o ρ w (hdO x.z.c0) x.z) :
    ∃ p, SS (hXTq p) (At ρ w) (Is .tt [scE bb N o, pinE RTV]) ⟨[], [], Tryz.f3, Tryz.f3.ntmps, [scE bb N o, pinE RTV], contF Tryz.f3 17 [], alT2 q, alH2 bb N o R x.z⟩ := by
  obtain ⟨i, ⟨W, st, kd, wd, vl, ch, stb, kdb, wdb, vlb, chb, f, n, c0, c1, c2, c3, p0, q0, p1, q1, p2, q2, p3, q3, d0, d1, d2, d3⟩⟩ := x
  dsimp only at hc J
  subst hc
  have b := h.b
  have hi1 : i ≤ 100 := h.hi
  have hq3 : ibits .and .i64 q 3 = 3 := hq
  have hq1 : ibits .and .i64 q 1 = 1 := by rw [and1_of, hq]; decide
  have hx : ibits .xor .i64 1 1 = 0 := by decide
  refine ⟨⟨R, f, c0, 12, 3, false, 0, w00, r00⟩, ?_⟩
  have hX := hXTq ⟨R, f, c0, 12, 3, false, 0, w00, r00⟩
  dsimp only [alT2, alH2, wdH]
  refine sxb hX [.r 18] [] 4000 rfl (by simp [conjP, getH, HE.so, hq3, rdP, rdE]) ?_
  refine sx hX [] 6 rfl trivial ?_
  simp only [hq3]
  refine sxb hX [.r 19] [] 4000 rfl (by first | exact trivial | simp [conjP, addOP]) ?_
  refine sx hX [] 7 rfl trivial ?_
  simp only [hq1, hx]
  refine sxb hX [.r 20] [] 4000 rfl (by simp [conjP]) ?_
  refine ss_sub hX (T' := soT3 (hdO c0)) (H' := alH2 bb N o R ⟨W, st, kd, wd, vl, ch, stb, kdb, wdb, vlb, chb, f, n, c0, c1, c2, (some ⟨ep, nx, sn, fl, tm, o'⟩), p0, q0, p1, q1, p2, q2, p3, q3, d0, d1, d2, d3⟩) [0, 1, 2, 3, 4, 5, 6, 7, 8, 9, 10, 11, 12, 13, 14, 15, 16, 17, 18, 19] rfl rfl rfl (by cases bb <;> rfl) ?tt ?hh (by (repeat' (first | exact rfl | exact trivial | exact sim_refl _ | refine And.intro ?_ ?_))) ?ok (J (BInv.nx b b.hl b.hw b.o0 b.o1 b.o2 b.o3 (hi := by omega)) h.m _)
  case tt => (repeat' (first | exact rfl | exact trivial | exact sim_refl _ | refine And.intro ?_ ?_)); done
  case hh => (((repeat' (first | exact rfl | exact trivial | exact sim_refl _ | exact simO_refl _ | exact subE_same rfl ren_scE | exact subE_same rfl ren_wlE | exact subE_same rfl ren_rlE | exact subE_same rfl ren_bwE | exact subE_wrE rfl rfl | exact subE_rdE rfl rfl | exact sim_wrP rfl | exact sim_rdP rfl | exact sim_bsV rfl | assumption | refine And.intro ?_ ?_)); done))
  case ok => (((repeat' (first | exact rfl | exact trivial | exact okE_scE | exact okE_wlE | exact okE_rlE | exact okE_bwE | exact okE_wrE rfl | exact okE_rdE rfl | exact okP_wrP (i := 13) rfl | exact okP_wrP (i := 15) rfl | exact okP_rdP (i := 17) rfl | exact okP_rdP (i := 19) rfl | exact okP_bsV rfl | refine And.intro ?_ ?_)); done))
set_option maxHeartbeats 4000000 in
theorem so3i (h : AInv R N x) (hq : a3 q = 3) (hc : x.z.c3 = none) (J : ∀ z', BInv R (x.i + 1) z' → MI z'.W z'.c0 z'.c1 → z'.c0 = x.z.c0 → z'.c3 ≠ none → SJ3 bb R N o ρ w (hdO x.z.c0) z') :
    ∃ p, SS (hXTq p) (At ρ w) (Is .tt [scE bb N o, pinE RTV]) ⟨[], [], Tryz.f3, Tryz.f3.ntmps, [scE bb N o, pinE RTV], contF Tryz.f3 17 [], alT2 q, alH2 bb N o R x.z⟩ := by
  obtain ⟨i, ⟨W, st, kd, wd, vl, ch, stb, kdb, wdb, vlb, chb, f, n, c0, c1, c2, c3, p0, q0, p1, q1, p2, q2, p3, q3, d0, d1, d2, d3⟩⟩ := x
  dsimp only at hc J
  subst hc
  have b := h.b
  have hi1 : i ≤ 100 := h.hi
  have hq3 : ibits .and .i64 q 3 = 3 := hq
  have hq1 : ibits .and .i64 q 1 = 1 := by rw [and1_of, hq]; decide
  have hx : ibits .xor .i64 1 1 = 0 := by decide
  have r1 := b.r1
  have r2 := b.r2
  have hl : W.length = 21 := b.hl
  have w0 : 0 ≤ W.getD 7 0 := (b.hw 7).1
  have w1 : W.getD 7 0 < 18446744073709551616 := (b.hw 7).2
  have n0 : 0 ≤ n := b.n0
  have n1 : n < 1000000 - 1 := by have h1 : n ≤ (i : Int) := b.n1; have h2 : i ≤ 10000 := b.hi; omega
  have n2 : n < 1000000 := by omega
  refine ⟨⟨R, f, c0, 12, 3, true, 0, w00, r00⟩, ?_⟩
  have hX := hXTq ⟨R, f, c0, 12, 3, true, 0, w00, r00⟩
  dsimp only [alT2, alH2, wdH]
  refine sxb hX [.r 18] [] 4000 rfl (by simp [-List.getD_eq_getElem?_getD, conjP, hq3, rdP, r1, r2, hl, w0, w1]) ?_
  refine sx hX [] 6 rfl trivial ?_
  simp only [hq3]
  refine sxb hX [.r 19] [] 4000 rfl (by first | exact trivial | simp [conjP, addOP]) ?_
  refine sx hX [] 7 rfl trivial ?_
  simp only [hq1, hx]
  refine sxb hX [.r 20] [] 4000 rfl (by simp [conjP]) ?_
  refine ss_raw hX 11 3 rfl rfl fun v => ?_
  refine ss_sub hX (T' := soT3 (hdO c0)) (H' := alH2 bb N o R ⟨W, st, kd, wd, vl, ch, stb, kdb, wdb, vlb, chb, f, n, c0, c1, c2, (some ⟨epW (W.getD 7 0), 1, 0, 0, 0, none⟩), p0, q0, p1, q1, p2, q2, p3, v, d0, d1, d2, d3⟩) [0, 1, 2, 3, 4, 5, 6, 7, 8, 9, 10, 11, 12, 13, 14, 15, 16, 17, 20, 61] rfl rfl rfl (by cases bb <;> rfl) ?tt ?hh (by (repeat' (first | exact rfl | exact trivial | exact sim_refl _ | refine And.intro ?_ ?_))) ?ok (J _ ?iv ?mi rfl (fun q => by cases q) _)
  case tt => (repeat' (first | exact rfl | exact trivial | exact sim_refl _ | refine And.intro ?_ ?_)); done
  case hh => (((repeat' (first | exact rfl | exact trivial | exact sim_refl _ | exact simO_refl _ | exact subE_same rfl ren_scE | exact subE_same rfl ren_wlE | exact subE_same rfl ren_rlE | exact subE_same rfl ren_bwE | exact subE_wrE rfl rfl | exact subE_rdE rfl rfl | exact sim_wrP rfl | exact sim_rdP rfl | exact sim_bsV rfl | assumption | refine And.intro ?_ ?_)); done))
  case ok => (((repeat' (first | exact rfl | exact trivial | exact okE_scE | exact okE_wlE | exact okE_rlE | exact okE_bwE | exact okE_wrE rfl | exact okE_rdE rfl | exact okP_wrP (i := 13) rfl | exact okP_wrP (i := 15) rfl | exact okP_rdP (i := 17) rfl | exact okP_rdP (i := 19) rfl | exact okP_bsV rfl | refine And.intro ?_ ?_)); done))
  case iv => exact BInv.nx b b.hl b.hw (b.o0) (b.o1) (b.o2) (rok_new r1) (hi := by omega)
  case mi => exact h.m
end
end Go.Proofs.YtmghcelohnlceaaGreatDoor
