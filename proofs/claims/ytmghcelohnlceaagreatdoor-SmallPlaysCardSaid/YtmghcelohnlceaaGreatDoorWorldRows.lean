/- Who has its turn, a client's beginning, and a read's step, as rows of the table. -/
import Derived.Test.YtmghcelohnlceaaGreatDoorBegin
namespace Go.Proofs.YtmghcelohnlceaaGreatDoor
open Go Go.Hx
set_option maxRecDepth 8000
theorem gfB {P : Program} {f : Nat} {ags cargs : List SV} {H Hc L L' : List HE} {V V' : SV} (hT : ∃ TE : Nat → TI, ∀ t, TIok P t (TE t)) (hF : Gives P f cargs Hc (Is V L)) (σs : List Nat) (fs : List Fl)
    (hargs : ags = SV.rens (sig σs H.length) cargs) (hcok : SV.okhs (there Hc) cargs = true) (hlen : Nat.beq σs.length Hc.length = true) (hnd : nodupN σs = true) (hlt : allLt H σs)
    (hH : subH (sig σs H.length) H 0 Hc) (hok2 : okHP (thereF Hc) Hc) (hfl : flOk fs Hc L) (hV : V.ren (sig σs H.length) = V') (hL : mergeB (sig σs H.length) σs fs H L = L') :
    Gives P f ags H (Is V' L') := by
  subst hV; subst hL
  exact gives_frameB hT hF σs fs hargs hcok hlen hnd hlt hH hok2 hfl

/-- Client 0 begins, if it does nothing (idle). -/
def beg0S (f idle : Bool) : Hx.Spec := fun args H => match args, H with
  | [.ptr 2 0, .int .i64 i', .int .i64 m], e0 :: e1 :: .obj xo :: .obj ao :: .obj wo :: .obj bo :: e6 :: .obj ko :: .obj c0 :: .obj c1 :: .obj c2 :: .obj c3 :: e12 :: e13 :: e14 :: e15 :: rest =>
    match xo, wo, bo, c0 with
    | .cells [x0, x1, x2, x3, x4, x5, x6, x7, .int .i64 R, xa, xb, xk, .int .u64 n] xt, .ints k W wt, .cells [b0, .int .i64 stb, .int .i64 kdb, .int .i64 wdb, .int .u64 vlb, .bool chb, b6, b7] bt, .cells [u, v, .raw p, .raw q, .int .u64 id] ct =>
      match idle with
      | true => match nums[H.length]?, nums[H.length + 1]?, nums[H.length + 2]?, nums[H.length + 3]? with
        | some n0, some n1, some n2, some n3 => some ([SO.cells [x0, x1, x2, x3, x4, x5, x6, x7, .int .i64 R, xa, xb, xk, .int .u64 n] xt = xO R 3 5 7 n, ko = kO 8 9 10 11, SO.cells [u, v, .raw p, .raw q, .int .u64 id] ct = cqO .nilptr .nilptr p q id, i' = 0, SO.cells [b0, .int .i64 stb, .int .i64 kdb, .int .i64 wdb, .int .u64 vlb, .bool chb, b6, b7] bt = rbO (bsV f 6) stb kdb wdb vlb chb, e6 = bwE f W, HE.obj (.ints k W wt) = WO W, 1 ≤ R, R ≤ 8, W.length = 21, 0 ≤ W.getD 7 0, W.getD 7 0 < 18446744073709551616, 0 ≤ n, n < 1000000], .tup [], e0 :: e1 :: .obj (xO R 3 5 7 (n + 1)) :: .obj ao :: WO W :: .obj (rbO (bsV f 6) stb kdb wdb vlb chb) :: bwE f W :: .obj (kO 8 9 10 11) :: .obj (.cells [.ptr n0 0, .nilptr, .ptr n2 0, .raw q, .int .u64 (n + 1)] 47) :: .obj c1 :: .obj c2 :: .obj c3 :: e12 :: e13 :: e14 :: e15 :: (rest ++ [.obj (wrO R (epW (W.getD 7 0)) 1 0 0 0 0 .niliface n1 (1 + a3 m).toNat 0 false), wdE (List.replicate (1 + a3 m).toNat (n + 1)), .obj (rwO R (epW (W.getD 7 0)) 1 0 0 n3 (1 + a3 m).toNat 0 0 false 0), .obj (.ints .u64 (List.replicate (1 + a3 m).toNat (n + 1)) 39)]))
        | _, _, _, _ => none
      | false => some ([SO.cells [x0, x1, x2, x3, x4, x5, x6, x7, .int .i64 R, xa, xb, xk, .int .u64 n] xt = xO R 3 5 7 n, ko = kO 8 9 10 11, SO.cells [u, v, .raw p, .raw q, .int .u64 id] ct = cqO (.ptr 12 0) .nilptr p q id, i' = 0, ∃ o, getH H 12 = some o], .tup [], H)
    | _, _, _, _ => none
  | _, _ => none
set_option maxHeartbeats 4000000 in
theorem beg0S_ok {f idle : Bool} {args : List SV} {H : List HE} {ob : List Prop} {V : SV} {L : List HE} (hs : beg0S f idle args H = some (ob, V, L)) (ho : AllP ob) : Gives Tryz.prog 12 args H (Is V L) := by
  unfold beg0S at hs
  split at hs
  case h_2 => simp at hs
  rename_i _ _ i' m e0 e1 xo ao wo bo e6 ko c0 c1 c2 c3 e12 e13 e14 e15 rest
  split at hs
  case h_2 => simp at hs
  rename_i x0 x1 x2 x3 x4 x5 x6 x7 R xa xb xk n xt k W wt b0 stb kdb wdb vlb chb b6 b7 bt u v p q id ct
  split at hs
  · split at hs
    case h_2 => simp at hs
    rename_i n0 n1 n2 n3 t0 t1 t2 t3
    have t0' := nums_get _ _ t0
    have t1' := nums_get _ _ t1
    have t2' := nums_get _ _ t2
    have t3' := nums_get _ _ t3
    simp only [Option.some.injEq, Prod.mk.injEq] at hs
    obtain ⟨rfl, rfl, rfl⟩ := hs
    simp only [AllP, List.mem_cons, List.not_mem_nil, or_false, forall_eq_or_imp, forall_eq] at ho
    obtain ⟨q1, q2, q3, rfl, q4, q5, q6, g1, g2, g3, g4, g5, g6, g7⟩ := ho
    subst t0'; subst t1'; subst t2'; subst t3'
    rw [q1, q2, q3, q4, q5, q6]
    rcases f with _ | _
    · exact gfB ⟨_, hTE⟩ (begW00_fn g1 g2 g3 g4 g5 g6 g7) [2, 3, 5, 6, 7, 8, 9, 10, 11] [.new, .keep, .new, .new, .new, .new, .keep, .keep, .keep] rfl rfl rfl rfl (by (repeat' (first | exact ⟨_, rfl⟩ | exact trivial | refine And.intro ?_ ?_))) (by (repeat' (first | exact rfl | exact trivial | exact sim_refl _ | refine And.intro ?_ ?_))) (by (repeat' (first | exact rfl | exact trivial | exact sim_refl _ | refine And.intro ?_ ?_))) (by (repeat' (first | exact rfl | exact trivial | exact sim_refl _ | refine And.intro ?_ ?_))) rfl (by rw [mergeB, appL_eq]; rfl)
    · exact gfB ⟨_, hTE⟩ (begW01_fn g1 g2 g3 g4 g5 g6 g7) [2, 3, 5, 6, 7, 8, 9, 10, 11] [.new, .keep, .new, .new, .new, .new, .keep, .keep, .keep] rfl rfl rfl rfl (by (repeat' (first | exact ⟨_, rfl⟩ | exact trivial | refine And.intro ?_ ?_))) (by (repeat' (first | exact rfl | exact trivial | exact sim_refl _ | refine And.intro ?_ ?_))) (by (repeat' (first | exact rfl | exact trivial | exact sim_refl _ | refine And.intro ?_ ?_))) (by (repeat' (first | exact rfl | exact trivial | exact sim_refl _ | refine And.intro ?_ ?_))) rfl (by rw [mergeB, appL_eq]; rfl)
  · simp only [Option.some.injEq, Prod.mk.injEq] at hs
    obtain ⟨rfl, rfl, rfl⟩ := hs
    simp only [AllP, List.mem_cons, List.not_mem_nil, or_false, forall_eq_or_imp, forall_eq] at ho
    obtain ⟨q1, q2, q3, rfl, o, q4⟩ := ho
    rw [q1, q2, q3] at *
    exact gfB ⟨_, hTE⟩ begB0_fn [2, 3, 5, 7, 8, 9, 10, 11, 12] [.new, .keep, .keep, .new, .new, .keep, .keep, .keep, .keep] rfl rfl rfl rfl (by repeat' (first | exact ⟨_, getH_some.1 q4⟩ | exact ⟨_, rfl⟩ | exact trivial | refine And.intro ?_ ?_)) (by repeat' (first | exact there_of_obj (getH_some.1 q4) | exact rfl | exact trivial | exact sim_refl _ | exact simO_refl _ | refine And.intro ?_ ?_)) (by (repeat' (first | exact rfl | exact trivial | exact sim_refl _ | refine And.intro ?_ ?_))) (by (repeat' (first | exact rfl | exact trivial | exact sim_refl _ | refine And.intro ?_ ?_))) rfl (by rw [mergeB, appL_eq]; exact (List.append_nil _).trans rfl)
/-- Client 1 begins, if it does nothing (idle). -/
def beg1S (f idle : Bool) : Hx.Spec := fun args H => match args, H with
  | [.ptr 2 0, .int .i64 i', .int .i64 m], e0 :: e1 :: .obj xo :: .obj ao :: .obj wo :: .obj bo :: e6 :: .obj ko :: .obj c0 :: .obj c1 :: .obj c2 :: .obj c3 :: e12 :: e13 :: e14 :: e15 :: rest =>
    match xo, wo, bo, c1 with
    | .cells [x0, x1, x2, x3, x4, x5, x6, x7, .int .i64 R, xa, xb, xk, .int .u64 n] xt, .ints k W wt, .cells [b0, .int .i64 stb, .int .i64 kdb, .int .i64 wdb, .int .u64 vlb, .bool chb, b6, b7] bt, .cells [u, v, .raw p, .raw q, .int .u64 id] ct =>
      match idle with
      | true => match nums[H.length]?, nums[H.length + 1]?, nums[H.length + 2]?, nums[H.length + 3]? with
        | some n0, some n1, some n2, some n3 => some ([SO.cells [x0, x1, x2, x3, x4, x5, x6, x7, .int .i64 R, xa, xb, xk, .int .u64 n] xt = xO R 3 5 7 n, ko = kO 8 9 10 11, SO.cells [u, v, .raw p, .raw q, .int .u64 id] ct = cqO .nilptr .nilptr p q id, i' = 1, SO.cells [b0, .int .i64 stb, .int .i64 kdb, .int .i64 wdb, .int .u64 vlb, .bool chb, b6, b7] bt = rbO (bsV f 6) stb kdb wdb vlb chb, e6 = bwE f W, HE.obj (.ints k W wt) = WO W, 1 ≤ R, R ≤ 8, W.length = 21, 0 ≤ W.getD 7 0, W.getD 7 0 < 18446744073709551616, 0 ≤ n, n < 1000000], .tup [], e0 :: e1 :: .obj (xO R 3 5 7 (n + 1)) :: .obj ao :: WO W :: .obj (rbO (bsV f 6) stb kdb wdb vlb chb) :: bwE f W :: .obj (kO 8 9 10 11) :: .obj c0 :: .obj (.cells [.ptr n0 0, .nilptr, .ptr n2 0, .raw q, .int .u64 (n + 1)] 47) :: .obj c2 :: .obj c3 :: e12 :: e13 :: e14 :: e15 :: (rest ++ [.obj (wrO R (epW (W.getD 7 0)) 1 0 0 0 0 .niliface n1 (1 + a3 m).toNat 0 false), wdE (List.replicate (1 + a3 m).toNat (n + 1)), .obj (rwO R (epW (W.getD 7 0)) 1 0 0 n3 (1 + a3 m).toNat 0 0 false 0), .obj (.ints .u64 (List.replicate (1 + a3 m).toNat (n + 1)) 39)]))
        | _, _, _, _ => none
      | false => some ([SO.cells [x0, x1, x2, x3, x4, x5, x6, x7, .int .i64 R, xa, xb, xk, .int .u64 n] xt = xO R 3 5 7 n, ko = kO 8 9 10 11, SO.cells [u, v, .raw p, .raw q, .int .u64 id] ct = cqO (.ptr 14 0) .nilptr p q id, i' = 1, ∃ o, getH H 14 = some o], .tup [], H)
    | _, _, _, _ => none
  | _, _ => none
set_option maxHeartbeats 4000000 in
theorem beg1S_ok {f idle : Bool} {args : List SV} {H : List HE} {ob : List Prop} {V : SV} {L : List HE} (hs : beg1S f idle args H = some (ob, V, L)) (ho : AllP ob) : Gives Tryz.prog 12 args H (Is V L) := by
  unfold beg1S at hs
  split at hs
  case h_2 => simp at hs
  rename_i _ _ i' m e0 e1 xo ao wo bo e6 ko c0 c1 c2 c3 e12 e13 e14 e15 rest
  split at hs
  case h_2 => simp at hs
  rename_i x0 x1 x2 x3 x4 x5 x6 x7 R xa xb xk n xt k W wt b0 stb kdb wdb vlb chb b6 b7 bt u v p q id ct
  split at hs
  · split at hs
    case h_2 => simp at hs
    rename_i n0 n1 n2 n3 t0 t1 t2 t3
    have t0' := nums_get _ _ t0
    have t1' := nums_get _ _ t1
    have t2' := nums_get _ _ t2
    have t3' := nums_get _ _ t3
    simp only [Option.some.injEq, Prod.mk.injEq] at hs
    obtain ⟨rfl, rfl, rfl⟩ := hs
    simp only [AllP, List.mem_cons, List.not_mem_nil, or_false, forall_eq_or_imp, forall_eq] at ho
    obtain ⟨q1, q2, q3, rfl, q4, q5, q6, g1, g2, g3, g4, g5, g6, g7⟩ := ho
    subst t0'; subst t1'; subst t2'; subst t3'
    rw [q1, q2, q3, q4, q5, q6]
    rcases f with _ | _
    · exact gfB ⟨_, hTE⟩ (begW10_fn g1 g2 g3 g4 g5 g6 g7) [2, 3, 5, 6, 7, 8, 9, 10, 11] [.new, .keep, .new, .new, .new, .keep, .new, .keep, .keep] rfl rfl rfl rfl (by (repeat' (first | exact ⟨_, rfl⟩ | exact trivial | refine And.intro ?_ ?_))) (by (repeat' (first | exact rfl | exact trivial | exact sim_refl _ | refine And.intro ?_ ?_))) (by (repeat' (first | exact rfl | exact trivial | exact sim_refl _ | refine And.intro ?_ ?_))) (by (repeat' (first | exact rfl | exact trivial | exact sim_refl _ | refine And.intro ?_ ?_))) rfl (by rw [mergeB, appL_eq]; rfl)
    · exact gfB ⟨_, hTE⟩ (begW11_fn g1 g2 g3 g4 g5 g6 g7) [2, 3, 5, 6, 7, 8, 9, 10, 11] [.new, .keep, .new, .new, .new, .keep, .new, .keep, .keep] rfl rfl rfl rfl (by (repeat' (first | exact ⟨_, rfl⟩ | exact trivial | refine And.intro ?_ ?_))) (by (repeat' (first | exact rfl | exact trivial | exact sim_refl _ | refine And.intro ?_ ?_))) (by (repeat' (first | exact rfl | exact trivial | exact sim_refl _ | refine And.intro ?_ ?_))) (by (repeat' (first | exact rfl | exact trivial | exact sim_refl _ | refine And.intro ?_ ?_))) rfl (by rw [mergeB, appL_eq]; rfl)
  · simp only [Option.some.injEq, Prod.mk.injEq] at hs
    obtain ⟨rfl, rfl, rfl⟩ := hs
    simp only [AllP, List.mem_cons, List.not_mem_nil, or_false, forall_eq_or_imp, forall_eq] at ho
    obtain ⟨q1, q2, q3, rfl, o, q4⟩ := ho
    rw [q1, q2, q3] at *
    exact gfB ⟨_, hTE⟩ begB1_fn [2, 3, 5, 7, 8, 9, 10, 11, 14] [.new, .keep, .keep, .new, .keep, .new, .keep, .keep, .keep] rfl rfl rfl rfl (by repeat' (first | exact ⟨_, getH_some.1 q4⟩ | exact ⟨_, rfl⟩ | exact trivial | refine And.intro ?_ ?_)) (by repeat' (first | exact there_of_obj (getH_some.1 q4) | exact rfl | exact trivial | exact sim_refl _ | exact simO_refl _ | refine And.intro ?_ ?_)) (by (repeat' (first | exact rfl | exact trivial | exact sim_refl _ | refine And.intro ?_ ?_))) (by (repeat' (first | exact rfl | exact trivial | exact sim_refl _ | refine And.intro ?_ ?_))) rfl (by rw [mergeB, appL_eq]; exact (List.append_nil _).trans rfl)
/-- Client 2 begins, if it does nothing (idle). -/
def beg2S (f idle : Bool) : Hx.Spec := fun args H => match args, H with
  | [.ptr 2 0, .int .i64 i', .int .i64 _m], e0 :: e1 :: .obj xo :: .obj ao :: .obj wo :: .obj bo :: e6 :: .obj ko :: .obj c0 :: .obj c1 :: .obj c2 :: .obj c3 :: e12 :: e13 :: e14 :: e15 :: rest =>
    match xo, wo, bo, c2 with
    | .cells [x0, x1, x2, x3, x4, x5, x6, x7, .int .i64 R, xa, xb, xk, .int .u64 n] xt, .ints k W wt, .cells [b0, .int .i64 stb, .int .i64 kdb, .int .i64 wdb, .int .u64 vlb, .bool chb, b6, b7] bt, .cells [u, v, .raw p, .raw q, .int .u64 id] ct =>
      match idle with
      | true => match nums[H.length]?, nums[H.length + 1]? with
        | some n0, some n1 => some ([SO.cells [x0, x1, x2, x3, x4, x5, x6, x7, .int .i64 R, xa, xb, xk, .int .u64 n] xt = xO R 3 5 7 n, ko = kO 8 9 10 11, SO.cells [u, v, .raw p, .raw q, .int .u64 id] ct = cqO .nilptr .nilptr p q id, i' = 2, SO.cells [b0, .int .i64 stb, .int .i64 kdb, .int .i64 wdb, .int .u64 vlb, .bool chb, b6, b7] bt = rbO (bsV f 6) stb kdb wdb vlb chb, e6 = bwE f W, HE.obj (.ints k W wt) = WO W, 1 ≤ R, R ≤ 8, W.length = 21, 0 ≤ W.getD 7 0, W.getD 7 0 < 18446744073709551616], .tup [], e0 :: e1 :: .obj (xO R 3 5 7 n) :: .obj ao :: WO W :: .obj (rbO (bsV f 6) stb kdb wdb vlb chb) :: bwE f W :: .obj (kO 8 9 10 11) :: .obj c0 :: .obj c1 :: .obj (.cells [.nilptr, .ptr n0 0, .raw p, .ptr n1 0, .int .u64 id] 47) :: .obj c3 :: e12 :: e13 :: e14 :: e15 :: (rest ++ [.obj (rdO R (epW (W.getD 7 0)) 1 0 0 0 0 .niliface .nilslice), .obj (rrO R (epW (W.getD 7 0)) 1 0 .nilslice 0 0 0)]))
        | _, _ => none
      | false => some ([SO.cells [x0, x1, x2, x3, x4, x5, x6, x7, .int .i64 R, xa, xb, xk, .int .u64 n] xt = xO R 3 5 7 n, ko = kO 8 9 10 11, SO.cells [u, v, .raw p, .raw q, .int .u64 id] ct = cqO .nilptr (.ptr 16 0) p q id, i' = 2, ∃ o, getH H 16 = some o], .tup [], H)
    | _, _, _, _ => none
  | _, _ => none
set_option maxHeartbeats 4000000 in
theorem beg2S_ok {f idle : Bool} {args : List SV} {H : List HE} {ob : List Prop} {V : SV} {L : List HE} (hs : beg2S f idle args H = some (ob, V, L)) (ho : AllP ob) : Gives Tryz.prog 12 args H (Is V L) := by
  unfold beg2S at hs
  split at hs
  case h_2 => simp at hs
  rename_i _ _ i' m e0 e1 xo ao wo bo e6 ko c0 c1 c2 c3 e12 e13 e14 e15 rest
  split at hs
  case h_2 => simp at hs
  rename_i x0 x1 x2 x3 x4 x5 x6 x7 R xa xb xk n xt k W wt b0 stb kdb wdb vlb chb b6 b7 bt u v p q id ct
  split at hs
  · split at hs
    case h_2 => simp at hs
    rename_i n0 n1 t0 t1
    have t0' := nums_get _ _ t0
    have t1' := nums_get _ _ t1
    simp only [Option.some.injEq, Prod.mk.injEq] at hs
    obtain ⟨rfl, rfl, rfl⟩ := hs
    simp only [AllP, List.mem_cons, List.not_mem_nil, or_false, forall_eq_or_imp, forall_eq] at ho
    obtain ⟨q1, q2, q3, rfl, q4, q5, q6, g1, g2, g3, g4, g5⟩ := ho
    subst t0'; subst t1'
    rw [q1, q2, q3, q4, q5, q6]
    rcases f with _ | _
    · exact gfB ⟨_, hTE⟩ (begR20_fn g1 g2 g3 g4 g5) [2, 3, 5, 6, 7, 8, 9, 10, 11] [.new, .keep, .new, .new, .new, .keep, .keep, .new, .keep] rfl rfl rfl rfl (by (repeat' (first | exact ⟨_, rfl⟩ | exact trivial | refine And.intro ?_ ?_))) (by (repeat' (first | exact rfl | exact trivial | exact sim_refl _ | refine And.intro ?_ ?_))) (by (repeat' (first | exact rfl | exact trivial | exact sim_refl _ | refine And.intro ?_ ?_))) (by (repeat' (first | exact rfl | exact trivial | exact sim_refl _ | refine And.intro ?_ ?_))) rfl (by rw [mergeB, appL_eq]; rfl)
    · exact gfB ⟨_, hTE⟩ (begR21_fn g1 g2 g3 g4 g5) [2, 3, 5, 6, 7, 8, 9, 10, 11] [.new, .keep, .new, .new, .new, .keep, .keep, .new, .keep] rfl rfl rfl rfl (by (repeat' (first | exact ⟨_, rfl⟩ | exact trivial | refine And.intro ?_ ?_))) (by (repeat' (first | exact rfl | exact trivial | exact sim_refl _ | refine And.intro ?_ ?_))) (by (repeat' (first | exact rfl | exact trivial | exact sim_refl _ | refine And.intro ?_ ?_))) (by (repeat' (first | exact rfl | exact trivial | exact sim_refl _ | refine And.intro ?_ ?_))) rfl (by rw [mergeB, appL_eq]; rfl)
  · simp only [Option.some.injEq, Prod.mk.injEq] at hs
    obtain ⟨rfl, rfl, rfl⟩ := hs
    simp only [AllP, List.mem_cons, List.not_mem_nil, or_false, forall_eq_or_imp, forall_eq] at ho
    obtain ⟨q1, q2, q3, rfl, o, q4⟩ := ho
    rw [q1, q2, q3] at *
    exact gfB ⟨_, hTE⟩ begB2_fn [2, 3, 5, 7, 8, 9, 10, 11, 16] [.new, .keep, .keep, .new, .keep, .keep, .new, .keep, .keep] rfl rfl rfl rfl (by repeat' (first | exact ⟨_, getH_some.1 q4⟩ | exact ⟨_, rfl⟩ | exact trivial | refine And.intro ?_ ?_)) (by repeat' (first | exact there_of_obj (getH_some.1 q4) | exact rfl | exact trivial | exact sim_refl _ | exact simO_refl _ | refine And.intro ?_ ?_)) (by (repeat' (first | exact rfl | exact trivial | exact sim_refl _ | refine And.intro ?_ ?_))) (by (repeat' (first | exact rfl | exact trivial | exact sim_refl _ | refine And.intro ?_ ?_))) rfl (by rw [mergeB, appL_eq]; exact (List.append_nil _).trans rfl)
/-- Client 3 begins, if it does nothing (idle). -/
def beg3S (f idle : Bool) : Hx.Spec := fun args H => match args, H with
  | [.ptr 2 0, .int .i64 i', .int .i64 _m], e0 :: e1 :: .obj xo :: .obj ao :: .obj wo :: .obj bo :: e6 :: .obj ko :: .obj c0 :: .obj c1 :: .obj c2 :: .obj c3 :: e12 :: e13 :: e14 :: e15 :: rest =>
    match xo, wo, bo, c3 with
    | .cells [x0, x1, x2, x3, x4, x5, x6, x7, .int .i64 R, xa, xb, xk, .int .u64 n] xt, .ints k W wt, .cells [b0, .int .i64 stb, .int .i64 kdb, .int .i64 wdb, .int .u64 vlb, .bool chb, b6, b7] bt, .cells [u, v, .raw p, .raw q, .int .u64 id] ct =>
      match idle with
      | true => match nums[H.length]?, nums[H.length + 1]? with
        | some n0, some n1 => some ([SO.cells [x0, x1, x2, x3, x4, x5, x6, x7, .int .i64 R, xa, xb, xk, .int .u64 n] xt = xO R 3 5 7 n, ko = kO 8 9 10 11, SO.cells [u, v, .raw p, .raw q, .int .u64 id] ct = cqO .nilptr .nilptr p q id, i' = 3, SO.cells [b0, .int .i64 stb, .int .i64 kdb, .int .i64 wdb, .int .u64 vlb, .bool chb, b6, b7] bt = rbO (bsV f 6) stb kdb wdb vlb chb, e6 = bwE f W, HE.obj (.ints k W wt) = WO W, 1 ≤ R, R ≤ 8, W.length = 21, 0 ≤ W.getD 7 0, W.getD 7 0 < 18446744073709551616], .tup [], e0 :: e1 :: .obj (xO R 3 5 7 n) :: .obj ao :: WO W :: .obj (rbO (bsV f 6) stb kdb wdb vlb chb) :: bwE f W :: .obj (kO 8 9 10 11) :: .obj c0 :: .obj c1 :: .obj c2 :: .obj (.cells [.nilptr, .ptr n0 0, .raw p, .ptr n1 0, .int .u64 id] 47) :: e12 :: e13 :: e14 :: e15 :: (rest ++ [.obj (rdO R (epW (W.getD 7 0)) 1 0 0 0 0 .niliface .nilslice), .obj (rrO R (epW (W.getD 7 0)) 1 0 .nilslice 0 0 0)]))
        | _, _ => none
      | false => some ([SO.cells [x0, x1, x2, x3, x4, x5, x6, x7, .int .i64 R, xa, xb, xk, .int .u64 n] xt = xO R 3 5 7 n, ko = kO 8 9 10 11, SO.cells [u, v, .raw p, .raw q, .int .u64 id] ct = cqO .nilptr (.ptr 18 0) p q id, i' = 3, ∃ o, getH H 18 = some o], .tup [], H)
    | _, _, _, _ => none
  | _, _ => none
set_option maxHeartbeats 4000000 in
theorem beg3S_ok {f idle : Bool} {args : List SV} {H : List HE} {ob : List Prop} {V : SV} {L : List HE} (hs : beg3S f idle args H = some (ob, V, L)) (ho : AllP ob) : Gives Tryz.prog 12 args H (Is V L) := by
  unfold beg3S at hs
  split at hs
  case h_2 => simp at hs
  rename_i _ _ i' m e0 e1 xo ao wo bo e6 ko c0 c1 c2 c3 e12 e13 e14 e15 rest
  split at hs
  case h_2 => simp at hs
  rename_i x0 x1 x2 x3 x4 x5 x6 x7 R xa xb xk n xt k W wt b0 stb kdb wdb vlb chb b6 b7 bt u v p q id ct
  split at hs
  · split at hs
    case h_2 => simp at hs
    rename_i n0 n1 t0 t1
    have t0' := nums_get _ _ t0
    have t1' := nums_get _ _ t1
    simp only [Option.some.injEq, Prod.mk.injEq] at hs
    obtain ⟨rfl, rfl, rfl⟩ := hs
    simp only [AllP, List.mem_cons, List.not_mem_nil, or_false, forall_eq_or_imp, forall_eq] at ho
    obtain ⟨q1, q2, q3, rfl, q4, q5, q6, g1, g2, g3, g4, g5⟩ := ho
    subst t0'; subst t1'
    rw [q1, q2, q3, q4, q5, q6]
    rcases f with _ | _
    · exact gfB ⟨_, hTE⟩ (begR30_fn g1 g2 g3 g4 g5) [2, 3, 5, 6, 7, 8, 9, 10, 11] [.new, .keep, .new, .new, .new, .keep, .keep, .keep, .new] rfl rfl rfl rfl (by (repeat' (first | exact ⟨_, rfl⟩ | exact trivial | refine And.intro ?_ ?_))) (by (repeat' (first | exact rfl | exact trivial | exact sim_refl _ | refine And.intro ?_ ?_))) (by (repeat' (first | exact rfl | exact trivial | exact sim_refl _ | refine And.intro ?_ ?_))) (by (repeat' (first | exact rfl | exact trivial | exact sim_refl _ | refine And.intro ?_ ?_))) rfl (by rw [mergeB, appL_eq]; rfl)
    · exact gfB ⟨_, hTE⟩ (begR31_fn g1 g2 g3 g4 g5) [2, 3, 5, 6, 7, 8, 9, 10, 11] [.new, .keep, .new, .new, .new, .keep, .keep, .keep, .new] rfl rfl rfl rfl (by (repeat' (first | exact ⟨_, rfl⟩ | exact trivial | refine And.intro ?_ ?_))) (by (repeat' (first | exact rfl | exact trivial | exact sim_refl _ | refine And.intro ?_ ?_))) (by (repeat' (first | exact rfl | exact trivial | exact sim_refl _ | refine And.intro ?_ ?_))) (by (repeat' (first | exact rfl | exact trivial | exact sim_refl _ | refine And.intro ?_ ?_))) rfl (by rw [mergeB, appL_eq]; rfl)
  · simp only [Option.some.injEq, Prod.mk.injEq] at hs
    obtain ⟨rfl, rfl, rfl⟩ := hs
    simp only [AllP, List.mem_cons, List.not_mem_nil, or_false, forall_eq_or_imp, forall_eq] at ho
    obtain ⟨q1, q2, q3, rfl, o, q4⟩ := ho
    rw [q1, q2, q3] at *
    exact gfB ⟨_, hTE⟩ begB3_fn [2, 3, 5, 7, 8, 9, 10, 11, 18] [.new, .keep, .keep, .new, .keep, .keep, .keep, .new, .keep] rfl rfl rfl rfl (by repeat' (first | exact ⟨_, getH_some.1 q4⟩ | exact ⟨_, rfl⟩ | exact trivial | refine And.intro ?_ ?_)) (by repeat' (first | exact there_of_obj (getH_some.1 q4) | exact rfl | exact trivial | exact sim_refl _ | exact simO_refl _ | refine And.intro ?_ ?_)) (by (repeat' (first | exact rfl | exact trivial | exact sim_refl _ | refine And.intro ?_ ?_))) (by (repeat' (first | exact rfl | exact trivial | exact sim_refl _ | refine And.intro ?_ ?_))) rfl (by rw [mergeB, appL_eq]; exact (List.append_nil _).trans rfl)
end Go.Proofs.YtmghcelohnlceaaGreatDoor
