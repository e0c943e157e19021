/- A write's step, as a row of the table. -/
import Derived.Test.YtmghcelohnlceaaGreatDoorBegun
namespace Go.Proofs.YtmghcelohnlceaaGreatDoor
open Go Go.Hx
set_option maxRecDepth 8000
section
variable {P : Program} {f : Nat} {ags cargs : List SV} {V : SV} {H : List HE} {o0 o1 o2 o3 p0 p1 p2 p3 : SO} {h0 h1 h2 h3 : Nat} {N : List HE}
theorem frame4 (hT : ∃ TE : Nat → TI, ∀ t, TIok P t (TE t)) (hF : Gives P f cargs [.obj o0, .obj o1, .obj o2, .obj o3] (Is V (.obj p0 :: .obj p1 :: .obj p2 :: .obj p3 :: N))) (hargs : ags = SV.rens (nm [h0, h1, h2, h3] H) cargs)
    (hcok : SV.okhs (there [.obj o0, .obj o1, .obj o2, .obj o3]) cargs = true) (hokc : okHs (there [.obj o0, .obj o1, .obj o2, .obj o3]) [.obj o0, .obj o1, .obj o2, .obj o3] = true) (hnd : nodupN [h0, h1, h2, h3] = true)
    (g0 : getH H h0 = some (o0.ren (nm [h0, h1, h2, h3] H))) (g1 : getH H h1 = some (o1.ren (nm [h0, h1, h2, h3] H))) (g2 : getH H h2 = some (o2.ren (nm [h0, h1, h2, h3] H))) (g3 : getH H h3 = some (o3.ren (nm [h0, h1, h2, h3] H))) (hn : newOk N = true) :
    Gives P f ags H (Is (V.ren (nm [h0, h1, h2, h3] H)) ((((H.set h0 (.obj (p0.ren (nm [h0, h1, h2, h3] H)))).set h1 (.obj (p1.ren (nm [h0, h1, h2, h3] H)))).set h2 (.obj (p2.ren (nm [h0, h1, h2, h3] H)))).set h3 (.obj (p3.ren (nm [h0, h1, h2, h3] H))) ++ N.map (HE.ren (nm [h0, h1, h2, h3] H)))) := by
  have := gives_frame (H := H) hT hF [h0, h1, h2, h3] hargs hcok rfl rfl hokc hnd ⟨g0, g1, g2, g3, trivial⟩ hn
  simpa [merge, setAll, HE.ren] using this
theorem frame4q (hT : ∃ TE : Nat → TI, ∀ t, TIok P t (TE t)) (hF : Gives P f cargs [.obj o0, .obj o1, .obj o2, .obj o3] (Is V (.obj p0 :: .obj p1 :: .obj p2 :: .opq :: N))) (hargs : ags = SV.rens (nm [h0, h1, h2, h3] H) cargs)
    (hcok : SV.okhs (there [.obj o0, .obj o1, .obj o2, .obj o3]) cargs = true) (hokc : okHs (there [.obj o0, .obj o1, .obj o2, .obj o3]) [.obj o0, .obj o1, .obj o2, .obj o3] = true) (hnd : nodupN [h0, h1, h2, h3] = true)
    (g0 : getH H h0 = some (o0.ren (nm [h0, h1, h2, h3] H))) (g1 : getH H h1 = some (o1.ren (nm [h0, h1, h2, h3] H))) (g2 : getH H h2 = some (o2.ren (nm [h0, h1, h2, h3] H))) (g3 : getH H h3 = some (o3.ren (nm [h0, h1, h2, h3] H))) (hn : newOk N = true) :
    Gives P f ags H (Is (V.ren (nm [h0, h1, h2, h3] H)) ((((H.set h0 (.obj (p0.ren (nm [h0, h1, h2, h3] H)))).set h1 (.obj (p1.ren (nm [h0, h1, h2, h3] H)))).set h2 (.obj (p2.ren (nm [h0, h1, h2, h3] H)))).set h3 .opq ++ N.map (HE.ren (nm [h0, h1, h2, h3] H)))) := by
  have := gives_frame (H := H) hT hF [h0, h1, h2, h3] hargs hcok rfl rfl hokc hnd ⟨g0, g1, g2, g3, trivial⟩ hn
  simpa [merge, setAll, HE.ren] using this
end
/-- What an arena's pattern says of the heap. -/
theorem arP_get {H : List HE} {ha hw : Nat} {W : List Int} {st kd wd vl : Int} {ch : Bool} {ob : List Prop} (hp : arP H ha = some (hw, ⟨W, st, kd, wd, vl, ch⟩, ob)) (hob : AllP ob) :
    getH H ha = some (.cells [.slice hw 0 W.length W.length, .int .i64 st, .int .i64 kd, .int .i64 wd, .int .u64 vl, .bool ch, .niliface] 115) ∧ getH H hw = some (.ints .u64 W 39) := by
  unfold arP at hp
  split at hp
  · rename_i hga
    split at hp
    · rename_i hgw hn
      simp only [Option.some.injEq, Prod.mk.injEq] at hp
      obtain ⟨rfl, h2, rfl⟩ := hp
      simp only [Ar.mk.injEq] at h2
      obtain ⟨rfl, rfl, rfl, rfl, rfl, rfl⟩ := h2
      have l1 := hob _ (List.mem_cons_self ..)
      have l2 := hob _ (List.mem_cons_of_mem _ (List.mem_cons_self ..))
      subst l1; subst l2
      exact ⟨hga, hgw⟩
    · simp at hp
  · simp at hp
theorem step4_ok {fid : Nat} {o o' : Nat → SO} {W W' l : List Int} {st kd wd vl st' kd' wd' vl' : Int} {ch ch' : Bool} {dn : SV} (hc : Gives Tryz.prog fid [.ptr 0 0, .ptr 1 0] [.obj (o 3), AOx 2 W st kd wd vl ch, WO W, wdE l] (Is dn [.obj (o' 3), AOx 2 W' st' kd' wd' vl' ch', WO W', wdE l]))
    (ho : ∀ σ h, (o h).ren σ = o (σ h)) (ho' : ∀ σ h, (o' h).ren σ = o' (σ h)) (hd : ∀ σ, dn.ren σ = dn) (hok : okHs (there [.obj (o 3), AOx 2 W st kd wd vl ch, WO W, wdE l]) [.obj (o 3), AOx 2 W st kd wd vl ch, WO W, wdE l] = true)
    {H : List HE} {h ha hw hl : Nat} (hga : getH H ha = some (.cells [.slice hw 0 W.length W.length, .int .i64 st, .int .i64 kd, .int .i64 wd, .int .u64 vl, .bool ch, .niliface] 115)) (hgw : getH H hw = some (.ints .u64 W 39)) (hg : getH H h = some (o hl)) (hgl : getH H hl = some (.buf .u64 l 1 39)) (hnd : nodupN [h, ha, hw, hl] = true) :
    Gives Tryz.prog fid [.ptr h 0, .ptr ha 0] H (Is dn ((((H.set h (.obj (o' hl))).set ha (AOx hw W' st' kd' wd' vl' ch')).set hw (WO W')).set hl (wdE l))) := by
  have := frame4 (N := []) (H := H) (h0 := h) (h1 := ha) (h2 := hw) (h3 := hl) (ags := [.ptr h 0, .ptr ha 0]) ⟨_, hTE⟩ hc rfl rfl hok hnd (by rw [ho]; exact hg) hga hgw hgl rfl
  rw [hd, ho'] at this
  simp only [List.map_nil, List.append_nil] at this
  exact this
def wrA (H : List HE) (h : Nat) : Option (Int × Int × Int × Int × Int × Int × Int × SV × Nat × List Int × Int × Bool × List Prop) :=
  match getH H h with
  | some (.cells [x0, x1, x2, x3, x4, x5, x6, x7, .int .i64 R, x9, .int .i64 ep, .int .i64 nx, .int .u64 sn, .int .i64 fl, .int .i64 cm, .int .i64 tm, e, .sbuf hl 1 0 n, .int .i64 i, hd] ty) => match getH H hl, bV hd with
    | some (.buf .u64 l 1 39), some b => some (R, ep, nx, sn, fl, cm, tm, e, hl, l, i, b, [SO.cells [x0, x1, x2, x3, x4, x5, x6, x7, .int .i64 R, x9, .int .i64 ep, .int .i64 nx, .int .u64 sn, .int .i64 fl, .int .i64 cm, .int .i64 tm, e, .sbuf hl 1 0 n, .int .i64 i, hd] ty = wrO R ep nx sn fl cm tm e hl l.length i b])
    | _, _ => none
  | _ => none
theorem wrA_get {H : List HE} {h hl : Nat} {R ep nx sn fl cm tm i : Int} {e : SV} {l : List Int} {b : Bool} {ob : List Prop} (hs : wrA H h = some (R, ep, nx, sn, fl, cm, tm, e, hl, l, i, b, ob)) (ho : AllP ob) : getH H h = some (wrO R ep nx sn fl cm tm e hl l.length i b) ∧ getH H hl = some (.buf .u64 l 1 39) := by
  unfold wrA at hs
  split at hs
  · rename_i hg
    split at hs
    · rename_i hg2 _
      simp only [Option.some.injEq, Prod.mk.injEq] at hs
      obtain ⟨rfl, rfl, rfl, rfl, rfl, rfl, rfl, rfl, rfl, rfl, rfl, rfl, rfl⟩ := hs
      have q := ho _ (List.mem_cons_self ..)
      exact ⟨by rw [hg, q], hg2⟩
    · simp at hs
  · simp at hs
abbrev fin4 (H : List HE) (h : Nat) (o : SO) (ha hw : Nat) (W : List Int) (st kd wd vl : Int) (ch : Bool) (hl : Nat) (l : List Int) : List HE := (((H.set h (.obj o)).set ha (AOx hw W st kd wd vl ch)).set hw (WO W)).set hl (wdE l)
/-- A write's step; q tells what becomes of it: 0 gone, 1 over, 2 busy, 3 busy and no more, 6 lost, 7 lost and no more, else it goes on. -/
def wStS (q : Nat) : Hx.Spec := fun args H => match args with
  | [.ptr h 0, .ptr ha 0] => match wrA H h, arP H ha with
    | some (R, ep, nx, sn, fl, cm, tm, e, hl, l, i, b, ob1), some (hw, ⟨W, st, _kd, _wd, _vl, _ch⟩, ob2) => match nodupN [h, ha, hw, hl], nx.toNat with
      | true, 1 => match q with
        | 0 => some ((nx = 1) :: (e = .niliface) :: (1 ≤ R) :: (R ≤ 8) :: (16 ≤ W.length) :: (0 ≤ st) :: (st < 1000000) :: (0 ≤ W.getD 7 0) :: (W.getD 7 0 < 18446744073709551616) :: (¬ (liW (W.getD 7 0) = true ∧ epW (W.getD 7 0) = ep)) :: ob1 ++ ob2, .tt,
            fin4 H h (wrO R ep 0 (W.getD 7 0) fl cm (st + 1) (erO 22) hl l.length i b) ha hw W (st + 1) 1 7 (W.getD 7 0) false hl l)
        | 1 => some ((nx = 1) :: (e = .niliface) :: (1 ≤ R) :: (R ≤ 8) :: (16 ≤ W.length) :: (0 ≤ st) :: (st < 1000000) :: (0 ≤ W.getD 7 0) :: (W.getD 7 0 < 18446744073709551616) :: (liW (W.getD 7 0) = true) :: (epW (W.getD 7 0) = ep) :: (geW (W.getD 7 0) = 2147483647) :: ob1 ++ ob2, .tt,
            fin4 H h (wrO R ep 0 (W.getD 7 0) fl cm (st + 1) (erO 16) hl l.length i b) ha hw W (st + 1) 1 7 (W.getD 7 0) false hl l)
        | 2 => some ((nx = 1) :: (e = .niliface) :: (1 ≤ R) :: (R ≤ 8) :: (16 ≤ W.length) :: (0 ≤ st) :: (st < 1000000) :: (0 ≤ W.getD 7 0) :: (W.getD 7 0 < 18446744073709551616) :: (liW (W.getD 7 0) = true) :: (epW (W.getD 7 0) = ep) :: (¬ geW (W.getD 7 0) = 2147483647) :: (0 ≤ fl) :: (fl + 1 < R) :: (buW (W.getD 7 0) = true) :: ob1 ++ ob2, .ff,
            fin4 H h (wrO R ep 1 (W.getD 7 0) (fl + 1) cm (st + 1) .niliface hl l.length i b) ha hw W (st + 1) 1 7 (W.getD 7 0) false hl l)
        | 3 => some ((nx = 1) :: (e = .niliface) :: (1 ≤ R) :: (R ≤ 8) :: (16 ≤ W.length) :: (0 ≤ st) :: (st < 1000000) :: (0 ≤ W.getD 7 0) :: (W.getD 7 0 < 18446744073709551616) :: (liW (W.getD 7 0) = true) :: (epW (W.getD 7 0) = ep) :: (¬ geW (W.getD 7 0) = 2147483647) :: (0 ≤ fl) :: (fl + 1 = R) :: (buW (W.getD 7 0) = true) :: ob1 ++ ob2, .tt,
            fin4 H h (wrO R ep 0 (W.getD 7 0) (fl + 1) cm (st + 1) (erO 17) hl l.length i b) ha hw W (st + 1) 1 7 (W.getD 7 0) false hl l)
        | _ => some ((nx = 1) :: (e = .niliface) :: (1 ≤ R) :: (R ≤ 8) :: (16 ≤ W.length) :: (0 ≤ st) :: (st < 1000000) :: (0 ≤ W.getD 7 0) :: (W.getD 7 0 < 18446744073709551616) :: (liW (W.getD 7 0) = true) :: (epW (W.getD 7 0) = ep) :: (¬ geW (W.getD 7 0) = 2147483647) :: (buW (W.getD 7 0) = false) :: ob1 ++ ob2, .ff,
            fin4 H h (wrO R ep 2 (W.getD 7 0) fl cm (st + 1) .niliface hl l.length i b) ha hw W (st + 1) 1 7 (W.getD 7 0) false hl l)
      | true, 2 => match q with
        | 6 => some ((nx = 2) :: (e = .niliface) :: (1 ≤ R) :: (R ≤ 8) :: (16 ≤ W.length) :: (0 ≤ st) :: (st < 1000000) :: (0 ≤ sn) :: (sn < 18446744073709551616) :: (0 ≤ fl) :: (fl + 1 < R) :: (¬ W.getD 7 0 = sn) :: ob1 ++ ob2, .ff,
            fin4 H h (wrO R ep 1 sn (fl + 1) cm tm .niliface hl l.length i false) ha hw W (st + 1) 3 7 (W.getD 7 0) false hl l)
        | 7 => some ((nx = 2) :: (e = .niliface) :: (1 ≤ R) :: (R ≤ 8) :: (16 ≤ W.length) :: (0 ≤ st) :: (st < 1000000) :: (0 ≤ sn) :: (sn < 18446744073709551616) :: (0 ≤ fl) :: (fl + 1 = R) :: (¬ W.getD 7 0 = sn) :: ob1 ++ ob2, .tt,
            fin4 H h (wrO R ep 0 sn (fl + 1) cm tm (erO 17) hl l.length i false) ha hw W (st + 1) 3 7 (W.getD 7 0) false hl l)
        | _ => some ((nx = 2) :: (e = .niliface) :: (1 ≤ R) :: (R ≤ 8) :: (16 ≤ W.length) :: (0 ≤ st) :: (st < 1000000) :: (0 ≤ sn) :: (sn < 18446744073709551616) :: (W.getD 7 0 = sn) :: ob1 ++ ob2, .ff,
            fin4 H h (wrO R ep 3 sn fl cm tm .niliface hl l.length i true) ha hw (W.set 7 (busyW sn)) (st + 1) 3 7 (busyW sn) true hl l)
      | true, 3 => some ((nx = 3) :: (e = .niliface) :: (1 ≤ R) :: (R ≤ 8) :: (16 ≤ W.length) :: (0 ≤ st) :: (st < 1000000) :: (0 ≤ sn) :: (sn < 18446744073709551616) :: (0 ≤ i) :: (i < l.length) :: (l.length ≤ 4) :: ob1 ++ ob2, .ff,
            fin4 H h (wrO R ep (if i + 1 = l.length then 4 else 3) sn fl cm tm .niliface hl l.length (i + 1) b) ha hw (W.set (8 + 4 * ((geW sn + 1) % 2) + i).toNat (l.getD i.toNat 0)) (st + 1) 2 (8 + 4 * ((geW sn + 1) % 2) + i) (l.getD i.toNat 0) true hl l)
      | true, 4 => some ((nx = 4) :: (e = .niliface) :: (1 ≤ R) :: (R ≤ 8) :: (16 ≤ W.length) :: (0 ≤ st) :: (st < 1000000) :: (0 ≤ sn) :: (sn < 18446744073709551616) :: (liW sn = true) :: (geW sn < 2147483647) :: ob1 ++ ob2, .tt,
            fin4 H h (wrO R ep 0 sn fl (st + 1) tm .niliface hl l.length i false) ha hw (W.set 7 (writW (busyW sn))) (st + 1) 2 7 (writW (busyW sn)) true hl l)
      | _, _ => none
    | _, _ => none
  | _ => none
theorem wStS_ok {q : Nat} {args : List SV} {H : List HE} {ob : List Prop} {V : SV} {L : List HE} (hs : wStS q args H = some (ob, V, L)) (ho : AllP ob) : Gives Tryz.prog 13 args H (Is V L) := by
  unfold wStS at hs
  split at hs
  case h_2 => simp at hs
  rename_i _ h ha
  split at hs
  case h_2 => simp at hs
  rename_i _ _ R ep nx sn fl cm tm e hl l i b ob1 hw W st kd wd vl ch ob2 hq hp
  split at hs
  · rename_i hnd _
    split at hs
    all_goals
      simp only [Option.some.injEq, Prod.mk.injEq] at hs
      obtain ⟨rfl, rfl, rfl⟩ := hs
      simp only [AllP, List.cons_append, List.mem_cons, List.mem_append, forall_eq_or_imp] at ho
    · obtain ⟨q1, q2, q3, q4, q5, q6, q7, q8, q9, qa, hr⟩ := ho
      subst q1; subst q2
      obtain ⟨g1, g2⟩ := wrA_get hq (fun p hp => hr p (.inl hp))
      obtain ⟨g3, g4⟩ := arP_get hp (fun p hp => hr p (.inr hp))
      exact step4_ok (o := fun x => wrO R ep 1 sn fl cm tm .niliface x l.length i b) (o' := fun x => wrO R ep 0 (W.getD 7 0) fl cm (st + 1) (erO 22) x l.length i b) (wGone_fn q3 q4 q5 q6 q7 q8 q9 qa) (fun _ _ => rfl) (fun _ _ => rfl) (fun _ => rfl) rfl g3 g4 g1 g2 hnd
    · obtain ⟨q1, q2, q3, q4, q5, q6, q7, q8, q9, qa, qb, qc, hr⟩ := ho
      subst q1; subst q2
      obtain ⟨g1, g2⟩ := wrA_get hq (fun p hp => hr p (.inl hp))
      obtain ⟨g3, g4⟩ := arP_get hp (fun p hp => hr p (.inr hp))
      exact step4_ok (o := fun x => wrO R ep 1 sn fl cm tm .niliface x l.length i b) (o' := fun x => wrO R ep 0 (W.getD 7 0) fl cm (st + 1) (erO 16) x l.length i b) (wOver_fn q3 q4 q5 q6 q7 q8 q9 qa qb qc) (fun _ _ => rfl) (fun _ _ => rfl) (fun _ => rfl) rfl g3 g4 g1 g2 hnd
    · obtain ⟨q1, q2, q3, q4, q5, q6, q7, q8, q9, qa, qb, qc, qd, qe, qf, hr⟩ := ho
      subst q1; subst q2
      obtain ⟨g1, g2⟩ := wrA_get hq (fun p hp => hr p (.inl hp))
      obtain ⟨g3, g4⟩ := arP_get hp (fun p hp => hr p (.inr hp))
      exact step4_ok (o := fun x => wrO R ep 1 sn fl cm tm .niliface x l.length i b) (o' := fun x => wrO R ep 1 (W.getD 7 0) (fl + 1) cm (st + 1) .niliface x l.length i b) (wBusy_fn q3 q4 q5 q6 q7 q8 q9 qa qb qc qd qe qf) (fun _ _ => rfl) (fun _ _ => rfl) (fun _ => rfl) rfl g3 g4 g1 g2 hnd
    · obtain ⟨q1, q2, q3, q4, q5, q6, q7, q8, q9, qa, qb, qc, qd, qe, qf, hr⟩ := ho
      subst q1; subst q2
      obtain ⟨g1, g2⟩ := wrA_get hq (fun p hp => hr p (.inl hp))
      obtain ⟨g3, g4⟩ := arP_get hp (fun p hp => hr p (.inr hp))
      exact step4_ok (o := fun x => wrO R ep 1 sn fl cm tm .niliface x l.length i b) (o' := fun x => wrO R ep 0 (W.getD 7 0) (fl + 1) cm (st + 1) (erO 17) x l.length i b) (wBusyL_fn q3 q4 q5 q6 q7 q8 q9 qa qb qc qd qe qf) (fun _ _ => rfl) (fun _ _ => rfl) (fun _ => rfl) rfl g3 g4 g1 g2 hnd
    · obtain ⟨q1, q2, q3, q4, q5, q6, q7, q8, q9, qa, qb, qc, qd, hr⟩ := ho
      subst q1; subst q2
      obtain ⟨g1, g2⟩ := wrA_get hq (fun p hp => hr p (.inl hp))
      obtain ⟨g3, g4⟩ := arP_get hp (fun p hp => hr p (.inr hp))
      exact step4_ok (o := fun x => wrO R ep 1 sn fl cm tm .niliface x l.length i b) (o' := fun x => wrO R ep 2 (W.getD 7 0) fl cm (st + 1) .niliface x l.length i b) (wLook_fn q3 q4 q5 q6 q7 q8 q9 qa qb qc qd) (fun _ _ => rfl) (fun _ _ => rfl) (fun _ => rfl) rfl g3 g4 g1 g2 hnd
  · rename_i hnd _
    split at hs
    all_goals
      simp only [Option.some.injEq, Prod.mk.injEq] at hs
      obtain ⟨rfl, rfl, rfl⟩ := hs
      simp only [AllP, List.cons_append, List.mem_cons, List.mem_append, forall_eq_or_imp] at ho
    · obtain ⟨q1, q2, q3, q4, q5, q6, q7, q8, q9, qa, qb, qc, hr⟩ := ho
      subst q1; subst q2
      obtain ⟨g1, g2⟩ := wrA_get hq (fun p hp => hr p (.inl hp))
      obtain ⟨g3, g4⟩ := arP_get hp (fun p hp => hr p (.inr hp))
      exact step4_ok (o := fun x => wrO R ep 2 sn fl cm tm .niliface x l.length i b) (o' := fun x => wrO R ep 1 sn (fl + 1) cm tm .niliface x l.length i false) (wLost_fn q3 q4 q5 q6 q7 q8 q9 qa qb qc) (fun _ _ => rfl) (fun _ _ => rfl) (fun _ => rfl) rfl g3 g4 g1 g2 hnd
    · obtain ⟨q1, q2, q3, q4, q5, q6, q7, q8, q9, qa, qb, qc, hr⟩ := ho
      subst q1; subst q2
      obtain ⟨g1, g2⟩ := wrA_get hq (fun p hp => hr p (.inl hp))
      obtain ⟨g3, g4⟩ := arP_get hp (fun p hp => hr p (.inr hp))
      exact step4_ok (o := fun x => wrO R ep 2 sn fl cm tm .niliface x l.length i b) (o' := fun x => wrO R ep 0 sn (fl + 1) cm tm (erO 17) x l.length i false) (wLostL_fn q3 q4 q5 q6 q7 q8 q9 qa qb qc) (fun _ _ => rfl) (fun _ _ => rfl) (fun _ => rfl) rfl g3 g4 g1 g2 hnd
    · obtain ⟨q1, q2, q3, q4, q5, q6, q7, q8, q9, qa, hr⟩ := ho
      subst q1; subst q2
      obtain ⟨g1, g2⟩ := wrA_get hq (fun p hp => hr p (.inl hp))
      obtain ⟨g3, g4⟩ := arP_get hp (fun p hp => hr p (.inr hp))
      exact step4_ok (o := fun x => wrO R ep 2 sn fl cm tm .niliface x l.length i b) (o' := fun x => wrO R ep 3 sn fl cm tm .niliface x l.length i true) (wHold_fn q3 q4 q5 q6 q7 q8 q9 qa) (fun _ _ => rfl) (fun _ _ => rfl) (fun _ => rfl) rfl g3 g4 g1 g2 hnd
  · rename_i hnd _
    simp only [Option.some.injEq, Prod.mk.injEq] at hs
    obtain ⟨rfl, rfl, rfl⟩ := hs
    simp only [AllP, List.cons_append, List.mem_cons, List.mem_append, forall_eq_or_imp] at ho
    obtain ⟨q1, q2, q3, q4, q5, q6, q7, q8, q9, qa, qb, qc, hr⟩ := ho
    subst q1; subst q2
    obtain ⟨g1, g2⟩ := wrA_get hq (fun p hp => hr p (.inl hp))
    obtain ⟨g3, g4⟩ := arP_get hp (fun p hp => hr p (.inr hp))
    exact step4_ok (o := fun x => wrO R ep 3 sn fl cm tm .niliface x l.length i b) (o' := fun x => wrO R ep (if i + 1 = l.length then 4 else 3) sn fl cm tm .niliface x l.length (i + 1) b) (wWord_fn q3 q4 q5 q6 q7 q8 q9 qa qb qc) (fun _ _ => rfl) (fun _ _ => rfl) (fun _ => rfl) rfl g3 g4 g1 g2 hnd
  · rename_i hnd _
    simp only [Option.some.injEq, Prod.mk.injEq] at hs
    obtain ⟨rfl, rfl, rfl⟩ := hs
    simp only [AllP, List.cons_append, List.mem_cons, List.mem_append, forall_eq_or_imp] at ho
    obtain ⟨q1, q2, q3, q4, q5, q6, q7, q8, q9, qa, qb, hr⟩ := ho
    subst q1; subst q2
    obtain ⟨g1, g2⟩ := wrA_get hq (fun p hp => hr p (.inl hp))
    obtain ⟨g3, g4⟩ := arP_get hp (fun p hp => hr p (.inr hp))
    exact step4_ok (o := fun x => wrO R ep 4 sn fl cm tm .niliface x l.length i b) (o' := fun x => wrO R ep 0 sn fl (st + 1) tm .niliface x l.length i false) (wClose_fn q3 q4 q5 q6 q7 q8 q9 qa qb) (fun _ _ => rfl) (fun _ _ => rfl) (fun _ => rfl) rfl g3 g4 g1 g2 hnd
  · simp at hs
end Go.Proofs.YtmghcelohnlceaaGreatDoor
