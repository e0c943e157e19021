/- A run's step, as a row of the table. -/
import Derived.Test.YtmghcelohnlceaaPoolConf
namespace Go.Proofs.Ytmghcelohnlceaa
open Go Go.Hx
set_option maxRecDepth 8000

theorem wdP_of {A B st kd wd vl : Int} {ch : Bool} {W : List Int} (h1 : rightB 1 4 1 2 4 A 6 B 2 = true) (h2 : (W.length : Int) = 16 + A * 5 + B * 7) (h3 : 0 ≤ st) (h4 : st < 1000000) (h5 : ∀ j, 0 ≤ W.getD j 0 ∧ W.getD j 0 < 18446744073709551616) : WdP A B ⟨W, st, kd, wd, vl, ch⟩ :=
  ⟨h1, by rw [szP_eq]; show W.length = _; omega, h3, h4, h5⟩
theorem ar_same {H : List HE} {ha hw : Nat} {s : Ar} {ob : List Prop} (hp : arP H ha = some (hw, s, ob)) (hob : AllP ob) : (H.set ha (AO hw s)).set hw (WO s.W) = H := by
  unfold arP at hp
  split at hp
  · rename_i hg
    split at hp
    · rename_i hg2 hn
      simp only [Option.some.injEq, Prod.mk.injEq] at hp
      obtain ⟨rfl, rfl, rfl⟩ := hp
      have l1 := hob _ (List.mem_cons_self ..)
      have l2 := hob _ (List.mem_cons_of_mem _ (List.mem_cons_self ..))
      subst l1; subst l2
      rw [set_self hg, set_self hg2]
    · simp at hp
  · simp at hp
theorem step3_ok {fid : Nat} {o o' : Nat → SO} {s s' : Ar} {dn : SV} (hc : Gives Try.prog fid [.ptr 0 0, .ptr 1 0] [.obj (o 0), AO 2 s, WO s.W] (Is dn [.obj (o' 0), AO 2 s', WO s'.W]))
    (ho : ∀ σ h, (o h).ren σ = o (σ h)) (ho' : ∀ σ h, (o' h).ren σ = o' (σ h)) (hd : ∀ σ, dn.ren σ = dn) (hok : okHs (there [.obj (o 0), AO 2 s, WO s.W]) [.obj (o 0), AO 2 s, WO s.W] = true)
    {H : List HE} {h ha hw : Nat} {ob : List Prop} (hp : arP H ha = some (hw, s, ob)) (hob : AllP ob) (hg : getH H h = some (o h)) (hnd : nodupN [h, ha, hw] = true) :
    Gives Try.prog fid [.ptr h 0, .ptr ha 0] H (Is dn (((H.set h (.obj (o' h))).set ha (AO hw s')).set hw (WO s'.W))) := by
  have hp' := hp
  unfold arP at hp
  split at hp
  · rename_i hga
    split at hp
    · rename_i hgw hn
      simp only [Option.some.injEq, Prod.mk.injEq] at hp
      obtain ⟨rfl, rfl, rfl⟩ := hp
      have l1 := hob _ (List.mem_cons_self ..)
      have l2 := hob _ (List.mem_cons_of_mem _ (List.mem_cons_self ..))
      subst l1; subst l2
      exact frame3n (H := H) (h0 := h) (h1 := ha) (h2 := _) ⟨_, hTE⟩ hc rfl rfl hok hnd (by rw [ho]; exact hg) hga hgw (hd _) (ho' _ _) rfl rfl
    · simp at hp
  · simp at hp
def tkA (H : List HE) (h : Nat) : Option (SV × Int × Int × Int × Int × SO) :=
  match getH H h with
  | some (.cells [x0, x1, x2, x3, x4, x5, x6, x7, x8, hd, .int .u64 s, nx, .int .i64 c, .int .i64 b, .int .i64 f] ty) => some (nx, c, s, b, f, .cells [x0, x1, x2, x3, x4, x5, x6, x7, x8, hd, .int .u64 s, nx, .int .i64 c, .int .i64 b, .int .i64 f] ty)
  | _ => none
theorem tkA_get {H : List HE} {h : Nat} {nx : SV} {c s b f : Int} {so : SO} (hs : tkA H h = some (nx, c, s, b, f, so)) : getH H h = some so := by
  unfold tkA at hs
  split at hs
  · rename_i hg
    simp only [Option.some.injEq, Prod.mk.injEq] at hs
    obtain ⟨rfl, rfl, rfl, rfl, rfl, rfl⟩ := hs
    exact hg
  · simp at hs
def gvA (H : List HE) (h : Nat) : Option (SV × Int × Int × SO) :=
  match getH H h with
  | some (.cells [x0, x1, x2, x3, x4, x5, x6, x7, x8, hd, .int .u64 s, nx, .int .i64 b] ty) => some (nx, b, s, .cells [x0, x1, x2, x3, x4, x5, x6, x7, x8, hd, .int .u64 s, nx, .int .i64 b] ty)
  | _ => none
theorem gvA_get {H : List HE} {h : Nat} {nx : SV} {b s : Int} {so : SO} (hs : gvA H h = some (nx, b, s, so)) : getH H h = some so := by
  unfold gvA at hs
  split at hs
  · rename_i hg
    simp only [Option.some.injEq, Prod.mk.injEq] at hs
    obtain ⟨rfl, rfl, rfl, rfl⟩ := hs
    exact hg
  · simp at hs
/-- A run that is done. -/
def dnT (A B : Int) (c s b f : Int) : SO := tkO A B .nilfunc c s b f
def dnG (A B : Int) (b s : Int) : SO := gvO A B .nilfunc b s
abbrev fin3 (H : List HE) (h : Nat) (o : SO) (ha hw : Nat) (W : List Int) (st kd wd vl : Int) (ch : Bool) : List HE := ((H.set h (.obj o)).set ha (AOx hw W st kd wd vl ch)).set hw (WO W)
theorem doneT_fn {A B c v b f : Int} {s : Ar} : Gives Try.prog 13 [.ptr 0 0, .ptr 1 0] [.obj (dnT A B c v b f), AO 2 s, WO s.W] (Is .tt [.obj (dnT A B c v b f), AO 2 s, WO s.W]) := by
  refine gives_x hXPo0 (fn := Try.f13) rfl rfl rfl rfl fun ρ w => ?_
  dsimp only [dnT, tkO]
  refine sx hXPo0 [] 4000 rfl (by first | exact trivial | simp [conjP]) ?_
  exact ss_end hXPo0 [0, 1, 2] rfl rfl trivial rfl rfl rfl rfl (by first | ((repeat' (first | exact rfl | exact trivial | exact sim_refl _ | refine And.intro ?_ ?_)); done) | (simp [tupF, SV.ren, sim, simO0]; done)) (by (repeat' (first | exact rfl | exact trivial | exact sim_refl _ | refine And.intro ?_ ?_))) (by (repeat' (first | exact rfl | exact trivial | exact sim_refl _ | refine And.intro ?_ ?_))) (by (repeat' (first | exact rfl | exact trivial | exact sim_refl _ | refine And.intro ?_ ?_)))
/-- A take's step: b1: there is a block; b3: the swap is done. -/
def tkStepS (A B : Int) (b1 b3 : Bool) : Hx.Spec := fun args H => match args with
  | [.ptr h 0, .ptr ha 0] => match tkA H h, arP H ha with
    | some (nx, c, v, b, f, so), some (hw, ⟨W, st, kd, wd, vl, ch⟩, ob) => match nodupN [h, ha, hw], nx with
      | true, .nilfunc => some ((so = dnT A B c v b f) :: ob, .tt, fin3 H h (dnT A B c v b f) ha hw (W) (st) (kd) (wd) (vl) (ch))
      | true, .func (.func 55) [.ptr _ 0] [] => match b1 with
        | true => some ((so = phO A B h (.t1 c v b f)) :: (rightB 1 4 1 2 4 A 6 B 2 = true) :: ((W.length : Int) = 16 + A * 5 + B * 7) :: (0 ≤ st) :: (st < 1000000) :: (∀ j, 0 ≤ W.getD j 0 ∧ W.getD j 0 < 18446744073709551616) :: (0 ≤ c ∧ c ≤ 1) :: (classV A B (W.getD (3 + c).toNat 0 % 4294967296) = c) :: ob, .ff,
            fin3 H h (phO A B h (.t2 c (W.getD (3 + c).toNat 0) (W.getD (3 + c).toNat 0 % 4294967296) f)) ha hw (W) (st + 1) (1) (3 + c) (W.getD (3 + c).toNat 0) (false))
        | false => some ((so = phO A B h (.t1 c v b f)) :: (rightB 1 4 1 2 4 A 6 B 2 = true) :: ((W.length : Int) = 16 + A * 5 + B * 7) :: (0 ≤ st) :: (st < 1000000) :: (∀ j, 0 ≤ W.getD j 0 ∧ W.getD j 0 < 18446744073709551616) :: (0 ≤ c ∧ c ≤ 1) :: (¬ classV A B (W.getD (3 + c).toNat 0 % 4294967296) = c) :: ob, .tt,
            fin3 H h (dnT A B c (W.getD (3 + c).toNat 0) 0 f) ha hw (W) (st + 1) (1) (3 + c) (W.getD (3 + c).toNat 0) (false))
      | true, .func (.func 77) [.ptr _ 0] [] => some ((so = phO A B h (.t2 c v b f)) :: (rightB 1 4 1 2 4 A 6 B 2 = true) :: ((W.length : Int) = 16 + A * 5 + B * 7) :: (0 ≤ st) :: (st < 1000000) :: (∀ j, 0 ≤ W.getD j 0 ∧ W.getD j 0 < 18446744073709551616) :: (0 ≤ c ∧ c ≤ 1) :: (classV A B b = c) :: ob, .ff,
            fin3 H h (phO A B h (.t3 c v b (W.getD (bkP A B b).toNat 0 % 4294967296))) ha hw (W) (st + 1) (1) (bkP A B b) (W.getD (bkP A B b).toNat 0) (false))
      | true, .func (.func 87) [.ptr _ 0] [] => match b3 with
        | true => some ((so = phO A B h (.t3 c v b f)) :: (rightB 1 4 1 2 4 A 6 B 2 = true) :: ((W.length : Int) = 16 + A * 5 + B * 7) :: (0 ≤ st) :: (st < 1000000) :: (∀ j, 0 ≤ W.getD j 0 ∧ W.getD j 0 < 18446744073709551616) :: (0 ≤ c ∧ c ≤ 1) :: (0 ≤ v ∧ v < 18446744073709551616) :: (W.getD (3 + c).toNat 0 = v) :: ob, .tt,
            fin3 H h (dnT A B c v b f) ha hw (W.set (3 + c).toNat (turnV v f)) (st + 1) (3) (3 + c) (turnV v f) (true))
        | false => some ((so = phO A B h (.t3 c v b f)) :: (rightB 1 4 1 2 4 A 6 B 2 = true) :: ((W.length : Int) = 16 + A * 5 + B * 7) :: (0 ≤ st) :: (st < 1000000) :: (∀ j, 0 ≤ W.getD j 0 ∧ W.getD j 0 < 18446744073709551616) :: (0 ≤ c ∧ c ≤ 1) :: (0 ≤ v ∧ v < 18446744073709551616) :: (¬ W.getD (3 + c).toNat 0 = v) :: ob, .ff,
            fin3 H h (phO A B h (.t1 c v b f)) ha hw (W) (st + 1) (3) (3 + c) (W.getD (3 + c).toNat 0) (false))
      | _, _ => none
    | _, _ => none
  | _ => none
theorem sw_yes {s : Ar} {i v n : Int} (h : s.W.getD i.toNat 0 = v) : swA s i v n = ⟨s.W.set i.toNat n, s.st + 1, 3, i, n, true⟩ := by
  simp only [swA, swW, h, if_true, decide_true]
theorem sw_no {s : Ar} {i v n : Int} (h : ¬ s.W.getD i.toNat 0 = v) : swA s i v n = ⟨s.W, s.st + 1, 3, i, s.W.getD i.toNat 0, false⟩ := by
  simp only [swA, swW, h, if_false, decide_false]
theorem ren_dnT {A B c s b f : Int} (σ : Nat → Nat) : (dnT A B c s b f).ren σ = dnT A B c s b f := rfl
theorem ren_dnG {A B s b : Int} (σ : Nat → Nat) : (dnG A B b s).ren σ = dnG A B b s := rfl
theorem tkStepS_ok {A B : Int} {b1 b3 : Bool} {args : List SV} {H : List HE} {ob : List Prop} {V : SV} {L : List HE} (hs : tkStepS A B b1 b3 args H = some (ob, V, L)) (ho : AllP ob) : Gives Try.prog 13 args H (Is V L) := by
  unfold tkStepS at hs
  split at hs
  case h_2 => simp at hs
  rename_i _ h ha
  split at hs
  case h_2 => simp at hs
  rename_i _ _ nx c v b f so hw W st kd wd vl ch ob' ht hp
  have hg := tkA_get ht
  split at hs
  · rename_i hnd
    simp only [Option.some.injEq, Prod.mk.injEq] at hs
    obtain ⟨rfl, rfl, rfl⟩ := hs
    have e1 := ho _ (List.mem_cons_self ..)
    have hob : AllP ob' := fun p hp => ho p (by simp [hp])
    exact step3_ok (o := fun _ => dnT A B c v b f) (o' := fun _ => dnT A B c v b f) doneT_fn (fun _ _ => rfl) (fun _ _ => rfl) (fun _ => rfl) rfl hp hob (by rw [hg, e1]) hnd
  · rename_i hnd
    split at hs
    · simp only [Option.some.injEq, Prod.mk.injEq] at hs
      obtain ⟨rfl, rfl, rfl⟩ := hs
      have e1 := ho _ (List.mem_cons_self ..)
      have w1 := ho _ (List.mem_cons_of_mem _ (List.mem_cons_self ..))
      have w2 := ho _ (List.mem_cons_of_mem _ (List.mem_cons_of_mem _ (List.mem_cons_self ..)))
      have w3 := ho _ (List.mem_cons_of_mem _ (List.mem_cons_of_mem _ (List.mem_cons_of_mem _ (List.mem_cons_self ..))))
      have w4 := ho _ (List.mem_cons_of_mem _ (List.mem_cons_of_mem _ (List.mem_cons_of_mem _ (List.mem_cons_of_mem _ (List.mem_cons_self ..)))))
      have w5 := ho _ (List.mem_cons_of_mem _ (List.mem_cons_of_mem _ (List.mem_cons_of_mem _ (List.mem_cons_of_mem _ (List.mem_cons_of_mem _ (List.mem_cons_self ..))))))
      have e2 := wdP_of (kd := kd) (wd := wd) (vl := vl) (ch := ch) w1 w2 w3 w4 w5
      have e3 := ho _ (List.mem_cons_of_mem _ (List.mem_cons_of_mem _ (List.mem_cons_of_mem _ (List.mem_cons_of_mem _ (List.mem_cons_of_mem _ (List.mem_cons_of_mem _ (List.mem_cons_self ..)))))))
      have e4 := ho _ (List.mem_cons_of_mem _ (List.mem_cons_of_mem _ (List.mem_cons_of_mem _ (List.mem_cons_of_mem _ (List.mem_cons_of_mem _ (List.mem_cons_of_mem _ (List.mem_cons_of_mem _ (List.mem_cons_self ..))))))))
      have hob : AllP ob' := fun p hp => ho p (by simp [hp])
      exact step3_ok (o := fun h => phO A B h (.t1 c v b f)) (o' := fun h => phO A B h (.t2 c (W.getD (3 + c).toNat 0) (W.getD (3 + c).toNat 0 % 4294967296) f)) (tk1y_fn e2 e3 e4) (fun _ _ => ren_phO) (fun _ _ => ren_phO) (fun _ => rfl) rfl hp hob (by rw [hg, e1]) hnd
    · simp only [Option.some.injEq, Prod.mk.injEq] at hs
      obtain ⟨rfl, rfl, rfl⟩ := hs
      have e1 := ho _ (List.mem_cons_self ..)
      have w1 := ho _ (List.mem_cons_of_mem _ (List.mem_cons_self ..))
      have w2 := ho _ (List.mem_cons_of_mem _ (List.mem_cons_of_mem _ (List.mem_cons_self ..)))
      have w3 := ho _ (List.mem_cons_of_mem _ (List.mem_cons_of_mem _ (List.mem_cons_of_mem _ (List.mem_cons_self ..))))
      have w4 := ho _ (List.mem_cons_of_mem _ (List.mem_cons_of_mem _ (List.mem_cons_of_mem _ (List.mem_cons_of_mem _ (List.mem_cons_self ..)))))
      have w5 := ho _ (List.mem_cons_of_mem _ (List.mem_cons_of_mem _ (List.mem_cons_of_mem _ (List.mem_cons_of_mem _ (List.mem_cons_of_mem _ (List.mem_cons_self ..))))))
      have e2 := wdP_of (kd := kd) (wd := wd) (vl := vl) (ch := ch) w1 w2 w3 w4 w5
      have e3 := ho _ (List.mem_cons_of_mem _ (List.mem_cons_of_mem _ (List.mem_cons_of_mem _ (List.mem_cons_of_mem _ (List.mem_cons_of_mem _ (List.mem_cons_of_mem _ (List.mem_cons_self ..)))))))
      have e4 := ho _ (List.mem_cons_of_mem _ (List.mem_cons_of_mem _ (List.mem_cons_of_mem _ (List.mem_cons_of_mem _ (List.mem_cons_of_mem _ (List.mem_cons_of_mem _ (List.mem_cons_of_mem _ (List.mem_cons_self ..))))))))
      have hob : AllP ob' := fun p hp => ho p (by simp [hp])
      exact step3_ok (o := fun h => phO A B h (.t1 c v b f)) (o' := fun _ => dnT A B c (W.getD (3 + c).toNat 0) 0 f) (tk1n_fn e2 e3 e4) (fun _ _ => ren_phO) (fun _ _ => rfl) (fun _ => rfl) rfl hp hob (by rw [hg, e1]) hnd
  · rename_i hnd
    simp only [Option.some.injEq, Prod.mk.injEq] at hs
    obtain ⟨rfl, rfl, rfl⟩ := hs
    have e1 := ho _ (List.mem_cons_self ..)
    have w1 := ho _ (List.mem_cons_of_mem _ (List.mem_cons_self ..))
    have w2 := ho _ (List.mem_cons_of_mem _ (List.mem_cons_of_mem _ (List.mem_cons_self ..)))
    have w3 := ho _ (List.mem_cons_of_mem _ (List.mem_cons_of_mem _ (List.mem_cons_of_mem _ (List.mem_cons_self ..))))
    have w4 := ho _ (List.mem_cons_of_mem _ (List.mem_cons_of_mem _ (List.mem_cons_of_mem _ (List.mem_cons_of_mem _ (List.mem_cons_self ..)))))
    have w5 := ho _ (List.mem_cons_of_mem _ (List.mem_cons_of_mem _ (List.mem_cons_of_mem _ (List.mem_cons_of_mem _ (List.mem_cons_of_mem _ (List.mem_cons_self ..))))))
    have e2 := wdP_of (kd := kd) (wd := wd) (vl := vl) (ch := ch) w1 w2 w3 w4 w5
    have e3 := ho _ (List.mem_cons_of_mem _ (List.mem_cons_of_mem _ (List.mem_cons_of_mem _ (List.mem_cons_of_mem _ (List.mem_cons_of_mem _ (List.mem_cons_of_mem _ (List.mem_cons_self ..)))))))
    have e4 := ho _ (List.mem_cons_of_mem _ (List.mem_cons_of_mem _ (List.mem_cons_of_mem _ (List.mem_cons_of_mem _ (List.mem_cons_of_mem _ (List.mem_cons_of_mem _ (List.mem_cons_of_mem _ (List.mem_cons_self ..))))))))
    have hob : AllP ob' := fun p hp => ho p (by simp [hp])
    exact step3_ok (o := fun h => phO A B h (.t2 c v b f)) (o' := fun h => phO A B h (.t3 c v b (W.getD (bkP A B b).toNat 0 % 4294967296))) (tk2_fn e2 e3 e4) (fun _ _ => ren_phO) (fun _ _ => ren_phO) (fun _ => rfl) rfl hp hob (by rw [hg, e1]) hnd
  · rename_i hnd
    split at hs
    · simp only [Option.some.injEq, Prod.mk.injEq] at hs
      obtain ⟨rfl, rfl, rfl⟩ := hs
      have e1 := ho _ (List.mem_cons_self ..)
      have w1 := ho _ (List.mem_cons_of_mem _ (List.mem_cons_self ..))
      have w2 := ho _ (List.mem_cons_of_mem _ (List.mem_cons_of_mem _ (List.mem_cons_self ..)))
      have w3 := ho _ (List.mem_cons_of_mem _ (List.mem_cons_of_mem _ (List.mem_cons_of_mem _ (List.mem_cons_self ..))))
      have w4 := ho _ (List.mem_cons_of_mem _ (List.mem_cons_of_mem _ (List.mem_cons_of_mem _ (List.mem_cons_of_mem _ (List.mem_cons_self ..)))))
      have w5 := ho _ (List.mem_cons_of_mem _ (List.mem_cons_of_mem _ (List.mem_cons_of_mem _ (List.mem_cons_of_mem _ (List.mem_cons_of_mem _ (List.mem_cons_self ..))))))
      have e2 := wdP_of (kd := kd) (wd := wd) (vl := vl) (ch := ch) w1 w2 w3 w4 w5
      have e3 := ho _ (List.mem_cons_of_mem _ (List.mem_cons_of_mem _ (List.mem_cons_of_mem _ (List.mem_cons_of_mem _ (List.mem_cons_of_mem _ (List.mem_cons_of_mem _ (List.mem_cons_self ..)))))))
      have e4 := ho _ (List.mem_cons_of_mem _ (List.mem_cons_of_mem _ (List.mem_cons_of_mem _ (List.mem_cons_of_mem _ (List.mem_cons_of_mem _ (List.mem_cons_of_mem _ (List.mem_cons_of_mem _ (List.mem_cons_self ..))))))))
      have e5 := ho _ (List.mem_cons_of_mem _ (List.mem_cons_of_mem _ (List.mem_cons_of_mem _ (List.mem_cons_of_mem _ (List.mem_cons_of_mem _ (List.mem_cons_of_mem _ (List.mem_cons_of_mem _ (List.mem_cons_of_mem _ (List.mem_cons_self ..)))))))))
      have hob : AllP ob' := fun p hp => ho p (by simp [hp])
      have hc := tk3y_fn (b := b) (f := f) e2 e3 e4 e5
      rw [sw_yes e5] at hc
      exact step3_ok (o := fun h => phO A B h (.t3 c v b f)) (o' := fun _ => dnT A B c v b f) hc (fun _ _ => ren_phO) (fun _ _ => rfl) (fun _ => rfl) rfl hp hob (by rw [hg, e1]) hnd
    · simp only [Option.some.injEq, Prod.mk.injEq] at hs
      obtain ⟨rfl, rfl, rfl⟩ := hs
      have e1 := ho _ (List.mem_cons_self ..)
      have w1 := ho _ (List.mem_cons_of_mem _ (List.mem_cons_self ..))
      have w2 := ho _ (List.mem_cons_of_mem _ (List.mem_cons_of_mem _ (List.mem_cons_self ..)))
      have w3 := ho _ (List.mem_cons_of_mem _ (List.mem_cons_of_mem _ (List.mem_cons_of_mem _ (List.mem_cons_self ..))))
      have w4 := ho _ (List.mem_cons_of_mem _ (List.mem_cons_of_mem _ (List.mem_cons_of_mem _ (List.mem_cons_of_mem _ (List.mem_cons_self ..)))))
      have w5 := ho _ (List.mem_cons_of_mem _ (List.mem_cons_of_mem _ (List.mem_cons_of_mem _ (List.mem_cons_of_mem _ (List.mem_cons_of_mem _ (List.mem_cons_self ..))))))
      have e2 := wdP_of (kd := kd) (wd := wd) (vl := vl) (ch := ch) w1 w2 w3 w4 w5
      have e3 := ho _ (List.mem_cons_of_mem _ (List.mem_cons_of_mem _ (List.mem_cons_of_mem _ (List.mem_cons_of_mem _ (List.mem_cons_of_mem _ (List.mem_cons_of_mem _ (List.mem_cons_self ..)))))))
      have e4 := ho _ (List.mem_cons_of_mem _ (List.mem_cons_of_mem _ (List.mem_cons_of_mem _ (List.mem_cons_of_mem _ (List.mem_cons_of_mem _ (List.mem_cons_of_mem _ (List.mem_cons_of_mem _ (List.mem_cons_self ..))))))))
      have e5 := ho _ (List.mem_cons_of_mem _ (List.mem_cons_of_mem _ (List.mem_cons_of_mem _ (List.mem_cons_of_mem _ (List.mem_cons_of_mem _ (List.mem_cons_of_mem _ (List.mem_cons_of_mem _ (List.mem_cons_of_mem _ (List.mem_cons_self ..)))))))))
      have hob : AllP ob' := fun p hp => ho p (by simp [hp])
      have hc := tk3n_fn (b := b) (f := f) e2 e3 e4 e5
      rw [sw_no e5] at hc
      exact step3_ok (o := fun h => phO A B h (.t3 c v b f)) (o' := fun h => phO A B h (.t1 c v b f)) hc (fun _ _ => ren_phO) (fun _ _ => ren_phO) (fun _ => rfl) rfl hp hob (by rw [hg, e1]) hnd
  · simp at hs
/-- A give's step: b3: the swap is done. -/
def gvStepS (A B : Int) (b3 : Bool) : Hx.Spec := fun args H => match args with
  | [.ptr h 0, .ptr ha 0] => match gvA H h, arP H ha with
    | some (nx, b, v, so), some (hw, ⟨W, st, _kd, _wd, _vl, _ch⟩, ob) => match nodupN [h, ha, hw], nx with
      | true, .func (.func 52) [.ptr _ 0] [] => some ((so = phO A B h (.g1 b v)) :: (rightB 1 4 1 2 4 A 6 B 2 = true) :: ((W.length : Int) = 16 + A * 5 + B * 7) :: (0 ≤ st) :: (st < 1000000) :: (∀ j, 0 ≤ W.getD j 0 ∧ W.getD j 0 < 18446744073709551616) :: (1 ≤ b ∧ b ≤ A + B) :: ob, .ff,
            fin3 H h (phO A B h (.g2 b (W.getD (3 + classV A B b).toNat 0))) ha hw (W) (st + 1) (1) (3 + classV A B b) (W.getD (3 + classV A B b).toNat 0) (false))
      | true, .func (.func 75) [.ptr _ 0] [] => some ((so = phO A B h (.g2 b v)) :: (rightB 1 4 1 2 4 A 6 B 2 = true) :: ((W.length : Int) = 16 + A * 5 + B * 7) :: (0 ≤ st) :: (st < 1000000) :: (∀ j, 0 ≤ W.getD j 0 ∧ W.getD j 0 < 18446744073709551616) :: (1 ≤ b ∧ b ≤ A + B) :: (0 ≤ v ∧ v < 18446744073709551616) :: ob, .ff,
            fin3 H h (phO A B h (.g3 b v)) ha hw (W.set (bkP A B b).toNat (v % 4294967296)) (st + 1) (2) (bkP A B b) (v % 4294967296) (true))
      | true, .func (.func 86) [.ptr _ 0] [] => match b3 with
        | true => some ((so = phO A B h (.g3 b v)) :: (rightB 1 4 1 2 4 A 6 B 2 = true) :: ((W.length : Int) = 16 + A * 5 + B * 7) :: (0 ≤ st) :: (st < 1000000) :: (∀ j, 0 ≤ W.getD j 0 ∧ W.getD j 0 < 18446744073709551616) :: (1 ≤ b ∧ b ≤ A + B) :: (0 ≤ v ∧ v < 18446744073709551616) :: (W.getD (3 + classV A B b).toNat 0 = v) :: ob, .tt,
            fin3 H h (dnG A B b v) ha hw (W.set (3 + classV A B b).toNat (turnV v b)) (st + 1) (3) (3 + classV A B b) (turnV v b) (true))
        | false => some ((so = phO A B h (.g3 b v)) :: (rightB 1 4 1 2 4 A 6 B 2 = true) :: ((W.length : Int) = 16 + A * 5 + B * 7) :: (0 ≤ st) :: (st < 1000000) :: (∀ j, 0 ≤ W.getD j 0 ∧ W.getD j 0 < 18446744073709551616) :: (1 ≤ b ∧ b ≤ A + B) :: (0 ≤ v ∧ v < 18446744073709551616) :: (¬ W.getD (3 + classV A B b).toNat 0 = v) :: ob, .ff,
            fin3 H h (phO A B h (.g1 b v)) ha hw (W) (st + 1) (3) (3 + classV A B b) (W.getD (3 + classV A B b).toNat 0) (false))
      | _, _ => none
    | _, _ => none
  | _ => none
theorem gvStepS_ok {A B : Int} {b3 : Bool} {args : List SV} {H : List HE} {ob : List Prop} {V : SV} {L : List HE} (hs : gvStepS A B b3 args H = some (ob, V, L)) (ho : AllP ob) : Gives Try.prog 15 args H (Is V L) := by
  unfold gvStepS at hs
  split at hs
  case h_2 => simp at hs
  rename_i _ h ha
  split at hs
  case h_2 => simp at hs
  rename_i _ _ nx b v so hw W st kd wd vl ch ob' ht hp
  have hg := gvA_get ht
  split at hs
  · rename_i hnd
    simp only [Option.some.injEq, Prod.mk.injEq] at hs
    obtain ⟨rfl, rfl, rfl⟩ := hs
    have e1 := ho _ (List.mem_cons_self ..)
    have w1 := ho _ (List.mem_cons_of_mem _ (List.mem_cons_self ..))
    have w2 := ho _ (List.mem_cons_of_mem _ (List.mem_cons_of_mem _ (List.mem_cons_self ..)))
    have w3 := ho _ (List.mem_cons_of_mem _ (List.mem_cons_of_mem _ (List.mem_cons_of_mem _ (List.mem_cons_self ..))))
    have w4 := ho _ (List.mem_cons_of_mem _ (List.mem_cons_of_mem _ (List.mem_cons_of_mem _ (List.mem_cons_of_mem _ (List.mem_cons_self ..)))))
    have w5 := ho _ (List.mem_cons_of_mem _ (List.mem_cons_of_mem _ (List.mem_cons_of_mem _ (List.mem_cons_of_mem _ (List.mem_cons_of_mem _ (List.mem_cons_self ..))))))
    have e2 := wdP_of (kd := kd) (wd := wd) (vl := vl) (ch := ch) w1 w2 w3 w4 w5
    have e3 := ho _ (List.mem_cons_of_mem _ (List.mem_cons_of_mem _ (List.mem_cons_of_mem _ (List.mem_cons_of_mem _ (List.mem_cons_of_mem _ (List.mem_cons_of_mem _ (List.mem_cons_self ..)))))))
    have hob : AllP ob' := fun p hp => ho p (by simp [hp])
    exact step3_ok (o := fun h => phO A B h (.g1 b v)) (o' := fun h => phO A B h (.g2 b (W.getD (3 + classV A B b).toNat 0))) (gv1_fn e2 e3) (fun _ _ => ren_phO) (fun _ _ => ren_phO) (fun _ => rfl) rfl hp hob (by rw [hg, e1]) hnd
  · rename_i hnd
    simp only [Option.some.injEq, Prod.mk.injEq] at hs
    obtain ⟨rfl, rfl, rfl⟩ := hs
    have e1 := ho _ (List.mem_cons_self ..)
    have w1 := ho _ (List.mem_cons_of_mem _ (List.mem_cons_self ..))
    have w2 := ho _ (List.mem_cons_of_mem _ (List.mem_cons_of_mem _ (List.mem_cons_self ..)))
    have w3 := ho _ (List.mem_cons_of_mem _ (List.mem_cons_of_mem _ (List.mem_cons_of_mem _ (List.mem_cons_self ..))))
    have w4 := ho _ (List.mem_cons_of_mem _ (List.mem_cons_of_mem _ (List.mem_cons_of_mem _ (List.mem_cons_of_mem _ (List.mem_cons_self ..)))))
    have w5 := ho _ (List.mem_cons_of_mem _ (List.mem_cons_of_mem _ (List.mem_cons_of_mem _ (List.mem_cons_of_mem _ (List.mem_cons_of_mem _ (List.mem_cons_self ..))))))
    have e2 := wdP_of (kd := kd) (wd := wd) (vl := vl) (ch := ch) w1 w2 w3 w4 w5
    have e3 := ho _ (List.mem_cons_of_mem _ (List.mem_cons_of_mem _ (List.mem_cons_of_mem _ (List.mem_cons_of_mem _ (List.mem_cons_of_mem _ (List.mem_cons_of_mem _ (List.mem_cons_self ..)))))))
    have e4 := ho _ (List.mem_cons_of_mem _ (List.mem_cons_of_mem _ (List.mem_cons_of_mem _ (List.mem_cons_of_mem _ (List.mem_cons_of_mem _ (List.mem_cons_of_mem _ (List.mem_cons_of_mem _ (List.mem_cons_self ..))))))))
    have hob : AllP ob' := fun p hp => ho p (by simp [hp])
    exact step3_ok (o := fun h => phO A B h (.g2 b v)) (o' := fun h => phO A B h (.g3 b v)) (gv2_fn e2 e3 e4) (fun _ _ => ren_phO) (fun _ _ => ren_phO) (fun _ => rfl) rfl hp hob (by rw [hg, e1]) hnd
  · rename_i hnd
    split at hs
    · simp only [Option.some.injEq, Prod.mk.injEq] at hs
      obtain ⟨rfl, rfl, rfl⟩ := hs
      have e1 := ho _ (List.mem_cons_self ..)
      have w1 := ho _ (List.mem_cons_of_mem _ (List.mem_cons_self ..))
      have w2 := ho _ (List.mem_cons_of_mem _ (List.mem_cons_of_mem _ (List.mem_cons_self ..)))
      have w3 := ho _ (List.mem_cons_of_mem _ (List.mem_cons_of_mem _ (List.mem_cons_of_mem _ (List.mem_cons_self ..))))
      have w4 := ho _ (List.mem_cons_of_mem _ (List.mem_cons_of_mem _ (List.mem_cons_of_mem _ (List.mem_cons_of_mem _ (List.mem_cons_self ..)))))
      have w5 := ho _ (List.mem_cons_of_mem _ (List.mem_cons_of_mem _ (List.mem_cons_of_mem _ (List.mem_cons_of_mem _ (List.mem_cons_of_mem _ (List.mem_cons_self ..))))))
      have e2 := wdP_of (kd := kd) (wd := wd) (vl := vl) (ch := ch) w1 w2 w3 w4 w5
      have e3 := ho _ (List.mem_cons_of_mem _ (List.mem_cons_of_mem _ (List.mem_cons_of_mem _ (List.mem_cons_of_mem _ (List.mem_cons_of_mem _ (List.mem_cons_of_mem _ (List.mem_cons_self ..)))))))
      have e4 := ho _ (List.mem_cons_of_mem _ (List.mem_cons_of_mem _ (List.mem_cons_of_mem _ (List.mem_cons_of_mem _ (List.mem_cons_of_mem _ (List.mem_cons_of_mem _ (List.mem_cons_of_mem _ (List.mem_cons_self ..))))))))
      have e5 := ho _ (List.mem_cons_of_mem _ (List.mem_cons_of_mem _ (List.mem_cons_of_mem _ (List.mem_cons_of_mem _ (List.mem_cons_of_mem _ (List.mem_cons_of_mem _ (List.mem_cons_of_mem _ (List.mem_cons_of_mem _ (List.mem_cons_self ..)))))))))
      have hob : AllP ob' := fun p hp => ho p (by simp [hp])
      have hc := gv3y_fn e2 e3 e4 e5
      rw [sw_yes e5] at hc
      exact step3_ok (o := fun h => phO A B h (.g3 b v)) (o' := fun _ => dnG A B b v) hc (fun _ _ => ren_phO) (fun _ _ => rfl) (fun _ => rfl) rfl hp hob (by rw [hg, e1]) hnd
    · simp only [Option.some.injEq, Prod.mk.injEq] at hs
      obtain ⟨rfl, rfl, rfl⟩ := hs
      have e1 := ho _ (List.mem_cons_self ..)
      have w1 := ho _ (List.mem_cons_of_mem _ (List.mem_cons_self ..))
      have w2 := ho _ (List.mem_cons_of_mem _ (List.mem_cons_of_mem _ (List.mem_cons_self ..)))
      have w3 := ho _ (List.mem_cons_of_mem _ (List.mem_cons_of_mem _ (List.mem_cons_of_mem _ (List.mem_cons_self ..))))
      have w4 := ho _ (List.mem_cons_of_mem _ (List.mem_cons_of_mem _ (List.mem_cons_of_mem _ (List.mem_cons_of_mem _ (List.mem_cons_self ..)))))
      have w5 := ho _ (List.mem_cons_of_mem _ (List.mem_cons_of_mem _ (List.mem_cons_of_mem _ (List.mem_cons_of_mem _ (List.mem_cons_of_mem _ (List.mem_cons_self ..))))))
      have e2 := wdP_of (kd := kd) (wd := wd) (vl := vl) (ch := ch) w1 w2 w3 w4 w5
      have e3 := ho _ (List.mem_cons_of_mem _ (List.mem_cons_of_mem _ (List.mem_cons_of_mem _ (List.mem_cons_of_mem _ (List.mem_cons_of_mem _ (List.mem_cons_of_mem _ (List.mem_cons_self ..)))))))
      have e4 := ho _ (List.mem_cons_of_mem _ (List.mem_cons_of_mem _ (List.mem_cons_of_mem _ (List.mem_cons_of_mem _ (List.mem_cons_of_mem _ (List.mem_cons_of_mem _ (List.mem_cons_of_mem _ (List.mem_cons_self ..))))))))
      have e5 := ho _ (List.mem_cons_of_mem _ (List.mem_cons_of_mem _ (List.mem_cons_of_mem _ (List.mem_cons_of_mem _ (List.mem_cons_of_mem _ (List.mem_cons_of_mem _ (List.mem_cons_of_mem _ (List.mem_cons_of_mem _ (List.mem_cons_self ..)))))))))
      have hob : AllP ob' := fun p hp => ho p (by simp [hp])
      have hc := gv3n_fn e2 e3 e4 e5
      rw [sw_no e5] at hc
      exact step3_ok (o := fun h => phO A B h (.g3 b v)) (o' := fun h => phO A B h (.g1 b v)) hc (fun _ _ => ren_phO) (fun _ _ => ren_phO) (fun _ => rfl) rfl hp hob (by rw [hg, e1]) hnd
  · simp at hs
end Go.Proofs.Ytmghcelohnlceaa
