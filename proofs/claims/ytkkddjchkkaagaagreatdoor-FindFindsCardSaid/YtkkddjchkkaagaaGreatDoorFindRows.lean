/- Find: every step, told by the law; as rows. -/
import Derived.Test.YtkkddjchkkaagaaGreatDoorFindSteps
import Derived.Test.YtkkddjchkkaagaaGreatDoorHas
import Derived.Test.YtkkddjchkkaagaaGreatDoorHyc
namespace Go.Proofs.YtkkddjchkkaagaaGreatDoor
open Go Go.Hx
set_option maxRecDepth 8000
/-- What an arena's pattern says of the heap. -/
theorem arP_get {H : List HE} {ha hw : Nat} {W : List Int} {st kd wd vl : Int} {ch : Bool} {ob : List Prop} (hp : arP H ha = some (hw, ⟨W, st, kd, wd, vl, ch⟩, ob)) (hob : AllP ob) :
    getH H ha = some (.cells [.slice hw 0 W.length W.length, .int .i64 st, .int .i64 kd, .int .i64 wd, .int .u64 vl, .bool ch, .niliface] 151) ∧ getH H hw = some (.ints .u64 W 52) ∧ nodupN [ha, hw] = true := by
  unfold arP at hp
  split at hp
  · rename_i hga
    split at hp
    · rename_i hgw hn
      simp only [Option.some.injEq, Prod.mk.injEq] at hp
      obtain ⟨rfl, h2, rfl⟩ := hp
      simp only [Ar.mk.injEq] at h2
      obtain ⟨rfl, rfl, rfl, rfl, rfl, rfl⟩ := h2
      have l1 := hob _ (List.mem_cons_self ..)
      have l2 := hob _ (List.mem_cons_of_mem _ (List.mem_cons_self ..))
      subst l1; subst l2
      exact ⟨hga, hgw, hn⟩
    · simp at hp
  · simp at hp

/-! A run's step. -/
section
variable {T : Nat} {R : Int} {start : Nat} {W : List Int} {st kd wd vl : Int} {ch : Bool}
theorem fstep_fn {s : FS} (B : FB T R W st) (C : FC T R s) (hs : start < T) (hst : startV (T : Int) 4 1 2 4 1 6 0 R s.key = (start : Int)) : FStp T R s W st kd wd vl ch (fStep T R start s W st) := by
  obtain ⟨key, ph, seq, i, fd, pl, ep, lg, er, tm⟩ := s
  have p1 : 1 ≤ ph := C.p1
  have p4 : ph ≤ 4 := C.p4
  have hp : ph = 1 ∨ ph = 2 ∨ ph = 3 ∨ ph = 4 := by omega
  rcases hp with rfl | rfl | rfl | rfl
  · unfold fStep
    rw [if_pos rfl]
    by_cases g : W.getD 2 0 % 2 = 1
    · rw [if_pos g]
      unfold fFail
      by_cases g2 : fd + 1 = R
      · rw [if_pos g2]; exact f1l B C hs hst g g2
      · rw [if_neg g2]; exact f1f B C hs hst g g2
    · rw [if_neg g]; exact f1e B C hs hst g
  · unfold fStep
    rw [if_neg (by dsimp only; omega), if_pos rfl]
    by_cases g : isK (W.getD (fP (fPl T start i)) 0) = true ∧ W.getD (fP (fPl T start i)) 0 / 4 = key
    · rw [if_pos g]; exact f2f B C hs hst g.1 g.2
    · rw [if_neg g]
      by_cases hz : W.getD (fP (fPl T start i)) 0 = 0
      · rw [if_pos (.inl hz)]; exact f2z B C hs hst hz
      · by_cases hi2 : i + 1 = T
        · rw [if_pos (.inr hi2)]
          rcases hK : isK (W.getD (fP (fPl T start i)) 0) with _ | _
          · exact f2ta B C hs hst hK hz hi2
          · exact f2tb B C hs hst hK (fun q => g ⟨hK, q⟩) hz hi2
        · rw [if_neg (fun q => by rcases q with q | q; exact hz q; exact hi2 q)]
          rcases hK : isK (W.getD (fP (fPl T start i)) 0) with _ | _
          · exact f2na B C hs hst hK hz hi2
          · exact f2nb B C hs hst hK (fun q => g ⟨hK, q⟩) hz hi2
  · unfold fStep
    rw [if_neg (by dsimp only; omega), if_neg (by dsimp only; omega), if_pos rfl]
    exact f3 B C hs hst
  · unfold fStep
    rw [if_neg (by dsimp only; omega), if_neg (by dsimp only; omega), if_neg (by dsimp only; omega)]
    by_cases g : W.getD 2 0 = seq
    · rw [if_pos g]; exact f4s B C hs hst g
    · rw [if_neg g]
      unfold fFail
      by_cases g2 : fd + 1 = R
      · rw [if_pos g2]; exact f4l B C hs hst g g2
      · rw [if_neg g2]; exact f4f B C hs hst g g2
/-- Does it lie elsewhere, behind the step? -/
def mvB (s : LS) (W : List Int) : Bool := decide (s.ph = 2) && isK (W.getD (fP s.i) 0)

theorem lstep0_fn {s : LS} (B : FB T R W st) (C : LC T R s) (ht : s.told = none) : LStp0 (mvB s W) T R s W st kd wd vl ch (lStep T R s W st) := by
  obtain ⟨ph, seq, i, fd, told, er, tm⟩ := s
  dsimp only at ht
  subst ht
  have p1 : ph = 1 ∨ ph = 2 ∨ ph = 4 := C.p1
  rcases p1 with rfl | rfl | rfl
  · unfold lStep
    rw [if_pos rfl]
    have em : mvB ⟨1, seq, i, fd, none, er, tm⟩ W = false := rfl
    rw [em]
    by_cases g : W.getD 2 0 % 2 = 1
    · rw [if_pos g]
      unfold lFail
      by_cases g2 : fd + 1 = R
      · rw [if_pos g2]; exact l1ln B C g g2
      · rw [if_neg g2]; exact l1fn B C g g2
    · rw [if_neg g]; exact l1en B C g
  · unfold lStep
    rw [if_neg (by dsimp only; omega), if_pos rfl]
    rcases hK : isK (W.getD (fP i) 0) with _ | _
    · have em : mvB ⟨2, seq, i, fd, none, er, tm⟩ W = false := by unfold mvB; dsimp only; rw [hK]; rfl
      rw [em]
      dsimp only
      simp only [Bool.false_eq_true, if_false]
      by_cases hi2 : i + 1 = T
      · simp only [if_pos hi2]; exact l2ftn B C hK hi2
      · simp only [if_neg hi2]; exact l2fnn B C hK hi2
    · have em : mvB ⟨2, seq, i, fd, none, er, tm⟩ W = true := by unfold mvB; dsimp only; rw [hK]; rfl
      rw [em]
      dsimp only
      simp only [if_true]
      by_cases hi2 : i + 1 = T
      · simp only [if_pos hi2]; exact l2ttn B C hK hi2
      · simp only [if_neg hi2]; exact l2tnn B C hK hi2
  · unfold lStep
    rw [if_neg (by dsimp only; omega), if_neg (by dsimp only; omega)]
    have em : mvB ⟨4, seq, i, fd, none, er, tm⟩ W = false := rfl
    rw [em]
    by_cases g : W.getD 2 0 = seq
    · rw [if_pos g]; exact l4sn B C g
    · rw [if_neg g]
      unfold lFail
      by_cases g2 : fd + 1 = R
      · rw [if_pos g2]; exact l4ln B C g g2
      · rw [if_neg g2]; exact l4fn B C g g2
theorem lstep1_fn {l : List Int} {s : LS} (B : FB T R W st) (C : LC T R s) (ht : s.told = some l) (hi9 : s.i ≤ 8) : LStp1 (mvB s W) l T R s W st kd wd vl ch (lStep T R s W st) := by
  obtain ⟨ph, seq, i, fd, told, er, tm⟩ := s
  dsimp only at ht hi9
  subst ht
  have p1 : ph = 1 ∨ ph = 2 ∨ ph = 4 := C.p1
  rcases p1 with rfl | rfl | rfl
  · unfold lStep
    rw [if_pos rfl]
    have em : mvB ⟨1, seq, i, fd, some l, er, tm⟩ W = false := rfl
    rw [em]
    by_cases g : W.getD 2 0 % 2 = 1
    · rw [if_pos g]
      unfold lFail
      by_cases g2 : fd + 1 = R
      · rw [if_pos g2]; exact l1ls B C hi9 g g2
      · rw [if_neg g2]; exact l1fs B C hi9 g g2
    · rw [if_neg g]; exact l1es B C hi9 g
  · unfold lStep
    rw [if_neg (by dsimp only; omega), if_pos rfl]
    rcases hK : isK (W.getD (fP i) 0) with _ | _
    · have em : mvB ⟨2, seq, i, fd, some l, er, tm⟩ W = false := by unfold mvB; dsimp only; rw [hK]; rfl
      rw [em]
      dsimp only
      simp only [Bool.false_eq_true, if_false]
      by_cases hi2 : i + 1 = T
      · simp only [if_pos hi2]; exact l2fts B C hK hi2
      · simp only [if_neg hi2]; exact l2fns B C hK hi2
    · have em : mvB ⟨2, seq, i, fd, some l, er, tm⟩ W = true := by unfold mvB; dsimp only; rw [hK]; rfl
      rw [em]
      dsimp only
      simp only [if_true]
      by_cases hi2 : i + 1 = T
      · simp only [if_pos hi2]; exact l2tts B C hK hi2
      · simp only [if_neg hi2]; exact l2tns B C hK hi2
  · unfold lStep
    rw [if_neg (by dsimp only; omega), if_neg (by dsimp only; omega)]
    have em : mvB ⟨4, seq, i, fd, some l, er, tm⟩ W = false := rfl
    rw [em]
    by_cases g : W.getD 2 0 = seq
    · rw [if_pos g]; exact l4ss B C hi9 g
    · rw [if_neg g]
      unfold lFail
      by_cases g2 : fd + 1 = R
      · rw [if_pos g2]; exact l4ls B C hi9 g g2
      · rw [if_neg g2]; exact l4fs B C hi9 g g2
end
theorem ren_fnx {ph a : Nat} {σ : Nat → Nat} : (fnx ph a).ren σ = fnx ph (σ a) := by unfold fnx; split <;> rfl
theorem ren_lnx {ph a : Nat} {σ : Nat → Nat} : (lnx ph a).ren σ = lnx ph (σ a) := by unfold lnx; split <;> rfl
theorem ren_fnC {T R : Int} {a : Nat} {s : FS} {σ : Nat → Nat} : (fnC T R a s).ren σ = fnC T R (σ a) s := by
  unfold fnC
  simp only [SO.ren, SV.rens, ren_fnx, ren_erV, SV.ren]
theorem ren_lsC {T R : Int} {a b : Nat} {s : LS} {σ : Nat → Nat} : (lsC T R a b s).ren σ = lsC T R (σ a) (σ b) s := by
  unfold lsC
  simp only [SO.ren, SV.rens, ren_lnx, ren_erV, ren_slVe, SV.ren]
theorem okh_erV {e : Int} {A : Nat → Bool} : (erV e).okh A = true := by unfold erV; split <;> rfl
theorem okh_fnx {ph a : Nat} {A : Nat → Bool} (h : A a = true) : (fnx ph a).okh A = true := by unfold fnx; split <;> simp [SV.okh, SV.okhs, h]
theorem okh_lnx {ph a : Nat} {A : Nat → Bool} (h : A a = true) : (lnx ph a).okh A = true := by unfold lnx; split <;> simp [SV.okh, SV.okhs, h]
theorem okh_fnC {T R : Int} {a : Nat} {s : FS} {A : Nat → Bool} (h : A a = true) : (fnC T R a s).okh A = true := by
  unfold fnC
  simp [SO.okh, SV.okhs, okh_fnx h, okh_erV, SV.okh, h]
theorem okh_slV {o : Option (List Int)} {b : Nat} {A : Nat → Bool} (h : o ≠ none → A b = true) : (slV o b).okh A = true := by
  cases o with
  | none => rfl
  | some l => exact h (by simp)
theorem okh_lsC {T R : Int} {a b : Nat} {s : LS} {A : Nat → Bool} (h : A a = true) (h2 : s.told ≠ none → A b = true) : (lsC T R a b s).okh A = true := by
  unfold lsC
  simp [SO.okh, SV.okhs, okh_lnx h, okh_erV, okh_slV h2, SV.okh, h]
/-- A step of a run that finds, as a row. -/
def fStS (T : Nat) (R : Int) (start : Nat) (s : FS) (r : FR) : Hx.Spec := fun args H => match args with
  | [.ptr h 0, .ptr ha 0] => match getH H h, arP H ha with
    | some o, some (hw, ⟨W, st, _kd, _wd, _vl, _ch⟩, ob) => match nodupN [h, ha, hw] with
      | true => some ((o = fnC (T : Int) R h s) :: (FB T R W st ∧ FC T R s ∧ start < T ∧ startV (T : Int) 4 1 2 4 1 6 0 R s.key = (start : Int) ∧ fStep T R start s W st = r) :: ob, .bool (decide (r.s.ph = 0)),
          ((H.set h (.obj (fnC (T : Int) R h r.s))).set ha (AOx hw W (st + 1) 1 r.wd r.vl false)).set hw (WO W))
      | _ => none
    | _, _ => none
  | _ => none
theorem fStS_ok {T : Nat} {R : Int} {start : Nat} {s : FS} {r : FR} {args : List SV} {H : List HE} {ob : List Prop} {V : SV} {L : List HE} (hs : fStS T R start s r args H = some (ob, V, L)) (ho : AllP ob) : Gives Tryz.prog 16 args H (Is V L) := by
  unfold fStS at hs
  split at hs
  case h_2 => simp at hs
  rename_i _ h ha
  split at hs
  case h_2 => simp at hs
  rename_i _ _ o hw W st kd wd vl ch ob' hg hp
  split at hs
  case h_2 => simp at hs
  rename_i _ hnd
  simp only [Option.some.injEq, Prod.mk.injEq] at hs
  obtain ⟨rfl, rfl, rfl⟩ := hs
  have o1 := ho _ (List.mem_cons_self ..)
  obtain ⟨a1, a2, a3, a4, a5⟩ := ho _ (List.mem_cons_of_mem _ (List.mem_cons_self ..))
  obtain ⟨g1, g2, _⟩ := arP_get hp (fun q hq => ho q (List.mem_cons_of_mem _ (List.mem_cons_of_mem _ hq)))
  subst o1
  have key := fstep_fn (kd := kd) (wd := wd) (vl := vl) (ch := ch) a1 a2 a3 a4
  rw [a5] at key
  exact frame3n (H := H) (h0 := h) (h1 := ha) (h2 := hw) (ags := [.ptr h 0, .ptr ha 0]) ⟨_, hTE⟩ key rfl rfl (by
    have e1 : (fnC (T : Int) R 0 s).okh (there [.obj (fnC (T : Int) R 0 s), AOx 2 W st kd wd vl ch, WO W]) = true := okh_fnC rfl
    simp only [okHs, e1, Bool.true_and]; rfl) hnd (by rw [ren_fnC]; exact hg) g1 g2 rfl (by rw [ren_fnC]; rfl) rfl rfl
/-- .. of one that lists; g: where what it told lies. -/
def lStS (mv : Bool) (g : Nat) (T : Nat) (R : Int) (s : LS) (r : LR) : Hx.Spec := fun args H => match args with
  | [.ptr h 0, .ptr ha 0] => match s.told with
    | none => match getH H h, arP H ha, nums[H.length]? with
      | some o, some (hw, ⟨W, st, _kd, _wd, _vl, _ch⟩, ob), some n => match nodupN [h, ha, hw] with
        | true => some ((o = lsC (T : Int) R h g s) :: (FB T R W st ∧ LC T R s ∧ lStep T R s W st = r ∧ mvB s W = mv) :: ob, .bool (decide (r.s.ph = 0)),
            (((H.set h (.obj (lsC (T : Int) R h n r.s))).set ha (AOx hw W (st + 1) 1 r.wd r.vl false)).set hw (WO W)) ++ mvL mv r.s.told)
        | _ => none
      | _, _, _ => none
    | some l => match getH H h, arP H ha, getH H g, nums[H.length]? with
      | some o, some (hw, ⟨W, st, _kd, _wd, _vl, _ch⟩, ob), some o2, some n => match nodupN [h, ha, hw, g] with
        | true => some ((o = lsC (T : Int) R h g s) :: (FB T R W st ∧ LC T R s ∧ lStep T R s W st = r ∧ mvB s W = mv ∧ s.i ≤ 8) :: (o2 = .buf .i64 l 1 3) :: ob, .bool (decide (r.s.ph = 0)),
            ((((H.set h (.obj (lsC (T : Int) R h (bif mv then n else g) r.s))).set ha (AOx hw W (st + 1) 1 r.wd r.vl false)).set hw (WO W)).set g (kpE mv r.s.told)) ++ mvL mv r.s.told)
        | _ => none
      | _, _, _, _ => none
  | _ => none
theorem ren_mvL {mv : Bool} {o : Option (List Int)} {σ : Nat → Nat} : (mvL mv o).map (HE.ren σ) = mvL mv o := by cases mv <;> simp [mvL, ren_slE]
theorem ren_kpE {mv : Bool} {o : Option (List Int)} {σ : Nat → Nat} : (kpE mv o).ren σ = kpE mv o := by cases mv <;> cases o <;> rfl
theorem new_mvL {mv : Bool} {o : Option (List Int)} : newOk (mvL mv o) = true := by cases mv <;> cases o <;> rfl
set_option maxHeartbeats 1000000 in
theorem lStS_ok {mv : Bool} {g T : Nat} {R : Int} {s : LS} {r : LR} {args : List SV} {H : List HE} {ob : List Prop} {V : SV} {L : List HE} (hs : lStS mv g T R s r args H = some (ob, V, L)) (ho : AllP ob) : Gives Tryz.prog 20 args H (Is V L) := by
  unfold lStS at hs
  split at hs
  case h_2 => simp at hs
  rename_i _ h ha
  split at hs
  · rename_i ht
    split at hs
    case h_2 => simp at hs
    rename_i _ _ _ o hw W st kd wd vl ch ob' n hg hp t0
    split at hs
    case h_2 => simp at hs
    rename_i _ hnd
    have t0' := nums_get _ _ t0
    subst t0'
    simp only [Option.some.injEq, Prod.mk.injEq] at hs
    obtain ⟨rfl, rfl, rfl⟩ := hs
    have o1 := ho _ (List.mem_cons_self ..)
    obtain ⟨a1, a2, a3, a4⟩ := ho _ (List.mem_cons_of_mem _ (List.mem_cons_self ..))
    obtain ⟨g1, g2, _⟩ := arP_get hp (fun q hq => ho q (List.mem_cons_of_mem _ (List.mem_cons_of_mem _ hq)))
    subst o1
    have key := lstep0_fn (kd := kd) (wd := wd) (vl := vl) (ch := ch) a1 a2 ht
    rw [a3, a4] at key
    have e0 : ∀ b c : Nat, lsC (T : Int) R 0 b s = lsC (T : Int) R 0 c s := fun b c => by unfold lsC; rw [ht]; rfl
    have e0' : ∀ b c : Nat, lsC (T : Int) R h b s = lsC (T : Int) R h c s := fun b c => by unfold lsC; rw [ht]; rfl
    have fr := gives_frame (H := H) ⟨_, hTE⟩ key [h, ha, hw] (show [SV.ptr h 0, SV.ptr ha 0] = SV.rens (nm [h, ha, hw] H) [.ptr 0 0, .ptr 1 0] from rfl) rfl rfl rfl (by
      have e1 : (lsC (T : Int) R 0 0 s).okh (there [.obj (lsC (T : Int) R 0 0 s), AOx 2 W st kd wd vl ch, WO W]) = true := okh_lsC rfl (fun q => absurd ht q)
      simp only [okHs, e1, Bool.true_and]; rfl) hnd ⟨by rw [ren_lsC]; show getH H h = some (lsC (T : Int) R h _ s); rw [e0' _ g]; exact hg, g1, g2, trivial⟩ (by
        show newOk (mvL mv r.s.told) = true
        exact new_mvL)
    have e3 : (lsC (T : Int) R 0 3 r.s).ren (nm [h, ha, hw] H) = lsC (T : Int) R h H.length r.s := by rw [ren_lsC]; rfl
    simp only [merge, setAll, List.length_cons, List.length_nil, List.drop_succ_cons, List.drop_zero, ren_obj, e3, ren_mvL] at fr
    exact fr
  · rename_i l ht
    split at hs
    case h_2 => simp at hs
    rename_i _ _ _ _ o hw W st kd wd vl ch ob' o2 n hg hp hg2 t0
    split at hs
    case h_2 => simp at hs
    rename_i _ hnd
    have t0' := nums_get _ _ t0
    subst t0'
    simp only [Option.some.injEq, Prod.mk.injEq] at hs
    obtain ⟨rfl, rfl, rfl⟩ := hs
    have o1 := ho _ (List.mem_cons_self ..)
    obtain ⟨a1, a2, a3, a4, a5⟩ := ho _ (List.mem_cons_of_mem _ (List.mem_cons_self ..))
    have o3 := ho _ (List.mem_cons_of_mem _ (List.mem_cons_of_mem _ (List.mem_cons_self ..)))
    obtain ⟨g1, g2, _⟩ := arP_get hp (fun q hq => ho q (List.mem_cons_of_mem _ (List.mem_cons_of_mem _ (List.mem_cons_of_mem _ hq))))
    subst o1; subst o3
    have key := lstep1_fn (kd := kd) (wd := wd) (vl := vl) (ch := ch) a1 a2 ht a5
    rw [a3, a4] at key
    have fr := gives_frame (H := H) ⟨_, hTE⟩ key [h, ha, hw, g] (show [SV.ptr h 0, SV.ptr ha 0] = SV.rens (nm [h, ha, hw, g] H) [.ptr 0 0, .ptr 1 0] from rfl) rfl rfl rfl (by
      have e1 : (lsC (T : Int) R 0 3 s).okh (there [.obj (lsC (T : Int) R 0 3 s), AOx 2 W st kd wd vl ch, WO W, .obj (.buf .i64 l 1 3)]) = true := okh_lsC rfl (fun _ => rfl)
      simp only [okHs, e1, Bool.true_and]; rfl) hnd ⟨by rw [ren_lsC]; exact hg, g1, g2, hg2, trivial⟩ (by
        show newOk (mvL mv r.s.told) = true
        exact new_mvL)
    have e3 : (lsC (T : Int) R 0 (bif mv then 4 else 3) r.s).ren (nm [h, ha, hw, g] H) = lsC (T : Int) R h (bif mv then H.length else g) r.s := by rw [ren_lsC]; cases mv <;> rfl
    simp only [merge, setAll, List.length_cons, List.length_nil, List.drop_succ_cons, List.drop_zero, ren_obj, ren_kpE, e3, ren_mvL] at fr
    exact fr
end Go.Proofs.YtkkddjchkkaagaaGreatDoor
