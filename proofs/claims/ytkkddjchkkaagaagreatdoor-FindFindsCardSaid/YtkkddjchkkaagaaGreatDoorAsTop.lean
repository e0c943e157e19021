/- cause.Top, in handles: of a nil error, and of an api.Errno. -/
import Derived.Test.YtkkddjchkkaagaaGreatDoorAsAt
import Derived.Test.YtkkddjchkkaagaaGreatDoorTables
namespace Go.Proofs.YtkkddjchkkaagaaGreatDoor
open Go Go.Hx Go.RowKit

/-- What errors.errorType holds. -/
def RTV : Value := .iface 208 (.agg #[.pointer (some ⟨1, 27, none⟩)])
theorem as_nil_g (t : SV) (H : List HE) : Gives Tryz.prog 80 [.niliface, t] H (Is .ff H) := fun ρ w hS _ =>
  (as_nilW (t.tr ρ) w).mono fun e w' h => by obtain ⟨rfl, rfl⟩ := h; exact fnPost_same (V := .ff) hS rfl
theorem as_hit_g (n c : Int) : Gives Tryz.prog 80 [.iface 35 (.int .i64 n), .iface 134 (.ptr 0 0)] [.obj (.cells [.int .i64 c] 35), pinE RTV] (Is .tt [.obj (.cells [.int .i64 n] 35), pinE RTV]) := fun ρ w hS _ => by
  obtain ⟨⟨h01, h02⟩, _⟩ := hS.objs 0 _ rfl
  obtain ⟨⟨h11, h12⟩, _⟩ := hS.objs 1 _ rfl
  have ea : (⟨(ρ 0).1, (ρ 0).2 + 0, none⟩ : Addr) = ⟨(ρ 0).1, 0, none⟩ := by rw [h01]
  show Calls Tryz.prog 80 #[.iface 35 (.int .i64 n), .iface 134 (.pointer (some ⟨(ρ 0).1, (ρ 0).2 + 0, none⟩))] w _
  rw [ea]
  have hc : w.cell? ⟨(ρ 0).1, 0, none⟩ = some (.int .i64 c) := cell_of_one h02
  refine (as_hitW n ⟨(ρ 0).1, 0, none⟩ _ w h12 hc (free_of_one h02)).mono fun e w' h => ?_
  obtain ⟨rfl, rfl⟩ := h
  refine fnPost_setL hS ?_
  exact ((((Below.refl _ _).alloc (Nat.le_refl _) _).alloc (by simp) _).alloc (by simp; omega) _).alloc (by simp; omega) _

theorem as_at_g (n c wd : Int) : Gives Tryz.prog 80 [.iface 221 (.ptr 1 0), .iface 134 (.ptr 0 0)] [.obj (.cells [.int .i64 c] 35), .obj (.cells [.iface 35 (.int .i64 n), .int .i64 wd] 223), pinE RTV] (Is .tt [.obj (.cells [.int .i64 n] 35), .obj (.cells [.iface 35 (.int .i64 n), .int .i64 wd] 223), pinE RTV]) := fun ρ w hS _ => by
  obtain ⟨⟨h01, h02⟩, _⟩ := hS.objs 0 _ rfl
  obtain ⟨⟨h11, h12⟩, _⟩ := hS.objs 1 _ rfl
  obtain ⟨⟨h21, h22⟩, _⟩ := hS.objs 2 _ rfl
  have ea : (⟨(ρ 0).1, (ρ 0).2 + 0, none⟩ : Addr) = ⟨(ρ 0).1, 0, none⟩ := by rw [h01]
  have eb : (⟨(ρ 1).1, (ρ 1).2 + 0, none⟩ : Addr) = ⟨(ρ 1).1, 0, none⟩ := by rw [h11]
  show Calls Tryz.prog 80 #[.iface 221 (.pointer (some ⟨(ρ 1).1, (ρ 1).2 + 0, none⟩)), .iface 134 (.pointer (some ⟨(ρ 0).1, (ρ 0).2 + 0, none⟩))] w _
  rw [ea, eb]
  have hc : w.cell? ⟨(ρ 0).1, 0, none⟩ = some (.int .i64 c) := cell_of_one h02
  have hp : w.cell? ⟨(ρ 1).1, 0, none⟩ = some (.iface 35 (.int .i64 n)) := by simp only [World.cell?, h12]; rfl
  refine (as_atW n ⟨(ρ 1).1, 0, none⟩ ⟨(ρ 0).1, 0, none⟩ _ w hp h22 hc (free_of_one h02)).mono fun e w' h => ?_
  obtain ⟨rfl, rfl⟩ := h
  refine fnPost_setL hS ?_
  exact ((((Below.refl _ _).alloc (Nat.le_refl _) _).alloc (by simp) _).alloc (by simp; omega) _).alloc (by simp; omega) _

/-- The variable's handle. -/
def findP : Nat → List HE → Option (Nat × Value)
  | _, [] => none
  | i, .obj (.pin 0 v) :: _ => some (i, v)
  | i, _ :: r => findP (i + 1) r
theorem findP_get : ∀ {H : List HE} {i g : Nat} {v : Value}, findP i H = some (g, v) → ∃ k, g = i + k ∧ H[k]? = some (.obj (.pin 0 v))
  | [], i, g, v, h => by simp [findP] at h
  | e :: r, i, g, v, h => by
    unfold findP at h
    split at h
    · contradiction
    · rename_i e1 e2; simp only [List.cons.injEq] at e2; simp at h; obtain ⟨rfl, rfl⟩ := h; obtain ⟨rfl, _⟩ := e2; exact ⟨0, rfl, rfl⟩
    · rename_i e2; simp only [List.cons.injEq] at e2; obtain ⟨_, rfl⟩ := e2
      obtain ⟨k, rfl, h2⟩ := findP_get h
      exact ⟨k + 1, by omega, by simpa using h2⟩
def asS : Hx.Spec := fun args H => match args with
  | [.niliface, _] => some ([], .ff, H)
  | [.iface 35 (.int .i64 n), .iface 134 (.ptr h 0)] => match getH H h, findP 0 H with
    | some (.cells [.int .i64 _] 35), some (_, v) => some ([v = RTV], .tt, H.set h (.obj (.cells [.int .i64 n] 35)))
    | _, _ => none
  | [.iface 221 (.ptr g 0), .iface 134 (.ptr h 0)] => match getH H h, getH H g, findP 0 H with
    | some (.cells [.int .i64 _] 35), some (.cells [.iface 35 (.int .i64 n), .int .i64 _] 223), some (_, v) => some ([v = RTV], .tt, H.set h (.obj (.cells [.int .i64 n] 35)))
    | _, _, _ => none
  | _ => none
theorem set_get {H : List HE} {g : Nat} {e : HE} (h : H[g]? = some e) : H.set g e = H := by
  apply List.ext_getElem?
  intro i
  rw [List.getElem?_set]
  split
  · rename_i e1; subst e1
    have := (List.getElem?_eq_some_iff.1 h).1
    rw [if_pos this, h]
  · rfl
theorem asS_ok {args : List SV} {H : List HE} {ob : List Prop} {V : SV} {L : List HE} (hs : asS args H = some (ob, V, L)) (ho : AllP ob) : Gives Tryz.prog 80 args H (Is V L) := by
  unfold asS at hs
  split at hs
  · simp only [Option.some.injEq, Prod.mk.injEq] at hs
    obtain ⟨rfl, rfl, rfl⟩ := hs
    exact as_nil_g _ _
  · rename_i _ n h
    split at hs
    · rename_i _ _ c g v hg hp
      simp only [Option.some.injEq, Prod.mk.injEq] at hs
      obtain ⟨rfl, rfl, rfl⟩ := hs
      have hv := ho _ (List.mem_cons_self ..)
      obtain ⟨k, hk, hk2⟩ := findP_get hp
      have hk' : g = k := by omega
      subst hk'
      rw [hv] at hk2
      have hne : h ≠ g := by
        rintro rfl
        rw [getH_some.1 hg] at hk2
        simp at hk2
      have hnd : nodupN [h, g] = true := by
        have hb : Nat.beq h g = false := by
          cases hb : Nat.beq h g with
          | false => rfl
          | true => exact absurd (Nat.eq_of_beq_eq_true hb) hne
        simp [nodupN, memN, hb]
      have := frame2n (H := H) (h0 := h) (h1 := g) ⟨_, hTE⟩ (as_hit_g n c) rfl rfl rfl hnd hg (getH_some.2 hk2) rfl rfl rfl
      rw [set_get (g := g)] at this
      · exact this
      · rw [List.getElem?_set, if_neg hne]; exact hk2
    · simp at hs
  · rename_i _ q h
    split at hs
    · rename_i _ _ _ c n wd g v hg hq hp
      simp only [Option.some.injEq, Prod.mk.injEq] at hs
      obtain ⟨rfl, rfl, rfl⟩ := hs
      have hv := ho _ (List.mem_cons_self ..)
      obtain ⟨k, hk, hk2⟩ := findP_get hp
      have hk' : g = k := by omega
      subst hk'
      rw [hv] at hk2
      have hne : h ≠ g := by
        rintro rfl
        rw [getH_some.1 hg] at hk2
        simp at hk2
      have hnq : h ≠ q := by
        rintro rfl
        rw [hg] at hq
        simp at hq
      have hqg : q ≠ g := by
        rintro rfl
        rw [getH_some.1 hq] at hk2
        simp at hk2
      have nb : ∀ a b : Nat, a ≠ b → Nat.beq a b = false := fun a b h => by
        cases hb : Nat.beq a b with
        | false => rfl
        | true => exact absurd (Nat.eq_of_beq_eq_true hb) h
      have hnd : nodupN [h, q, g] = true := by simp [nodupN, memN, nb _ _ hne, nb _ _ hnq, nb _ _ hqg]
      have : Gives Tryz.prog 80 [.iface 221 (.ptr q 0), .iface 134 (.ptr h 0)] H (Is .tt (merge (nm [h, q, g] H) [h, q, g] H [.obj (.cells [.int .i64 n] 35), .obj (.cells [.iface 35 (.int .i64 n), .int .i64 wd] 223), pinE RTV])) := gives_frame (H := H) ⟨_, hTE⟩ (as_at_g n c wd) [h, q, g] rfl rfl rfl rfl rfl hnd ⟨hg, hq, getH_some.2 hk2, trivial⟩ rfl
      have e1 : merge (nm [h, q, g] H) [h, q, g] H [.obj (.cells [.int .i64 n] 35), .obj (.cells [.iface 35 (.int .i64 n), .int .i64 wd] 223), pinE RTV] = H.set h (.obj (.cells [.int .i64 n] 35)) := by
        simp only [merge, setAll, List.length_cons, List.length_nil, List.drop_succ_cons, List.drop_zero, List.map_nil, List.append_nil, HE.ren, SO.ren, SV.rens, SV.ren]
        rw [set_get (g := q), set_get (g := g)]
        · rw [List.getElem?_set, if_neg hne]; exact hk2
        · rw [List.getElem?_set, if_neg hnq]; exact getH_some.1 hq
      rw [e1] at this
      exact this
    · simp at hs
  · simp at hs

def ctAs : Nat → Option Hx.Spec
  | 80 => some (asS)
  | _ => none
theorem ctAs_ok : ∀ f s args H ob V L, ctAs f = some s → s args H = some (ob, V, L) → AllP ob → Gives Tryz.prog f args H (Is V L) := by
  intro f s args H ob V L h hs ho
  unfold ctAs at h
  split at h
  · simp at h; subst h; exact asS_ok hs ho
  · simp at h
noncomputable def XAs : Tabs := tabs tr ft xt (fun _ => none) ctAs 0
theorem hXAs : TOk Tryz.prog (XAs) := ⟨hTE, hFT, ctAs_ok, hXT, fun t ks h => by simp [XAs, tabs] at h, mixed⟩
theorem top_nil : Gives Tryz.prog 18 [.niliface] [] (Is (.int .i64 0) []) := by
  refine gives_x hXAs (fn := Tryz.f18) rfl rfl rfl rfl fun ρ w => ?_
  refine sx hXAs [] 400 rfl (by simp [conjP]) ?_
  exact ss_end hXAs [] rfl rfl trivial rfl rfl rfl rfl (by repeat' (first | exact rfl | exact trivial | exact sim_refl _ | refine And.intro ?_ ?_)) (by repeat' (first | exact rfl | exact trivial | exact sim_refl _ | refine And.intro ?_ ?_)) (by repeat' (first | exact rfl | exact trivial | exact sim_refl _ | refine And.intro ?_ ?_)) (by repeat' (first | exact rfl | exact trivial | exact sim_refl _ | refine And.intro ?_ ?_))
theorem top_code (n : Int) : Gives Tryz.prog 18 [.iface 35 (.int .i64 n)] [pinE RTV] (Is (.int .i64 n) [pinE RTV]) := by
  refine gives_x hXAs (fn := Tryz.f18) rfl rfl rfl rfl fun ρ w => ?_
  refine sx hXAs [] 400 rfl (by simp [conjP]) ?_
  exact ss_end hXAs [0] rfl rfl trivial rfl rfl rfl rfl (by repeat' (first | exact rfl | exact trivial | exact sim_refl _ | refine And.intro ?_ ?_)) (by repeat' (first | exact rfl | exact trivial | exact sim_refl _ | refine And.intro ?_ ?_)) (by repeat' (first | exact rfl | exact trivial | exact sim_refl _ | refine And.intro ?_ ?_)) (by repeat' (first | exact rfl | exact trivial | exact sim_refl _ | refine And.intro ?_ ?_))

theorem top_at (n wd : Int) : Gives Tryz.prog 18 [.iface 221 (.ptr 0 0)] [.obj (.cells [.iface 35 (.int .i64 n), .int .i64 wd] 223), pinE RTV] (Is (.int .i64 n) [.obj (.cells [.iface 35 (.int .i64 n), .int .i64 wd] 223), pinE RTV]) := by
  refine gives_x hXAs (fn := Tryz.f18) rfl rfl rfl rfl fun ρ w => ?_
  refine sx hXAs [] 400 rfl (by simp [conjP]) ?_
  exact ss_end hXAs [0, 1] rfl rfl trivial rfl rfl rfl rfl (by repeat' (first | exact rfl | exact trivial | exact sim_refl _ | refine And.intro ?_ ?_)) (by repeat' (first | exact rfl | exact trivial | exact sim_refl _ | refine And.intro ?_ ?_)) (by repeat' (first | exact rfl | exact trivial | exact sim_refl _ | refine And.intro ?_ ?_)) (by repeat' (first | exact rfl | exact trivial | exact sim_refl _ | refine And.intro ?_ ?_))


/-- cause.Top: the contract. -/
def topS : Hx.Spec := fun args H => match args with
  | [.niliface] => some ([], .int .i64 0, H)
  | [.iface 35 (.int .i64 n)] => match findP 0 H with
    | some (_, v) => some ([v = RTV], .int .i64 n, H)
    | none => none
  | [.iface 221 (.ptr g 0)] => match getH H g, findP 0 H with
    | some (.cells [.iface 35 (.int .i64 n), .int .i64 _] 223), some (_, v) => some ([v = RTV], .int .i64 n, H)
    | _, _ => none
  | _ => none
theorem topS_ok {args : List SV} {H : List HE} {ob : List Prop} {V : SV} {L : List HE} (hs : topS args H = some (ob, V, L)) (ho : AllP ob) : Gives Tryz.prog 18 args H (Is V L) := by
  unfold topS at hs
  split at hs
  · simp only [Option.some.injEq, Prod.mk.injEq] at hs
    obtain ⟨rfl, rfl, rfl⟩ := hs
    have := frame0 (H := H) ⟨_, hTE⟩ top_nil rfl rfl
    simpa [SV.ren] using this
  · rename_i _ n
    split at hs
    · rename_i _ g v hp
      simp only [Option.some.injEq, Prod.mk.injEq] at hs
      obtain ⟨rfl, rfl, rfl⟩ := hs
      have hv := ho _ (List.mem_cons_self ..)
      obtain ⟨k, hk, hk2⟩ := findP_get hp
      have hk' : g = k := by omega
      subst hk'
      rw [hv] at hk2
      have := frame1 (H := H) (h0 := g) (N := []) ⟨_, hTE⟩ (top_code n) rfl rfl rfl (getH_some.2 hk2) rfl
      simp only [List.map_nil, List.append_nil, SO.ren] at this
      rw [set_get hk2] at this
      exact this
    · simp at hs
  · rename_i _ q
    split at hs
    · rename_i _ _ n wd g v hq hp
      simp only [Option.some.injEq, Prod.mk.injEq] at hs
      obtain ⟨rfl, rfl, rfl⟩ := hs
      have hv := ho _ (List.mem_cons_self ..)
      obtain ⟨k, hk, hk2⟩ := findP_get hp
      have hk' : g = k := by omega
      subst hk'
      rw [hv] at hk2
      have hqg : q ≠ g := by
        rintro rfl
        rw [getH_some.1 hq] at hk2
        simp at hk2
      have hnd : nodupN [q, g] = true := by
        have hb : Nat.beq q g = false := by
          cases hb : Nat.beq q g with
          | false => rfl
          | true => exact absurd (Nat.eq_of_beq_eq_true hb) hqg
        simp [nodupN, memN, hb]
      have : Gives Tryz.prog 18 [.iface 221 (.ptr q 0)] H (Is (.int .i64 n) ((H.set q (.obj (.cells [.iface 35 (.int .i64 n), .int .i64 wd] 223))).set g (pinE RTV))) := frame2n (H := H) (h0 := q) (h1 := g) ⟨_, hTE⟩ (top_at n wd) rfl rfl rfl hnd hq (getH_some.2 hk2) rfl rfl rfl
      rw [set_get (g := q) (getH_some.1 hq), set_get hk2] at this
      exact this
    · simp at hs
  · simp at hs
end Go.Proofs.YtkkddjchkkaagaaGreatDoor
