/- The heap machine, part 4: values over handles, and how a program of this language goes over them; for every program. -/
import Derived.Test.YtmghcelohnlceaaGreatDoorHyc
/-
  A walk in whatever frame, beside blocks that are kept (a loop's record, its deferred calls): states, and their steps.
-/
namespace Go.Hx
open Go

/-- What is left to do, in the fenced layer. -/
def WKi (rd : Option Nat) (P : Program) (Q : Exit → Act → World → Prop) : List KI → Exit → Act → World → Prop
  | [] => Q
  | .code c :: k => fun e a w => match e with
    | .normal => c.wpIn (Fw rd) 0 P (WKi rd P Q k) a w
    | e => WKi rd P Q k e a w
  | .blk id :: k => fun e a w => match e with
    | .exit i => if i = id then WKi rd P Q k .normal a w else WKi rd P Q k (.exit i) a w
    | e => WKi rd P Q k e a w
  | .lp I :: k => fun e a w => match e with
    | .normal => I a w
    | e => WKi rd P Q k e a w
  | .ops all rest :: k => fun e a w => match e with
    | .normal => wpListIn (Fw rd) 0 P all.toArray (WKi rd P Q k) rest a w
    | e => WKi rd P Q k e a w
  | .again _ _ :: k => WKi rd P Q k
/-- Blocks that are kept: what they are, and that nothing that is named lies there. -/
def Kept (K : List (Nat × Obj)) (ρ : Nat → Nat × Nat) (H : List HE) (W : World) : Prop :=
  ∀ p ∈ K, W.heap[p.1]? = some p.2 ∧ ∀ (h : Nat) (o : SO), H[h]? = some (.obj o) → (ρ h).1 ≠ p.1
/-- What is new is owned. -/
def newOwn : List HE → List HE → Bool
  | _, [] => true
  | [], .obj o :: r => match o.owned with
    | true => newOwn [] r
    | false => false
  | [], _ :: r => newOwn [] r
  | .obj _ :: H, _ :: r => newOwn H r
  | _ :: H, .obj o :: r => match o.owned with
    | true => newOwn H r
    | false => false
  | _ :: H, _ :: r => newOwn H r
theorem newOwn_get : ∀ {H H1 : List HE}, newOwn H H1 = true → ∀ {h : Nat} {o : SO}, H1[h]? = some (.obj o) → o.owned = true ∨ ∃ o', H[h]? = some (.obj o')
  | _, [], _, h, o, e => by simp at e
  | [], x :: r, hn, h, o, e => by
    cases h with
    | zero =>
      simp only [List.getElem?_cons_zero, Option.some.injEq] at e
      subst e
      simp only [newOwn] at hn
      split at hn
      · rename_i q; exact .inl q
      · simp at hn
    | succ h =>
      simp only [List.getElem?_cons_succ] at e
      have hn' : newOwn [] r = true := by
        cases x with
        | obj o2 =>
          simp only [newOwn] at hn
          split at hn
          · exact hn
          · simp at hn
        | _ => exact hn
      rcases newOwn_get hn' e with q | ⟨o', q⟩
      · exact .inl q
      · simp at q
  | y :: H, x :: r, hn, h, o, e => by
    cases h with
    | zero =>
      simp only [List.getElem?_cons_zero, Option.some.injEq] at e
      subst e
      cases y with
      | obj o2 => exact .inr ⟨o2, rfl⟩
      | _ =>
        simp only [newOwn] at hn
        split at hn
        · rename_i q; exact .inl q
        · simp at hn
    | succ h =>
      simp only [List.getElem?_cons_succ] at e
      have hn' : newOwn H r = true := by
        cases y with
        | obj o2 => cases x <;> exact hn
        | _ =>
          cases x with
          | obj o2 =>
            simp only [newOwn] at hn
            split at hn
            · exact hn
            · simp at hn
          | _ => exact hn
      exact newOwn_get hn' e
theorem HSat.rebase {w0 W : World} {bs : Nat → Prop} {ρ : Nat → Nat × Nat} {H : List HE} (h : HSat w0 bs ρ H W) : HSat W (Own ρ H) ρ H W :=
  ⟨h.objs, h.size, h.inj, fun x o hx ho => .inl ⟨x, o, hx, ho, rfl⟩, Fr.refl _ _⟩
theorem HSat.comp {w0 W W' : World} {bs : Nat → Prop} {ρ ρ' : Nat → Nat × Nat} {H H1 : List HE} (h : HSat w0 bs ρ H W) (h2 : HSat W (Own ρ H) ρ' H1 W') : HSat w0 bs ρ' H1 W' := by
  refine ⟨h2.objs, h2.size, h2.inj, fun x o hx ho => ?_, ⟨Nat.le_trans h.fr.size h2.fr.size, fun b hb hn => ?_, ?_⟩⟩
  · rcases h2.own x o hx ho with ⟨y, oy, hy, hoy, e⟩ | q
    · rw [← e]; exact h.own y oy hy hoy
    · exact .inr (Nat.le_trans h.fr.size q)
  · rw [h2.fr.same b (Nat.lt_of_lt_of_le hb h.fr.size) ?_, h.fr.same b hb hn]
    rintro ⟨y, oy, hy, hoy, e⟩
    rcases h.own y oy hy hoy with q | q
    · exact hn (by rw [← e]; exact q)
    · rw [e] at q; omega
  · obtain ⟨a1, a2, a3⟩ := h.fr.io
    obtain ⟨b1, b2, b3⟩ := h2.fr.io
    exact ⟨b1.trans a1, b2.trans a2, b3.trans a3⟩
theorem Kept.next {K : List (Nat × Obj)} {W W' : World} {ρ ρ' : Nat → Nat × Nat} {H H1 : List HE} (h : Kept K ρ H W) (h2 : HSat W (Own ρ H) ρ' H1 W') (hb : ∀ x, there H x = true → ρ' x = ρ x ∧ there H1 x = true) (hn : newOwn H H1 = true) : Kept K ρ' H1 W' := by
  intro p hp
  obtain ⟨k1, k2⟩ := h p hp
  have hlt : p.1 < W.heap.size := (Array.getElem?_eq_some_iff.1 k1).1
  have hno : ¬ Own ρ H p.1 := fun ⟨y, oy, hy, _, e⟩ => k2 y oy hy e
  refine ⟨by rw [h2.fr.same _ hlt hno]; exact k1, fun x o hx e => ?_⟩
  rcases newOwn_get hn hx with q | ⟨o', q⟩
  · rcases h2.own x o hx q with q2 | q2
    · rw [e] at q2; exact hno q2
    · rw [e] at q2; omega
  · rw [(hb x (there_of_obj q)).1] at e
    exact k2 x o' q e

section
variable {P : Program} {X : Tabs} (hX : TOk P X)
/-- A state: whatever is as it is told goes on to what is wanted. -/
def SI (rd : Option Nat) (D : List Deferred) (Q : Exit → Act → World → Prop) (w0 : World) (bs : Nat → Prop) (H0 : List HE) (ρ0 : Nat → Nat × Nat) (nt : Nat) (K : List (Nat × Obj)) (k : List KI) (T : List (Nat × SV)) (H : List HE) : Prop :=
  ∀ ρ a W, HSat w0 bs ρ H W → TSat ρ (there H) nt T a → (∀ h, there H0 h = true → ρ h = ρ0 h ∧ there H h = true) → Kept K ρ H W → WKi rd P Q k .normal (lift D a) W
variable {rd : Option Nat} {D : List Deferred} {Q : Exit → Act → World → Prop} {w0 : World} {bs : Nat → Prop} {H0 : List HE} {ρ0 : Nat → Nat × Nat} {fn : Func} {nt : Nat} {K : List (Nat × Obj)} {k k' : List KI} {T T1 : List (Nat × SV)} {H H1 : List HE}
theorem WKi_unwind {id : Nat} {a : Act} {w : World} : ∀ {k k' : List KI}, unwind id k = some k' → WKi rd P Q k' .normal a w → WKi rd P Q k (.exit id) a w
  | [], _, h, _ => by simp [unwind] at h
  | .blk i :: k, k', h, hw => by
    simp only [unwind] at h
    split at h
    · rename_i hb
      simp at h; subst h
      have := Nat.eq_of_beq_eq_true hb
      simp only [WKi]
      rw [if_pos this.symm]; exact hw
    · rename_i hb
      simp only [WKi]
      have : ¬ id = i := by intro e; subst e; simp at hb
      rw [if_neg this]
      exact WKi_unwind h hw
  | .code _ :: k, k', h, hw => WKi_unwind (k := k) h hw
  | .ops _ _ :: k, k', h, hw => WKi_unwind (k := k) h hw
  | .lp _ :: k, k', h, hw => WKi_unwind (k := k) h hw
  | .again _ _ :: k, k', h, hw => WKi_unwind (k := k) h hw
theorem si_seq {x y : Code} (h : (SI (P := P) rd D Q w0 bs H0 ρ0 nt K) (.code x :: .code y :: k) T H) : (SI (P := P) rd D Q w0 bs H0 ρ0 nt K) (.code (.seq x y) :: k) T H := fun ρ a W h1 h2 h3 h4 => by
  have hh := h ρ a W h1 h2 h3 h4
  simp only [WKi] at *
  refine wpIn_seq (wpIn_mono hh fun e a w hq => ?_)
  cases e <;> exact hq
theorem si_block {x : Code} {id : Nat} (h : (SI (P := P) rd D Q w0 bs H0 ρ0 nt K) (.code x :: .blk id :: k) T H) : (SI (P := P) rd D Q w0 bs H0 ρ0 nt K) (.code (.block id x) :: k) T H := fun ρ a W h1 h2 h3 h4 => by
  have hh := h ρ a W h1 h2 h3 h4
  simp only [WKi] at *
  refine wpIn_block (wpIn_mono hh fun e a w hq => ?_)
  cases e <;> exact hq
theorem si_skip (h : (SI (P := P) rd D Q w0 bs H0 ρ0 nt K) k T H) : (SI (P := P) rd D Q w0 bs H0 ρ0 nt K) (.code .skip :: k) T H := fun ρ a W h1 h2 h3 h4 => by
  simp only [WKi]; exact wpIn_skip (h ρ a W h1 h2 h3 h4)
theorem si_blk {id : Nat} (h : (SI (P := P) rd D Q w0 bs H0 ρ0 nt K) k T H) : (SI (P := P) rd D Q w0 bs H0 ρ0 nt K) (.blk id :: k) T H := fun ρ a W h1 h2 h3 h4 => by
  simp only [WKi]; exact h ρ a W h1 h2 h3 h4
theorem si_exit {id : Nat} (hu : unwind id k = some k') (h : (SI (P := P) rd D Q w0 bs H0 ρ0 nt K) k' T H) : (SI (P := P) rd D Q w0 bs H0 ρ0 nt K) (.code (.exit id) :: k) T H := fun ρ a W h1 h2 h3 h4 => by
  simp only [WKi]; exact wpIn_exit (WKi_unwind hu (h ρ a W h1 h2 h3 h4))
theorem look_eval {ρ : Nat → Nat × Nat} {a : Act} {A : Nat → Bool} {t : Nat} {v : SV} (hs : TSat ρ A nt T a) (hl : look T t = some v) : (lift D a).eval (.tmp t) = v.tr ρ := by
  have := (hs.val t v hl).1
  rw [lift_eval]
  simp [Act.eval, Array.getD_eq_getD_getElem?, this]
theorem si_tt {t : Nat} {x y : Code} (hl : look T t = some .tt) (h : (SI (P := P) rd D Q w0 bs H0 ρ0 nt K) (.code x :: k) T H) : (SI (P := P) rd D Q w0 bs H0 ρ0 nt K) (.code (.cond (.tmp t) x y) :: k) T H := fun ρ a W h1 h2 h3 h4 => by
  have hh := h ρ a W h1 h2 h3 h4
  simp only [WKi] at *
  exact wpIn_cond_true (by rw [look_eval h2 hl]; rfl) hh
theorem si_ff {t : Nat} {x y : Code} (hl : look T t = some .ff) (h : (SI (P := P) rd D Q w0 bs H0 ρ0 nt K) (.code y :: k) T H) : (SI (P := P) rd D Q w0 bs H0 ρ0 nt K) (.code (.cond (.tmp t) x y) :: k) T H := fun ρ a W h1 h2 h3 h4 => by
  have hh := h ρ a W h1 h2 h3 h4
  simp only [WKi] at *
  exact wpIn_cond_false (by rw [look_eval h2 hl]; rfl) hh
theorem si_at (h : ∀ ρ a W, HSat w0 bs ρ H W → TSat ρ (there H) nt T a → (∀ h, there H0 h = true → ρ h = ρ0 h ∧ there H h = true) → Kept K ρ H W → WKi rd P Q k .normal (lift D a) W) : (SI (P := P) rd D Q w0 bs H0 ρ0 nt K) k T H := h
/-- Behind a region. -/
theorem si_next {ρ ρ' : Nat → Nat × Nat} {a' : Act} {W W' : World} (h : (SI (P := P) rd D Q w0 bs H0 ρ0 nt K) k T1 H1) (hno : newOwn H H1 = true) (h1 : HSat w0 bs ρ H W) (h3 : ∀ h, there H0 h = true → ρ h = ρ0 h ∧ there H h = true) (h4 : Kept K ρ H W)
    (hs : Sat (FEnv P X.TE hX.te fn nt H Not2 ρ W) ρ' T1 H1 a' W') : WKi rd P Q k .normal (lift D a') W' := by
  have hb : ∀ x, there H x = true → ρ' x = ρ x ∧ there H1 x = true := hs.base
  exact h ρ' a' W' (h1.comp hs.hs) hs.ts (fun x hx => ⟨(hb x (h3 x hx).2).1.trans (h3 x hx).1, (hb x (h3 x hx).2).2⟩) (h4.next hs.hs hb hno)
theorem si_region {id : Nat} {ops : Array Oper} (hn : regNd ops.toList = true) (hno : newOwn H H1 = true)
    (h : ∀ ρ W (J : Act → World → Prop), (∀ cs T' H', Sub (FEnv P X.TE hX.te fn nt H Not2 ρ W) T' H' T1 H1 → SS hX (At ρ W) Not2 ⟨cs, [], fn, nt, H, [.lp J], T', H'⟩) → SS hX (At ρ W) Not2 ⟨[], [], fn, nt, H, [.ops ops.toList ops.toList, .lp J], T, H⟩)
    (hk : (SI (P := P) rd D Q w0 bs H0 ρ0 nt K) k T1 H1) : (SI (P := P) rd D Q w0 bs H0 ρ0 nt K) (.code (.region id ops false) :: k) T H := fun ρ a W h1 h2 h3 h4 => by
  simp only [WKi]
  exact region_in hX hn ⟨h1.rebase, h2, fun x hx => ⟨rfl, hx⟩⟩ (h ρ W) fun ρ' a' w' hs' => si_next hX hk hno h1 h3 h4 hs'
include hX in
theorem si_any (fn : Func) {id : Nat} {ops : Array Oper} (m : Nat) (cs : List Ch) {cs' : List Ch} {ob : List Prop} (hn : regNd ops.toList = true) (hno : newOwn H H1 = true)
    (h : drawX X (fun s => runX X [] m s []) cs ops.toList nt T H = some (cs', ob, T1, H1)) (ho : conjP ob)
    (hk : (SI (P := P) rd D Q w0 bs H0 ρ0 nt K) k T1 H1) : (SI (P := P) rd D Q w0 bs H0 ρ0 nt K) (.code (.region id ops true) :: k) T H := fun ρ a W h1 h2 h3 h4 => by
  simp only [WKi]
  exact region_any_in hX (fn := fn) m cs hn ⟨h1.rebase, h2, fun x hx => ⟨rfl, hx⟩⟩ h ho fun ρ' a' w' hs' => si_next hX hk hno h1 h3 h4 hs'
end
end Go.Hx

/-
  A range over a function: the statement, a round, a call of yield.
-/
namespace Go.Hx
open Go

section
variable {P : Program} {rd : Option Nat} {D : List Deferred} {Q : Exit → Act → World → Prop} {w0 : World} {bs : Nat → Prop} {H0 : List HE} {ρ0 : Nat → Nat × Nat} {nt : Nat} {K : List (Nat × Obj)} {k k' : List KI} {T T1 : List (Nat × SV)} {H H1 : List HE}
structure SatK (w0 : World) (bs : Nat → Prop) (H0 : List HE) (ρ0 : Nat → Nat × Nat) (nt : Nat) (K : List (Nat × Obj)) (ρ : Nat → Nat × Nat) (T : List (Nat × SV)) (H : List HE) (a : Act) (W : World) : Prop where
  hs : HSat w0 bs ρ H W
  ts : TSat ρ (there H) nt T a
  base : ∀ h, there H0 h = true → ρ h = ρ0 h ∧ there H h = true
  kept : Kept K ρ H W
theorem SI.at (h : (SI (P := P) rd D Q w0 bs H0 ρ0 nt K) k T H) {ρ : Nat → Nat × Nat} {a : Act} {W : World} (hs : SatK w0 bs H0 ρ0 nt K ρ T H a W) : WKi rd P Q k .normal (lift D a) W := h ρ a W hs.hs hs.ts hs.base hs.kept
theorem SI.of (h : ∀ ρ a W, SatK w0 bs H0 ρ0 nt K ρ T H a W → WKi rd P Q k .normal (lift D a) W) : (SI (P := P) rd D Q w0 bs H0 ρ0 nt K) k T H := fun ρ a W h1 h2 h3 h4 => h ρ a W ⟨h1, h2, h3, h4⟩
theorem WKi_ret {a : Act} {w : World} (h : Q .ret a w) : ∀ k : List KI, WKi rd P Q k .ret a w
  | [] => h
  | .code _ :: k => WKi_ret h k
  | .blk _ :: k => WKi_ret h k
  | .ops _ _ :: k => WKi_ret h k
  | .lp _ :: k => WKi_ret h k
  | .again _ _ :: k => WKi_ret h k
theorem si_ret (h : ∀ ρ a W, SatK w0 bs H0 ρ0 nt K ρ T H a W → Q .ret (lift D a) W) : (SI (P := P) rd D Q w0 bs H0 ρ0 nt K) (.code .ret :: k) T H := SI.of fun ρ a W hs => by
  simp only [WKi]; exact wpIn_ret (WKi_ret (h ρ a W hs) k)
/-- Less is known. -/
theorem si_sub (σ : (Nat → Nat × Nat) → Nat → Nat × Nat) (hsub : ∀ ρ a W, SatK w0 bs H0 ρ0 nt K ρ T H a W → SatK w0 bs H0 ρ0 nt K (σ ρ) T1 H1 a W) (h : (SI (P := P) rd D Q w0 bs H0 ρ0 nt K) k T1 H1) : (SI (P := P) rd D Q w0 bs H0 ρ0 nt K) k T H := SI.of fun ρ a W hs => h.at (hsub ρ a W hs)
theorem si_loop {body : Code} {α : Type} (Tf : α → List (Nat × SV)) (Hf : α → List HE) (Inv : α → Prop) (μ : α → Nat) (x0 : α) (h0 : Inv x0)
    (round : ∀ x, Inv x → ∀ I : Act → World → Prop, (∀ x', Inv x' → μ x' < μ x → (SI (P := P) rd D Q w0 bs H0 ρ0 nt K) (.lp I :: k) (Tf x') (Hf x')) → (SI (P := P) rd D Q w0 bs H0 ρ0 nt K) (.code body :: .lp I :: k) (Tf x) (Hf x)) :
    (SI (P := P) rd D Q w0 bs H0 ρ0 nt K) (.code (.loop body) :: k) (Tf x0) (Hf x0) := SI.of fun ρ a W hs => by
  classical
  let I : Act → World → Prop := fun a' w => ∃ x, Inv x ∧ ∃ ρ a, a' = lift D a ∧ SatK w0 bs H0 ρ0 nt K ρ (Tf x) (Hf x) a w
  let M : Act → World → Nat → Prop := fun a' w n => ∃ x, μ x = n ∧ Inv x ∧ ∃ ρ a, a' = lift D a ∧ SatK w0 bs H0 ρ0 nt K ρ (Tf x) (Hf x) a w
  have least : ∀ a w, I a w → ∃ n, M a w n ∧ ∀ m, M a w m → n ≤ m := by
    intro a w ⟨x, hx, hsx⟩
    have : ∀ n, ∀ x, μ x = n → Inv x → (∃ ρ a0, a = lift D a0 ∧ SatK w0 bs H0 ρ0 nt K ρ (Tf x) (Hf x) a0 w) → ∃ n, M a w n ∧ ∀ m, M a w m → n ≤ m := by
      intro n
      induction n using Nat.strongRecOn with
      | _ n ih =>
        intro x hn hx hsx
        by_cases hex : ∃ m, m < n ∧ M a w m
        · obtain ⟨m, hm, y, hy1, hy2, hy3⟩ := hex
          exact ih m hm y hy1 hy2 hy3
        · exact ⟨n, ⟨x, hn, hx, hsx⟩, fun m hm => by
            rcases Nat.lt_or_ge m n with h | h
            · exact absurd ⟨m, h, hm⟩ hex
            · exact h⟩
    exact this _ x rfl hx hsx
  let mu : Act → World → Nat := fun a w => if h : ∃ n, M a w n ∧ ∀ m, M a w m → n ≤ m then h.choose else 0
  have hmu : ∀ a w, I a w → M a w (mu a w) ∧ ∀ m, M a w m → mu a w ≤ m := by
    intro a w hI
    have h := least a w hI
    simp only [mu, dif_pos h]
    exact h.choose_spec
  simp only [WKi]
  refine wpIn_loop I mu ⟨x0, h0, ρ, a, rfl, hs⟩ ?_
  intro a1 w1 hI
  obtain ⟨⟨x, hx1, hx2, ρ1, a2, rfl, hx3⟩, _⟩ := hmu a1 w1 hI
  have := (round x hx2 (fun a' w => ∃ x', Inv x' ∧ μ x' < μ x ∧ ∃ ρ a, a' = lift D a ∧ SatK w0 bs H0 ρ0 nt K ρ (Tf x') (Hf x') a w) fun x' h1 h2 => SI.of fun ρ' a' W' hs' => by
    simp only [WKi]; exact ⟨x', h1, h2, ρ', a', rfl, hs'⟩).at hx3
  simp only [WKi] at this
  refine wpIn_mono this fun e a' w' hq => ?_
  cases e with
  | normal =>
    obtain ⟨x', h1, h2, h3⟩ := hq
    have hI' : I a' w' := ⟨x', h1, h3⟩
    refine ⟨hI', ?_⟩
    have := (hmu a' w' hI').2 (μ x') ⟨x', rfl, h1, h3⟩
    omega
  | _ => exact hq
/-- Blocks that are kept lie as they lay. -/
theorem HSat.putKept {W : World} {ρ : Nat → Nat × Nat} {l : Nat} {o : Obj} (h : HSat w0 bs ρ H W) (hl : w0.heap.size ≤ l ∨ bs l) (hn : ∀ (x : Nat) (ox : SO), H[x]? = some (.obj ox) → (ρ x).1 ≠ l) : HSat w0 bs ρ H (W.putObj l o) := by
  refine ⟨fun x ox hx => ?_, fun x hx => by rw [World.putObj_size]; exact h.size x hx, h.inj, h.own, ⟨by rw [World.putObj_size]; exact h.fr.size, fun b hb hnb => ?_, h.fr.io⟩⟩
  · obtain ⟨h1, h2⟩ := h.objs x ox hx
    exact ⟨ox.holds_world (World.putObj_heap_other (hn x ox hx)) h1, h2⟩
  · rw [World.putObj_heap_other (by rintro rfl; rcases hl with q | q; omega; exact hnb q)]
    exact h.fr.same b hb hnb
theorem lift_nil {a : Act} : lift [] a = a := by simp [lift]
/-! Operations, one part after the other. -/
theorem wl_append {F : Fence} {n : Nat} {ops : Array Oper} {Q' : Exit → Act → World → Prop} : ∀ {l1 l2 : List Oper} {a : Act} {w : World}, wpListIn F n P ops (fun e a w => e = .normal ∧ wpListIn F n P ops Q' l2 a w) l1 a w → wpListIn F n P ops Q' (l1 ++ l2) a w
  | [], _, _, _, h => h.2
  | o :: r, l2, a, w, h => by
    unfold wpListIn at h
    rw [List.cons_append]
    unfold wpListIn
    split
    · rename_i hw
      rw [if_pos hw] at h
      obtain ⟨h1, h2⟩ := h
      refine ⟨h1, ?_⟩
      generalize (o.semAt F.round a.eval).run P w = res at h2 ⊢
      unfold Oper.uponIn at h2 ⊢
      split at h2
      · exact wl_append h2
      · exact wl_append h2
      · exact wl_append h2
      · refine ⟨h2.1, CallsIn.mono h2.2 fun e w' he => ?_⟩
        cases e with
        | returned v => exact wl_append he
        | panicked c => exact absurd he.1 (by simp)
        | outgrown => obtain ⟨a, w, hq, _⟩ := he; simp at hq
      · exact ⟨h2.1, h2.2.mono fun v w' he => wl_append he⟩
      · refine ⟨h2.1, h2.2.mono fun e w' he => ?_⟩
        cases e with
        | returned v => exact wl_append he
        | panicked c => exact absurd he.1 (by simp)
        | outgrown => obtain ⟨a, w, hq, _⟩ := he; simp at hq
      · exact absurd h2.1 (by simp)
      · exact h2.elim
    · rename_i hw
      rw [if_neg hw] at h
      exact ⟨h.1, wl_append h.2⟩
theorem si_ops {id : Nat} {ops : Array Oper} (h : (SI (P := P) rd D Q w0 bs H0 ρ0 nt K) (.ops ops.toList ops.toList :: k) T H) : (SI (P := P) rd D Q w0 bs H0 ρ0 nt K) (.code (.region id ops false) :: k) T H := SI.of fun ρ a W hs => by
  have := h.at hs
  simp only [WKi] at this ⊢
  rw [Array.toArray_toList] at this
  exact wpIn_region_list this
theorem si_ops_nil {all : List Oper} (h : (SI (P := P) rd D Q w0 bs H0 ρ0 nt K) k T H) : (SI (P := P) rd D Q w0 bs H0 ρ0 nt K) (.ops all [] :: k) T H := SI.of fun ρ a W hs => by
  have := h.at hs
  simp only [WKi]
  exact this
/-- What begins a round, behind the assignments. -/
def beginJ (P : Program) (l : Nat) (body : Code) (R : Ending → World → Prop) : Act → World → Prop := fun a₁ w₁ => ∃ w₂, (Instr.beginRound l).run P w₁ = .ok () w₂ ∧ body.wpIn (Fw (some l)) 0 P (roundPost P l R) a₁ w₂
theorem round_in {l f : Nat} {tm : Array Value} {assign body : Code} {R : Ending → World → Prop} {W : World} {ρ : Nat → Nat × Nat}
    (h : SI (P := P) (some l) [] (fun _ _ _ => False) w0 bs H0 ρ0 nt K [.code assign, .lp (beginJ P l body R)] T H) (hs : SatK w0 bs H0 ρ0 nt K ρ T H { tmps := tm, defers := [] } W) : RoundIn Fence.wide 0 P l f tm assign body W R := by
  refine roundIn_of_wpIn trivial ?_
  have := h.at hs
  rw [lift_nil] at this
  simp only [WKi] at this
  refine wpIn_mono (show assign.wpIn (Fw (some l)) 0 P _ _ _ from this) fun e a w hq => ?_
  cases e with
  | normal => exact hq
  | _ => exact hq
theorem si_begin {l : Nat} {r : Loop} {body : Code} {R : Ending → World → Prop} (hl : w0.heap.size ≤ l ∨ bs l) (hr : r.state = .ready) (hK : ∀ p ∈ K, p.1 ≠ l)
    (h : SI (P := P) (some l) [] (roundPost P l R) w0 bs H0 ρ0 nt ((l, .loop { r with state := .busy }) :: K) [.code body] T H) :
    SI (P := P) (some l) [] (fun _ _ _ => False) w0 bs H0 ρ0 nt ((l, .loop r) :: K) [.lp (beginJ P l body R)] T H := SI.of fun ρ a W hs => by
  obtain ⟨k1, k2⟩ := hs.kept (l, .loop r) (List.mem_cons_self ..)
  have hlt : l < W.heap.size := (Array.getElem?_eq_some_iff.1 k1).1
  simp only [WKi]
  refine ⟨_, run_beginRound k1 hr, ?_⟩
  have := h.at (ρ := ρ) (a := a) (W := W.putObj l (.loop { r with state := .busy })) ⟨hs.hs.putKept hl k2, hs.ts, hs.base, fun p hp => ?_⟩
  · simp only [WKi] at this
    exact this
  · simp only [List.mem_cons] at hp
    rcases hp with rfl | hp
    · exact ⟨World.putObj_heap_same hlt, k2⟩
    · obtain ⟨q1, q2⟩ := hs.kept p (List.mem_cons_of_mem _ hp)
      exact ⟨by rw [World.putObj_heap_other (hK p hp)]; exact q1, q2⟩
theorem si_round_end {l : Nat} {r : Loop} {R : Ending → World → Prop} (h : ∀ ρ a W, SatK w0 bs H0 ρ0 nt ((l, .loop r) :: K) ρ T H a W → R (.returned (.bool true)) (W.putObj l (.loop { r with state := .ready, pending := none }))) :
    SI (P := P) (some l) [] (roundPost P l R) w0 bs H0 ρ0 nt ((l, .loop r) :: K) [] T H := SI.of fun ρ a W hs => by
  obtain ⟨k1, k2⟩ := hs.kept (l, .loop r) (List.mem_cons_self ..)
  exact ⟨_, _, run_endRound none k1, h ρ a W hs⟩
/-- An exit that nothing in a round catches. -/
def noBlk (id : Nat) : List KI → Bool
  | [] => true
  | .blk i :: k => match Nat.beq i id with
    | true => false
    | false => noBlk id k
  | _ :: k => noBlk id k
theorem WKi_out {id : Nat} {a : Act} {w : World} (h : Q (.exit id) a w) : ∀ {k : List KI}, noBlk id k = true → WKi rd P Q k (.exit id) a w
  | [], _ => h
  | .blk i :: k, hn => by
    simp only [noBlk] at hn
    split at hn
    · simp at hn
    · rename_i hb
      simp only [WKi]
      have : ¬ id = i := by intro e; subst e; simp at hb
      rw [if_neg this]
      exact WKi_out h hn
  | .code _ :: k, hn => WKi_out (k := k) h hn
  | .ops _ _ :: k, hn => WKi_out (k := k) h hn
  | .lp _ :: k, hn => WKi_out (k := k) h hn
  | .again _ _ :: k, hn => WKi_out (k := k) h hn
theorem si_round_out {l id : Nat} {r : Loop} {R : Ending → World → Prop} (hn : noBlk id k = true) (h : ∀ ρ a W, SatK w0 bs H0 ρ0 nt ((l, .loop r) :: K) ρ T H a W → R (.returned (.bool false)) (W.putObj l (.loop { r with state := .done, pending := some (.exit id) }))) :
    SI (P := P) (some l) [] (roundPost P l R) w0 bs H0 ρ0 nt ((l, .loop r) :: K) (.code (.exit id) :: k) T H := SI.of fun ρ a W hs => by
  obtain ⟨k1, k2⟩ := hs.kept (l, .loop r) (List.mem_cons_self ..)
  simp only [WKi]
  exact wpIn_exit (WKi_out ⟨_, _, run_endRound (some (.exit id)) k1, h ρ a W hs⟩ hn)
end
end Go.Hx

/-
  A call of yield; the statement that ranges over a function.
-/
namespace Go.Hx
open Go

theorem yield_run {P : Program} {A : Nat → Bool} {nt : Nat} {T : List (Nat × SV)} {o : Oper} {c : Call} {l : Nat} {as : List SV} {r : Loop} {x : Operand} (hop : o.op = .call c) (hcal : c.callee = .value x)
    (hx : ev T x = some (.raw (.func (.yield l) #[] #[]))) (has : evs T c.args.toList = some as) (hn : as.length = r.params.size) {ρ : Nat → Nat × Nat} {a : Act} {w : World} (hs : TSat ρ A nt T a) (hl : w.heap[l]? = some (.loop r)) :
    (execOp a.eval o).run P w = .ok (.round l r.fn ((r.params.zip (SV.trs ρ as).toArray).foldl (fun tmps (t, a) => tmps.setIfInBounds t a) r.tmps) r.assign r.body) w := by
  obtain ⟨h1, h2⟩ := ev_tr hs hx
  obtain ⟨h3, h4⟩ := evs_tr hs has
  have hmap : c.args.map a.eval = (SV.trs ρ as).toArray := by rw [toArr_map, h3]
  have hy := run_yield (P := P) (args := (SV.trs ρ as).toArray) hl (by simp [trs_length, hn])
  simp only [execOp, hop, Sem.run_bind]
  simp only [resolve, hcal, h1, SV.tr, Deferred.ofValue, hmap, Sem.run_pure, Result.andThen_ok, invoke]
  simpa using hy
section
variable {P : Program} {X : Tabs} (hX : TOk P X) {rd : Option Nat} {D : List Deferred} {Q : Exit → Act → World → Prop} {w0 : World} {bs : Nat → Prop} {H0 : List HE} {ρ0 : Nat → Nat × Nat} {fn : Func} {nt : Nat} {K : List (Nat × Obj)} {k k' : List KI} {T T1 : List (Nat × SV)} {H H1 : List HE}
/-- A part of a region, gone through by the machine. -/
theorem si_ops_run {all pre post : List Oper} (hn : regNd pre = true) (hno : newOwn H H1 = true)
    (h : ∀ ρ W (J : Act → World → Prop), (∀ cs T' H', Sub (FEnv P X.TE hX.te fn nt H Not2 ρ W) T' H' T1 H1 → SS hX (At ρ W) Not2 ⟨cs, [], fn, nt, H, [.lp J], T', H'⟩) → SS hX (At ρ W) Not2 ⟨[], [], fn, nt, H, [.ops all pre, .lp J], T, H⟩)
    (hk : (SI (P := P) rd D Q w0 bs H0 ρ0 nt K) (.ops all post :: k) T1 H1) : (SI (P := P) rd D Q w0 bs H0 ρ0 nt K) (.ops all (pre ++ post) :: k) T H := SI.of fun ρ a W hs => by
  simp only [WKi]
  have hs0 : Sat (FEnv P X.TE hX.te fn nt H Not2 ρ W) ρ T H a W := ⟨hs.hs.rebase, hs.ts, fun x hx => ⟨rfl, hx⟩⟩
  let J : Act → World → Prop := fun a' w' => ∃ ρ', Sat (FEnv P X.TE hX.te fn nt H Not2 ρ W) ρ' T1 H1 a' w'
  have hw := sw_ss hX (h ρ W J fun cs T H' hsub => ss_sw hX fun ρ1 a1 w1 hs1 => hsub ρ1 a1 w1 hs1) ρ a W hs0
  refine wl_append (wl_in (Qs := WK P (FEnv P X.TE hX.te fn nt H Not2 ρ W).Q [.lp J]) (fun e a w => wk_lp_normal hX e a w) (fun a' w' hJ => ?_) (regNd_mem hn) hw)
  obtain ⟨ρ', hs'⟩ := hJ
  have := si_next hX (fn := fn) hk hno hs.hs hs.base hs.kept hs'
  simp only [WKi] at this
  exact ⟨rfl, this⟩
/-- A call of yield. -/
theorem si_ops_yield {all post : List Oper} {o : Oper} {c : Call} {l : Nat} {as : List SV} {r : Loop} {x : Operand} (hop : o.op = .call c) (hcal : c.callee = .value x) (hg : guardF all T o.guard = 0)
    (hx : ev T x = some (.raw (.func (.yield l) #[] #[]))) (has : evs T c.args.toList = some as) (hn : as.length = r.params.size)
    (h : ∀ ρ a W, SatK w0 bs H0 ρ0 nt ((l, .loop r) :: K) ρ T H a W →
      RoundIn Fence.wide 0 P l r.fn ((r.params.zip (SV.trs ρ as).toArray).foldl (fun tmps (t, a) => tmps.setIfInBounds t a) r.tmps) r.assign r.body W fun e W' => match e with
        | .returned v => wpListIn (Fw rd) 0 P all.toArray (WKi rd P Q k) post (lift D (a.put o.dst v)) W'
        | _ => False) :
    SI (P := P) rd D Q w0 bs H0 ρ0 nt ((l, .loop r) :: K) (.ops all (o :: post) :: k) T H := SI.of fun ρ a W hs => by
  obtain ⟨k1, _⟩ := hs.kept (l, .loop r) (List.mem_cons_self ..)
  have hd : ∀ c, o.op ≠ .defer c := fun c e => by rw [hop] at e; cases e
  have hrun := yield_run (P := P) hop hcal hx has hn hs.ts k1
  have hw : Region.wanted o (yielded all.toArray (lift D a).tmps) = true := by
    have := guard_wanted (E := ⟨P, fun _ => TI.none, nt, Q, w0, bs, H0, ρ0, fun t => TIok.of_check (i := TI.none) (by simp [checkT, TI.none])⟩) (ρ := ρ) (T := T) (H := H) (a := a) (w := W) ⟨hs.hs, hs.ts, hs.base⟩ hg
    exact this
  simp only [WKi]
  unfold wpListIn
  rw [if_pos hw]
  refine ⟨fun _ _ => trivial, ?_⟩
  rw [Oper.semAt_eq _ _ _ hd, lift_eval, hrun, Oper.uponIn_round]
  refine ⟨fun e => by simp [Fw, Fence.wide] at e, ?_⟩
  refine RoundIn.mono (show RoundIn (Fw rd) 0 P l _ _ _ _ W _ from h ρ a W hs) fun e W' he => ?_
  cases e with
  | returned v =>
    show wpListIn (Fw rd) 0 P all.toArray (WKi rd P Q k) post ((lift D a).put o.dst v) W'
    rw [← lift_put]; exact he
  | panicked c => exact he.elim
  | outgrown => exact he.elim
/-- The mark of a loop's deferred calls. -/
def markD (b : Nat) : Deferred := { target := .collected b, args := #[] }
def recL (fid : FuncId) (tm : Array Value) (ps : Array Tmp) (assign body : Code) (b : Nat) : Loop := { state := .ready, pending := none, fn := fid, tmps := tm, params := ps, assign := assign, body := body, defers := b }
/-- The statement that ranges over a function. -/
theorem si_range {g tf : Nat} {caps : List SV} {fng : Func} {ps : Array Tmp} {assign body : Code} (hl : look T tf = some (.func (.func g) [] caps)) (hfn : P.funcs[g]? = some fng) (hb : fng.body.isSome = true) (hname : (fng.name == "runtime.NumGoroutine") = false)
    (h : ∀ ρ a W fid, SatK w0 bs H0 ρ0 nt K ρ T H a W → Calls P g (#[.func (.yield (W.heap.size + 1)) #[] #[]] ++ (SV.trs ρ caps).toArray) ((W.alloc (.deferred (some []))).alloc (.loop (recL fid a.tmps ps assign body W.heap.size))) fun e W2 => match e with
      | .returned _ => ∃ jump W3, (Instr.endLoop (W.heap.size + 1)).run P W2 = .ok jump W3 ∧ (match jump with
        | none => WKi none P Q k .normal (lift [markD W.heap.size] a) W3
        | some c => WKi none P Q (.code c :: k) .normal (lift [markD W.heap.size] a) W3)
      | _ => False) :
    SI (P := P) none [] Q w0 bs H0 ρ0 nt K (.code (.rangeFunc (.tmp tf) ps assign body) :: k) T H := SI.of fun ρ a W hs => by
  simp only [WKi]
  rw [lift_nil]
  refine wpIn_rangeFunc fun fid _ => ?_
  have hev : a.eval (.tmp tf) = .func (.func g) #[] (SV.trs ρ caps).toArray := by
    have := look_eval (D := []) hs.ts hl
    rw [lift_nil] at this
    rw [this]; rfl
  have hd0 : a.defers = [] := hs.ts.def0
  have hnone : ¬ fng.body = none := by intro e; rw [e] at hb; simp at hb
  have hn' : ¬ fng.name = "runtime.NumGoroutine" := by intro e; rw [e] at hname; simp at hname
  refine ⟨W.heap.size + 1, [markD W.heap.size], (W.alloc (.deferred (some []))).alloc (.loop (recL fid a.tmps ps assign body W.heap.size)), { target := .fn (.func g) (SV.trs ρ caps).toArray, args := #[.func (.yield (W.heap.size + 1)) #[] #[]] }, (W.alloc (.deferred (some []))).alloc (.loop (recL fid a.tmps ps assign body W.heap.size)), g, #[.func (.yield (W.heap.size + 1)) #[] #[]] ++ (SV.trs ρ caps).toArray, (W.alloc (.deferred (some []))).alloc (.loop (recL fid a.tmps ps assign body W.heap.size)), run_enterLoop_outer fid a.tmps ps assign body, ?_, fun f' _ => trivial, ?_, fun e => by simp [Fw, Fence.wide] at e, ?_⟩
  · show (Deferred.ofValue (a.eval (.tmp tf)) _).run P _ = _
    rw [hev]
    simp [Deferred.ofValue, Sem.run_pure, Act.eval]
  · simp [invoke, callFunc, Sem.run_bind, run_program, hfn, hn', hnone]
  · refine callsIn_fw.2 (Calls.mono (h ρ a W fid hs) fun e W2 he => ?_)
    cases e with
    | returned v =>
      obtain ⟨jump, W3, he1, he2⟩ := he
      refine ⟨jump, W3, he1, ?_⟩
      have e3 : ({ a with defers := [markD W.heap.size] ++ a.defers } : Act) = lift [markD W.heap.size] a := by simp [lift, hd0]
      rw [e3]
      cases jump with
      | none => exact he2
      | some c => simp only [WKi] at he2; exact he2
    | panicked c => exact he.elim
    | outgrown => exact he.elim
end
end Go.Hx

/-
  A range over a function: into the function that is ranged over, and out of it; a function with a loop's mark.
-/
namespace Go.Hx
open Go

section
variable {P : Program} {rd : Option Nat} {D : List Deferred} {Q : Exit → Act → World → Prop} {w0 : World} {bs : Nat → Prop} {H0 : List HE} {ρ0 : Nat → Nat × Nat} {nt : Nat} {K : List (Nat × Obj)} {k k' : List KI} {T T1 : List (Nat × SV)} {H H1 : List HE}
theorem argSat {ρ : Nat → Nat × Nat} {A : Nat → Bool} {args : List SV} (hok : SV.okhs A args = true) (hn : args.length ≤ nt) : TSat ρ A nt (argT 0 args) { tmps := (SV.trs ρ args).toArray ++ Array.replicate (nt - (SV.trs ρ args).toArray.size) undef, defers := [] } := by
  refine ⟨?_, ?_, rfl⟩
  · intro t v hv
    obtain ⟨_, h2⟩ := argT_get hv
    simp only [Nat.sub_zero] at h2
    refine ⟨?_, (okhs_iff args).1 hok v (List.mem_of_getElem? h2)⟩
    have hlt : t < args.length := by
      rcases Nat.lt_or_ge t args.length with h1 | h1
      · exact h1
      · rw [List.getElem?_eq_none h1] at h2; simp at h2
    rw [Array.getElem?_append_left (by simp [trs_length]; exact hlt)]
    simp [trs_eq_map, h2]
  · simp [trs_length]; omega
/-- A function is gone into, whatever is wanted of it. -/
theorem si_intro {g : Nat} {fng : Func} {c : Code} {as : List SV} {R : Ending → World → Prop} {ρ : Nat → Nat × Nat} {W : World} (hf : P.funcs[g]? = some fng) (hb : fng.body = some c) (hn : as.length ≤ fng.ntmps) (hok : SV.okhs (there H) as = true)
    (hs : HSat w0 bs ρ H W) (hbase : ∀ h, there H0 h = true → ρ h = ρ0 h ∧ there H h = true) (hk : Kept K ρ H W)
    (h : SI (P := P) none [] (bodyPostM (Fw none) 0 P fng R) w0 bs H0 ρ0 fng.ntmps K [.code c] (argT 0 as) H) : Calls P g (SV.trs ρ as).toArray W R := by
  refine callsIn_fw.1 (callsIn_of_wp_marks (F := Fw none) (n := 0) hf hb trivial ?_)
  have := h.at (ρ := ρ) (W := W) ⟨hs, argSat hok hn, hbase, hk⟩
  rw [lift_nil] at this
  simp only [WKi] at this
  refine wpIn_mono this fun e a w hq => ?_
  cases e <;> exact hq
theorem SatK.putL {ρ : Nat → Nat × Nat} {a : Act} {W : World} {l : Nat} {o o' : Obj} (hs : SatK w0 bs H0 ρ0 nt ((l, o) :: K) ρ T H a W) (hl : w0.heap.size ≤ l ∨ bs l) (hK : ∀ p ∈ K, p.1 ≠ l) : SatK w0 bs H0 ρ0 nt ((l, o') :: K) ρ T H a (W.putObj l o') := by
  obtain ⟨k1, k2⟩ := hs.kept (l, o) (List.mem_cons_self ..)
  have hlt : l < W.heap.size := (Array.getElem?_eq_some_iff.1 k1).1
  refine ⟨hs.hs.putKept hl k2, hs.ts, hs.base, fun p hp => ?_⟩
  simp only [List.mem_cons] at hp
  rcases hp with rfl | hp
  · exact ⟨World.putObj_heap_same hlt, k2⟩
  · obtain ⟨q1, q2⟩ := hs.kept p (List.mem_cons_of_mem _ hp)
    exact ⟨by rw [World.putObj_heap_other (hK p hp)]; exact q1, q2⟩
/-- What a round knows of its parameters. -/
def putP : List Nat → List SV → List (Nat × SV) → List (Nat × SV)
  | p :: ps, v :: vs, T => putP ps vs ((p, v) :: T)
  | _, _, T => T
def psLt (n : Nat) : List Nat → Bool
  | [] => true
  | p :: r => match Nat.ble (p + 1) n with
    | true => psLt n r
    | false => false
theorem putP_sat {ρ : Nat → Nat × Nat} {A : Nat → Bool} : ∀ {ps : List Nat} {vs : List SV} {T : List (Nat × SV)} {tm : Array Value}, TSat ρ A nt T { tmps := tm, defers := [] } → SV.okhs A vs = true → psLt nt ps = true →
    TSat ρ A nt (putP ps vs T) { tmps := (ps.zip (SV.trs ρ vs)).foldl (fun tmps (t, a) => tmps.setIfInBounds t a) tm, defers := [] }
  | [], vs, T, tm, h, _, _ => by cases vs <;> exact h
  | p :: ps, [], T, tm, h, _, _ => h
  | p :: ps, v :: vs, T, tm, h, hv, hp => by
    simp only [SV.okhs, Bool.and_eq_true] at hv
    simp only [psLt] at hp
    split at hp
    · rename_i hb
      have hlt : p < nt := Nat.le_of_ble_eq_true hb
      have h2 := h.put hlt hv.1
      exact putP_sat (ps := ps) (vs := vs) (T := (p, v) :: T) (tm := tm.setIfInBounds p (v.tr ρ)) h2 hv.2 hp
    · simp at hp
/-- A call of yield: a round. -/
theorem si_yield {all post : List Oper} {o : Oper} {c : Call} {l d nto : Nat} {as : List SV} {r : Loop} {x : Operand} {To : List (Nat × SV)} (hop : o.op = .call c) (hcal : c.callee = .value x) (hg : guardF all T o.guard = 0)
    (hx : ev T x = some (.raw (.func (.yield l) #[] #[]))) (has : evs T c.args.toList = some as) (hn : as.length = r.params.size) (hst : r.state = .ready) (hd : o.dst = some d) (hdn : d < nt)
    (hl : w0.heap.size ≤ l ∨ bs l) (hK : ∀ p ∈ K, p.1 ≠ l) (hps : psLt nto r.params.toList = true) (ho : TSat ρ0 (there H0) nto To { tmps := r.tmps, defers := [] })
    (h : ∀ (ρ : Nat → Nat × Nat) (Qr : Exit → Act → World → Prop) (J : Act → World → Prop),
      (∀ T2 H1, SI (P := P) (some l) [] Qr w0 bs H ρ nto ((l, .loop { r with state := .busy }) :: K) [.code r.body] T2 H1 → SI (P := P) (some l) [] (fun _ _ _ => False) w0 bs H ρ nto ((l, .loop r) :: K) [.lp J] T2 H1) →
      (∀ T2 H1, SI (P := P) rd D Q w0 bs H0 ρ0 nt ((l, .loop { r with state := .ready, pending := none }) :: K) (.ops all post :: k) ((d, .tt) :: T) H1 → SI (P := P) (some l) [] Qr w0 bs H ρ nto ((l, .loop { r with state := .busy }) :: K) [] T2 H1) →
      (∀ id T2 H1 kk, noBlk id kk = true → SI (P := P) rd D Q w0 bs H0 ρ0 nt ((l, .loop { r with state := .done, pending := some (.exit id) }) :: K) (.ops all post :: k) ((d, .ff) :: T) H1 → SI (P := P) (some l) [] Qr w0 bs H ρ nto ((l, .loop { r with state := .busy }) :: K) (.code (.exit id) :: kk) T2 H1) →
      SI (P := P) (some l) [] (fun _ _ _ => False) w0 bs H ρ nto ((l, .loop r) :: K) [.code r.assign, .lp J] (putP r.params.toList as To) H) :
    SI (P := P) rd D Q w0 bs H0 ρ0 nt ((l, .loop r) :: K) (.ops all (o :: post) :: k) T H := by
  refine si_ops_yield hop hcal hg hx has hn fun ρ a W hs => ?_
  have hok := (evs_tr hs.ts has).2
  have ho2 : TSat ρ (there H) nto To { tmps := r.tmps, defers := [] } := ho.ext (fun y hy => (hs.base y hy).1.symm) (fun y hy => (hs.base y hy).2)
  have hp := putP_sat (ps := r.params.toList) (vs := as) ho2 hok hps
  have e1 : (r.params.toList.zip (SV.trs ρ as)).foldl (fun tmps (t, a) => tmps.setIfInBounds t a) r.tmps = (r.params.zip (SV.trs ρ as).toArray).foldl (fun tmps (t, a) => tmps.setIfInBounds t a) r.tmps := by
    rw [← Array.foldl_toList]
    simp [Array.toList_zip]
  rw [e1] at hp
  have next : ∀ {b : Bool} {vb : SV} {r2 : Loop} {ρ' : Nat → Nat × Nat} {a' : Act} {W' : World} {T2 : List (Nat × SV)} {H1 : List HE}, vb.tr ρ' = .bool b → vb.okh (there H1) = true →
      SI (P := P) rd D Q w0 bs H0 ρ0 nt ((l, .loop r2) :: K) (.ops all post :: k) ((d, vb) :: T) H1 → SatK w0 bs H ρ nto ((l, .loop { r with state := .busy }) :: K) ρ' T2 H1 a' W' →
      wpListIn (Fw rd) 0 P all.toArray (WKi rd P Q k) post (lift D (a.put o.dst (.bool b))) (W'.putObj l (.loop r2)) := by
    intro b vb r2 ρ' a' W' T2 H1 hv hvo hsi hs'
    have hs2 := hs'.putL (o' := .loop r2) hl hK
    have ht : TSat ρ' (there H1) nt T a := hs.ts.ext (fun y hy => (hs'.base y hy).1.symm) (fun y hy => (hs'.base y hy).2)
    have := hsi.at (ρ := ρ') (a := a.put (some d) (vb.tr ρ')) (W := W'.putObj l (.loop r2)) ⟨hs2.hs, ht.put hdn hvo, fun y hy => ⟨(hs'.base y (hs.base y hy).2).1.trans (hs.base y hy).1, (hs'.base y (hs.base y hy).2).2⟩, hs2.kept⟩
    simp only [WKi] at this
    rw [hd, ← hv]
    exact this
  refine round_in (h ρ _ _ (fun T2 H1 hb => si_begin hl hst hK hb) (fun T2 H1 hsi => ?_) (fun id T2 H1 kk hnb hsi => ?_)) ⟨hs.hs, hp, fun y hy => ⟨rfl, hy⟩, hs.kept⟩
  · exact si_round_end fun ρ' a' W' hs' => next (vb := .tt) rfl rfl hsi hs'
  · exact si_round_out hnb fun ρ' a' W' hs' => next (vb := .ff) rfl rfl hsi hs'
theorem alloc_old {W : World} {o : Obj} {b : Nat} (h : b < W.heap.size) : (W.alloc o).heap[b]? = W.heap[b]? := by
  show (W.heap.push o)[b]? = _
  rw [Array.getElem?_push_lt h]
  simp [h]
/-- The world of a function that is ranged over. -/
def loopW (W : World) (r : Loop) : World := (W.alloc (.deferred (some []))).alloc (.loop r)
theorem loopW_size {W : World} {r : Loop} : (loopW W r).heap.size = W.heap.size + 2 := by simp [loopW]
theorem loopW_old {W : World} {r : Loop} {b : Nat} (h : b < W.heap.size) : (loopW W r).heap[b]? = W.heap[b]? := by
  rw [loopW, alloc_old (by simp; omega), alloc_old h]
theorem loopW_sat {W : World} {r : Loop} {ρ : Nat → Nat × Nat} (h : HSat w0 bs ρ H W) : HSat (loopW W r) (fun b => Own ρ H b ∨ b = W.heap.size + 1) ρ H (loopW W r) := by
  refine ⟨fun x ox hx => ?_, fun x hx => by rw [loopW_size]; have := h.size x hx; omega, h.inj, fun x o hx ho => .inl (.inl ⟨x, o, hx, ho, rfl⟩), Fr.refl _ _⟩
  obtain ⟨h1, h2⟩ := h.objs x ox hx
  exact ⟨ox.holds_world (loopW_old (h.size x (there_of_obj hx))) h1, h2⟩
theorem loopW_kept {W : World} {r : Loop} {ρ : Nat → Nat × Nat} (h : HSat w0 bs ρ H W) : Kept [(W.heap.size + 1, .loop r), (W.heap.size, .deferred (some []))] ρ H (loopW W r) := by
  intro p hp
  simp only [List.mem_cons, List.not_mem_nil, or_false] at hp
  rcases hp with rfl | rfl
  · refine ⟨?_, fun x o hx e => ?_⟩
    · have := World.alloc_heap_new (W.alloc (.deferred (some []))) (.loop r)
      rw [World.size_alloc] at this
      exact this
    · have := h.size x (there_of_obj hx); simp at e; omega
  · refine ⟨?_, fun x o hx e => ?_⟩
    · show ((W.alloc (.deferred (some []))).alloc (.loop r)).heap[W.heap.size]? = _
      rw [alloc_old (by simp), World.alloc_heap_new]
    · have := h.size x (there_of_obj hx); simp at e; omega
theorem loopW_back {W W' : World} {r : Loop} {ρ ρ' : Nat → Nat × Nat} (h2 : HSat (loopW W r) (fun b => Own ρ H b ∨ b = W.heap.size + 1) ρ' H1 W') : HSat W (Own ρ H) ρ' H1 W' := by
  refine ⟨h2.objs, h2.size, h2.inj, fun x o hx ho => ?_, ⟨?_, fun b hb hn => ?_, ?_⟩⟩
  · rcases h2.own x o hx ho with (q | q) | q
    · exact .inl q
    · exact .inr (by omega)
    · rw [loopW_size] at q; exact .inr (by omega)
  · have := h2.fr.size; rw [loopW_size] at this; omega
  · rw [h2.fr.same b (by rw [loopW_size]; omega) (by rintro (q | q); exact hn q; omega), loopW_old hb]
  · exact h2.fr.io
/-- What comes behind a loop. -/
def beyond (k : List KI) : Option Code → List KI
  | none => k
  | some c => .code c :: k
/-- A range over a function. -/
theorem si_over {g tf : Nat} {caps : List SV} {fng : Func} {cg : Code} {ps : Array Tmp} {assign body : Code} (hl : look T tf = some (.func (.func g) [] caps)) (hfn : P.funcs[g]? = some fng) (hb : fng.body = some cg) (hname : (fng.name == "runtime.NumGoroutine") = false)
    (hres : fng.results = #[]) (hcn : Nat.ble (caps.length + 1) fng.ntmps = true)
    (h : ∀ ρ (a : Act) (W1 : World) (l b : Nat) (bs1 : Nat → Prop) (fid : FuncId) (Qi : Exit → Act → World → Prop), TSat ρ (there H) nt T a → b ≠ l → bs1 l →
      (∀ T2 H2 (r2 : Loop), r2.state ≠ .busy → newOwn H H2 = true → (∀ b', w0.heap.size ≤ b' → SI (P := P) none [markD b'] Q w0 bs H0 ρ0 nt ((b', .deferred (some [])) :: K) (beyond k r2.pending) T H2) →
        SI (P := P) none [] Qi W1 bs1 H ρ fng.ntmps [(l, .loop r2), (b, .deferred (some []))] [] T2 H2 ∧ ∀ kk, SI (P := P) none [] Qi W1 bs1 H ρ fng.ntmps [(l, .loop r2), (b, .deferred (some []))] (.code .ret :: kk) T2 H2) →
      SI (P := P) none [] Qi W1 bs1 H ρ fng.ntmps [(l, .loop (recL fid a.tmps ps assign body b)), (b, .deferred (some []))] [.code cg] (argT 0 (.raw (.func (.yield l) #[] #[]) :: caps)) H) :
    SI (P := P) none [] Q w0 bs H0 ρ0 nt K (.code (.rangeFunc (.tmp tf) ps assign body) :: k) T H := by
  refine si_range hl hfn (by rw [hb]; rfl) hname fun ρ a W fid hs => ?_
  have e1 : (#[.func (.yield (W.heap.size + 1)) #[] #[]] ++ (SV.trs ρ caps).toArray : Array Value) = (SV.trs ρ (.raw (.func (.yield (W.heap.size + 1)) #[] #[]) :: caps)).toArray := by
    simp [SV.trs, SV.tr]
  rw [e1]
  refine si_intro (K := [(W.heap.size + 1, .loop (recL fid a.tmps ps assign body W.heap.size)), (W.heap.size, .deferred (some []))]) (w0 := loopW W (recL fid a.tmps ps assign body W.heap.size)) (bs := fun b => Own ρ H b ∨ b = W.heap.size + 1) (H := H) (H0 := H) (ρ0 := ρ) hfn hb (by have := Nat.le_of_ble_eq_true hcn; simp; omega) ?_ (loopW_sat hs.hs) (fun _ hh => ⟨rfl, hh⟩) (loopW_kept hs.hs) ?_
  · simp only [SV.okhs, Bool.and_eq_true]
    have := (hs.ts.val tf _ hl).2
    simp only [SV.okh, Bool.and_eq_true] at this
    exact ⟨rfl, this.2⟩
  · refine h ρ a _ (W.heap.size + 1) W.heap.size _ fid _ hs.ts (by omega) (.inr rfl) fun T2 H2 r2 hr2 hno hbey => ?_
    have key : ∀ ρ' a' W', SatK (loopW W (recL fid a.tmps ps assign body W.heap.size)) (fun b => Own ρ H b ∨ b = W.heap.size + 1) H ρ fng.ntmps [(W.heap.size + 1, .loop r2), (W.heap.size, .deferred (some []))] ρ' T2 H2 a' W' →
        ∃ v, (results fng a'.tmps).run P W' = .ok v W' ∧ ∃ jump W3, (Instr.endLoop (W.heap.size + 1)).run P W' = .ok jump W3 ∧ (match jump with
          | none => WKi none P Q k .normal (lift [markD W.heap.size] a) W3
          | some c => WKi none P Q (.code c :: k) .normal (lift [markD W.heap.size] a) W3) := by
      intro ρ' a' W' hs'
      obtain ⟨k1, _⟩ := hs'.kept (W.heap.size + 1, .loop r2) (List.mem_cons_self ..)
      refine ⟨_, by rw [results_none hres], _, _, run_endLoop k1 hr2, ?_⟩
      have hs3 := hs'.putL (o' := .loop { r2 with state := .exhausted }) (.inr (.inr rfl)) (by intro p hp; simp at hp; subst hp; simp)
      have hb2 := loopW_back hs3.hs
      obtain ⟨k3, k4⟩ := hs3.kept (W.heap.size, .deferred (some [])) (by simp)
      have hk2 := hs.kept.next hb2 hs'.base hno
      have := (hbey W.heap.size hs.hs.fr.size).at (ρ := ρ') (a := a) (W := W'.putObj (W.heap.size + 1) (.loop { r2 with state := .exhausted })) ⟨hs.hs.comp hb2, hs.ts.ext (fun y hy => (hs'.base y hy).1.symm) (fun y hy => (hs'.base y hy).2), fun y hy => ⟨(hs'.base y (hs.base y hy).2).1.trans (hs.base y hy).1, (hs'.base y (hs.base y hy).2).2⟩, fun p hp => ?_⟩
      · cases hpe : r2.pending with
        | none => rw [hpe] at this; exact this
        | some c => rw [hpe] at this; exact this
      · simp only [List.mem_cons] at hp
        rcases hp with rfl | hp
        · exact ⟨k3, k4⟩
        · exact hk2 p hp
    have hret : ∀ (e : Exit), (e = .ret ∨ e = .normal) → ∀ ρ' a' W', SatK (loopW W (recL fid a.tmps ps assign body W.heap.size)) (fun b => Own ρ H b ∨ b = W.heap.size + 1) H ρ fng.ntmps [(W.heap.size + 1, .loop r2), (W.heap.size, .deferred (some []))] ρ' T2 H2 a' W' →
        bodyPostM (Fw none) 0 P fng (fun e W2 => match e with
          | .returned _ => ∃ jump W3, (Instr.endLoop (W.heap.size + 1)).run P W2 = .ok jump W3 ∧ (match jump with
            | none => WKi none P Q k .normal (lift [markD W.heap.size] a) W3
            | some c => WKi none P Q (.code c :: k) .normal (lift [markD W.heap.size] a) W3)
          | _ => False) e (lift [] a') W' := by
      intro e he ρ' a' W' hs'
      have hd0 : a'.defers = [] := hs'.ts.def0
      obtain ⟨v, hv1, hv2⟩ := key ρ' a' W' hs'
      rcases he with rfl | rfl <;>
      · simp only [bodyPostM, lift, hd0, List.append_nil, LeavesInM, LeavesIn]
        exact ⟨v, hv1, hv2⟩
    exact ⟨SI.of fun ρ' a' W' hs' => by simp only [WKi]; exact hret _ (.inr rfl) ρ' a' W' hs', fun kk => si_ret fun ρ' a' W' hs' => hret _ (.inl rfl) ρ' a' W' hs'⟩
end
section
variable {P : Program} {X : Tabs} (hX : TOk P X) {fn : Func} {k : List KI} {T : List (Nat × SV)} {H H0 : List HE} {R : SV → List HE → Prop} {ρ0 : Nat → Nat × Nat} {w0 : World}
/-- What a function gives whose code has a range over a function. -/
theorem si_fn {f : Nat} {c : Code} {args : List SV} (hf : P.funcs[f]? = some fn) (hb : fn.body = some c) (hn : Nat.ble args.length fn.ntmps = true)
    (h : ∀ ρ w, SI (P := P) none [] (bodyPostM (Fw none) 0 P fn (FnPost w ρ H0 R)) w (Own ρ H0) H0 ρ fn.ntmps [] [.code c] (argT 0 args) H0) : Gives P f args H0 R := fun ρ w hS hok =>
  si_intro (K := []) hf hb (Nat.le_of_ble_eq_true hn) hok hS (fun _ hx => ⟨rfl, hx⟩) (fun _ hp => by simp at hp) (h ρ w)
/-- The end, in front of a loop. -/
theorem si_fn_ret {nt : Nat} (h : SS hX (At ρ0 w0) R ⟨[], [], fn, nt, H0, [], T, H⟩) : SI (P := P) none [] (bodyPostM (Fw none) 0 P fn (FnPost w0 ρ0 H0 R)) w0 (Own ρ0 H0) H0 ρ0 nt [] (.code .ret :: k) T H := si_ret fun ρ a W hs => by
  have hp : bodyPost P fn (FnPost w0 ρ0 H0 R) .normal a W := sw_ss hX h ρ a W ⟨hs.hs, hs.ts, hs.base⟩
  obtain ⟨h1, v, h2, h3⟩ := hp
  simp only [bodyPostM, lift, h1, List.append_nil, LeavesInM, LeavesIn]
  exact ⟨v, h2, h3⟩
/-- The end, behind a loop. -/
theorem si_mark_ret {nt b : Nat} (hb : w0.heap.size ≤ b) (h : SS hX (At ρ0 w0) R ⟨[], [], fn, nt, H0, [], T, H⟩) : SI (P := P) none [markD b] (bodyPostM (Fw none) 0 P fn (FnPost w0 ρ0 H0 R)) w0 (Own ρ0 H0) H0 ρ0 nt [(b, .deferred (some []))] (.code .ret :: k) T H := si_ret fun ρ a W hs => by
  obtain ⟨k1, _⟩ := hs.kept (b, .deferred (some [])) (by simp)
  have hs2 := hs.putL (o' := .deferred none) (.inl hb) (by simp)
  have hp : bodyPost P fn (FnPost w0 ρ0 H0 R) .normal a (W.putObj b (.deferred none)) := sw_ss hX h ρ a _ ⟨hs2.hs, hs2.ts, hs2.base⟩
  obtain ⟨h1, v, h2, h3⟩ := hp
  simp only [bodyPostM, lift, h1, List.nil_append, LeavesInM, LeavesIn]
  exact ⟨by simp, .inl ⟨b, _, rfl, run_takeDeferred k1, v, h2, h3⟩⟩
/-- .. at the code's end. -/
theorem si_mark_end {nt b : Nat} (hb : w0.heap.size ≤ b) (h : SS hX (At ρ0 w0) R ⟨[], [], fn, nt, H0, [], T, H⟩) : SI (P := P) none [markD b] (bodyPostM (Fw none) 0 P fn (FnPost w0 ρ0 H0 R)) w0 (Own ρ0 H0) H0 ρ0 nt [(b, .deferred (some []))] [] T H := SI.of fun ρ a W hs => by
  obtain ⟨k1, _⟩ := hs.kept (b, .deferred (some [])) (by simp)
  have hs2 := hs.putL (o' := .deferred none) (.inl hb) (by simp)
  have hp : bodyPost P fn (FnPost w0 ρ0 H0 R) .normal a (W.putObj b (.deferred none)) := sw_ss hX h ρ a _ ⟨hs2.hs, hs2.ts, hs2.base⟩
  obtain ⟨h1, v, h2, h3⟩ := hp
  simp only [WKi, bodyPostM, lift, h1, List.nil_append, LeavesInM, LeavesIn]
  exact ⟨by simp, .inl ⟨b, _, rfl, run_takeDeferred k1, v, h2, h3⟩⟩
end
end Go.Hx

/-
  A statement list with labels, where nothing is gone to; the walker's way through regions in any frame.
-/
namespace Go.Hx
open Go

section
variable {P : Program} {F : Fence} {n : Nat} {b : Frame} {a : Act} {k : List Item} {cs : List Frame} {w : World} {Q : Exit → Act → World → Prop}
theorem stepR_scope {c : Code} : step P (lone (b.atR a (.code (.scope c) :: k)) cs w) = .next (lone (b.atR a (.code c :: .inScope c :: k)) cs w) :=
  step_lone_go (by simp [stepG, stepG.exec, Frame.atR])
theorem stepR_inScope {c : Code} : step P (lone (b.atR a (.inScope c :: k)) cs w) = .next (lone (b.atR a k) cs w) :=
  step_lone_go (by simp [stepG, stepG.exec, Frame.atR])
theorem wpIn_scope {c : Code} (hQ : ∀ l a w, ¬ Q (.goto l) a w) (h : c.wpIn F n P Q a w) : (Code.scope c).wpIn F n P Q a w := by
  intro b k cs hro hb hr
  have h0 : (lone (b.atR a (.code (.scope c) :: k)) cs w).fenced P F := fenced_calm hb hr rfl
  obtain ⟨e, a₁, w₁, hq, harr⟩ := h b (.inScope c :: k) cs hro hb hr
  cases e with
  | normal => exact ⟨.normal, a₁, w₁, hq, .head h0 stepR_scope (StepsIn.trans harr (.one (fenced_calm hb hr rfl) stepR_inScope))⟩
  | exit id =>
    have hx : exitTo id (.inScope c :: k) = exitTo id k := by simp [exitTo]
    exact ⟨_, a₁, w₁, hq, fun k' hk => .head h0 stepR_scope (harr.1 k' (by rw [hx]; exact hk)),
      fun hr' hk => let ⟨k₁, h1, h2⟩ := harr.2 hr' (by rw [hx]; exact hk); ⟨k₁, h1, .head h0 stepR_scope h2⟩⟩
  | goto l => exact (hQ _ _ _ hq).elim
  | ret => exact ⟨_, a₁, w₁, hq, .of_steps (.one h0 stepR_scope) harr⟩
  | panic ch => exact ⟨_, a₁, w₁, hq, .of_steps (.one h0 stepR_scope) harr⟩
  | outgrown => exact ⟨_, a₁, w₁, hq, .of_steps (.one h0 stepR_scope) harr⟩
end
section
variable {P : Program} {X : Tabs} (hX : TOk P X) {rd : Option Nat} {D : List Deferred} {Q : Exit → Act → World → Prop} {w0 : World} {bs : Nat → Prop} {H0 : List HE} {ρ0 : Nat → Nat × Nat} {fn : Func} {nt : Nat} {K : List (Nat × Obj)} {k : List KI} {T T1 : List (Nat × SV)} {H H1 : List HE}
theorem wki_goto {l : Nat} {a : Act} {w : World} : ∀ {k : List KI}, WKi rd P Q k (.goto l) a w → Q (.goto l) a w
  | [], h => h
  | .code _ :: k, h => wki_goto (k := k) h
  | .blk _ :: k, h => wki_goto (k := k) h
  | .lp _ :: k, h => wki_goto (k := k) h
  | .ops _ _ :: k, h => wki_goto (k := k) h
  | .again _ _ :: k, h => wki_goto (k := k) h
theorem si_scope {c : Code} (hQ : ∀ l a w, ¬ Q (.goto l) a w) (h : (SI (P := P) rd D Q w0 bs H0 ρ0 nt K) (.code c :: k) T H) : (SI (P := P) rd D Q w0 bs H0 ρ0 nt K) (.code (.scope c) :: k) T H := SI.of fun ρ a W hs => by
  have := h.at hs
  simp only [WKi] at this ⊢
  refine wpIn_scope (fun l a w hg => hQ l a w (wki_goto (P := P) (rd := rd) (k := k) hg)) (wpIn_mono this fun e a w hq => ?_)
  cases e <;> exact hq
theorem si_label {l : Nat} (h : (SI (P := P) rd D Q w0 bs H0 ρ0 nt K) k T H) : (SI (P := P) rd D Q w0 bs H0 ρ0 nt K) (.code (.label l) :: k) T H := SI.of fun ρ a W hs => by
  simp only [WKi]; exact wpIn_label (h.at hs)
theorem si_cond {t : Nat} {b : Bool} {x y : Code} (hl : look T t = some (.bool b)) (ht : b = true → (SI (P := P) rd D Q w0 bs H0 ρ0 nt K) (.code x :: k) T H) (hf : b = false → (SI (P := P) rd D Q w0 bs H0 ρ0 nt K) (.code y :: k) T H) : (SI (P := P) rd D Q w0 bs H0 ρ0 nt K) (.code (.cond (.tmp t) x y) :: k) T H := SI.of fun ρ a W hs => by
  have he : (lift D a).eval (.tmp t) = .bool b := look_eval hs.ts hl
  cases b with
  | true =>
    have := (ht rfl).at hs
    simp only [WKi] at *
    exact wpIn_cond_true he this
  | false =>
    have := (hf rfl).at hs
    simp only [WKi] at *
    exact wpIn_cond_false he this
include hX in
/-- The same, told otherwise: under other names, less. -/
theorem si_told (σs : List Nat) (hlen : Nat.beq σs.length H1.length = true) (hnd : nodupN σs = true) (hb : fromN H0.length 0 σs = true) (hb' : leH H0 H1 = true)
    (hT : subT (sig σs 0) T T1) (hH : subH (sig σs 0) H 0 H1) (hok1 : okTP (thereF H1) T1) (hok2 : okHP (thereF H1) H1) (h : (SI (P := P) rd D Q w0 bs H0 ρ0 nt K) k T1 H1) : (SI (P := P) rd D Q w0 bs H0 ρ0 nt K) k T H := si_sub (fun ρ x => ρ (sig σs 0 x)) (fun ρ a W hs => by
  have q := subS_of (E := ⟨P, X.TE, nt, Q, w0, bs, H0, ρ0, hX.te⟩) σs hlen hnd hb hb' hT hH hok1 hok2 ρ a W ⟨hs.hs, hs.ts, hs.base⟩
  refine ⟨q.hs, q.ts, q.base, fun p hp => ?_⟩
  obtain ⟨k1, k2⟩ := hs.kept p hp
  refine ⟨k1, fun x o hx => ?_⟩
  obtain ⟨u, hu, _⟩ := (subH_get hH (h := x)).1 hx
  rw [Nat.zero_add] at hu
  exact k2 _ u hu) h
/-- A region's operations in two parts. -/
theorem si_split {all l : List Oper} (n : Nat) (h : (SI (P := P) rd D Q w0 bs H0 ρ0 nt K) (.ops all (l.take n ++ l.drop n) :: k) T H) : (SI (P := P) rd D Q w0 bs H0 ρ0 nt K) (.ops all l :: k) T H := by rwa [List.take_append_drop] at h
theorem newOwn_same : ∀ H : List HE, newOwn H H = true
  | [] => rfl
  | .obj _ :: r => newOwn_same r
  | .opq :: r => newOwn_same r
  | .absent :: r => newOwn_same r
theorem noGoto_fn {fn : Func} {R : Ending → World → Prop} {F : Fence} {n : Nat} : ∀ l a w, ¬ bodyPostM F n P fn R (.goto l) a w := fun _ _ _ h => h
end
section
variable {P : Program} {X : Tabs} (hX : TOk P X) {fn : Func} {cs : List Ch} {nt : Nat} {T : List (Nat × SV)} {H H0 : List HE} {Wb : (Nat → Nat × Nat) → World → Prop}
/-- The end behind a loop: what is told. -/
theorem ss_end0 {V : SV} {L : List HE} {ob : List Prop} {vs : List SV} (σs : List Nat) (hr : resF X.TE fn.results.toList T H = some (ob, vs)) (ho : conjP ob)
    (hlen : Nat.beq σs.length L.length = true) (hnd : nodupN σs = true) (hb : fromN H0.length 0 σs = true) (hb' : leH H0 L = true)
    (hv : sim (tupF vs) (V.ren (sig σs 0))) (hH : subH (sig σs 0) H 0 L) (hok1 : okP (thereF L) V) (hok2 : okHP (thereF L) L) : SS hX Wb (Is V L) ⟨cs, [], fn, nt, H0, [], T, H⟩ := by
  intro ρ0 w0 hw
  have hsub := subS_of (E := FEnv P X.TE hX.te fn nt H0 (Is V L) ρ0 w0) (T := T) (T' := []) (H := H) (H' := L) σs hlen hnd hb hb' trivial hH trivial hok2
  intro ρ a w hsat
  have post : bodyPost P fn (FnPost w0 ρ0 H0 (Is V L)) .ret a w := by
    obtain ⟨h1, h2⟩ := results_ok hsat hr (conjP_all ho)
    have hs := hsub ρ a w hsat
    have hfun : thereF L = there L := funext (thereF_eq L)
    refine ⟨hsat.ts.def0, _, h1, _, L, V, ⟨rfl, rfl⟩, ?_, by rw [← hfun]; exact okP_okh V hok1, hs.hs, hs.base⟩
    rw [(sim_tr (A := fun _ => true) hv).1, tr_ren]
  exact post
end
end Go.Hx

/-
  Regions that draw, where an operation looks at a temporary that a later one writes: what stood there at first is looked at.
-/
namespace Go.Hx
open Go

theorem owp_mono2 {P : Program} {Q : Exit → Act → World → Prop} {o : Oper} {a : Act} {w : World} {K K' : Act → World → Prop}
    (h : ∀ u ds w', K (({ a with defers := ds } : Act).put o.dst u) w' → K' (({ a with defers := ds } : Act).put o.dst u) w')
    (hh : o.wp P a w K Q) : o.wp P a w K' Q := by
  unfold Oper.wp at *
  generalize (execOp a.eval o).run P w = r at *
  have h0 : ∀ u w', K (a.put o.dst u) w' → K' (a.put o.dst u) w' := fun u w' => h u a.defers w'
  cases r with
  | ok n w' =>
    cases n <;> simp only [Oper.upon] at hh ⊢ <;>
      first
        | exact h0 _ _ hh
        | exact h _ _ _ hh
        | exact Calls.mono hh (fun e w'' he => by cases e <;> first | exact h0 _ _ he | exact he)
        | exact Rows.mono hh (fun _ _ he => h0 _ _ he)
  | halt x w' => cases x <;> simp only [Oper.upon] at hh ⊢ <;> exact hh

def stillB (al : List Oper) (j t : Nat) : Bool := (List.range al.length).all fun i => match al[i]? with
  | some o => (match o.dst with | some d => !(Nat.beq d t) | none => true) || bindsOn o j
  | none => true

theorem still_get {al : List Oper} {j t i : Nat} {o : Oper} (h : stillB al j t = true) (ho : al[i]? = some o) : o.dst ≠ some t ∨ bindsOn o j = true := by
  simp only [stillB, List.all_eq_true] at h
  have hlt : i < al.length := by
    rcases Nat.lt_or_ge i al.length with h1 | h1
    · exact h1
    · rw [List.getElem?_eq_none h1] at ho; simp at ho
  have := h i (List.mem_range.2 hlt)
  rw [ho] at this
  simp only [Bool.or_eq_true] at this
  rcases this with h1 | h1
  · left
    intro hd
    rw [hd] at h1
    simp at h1
  · exact .inr h1

theorem put_tmp {a : Act} {ds : List Deferred} {dst : Option Tmp} {u v : Value} {t : Nat} (h : a.tmps[t]? = some v) (hd : dst ≠ some t) : ((({ a with defers := ds } : Act).put dst u).tmps)[t]? = some v := by
  cases dst with
  | none => exact h
  | some d =>
    have : d ≠ t := fun e => hd (by rw [e])
    simp [Act.put, this, h]

theorem any_still {P : Program} {Q : Exit → Act → World → Prop} {al : List Oper} {j t : Nat} {o o' : Oper} {v : Value}
    (hj : al[j]? = some o) (hst : stillB al j t = true) (hdst : o'.dst = o.dst) (haf : o'.after = o.after) (hgd : o'.guard = o.guard)
    (hex : ∀ a : Act, a.tmps[t]? = some v → execOp a.eval o' = execOp a.eval o) :
    ∀ (fuel : Nat) (listed : Array Bool) (a : Act) (w : World), listed.size = al.length → (listed.getD j false = false → a.tmps[t]? = some v) →
      wpAny P .any (al.set j o').toArray Q fuel listed a w → wpAny P .any al.toArray Q fuel listed a w := by
  have hjl : j < al.length := by
    rcases Nat.lt_or_ge j al.length with h1 | h1
    · exact h1
    · rw [List.getElem?_eq_none h1] at hj; simp at hj
  have hget : ∀ i, i ≠ j → (al.set j o')[i]? = al[i]? := fun i hi => by rw [List.getElem?_set_ne (Ne.symm hi)]
  have hgj : (al.set j o')[j]? = some o' := by simp [hjl]
  have hready : ∀ listed, Region.ready .any (al.set j o').toArray listed = Region.ready .any al.toArray listed := by
    intro listed
    unfold Region.ready
    simp only [List.size_toArray, List.length_set, List.getElem?_toArray]
    apply List.filter_congr
    intro i _
    by_cases hi : i = j
    · subst hi; rw [hgj, hj]; simp only [Option.map_some, haf]
    · rw [hget i hi]
  have hyield : ∀ tm, yielded (al.set j o').toArray tm = yielded al.toArray tm := by
    intro tm
    funext g
    unfold yielded
    simp only [List.getElem?_toArray]
    by_cases hi : g = j
    · subst hi; rw [hgj, hj]; simp only [Option.bind_some, hdst]
    · rw [hget g hi]
  intro fuel
  induction fuel with
  | zero =>
    intro listed a w hsz hv h
    exact ⟨by rw [← hready]; exact h.1, h.2⟩
  | succ fuel ih =>
    intro listed a w hsz hv h
    refine ⟨fun hr => h.1 (by rw [hready]; exact hr), fun i hi => ?_⟩
    have hw := h.2 i (by rw [hready]; exact hi)
    have hsz' : (listed.setIfInBounds i true).size = al.length := by simpa using hsz
    obtain ⟨hun, oi, hoi, hall⟩ := mem_ready.1 hi
    by_cases hij : i = j
    · subst hij
      have hlist : (listed.setIfInBounds i true).getD i false = true := by simp [Array.getD, hsz, hjl]
      have htm : a.tmps[t]? = some v := hv (by simpa [Array.getD, hsz, hjl] using hun)
      have hK : ∀ a' w', wpAny P .any (al.set i o').toArray Q fuel (listed.setIfInBounds i true) a' w' → wpAny P .any al.toArray Q fuel (listed.setIfInBounds i true) a' w' :=
        fun a' w' => ih _ a' w' hsz' (fun hf => by rw [hlist] at hf; simp at hf)
      refine wpOp_mono hK ?_
      unfold wpOp at *
      simp only [List.getElem?_toArray, hgj, hj, hyield] at hw ⊢
      have hwt : Region.wanted o' = Region.wanted o := by funext y; unfold Region.wanted; rw [hgd]
      rw [hwt] at hw
      split
      · rename_i hc
        rw [if_pos hc] at hw
        refine hw.imp (fun q => ?_) (fun q => ⟨?_, q.2⟩)
        · unfold Oper.wp at *
          rw [hex a htm] at q
          have hup : o'.upon P a = o.upon P a := by
            funext K Q r
            unfold Oper.upon
            rw [hdst]
          rw [hup] at q
          exact q
        · have := q.1
          unfold Oper.asks at *
          rw [hex a htm] at this
          exact this
      · rename_i hc
        rw [if_neg hc, hdst] at hw
        exact hw
    · have hoi' : (al.set j o').toArray[i]? = some oi := by
        simp only [List.getElem?_toArray] at hoi ⊢
        rw [hget i hij]; exact hoi
      have hkeep : (listed.setIfInBounds i true).getD j false = listed.getD j false := getD_set_ne false hij
      have hnext : ∀ u ds w', wpAny P .any (al.set j o').toArray Q fuel (listed.setIfInBounds i true) (({ a with defers := ds } : Act).put oi.dst u) w' → wpAny P .any al.toArray Q fuel (listed.setIfInBounds i true) (({ a with defers := ds } : Act).put oi.dst u) w' := by
        intro u ds w' hh
        refine ih _ _ w' hsz' (fun hf => ?_) hh
        rw [hkeep] at hf
        refine put_tmp (hv hf) fun hd => ?_
        rcases still_get hst (by simpa using hoi) with h1 | h1
        · exact h1 hd
        · simp only [bindsOn, List.any_eq_true, Bool.and_eq_true] at h1
          obtain ⟨e, he1, he2, he3⟩ := h1
          have h4 := Nat.eq_of_beq_eq_true he3
          have h5 := hall e (by simpa using he1) he2
          rw [h4, hf] at h5
          simp at h5
      unfold wpOp at *
      simp only [hoi, hoi', hyield] at hw ⊢
      split
      · rename_i hc
        rw [if_pos hc] at hw
        exact hw.imp (owp_mono2 hnext) id
      · rename_i hc
        rw [if_neg hc] at hw
        exact hnext _ a.defers _ hw

/-- The region as it stands, but that operation j moves the constant that temporary t has. -/
def stillO (al : List Oper) (j : Nat) (c : Value) : List Oper := match al[j]? with
  | some o => al.set j { o with op := .move (.const c) }
  | none => al
def stillOk (al : List Oper) (T : List (Nat × SV)) (j : Nat) (c : Value) : Prop := ∃ o t v, al[j]? = some o ∧ o.op = .move (.tmp t) ∧ stillB al j t = true ∧ look T t = some v ∧ ev T (.const c) = some v

section
variable {P : Program} {X : Tabs} (hX : TOk P X)
variable {Wb : (Nat → Nat × Nat) → World → Prop} {R : SV → List HE → Prop} {fn : Func} {nt : Nat} {H0 : List HE} {k : List KI} {T : List (Nat × SV)} {H : List HE} {cs : List Ch} {fs : List Fm}
/-- A region that draws, where operation j moves what a later one writes anew. -/
theorem ss_drawS (j : Nat) (c : Value) (cs : List Ch) (m : Nat) {cs0 cs' : List Ch} {ob : List Prop} {T' : List (Nat × SV)} {H' : List HE} {id : Nat} {ops : Array Oper}
    (hl : stillOk ops.toList T j c)
    (h : drawX X (fun s => runX X [] m s []) cs (stillO ops.toList j c) nt T H = some (cs', ob, T', H')) (ho : conjP ob) (hs : SS hX Wb R ⟨cs', fs, fn, nt, H0, k, T', H'⟩) :
    SS hX Wb R ⟨cs0, fs, fn, nt, H0, .code (.region id ops true) :: k, T, H⟩ := by
  intro ρ0 w0 hw ρ a w hsat
  have hrec : RecOk hX (fun s => runX X [] m s []) := fun Wb R0 s h1 h2 => (runX_ok hX m [] Wb R0 s [] h1 h2).1
  simp only [WK]
  have := drawX_any hX hrec fn nt H0 (Rof hX Wb R fs) ρ0 w0 cs cs' (stillO ops.toList j c) T T' H H' ob _ h (conjP_all ho) (hs ρ0 w0 hw) ρ a w hsat
  obtain ⟨o, t, v, hj, hop, hst, hlk, hev⟩ := hl
  have hso : stillO ops.toList j c = ops.toList.set j { o with op := .move (.const c) } := by unfold stillO; rw [hj]
  rw [hso] at this
  have htm : a.tmps[t]? = some (v.tr ρ) := (hsat.ts.1 t v hlk).1
  have hce : a.eval (.const c) = v.tr ρ := (ev_tr hsat.ts hev).1
  have hc2 : ∀ b : Act, b.eval (.const c) = v.tr ρ := fun b => by rw [← hce]; rfl
  have h3 := any_still (v := v.tr ρ) (o' := { o with op := .move (.const c) }) hj hst rfl rfl rfl (fun b hb => by
    have hbt : b.eval (.tmp t) = v.tr ρ := by simp [Act.eval, hb]
    obtain ⟨dst, op, type, pos, after, guard⟩ := o
    simp only at hop
    subst hop
    simp only [execOp, hc2, hbt]) _ _ a _ (by simp) (fun _ => htm) this
  have e1 : (ops.toList.set j { o with op := .move (.const c) }).toArray.size = ops.toList.toArray.size := by simp
  rw [e1] at h3
  have h2 := wp_region_any (id := id) hX.mo h3
  rw [Array.toArray_toList] at h2
  exact h2
end
end Go.Hx

/-
  Regions that draw, where several cells are made without order against a call that needs no cell.
-/
namespace Go.Hx
open Go

section
variable {E : Env} {al : List Oper} {Tn : List (Nat × SV)} {D : Nat → Bool} {ρ : Nat → Nat × Nat} {H : List HE} {a : Act} {w : World}

/-- All orders, the heap told by what has been done. -/
theorem draw_anyD {k : List KI} {T : List (Nat × SV)} {hp : (Nat → Bool) → List HE} (hreg : regOk al = true) (h0 : hp (fun _ => false) = H)
    (hT : ∀ t v, look Tn t = some v → (∀ (i : Nat) (o : Oper), al[i]? = some o → o.dst ≠ some t) → look T t = some v)
    (hstep : ∀ (D : Nat → Bool) (j : Nat) (o : Oper), Down al D → al[j]? = some o → D j = false → (∀ i, bindsOn o i = true → D i = true) → (∀ i, D i = true → i < al.length) → DStep E al Tn j o (hp D) (hp (fun i => D i || Nat.beq i j)))
    (hk : ∀ D : Nat → Bool, (∀ i, i < al.length → D i = true) → SW E k Tn (hp D)) : ∀ ρ a w, Sat E ρ T H a w → wpAny E.P .any al.toArray (WK E.P E.Q k) al.toArray.size (Array.replicate al.toArray.size false) a { w with drawn := w.drawn + 1 } := by
  intro ρ a w hs
  have hreg' := hreg
  simp only [regOk, Bool.and_eq_true, List.all_eq_true] at hreg'
  have hback : ∀ (j : Nat) (o : Oper), al[j]? = some o → ∀ i, bindsOn o i = true → i < j := by
    intro j o ho i hi
    have hlt : j < al.length := by
      rcases Nat.lt_or_ge j al.length with h1 | h1
      · exact h1
      · rw [List.getElem?_eq_none h1] at ho; simp at ho
    have := hreg'.2 j (List.mem_range.2 hlt)
    rw [ho] at this
    simp only [Bool.and_eq_true, List.all_eq_true] at this
    simp only [bindsOn, List.any_eq_true, Bool.and_eq_true] at hi
    obtain ⟨e, he1, he2, he3⟩ := hi
    have h4 := this.1.1 e he1
    rw [he2] at h4
    have := Nat.eq_of_beq_eq_true he3
    simp at h4
    have h5 : e.on < j := blt_lt (by simpa using h4)
    omega
  -- the walk over all orders
  have key : ∀ (fuel : Nat) (listed : Array Bool) (ρ : Nat → Nat × Nat) (a : Act) (w : World), listed.size = al.length →
      ((List.range al.length).filter fun i => !(listed.getD i true)).length = fuel →
      Down al (fun i => listed.getD i false) → DSat E al Tn (fun i => listed.getD i false) ρ (hp (fun i => listed.getD i false)) a w →
      wpAny E.P .any al.toArray (WK E.P E.Q k) fuel listed a w := by
    intro fuel
    induction fuel with
    | zero =>
      intro listed ρ a w hsz hf hdown hD
      have hall : ∀ i, i < al.length → listed.getD i false = true := by
        intro i hi
        have hnil := List.eq_nil_of_length_eq_zero hf
        rw [List.filter_eq_nil_iff] at hnil
        have := hnil i (List.mem_range.2 hi)
        have hi' : i < listed.size := by omega
        simp [Array.getD, hi'] at this ⊢
        exact this
      refine ⟨?_, hk _ hall ρ a w ⟨hD.hs, ⟨fun t v hv => hD.val t v hv fun i o hi _ => hall i ?_, hD.num, hD.def0⟩, hD.base⟩⟩
      · unfold Region.ready
        rw [List.filter_eq_nil_iff]
        intro i hi
        simp only [List.size_toArray, List.mem_range] at hi
        have := hall i hi
        have hi' : i < listed.size := by omega
        simp [Array.getD, hi'] at this ⊢
        intro h; rw [this] at h; simp at h
      · rcases Nat.lt_or_ge i al.length with h1 | h1
        · exact h1
        · rw [List.getElem?_eq_none h1] at hi; simp at hi
    | succ fuel ih =>
      intro listed ρ a w hsz hf hdown hD
      refine ⟨fun hr => ?_, fun j hj => ?_⟩
      · -- somebody is ready
        exfalso
        have hex : ∃ i, i < al.length ∧ listed.getD i false = false := by
          have : ((List.range al.length).filter fun i => !(listed.getD i true)) ≠ [] := by intro h; rw [h] at hf; simp at hf
          obtain ⟨i, hi⟩ := List.exists_mem_of_ne_nil _ this
          rw [List.mem_filter, List.mem_range] at hi
          refine ⟨i, hi.1, ?_⟩
          have hi' : i < listed.size := by omega
          have := hi.2
          simp [Array.getD, hi'] at this ⊢
          exact this
        have hmin : ∀ n, ∀ i, i = n → i < al.length → listed.getD i false = false → False := by
          intro n
          induction n using Nat.strongRecOn with
          | _ n ihn =>
            intro i hin hi hli
            have hmem : i ∉ Region.ready .any al.toArray listed := by rw [hr]; simp
            unfold Region.ready at hmem
            rw [List.mem_filter] at hmem
            apply hmem
            simp only [List.size_toArray, List.mem_range]
            refine ⟨hi, ?_⟩
            have hi' : i < listed.size := by omega
            have ho : al[i]? = some al[i] := List.getElem?_eq_getElem hi
            simp only [Bool.and_eq_true, Bool.not_eq_true', List.getElem?_toArray, ho, Option.map_some, Option.getD_some, Array.all_eq_true']
            refine ⟨by simp [Array.getD, hi'] at hli ⊢; exact hli, ?_⟩
            intro e he
            by_cases hb : Region.binds .any e = true
            · simp only [hb, Bool.not_true, Bool.false_or]
              have hbo : bindsOn al[i] e.on = true := by
                simp only [bindsOn, List.any_eq_true, Bool.and_eq_true]
                exact ⟨e, by simpa using he, hb, Nat.beq_refl _⟩
              have hlt := hback i _ ho e.on hbo
              cases hle : listed.getD e.on false with
              | true => rfl
              | false => exact (ihn e.on (by omega) e.on rfl (by omega) hle).elim
            · simp only [Bool.not_eq_true] at hb; simp [hb]
        obtain ⟨i, hi1, hi2⟩ := hex
        exact hmin i i rfl hi1 hi2
      · unfold Region.ready at hj
        rw [List.mem_filter] at hj
        simp only [List.size_toArray, List.mem_range] at hj
        obtain ⟨hjn, hjr⟩ := hj
        have hj' : j < listed.size := by omega
        have ho : al[j]? = some al[j] := List.getElem?_eq_getElem hjn
        simp only [Bool.and_eq_true, Bool.not_eq_true', List.getElem?_toArray, ho, Option.map_some, Option.getD_some, Array.all_eq_true'] at hjr
        have hjl : listed.getD j false = false := by have := hjr.1; simp [Array.getD, hj'] at this ⊢; exact this
        have hdeps : ∀ i, bindsOn al[j] i = true → listed.getD i false = true := by
          intro i hi
          simp only [bindsOn, List.any_eq_true, Bool.and_eq_true] at hi
          obtain ⟨e, he1, he2, he3⟩ := hi
          have := hjr.2 e (by simpa using he1)
          rw [he2] at this
          have h3 := Nat.eq_of_beq_eq_true he3
          subst h3
          simpa using this
        have hD' : (fun i => (listed.setIfInBounds j true).getD i false) = fun i => listed.getD i false || Nat.beq i j := by
          funext i
          by_cases e : j = i
          · subst e; simp [Array.getD, hj', Nat.beq_refl]
          · have hb : Nat.beq i j = false := by
              cases h : Nat.beq i j with
              | false => rfl
              | true => exact absurd (Nat.eq_of_beq_eq_true h).symm e
            rw [hb]
            by_cases hi : i < listed.size
            · simp [Array.getD, hi, e]
            · simp [Array.getD, hi]
        have hcount : ((List.range al.length).filter fun i => !((listed.setIfInBounds j true).getD i true)).length = fuel := by
          have h1 : (List.range al.length).filter (fun i => !(listed.getD i true)) = (List.range al.length).filter (fun i => !(listed.getD i true)) := rfl
          have hperm : ∀ l : List Nat, l.Nodup → (∀ i ∈ l, i < al.length) → j ∈ l → (l.filter fun i => !(listed.getD i true)).length = (l.filter fun i => !((listed.setIfInBounds j true).getD i true)).length + 1 := by
            intro l
            induction l with
            | nil => intro _ _ h; simp at h
            | cons x r ihr =>
              intro hnd hlt hmem
              rw [List.nodup_cons] at hnd
              by_cases e : x = j
              · subst e
                have h2 : (!(listed.getD x true)) = true := by simpa using hjr.1
                have h3 : (!((listed.setIfInBounds x true).getD x true)) = false := by simp [Array.getD, hj']
                rw [List.filter_cons, List.filter_cons, h2, h3]
                simp only [if_true, List.length_cons]
                congr 1
                apply congrArg List.length
                apply List.filter_congr
                intro i hi
                have : x ≠ i := by intro e; subst e; exact hnd.1 hi
                by_cases hil : i < listed.size
                · simp [Array.getD, hil, this]
                · simp [Array.getD, hil]
              · have hm' : j ∈ r := by simp at hmem; rcases hmem with h | h; exact absurd h.symm e; exact h
                have ih2 := ihr hnd.2 (fun i hi => hlt i (by simp [hi])) hm'
                have h4 : (!(listed.getD x true)) = (!((listed.setIfInBounds j true).getD x true)) := by
                  have : j ≠ x := fun h => e h.symm
                  by_cases hil : x < listed.size
                  · simp [Array.getD, hil, this]
                  · simp [Array.getD, hil]
                rw [List.filter_cons, List.filter_cons, ← h4]
                split
                · rw [List.length_cons, List.length_cons, ih2]
                · exact ih2
          have := hperm (List.range al.length) List.nodup_range (fun i hi => List.mem_range.1 hi) (List.mem_range.2 hjn)
          omega
        have hdown' : Down al (fun i => (listed.setIfInBounds j true).getD i false) := by
          rw [hD']
          intro i o hi hDi i' hb
          simp only [Bool.or_eq_true] at hDi ⊢
          rcases hDi with h | h
          · exact .inl (hdown i o hi h i' hb)
          · have := Nat.eq_of_beq_eq_true h; subst this
            rw [ho] at hi; simp at hi; subst hi
            exact .inl (hdeps i' hb)
        refine hstep _ j _ hdown ho hjl hdeps (fun i hi => ?_) _ ρ a w _ _ hD hdeps hjl fun ρ' a' w' hD2 => ?_
        · rcases Nat.lt_or_ge i al.length with h1 | h1
          · exact h1
          · have : ¬ i < listed.size := by omega
            simp [Array.getD, this] at hi
        · refine ih _ ρ' a' w' (by simpa using hsz) hcount hdown' ?_
          rw [hD']; exact hD2
  have hz : (fun i => (Array.replicate al.toArray.size false).getD i false) = fun _ => false := by
    funext i
    by_cases h : i < al.length <;> simp [Array.getD, h]
  refine key _ _ ρ a { w with drawn := w.drawn + 1 } (by simp) ?_ ?_ ?_
  · simp only [List.size_toArray]
    have : ((List.range al.length).filter fun i => !((Array.replicate al.length false).getD i true)) = List.range al.length := by
      rw [List.filter_eq_self]
      intro i hi
      have := List.mem_range.1 hi
      simp [Array.getD, this]
    rw [this]; simp
  · intro i o _ hi
    by_cases h : i < al.length <;> simp [Array.getD, h] at hi
  · rw [hz, h0]
    refine ⟨?_, ?_, hs.ts.num, hs.ts.def0, hs.base⟩
    · have h1 := hs.hs
      refine ⟨fun h o ho => ⟨SO.holds_world rfl _ (h1.objs h o ho).1, (h1.objs h o ho).2⟩, h1.size, h1.inj, h1.own, ⟨h1.fr.size, h1.fr.same, h1.fr.io⟩⟩
    · intro t v hv hav
      refine hs.ts.val t v (hT t v hv fun i o hi hd => ?_)
      have := hav i o hi hd
      simp at this
end

/-- An operation that reads, or makes, does so in a heap of more things too. -/
theorem stepV_more {TE : Nat → TI} {T : List (Nat × SV)} {H H' : List HE} {op : Op} {e : Eff} (hm : ∀ h o, getH H h = some o → getH H' h = some o) (he : stepV TE T H op = some e) (hs : ∀ ob h o, e ≠ .set ob h o) : stepV TE T H' op = some e := by
  have hl : ∀ i h o x, vLoad i H h o = some x → vLoad i H' h o = some x := by
    intro i h o x hx
    unfold vLoad at *
    cases hg : getH H h with
    | none => rw [hg] at hx; simp at hx
    | some q => rw [hg] at hx; rw [hm h q hg]; exact hx
  have hlr : ∀ i h o x s c y, vLoadR i H h o x s c = some y → vLoadR i H' h o x s c = some y := by
    intro i h o x s c y hx
    unfold vLoadR at *
    cases hg : getH H h with
    | none =>
      rw [hg] at hx
      have hx : vLoad i H h (o + x * s + c) = some y := hx
      unfold vLoad at hx
      rw [hg] at hx; simp at hx
    | some q =>
      rw [hg] at hx; rw [hm h q hg]
      cases q <;> first | exact hx | exact hl _ _ _ _ hx
  cases op
  case load t x =>
    simp only [stepV] at he ⊢
    split at he
    · exact hl _ _ _ _ he
    · exact hlr _ _ _ _ _ _ _ he
    · simp at he
  case store t x y =>
    exfalso
    simp only [stepV] at he
    have hst : ∀ i h o v x, vStore i H h o v = some x → ∃ ob h o, x = .set ob h o := by
      intro i h o v x hx
      unfold vStore at hx
      repeat' (split at hx)
      all_goals (first | (simp at hx; done) | (simp at hx; exact ⟨_, _, _, hx.symm⟩) | (simp only [vStoreL] at hx; repeat' (split at hx)) | (simp only [vStoreI] at hx; repeat' (split at hx)) | skip)
      all_goals (first | (simp at hx; done) | (simp at hx; exact ⟨_, _, _, hx.symm⟩) | skip)
    split at he
    · obtain ⟨ob, h, o, rfl⟩ := hst _ _ _ _ _ he; exact hs _ _ _ rfl
    · obtain ⟨ob, h, o, rfl⟩ := hst _ _ _ _ _ he; exact hs _ _ _ rfl
    · simp at he
  case slice t x lo hi mx => cases mx <;> exact he
  all_goals exact he

/-- The cells that have been made. -/
def cellsD (D : Nat → Bool) (cells : List (Nat × SO)) : List HE := cells.map fun p => bif D p.1 then .obj p.2 else .absent
def fullC (cells : List (Nat × SO)) : List HE := cells.map fun p => .obj p.2
theorem cellsD_full {D : Nat → Bool} : ∀ {cells : List (Nat × SO)}, (∀ p ∈ cells, D p.1 = true) → cellsD D cells = fullC cells
  | [], _ => rfl
  | p :: r, h => by
    have := cellsD_full (cells := r) (fun q hq => h q (by simp [hq]))
    unfold cellsD fullC at *
    simp [h p (by simp), this]
theorem cellsD_congr {D D' : Nat → Bool} : ∀ {cells : List (Nat × SO)}, (∀ p ∈ cells, D p.1 = D' p.1) → cellsD D cells = cellsD D' cells
  | [], _ => rfl
  | p :: r, h => by
    have := cellsD_congr (cells := r) (fun q hq => h q (by simp [hq]))
    unfold cellsD at *
    simp [h p (by simp), this]
def onceC : List (Nat × SO) → Bool
  | [] => true
  | p :: r => (r.all fun q => !(Nat.beq q.1 p.1)) && onceC r
theorem cellsD_set {D : Nat → Bool} {j : Nat} {o : SO} : ∀ {cells : List (Nat × SO)} {i : Nat}, onceC cells = true → cells[i]? = some (j, o) → (cellsD D cells).set i (.obj o) = cellsD (fun x => D x || Nat.beq x j) cells
  | [], i, _, h => by simp at h
  | p :: r, 0, ho, h => by
    simp at h; subst h
    simp only [onceC, Bool.and_eq_true, List.all_eq_true] at ho
    have hc : cellsD D r = cellsD (fun x => D x || Nat.beq x j) r := cellsD_congr fun q hq => by
      have := ho.1 q hq
      simp only [Bool.not_eq_true'] at this
      simp [this]
    unfold cellsD at *
    simp [hc, Nat.beq_refl]
  | p :: r, i + 1, ho, h => by
    simp only [onceC, Bool.and_eq_true, List.all_eq_true] at ho
    have ih := cellsD_set (cells := r) (i := i) (D := D) (j := j) (o := o) ho.2 (by simpa using h)
    have hm : (j, o) ∈ r := List.mem_of_getElem? (by simpa using h)
    have hb : Nat.beq p.1 j = false := by
      have := ho.1 _ hm
      simp only [Bool.not_eq_true'] at this
      cases hh : Nat.beq p.1 j with
      | false => rfl
      | true => have e := Nat.eq_of_beq_eq_true hh; rw [e, Nat.beq_refl] at this; simp at this
    unfold cellsD at *
    simp [ih, hb]
theorem HSat.rooms {w0 w : World} {bs : Nat → Prop} {ρ : Nat → Nat × Nat} : ∀ (cells : List (Nat × SO)) {H : List HE}, HSat w0 bs ρ H w →
    HSat w0 bs ρ (H ++ cellsD (fun _ => false) cells) w ∧ ∀ x, there (H ++ cellsD (fun _ => false) cells) x = there H x
  | [], H, hS => by simpa [cellsD] using hS
  | p :: r, H, hS => by
    obtain ⟨h1, h2⟩ := hS.room
    obtain ⟨h3, h4⟩ := HSat.rooms r h1
    have e : H ++ cellsD (fun _ => false) (p :: r) = (H ++ [.absent]) ++ cellsD (fun _ => false) r := by simp [cellsD]
    rw [e]
    exact ⟨h3, fun x => by rw [h4, h2]⟩

section
variable {E : Env} {al : List Oper} {Tn : List (Nat × SV)} {D : Nat → Bool} {ρ : Nat → Nat × Nat} {H : List HE} {a : Act} {w : World}
theorem dstep_fillS (hreg : regOk al = true) {j n : Nat} {o : Oper} (hj : al[j]? = some o) (hg : o.guard = none) {o' : SO} {ob : Option Bool} {l c : Nat}
    (he : stepV E.TE Tn H o.op = some (.news ob o' l c)) (hob : ob.getD true = true) (hn : H[n]? = some .absent) (hd : ∀ d, o.dst = some d → look Tn d = some (.slice n 0 l c) ∧ Nat.blt d E.nt = true) : DStep E al Tn j o H (H.set n (.obj o')) := by
  intro D ρ a w K Q hs hD hDj hK
  obtain ⟨hc1, hc2⟩ := hs.ext_cut hreg hj hD
  have hsc : stepV E.TE (cutT Tn (usesT o.op.operands.toList)) H o.op = stepV E.TE Tn H o.op := stepV_congr look_cut_eq
  rw [← hsc] at he
  unfold wpOp
  simp only [List.getElem?_toArray, hj]
  rw [if_pos (by unfold Region.wanted; rw [hg])]
  left
  obtain ⟨h1, h2, ob, h3, h4⟩ := stepV_ok E.hTE hc1.hs hc1.ts he hob
  unfold Oper.wp
  rw [h3, Oper.upon_value]
  obtain ⟨p1, p2, p3, p4⟩ := hs.hs.fill hn (ob := ob) h2 h4
  have := (hs.ext p1 p2 p3).putD hreg hj (v := .slice n 0 l c) (by
    cases hdd : o.dst with
    | none => trivial
    | some d =>
      obtain ⟨g1, g2⟩ := hd d hdd
      exact ⟨⟨_, g1, rfl, by simpa [SV.okh] using p4⟩, blt_lt g2⟩)
  simp only [SV.tr, upd, if_true, Nat.zero_add] at this
  exact hK _ _ _ this
theorem dstep_fillP (hreg : regOk al = true) {j n : Nat} {o : Oper} (hj : al[j]? = some o) (hg : o.guard = none) {o' : SO}
    (he : stepV E.TE Tn H o.op = some (.newp o')) (hn : H[n]? = some .absent) (hd : ∀ d, o.dst = some d → look Tn d = some (.ptr n 0) ∧ Nat.blt d E.nt = true) : DStep E al Tn j o H (H.set n (.obj o')) := by
  intro D ρ a w K Q hs hD hDj hK
  obtain ⟨hc1, hc2⟩ := hs.ext_cut hreg hj hD
  have hsc : stepV E.TE (cutT Tn (usesT o.op.operands.toList)) H o.op = stepV E.TE Tn H o.op := stepV_congr look_cut_eq
  rw [← hsc] at he
  unfold wpOp
  simp only [List.getElem?_toArray, hj]
  rw [if_pos (by unfold Region.wanted; rw [hg])]
  left
  obtain ⟨h1, h2, ob, h3, h4⟩ := stepV_ok E.hTE hc1.hs hc1.ts he
  unfold Oper.wp
  rw [h3, Oper.upon_value]
  obtain ⟨p1, p2, p3, p4⟩ := hs.hs.fill hn (ob := ob) h2 h4
  have := (hs.ext p1 p2 p3).putD hreg hj (v := .ptr n 0) (by
    cases hdd : o.dst with
    | none => trivial
    | some d =>
      obtain ⟨g1, g2⟩ := hd d hdd
      exact ⟨⟨_, g1, rfl, by simpa [SV.okh] using p4⟩, blt_lt g2⟩)
  simp only [SV.tr, upd, if_true, Nat.zero_add] at this
  exact hK _ _ _ this
end

/-- What is neither a cell nor the call. -/
def quietC (TE : Nat → TI) (nt : Nat) (al : List Oper) (Tn : List (Nat × SV)) (H : List HE) (sk : List Nat) : Nat → List Oper → Prop
  | _, [] => True
  | i, o :: r => (match memN i sk with | true => True | false => qProp TE nt al Tn H o) ∧ quietC TE nt al Tn H sk (i + 1) r
theorem quietC_get {TE : Nat → TI} {nt : Nat} {al : List Oper} {Tn : List (Nat × SV)} {H : List HE} {sk : List Nat} : ∀ {l : List Oper} {i : Nat}, quietC TE nt al Tn H sk i l → ∀ {j : Nat} {o : Oper}, l[j]? = some o → memN (i + j) sk = false → qProp TE nt al Tn H o
  | [], i, _, j, o, h, _ => by simp at h
  | x :: r, i, hq, 0, o, h, hm => by
    simp at h; subst h
    have := hq.1
    rw [show i + 0 = i from rfl] at hm
    rw [hm] at this
    exact this
  | x :: r, i, hq, j + 1, o, h, hm => quietC_get hq.2 (j := j) (by simpa using h) (by rw [show i + 1 + j = i + (j + 1) from by omega]; exact hm)
def cellC (TE : Nat → TI) (nt : Nat) (Tn : List (Nat × SV)) (n : Nat) (o : Oper) (o' : SO) : Prop := o.guard = none ∧ match o.dst, stepV TE Tn [] o.op with
  | some d, some (.newp x) => x = o' ∧ look Tn d = some (.ptr n 0) ∧ Nat.blt d nt = true
  | some d, some (.news ob x l c) => ob.getD true = true ∧ x = o' ∧ look Tn d = some (.slice n 0 l c) ∧ Nat.blt d nt = true
  | _, _ => False
def cellsC (TE : Nat → TI) (nt : Nat) (al : List Oper) (Tn : List (Nat × SV)) : Nat → List (Nat × SO) → Prop
  | _, [] => True
  | n, p :: r => (match al[p.1]? with | some o => cellC TE nt Tn n o p.2 | none => False) ∧ cellsC TE nt al Tn (n + 1) r
theorem cellsC_get {TE : Nat → TI} {nt : Nat} {al : List Oper} {Tn : List (Nat × SV)} : ∀ {cells : List (Nat × SO)} {n : Nat}, cellsC TE nt al Tn n cells → ∀ {i j : Nat} {o : SO}, cells[i]? = some (j, o) → ∃ p, al[j]? = some p ∧ cellC TE nt Tn (n + i) p o
  | [], n, _, i, j, o, h => by simp at h
  | x :: r, n, hc, 0, j, o, h => by
    simp at h; subst h
    have := hc.1
    split at this
    · rename_i p hp; exact ⟨p, hp, this⟩
    · exact this.elim
  | x :: r, n, hc, i + 1, j, o, h => by
    obtain ⟨p, h1, h2⟩ := cellsC_get hc.2 (i := i) (by simpa using h)
    exact ⟨p, h1, by rw [show n + (i + 1) = n + 1 + i from by omega]; exact h2⟩

def keysC (al : List Oper) (B : List (Nat × SV)) : Bool := B.all fun p => al.any fun o => match o.dst with | some d => Nat.beq d p.1 | none => false
theorem look_keys {al : List Oper} {T : List (Nat × SV)} : ∀ {B : List (Nat × SV)}, keysC al B = true → ∀ {t : Nat} {v : SV}, look (B ++ T) t = some v → (∀ (i : Nat) (o : Oper), al[i]? = some o → o.dst ≠ some t) → look T t = some v
  | [], _, t, v, h, _ => h
  | (k, u) :: r, hk, t, v, h, hno => by
    unfold keysC at hk
    simp only [List.all_cons, Bool.and_eq_true] at hk
    rw [List.cons_append, look_cons] at h
    split at h
    · rename_i e
      exfalso
      have h1 := hk.1
      simp only [List.any_eq_true] at h1
      obtain ⟨o, ho, hd⟩ := h1
      obtain ⟨i, hi⟩ := List.getElem?_of_mem ho
      split at hd
      · rename_i d hdd
        have := Nat.eq_of_beq_eq_true hd
        exact hno i o hi (by rw [hdd, this, e])
      · simp at hd
    · exact look_keys hk.2 h hno
def callC (X : Tabs) (nt : Nat) (al : List Oper) (Tn : List (Nat × SV)) (jc f : Nat) (as : List SV) (V : SV) (N : List HE) : Prop :=
  match al[jc]? with
  | some o => match o.op with
    | .call c => (guardF al Tn o.guard = 0 ∧ calleeF Tn c = some (f, as)) ∧ (SV.okhs (fun _ => false) as = true ∧ newOk N = true) ∧ (∃ fn, X.FT f = some fn) ∧ (match o.dst with | some d => look Tn d = some V ∧ Nat.blt d nt = true | none => True)
    | _ => False
  | none => False

section
variable {P : Program} {X : Tabs} (hX : TOk P X)
variable {Wb : (Nat → Nat × Nat) → World → Prop} {R : SV → List HE → Prop} {fn : Func} {nt : Nat} {H0 : List HE} {k : List KI} {T : List (Nat × SV)} {H : List HE} {cs : List Ch} {fs : List Fm}
/-- A region that draws, where cells are made without order against a call that needs none of them. -/
theorem ss_drawC (B : List (Nat × SV)) (cells : List (Nat × SO)) (jc f : Nat) (as : List SV) (V0 : SV) (N : List HE) (cs' : List Ch) {cs0 : List Ch} {id : Nat} {ops : Array Oper}
    (hreg : regOk ops.toList = true) (hkeys : keysC ops.toList B = true) (hone : onceC cells = true) (hjc : memN jc (cells.map (·.1)) = false)
    (hq : quietC X.TE nt ops.toList (B ++ T) (H ++ cellsD (fun _ => false) cells) (jc :: cells.map (·.1)) 0 ops.toList)
    (hcl : cellsC X.TE nt ops.toList (B ++ T) H.length cells) (hG : Gives P f as [] (Is V0 N))
    (hcall : callC X nt ops.toList (B ++ T) jc f as (V0.ren (sig [] (H.length + cells.length))) N)
    (hs : SS hX Wb R ⟨cs', fs, fn, nt, H0, k, B ++ T, H ++ fullC cells ++ N.map (HE.ren (sig [] (H.length + cells.length)))⟩) :
    SS hX Wb R ⟨cs0, fs, fn, nt, H0, .code (.region id ops true) :: k, T, H⟩ := by
  intro ρ0 w0 hw ρ a w hsat
  simp only [WK]
  have hs1 := hs ρ0 w0 hw
  generalize hal : ops.toList = al at *
  obtain ⟨hr1, hr2⟩ := HSat.rooms cells hsat.hs
  have hlenD : ∀ D : Nat → Bool, (cellsD D cells).length = cells.length := fun D => by simp [cellsD]
  have hs' : Sat (FEnv P X.TE hX.te fn nt H0 (Rof hX Wb R fs) ρ0 w0) ρ T (H ++ cellsD (fun _ => false) cells) a w := by
    have hfun : there (H ++ cellsD (fun _ => false) cells) = there H := funext hr2
    exact ⟨hr1, by rw [hfun]; exact hsat.ts, fun x hx => by obtain ⟨q1, q2⟩ := hsat.base x hx; exact ⟨q1, by rw [hfun]; exact q2⟩⟩
  have := draw_anyD (E := FEnv P X.TE hX.te fn nt H0 (Rof hX Wb R fs) ρ0 w0) (Tn := B ++ T) (k := k)
    (hp := fun D => H ++ cellsD D cells ++ bif D jc then N.map (HE.ren (sig [] (H.length + cells.length))) else []) hreg (by simp) (fun t v hv hno => look_keys hkeys hv hno) (fun D j o hdown hj hDj hdeps hlt => ?_) (fun D hall => ?_) ρ a w hs'
  · have h2 := wp_region_any (id := id) hX.mo this
    rw [← hal, Array.toArray_toList] at h2
    exact h2
  · by_cases hjj : j = jc
    · subst hjj
      have hcj : cellsD (fun i => D i || Nat.beq i j) cells = cellsD D cells := (cellsD_congr fun p hp => by
        have : Nat.beq p.1 j = false := by
          cases hh : Nat.beq p.1 j with
          | false => rfl
          | true =>
            have e := Nat.eq_of_beq_eq_true hh
            have : memN j (cells.map (·.1)) = true := memN_iff.2 (List.mem_map.2 ⟨p, hp, e⟩)
            rw [hjc] at this; simp at this
        simp [this]).symm
      have hG' := frame0 (H := H ++ cellsD D cells) ⟨_, hX.te⟩ hG
      unfold callC at hcall
      rw [hj] at hcall
      simp only at hcall
      split at hcall
      · rename_i c hop
        obtain ⟨⟨c1, c2⟩, ⟨c3, c4⟩, ⟨fn', c5⟩, c6⟩ := hcall
        obtain ⟨q1, q2, q3⟩ := hX.ft f fn' c5
        have e1 : nm [] (H ++ cellsD D cells) = sig [] (H.length + cells.length) := by unfold nm; rw [List.length_append, hlenD]
        have hG2 := hG' c3 c4
        rw [e1] at hG2
        simp only [hDj, cond_false, List.append_nil, hcj, Bool.false_or, Nat.beq_refl, cond_true]
        exact dstep_call hreg hj c1 hop c2 q1 q3 q2 hG2 (fun d hd => by rw [hd] at c6; exact c6)
      · exact hcall.elim
    · have hbj : Nat.beq jc j = false := by
        cases hh : Nat.beq jc j with
        | false => rfl
        | true => exact absurd (Nat.eq_of_beq_eq_true hh).symm hjj
      simp only [hbj, Bool.or_false]
      by_cases hm : j ∈ cells.map (·.1)
      · obtain ⟨⟨j', o'⟩, hpm, he⟩ := List.mem_map.1 hm
        simp only at he; subst he
        obtain ⟨i, hi⟩ := List.getElem?_of_mem hpm
        obtain ⟨p, hp1, hp2⟩ := cellsC_get hcl hi
        rw [hj] at hp1; simp at hp1; subst hp1
        have hil : i < cells.length := by
          rcases Nat.lt_or_ge i cells.length with h1 | h1
          · exact h1
          · rw [List.getElem?_eq_none h1] at hi; simp at hi
        have hset : (H ++ cellsD D cells ++ bif D jc then N.map (HE.ren (sig [] (H.length + cells.length))) else []).set (H.length + i) (.obj o') = H ++ cellsD (fun x => D x || Nat.beq x j') cells ++ bif D jc then N.map (HE.ren (sig [] (H.length + cells.length))) else [] := by
          rw [List.set_append_left _ _ (by simp [hlenD]; omega), List.set_append_right _ _ (by omega), Nat.add_sub_cancel_left, cellsD_set hone hi]
        have habs : (H ++ cellsD D cells ++ bif D jc then N.map (HE.ren (sig [] (H.length + cells.length))) else [])[H.length + i]? = some .absent := by
          rw [List.getElem?_append_left (by simp [hlenD]; omega), List.getElem?_append_right (by omega), Nat.add_sub_cancel_left]
          unfold cellsD
          rw [List.getElem?_map, hi]
          simp [hDj]
        rw [← hset]
        unfold cellC at hp2
        obtain ⟨hg, hp3⟩ := hp2
        split at hp3
        · rename_i d x hd hst
          obtain ⟨rfl, g1, g2⟩ := hp3
          exact dstep_fillP hreg hj hg (stepV_more (fun h o hh => by simp [getH] at hh) hst (fun _ _ _ e => by simp at e)) habs (fun d' hd' => by rw [hd] at hd'; simp at hd'; subst hd'; exact ⟨g1, g2⟩)
        · rename_i d ob x l c hd hst
          obtain ⟨g0, rfl, g1, g2⟩ := hp3
          exact dstep_fillS hreg hj hg (stepV_more (fun h o hh => by simp [getH] at hh) hst (fun _ _ _ e => by simp at e)) g0 habs (fun d' hd' => by rw [hd] at hd'; simp at hd'; subst hd'; exact ⟨g1, g2⟩)
        · exact hp3.elim
      · have hcj : cellsD (fun i => D i || Nat.beq i j) cells = cellsD D cells := (cellsD_congr fun p hp => by
          have : Nat.beq p.1 j = false := by
            cases hh : Nat.beq p.1 j with
            | false => rfl
            | true => exact absurd (List.mem_map.2 ⟨p, hp, Nat.eq_of_beq_eq_true hh⟩) hm
          simp [this]).symm
        rw [hcj]
        have hmm : memN (0 + j) (jc :: cells.map (·.1)) = false := by
          cases hh : memN (0 + j) (jc :: cells.map (·.1)) with
          | false => rfl
          | true =>
            have := memN_iff.1 hh
            rw [Nat.zero_add] at this
            simp only [List.mem_cons] at this
            rcases this with h1 | h1
            · exact absurd h1 hjj
            · exact absurd h1 hm
        have hqq := quietC_get hq hj hmm
        refine dstep_quiet hreg hj ?_
        have hmore : ∀ h o, getH (H ++ cellsD (fun _ => false) cells) h = some o → getH (H ++ cellsD D cells ++ bif D jc then N.map (HE.ren (sig [] (H.length + cells.length))) else []) h = some o := by
          intro h o hh
          rw [getH_some] at hh ⊢
          rcases Nat.lt_or_ge h H.length with h1 | h1
          · rw [List.getElem?_append_left h1] at hh
            rw [List.append_assoc, List.getElem?_append_left h1]; exact hh
          · rw [List.getElem?_append_right h1] at hh
            unfold cellsD at hh
            simp at hh
        unfold qProp at *
        split at hqq
        · exact hqq
        · split at hqq
          · rename_i ob v hst
            have := stepV_more hmore hst (fun _ _ _ e => by simp at e)
            show (match stepV X.TE (B ++ T) _ o.op with | some (.val ob v) => _ | _ => False)
            rw [this]; exact hqq
          · exact hqq.elim
        · exact hqq.elim
  · have hcj := cellsD_full (D := D) (cells := cells) (fun p hp => by
      obtain ⟨i, hi⟩ := List.getElem?_of_mem hp
      obtain ⟨q, hq1, _⟩ := cellsC_get hcl (j := p.1) (o := p.2) hi
      refine hall _ ?_
      rcases Nat.lt_or_ge p.1 al.length with h1 | h1
      · exact h1
      · rw [List.getElem?_eq_none h1] at hq1; simp at hq1)
    have hcD : D jc = true := by
      refine hall _ ?_
      rcases Nat.lt_or_ge jc al.length with h1 | h1
      · exact h1
      · unfold callC at hcall; rw [List.getElem?_eq_none h1] at hcall; exact hcall.elim
    simp only [hcj, hcD, cond_true]
    exact hs1
end
end Go.Hx

