/- The heap machine: calls, regions that draw their order, and the way back to the row; for every program. -/
import Derived.Test.YtbmjhlgkddhhnaaHxa
/-
  Calls of functions, by what they give.
-/
namespace Go.Hx
open Go

theorem trs_append {ρ : Nat → Nat × Nat} (l m : List SV) : SV.trs ρ (l ++ m) = SV.trs ρ l ++ SV.trs ρ m := by simp [trs_eq_map]
theorem okhs_append {A : Nat → Bool} (l m : List SV) : SV.okhs A (l ++ m) = (SV.okhs A l && SV.okhs A m) := by
  induction l with
  | nil => simp [SV.okhs]
  | cons v r ih => simp [SV.okhs, ih, Bool.and_assoc]

def subC (σ : Nat → Nat) (H : List HE) : Nat → List HE → Prop
  | _, [] => True
  | i, .obj o :: r => getH H (σ i) = some (o.ren σ) ∧ subC σ H (i + 1) r
  | _, _ :: _ => False
theorem subC_get {σ : Nat → Nat} {H : List HE} : ∀ {Hc : List HE} {i : Nat}, subC σ H i Hc → ∀ (h : Nat) (o : SO), Hc[h]? = some (.obj o) → H[σ (i + h)]? = some (.obj (o.ren σ))
  | [], i, _, h, o, ho => by simp at ho
  | .absent :: _, i, hs, h, o, ho => hs.elim
  | .opq :: _, i, hs, h, o, ho => hs.elim
  | .obj u :: r, i, hs, h, o, ho => by
    cases h with
    | zero => simp at ho; subst ho; exact getH_some.1 hs.1
    | succ h =>
      have := subC_get hs.2 h o (by simpa using ho)
      rw [show i + 1 + h = i + (h + 1) from by omega] at this
      exact this

/-- The names of a call's own heap, in the caller's. -/
def nm (σs : List Nat) (H : List HE) : Nat → Nat := sig σs H.length

theorem Oper.upon_enter' {P : Program} {o : Oper} {a : Act} {next : Act → World → Prop} {Q : Exit → Act → World → Prop} {f : Nat} {args : Array Value} {w : World} {R : Ending → World → Prop}
    (h : Calls P f args w R) (h1 : ∀ v w', R (.returned v) w' → next (a.put o.dst v) w') (h2 : ∀ c w', ¬ R (.panicked c) w') (h3 : ∀ w', ¬ R .outgrown w') :
    o.upon P a next Q (.ok (.enter f args) w) := by
  rw [Oper.upon_enter]
  refine Calls.mono h fun e w' he => ?_
  cases e with
  | returned v => exact h1 v w' he
  | panicked c => exact (h2 c w' he).elim
  | outgrown => exact (h3 w' he).elim

theorem sw_enter {E : Env} {all r : List Oper} {k : List KI} {o : Oper} {T : List (Nat × SV)} {H : List HE} {f : Nat} {as cargs : List SV} {Hc : List HE} {R : SV → List HE → Prop} (d : Nat)
    (hd : o.dst = some d) (hlt : Nat.blt d E.nt = true)
    (hg : guardF all T o.guard = 0)
    (hrun : ∀ ρ a w, Sat E ρ T H a w → (execOp a.eval o).run E.P w = .ok (.enter f (SV.trs ρ as).toArray) w ∧ SV.okhs (there H) as = true)
    (hF : Gives E.P f cargs Hc R) (σs : List Nat) (hargs : as = SV.rens (nm σs H) cargs) (hcok : SV.okhs (thereF Hc) cargs = true)
    (hlen : Nat.beq σs.length Hc.length = true) (hobj : allObj Hc = true) (hokc : okHs (thereF Hc) Hc = true) (hnd : nodupN σs = true) (hsub : subC (nm σs H) H 0 Hc)
    (hk : ∀ v Hn, R v Hn → newOk (Hn.drop σs.length) = true ∧ SW E (.ops all r :: k) ((d, v.ren (nm σs H)) :: T) (merge (nm σs H) σs H Hn)) :
    SW E (.ops all (o :: r) :: k) T H := by
  intro ρ a w hs
  refine wpList_of_wp (guard_wanted hs hg) ?_
  obtain ⟨hr1, hr2⟩ := hrun ρ a w hs
  unfold Oper.wp
  rw [hr1]
  have hfun : thereF Hc = there Hc := funext (thereF_eq Hc)
  rw [hfun] at hcok hokc
  have hlen' := Nat.eq_of_beq_eq_true hlen
  have hsub' : ∀ (h : Nat) (o : SO), Hc[h]? = some (.obj o) → H[sig σs H.length h]? = some (.obj (o.ren (sig σs H.length))) := fun h o ho => by
    have := subC_get hsub h o ho
    simpa [nm] using this
  have hthc : ∀ h, there Hc h = true → there H (sig σs H.length h) = true := fun h hh => by
    obtain ⟨o, ho⟩ := allObj_get hobj (there_lt hh)
    exact there_of_obj (hsub' h o ho)
  have hSc : HSat w (Own (fun x => ρ (sig σs H.length x)) Hc) (fun x => ρ (sig σs H.length x)) Hc w := by
    refine ⟨fun h o ho => ⟨(SO.holds_ren o).1 (hs.hs.objs _ _ (hsub' h o ho)).1, okHs_get hokc ho⟩, fun h hh => hs.hs.size _ (hthc h hh), ?_, fun h o ho hoo => .inl ⟨h, o, ho, hoo, rfl⟩, Fr.refl _ _⟩
    intro h h' hh hh' e
    have := hs.hs.inj _ _ (hthc h hh) (hthc h' hh') e
    have l1 : h < σs.length := by rw [hlen']; exact there_lt hh
    have l2 : h' < σs.length := by rw [hlen']; exact there_lt hh'
    have g1 := sig_lt (b := H.length) l1
    have g2 := sig_lt (b := H.length) l2
    rw [this] at g1
    exact nodupN_get hnd g1 g2
  have hC := hF (fun x => ρ (sig σs H.length x)) w hSc hcok
  have he : SV.trs ρ as = SV.trs (fun x => ρ (sig σs H.length x)) cargs := by rw [hargs, trs_rens]; rfl
  rw [he]
  refine Oper.upon_enter' hC ?_ (fun c w' h => h) (fun w' h => h)
  rintro V w' ⟨ρc, Hn, v, hR, rfl, hvok, hSn, hb⟩
  obtain ⟨hk1, hk2⟩ := hk v Hn hR
  obtain ⟨ρ', m1, m2, m3, m4⟩ := merge_sat hs hlen' hobj hnd hsub' hSn hb hk1
  rw [hd]
  refine hk2 ρ' _ w' ⟨m1, ?_, ?_⟩
  · have ht := (hs.ts.ext m2 m3).put (v := v.ren (nm σs H)) (blt_lt hlt) (by
      rw [okh_ren]
      exact okh_mono (fun h hh => (m4 h hh).2) v hvok)
    rw [tr_ren] at ht
    have e2 : v.tr (fun x => ρ' (nm σs H x)) = v.tr ρc := tr_congr (fun h hh => (m4 h hh).1) v hvok
    rw [e2] at ht
    exact ht
  · intro x hx
    obtain ⟨q1, q2⟩ := hs.base x hx
    exact ⟨by rw [← m2 x q2]; exact q1, m3 x q2⟩

/-- What is called, and with what, where it is a function of the program's own. -/
def calleeF (T : List (Nat × SV)) (c : Call) : Option (Nat × List SV) :=
  match c.callee with
  | .value x => match ev T x, evs T c.args.toList with
    | some (.func (.func f) first cap), some as => some (f, first ++ as ++ cap)
    | _, _ => none
  | _ => none

theorem callee_run {E : Env} {T : List (Nat × SV)} {H : List HE} {o : Oper} {c : Call} {f : Nat} {as : List SV} {fn : Func} (hop : o.op = .call c) (hc : calleeF T c = some (f, as))
    (hf : E.P.funcs[f]? = some fn) (hbody : fn.body.isSome = true) (hname : (fn.name == "runtime.NumGoroutine") = false) :
    ∀ ρ a w, Sat E ρ T H a w → (execOp a.eval o).run E.P w = .ok (.enter f (SV.trs ρ as).toArray) w ∧ SV.okhs (there H) as = true := by
  intro ρ a w hs
  unfold calleeF at hc
  split at hc
  · rename_i x hcal
    split at hc
    · rename_i f' first cap as' hx has
      simp at hc
      obtain ⟨rfl, rfl⟩ := hc
      obtain ⟨h1, h2⟩ := ev_tr hs.ts hx
      obtain ⟨h3, h4⟩ := evs_tr hs.ts has
      simp only [SV.okh, Bool.and_eq_true] at h2
      refine ⟨?_, by simp [okhs_append, h2, h4]⟩
      have hmap : c.args.map a.eval = (SV.trs ρ as').toArray := by rw [toArr_map, h3]
      have hnone : ¬ fn.body = none := by intro e; rw [e] at hbody; simp at hbody
      simp only [execOp, hop, Sem.run_bind]
      simp only [resolve, hcal, h1, SV.tr, Deferred.ofValue, hmap, Sem.run_pure, Result.andThen_ok, invoke, callFunc, Sem.run_bind, run_program, hf]
      have hn' : ¬ fn.name = "runtime.NumGoroutine" := by intro e; rw [e] at hname; simp at hname
      simp [hn', hnone, trs_append]
    · simp at hc
  · simp at hc

end Go.Hx

/-
  The table of types, as a tree.
-/
namespace Go.Hx
open Go

inductive Tr where
  | leaf (i : TI)
  | node (l r : Tr)
def Tr.get : Tr → Nat → TI
  | .leaf i, 0 => i
  | .leaf _, _ + 1 => TI.none
  | .node l r, t => match t % 2 with
    | 0 => l.get (t / 2)
    | _ => r.get (t / 2)

/-- Every leaf holds of its type: the type's number is b + i * (where in the tree). -/
def Tr.check (P : Program) : Tr → Nat → Nat → Bool
  | .leaf i, b, _ => checkT P b i
  | .node l r, b, s => l.check P b (2 * s) && r.check P (b + s) (2 * s)

theorem checkT_none (P : Program) (t : Nat) : checkT P t TI.none = true := by simp [checkT, TI.none]

theorem Tr.check_get {P : Program} : ∀ {x : Tr} {b s : Nat}, x.check P b s = true → ∀ t, checkT P (b + s * t) (x.get t) = true
  | .leaf i, b, s, h, 0 => by simpa [Tr.get, Tr.check] using h
  | .leaf i, b, s, h, t + 1 => by simp only [Tr.get]; exact checkT_none P _
  | .node l r, b, s, h, t => by
    simp only [Tr.check, Bool.and_eq_true] at h
    simp only [Tr.get]
    split
    · rename_i h0
      have := Tr.check_get h.1 (t / 2)
      rw [show b + s * t = b + 2 * s * (t / 2) from by
        have : t = 2 * (t / 2) := by omega
        conv => lhs; rw [this]
        rw [Nat.mul_comm 2 s, Nat.mul_assoc]]
      exact this
    · rename_i h0
      have := Tr.check_get h.2 (t / 2)
      rw [show b + s * t = b + s + 2 * s * (t / 2) from by
        have h1 : t % 2 = 1 := by
          rcases Nat.mod_two_eq_zero_or_one t with h2 | h2
          · exact absurd h2 (by simpa using h0)
          · exact h2
        have : t = 2 * (t / 2) + 1 := by omega
        conv => lhs; rw [this]
        rw [Nat.mul_add, Nat.mul_one, Nat.mul_comm 2 s, Nat.mul_assoc]
        omega]
      exact this

theorem te_of_check {P : Program} {x : Tr} (h : x.check P 0 1 = true) (t : Nat) : TIok P t (x.get t) := by
  have := Tr.check_get h t
  rw [Nat.zero_add, Nat.one_mul] at this
  exact TIok.of_check this

/-- One way on, with the heap and the names written out. -/
theorem sw_conv {E : Env} {k : List KI} {T T' : List (Nat × SV)} {H H' : List HE} (hT : T = T') (hH : H = H') (h : SW E k T' H') : SW E k T H := by
  rw [hT, hH]; exact h

end Go.Hx

/-
  A region that draws its order: whatever the order, the same is known behind it.
-/
namespace Go.Hx
open Go

def sameV' : SV → Option SV → Prop
  | .bool b, some .tt => b = true
  | .bool b, some .ff => b = false
  | v, u => u = some v

theorem sameV'_tr {ρ : Nat → Nat × Nat} {A : Nat → Bool} {v u : SV} (h : sameV' v (some u)) (hv : v.okh A = true) : v.tr ρ = u.tr ρ ∧ u.okh A = true := by
  unfold sameV' at h
  split at h
  · rename_i h1; simp at h1; subst h1; subst h; simp [SV.tr, SV.okh]
  · rename_i h1; simp at h1; subst h1; subst h; simp [SV.tr, SV.okh]
  · simp at h; subst h; exact ⟨rfl, hv⟩

structure DSat (E : Env) (al : List Oper) (Tn : List (Nat × SV)) (D : Nat → Bool) (ρ : Nat → Nat × Nat) (H : List HE) (a : Act) (w : World) : Prop where
  hs : HSat E.w0 E.bs ρ H w
  val : ∀ t v, look Tn t = some v → (∀ (i : Nat) (o : Oper), al[i]? = some o → o.dst = some t → D i = true) → a.tmps[t]? = some (v.tr ρ) ∧ v.okh (there H) = true
  num : a.tmps.size = E.nt
  def0 : a.defers = []
  base : Base E ρ H

def bindsOn (o : Oper) (i : Nat) : Bool := o.after.toList.any fun e => Region.binds .any e && Nat.beq e.on i

/-- Temporaries that an operation looks at. -/
def usesT (l : List Operand) : List Nat :=
  match l with
  | [] => []
  | .tmp t :: r => t :: usesT r
  | .const _ :: r => usesT r
  | .global _ :: r => usesT r
  | .func _ :: r => usesT r
theorem usesT_mem : ∀ {l : List Operand} {t : Nat}, Operand.tmp t ∈ l → t ∈ usesT l
  | .tmp u :: r, t, h => by simp at h; simp [usesT]; rcases h with h | h; exact .inl h; exact .inr (usesT_mem h)
  | .const _ :: r, t, h => by simp at h; simp [usesT]; exact usesT_mem h
  | .global _ :: r, t, h => by simp at h; simp [usesT]; exact usesT_mem h
  | .func _ :: r, t, h => by simp at h; simp [usesT]; exact usesT_mem h

/-- Whatever writes a temporary that the operation looks at stands ahead of it. -/
def usesOk (al : List Oper) (o : Oper) (ts : List Nat) : Bool :=
  ts.all fun t => (List.range al.length).all fun i => match al[i]? with
    | some oi => match oi.dst with
      | some d => !(Nat.beq d t) || bindsOn o i
      | none => true
    | none => true

def guardT (al : List Oper) : Option (Nat × Bool) → List Nat
  | none => []
  | some (j, _) => match al[j]? with
    | some o => match o.dst with | some d => [d] | none => []
    | none => []

def dstsOk : List Oper → Bool
  | [] => true
  | o :: r => (match o.dst with | some d => (r.all fun p => (match p.dst with | some d' => !(Nat.beq d d') | none => true)) | none => true) && dstsOk r

/-- The region's own order is sound: edges go back; what is looked at stands ahead; each temporary is written once. -/
def regOk (al : List Oper) : Bool :=
  dstsOk al && (List.range al.length).all fun j => match al[j]? with
    | some o => (o.after.toList.all fun e => !(Region.binds .any e) || Nat.blt e.on j) && usesOk al o (usesT o.op.operands.toList) && usesOk al o (guardT al o.guard)
    | none => true

theorem dsts_unique : ∀ {al : List Oper}, dstsOk al = true → ∀ {i j : Nat} {o p : Oper} {d : Nat}, al[i]? = some o → al[j]? = some p → o.dst = some d → p.dst = some d → i = j
  | [], _, i, j, o, p, d, hi, _, _, _ => by simp at hi
  | x :: r, h, i, j, o, p, d, hi, hj, ho, hp => by
    simp only [dstsOk, Bool.and_eq_true] at h
    have key : ∀ {m : Nat} {q : Oper}, x.dst = some d → r[m]? = some q → q.dst = some d → False := by
      intro m q hx hq hqd
      have h1 := h.1
      rw [hx] at h1
      simp only [List.all_eq_true] at h1
      have := h1 q (List.mem_of_getElem? hq)
      rw [hqd] at this
      simp at this
    cases i with
    | zero =>
      cases j with
      | zero => rfl
      | succ j => simp at hi hj; subst hi; exact (key ho hj hp).elim
    | succ i =>
      cases j with
      | zero => simp at hi hj; subst hj; exact (key hp hi ho).elim
      | succ j => simp at hi hj; rw [dsts_unique h.2 hi hj ho hp]

theorem usesOk_get {al : List Oper} {o : Oper} {ts : List Nat} (h : usesOk al o ts = true) {t i : Nat} {oi : Oper} (ht : t ∈ ts) (hi : al[i]? = some oi) (hd : oi.dst = some t) : bindsOn o i = true := by
  simp only [usesOk, List.all_eq_true] at h
  have hlt : i < al.length := by
    rcases Nat.lt_or_ge i al.length with h1 | h1
    · exact h1
    · rw [List.getElem?_eq_none h1] at hi; simp at hi
  have := h t ht i (List.mem_range.2 hlt)
  rw [hi] at this
  simp only [hd] at this
  simpa using this

/-- 'stepV' hangs on what is looked at alone. -/
theorem ev_congr {T T' : List (Nat × SV)} {x : Operand} (h : ∀ t, x = .tmp t → look T t = look T' t) : ev T x = ev T' x := by
  cases x with
  | tmp t => exact h t rfl
  | _ => rfl

/-- What an operation that is no effect must tell. -/
def qProp (TE : Nat → TI) (nt : Nat) (al : List Oper) (Tn : List (Nat × SV)) (H : List HE) (o : Oper) : Prop :=
  match guardF al Tn o.guard with
  | 1 => match o.dst with | some d => look Tn d = some (.tup []) ∧ Nat.blt d nt = true | none => True
  | 0 => match stepV TE Tn H o.op with
    | some (.val ob v) => ob.getD true = true ∧ (match o.dst with | some d => sameV' v (look Tn d) ∧ Nat.blt d nt = true | none => True)
    | _ => False
  | _ => False

def DStep (E : Env) (al : List Oper) (Tn : List (Nat × SV)) (j : Nat) (o : Oper) (H H' : List HE) : Prop :=
  ∀ (D : Nat → Bool) (ρ : Nat → Nat × Nat) (a : Act) (w : World) (K : Act → World → Prop) (Q : Exit → Act → World → Prop),
    DSat E al Tn D ρ H a w → (∀ i, bindsOn o i = true → D i = true) → D j = false →
    (∀ ρ' a' w', DSat E al Tn (fun i => D i || Nat.beq i j) ρ' H' a' w' → K a' w') → wpOp E.P al.toArray Q j K a w

section
variable {E : Env} {al : List Oper} {Tn : List (Nat × SV)} {D : Nat → Bool} {ρ : Nat → Nat × Nat} {H : List HE} {a : Act} {w : World}

/-- What is seen of the temporaries that an operation looks at, as they stand. -/
def cutT (Tn : List (Nat × SV)) (ts : List Nat) : List (Nat × SV) := ts.filterMap fun t => (look Tn t).map fun v => (t, v)
theorem look_cutT : ∀ (ts : List Nat) (t : Nat), look (cutT Tn ts) t = if t ∈ ts then look Tn t else none
  | [], t => by simp [cutT, look]
  | s :: r, t => by
    have ih := look_cutT r t
    unfold cutT at *
    rw [List.filterMap_cons]
    cases hs : look Tn s with
    | none =>
      simp only [Option.map_none, ih]
      by_cases e : t = s
      · subst e; simp [hs]
      · simp [e]
    | some v =>
      simp only [Option.map_some]
      rw [look_cons, ih]
      by_cases e : s = t
      · subst e; simp [hs]
      · have e' : ¬ t = s := fun h => e h.symm
        simp [e, e']

theorem DSat.cut (h : DSat E al Tn D ρ H a w) {o : Oper} {ts : List Nat} (hu : usesOk al o ts = true) (hD : ∀ i, bindsOn o i = true → D i = true) : Sat E ρ (cutT Tn ts) H a w := by
  refine ⟨h.hs, ⟨fun t v hv => ?_, h.num, h.def0⟩, h.base⟩
  rw [look_cutT] at hv
  split at hv
  · rename_i ht
    exact h.val t v hv fun i oi hi hd => hD i (usesOk_get hu ht hi hd)
  · simp at hv

theorem stepV_congr {TE : Nat → TI} {T T' : List (Nat × SV)} {H : List HE} {op : Op} (h : ∀ t ∈ usesT op.operands.toList, look T t = look T' t) : stepV TE T H op = stepV TE T' H op := by
  have hx : ∀ x ∈ op.operands.toList, ev T x = ev T' x := fun x hx => ev_congr fun t e => h t (usesT_mem (e ▸ hx))
  have hevs : ∀ l : List Operand, (∀ x ∈ l, ev T x = ev T' x) → evs T l = evs T' l := by
    intro l hl
    induction l with
    | nil => rfl
    | cons x r ih => simp only [evs]; rw [hl x (by simp), ih fun y hy => hl y (by simp [hy])]
  have hpar : ∀ l : List (Nat × Operand), (∀ p ∈ l, ev T p.2 = ev T' p.2) → evParts T l = evParts T' l := by
    intro l hl
    induction l with
    | nil => rfl
    | cons x r ih => obtain ⟨i, y⟩ := x; simp only [evParts]; rw [hl (i, y) (by simp), ih fun z hz => hl z (by simp [hz])]
  have hevo : ∀ m : Option Operand, (∀ x, m = some x → ev T x = ev T' x) → evO T m = evO T' m := by
    intro m hm
    cases m with
    | none => rfl
    | some x => simp only [evO]; rw [hm x rfl]
  cases op
  case build t ps => simp only [stepV]; rw [hpar ps.toList fun p hp => hx p.2 (by simp only [Op.operands]; exact List.mem_map.2 ⟨p, hp, rfl⟩)]
  case buildSlice t n ps => simp only [stepV]; rw [hpar ps.toList fun p hp => hx p.2 (by simp only [Op.operands]; exact List.mem_map.2 ⟨p, hp, rfl⟩)]
  case makeFunc fn x y => simp only [stepV]; rw [hevs x.toList fun z hz => hx z (by simp [Op.operands]; exact .inl (by simpa using hz)), hevs y.toList fun z hz => hx z (by simp [Op.operands]; exact .inr (by simpa using hz))]
  case slice t x lo hi mx =>
    cases mx with
    | some m => simp only [stepV]
    | none => simp only [stepV]; rw [hx x (by simp [Op.operands]), hevo lo fun y e => hx y (by simp [Op.operands, e]), hevo hi fun y e => hx y (by simp [Op.operands, e])]
  case call c =>
    simp only [stepV]
    split
    · rename_i x t h1 h2 h3
      rw [hx x (by simp [Op.operands, Call.operands, h1, h2])]
    · rfl
  all_goals (simp only [stepV]; try rfl)
  all_goals (simp only [Op.operands] at hx; simp only [List.mem_cons, List.not_mem_nil, or_false, forall_eq_or_imp, forall_eq] at hx)
  all_goals first
    | rw [hx]
    | rw [hx.1, hx.2]
    | rw [hx.1, hx.2.1, hx.2.2]

theorem guardF_congr {T T' : List (Nat × SV)} {al : List Oper} {g : Option (Nat × Bool)} (h : ∀ t ∈ guardT al g, look T t = look T' t) : guardF al T g = guardF al T' g := by
  unfold guardF guardT at *
  cases g with
  | none => rfl
  | some p =>
    obtain ⟨j, want⟩ := p
    simp only at h ⊢
    split
    · rename_i o ho
      simp only [ho] at h
      split
      · rename_i d hd
        simp only [hd, List.mem_singleton, forall_eq] at h
        rw [h]
      · rfl
    · rfl

theorem DSat.ext_cut (h : DSat E al Tn D ρ H a w) {j : Nat} {o : Oper} (hreg : regOk al = true) (hj : al[j]? = some o) (hD : ∀ i, bindsOn o i = true → D i = true) :
    Sat E ρ (cutT Tn (usesT o.op.operands.toList)) H a w ∧ Sat E ρ (cutT Tn (guardT al o.guard)) H a w := by
  simp only [regOk, Bool.and_eq_true, List.all_eq_true] at hreg
  have hlt : j < al.length := by
    rcases Nat.lt_or_ge j al.length with h1 | h1
    · exact h1
    · rw [List.getElem?_eq_none h1] at hj; simp at hj
  have := hreg.2 j (List.mem_range.2 hlt)
  rw [hj] at this
  simp only [Bool.and_eq_true] at this
  exact ⟨h.cut this.1.2 hD, h.cut this.2 hD⟩

theorem look_cut_eq {ts : List Nat} : ∀ t ∈ ts, look (cutT Tn ts) t = look Tn t := fun t ht => by rw [look_cutT, if_pos ht]

theorem DSat.putD (h : DSat E al Tn D ρ H a w) {j : Nat} {o : Oper} (hreg : regOk al = true) (hj : al[j]? = some o) {v : SV}
    (hd : match o.dst with | some d => (∃ u, look Tn d = some u ∧ u.tr ρ = v.tr ρ ∧ u.okh (there H) = true) ∧ d < E.nt | none => True) :
    DSat E al Tn (fun i => D i || Nat.beq i j) ρ H (a.put o.dst (v.tr ρ)) w := by
  have hdst : dstsOk al = true := by simp only [regOk, Bool.and_eq_true] at hreg; exact hreg.1
  cases ho : o.dst with
  | none =>
    refine ⟨h.hs, fun t u hu hav => ?_, h.num, h.def0, h.base⟩
    refine h.val t u hu fun i oi hi hit => ?_
    have := hav i oi hi hit
    simp only [Bool.or_eq_true] at this
    rcases this with h1 | h1
    · exact h1
    · have := Nat.eq_of_beq_eq_true h1; subst this; rw [hj] at hi; simp at hi; subst hi; rw [ho] at hit; simp at hit
  | some d =>
    rw [ho] at hd
    obtain ⟨⟨u0, hu0, hut, huo⟩, hlt⟩ := hd
    refine ⟨h.hs, fun t u hu hav => ?_, by simp [Act.put, h.num], by simp [Act.put, h.def0], h.base⟩
    by_cases e : d = t
    · subst e
      rw [hu0] at hu; simp at hu; subst hu
      refine ⟨?_, huo⟩
      rw [hut]
      simp [Act.put, h.num, hlt]
    · obtain ⟨q1, q2⟩ := h.val t u hu fun i oi hi hit => by
        have := hav i oi hi hit
        simp only [Bool.or_eq_true] at this
        rcases this with h1 | h1
        · exact h1
        · have := Nat.eq_of_beq_eq_true h1; subst this; rw [hj] at hi; simp at hi; subst hi; rw [ho] at hit; simp at hit; exact absurd hit e
      refine ⟨?_, q2⟩
      simp [Act.put, e, q1]

theorem dstep_quiet (hreg : regOk al = true) {j : Nat} {o : Oper} (hj : al[j]? = some o) (hq : qProp E.TE E.nt al Tn H o) : DStep E al Tn j o H H := by
  intro D ρ a w K Q hs hD hDj hK
  obtain ⟨hc1, hc2⟩ := hs.ext_cut hreg hj hD
  have hgc : guardF al (cutT Tn (guardT al o.guard)) o.guard = guardF al Tn o.guard := guardF_congr look_cut_eq
  have hsc : stepV E.TE (cutT Tn (usesT o.op.operands.toList)) H o.op = stepV E.TE Tn H o.op := stepV_congr look_cut_eq
  unfold wpOp
  simp only [List.getElem?_toArray, hj]
  unfold qProp at hq
  split at hq
  · rename_i hg
    rw [← hgc] at hg
    rw [if_neg (by rw [guard_skip hc2 hg]; simp)]
    refine hK ρ _ w ?_
    refine hs.putD hreg hj (v := .tup []) ?_
    split at hq
    · rename_i d hd
      exact ⟨⟨_, hq.1, rfl, by simp [SV.okh, SV.okhs]⟩, blt_lt hq.2⟩
    · trivial
  · rename_i hg
    rw [← hgc] at hg
    rw [if_pos (guard_wanted hc2 hg)]
    split at hq
    · rename_i ob v he
      left
      rw [← hsc] at he
      obtain ⟨h1, h2⟩ := stepV_ok E.hTE hc1.hs hc1.ts he hq.1
      unfold Oper.wp
      rw [h2, Oper.upon_value]
      refine hK ρ _ w ?_
      refine hs.putD hreg hj ?_
      have hq2 := hq.2
      split at hq2
      · rename_i d hd
        cases hu : look Tn d with
        | none => rw [hu] at hq2; unfold sameV' at hq2; cases v <;> simp at hq2
        | some u =>
          rw [hu] at hq2
          obtain ⟨q1, q2⟩ := sameV'_tr (ρ := ρ) (A := there H) hq2.1 h1
          exact ⟨⟨u, rfl, q1.symm, q2⟩, blt_lt hq2.2⟩
      · trivial
    · exact hq.elim
  · exact hq.elim
end
end Go.Hx

/-
  Regions that draw: effects, calls, and the whole.
-/
namespace Go.Hx
open Go

section
variable {E : Env} {al : List Oper} {Tn : List (Nat × SV)} {D : Nat → Bool} {ρ : Nat → Nat × Nat} {H : List HE} {a : Act} {w : World}

theorem DSat.ext (h : DSat E al Tn D ρ H a w) {ρ' : Nat → Nat × Nat} {H' : List HE} {w' : World} (hS : HSat E.w0 E.bs ρ' H' w') (hρ : ∀ x, there H x = true → ρ x = ρ' x)
    (hm : ∀ x, there H x = true → there H' x = true) : DSat E al Tn D ρ' H' a w' :=
  ⟨hS, fun t v hv hav => let ⟨q1, q2⟩ := h.val t v hv hav; ⟨by rw [q1, tr_congr hρ v q2], okh_mono hm v q2⟩, h.num, h.def0,
    fun x hx => let ⟨q1, q2⟩ := h.base x hx; ⟨by rw [← hρ x q2]; exact q1, hm x q2⟩⟩

theorem dstep_enter (hreg : regOk al = true) {j : Nat} {o : Oper} (hj : al[j]? = some o) {c : Call} {f : Nat} {as cargs : List SV} {Hc H' : List HE} {V v' : SV} {L : List HE} {fn : Func} {d : Nat}
    (hd : o.dst = some d) (hlt : Nat.blt d E.nt = true) (hg : guardF al Tn o.guard = 0) (hop : o.op = .call c) (hc : calleeF Tn c = some (f, as))
    (hf : E.P.funcs[f]? = some fn) (hbody : fn.body.isSome = true) (hname : (fn.name == "runtime.NumGoroutine") = false)
    (hF : Gives E.P f cargs Hc (Is V L)) (σs : List Nat) (hargs : as = SV.rens (nm σs H) cargs) (hcok : SV.okhs (thereF Hc) cargs = true)
    (hlen : Nat.beq σs.length Hc.length = true) (hobj : allObj Hc = true) (hokc : okHs (thereF Hc) Hc = true) (hnd : nodupN σs = true) (hsub : subC (nm σs H) H 0 Hc)
    (hnew : newOk (L.drop σs.length) = true) (hV : V.ren (nm σs H) = v') (hL : merge (nm σs H) σs H L = H') (hlook : look Tn d = some v') : DStep E al Tn j o H H' := by
  intro D ρ a w K Q hs hD hDj hK
  obtain ⟨hc1, hc2⟩ := hs.ext_cut hreg hj hD
  have hgc : guardF al (cutT Tn (guardT al o.guard)) o.guard = guardF al Tn o.guard := guardF_congr look_cut_eq
  have hcc : calleeF (cutT Tn (usesT o.op.operands.toList)) c = calleeF Tn c := by
    have hx : ∀ x ∈ o.op.operands.toList, ev (cutT Tn (usesT o.op.operands.toList)) x = ev Tn x := fun x hx => ev_congr fun t e => look_cut_eq t (usesT_mem (e ▸ hx))
    have hevs : ∀ l : List Operand, (∀ x ∈ l, ev (cutT Tn (usesT o.op.operands.toList)) x = ev Tn x) → evs (cutT Tn (usesT o.op.operands.toList)) l = evs Tn l := by
      intro l hl
      induction l with
      | nil => rfl
      | cons x r ih => simp only [evs]; rw [hl x (by simp), ih fun y hy => hl y (by simp [hy])]
    unfold calleeF
    split
    · rename_i x hx'
      rw [hx x (by rw [hop]; simp [Op.operands, Call.operands, hx']), hevs c.args.toList fun y hy => hx y (by rw [hop]; simp [Op.operands, Call.operands, hx']; exact .inr (by simpa using hy))]
    · rfl
  rw [← hgc] at hg
  rw [← hcc] at hc
  unfold wpOp
  simp only [List.getElem?_toArray, hj]
  rw [if_pos (guard_wanted hc2 hg)]
  left
  obtain ⟨hr1, hr2⟩ := callee_run hop hc hf hbody hname ρ a w hc1
  unfold Oper.wp
  rw [hr1]
  have hfun : thereF Hc = there Hc := funext (thereF_eq Hc)
  rw [hfun] at hcok hokc
  have hlen' := Nat.eq_of_beq_eq_true hlen
  have hsub' : ∀ (h : Nat) (o : SO), Hc[h]? = some (.obj o) → H[sig σs H.length h]? = some (.obj (o.ren (sig σs H.length))) := fun h o ho => by
    have := subC_get hsub h o ho
    simpa [nm] using this
  have hthc : ∀ h, there Hc h = true → there H (sig σs H.length h) = true := fun h hh => by
    obtain ⟨o, ho⟩ := allObj_get hobj (there_lt hh)
    exact there_of_obj (hsub' h o ho)
  have hSc : HSat w (Own (fun x => ρ (sig σs H.length x)) Hc) (fun x => ρ (sig σs H.length x)) Hc w := by
    refine ⟨fun h o ho => ⟨(SO.holds_ren o).1 (hs.hs.objs _ _ (hsub' h o ho)).1, okHs_get hokc ho⟩, fun h hh => hs.hs.size _ (hthc h hh), ?_, fun h o ho hoo => .inl ⟨h, o, ho, hoo, rfl⟩, Fr.refl _ _⟩
    intro h h' hh hh' e
    have := hs.hs.inj _ _ (hthc h hh) (hthc h' hh') e
    have l1 : h < σs.length := by rw [hlen']; exact there_lt hh
    have l2 : h' < σs.length := by rw [hlen']; exact there_lt hh'
    have g1 := sig_lt (b := H.length) l1
    have g2 := sig_lt (b := H.length) l2
    rw [this] at g1
    exact nodupN_get hnd g1 g2
  have hC := hF (fun x => ρ (sig σs H.length x)) w hSc hcok
  have he : SV.trs ρ as = SV.trs (fun x => ρ (sig σs H.length x)) cargs := by rw [hargs, trs_rens]; rfl
  rw [he]
  refine Oper.upon_enter' hC ?_ (fun c w' h => h) (fun w' h => h)
  rintro VV w' ⟨ρc, Hn, v, ⟨rfl, rfl⟩, rfl, hvok, hSn, hb⟩
  obtain ⟨ρ', m1, m2, m3, m4⟩ := merge_sat hc1 hlen' hobj hnd hsub' hSn hb hnew
  rw [show merge (sig σs H.length) σs H Hn = H' from hL] at m1 m3 m4
  have hs' := hs.ext m1 m2 m3
  have e2 : (v.ren (nm σs H)).tr ρ' = v.tr ρc := by rw [tr_ren]; exact tr_congr (fun h hh => (m4 h hh).1) v hvok
  rw [hV] at e2
  refine hK ρ' _ w' ?_
  rw [← e2]
  refine hs'.putD hreg hj ?_
  rw [hd]
  refine ⟨⟨v', hlook, rfl, ?_⟩, blt_lt hlt⟩
  rw [← hV, okh_ren]
  exact okh_mono (fun h hh => (m4 h hh).2) v hvok

theorem dstep_eff (hreg : regOk al = true) {j : Nat} {o : Oper} (hj : al[j]? = some o) (hg : guardF al Tn o.guard = 0) {e : Eff} (he : stepV E.TE Tn H o.op = some e)
    {ob : Option Bool} {T' : List (Nat × SV)} {H' : List HE} (ha : afterF E.nt o.dst [] H e = some (ob, T', H')) (hob : ob.getD true = true)
    (hT : match T' with | [] => o.dst = none | (d, v) :: _ => o.dst = some d ∧ look Tn d = some v) : DStep E al Tn j o H H' := by
  intro D ρ a w K Q hs hD hDj hK
  obtain ⟨hc1, hc2⟩ := hs.ext_cut hreg hj hD
  have hgc : guardF al (cutT Tn (guardT al o.guard)) o.guard = guardF al Tn o.guard := guardF_congr look_cut_eq
  have hsc : stepV E.TE (cutT Tn (usesT o.op.operands.toList)) H o.op = stepV E.TE Tn H o.op := stepV_congr look_cut_eq
  rw [← hgc] at hg
  rw [← hsc] at he
  unfold wpOp
  simp only [List.getElem?_toArray, hj]
  rw [if_pos (guard_wanted hc2 hg)]
  left
  have hE := stepV_ok E.hTE hc1.hs hc1.ts he
  have ha := afterF_eq ha
  unfold Oper.wp
  cases e with
  | val ob' v =>
    simp only [after] at ha
    split at ha
    · rename_i d hd
      split at ha
      · rename_i hlt
        simp at ha; obtain ⟨rfl, rfl, rfl⟩ := ha
        obtain ⟨h1, h2⟩ := hE hob
        rw [h2, Oper.upon_value]
        refine hK ρ _ w (hs.putD hreg hj ?_)
        rw [hd]
        exact ⟨⟨_, hT.2, rfl, h1⟩, blt_lt hlt⟩
      · simp at ha
    · rename_i hd
      simp at ha; obtain ⟨rfl, rfl, rfl⟩ := ha
      obtain ⟨h1, h2⟩ := hE hob
      rw [h2, Oper.upon_value]
      refine hK ρ _ w (hs.putD hreg hj ?_)
      rw [hd]; trivial
  | set ob' h o' =>
    simp only [after] at ha
    split at ha
    · rename_i hd
      simp at ha; obtain ⟨rfl, rfl, rfl⟩ := ha
      obtain ⟨h1, h2, ⟨o0, h3, h4⟩, w', h5, hio, h6, h7, h8⟩ := hE hob
      rw [h5, Oper.upon_skip]
      have hS := hs.hs.set (getH_some.1 h3) h4 h1 h2 hio h6 h7 h8
      refine hK ρ _ w' ((hs.ext hS (fun _ _ => rfl) (fun x hx => there_set hx)).putD hreg hj (v := .tup []) ?_)
      rw [hd]; trivial
    · simp at ha
  | newp o' =>
    simp only [after] at ha
    split at ha
    · rename_i d hd
      split at ha
      · rename_i hlt
        simp at ha; obtain ⟨rfl, rfl, rfl⟩ := ha
        obtain ⟨h1, h2, ob, h3, h4⟩ := hE
        rw [h3, Oper.upon_value]
        have hp := hs.hs.push (ob := ob) h2 h4
        have hagree : ∀ x, there H x = true → ρ x = upd ρ H.length (w.heap.size, 0) x := by
          intro x hx
          have := there_lt hx
          unfold upd
          rw [if_neg (by omega)]
        have := (hs.ext hp hagree (fun x hx => there_append hx)).putD hreg hj (v := .ptr H.length 0) (by
          rw [hd]
          exact ⟨⟨_, hT.2, rfl, by simp [SV.okh, there, HE.there]⟩, blt_lt hlt⟩)
        simp only [SV.tr, upd, if_true, Nat.zero_add] at this
        exact hK _ _ _ this
      · simp at ha
    · simp at ha
  | news ob' o' l c =>
    simp only [after] at ha
    split at ha
    · rename_i d hd
      split at ha
      · rename_i hlt
        simp at ha; obtain ⟨rfl, rfl, rfl⟩ := ha
        obtain ⟨h1, h2, ob, h3, h4⟩ := hE hob
        rw [h3, Oper.upon_value]
        have hp := hs.hs.push (ob := ob) h2 h4
        have hagree : ∀ x, there H x = true → ρ x = upd ρ H.length (w.heap.size, 0) x := by
          intro x hx
          have := there_lt hx
          unfold upd
          rw [if_neg (by omega)]
        have := (hs.ext hp hagree (fun x hx => there_append hx)).putD hreg hj (v := .slice H.length 0 l c) (by
          rw [hd]
          exact ⟨⟨_, hT.2, rfl, by simp [SV.okh, there, HE.there]⟩, blt_lt hlt⟩)
        simp only [SV.tr, upd, if_true, Nat.zero_add] at this
        exact hK _ _ _ this
      · simp at ha
    · simp at ha

/-- How many of the effects have been done. -/
def cnt (D : Nat → Bool) : List Nat → Nat
  | [] => 0
  | e :: r => if D e then cnt D r + 1 else 0

/-- The effects stand one behind the other. -/
def effsOk (al : List Oper) : List Nat → Bool
  | [] => true
  | [e] => Nat.blt e al.length
  | e :: f :: r => Nat.blt e al.length && (match al[f]? with | some o => bindsOn o e | none => false) && effsOk al (f :: r)

/-- May operation o (j-th) be met when c effects have been done? -/
def meets (al : List Oper) (j : Nat) (o : Oper) : List Nat → Nat → Bool
  | [], 0 => true
  | [], _ + 1 => false
  | e :: r, 0 => (e :: r).all fun e => !(bindsOn o e)
  | e :: r, c + 1 => (match al[e]? with | some oe => !(bindsOn oe j) | none => true) && meets al j o r c


def Down (al : List Oper) (D : Nat → Bool) : Prop := ∀ (i : Nat) (o : Oper), al[i]? = some o → D i = true → ∀ i', bindsOn o i' = true → D i' = true

theorem effs_before (hd : Down al D) : ∀ {l : List Nat}, effsOk al l = true → ∀ {p : Nat} {j : Nat}, l[p]? = some j → D j = true → ∀ q e, q ≤ p → l[q]? = some e → D e = true
  | [], _, p, j, hp, _, q, e, _, _ => by simp at hp
  | [x], _, p, j, hp, hj, q, e, hqp, hq => by
    cases p with
    | zero => simp at hp; subst hp; have : q = 0 := by omega
              subst this; simp at hq; subst hq; exact hj
    | succ p => simp at hp
  | x :: y :: r, h, p, j, hp, hj, q, e, hqp, hq => by
    simp only [effsOk, Bool.and_eq_true] at h
    obtain ⟨⟨_, h2⟩, h3⟩ := h
    cases p with
    | zero => have : q = 0 := by omega
              subst this; rw [hq] at hp; simp at hp; subst hp; exact hj
    | succ p =>
      cases q with
      | succ q => exact effs_before hd h3 (p := p) (by simpa using hp) hj q e (by omega) (by simpa using hq)
      | zero =>
        simp at hq; subst hq
        have hy := effs_before hd h3 (p := p) (by simpa using hp) hj 0 y (by omega) (by simp)
        split at h2
        · rename_i o ho
          exact hd y o ho hy x h2
        · simp at h2

theorem cnt_spec : ∀ {l : List Nat} {p : Nat}, (∀ q e, q < p → l[q]? = some e → D e = true) → (∀ e, l[p]? = some e → D e = false) → p ≤ l.length → cnt D l = p
  | [], p, _, _, hp => by simp at hp; simp [cnt, hp]
  | x :: r, 0, _, h2, _ => by simp [cnt, h2 x (by simp)]
  | x :: r, p + 1, h1, h2, hp => by
    have hx := h1 0 x (by omega) (by simp)
    simp only [cnt, hx, if_true]
    rw [cnt_spec (l := r) (p := p) (fun q e hq he => h1 (q + 1) e (by omega) (by simpa using he)) (fun e he => h2 e (by simpa using he)) (by simpa using hp)]

theorem cnt_le : ∀ (l : List Nat), cnt D l ≤ l.length
  | [] => by simp [cnt]
  | x :: r => by simp only [cnt]; split <;> simp; exact cnt_le r
theorem cnt_congr {D' : Nat → Bool} : ∀ {l : List Nat}, (∀ e ∈ l, D e = D' e) → cnt D l = cnt D' l
  | [], _ => rfl
  | x :: r, h => by simp only [cnt]; rw [h x (by simp), cnt_congr fun e he => h e (by simp [he])]
theorem cnt_lt_true : ∀ {l : List Nat} {q e : Nat}, q < cnt D l → l[q]? = some e → D e = true
  | [], q, e, h, _ => by simp [cnt] at h
  | x :: r, q, e, h, he => by
    simp only [cnt] at h
    split at h
    · rename_i hx
      cases q with
      | zero => simp at he; subst he; exact hx
      | succ q => exact cnt_lt_true (l := r) (q := q) (by omega) (by simpa using he)
    · omega

theorem meets_cnt (hd : Down al D) {j : Nat} {o : Oper} (hj : D j = false) (ho : ∀ i, bindsOn o i = true → D i = true) : ∀ {l : List Nat}, effsOk al l = true → meets al j o l (cnt D l) = true
  | [], _ => rfl
  | x :: r, h => by
    by_cases hx : D x = true
    · simp only [cnt, hx, if_true, meets, Bool.and_eq_true]
      refine ⟨?_, meets_cnt hd hj ho (by cases r with | nil => rfl | cons y s => simp only [effsOk, Bool.and_eq_true] at h; exact h.2)⟩
      split
      · rename_i ox hox
        cases hb : bindsOn ox j with
        | false => rfl
        | true => have := hd x ox hox hx j hb; rw [this] at hj; simp at hj
      · rfl
    · simp only [Bool.not_eq_true] at hx
      have hc : cnt D (x :: r) = 0 := by simp [cnt, hx]
      rw [hc]
      simp only [meets, List.all_eq_true]
      intro e he
      cases hb : bindsOn o e with
      | false => rfl
      | true =>
        have h1 := ho e hb
        obtain ⟨p, hp⟩ := List.getElem?_of_mem he
        have := effs_before hd h hp h1 0 x (by omega) (by simp)
        rw [this] at hx; simp at hx

theorem sw_draw {k : List KI} {T : List (Nat × SV)} {id : Nat} {hps : List (List HE)} {effs : List Nat} {Hl : List HE} (hm : E.P.follows .mixedOrders = true)
    (hreg : regOk al = true) (heffs : effsOk al effs = true) (hlen : Nat.beq hps.length (effs.length + 1) = true) (h0 : hps[0]? = some H) (hl : hps[effs.length]? = some Hl)
    (hT : ∀ t v, look Tn t = some v → (∀ (i : Nat) (o : Oper), al[i]? = some o → o.dst ≠ some t) → look T t = some v)
    (hq : ∀ (c : Nat) (Hc : List HE), hps[c]? = some Hc → ∀ (j : Nat) (o : Oper), al[j]? = some o → j ∉ effs → meets al j o effs c = true → qProp E.TE E.nt al Tn Hc o)
    (he : ∀ (c : Nat) (Hc Hc' : List HE), hps[c]? = some Hc → hps[c + 1]? = some Hc' → ∀ (j : Nat) (o : Oper), effs[c]? = some j → al[j]? = some o → DStep E al Tn j o Hc Hc')
    (hk : SW E k Tn Hl) : SW E (.code (.region id al.toArray true) :: k) T H := by
  intro ρ a w hs
  simp only [WK]
  refine wp_region_any hm ?_
  have hreg' := hreg
  simp only [regOk, Bool.and_eq_true, List.all_eq_true] at hreg'
  have hlen' := Nat.eq_of_beq_eq_true hlen
  have hback : ∀ (j : Nat) (o : Oper), al[j]? = some o → ∀ i, bindsOn o i = true → i < j := by
    intro j o ho i hi
    have hlt : j < al.length := by
      rcases Nat.lt_or_ge j al.length with h1 | h1
      · exact h1
      · rw [List.getElem?_eq_none h1] at ho; simp at ho
    have := hreg'.2 j (List.mem_range.2 hlt)
    rw [ho] at this
    simp only [Bool.and_eq_true, List.all_eq_true] at this
    simp only [bindsOn, List.any_eq_true, Bool.and_eq_true] at hi
    obtain ⟨e, he1, he2, he3⟩ := hi
    have h4 := this.1.1 e he1
    rw [he2] at h4
    have := Nat.eq_of_beq_eq_true he3
    simp at h4
    have h5 : e.on < j := blt_lt (by simpa using h4)
    omega
  -- the walk over all orders
  have key : ∀ (fuel : Nat) (listed : Array Bool) (ρ : Nat → Nat × Nat) (a : Act) (w : World), listed.size = al.length →
      ((List.range al.length).filter fun i => !(listed.getD i true)).length = fuel →
      Down al (fun i => listed.getD i false) → (∃ Hc, hps[cnt (fun i => listed.getD i false) effs]? = some Hc ∧ DSat E al Tn (fun i => listed.getD i false) ρ Hc a w) →
      wpAny E.P .any al.toArray (WK E.P E.Q k) fuel listed a w := by
    intro fuel
    induction fuel with
    | zero =>
      intro listed ρ a w hsz hf hdown ⟨Hc, hHc, hD⟩
      have hall : ∀ i, i < al.length → listed.getD i false = true := by
        intro i hi
        have hnil := List.eq_nil_of_length_eq_zero hf
        rw [List.filter_eq_nil_iff] at hnil
        have := hnil i (List.mem_range.2 hi)
        have hi' : i < listed.size := by omega
        simp [Array.getD, hi'] at this ⊢
        exact this
      have hcnt : cnt (fun i => listed.getD i false) effs = effs.length := by
        refine cnt_spec (fun q e hq' he' => ?_) (fun e he' => by simp at he') (Nat.le_refl _)
        have : ∀ {l : List Nat}, effsOk al l = true → ∀ e ∈ l, e < al.length := by
          intro l
          induction l with
          | nil => intro _ e he; simp at he
          | cons x r ih =>
            intro h e he
            simp only [List.mem_cons] at he
            cases r with
            | nil => simp only [effsOk] at h; simp at he; subst he; exact blt_lt h
            | cons y s =>
              simp only [effsOk, Bool.and_eq_true] at h
              rcases he with rfl | he
              · exact blt_lt h.1.1
              · exact ih h.2 e he
        exact hall e (this heffs e (List.mem_of_getElem? he'))
      rw [hcnt, hl] at hHc
      simp at hHc; subst hHc
      refine ⟨?_, hk ρ a w ⟨hD.hs, ⟨fun t v hv => hD.val t v hv fun i o hi _ => hall i ?_, hD.num, hD.def0⟩, hD.base⟩⟩
      · unfold Region.ready
        rw [List.filter_eq_nil_iff]
        intro i hi
        simp only [List.size_toArray, List.mem_range] at hi
        have := hall i hi
        have hi' : i < listed.size := by omega
        simp [Array.getD, hi'] at this ⊢
        intro h; rw [this] at h; simp at h
      · rcases Nat.lt_or_ge i al.length with h1 | h1
        · exact h1
        · rw [List.getElem?_eq_none h1] at hi; simp at hi
    | succ fuel ih =>
      intro listed ρ a w hsz hf hdown ⟨Hc, hHc, hD⟩
      refine ⟨fun hr => ?_, fun j hj => ?_⟩
      · -- somebody is ready
        exfalso
        have hex : ∃ i, i < al.length ∧ listed.getD i false = false := by
          have : ((List.range al.length).filter fun i => !(listed.getD i true)) ≠ [] := by intro h; rw [h] at hf; simp at hf
          obtain ⟨i, hi⟩ := List.exists_mem_of_ne_nil _ this
          rw [List.mem_filter, List.mem_range] at hi
          refine ⟨i, hi.1, ?_⟩
          have hi' : i < listed.size := by omega
          have := hi.2
          simp [Array.getD, hi'] at this ⊢
          exact this
        have hmin : ∀ n, ∀ i, i = n → i < al.length → listed.getD i false = false → False := by
          intro n
          induction n using Nat.strongRecOn with
          | _ n ihn =>
            intro i hin hi hli
            have hmem : i ∉ Region.ready .any al.toArray listed := by rw [hr]; simp
            unfold Region.ready at hmem
            rw [List.mem_filter] at hmem
            apply hmem
            simp only [List.size_toArray, List.mem_range]
            refine ⟨hi, ?_⟩
            have hi' : i < listed.size := by omega
            have ho : al[i]? = some al[i] := List.getElem?_eq_getElem hi
            simp only [Bool.and_eq_true, Bool.not_eq_true', List.getElem?_toArray, ho, Option.map_some, Option.getD_some, Array.all_eq_true']
            refine ⟨by simp [Array.getD, hi'] at hli ⊢; exact hli, ?_⟩
            intro e he
            by_cases hb : Region.binds .any e = true
            · simp only [hb, Bool.not_true, Bool.false_or]
              have hbo : bindsOn al[i] e.on = true := by
                simp only [bindsOn, List.any_eq_true, Bool.and_eq_true]
                exact ⟨e, by simpa using he, hb, Nat.beq_refl _⟩
              have hlt := hback i _ ho e.on hbo
              cases hle : listed.getD e.on false with
              | true => rfl
              | false => exact (ihn e.on (by omega) e.on rfl (by omega) hle).elim
            · simp only [Bool.not_eq_true] at hb; simp [hb]
        obtain ⟨i, hi1, hi2⟩ := hex
        exact hmin i i rfl hi1 hi2
      · unfold Region.ready at hj
        rw [List.mem_filter] at hj
        simp only [List.size_toArray, List.mem_range] at hj
        obtain ⟨hjn, hjr⟩ := hj
        have hj' : j < listed.size := by omega
        have ho : al[j]? = some al[j] := List.getElem?_eq_getElem hjn
        simp only [Bool.and_eq_true, Bool.not_eq_true', List.getElem?_toArray, ho, Option.map_some, Option.getD_some, Array.all_eq_true'] at hjr
        have hjl : listed.getD j false = false := by have := hjr.1; simp [Array.getD, hj'] at this ⊢; exact this
        have hdeps : ∀ i, bindsOn al[j] i = true → listed.getD i false = true := by
          intro i hi
          simp only [bindsOn, List.any_eq_true, Bool.and_eq_true] at hi
          obtain ⟨e, he1, he2, he3⟩ := hi
          have := hjr.2 e (by simpa using he1)
          rw [he2] at this
          have h3 := Nat.eq_of_beq_eq_true he3
          subst h3
          simpa using this
        have hD' : (fun i => (listed.setIfInBounds j true).getD i false) = fun i => listed.getD i false || Nat.beq i j := by
          funext i
          by_cases e : j = i
          · subst e; simp [Array.getD, hj', Nat.beq_refl]
          · have hb : Nat.beq i j = false := by
              cases h : Nat.beq i j with
              | false => rfl
              | true => exact absurd (Nat.eq_of_beq_eq_true h).symm e
            rw [hb]
            by_cases hi : i < listed.size
            · simp [Array.getD, hi, e]
            · simp [Array.getD, hi]
        have hcount : ((List.range al.length).filter fun i => !((listed.setIfInBounds j true).getD i true)).length = fuel := by
          have h1 : (List.range al.length).filter (fun i => !(listed.getD i true)) = (List.range al.length).filter (fun i => !(listed.getD i true)) := rfl
          have hperm : ∀ l : List Nat, l.Nodup → (∀ i ∈ l, i < al.length) → j ∈ l → (l.filter fun i => !(listed.getD i true)).length = (l.filter fun i => !((listed.setIfInBounds j true).getD i true)).length + 1 := by
            intro l
            induction l with
            | nil => intro _ _ h; simp at h
            | cons x r ihr =>
              intro hnd hlt hmem
              rw [List.nodup_cons] at hnd
              by_cases e : x = j
              · subst e
                have h2 : (!(listed.getD x true)) = true := by simpa using hjr.1
                have h3 : (!((listed.setIfInBounds x true).getD x true)) = false := by simp [Array.getD, hj']
                rw [List.filter_cons, List.filter_cons, h2, h3]
                simp only [if_true, List.length_cons]
                congr 1
                apply congrArg List.length
                apply List.filter_congr
                intro i hi
                have : x ≠ i := by intro e; subst e; exact hnd.1 hi
                by_cases hil : i < listed.size
                · simp [Array.getD, hil, this]
                · simp [Array.getD, hil]
              · have hm' : j ∈ r := by simp at hmem; rcases hmem with h | h; exact absurd h.symm e; exact h
                have ih2 := ihr hnd.2 (fun i hi => hlt i (by simp [hi])) hm'
                have h4 : (!(listed.getD x true)) = (!((listed.setIfInBounds j true).getD x true)) := by
                  have : j ≠ x := fun h => e h.symm
                  by_cases hil : x < listed.size
                  · simp [Array.getD, hil, this]
                  · simp [Array.getD, hil]
                rw [List.filter_cons, List.filter_cons, ← h4]
                split
                · rw [List.length_cons, List.length_cons, ih2]
                · exact ih2
          have := hperm (List.range al.length) List.nodup_range (fun i hi => List.mem_range.1 hi) (List.mem_range.2 hjn)
          omega
        have hdown' : Down al (fun i => (listed.setIfInBounds j true).getD i false) := by
          rw [hD']
          intro i o hi hDi i' hb
          simp only [Bool.or_eq_true] at hDi ⊢
          rcases hDi with h | h
          · exact .inl (hdown i o hi h i' hb)
          · have := Nat.eq_of_beq_eq_true h; subst this
            rw [ho] at hi; simp at hi; subst hi
            exact .inl (hdeps i' hb)
        have hstep : ∀ Hc', hps[cnt (fun i => (listed.setIfInBounds j true).getD i false) effs]? = some Hc' → DStep E al Tn j al[j] Hc Hc' →
            wpOp E.P al.toArray (WK E.P E.Q k) j (wpAny E.P .any al.toArray (WK E.P E.Q k) fuel (listed.setIfInBounds j true)) a w := by
          intro Hc' hHc' hst
          refine hst _ ρ a w _ _ hD hdeps hjl fun ρ' a' w' hD2 => ?_
          refine ih _ ρ' a' w' (by simpa using hsz) hcount hdown' ⟨Hc', hHc', ?_⟩
          rw [hD']; exact hD2
        by_cases hmem : j ∈ effs
        · obtain ⟨p, hp⟩ := List.getElem?_of_mem hmem
          have hpl : p < effs.length := by
            rcases Nat.lt_or_ge p effs.length with h1 | h1
            · exact h1
            · rw [List.getElem?_eq_none h1] at hp; simp at hp
          have hdown2 : Down al (fun i => listed.getD i false || Nat.beq i j) := by rw [← hD']; exact hdown'
          have hbefore : ∀ q e, q ≤ p → effs[q]? = some e → (listed.getD e false || Nat.beq e j) = true := effs_before hdown2 heffs hp (by simp [Nat.beq_refl])
          have hnodup : ∀ q, q < p → effs[q]? ≠ some j := by
            intro q hqp hqj
            -- e_q binds the next; the chain rises
            have rise : ∀ {l : List Nat}, effsOk al l = true → ∀ {q p : Nat} {x y : Nat}, q < p → l[q]? = some x → l[p]? = some y → x < y := by
              intro l
              induction l with
              | nil => intro _ q p x y _ hx; simp at hx
              | cons u r ihr =>
                intro h q p x y hqp hx hy
                cases p with
                | zero => omega
                | succ p =>
                  cases r with
                  | nil => simp at hy
                  | cons v s =>
                    simp only [effsOk, Bool.and_eq_true] at h
                    have huv : u < v := by
                      have h2 := h.1.2
                      split at h2
                      · rename_i ov hov
                        exact hback v ov hov u h2
                      · simp at h2
                    cases q with
                    | succ q => exact ihr h.2 (q := q) (p := p) (by omega) (by simpa using hx) (by simpa using hy)
                    | zero =>
                      simp at hx; subst hx
                      cases p with
                      | zero => simp at hy; subst hy; exact huv
                      | succ p =>
                        have := ihr h.2 (q := 0) (p := p + 1) (x := v) (y := y) (by omega) (by simp) (by simpa using hy)
                        omega
            have := rise heffs hqp hqj hp
            omega
          have hc : cnt (fun i => listed.getD i false) effs = p := by
            refine cnt_spec (fun q e hqp hqe => ?_) (fun e hpe => ?_) (by omega)
            · have := hbefore q e (by omega) hqe
              simp only [Bool.or_eq_true] at this
              rcases this with h | h
              · exact h
              · have := Nat.eq_of_beq_eq_true h; subst this; exact absurd hqe (hnodup q hqp)
            · rw [hp] at hpe; simp at hpe; subst hpe; exact hjl
          have hc' : cnt (fun i => (listed.setIfInBounds j true).getD i false) effs = p + 1 := by
            rw [hD']
            refine cnt_spec (fun q e hqp hqe => hbefore q e (by omega) hqe) (fun e hpe => ?_) (by omega)
            simp only [Bool.or_eq_false_iff]
            constructor
            · cases hle : listed.getD e false with
              | false => rfl
              | true =>
                have := effs_before hdown heffs hpe hle p j (by omega) hp
                rw [hjl] at this; simp at this
            · cases hb : Nat.beq e j with
              | false => rfl
              | true =>
                have h := Nat.eq_of_beq_eq_true hb
                subst h
                exfalso
                have rise2 := effs_before (D := fun i => listed.getD i false || Nat.beq i e) hdown2 heffs hpe (by simp [Nat.beq_refl]) p e (by omega) hp
                -- the same index twice in a rising chain
                have rise : ∀ {l : List Nat}, effsOk al l = true → ∀ {q p : Nat} {x y : Nat}, q < p → l[q]? = some x → l[p]? = some y → x < y := by
                  intro l
                  induction l with
                  | nil => intro _ q p x y _ hx; simp at hx
                  | cons u r ihr =>
                    intro h q p x y hqp hx hy
                    cases p with
                    | zero => omega
                    | succ p =>
                      cases r with
                      | nil => simp at hy
                      | cons v s =>
                        simp only [effsOk, Bool.and_eq_true] at h
                        have huv : u < v := by
                          have h2 := h.1.2
                          split at h2
                          · rename_i ov hov
                            exact hback v ov hov u h2
                          · simp at h2
                        cases q with
                        | succ q => exact ihr h.2 (q := q) (p := p) (by omega) (by simpa using hx) (by simpa using hy)
                        | zero =>
                          simp at hx; subst hx
                          cases p with
                          | zero => simp at hy; subst hy; exact huv
                          | succ p =>
                            have := ihr h.2 (q := 0) (p := p + 1) (x := v) (y := y) (by omega) (by simp) (by simpa using hy)
                            omega
                have := rise heffs (Nat.lt_succ_self p) hp hpe
                omega
          have hlt : p + 1 < hps.length := by omega
          refine hstep hps[p + 1] (by rw [hc']; exact List.getElem?_eq_getElem hlt) ?_
          rw [hc] at hHc
          exact he p Hc _ hHc (List.getElem?_eq_getElem hlt) j _ hp ho
        · have hc' : cnt (fun i => (listed.setIfInBounds j true).getD i false) effs = cnt (fun i => listed.getD i false) effs := by
            rw [hD']
            refine (cnt_congr fun e hemem => ?_).symm
            have : Nat.beq e j = false := by
              cases hb : Nat.beq e j with
              | false => rfl
              | true => have := Nat.eq_of_beq_eq_true hb; subst this; exact absurd hemem hmem
            simp [this]
          refine hstep Hc (by rw [hc']; exact hHc) ?_
          exact dstep_quiet hreg ho (hq _ Hc hHc j _ ho hmem (meets_cnt hdown hjl hdeps heffs))
  refine key _ _ ρ a { w with drawn := w.drawn + 1 } (by simp) ?_ ?_ ?_
  · simp only [List.size_toArray]
    have : ((List.range al.length).filter fun i => !((Array.replicate al.length false).getD i true)) = List.range al.length := by
      rw [List.filter_eq_self]
      intro i hi
      have := List.mem_range.1 hi
      simp [Array.getD, this]
    rw [this]; simp
  · intro i o _ hi
    by_cases h : i < al.length <;> simp [Array.getD, h] at hi
  · have hc : cnt (fun i => (Array.replicate al.toArray.size false).getD i false) effs = 0 := by
      cases effs with
      | nil => rfl
      | cons x r =>
        simp only [cnt]
        rw [if_neg]
        by_cases h : x < al.length <;> simp [Array.getD, h]
    refine ⟨H, by rw [hc]; exact h0, ⟨?_, ?_, hs.ts.num, hs.ts.def0, hs.base⟩⟩
    · have h1 := hs.hs
      refine ⟨fun h o ho => ⟨SO.holds_world rfl _ (h1.objs h o ho).1, (h1.objs h o ho).2⟩, h1.size, h1.inj, h1.own, ⟨h1.fr.size, h1.fr.same, h1.fr.io⟩⟩
    · intro t v hv hav
      refine hs.ts.val t v (hT t v hv fun i o hi hd => ?_)
      have := hav i o hi hd
      by_cases h : i < al.length <;> simp [Array.getD, h] at this
end
end Go.Hx

/-
  Calls that are walked into where they stand; atomic numbers.
-/
namespace Go.Hx
open Go

/-- What is known of the temporaries is cut down to some. -/
theorem sub_T {E : Env} {T T' : List (Nat × SV)} {H : List HE} (h : ∀ t v, look T' t = some v → look T t = some v) : Sub E T H T' H :=
  fun ρ _ _ hs => ⟨ρ, hs.hs, ⟨fun t v hv => hs.ts.val t v (h t v hv), hs.ts.num, hs.ts.def0⟩, hs.base⟩

def subTT (T : List (Nat × SV)) : List (Nat × SV) → Prop
  | [] => True
  | (t, v) :: r => look T t = some v ∧ subTT T r
theorem subTT_get {T : List (Nat × SV)} : ∀ {T' : List (Nat × SV)}, subTT T T' → ∀ t v, look T' t = some v → look T t = some v
  | [], _, t, v, h => by simp [look] at h
  | (s, u) :: r, hs, t, v, h => by
    rw [look_cons] at h
    split at h
    · rename_i e; subst e; simp at h; subst h; exact hs.1
    · exact subTT_get hs.2 t v h

section
variable {P : Program} {TE : Nat → TI} {hTE : ∀ t, TIok P t (TE t)} {fn : Func} {nt : Nat} {H0 : List HE} {ρ0 : Nat → Nat × Nat} {w0 : World}
    {k : List KI} {T : List (Nat × SV)} {H : List HE} {V : SV}
/-- The ends of a call that is walked into: what is there is what is given. -/
theorem in0 (hr : fn.results = #[]) : SW (FEnv P TE hTE fn nt H0 (Is (.tup []) H) ρ0 w0) (.code .ret :: k) T H := ret0 hr (sub_T fun t v h => by simp [look] at h)
theorem inE (hr : fn.results = #[]) : SW (FEnv P TE hTE fn nt H0 (Is (.tup []) H) ρ0 w0) [] T H := end0 hr (sub_T fun t v h => by simp [look] at h)
theorem in1 {t : Nat} (hr : fn.results = #[.tmp t]) (hl : look T t = some V) : SW (FEnv P TE hTE fn nt H0 (Is V H) ρ0 w0) (.code .ret :: k) T H :=
  ret1 hr (sub_T (subTT_get ⟨hl, trivial⟩))
theorem in2 {t u : Nat} {x : SV} (hr : fn.results = #[.tmp t, .tmp u]) (htu : Nat.beq t u = false) (hl : look T t = some V) (hx : look T u = some x) :
    SW (FEnv P TE hTE fn nt H0 (Is (.tup [V, x]) H) ρ0 w0) (.code .ret :: k) T H :=
  ret2 hr htu (sub_T (subTT_get ⟨hl, hx, trivial⟩))
theorem inC {t ty h o : Nat} {ob : Option Bool} (hr : fn.results = #[.cell t ty]) (hl : look T t = some (.ptr h o)) (hv : vLoad (TE ty) H h o = some (.val ob V)) (hob : ob.getD true = true) :
    SW (FEnv P TE hTE fn nt H0 (Is V H) ρ0 w0) (.code .ret :: k) T H := by
  refine sw_ret fun ρ a w hs => ?_
  have h1 := (hs.ts.val t (.ptr h o) hl).1
  obtain ⟨q1, q2⟩ := vLoad_ok (P := P) hs.hs (hTE ty) hv hob
  rw [Sem.run_bind] at q2
  have hl : (loadVar ty ⟨(ρ h).1, (ρ h).2 + o, none⟩).run P w = .ok (V.tr ρ) w := by
    cases hx : (loadVar ty ⟨(ρ h).1, (ρ h).2 + o, none⟩).run P w with
    | ok u w' => rw [hx] at q2; simp at q2; rw [q2.1, q2.2]
    | halt x w' => rw [hx] at q2; simp at q2
  refine ⟨hs.ts.def0, V.tr ρ, ?_, ρ, H, V, ⟨rfl, rfl⟩, rfl, q1, hs.hs, hs.base⟩
  simp [results, hr, h1, SV.tr, asAddr, hl]
end

/-- What a call with the whole heap leaves is the caller's own. -/
theorem whole_sat {E : Env} {ρ ρ' : Nat → Nat × Nat} {T : List (Nat × SV)} {H L : List HE} {a : Act} {w w' : World} (hs : Sat E ρ T H a w)
    (hc : HSat w (Own ρ H) ρ' L w') : HSat E.w0 E.bs ρ' L w' := by
  refine ⟨hc.objs, hc.size, hc.inj, ?_, ?_⟩
  · intro h o ho hoo
    rcases hc.own h o ho hoo with ⟨g, og, g1, g2, g3⟩ | h1
    · have := hs.hs.own g og g1 g2
      rw [g3] at this; exact this
    · right; have := hs.hs.fr.size; omega
  · refine ⟨by have := hs.hs.fr.size; have := hc.fr.size; omega, fun b hb1 hnb => ?_, hc.fr.io.1.trans hs.hs.fr.io.1, hc.fr.io.2.1.trans hs.hs.fr.io.2.1, hc.fr.io.2.2.trans hs.hs.fr.io.2.2⟩
    rw [hc.fr.same b (by have := hs.hs.fr.size; omega) ?_]
    · exact hs.hs.fr.same b hb1 hnb
    · rintro ⟨g, og, g1, g2, g3⟩
      rcases hs.hs.own g og g1 g2 with h1 | h1
      · rw [g3] at h1; exact hnb h1
      · rw [g3] at h1; omega

theorem own_sat {E : Env} {ρ : Nat → Nat × Nat} {T : List (Nat × SV)} {H : List HE} {a : Act} {w : World} (hs : Sat E ρ T H a w) : HSat w (Own ρ H) ρ H w :=
  ⟨hs.hs.objs, hs.hs.size, hs.hs.inj, fun h o ho hoo => .inl ⟨h, o, ho, hoo, rfl⟩, Fr.refl _ _⟩

theorem sw_in {E : Env} {all r : List Oper} {k : List KI} {o : Oper} {T : List (Nat × SV)} {H : List HE} {c : Call} {f : Nat} {as : List SV} {V : SV} {L : List HE} {fn : Func}
    (hop : o.op = .call c) (hc : calleeF T c = some (f, as)) (hf : E.P.funcs[f]? = some fn) (hbody : fn.body.isSome = true) (hname : (fn.name == "runtime.NumGoroutine") = false)
    (hg : guardF all T o.guard = 0)
    (hF : Gives E.P f as H (Is V L)) {T' : List (Nat × SV)} (hd : (match o.dst with | some d => (match Nat.blt d E.nt with | true => some ((d, V) :: T) | false => none) | none => some T) = some T')
    (hk : SW E (.ops all r :: k) T' L) : SW E (.ops all (o :: r) :: k) T H := by
  intro ρ a w hs
  refine wpList_of_wp (guard_wanted hs hg) ?_
  obtain ⟨hr1, hr2⟩ := callee_run hop hc hf hbody hname ρ a w hs
  unfold Oper.wp
  rw [hr1]
  refine Oper.upon_enter' (hF ρ w (own_sat hs) hr2) ?_ (fun c w' h => h) (fun w' h => h)
  rintro V' w' ⟨ρ', H', v, ⟨rfl, rfl⟩, rfl, hvok, hS, hb⟩
  have hS' := whole_sat hs hS
  have hts := hs.ts.ext (ρ' := ρ') (A' := there H') (fun x hx => (hb x hx).1.symm) (fun x hx => (hb x hx).2)
  have hbase : Base E ρ' H' := fun x hx => let ⟨q1, q2⟩ := hs.base x hx; ⟨by rw [(hb x q2).1]; exact q1, (hb x q2).2⟩
  cases hdd : o.dst with
  | none =>
    rw [hdd] at hd; simp at hd; subst hd
    exact hk ρ' _ w' ⟨hS', hts, hbase⟩
  | some d =>
    rw [hdd] at hd; simp only at hd
    split at hd
    · rename_i hlt
      simp at hd; subst hd
      exact hk ρ' _ w' ⟨hS', hts.put (blt_lt hlt) hvok, hbase⟩
    · simp at hd

/-! Atomic numbers, in one goroutine. -/
theorem sw_add {E : Env} {all r : List Oper} {k : List KI} {o : Oper} {T : List (Nat × SV)} {H H' : List HE} {c : Call} {f : Nat} {h i ty : Nat} {l l' : List SV} {x y : Int} {fn : Func} {d : Nat}
    (hop : o.op = .call c) (hc : calleeF T c = some (f, [.ptr h i, .int .i64 y])) (hf : E.P.funcs[f]? = some fn) (hname : (fn.name == "runtime.NumGoroutine") = false)
    (hb : fn.body.isNone = true) (hn : Extern.findNext fn = none) (he : Extern.find fn = some (Extern.Atomic.update (Op.intArith .add) .i64 true))
    (hg : guardF all T o.guard = 0) (hd : o.dst = some d) (hlt : Nat.blt d E.nt = true) (hH : getH H h = some (.cells l ty)) (hx : nthF l i = some (.int .i64 x))
    (hl : setF l i (.int .i64 (IntKind.i64.wrap (x + y))) = some l') (hH' : setO H h (.obj (.cells l' ty)) = some H')
    (hk : SW E (.ops all r :: k) ((d, .int .i64 (IntKind.i64.wrap (x + y))) :: T) H') : SW E (.ops all (o :: r) :: k) T H := by
  intro ρ a w hs
  refine wpList_of_wp (guard_wanted hs hg) ?_
  unfold calleeF at hc
  split at hc
  · rename_i xo hcal
    split at hc
    · rename_i f' first cap as' hxo has
      simp at hc
      obtain ⟨rfl, hargs⟩ := hc
      obtain ⟨h1, h2⟩ := ev_tr hs.ts hxo
      obtain ⟨h3, h4⟩ := evs_tr hs.ts has
      have hmap : c.args.map a.eval = (SV.trs ρ as').toArray := by rw [toArr_map, h3]
      have hcell := cells_at hs.hs hH (i := i) (by rw [← nthF_eq]; exact hx)
      obtain ⟨⟨hp, hrow⟩, hok⟩ := hs.hs.objs _ _ (getH_some.1 hH)
      have hall : (SV.trs ρ first).toArray ++ (SV.trs ρ as').toArray ++ (SV.trs ρ cap).toArray = #[.pointer (some ⟨(ρ h).1, (ρ h).2 + i, none⟩), .int .i64 y] := by
        have := congrArg (SV.trs ρ) hargs
        simp only [trs_append] at this
        rw [← Array.toList_inj]
        simp only [Array.toList_append, List.append_assoc]
        rw [this]; simp [SV.trs, SV.tr]
      have hfz : w.frozen? ⟨(ρ h).1, (ρ h).2 + i, none⟩ = false := by simp [World.frozen?, hrow]
      have hadd := run_call_add (P := E.P) hf hname hb hn .i64 he (w := w) (x := x) (y := y) (s := IntKind.i64.wrap (x + y)) (a := ⟨(ρ h).1, (ρ h).2 + i, none⟩) hcell hfz (by simp [Op.intArith])
      unfold Oper.wp
      have hrun : (execOp a.eval o).run E.P w = .ok (.value (.int .i64 (IntKind.i64.wrap (x + y)))) (w.setCell ⟨(ρ h).1, (ρ h).2 + i, none⟩ (.int .i64 (IntKind.i64.wrap (x + y)))) := by
        simp only [execOp, hop, Sem.run_bind]
        simp only [resolve, hcal, h1, SV.tr, Deferred.ofValue, hmap, Sem.run_pure, Result.andThen_ok, invoke]
        rw [hall]
        exact hadd
      rw [hrun, Oper.upon_value, hd]
      obtain ⟨e1, e2⟩ := setF_eq hl
      have hS' := hs.hs.set (w' := w.setCell ⟨(ρ h).1, (ρ h).2 + i, none⟩ (.int .i64 (IntKind.i64.wrap (x + y)))) (o := .cells l' ty) (getH_some.1 hH) rfl rfl
        (by
          simp only [SO.okh] at hok ⊢
          rw [okhs_iff] at hok ⊢
          intro v hv
          subst e1
          rcases List.mem_or_eq_of_mem_set hv with hv | rfl
          · exact hok v hv
          · rfl)
        ⟨rfl, rfl, rfl⟩ (by simp [World.setCell]) (fun b hbn => heap_setCell_other w _ b _ hbn)
        ⟨hp, by
          rw [hp, Nat.zero_add, heap_setCell_same w _ i _ ty _ hrow]
          simp [e1, trs_eq_map, SV.tr, List.map_set]⟩
      rw [← setO_eq hH'] at hS'
      have hmono : ∀ x, there H x = true → there H' x = true := fun x hx => by rw [setO_eq hH']; exact there_set hx
      refine hk ρ _ _ ⟨hS', ?_, fun x hx => let ⟨q1, q2⟩ := hs.base x hx; ⟨q1, hmono x q2⟩⟩
      exact (hs.ts.ext (fun _ _ => rfl) hmono).put (v := .int .i64 (IntKind.i64.wrap (x + y))) (blt_lt hlt) rfl
    · simp at hc
  · simp at hc

end Go.Hx
namespace Go.Hx
open Go
section
variable {P : Program} {TE : Nat → TI} {hTE : ∀ t, TIok P t (TE t)} {fn : Func} {nt : Nat} {H0 : List HE} {R : SV → List HE → Prop} {ρ0 : Nat → Nat × Nat} {w0 : World}
    {k k' : List KI} {T T' : List (Nat × SV)} {H H' : List HE}
theorem gob (bk n : Nat) {obl : List Bool} (h : run TE nt bk n k T H [] = .mk obl k' T' H')
    (ho : conj obl) (hs : SW (FEnv P TE hTE fn nt H0 R ρ0 w0) k' T' H') : SW (FEnv P TE hTE fn nt H0 R ρ0 w0) k T H := sw_run (E := FEnv P TE hTE fn nt H0 R ρ0 w0) bk n h ho hs

theorem go (n : Nat) {obl : List Bool} (h : run TE nt 100000 n k T H [] = .mk obl k' T' H')
    (ho : conj obl) (hs : SW (FEnv P TE hTE fn nt H0 R ρ0 w0) k' T' H') : SW (FEnv P TE hTE fn nt H0 R ρ0 w0) k T H := sw_run (E := FEnv P TE hTE fn nt H0 R ρ0 w0) 100000 n h ho hs

theorem go_in {all r : List Oper} {o : Oper} {c : Call} {f : Nat} {as : List SV} {V : SV} {L : List HE} {fn' : Func}
    (hop : o.op = .call c) (hc : calleeF T c = some (f, as)) (hf : P.funcs[f]? = some fn') (hbody : fn'.body.isSome = true) (hname : (fn'.name == "runtime.NumGoroutine") = false)
    (hg : guardF all T o.guard = 0)
    (hF : Gives P f as H (Is V L)) (hd : (match o.dst with | some d => (match Nat.blt d nt with | true => some ((d, V) :: T) | false => none) | none => some T) = some T')
    (hk : SW (FEnv P TE hTE fn nt H0 R ρ0 w0) (.ops all r :: k) T' L) : SW (FEnv P TE hTE fn nt H0 R ρ0 w0) (.ops all (o :: r) :: k) T H :=
  sw_in (E := FEnv P TE hTE fn nt H0 R ρ0 w0) hop hc hf hbody hname hg hF hd hk

theorem go_add {all r : List Oper} {o : Oper} {c : Call} {f : Nat} {h i ty : Nat} {l l' : List SV} {x y : Int} {fn' : Func} {d : Nat}
    (hop : o.op = .call c) (hc : calleeF T c = some (f, [.ptr h i, .int .i64 y])) (hf : P.funcs[f]? = some fn') (hname : (fn'.name == "runtime.NumGoroutine") = false)
    (hb : fn'.body.isNone = true) (hn : Extern.findNext fn' = none) (he : Extern.find fn' = some (Extern.Atomic.update (Op.intArith .add) .i64 true))
    (hg : guardF all T o.guard = 0) (hd : o.dst = some d) (hlt : Nat.blt d nt = true) (hH : getH H h = some (.cells l ty)) (hx : nthF l i = some (.int .i64 x))
    (hl : setF l i (.int .i64 (IntKind.i64.wrap (x + y))) = some l') (hH' : setO H h (.obj (.cells l' ty)) = some H')
    (hk : SW (FEnv P TE hTE fn nt H0 R ρ0 w0) (.ops all r :: k) ((d, .int .i64 (IntKind.i64.wrap (x + y))) :: T) H') : SW (FEnv P TE hTE fn nt H0 R ρ0 w0) (.ops all (o :: r) :: k) T H :=
  sw_add (E := FEnv P TE hTE fn nt H0 R ρ0 w0) hop hc hf hname hb hn he hg hd hlt hH hx hl hH' hk
end
end Go.Hx

/-
  Regions that draw, as they are met.
-/
namespace Go.Hx
open Go

def brF : List (Nat × Bool) → Nat → SV → SV
  | [], _, v => v
  | (k, b) :: r, d, v => match Nat.beq k d with
    | true => match b with | true => .tt | false => .ff
    | false => brF r d v

/-- What is known behind a region, gone through in the text's order; of an effect it is told what it gives, and the heap behind it. -/
def runD (TE : Nat → TI) (al : List Oper) (br : List (Nat × Bool)) : List Oper → Nat → List (Nat × SV) → List HE → List (Nat × SV × List HE) → Option (List (Nat × SV))
  | [], _, T, _, _ => some T
  | o :: r, i, T, H, es => match guardF al T o.guard with
    | 1 => match o.dst with
      | some d => runD TE al br r (i + 1) ((d, .tup []) :: T) H es
      | none => runD TE al br r (i + 1) T H es
    | 0 => match (match es with | [] => none | (e, v, H') :: es' => match Nat.beq e i with | true => some (v, H', es') | false => none) with
      | some (v, H', es') => match o.dst with
        | some d => runD TE al br r (i + 1) ((d, v) :: T) H' es'
        | none => runD TE al br r (i + 1) T H' es'
      | none => match stepV TE T H o.op with
        | some (.val _ v) => match o.dst with
          | some d => match v with
            | .bool b => runD TE al br r (i + 1) ((d, brF br d (.bool b)) :: T) H es
            | v => runD TE al br r (i + 1) ((d, v) :: T) H es
          | none => runD TE al br r (i + 1) T H es
        | _ => none
    | _ => none

theorem runD_ext {TE : Nat → TI} {al : List Oper} {br : List (Nat × Bool)} : ∀ {l : List Oper} {i : Nat} {T Tn : List (Nat × SV)} {H : List HE} {es : List (Nat × SV × List HE)}, runD TE al br l i T H es = some Tn →
    ∀ t v, look Tn t = some v → (∀ o ∈ l, o.dst ≠ some t) → look T t = some v := by
  intro l
  induction l with
  | nil => intro i T Tn H es h t v hv _; simp [runD] at h; subst h; exact hv
  | cons o r ih =>
    intro i T Tn H es h t v hv hd
    have hr : ∀ o' ∈ r, o'.dst ≠ some t := fun o' ho => hd o' (by simp [ho])
    have hne : ∀ {d : Nat} {u : SV}, o.dst = some d → look ((d, u) :: T) t = some v → look T t = some v := by
      intro d u hod hl
      rw [look_cons] at hl
      split at hl
      · rename_i e; subst e; exact absurd hod (hd o (by simp))
      · exact hl
    unfold runD at h
    split at h
    · split at h
      · rename_i d hod; exact hne hod (ih h t v hv hr)
      · exact ih h t v hv hr
    · split at h
      · split at h
        · rename_i d hod; exact hne hod (ih h t v hv hr)
        · exact ih h t v hv hr
      · split at h
        · split at h
          · rename_i d hod
            split at h
            · exact hne hod (ih h t v hv hr)
            · exact hne hod (ih h t v hv hr)
          · exact ih h t v hv hr
        · simp at h
    · simp at h

def qOps (TE : Nat → TI) (nt : Nat) (al : List Oper) (Tn : List (Nat × SV)) (effs : List Nat) (H : List HE) (c : Nat) : List Oper → Nat → Prop
  | [], _ => True
  | o :: r, j => (match memN j effs || !(meets al j o effs c) with | true => True | false => qProp TE nt al Tn H o) ∧ qOps TE nt al Tn effs H c r (j + 1)
def qAll (TE : Nat → TI) (nt : Nat) (al : List Oper) (Tn : List (Nat × SV)) (effs : List Nat) : List (List HE) → Nat → Prop
  | [], _ => True
  | H :: r, c => qOps TE nt al Tn effs H c al 0 ∧ qAll TE nt al Tn effs r (c + 1)

theorem qOps_get {TE : Nat → TI} {nt : Nat} {al : List Oper} {Tn : List (Nat × SV)} {effs : List Nat} {H : List HE} {c : Nat} : ∀ {l : List Oper} {i : Nat}, qOps TE nt al Tn effs H c l i →
    ∀ (j : Nat) (o : Oper), l[j]? = some o → i + j ∉ effs → meets al (i + j) o effs c = true → qProp TE nt al Tn H o
  | [], i, _, j, o, h, _, _ => by simp at h
  | x :: r, i, hq, j, o, h, hm, hc => by
    cases j with
    | zero =>
      simp at h; subst h
      have h1 := hq.1
      have : (memN (i + 0) effs || !(meets al (i + 0) x effs c)) = false := by
        rw [hc]
        cases hb : memN (i + 0) effs with
        | false => rfl
        | true => exact absurd (memN_iff.1 hb) hm
      rw [Nat.add_zero] at this
      rw [this] at h1
      exact h1
    | succ j =>
      have := qOps_get hq.2 j o (by simpa using h)
      rw [show i + 1 + j = i + (j + 1) from by omega] at this
      exact this hm hc
theorem qAll_get {TE : Nat → TI} {nt : Nat} {al : List Oper} {Tn : List (Nat × SV)} {effs : List Nat} : ∀ {hps : List (List HE)} {i : Nat}, qAll TE nt al Tn effs hps i →
    ∀ (c : Nat) (H : List HE), hps[c]? = some H → qOps TE nt al Tn effs H (i + c) al 0
  | [], i, _, c, H, h => by simp at h
  | x :: r, i, hq, c, H, h => by
    cases c with
    | zero => simp at h; subst h; exact hq.1
    | succ c =>
      have := qAll_get hq.2 c H (by simpa using h)
      rw [show i + 1 + c = i + (c + 1) from by omega] at this
      exact this

def lastH : List (List HE) → List HE
  | [] => []
  | [h] => h
  | _ :: r => lastH r

/-- The effects, one by one. -/
def eAll (E : Env) (al : List Oper) (Tn : List (Nat × SV)) : List Nat → List (List HE) → Prop
  | j :: es, H :: H' :: r => (∃ o, al[j]? = some o ∧ DStep E al Tn j o H H') ∧ eAll E al Tn es (H' :: r)
  | _, _ => True
theorem eAll_get {E : Env} {al : List Oper} {Tn : List (Nat × SV)} : ∀ {es : List Nat} {hps : List (List HE)}, eAll E al Tn es hps →
    ∀ (c : Nat) (Hc Hc' : List HE), hps[c]? = some Hc → hps[c + 1]? = some Hc' → ∀ (j : Nat) (o : Oper), es[c]? = some j → al[j]? = some o → DStep E al Tn j o Hc Hc'
  | [], hps, _, c, Hc, Hc', _, _, j, o, h, _ => by simp at h
  | x :: es, [], _, c, Hc, Hc', h, _, j, o, _, _ => by simp at h
  | x :: es, [a], _, c, Hc, Hc', _, h, j, o, _, _ => by simp at h
  | x :: es, a :: b :: r, he, c, Hc, Hc', h1, h2, j, o, h3, h4 => by
    cases c with
    | zero =>
      simp at h1 h2 h3; subst h1; subst h2; subst h3
      obtain ⟨o', ho, hd⟩ := he.1
      rw [ho] at h4; simp at h4; subst h4; exact hd
    | succ c => exact eAll_get he.2 c Hc Hc' (by simpa using h1) (by simpa using h2) j o (by simpa using h3) h4

section
variable {P : Program} {TE : Nat → TI} {hTE : ∀ t, TIok P t (TE t)} {fn : Func} {nt : Nat} {H0 : List HE} {R : SV → List HE → Prop} {ρ0 : Nat → Nat × Nat} {w0 : World}
    {k : List KI} {T Tn : List (Nat × SV)} {H : List HE} {al : List Oper} {id : Nat}

/-- With effects: each told by its place, its value, and the heap behind it. -/
theorem go_draw (br : List (Nat × Bool)) (es : List (Nat × SV × List HE)) (hm : P.follows .mixedOrders = true) (hrun : runD TE al br al 0 T H es = some Tn) (hreg : regOk al = true)
    (heffs : effsOk al (es.map (·.1)) = true) (hq : qAll TE nt al Tn (es.map (·.1)) (H :: es.map (·.2.2)) 0)
    (he : eAll (FEnv P TE hTE fn nt H0 R ρ0 w0) al Tn (es.map (·.1)) (H :: es.map (·.2.2)))
    (hk : SW (FEnv P TE hTE fn nt H0 R ρ0 w0) k Tn (lastH (H :: es.map (·.2.2)))) : SW (FEnv P TE hTE fn nt H0 R ρ0 w0) (.code (.region id al.toArray true) :: k) T H := by
  have hlast : ∀ (l : List (List HE)) (h : List HE), (h :: l)[l.length]? = some (lastH (h :: l)) := by
    intro l
    induction l with
    | nil => intro h; simp [lastH]
    | cons x r ih => intro h; simpa [lastH] using ih x
  refine sw_draw (E := FEnv P TE hTE fn nt H0 R ρ0 w0) (hps := H :: es.map (·.2.2)) (effs := es.map (·.1)) (Hl := lastH (H :: es.map (·.2.2))) hm hreg heffs
    (by simp [Nat.beq_refl]) (by simp) ?_ ?_ ?_ ?_ hk
  · have := hlast (es.map (·.2.2)) H
    simpa using this
  · intro t v hv hd
    exact runD_ext hrun t v hv fun o ho => by
      obtain ⟨i, hi⟩ := List.getElem?_of_mem ho
      exact hd i o hi
  · intro c Hc hc j o hj hmem hmeets
    have := qAll_get hq c Hc hc
    rw [Nat.zero_add] at this
    have := qOps_get this j o hj (by simpa using hmem) (by simpa using hmeets)
    exact this
  · exact eAll_get he

/-- Without effects. -/
theorem go_draw0 (br : List (Nat × Bool)) (hm : P.follows .mixedOrders = true) (hrun : runD TE al br al 0 T H [] = some Tn) (hreg : regOk al = true)
    (hq : qOps TE nt al Tn [] H 0 al 0) (hk : SW (FEnv P TE hTE fn nt H0 R ρ0 w0) k Tn H) : SW (FEnv P TE hTE fn nt H0 R ρ0 w0) (.code (.region id al.toArray true) :: k) T H :=
  go_draw br [] hm hrun hreg rfl ⟨hq, trivial⟩ trivial hk
end
end Go.Hx

/-
  Calls by contract, with names and heaps written out.
-/
namespace Go.Hx
open Go

mutual
def renF (σ : Nat → Option Nat) : SV → Option SV
  | .ptr h o => match σ h with | some h' => some (.ptr h' o) | none => none
  | .slice h o l c => match σ h with | some h' => some (.slice h' o l c) | none => none
  | .map h => match σ h with | some h' => some (.map h') | none => none
  | .func fn a c => match rensF σ a, rensF σ c with | some a', some c' => some (.func fn a' c') | _, _ => none
  | .iface t v => match renF σ v with | some v' => some (.iface t v') | none => none
  | .agg l => match rensF σ l with | some l' => some (.agg l') | none => none
  | .tup l => match rensF σ l with | some l' => some (.tup l') | none => none
  | .tt => some .tt
  | .ff => some .ff
  | .bool b => some (.bool b)
  | .int k n => some (.int k n)
  | .str s => some (.str s)
  | .nilptr => some .nilptr
  | .nilslice => some .nilslice
  | .nilmap => some .nilmap
  | .nilfunc => some .nilfunc
  | .niliface => some .niliface
  | .raw v => some (.raw v)
def rensF (σ : Nat → Option Nat) : List SV → Option (List SV)
  | [] => some []
  | v :: r => match renF σ v, rensF σ r with | some v', some r' => some (v' :: r') | _, _ => none
end

section
variable {σ : Nat → Option Nat} {σ' : Nat → Nat}
mutual
theorem renF_eq (h : ∀ x n, σ x = some n → n = σ' x) : ∀ {v u : SV}, renF σ v = some u → u = v.ren σ'
  | .ptr x o, u, hu => by
    simp only [renF] at hu
    split at hu
    · rename_i n hn; simp at hu; subst hu; simp [SV.ren, h x n hn]
    · simp at hu
  | .slice x o l c, u, hu => by
    simp only [renF] at hu
    split at hu
    · rename_i n hn; simp at hu; subst hu; simp [SV.ren, h x n hn]
    · simp at hu
  | .map x, u, hu => by
    simp only [renF] at hu
    split at hu
    · rename_i n hn; simp at hu; subst hu; simp [SV.ren, h x n hn]
    · simp at hu
  | .func fn a c, u, hu => by
    simp only [renF] at hu
    split at hu
    · rename_i a' c' ha hc; simp at hu; subst hu; simp [SV.ren, rensF_eq h ha, rensF_eq h hc]
    · simp at hu
  | .iface t v, u, hu => by
    simp only [renF] at hu
    split at hu
    · rename_i n hn; simp at hu; subst hu; simp [SV.ren, renF_eq h hn]
    · simp at hu
  | .agg l, u, hu => by
    simp only [renF] at hu
    split at hu
    · rename_i n hn; simp at hu; subst hu; simp [SV.ren, rensF_eq h hn]
    · simp at hu
  | .tup l, u, hu => by
    simp only [renF] at hu
    split at hu
    · rename_i n hn; simp at hu; subst hu; simp [SV.ren, rensF_eq h hn]
    · simp at hu
  | .tt, u, hu | .ff, u, hu | .bool _, u, hu | .int _ _, u, hu | .str _, u, hu | .nilptr, u, hu | .nilslice, u, hu | .nilmap, u, hu | .nilfunc, u, hu | .niliface, u, hu | .raw _, u, hu => by
    simp only [renF, Option.some.injEq] at hu; subst hu; simp [SV.ren]
theorem rensF_eq (h : ∀ x n, σ x = some n → n = σ' x) : ∀ {l u : List SV}, rensF σ l = some u → u = SV.rens σ' l
  | [], u, hu => by simp only [rensF, Option.some.injEq] at hu; subst hu; simp [SV.rens]
  | v :: r, u, hu => by
    simp only [rensF] at hu
    split at hu
    · rename_i a b ha hb; simp at hu; subst hu; simp [SV.rens, renF_eq h ha, rensF_eq h hb]
    · simp at hu
end
end

def soF (σ : Nat → Option Nat) : SO → Option SO
  | .cells l ty => match rensF σ l with | some l' => some (.cells l' ty) | none => none
  | .ints k ns ty => some (.ints k ns ty)
  | .win l => match rensF σ l with | some l' => some (.win l') | none => none
  | .winI k ns => some (.winI k ns)
def heF (σ : Nat → Option Nat) : HE → Option HE
  | .obj o => match soF σ o with | some o' => some (.obj o') | none => none
  | .opq => some .opq
  | .absent => some .absent
def setAllF (σ : Nat → Option Nat) : List HE → List Nat → List HE → Option (List HE)
  | H, s :: ss, e :: es => match heF σ e with
    | some e' => match setO H s e' with | some H' => setAllF σ H' ss es | none => none
    | none => none
  | H, _, _ => some H
def addAllF (σ : Nat → Option Nat) : List HE → List HE → Option (List HE)
  | H, [] => some H
  | H, e :: es => match heF σ e with
    | some e' => match snocO H e' with | some H' => addAllF σ H' es | none => none
    | none => none
def dropH : List HE → List Nat → List HE
  | l, [] => l
  | [], _ :: _ => []
  | _ :: r, _ :: s => dropH r s
def mergeF (σ : Nat → Option Nat) (σs : List Nat) (H Hn : List HE) : Option (List HE) :=
  match setAllF σ H σs Hn with
  | some H' => addAllF σ H' (dropH Hn σs)
  | none => none

section
variable {σ : Nat → Option Nat} {σ' : Nat → Nat}
theorem heF_eq (h : ∀ x n, σ x = some n → n = σ' x) : ∀ {e e' : HE}, heF σ e = some e' → e' = e.ren σ'
  | .absent, e', he => by simp [heF] at he; simp [HE.ren, he]
  | .opq, e', he => by simp [heF] at he; simp [HE.ren, he]
  | .obj o, e', he => by
    simp only [heF] at he
    split at he
    · rename_i o' ho
      simp at he; subst he
      cases o with
      | cells l ty =>
        simp only [soF] at ho
        split at ho
        · rename_i l' hl; simp at ho; subst ho; simp [HE.ren, SO.ren, rensF_eq h hl]
        · simp at ho
      | ints k ns ty => simp [soF] at ho; subst ho; simp [HE.ren, SO.ren]
      | winI k ns => simp [soF] at ho; subst ho; simp [HE.ren, SO.ren]
      | win l =>
        simp only [soF] at ho
        split at ho
        · rename_i l' hl; simp at ho; subst ho; simp [HE.ren, SO.ren, rensF_eq h hl]
        · simp at ho
    · simp at he
theorem setAllF_eq (h : ∀ x n, σ x = some n → n = σ' x) : ∀ {H : List HE} {ss : List Nat} {es H' : List HE}, setAllF σ H ss es = some H' → H' = setAll σ' H ss es
  | H, [], es, H', hh => by simp [setAllF] at hh; simp [setAll, hh]
  | H, s :: ss, [], H', hh => by simp [setAllF] at hh; simp [setAll, hh]
  | H, s :: ss, e :: es, H', hh => by
    simp only [setAllF] at hh
    split at hh
    · rename_i e' he
      split at hh
      · rename_i H1 h1
        simp only [setAll]
        rw [← heF_eq h he, ← setO_eq h1]
        exact setAllF_eq h hh
      · simp at hh
    · simp at hh
theorem addAllF_eq (h : ∀ x n, σ x = some n → n = σ' x) : ∀ {H es H' : List HE}, addAllF σ H es = some H' → H' = H ++ es.map (HE.ren σ')
  | H, [], H', hh => by simp [addAllF] at hh; simp [hh]
  | H, e :: es, H', hh => by
    simp only [addAllF] at hh
    split at hh
    · rename_i e' he
      split at hh
      · rename_i H1 h1
        rw [addAllF_eq h hh, snocO_eq h1, heF_eq h he]
        simp
      · simp at hh
    · simp at hh
theorem dropH_eq : ∀ (l : List HE) (s : List Nat), dropH l s = l.drop s.length
  | l, [] => by simp [dropH]
  | [], _ :: _ => by simp [dropH]
  | _ :: r, _ :: s => by simp [dropH, dropH_eq r s]
theorem mergeF_eq (h : ∀ x n, σ x = some n → n = σ' x) {σs : List Nat} {H Hn H' : List HE} (hh : mergeF σ σs H Hn = some H') : H' = merge σ' σs H Hn := by
  unfold mergeF at hh
  split at hh
  · rename_i H1 h1
    rw [addAllF_eq h hh, setAllF_eq h h1, dropH_eq]; rfl
  · simp at hh
end

/-- A call by its contract: where it goes on, written out. -/
def callF (σs : List Nat) (nt : Nat) (dst : Option Nat) (T : List (Nat × SV)) (H : List HE) (V : SV) (L : List HE) : Option (List (Nat × SV) × List HE) :=
  match lenO H nums with
  | some n => match dst, renF (sigO σs n) V, mergeF (sigO σs n) σs H L with
    | some d, some V', some H' => match Nat.blt d nt with | true => some ((d, V') :: T, H') | false => none
    | none, some _, some H' => some (T, H')
    | _, _, _ => none
  | none => none

theorem sigO_nm {σs : List Nat} {H : List HE} {n : Nat} (hn : lenO H nums = some n) : ∀ x m, sigO σs n x = some m → m = nm σs H x := fun x m h => by
  have := sigO_eq h
  rw [lenO_eq hn] at this
  exact this

/-- As 'sw_enter', with or without a destination. -/
theorem sw_call {E : Env} {all r : List Oper} {k : List KI} {o : Oper} {T T' : List (Nat × SV)} {H H' : List HE} {c : Call} {f : Nat} {as cargs : List SV} {Hc : List HE} {V : SV} {L : List HE} {fn : Func} (σs : List Nat)
    (hF : Gives E.P f cargs Hc (Is V L)) (hop : o.op = .call c) (hc : calleeF T c = some (f, as)) (hf : E.P.funcs[f]? = some fn) (hbody : fn.body.isSome = true) (hname : (fn.name == "runtime.NumGoroutine") = false)
    (hg : guardF all T o.guard = 0) (hargs : as = SV.rens (nm σs H) cargs) (hcok : SV.okhs (thereF Hc) cargs = true)
    (hlen : Nat.beq σs.length Hc.length = true) (hobj : allObj Hc = true) (hokc : okHs (thereF Hc) Hc = true) (hnd : nodupN σs = true) (hsub : subC (nm σs H) H 0 Hc)
    (hnew : newOk (L.drop σs.length) = true) (hr : callF σs E.nt o.dst T H V L = some (T', H'))
    (hk : SW E (.ops all r :: k) T' H') : SW E (.ops all (o :: r) :: k) T H := by
  unfold callF at hr
  split at hr
  · rename_i n hn
    have hσ := sigO_nm (σs := σs) hn
    split at hr
    · rename_i d V' H1 hd hV hM
      split at hr
      · rename_i hlt
        simp at hr; obtain ⟨rfl, rfl⟩ := hr
        refine sw_enter d hd hlt hg (callee_run hop hc hf hbody hname) hF σs hargs hcok hlen hobj hokc hnd hsub ?_
        rintro v Hn ⟨rfl, rfl⟩
        refine ⟨hnew, ?_⟩
        rw [← renF_eq hσ hV, ← mergeF_eq hσ hM]
        exact hk
      · simp at hr
    · rename_i hd _ hM
      simp at hr
      obtain ⟨rfl, rfl⟩ := hr
      -- no destination: through the whole heap
      intro ρ a w hs
      refine wpList_of_wp (guard_wanted hs hg) ?_
      obtain ⟨hr1, hr2⟩ := callee_run hop hc hf hbody hname ρ a w hs
      unfold Oper.wp
      rw [hr1]
      have hfun : thereF Hc = there Hc := funext (thereF_eq Hc)
      rw [hfun] at hcok hokc
      have hlen' := Nat.eq_of_beq_eq_true hlen
      have hsub' : ∀ (h : Nat) (o : SO), Hc[h]? = some (.obj o) → H[sig σs H.length h]? = some (.obj (o.ren (sig σs H.length))) := fun h o ho => by
        have := subC_get hsub h o ho
        simpa [nm] using this
      have hthc : ∀ h, there Hc h = true → there H (sig σs H.length h) = true := fun h hh => by
        obtain ⟨o, ho⟩ := allObj_get hobj (there_lt hh)
        exact there_of_obj (hsub' h o ho)
      have hSc : HSat w (Own (fun x => ρ (sig σs H.length x)) Hc) (fun x => ρ (sig σs H.length x)) Hc w := by
        refine ⟨fun h o ho => ⟨(SO.holds_ren o).1 (hs.hs.objs _ _ (hsub' h o ho)).1, okHs_get hokc ho⟩, fun h hh => hs.hs.size _ (hthc h hh), ?_, fun h o ho hoo => .inl ⟨h, o, ho, hoo, rfl⟩, Fr.refl _ _⟩
        intro h h' hh hh' e
        have := hs.hs.inj _ _ (hthc h hh) (hthc h' hh') e
        have l1 : h < σs.length := by rw [hlen']; exact there_lt hh
        have l2 : h' < σs.length := by rw [hlen']; exact there_lt hh'
        have g1 := sig_lt (b := H.length) l1
        have g2 := sig_lt (b := H.length) l2
        rw [this] at g1
        exact nodupN_get hnd g1 g2
      have hC := hF (fun x => ρ (sig σs H.length x)) w hSc hcok
      have he : SV.trs ρ as = SV.trs (fun x => ρ (sig σs H.length x)) cargs := by rw [hargs, trs_rens]; rfl
      rw [he]
      refine Oper.upon_enter' hC ?_ (fun c w' h => h) (fun w' h => h)
      rintro V' w' ⟨ρc, Hn, v, ⟨rfl, rfl⟩, rfl, hvok, hSn, hb⟩
      obtain ⟨ρ', m1, m2, m3, m4⟩ := merge_sat hs hlen' hobj hnd hsub' hSn hb hnew
      rw [hd]
      rw [mergeF_eq hσ hM] at hk
      refine hk ρ' _ w' ⟨m1, hs.ts.ext m2 m3, ?_⟩
      intro x hx
      obtain ⟨q1, q2⟩ := hs.base x hx
      exact ⟨by rw [← m2 x q2]; exact q1, m3 x q2⟩
    · simp at hr
  · simp at hr

section
variable {P : Program} {TE : Nat → TI} {hTE : ∀ t, TIok P t (TE t)} {fn : Func} {nt : Nat} {H0 : List HE} {R : SV → List HE → Prop} {ρ0 : Nat → Nat × Nat} {w0 : World}
    {k k' : List KI} {T T' : List (Nat × SV)} {H H' : List HE}
theorem go_call {all r : List Oper} {o : Oper} {c : Call} {f : Nat} {as cargs : List SV} {Hc : List HE} {V : SV} {L : List HE} {fn' : Func} (σs : List Nat)
    (hF : Gives P f cargs Hc (Is V L)) (hop : o.op = .call c) (hc : calleeF T c = some (f, as)) (hf : P.funcs[f]? = some fn') (hbody : fn'.body.isSome = true) (hname : (fn'.name == "runtime.NumGoroutine") = false)
    (hg : guardF all T o.guard = 0) (hargs : as = SV.rens (nm σs H) cargs) (hcok : SV.okhs (thereF Hc) cargs = true)
    (hlen : Nat.beq σs.length Hc.length = true) (hobj : allObj Hc = true) (hokc : okHs (thereF Hc) Hc = true) (hnd : nodupN σs = true) (hsub : subC (nm σs H) H 0 Hc)
    (hnew : newOk (L.drop σs.length) = true) (hr : callF σs nt o.dst T H V L = some (T', H'))
    (hk : SW (FEnv P TE hTE fn nt H0 R ρ0 w0) (.ops all r :: k) T' H') : SW (FEnv P TE hTE fn nt H0 R ρ0 w0) (.ops all (o :: r) :: k) T H :=
  sw_call (E := FEnv P TE hTE fn nt H0 R ρ0 w0) σs hF hop hc hf hbody hname hg hargs hcok hlen hobj hokc hnd hsub hnew hr hk

/-- In a region that draws: a call as an effect. -/
theorem de_call {al : List Oper} {Tn : List (Nat × SV)} {j : Nat} {o : Oper} {c : Call} {f : Nat} {as cargs : List SV} {Hc : List HE} {V V' : SV} {L : List HE} {fn' : Func} {d : Nat} (σs : List Nat)
    (hF : Gives P f cargs Hc (Is V L)) (hreg : regOk al = true) (hj : al[j]? = some o)
    (hd : o.dst = some d) (hlt : Nat.blt d nt = true) (hg : guardF al Tn o.guard = 0) (hop : o.op = .call c) (hc : calleeF Tn c = some (f, as))
    (hf : P.funcs[f]? = some fn') (hbody : fn'.body.isSome = true) (hname : (fn'.name == "runtime.NumGoroutine") = false)
    (hargs : as = SV.rens (nm σs H) cargs) (hcok : SV.okhs (thereF Hc) cargs = true)
    (hlen : Nat.beq σs.length Hc.length = true) (hobj : allObj Hc = true) (hokc : okHs (thereF Hc) Hc = true) (hnd : nodupN σs = true) (hsub : subC (nm σs H) H 0 Hc)
    (hnew : newOk (L.drop σs.length) = true) (hr : callF σs nt (some d) [] H V L = some ([(d, V')], H')) (hlook : look Tn d = some V') :
    ∃ o, al[j]? = some o ∧ DStep (FEnv P TE hTE fn nt H0 R ρ0 w0) al Tn j o H H' := by
  refine ⟨o, hj, ?_⟩
  unfold callF at hr
  split at hr
  · rename_i n hn
    have hσ := sigO_nm (σs := σs) hn
    split at hr
    · rename_i d' V1 H1 hd' hV hM
      split at hr
      · simp at hr; obtain ⟨⟨rfl, rfl⟩, rfl⟩ := hr
        exact dstep_enter (E := FEnv P TE hTE fn nt H0 R ρ0 w0) hreg hj hd hlt hg hop hc hf hbody hname hF σs hargs hcok hlen hobj hokc hnd hsub hnew (renF_eq hσ hV).symm (mergeF_eq hσ hM).symm hlook
      · simp at hr
    · simp at hr
    · simp at hr
  · simp at hr
end
end Go.Hx

/-
  From what a function gives to the row's own words.
-/
namespace Go.Hx
open Go Go.RowKit

/-- Nothing that was there has changed. -/
theorem below_of {w w' : World} {bs : Nat → Prop} (h : Fr w bs w') (hn : ∀ b, ¬ bs b) : Below w.heap.size w w' :=
  ⟨h.io.1, h.io.2.1, h.io.2.2, h.size, fun k hk => h.same k hk (hn k)⟩

/-- A call that owns nothing of what was there, and gives true. -/
theorem calls_true {P : Program} {f : Nat} {args : List SV} {H L : List HE} {w : World} (ρ : Nat → Nat × Nat) (hg : Gives P f args H (Is .tt L))
    (hS : HSat w (Own ρ H) ρ H w) (hok : SV.okhs (there H) args = true) (hno : ∀ b, ¬ Own ρ H b) {av : Array Value} (hav : av = (SV.trs ρ args).toArray) :
    Calls P f av w fun e w' => e = .returned (.bool true) ∧ Below w.heap.size w w' := by
  subst hav
  refine Calls.mono (hg ρ w hS hok) fun e w' he => ?_
  cases e with
  | returned V =>
    obtain ⟨ρ', H', v, ⟨rfl, _⟩, rfl, _, h2, _⟩ := he
    exact ⟨rfl, below_of h2.fr hno⟩
  | panicked c => exact he.elim
  | outgrown => exact he.elim

/-- A heap of windows alone: it owns nothing. -/
theorem own_none {ρ : Nat → Nat × Nat} {H : List HE} (h : ∀ (i : Nat) (o : SO), H[i]? = some (HE.obj o) → o.owned = false) : ∀ b, ¬ Own ρ H b := by
  rintro b ⟨i, o, h1, h2, _⟩
  rw [h i o h1] at h2; simp at h2

theorem hsat_nil (w : World) (ρ : Nat → Nat × Nat) : HSat w (Own ρ []) ρ [] w :=
  ⟨fun h o ho => by simp at ho, fun h hh => by simp [there] at hh, fun h h' hh => by simp [there] at hh, fun h o ho => by simp at ho, Fr.refl _ _⟩

/-- One window of integers. -/
theorem hsat_winI {w : World} {k : IntKind} {b o : Nat} {ts : List Int} (hb : b < w.heap.size) (hc : ∀ (i : Nat) (n : Int), ts[i]? = some n → w.cell? ⟨b, o + i, none⟩ = some (.int k n)) :
    HSat w (Own (fun _ => (b, o)) [.obj (.winI k ts)]) (fun _ => (b, o)) [.obj (.winI k ts)] w := by
  refine ⟨?_, fun _ _ => hb, ?_, ?_, Fr.refl _ _⟩
  · intro h u hu
    cases h with
    | zero => simp at hu; subst hu; exact ⟨hc, rfl⟩
    | succ h => simp at hu
  · intro h h' hh hh' _
    have := there_lt hh
    have := there_lt hh'
    simp at *
    omega
  · intro h u hu ho
    cases h with
    | zero => simp at hu; subst hu; simp [SO.owned] at ho
    | succ h => simp at hu

end Go.Hx
