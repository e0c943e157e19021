/- The heap machine, part 3: values over handles, and how a program of this language goes over them; for every program. -/
import Derived.Test.YtkkddjchkkaagaaGreatDoorHyb
/-
  Things that are there or not: pointers, rows, and what they point to.
-/
namespace Go.Hx
open Go

/-- A row that grew, or none. -/
def slV (o : Option (List Int)) (h : Nat) : SV := match o with | none => .nilslice | some l => .sbuf h 1 0 l.length
def slE (o : Option (List Int)) (k : IntKind) (ty : TypeId) : HE := match o with | none => .absent | some l => .obj (.buf k l 1 ty)

section
variable {σ : Nat → Nat} {H H' : List HE} {h i : Nat}
theorem ren_slE {o : Option (List Int)} {k : IntKind} {ty : TypeId} : (slE o k ty).ren σ = slE o k ty := by cases o <;> rfl
theorem subE_same {e : HE} (hg : H[σ i]? = some e) (hr : e.ren σ = e) : subE σ H i e := by
  cases e with
  | absent => trivial
  | opq => simp [subE, there, hg, HE.there]
  | obj o =>
    simp only [HE.ren, HE.obj.injEq] at hr
    simp only [subE, getH_some.2 hg, hr, simG]
    exact simO_refl o
theorem okP_slV {o : Option (List Int)} {k : IntKind} {ty : TypeId} (e : thereF H' h = (slE o k ty).there) : okP (thereF H') (slV o h) := by
  cases o with
  | none => trivial
  | some l => simpa [slV, okP, slE, HE.there] using e
theorem okE_slE {A : Nat → Bool} {o : Option (List Int)} {k : IntKind} {ty : TypeId} : okE A (slE o k ty) := by cases o <;> trivial
end

def lst (o : Option (List Int)) : List Int := o.getD []
end Go.Hx

/-
  What is still to be done when a region is reached.
-/
namespace Go.Hx
open Go

def contR (id : Nat) : Code → List (Act → World → Prop) → List KI → Option (List KI)
  | .region j ops d, _, k => match Nat.beq j id with
    | true => some (.code (.region j ops d) :: k)
    | false => none
  | .seq a b, I, k => match contR id a I (.code b :: k) with
    | some r => some r
    | none => contR id b I k
  | .block n b, I, k => contR id b I (.blk n :: k)
  | .cond _ a b, I, k => match contR id a I k with
    | some r => some r
    | none => contR id b I k
  | .loop c, I, k => match I with
    | i :: I => contR id c I (.lp i :: k)
    | [] => none
  | _, _, _ => none
/-- What is still to be done at a region of a function, in loops. -/
def contF (fn : Func) (id : Nat) (I : List (Act → World → Prop)) : List KI := match fn.body with
  | some c => (contR id c I []).getD []
  | none => []
end Go.Hx

/-
  Which bool is it that a walk waits for? (A guess alone: nothing hangs on its being right.)
-/
namespace Go.Hx
open Go

inductive PrR where
  | done (s : St) (kept : List (Nat × Nat))
  | need (i : Nat) (b : Bool)
inductive PrD where
  | ok (cs : List Ch) (T : List (Nat × SV)) (H : List HE) (kept : List (Nat × Nat))
  | need (i : Nat) (b : Bool)
  | dead
inductive PrV where
  | ok (cs : List Ch) (v : SV) (H : List HE) (kept : List (Nat × Nat))
  | need (i : Nat) (b : Bool)
  | dead

/-- How many of the kept ones are older than the newest (p, d). -/
def keptAt (p d : Nat) : List (Nat × Nat) → Option Nat
  | [] => none
  | (q, e) :: r => match Nat.beq p q && Nat.beq d e with
    | true => some r.length
    | false => keptAt p d r
def keep1 (cs : List Ch) (v : SV) (p : Nat) (d : Option Nat) (kept : List (Nat × Nat)) : List (Nat × Nat) :=
  match cs, v, d with
  | [], .bool _, some d => (p, d) :: kept
  | [], .bool _, none => (p, 0) :: kept
  | _, _, _ => kept

def evalP (X : Tabs) (rec : Nat → St → List (Nat × Nat) → PrR) (p : Nat) (cs : List Ch) (f : Nat) (as : List SV) (H : List HE) (kept : List (Nat × Nat)) : PrV :=
  match X.FT f with
  | some fn => match (match X.CT f with | some sp => sp as H | none => none) with
    | some (_, V, L) => match forceHs L with
      | some L' => .ok cs V L' kept
      | none => .dead
    | none => match fn.body, Nat.ble as.length fn.ntmps, argTF nums as with
      | some c, true, some Ta => match rec (p + 1) ⟨cs, [], fn, fn.ntmps, H, [.code c], Ta, H⟩ kept with
        | .need i b => .need i b
        | .done ⟨cs', fs, fn', _, _, k, T, L⟩ kept' => match fs, isRet fn' k, resF X.TE fn'.results.toList T L with
          | [], true, some (_, vs) => .ok cs' (tupF vs) L kept'
          | _, _, _ => .dead
      | _, _, _ => .dead
  | none => .dead

def drawP (X : Tabs) (rec : Nat → St → List (Nat × Nat) → PrR) (p : Nat) (al : List Oper) (nt : Nat) : List Oper → List Ch → List (Nat × SV) → List HE → List (Nat × Nat) → PrD
  | [], cs, T, H, kept => .ok cs T H kept
  | o :: r, cs, T, H, kept => match guardF al T o.guard with
    | 1 => match putD nt o.dst T (.tup []) with
      | some T' => drawP X rec p al nt r cs T' H kept
      | none => .dead
    | 0 => match stepE X T H o.op with
      | some (.val _ v) => match ovr cs v with
        | some (cs', _, v') => match putD nt o.dst T v' with
          | some T' => drawP X rec p al nt r cs' T' H (keep1 cs v p o.dst kept)
          | none => .dead
        | none => .dead
      | some e => match afterF nt o.dst T H e with
        | some (_, T', H') => drawP X rec p al nt r cs T' H' kept
        | none => .dead
      | none => match o.op with
        | .call c => match (match calleeF T c with | some (f, as0) => (match forceL as0 with | some as => some (f, as) | none => none) | none => none) with
          | some (f, as) => match evalP X rec p cs f as H kept with
            | .need i b => .need i b
            | .dead => .dead
            | .ok cs1 V L kept1 => match ovr cs1 V with
              | some (cs', _, V') => match putD nt o.dst T V' with
                | some T' => drawP X rec p al nt r cs' T' L (keep1 cs1 V p o.dst kept1)
                | none => .dead
              | none => .dead
          | none => .dead
        | _ => .dead
    | _ => match guardU al T o.guard with
      | some (d, b) => match keptAt p d kept with
        | some i => .need i b
        | none => .dead
      | none => .dead

def stepP (X : Tabs) (rec : Nat → St → List (Nat × Nat) → PrR) (p : Nat) (s : St) (kept : List (Nat × Nat)) : PrR ⊕ (St × List (Nat × Nat)) :=
  match s with
  | ⟨cs, fs, fn, nt, H0, k, T, H⟩ =>
    match k with
    | .code (.region _ ops true) :: k' => match regOk ops.toList with
      | true => match drawP X rec p ops.toList nt ops.toList cs T H kept with
        | .need i b => .inl (.need i b)
        | .dead => .inl (.done ⟨cs, fs, fn, nt, H0, k, T, H⟩ kept)
        | .ok cs' T' H' kept' => .inr (⟨cs', fs, fn, nt, H0, k', T', H'⟩, kept')
      | false => match splitL ops.toList with
        | none => .inl (.done ⟨cs, fs, fn, nt, H0, k, T, H⟩ kept)
        | some (ini, last) => match drawP X rec p ini nt ini cs T H kept with
          | .need i b => .inl (.need i b)
          | .dead => .inl (.done ⟨cs, fs, fn, nt, H0, k, T, H⟩ kept)
          | .ok cs' T' H' kept' => match stepE X T' H' last.op with
            | none => .inl (.done ⟨cs, fs, fn, nt, H0, k, T, H⟩ kept)
            | some e => match afterF nt last.dst T' H' e with
              | none => .inl (.done ⟨cs, fs, fn, nt, H0, k, T, H⟩ kept)
              | some (_, T2, H2) => .inr (⟨cs', fs, fn, nt, H0, k', T2, H2⟩, kept')
    | _ => match step1 X (fun _ _ _ _ _ => none) ⟨cs, fs, fn, nt, H0, k, T, H⟩ with
      | some (_, s') => .inr (s', kept)
      | none => match cs, k with
        | [], .code (.cond (.tmp t) _ _) :: _ => match look T t with
          | some (.bool b) => .inl (.need kept.length b)
          | _ => .inl (.done ⟨cs, fs, fn, nt, H0, k, T, H⟩ kept)
        | [], .ops all (o :: _) :: _ => match guardU all T o.guard with
          | some (_, b) => .inl (.need kept.length b)
          | none => .inl (.done ⟨cs, fs, fn, nt, H0, k, T, H⟩ kept)
        | _, _ => .inl (.done ⟨cs, fs, fn, nt, H0, k, T, H⟩ kept)

def runP (X : Tabs) (bk : List Bk) : Nat → Nat → St → List (Nat × Nat) → PrR
  | 0, _, s, kept => .done s kept
  | n + 1, p, s, kept => match stopped bk s with
    | true => .done s kept
    | false => match stepP X (fun p s kept => runP X [] n p s kept) p s kept with
      | .inl r => r
      | .inr (s', kept') => runP X bk n p s' kept'
/-- The bool that is waited for, and how many are kept ahead of it. -/
def probe (X : Tabs) (bk : List Bk) (n : Nat) (s : St) : Option (Nat × Bool) :=
  match stepP X (fun p s kept => runP X [] n p s kept) 0 s [] with
  | .inl (.need i b) => some (i, b)
  | .inl _ => none
  | .inr (s', kept) => match runP X bk n 0 s' kept with
    | .need i b => some (i, b)
    | .done _ _ => none

section
variable {P : Program} {X : Tabs} (hX : TOk P X)
variable {Wb : (Nat → Nat × Nat) → World → Prop} {R : SV → List HE → Prop} {fn : Func} {nt : Nat} {H0 : List HE} {k : List KI} {T : List (Nat × SV)} {H : List HE} {fs : List Fm}
/-- Both ways at the bool that is waited for. -/
theorem ss_pb (bk : List Bk) (cs : List Ch) (n : Nat) {cs0 : List Ch} {i : Nat} {b : Bool} (_ : probe X bk n ⟨cs, fs, fn, nt, H0, k, T, H⟩ = some (i, b))
    (ht : b = true → SS hX Wb R ⟨cs0, fs, fn, nt, H0, k, T, H⟩) (hf : b = false → SS hX Wb R ⟨cs0, fs, fn, nt, H0, k, T, H⟩) : SS hX Wb R ⟨cs0, fs, fn, nt, H0, k, T, H⟩ := by
  cases b
  · exact hf rfl
  · exact ht rfl
end
end Go.Hx

/-
  Names found out of a heap; things that are there or not, more.
-/
namespace Go.Hx
open Go



end Go.Hx

/-
  A piece of code, gone through in a small heap: what else there is stays as it is.
-/
namespace Go.Hx
open Go














/-- What never is. -/
def Not2 : SV → List HE → Prop := fun _ _ => False

section
variable {P : Program} {X : Tabs} (hX : TOk P X)
variable {R : SV → List HE → Prop} {fn : Func} {nt : Nat} {H0 : List HE} {k : List KI} {T : List (Nat × SV)} {H : List HE} {cs : List Ch} {I : Act → World → Prop}

theorem not2_Q {ρ : Nat → Nat × Nat} {w : World} {H : List HE} (e : Exit) (a : Act) (w' : World) (h : (FEnv P X.TE hX.te fn nt H Not2 ρ w).Q e a w') : False := by
  simp only [FEnv] at h
  cases e with
  | normal => obtain ⟨_, v, _, ρ', H', v', h1, _⟩ := h; exact h1
  | ret => obtain ⟨_, v, _, ρ', H', v', h1, _⟩ := h; exact h1
  | panic c => exact h.2
  | outgrown => exact h
  | _ => exact h

end
end Go.Hx

/-
  Other names, of which some are of one thing; a value that is forgotten.
-/
namespace Go.Hx
open Go






section
variable {P : Program} {X : Tabs} (hX : TOk P X)
variable {R : SV → List HE → Prop} {fn : Func} {nt : Nat} {H0 : List HE} {k : List KI} {T : List (Nat × SV)} {H : List HE} {cs : List Ch}

end
end Go.Hx

/-
  A call in a world where a variable's cell is known.
-/
namespace Go.Hx
open Go Go.RowKit Go.ChangeShapes Go.WideShapes

/-- The cell of a variable. -/
abbrev pinE (v : Value) : HE := .obj (.pin 0 v)
theorem pin_lt {w : World} {v : Value} (hp : w.cell? ⟨0, 0, none⟩ = some v) : 0 < w.heap.size := by
  rcases Nat.eq_zero_or_pos w.heap.size with h0 | h
  · simp [World.cell?, h0] at hp
  · exact h
theorem hsat_pin {w : World} {v : Value} (hp : w.cell? ⟨0, 0, none⟩ = some v) : HSat w (Own (fun _ => (0, 0)) [pinE v]) (fun _ => (0, 0)) [pinE v] w := by
  refine ⟨?_, fun _ _ => pin_lt hp, ?_, ?_, Fr.refl _ _⟩
  · intro h u hu
    cases h with
    | zero => simp at hu; subst hu; exact ⟨⟨rfl, hp⟩, rfl⟩
    | succ h => simp at hu
  · intro h h' o o' hh hh' _
    have := there_lt (there_of_obj hh)
    have := there_lt (there_of_obj hh')
    simp at *
    omega
  · intro h u hu ho
    cases h with
    | zero => simp at hu; subst hu; simp [SO.owned] at ho
    | succ h => simp at hu

/-- Something that is not owned, and the cell. -/
theorem hsat_two {w : World} {v : Value} {o : SO} {p : Nat × Nat} (hp : w.cell? ⟨0, 0, none⟩ = some v) (ho : o.owned = false) (hk : o.okh (fun _ => false) = true)
    (hs : HSat w (Own (fun _ => p) [.obj o]) (fun _ => p) [.obj o] w) (hne : p.1 ≠ 0) :
    HSat w (Own (fun h => if h = 0 then p else (0, 0)) [.obj o, pinE v]) (fun h => if h = 0 then p else (0, 0)) [.obj o, pinE v] w := by
  have h0 := (hs.objs 0 o rfl).1
  have h0s : p.1 < w.heap.size := hs.size 0 rfl
  refine ⟨?_, fun h _ => ?_, ?_, ?_, Fr.refl _ _⟩
  · intro h u hu
    rcases h with _ | _ | h
    · simp at hu; subst hu
      refine ⟨?_, SO.okh_mono (A := fun _ => false) (fun x hx => by simp at hx) o hk⟩
      exact SO.holds_congr (A := fun _ => false) (fun x hx => by simp at hx) o hk h0
    · simp at hu; subst hu; exact ⟨⟨rfl, hp⟩, rfl⟩
    · simp at hu
  · show (if h = 0 then p else (0, 0)).1 < _; split
    · exact h0s
    · exact pin_lt hp
  · intro h h' o o' hh hh' e
    rcases h with _ | _ | h <;> rcases h' with _ | _ | h' <;> simp at * <;> omega
  · intro h u hu hoo
    rcases h with _ | _ | h
    · simp at hu; subst hu; rw [ho] at hoo; simp at hoo
    · simp at hu; subst hu; simp [SO.owned] at hoo
    · simp at hu

theorem okhs_none (A : Nat → Bool) (l : List SV) (hl : SV.okhs (fun _ => false) l = true) : SV.okhs A l = true := by
  rw [okhs_iff] at hl ⊢
  exact fun v hv => okh_mono (A := fun _ => false) (fun x hx => by simp at hx) v (hl v hv)


/-- No number, and no bool, lies in the variable's block. -/
theorem pin_ne {w : World} {v : Value} {ty : TypeId} {fr : Nat × Nat} (h0 : w.heap[0]? = some (.cells #[v] ty fr)) (hv : ∃ t u, v = .iface t u) {b o : Nat} {u : Value}
    (hu : w.cell? ⟨b, o, none⟩ = some u) (hni : ∀ t x, u ≠ .iface t x) : b ≠ 0 := by
  rintro rfl
  obtain ⟨t, x, rfl⟩ := hv
  simp only [World.cell?, h0] at hu
  rcases o with _ | o
  · simp at hu; exact hni t x hu.symm
  · simp at hu
theorem pin_cell {w : World} {v : Value} {ty : TypeId} {fr : Nat × Nat} (h0 : w.heap[0]? = some (.cells #[v] ty fr)) : w.cell? ⟨0, 0, none⟩ = some v := by
  simp [World.cell?, h0]
theorem okK_first : ∀ {ks : List (Option IntKind)} {l : List SV}, okK ks l → 0 < ks.length → ∃ u, l[0]? = some u ∧ ∀ ρ t x, u.tr ρ ≠ .iface t x
  | [], _, _, h => by simp at h
  | some k :: ks, l, h, _ => by
    rcases l with _ | ⟨a, l⟩
    · simp [okK] at h
    · simp only [okK] at h
      obtain ⟨⟨n, rfl, _⟩, _⟩ := h
      exact ⟨_, rfl, fun ρ t x => by simp [SV.tr]⟩
  | none :: ks, l, h, _ => by
    rcases l with _ | ⟨a, l⟩
    · simp [okK] at h
    · simp only [okK] at h
      obtain ⟨⟨n, rfl⟩, _⟩ := h
      exact ⟨_, rfl, fun ρ t x => by simp [SV.tr]⟩

theorem own_two {ρ : Nat → Nat × Nat} {o : SO} {v : Value} (h : o.owned = false) : ∀ b, ¬ Own ρ [HE.obj o, pinE v] b :=
  own_none fun i u hu => by
    rcases i with _ | _ | i
    · simp at hu; subst hu; exact h
    · simp at hu; subst hu; rfl
    · simp at hu

/-- One slice of rows. -/
theorem calls_rowsP {P : Program} {f : Nat} {pre post : List SV} {ks : List (Option IntKind)} {w : World} {a : Option Addr} {len cap : Nat} {v : Value} {ty : TypeId} {fr : Nat × Nat}
    (hp : w.heap[0]? = some (.cells #[v] ty fr)) (hv : ∃ t u, v = .iface t u) (hks : 0 < ks.length) (h : ArgRows w ks a len cap)
    (g0 : ∃ L, Gives P f (pre ++ .raw (.slice a 0 0) :: post) [pinE v] (Is .tt L)) (hpre : SV.okhs (fun _ => false) pre = true) (hpost : SV.okhs (fun _ => false) post = true)
    (g1 : ∀ (o : Nat → List SV), (∀ i, okK ks (o i)) → len ≤ maxLen → ∃ L, Gives P f (pre ++ .slice 0 0 len cap :: post) [.obj (.rows len ks.length o), pinE v] (Is .tt L)) :
    Calls P f (SV.trs (fun _ => (0, 0)) pre ++ Value.slice a len cap :: SV.trs (fun _ => (0, 0)) post).toArray w fun e w' => e = .returned (.bool true) ∧ Below w.heap.size w w' := by
  have hc0 := pin_cell hp
  rcases h with ⟨rfl, rfl⟩ | ⟨b, o, g, rfl, hl, h0, hm, hb, hk, hc⟩
  · obtain ⟨L, g0⟩ := g0
    refine calls_true (fun _ => (0, 0)) g0 (hsat_pin hc0) ?_ (own_one rfl) ?_
    · rw [okhs_append, okhs_none _ _ hpre]; simp [SV.okhs, SV.okh, okhs_none _ _ hpost]
    · rw [trs_append]; rfl
  · obtain ⟨L, hg⟩ := g1 g hk (by omega)
    have hne : b ≠ 0 := by
      obtain ⟨u, hu, hni⟩ := okK_first (hk 0) hks
      exact pin_ne hp hv (hc 0 (by omega) (fun _ => (0, 0)) 0 u hu) (hni _)
    refine calls_true (fun h => if h = 0 then (b, o) else (0, 0)) hg (hsat_two hc0 rfl rfl (hsat_rows hb hk fun i hi => hc i (by omega)) hne) ?_ (own_two rfl) ?_
    · rw [okhs_append, okhs_none _ _ hpre]; simp [SV.okhs, SV.okh, okhs_none _ _ hpost, there, HE.there]
    · rw [trs_append, trs_congr (A := fun _ => false) (fun x hx => by simp at hx) pre hpre]
      simp only [SV.trs, SV.tr]
      rw [trs_congr (A := fun _ => false) (fun x hx => by simp at hx) post hpost (ρ := fun h => if h = 0 then (b, o) else (0, 0)) (ρ' := fun _ => (0, 0))]
      rfl

section
variable {P : Program} {H : Type} {enc : TypeId × Value → H} {w : World} {t : TypeId} {d : DataW H} {ps : List MemPlace}
end

end Go.Hx

/-
  What a call of Go's library leaves that sets one cell: in handles.
-/
namespace Go.Hx
open Go Go.RowKit

theorem there_cons {e e' : HE} {R : List HE} (h : e.there = e'.there) : there (e :: R) = there (e' :: R) := by
  funext x
  rcases x with _ | x <;> simp [there, h]
/-- A call that sets the first thing's one cell, and makes new blocks. -/
theorem fnPost_setL {w w1 : World} {ρ : Nat → Nat × Nat} {c n : Int} {E : TypeId} {R : List HE} (hS : HSat w (Own ρ (.obj (.cells [.int .i64 c] E) :: R)) ρ (.obj (.cells [.int .i64 c] E) :: R) w)
    (hb : Below w.heap.size w w1) : FnPost w ρ (.obj (.cells [.int .i64 c] E) :: R) (Is .tt (.obj (.cells [.int .i64 n] E) :: R)) (.returned (.bool true)) (w1.setCell ⟨(ρ 0).1, 0, none⟩ (.int .i64 n)) := by
  obtain ⟨⟨h01, h02⟩, _⟩ := hS.objs 0 _ rfl
  have hlt := hS.size 0 rfl
  have hcell : w1.heap[(ρ 0).1]? = some (.cells #[.int .i64 c] E (0, 0)) := by rw [hb.block _ hlt, h02]; rfl
  have hset := one_setCell (u := .int .i64 n) hcell
  have hoth : ∀ k, k < w.heap.size → k ≠ (ρ 0).1 → (w1.setCell ⟨(ρ 0).1, 0, none⟩ (.int .i64 n)).heap[k]? = w.heap[k]? := fun k hk hn => by
    rw [Below.heap_setCell _ _ _ _ hn, hb.block k hk]
  have hsz : (w1.setCell ⟨(ρ 0).1, 0, none⟩ (.int .i64 n)).heap.size = w1.heap.size := by simp [World.setCell]
  have hth : there (HE.obj (.cells [.int .i64 n] E) :: R) = there (.obj (.cells [.int .i64 c] E) :: R) := there_cons rfl
  refine ⟨ρ, _, .tt, ⟨rfl, rfl⟩, rfl, rfl, ⟨?_, ?_, ?_, ?_, ?_⟩, fun h hh => ⟨rfl, ?_⟩⟩
  · intro h o ho
    rw [hth]
    rcases h with _ | h
    · simp at ho; subst ho
      exact ⟨⟨h01, hset⟩, rfl⟩
    · have ho' : (HE.obj (.cells [.int .i64 c] E) :: R)[h + 1]? = some (.obj o) := by simpa using ho
      obtain ⟨q1, q2⟩ := hS.objs (h + 1) o ho'
      have hne : (ρ (h + 1)).1 ≠ (ρ 0).1 := fun e => by have := hS.inj (h + 1) 0 _ _ ho' rfl e; omega
      exact ⟨SO.holds_world (hoth _ (hS.size _ (there_of_obj ho')) hne) o q1, q2⟩
  · intro h hh
    rw [hth] at hh
    have := hS.size h hh
    rw [hsz]
    exact Nat.lt_of_lt_of_le this hb.size
  · intro h h' o o' hh hh' e
    rcases h with _ | h <;> rcases h' with _ | h'
    · rfl
    · exact hS.inj 0 (h' + 1) _ _ rfl (by simpa using hh') e
    · exact hS.inj (h + 1) 0 _ _ (by simpa using hh) rfl e
    · exact hS.inj (h + 1) (h' + 1) _ _ (by simpa using hh) (by simpa using hh') e
  · intro h o ho hoo
    rcases h with _ | h
    · exact hS.own 0 _ rfl rfl
    · exact hS.own (h + 1) o (by simpa using ho) hoo
  · refine ⟨by rw [hsz]; exact hb.size, fun b hbl hn => ?_, hb.os, hb.tape, hb.output⟩
    refine hoth b hbl fun e => hn ?_
    exact ⟨0, _, rfl, rfl, e.symm⟩
  · rw [hth]; exact hh

/-- A call that leaves all as it was. -/
theorem fnPost_same {w : World} {ρ : Nat → Nat × Nat} {H : List HE} {V : SV} (hS : HSat w (Own ρ H) ρ H w) (hV : V.okh (there H) = true) : FnPost w ρ H (Is V H) (.returned (V.tr ρ)) w :=
  ⟨ρ, H, V, ⟨rfl, rfl⟩, rfl, hV, hS, fun _ hh => ⟨rfl, hh⟩⟩
end Go.Hx

/-
  Things that are there or not, under two names; what is forgotten.
-/
namespace Go.Hx
open Go

section
variable {σ σ' : Nat → Nat} {h h' : Nat} {H : List HE} {i : Nat}
theorem ren_slVe {o : Option (List Int)} : (slV o h).ren σ = slV o (σ h) := by cases o <;> rfl
theorem ren_obj (o : SO) : (HE.obj o).ren σ = .obj (o.ren σ) := rfl
theorem sim_slVr {o : Option (List Int)} (hs : σ h = h') : sim (slV o h') ((slV o h).ren σ) := by rw [ren_slVe, hs]; exact sim_refl _
end
end Go.Hx

/-
  Contracts over three objects, in a larger heap; a step of a run over an arena, as a row of the table.
-/
namespace Go.Hx
open Go
section
variable {P : Program} {f : Nat} {ags cargs : List SV} {V : SV} {H : List HE} {o0 o1 o2 p0 p1 p2 : SO} {h0 h1 h2 : Nat} {N : List HE}
theorem frame3 (hT : ∃ TE : Nat → TI, ∀ t, TIok P t (TE t)) (hF : Gives P f cargs [.obj o0, .obj o1, .obj o2] (Is V (.obj p0 :: .obj p1 :: .obj p2 :: N))) (hargs : ags = SV.rens (nm [h0, h1, h2] H) cargs)
    (hcok : SV.okhs (there [.obj o0, .obj o1, .obj o2]) cargs = true) (hokc : okHs (there [.obj o0, .obj o1, .obj o2]) [.obj o0, .obj o1, .obj o2] = true) (hnd : nodupN [h0, h1, h2] = true)
    (g0 : getH H h0 = some (o0.ren (nm [h0, h1, h2] H))) (g1 : getH H h1 = some (o1.ren (nm [h0, h1, h2] H))) (g2 : getH H h2 = some (o2.ren (nm [h0, h1, h2] H))) (hn : newOk N = true) :
    Gives P f ags H (Is (V.ren (nm [h0, h1, h2] H)) (((H.set h0 (.obj (p0.ren (nm [h0, h1, h2] H)))).set h1 (.obj (p1.ren (nm [h0, h1, h2] H)))).set h2 (.obj (p2.ren (nm [h0, h1, h2] H))) ++ N.map (HE.ren (nm [h0, h1, h2] H)))) := by
  have := gives_frame (H := H) hT hF [h0, h1, h2] hargs hcok rfl rfl hokc hnd ⟨g0, g1, g2, trivial⟩ hn
  simpa [merge, setAll, HE.ren] using this
theorem frame3n (hT : ∃ TE : Nat → TI, ∀ t, TIok P t (TE t)) (hF : Gives P f cargs [.obj o0, .obj o1, .obj o2] (Is V [.obj p0, .obj p1, .obj p2])) (hargs : ags = SV.rens (nm [h0, h1, h2] H) cargs)
    (hcok : SV.okhs (there [.obj o0, .obj o1, .obj o2]) cargs = true) (hokc : okHs (there [.obj o0, .obj o1, .obj o2]) [.obj o0, .obj o1, .obj o2] = true) (hnd : nodupN [h0, h1, h2] = true)
    (g0 : getH H h0 = some (o0.ren (nm [h0, h1, h2] H))) (g1 : getH H h1 = some (o1.ren (nm [h0, h1, h2] H))) (g2 : getH H h2 = some (o2.ren (nm [h0, h1, h2] H)))
    {V' : SV} {q0 q1 q2 : SO} (hV : V.ren (nm [h0, h1, h2] H) = V') (hq0 : p0.ren (nm [h0, h1, h2] H) = q0) (hq1 : p1.ren (nm [h0, h1, h2] H) = q1) (hq2 : p2.ren (nm [h0, h1, h2] H) = q2) :
    Gives P f ags H (Is V' (((H.set h0 (.obj q0)).set h1 (.obj q1)).set h2 (.obj q2))) := by
  have := frame3 (N := []) hT hF hargs hcok hokc hnd g0 g1 g2 rfl
  rw [hV, hq0, hq1, hq2] at this
  simpa using this
end
end Go.Hx

/-
  Code taken apart at a region; a piece of it, gone through in a small heap.
-/
namespace Go.Hx
open Go

section
variable {P : Program} {Q : Exit → Act → World → Prop}
end
section
variable {P : Program} {X : Tabs} (hX : TOk P X)
variable {R : SV → List HE → Prop} {fn : Func} {nt : Nat} {H0 : List HE} {k : List KI} {T : List (Nat × SV)} {H : List HE} {cs : List Ch} {I : Act → World → Prop}
end
end Go.Hx

/-
  Regions that draw, where one cell is made that no call waits for and that waits for no call.
-/
namespace Go.Hx
open Go

/-- What may have been done where the cell is not made yet. -/
def StOk (al : List Oper) (ia : Nat) (effs : List Nat) (c : Nat) (b : Bool) : Prop := b = false → ∀ q e, q < c → effs[q]? = some e → reachB al ia e = false

section
variable {E : Env} {al : List Oper} {Tn : List (Nat × SV)} {D : Nat → Bool} {ρ : Nat → Nat × Nat} {H : List HE} {a : Act} {w : World}

theorem draw_any2 {k : List KI} {T : List (Nat × SV)} {hp : Nat → Bool → List HE} {effs : List Nat} {ia : Nat} {oa : Oper}
    (hreg : regOk al = true) (heffs : effsOk al effs = true) (hia : al[ia]? = some oa) (hna : ia ∉ effs) (h0 : hp 0 false = H)
    (hT : ∀ t v, look Tn t = some v → (∀ (i : Nat) (o : Oper), al[i]? = some o → o.dst ≠ some t) → look T t = some v)
    (hq : ∀ (c : Nat) (b : Bool) (j : Nat) (o : Oper), c ≤ effs.length → al[j]? = some o → j ∉ effs → j ≠ ia → meets al j o effs c = true → StOk al ia effs c b → (b = false → reachB al ia j = false) → DStep E al Tn j o (hp c b) (hp c b))
    (he : ∀ (c : Nat) (b : Bool) (j : Nat) (o : Oper), effs[c]? = some j → al[j]? = some o → StOk al ia effs c b → (b = false → reachB al ia j = false) → DStep E al Tn j o (hp c b) (hp (c + 1) b))
    (ha : ∀ (c : Nat), c ≤ effs.length → meets al ia oa effs c = true → StOk al ia effs c false → DStep E al Tn ia oa (hp c false) (hp c true))
    (hk : SW E k Tn (hp effs.length true)) : ∀ ρ a w, Sat E ρ T H a w → wpAny E.P .any al.toArray (WK E.P E.Q k) al.toArray.size (Array.replicate al.toArray.size false) a { w with drawn := w.drawn + 1 } := by
  intro ρ a w hs
  have hreg' := hreg
  simp only [regOk, Bool.and_eq_true, List.all_eq_true] at hreg'
  have hback : ∀ (j : Nat) (o : Oper), al[j]? = some o → ∀ i, bindsOn o i = true → i < j := by
    intro j o ho i hi
    have hlt : j < al.length := by
      rcases Nat.lt_or_ge j al.length with h1 | h1
      · exact h1
      · rw [List.getElem?_eq_none h1] at ho; simp at ho
    have := hreg'.2 j (List.mem_range.2 hlt)
    rw [ho] at this
    simp only [Bool.and_eq_true, List.all_eq_true] at this
    simp only [bindsOn, List.any_eq_true, Bool.and_eq_true] at hi
    obtain ⟨e, he1, he2, he3⟩ := hi
    have h4 := this.1.1 e he1
    rw [he2] at h4
    have := Nat.eq_of_beq_eq_true he3
    simp at h4
    have h5 : e.on < j := blt_lt (by simpa using h4)
    omega
  have hialt : ia < al.length := by
    rcases Nat.lt_or_ge ia al.length with h1 | h1
    · exact h1
    · rw [List.getElem?_eq_none h1] at hia; simp at hia
  -- the walk over all orders
  have key : ∀ (fuel : Nat) (listed : Array Bool) (ρ : Nat → Nat × Nat) (a : Act) (w : World), listed.size = al.length →
      ((List.range al.length).filter fun i => !(listed.getD i true)).length = fuel →
      Down al (fun i => listed.getD i false) → DSat E al Tn (fun i => listed.getD i false) ρ (hp (cnt (fun i => listed.getD i false) effs) (listed.getD ia false)) a w →
      wpAny E.P .any al.toArray (WK E.P E.Q k) fuel listed a w := by
    intro fuel
    induction fuel with
    | zero =>
      intro listed ρ a w hsz hf hdown hD
      have hall : ∀ i, i < al.length → listed.getD i false = true := by
        intro i hi
        have hnil := List.eq_nil_of_length_eq_zero hf
        rw [List.filter_eq_nil_iff] at hnil
        have := hnil i (List.mem_range.2 hi)
        have hi' : i < listed.size := by omega
        simp [Array.getD, hi'] at this ⊢
        exact this
      have hcnt : cnt (fun i => listed.getD i false) effs = effs.length := by
        refine cnt_spec (fun q e hq' he' => ?_) (fun e he' => by simp at he') (Nat.le_refl _)
        have : ∀ {l : List Nat}, effsOk al l = true → ∀ e ∈ l, e < al.length := by
          intro l
          induction l with
          | nil => intro _ e he; simp at he
          | cons x r ih =>
            intro h e he
            simp only [List.mem_cons] at he
            cases r with
            | nil => simp only [effsOk] at h; simp at he; subst he; exact blt_lt h
            | cons y s =>
              simp only [effsOk, Bool.and_eq_true] at h
              rcases he with rfl | he
              · exact blt_lt h.1.1
              · exact ih h.2 e he
        exact hall e (this heffs e (List.mem_of_getElem? he'))
      rw [hcnt, hall ia hialt] at hD
      refine ⟨?_, hk ρ a w ⟨hD.hs, ⟨fun t v hv => hD.val t v hv fun i o hi _ => hall i ?_, hD.num, hD.def0⟩, hD.base⟩⟩
      · unfold Region.ready
        rw [List.filter_eq_nil_iff]
        intro i hi
        simp only [List.size_toArray, List.mem_range] at hi
        have := hall i hi
        have hi' : i < listed.size := by omega
        simp [Array.getD, hi'] at this ⊢
        intro h; rw [this] at h; simp at h
      · rcases Nat.lt_or_ge i al.length with h1 | h1
        · exact h1
        · rw [List.getElem?_eq_none h1] at hi; simp at hi
    | succ fuel ih =>
      intro listed ρ a w hsz hf hdown hD
      refine ⟨fun hr => ?_, fun j hj => ?_⟩
      · -- somebody is ready
        exfalso
        have hex : ∃ i, i < al.length ∧ listed.getD i false = false := by
          have : ((List.range al.length).filter fun i => !(listed.getD i true)) ≠ [] := by intro h; rw [h] at hf; simp at hf
          obtain ⟨i, hi⟩ := List.exists_mem_of_ne_nil _ this
          rw [List.mem_filter, List.mem_range] at hi
          refine ⟨i, hi.1, ?_⟩
          have hi' : i < listed.size := by omega
          have := hi.2
          simp [Array.getD, hi'] at this ⊢
          exact this
        have hmin : ∀ n, ∀ i, i = n → i < al.length → listed.getD i false = false → False := by
          intro n
          induction n using Nat.strongRecOn with
          | _ n ihn =>
            intro i hin hi hli
            have hmem : i ∉ Region.ready .any al.toArray listed := by rw [hr]; simp
            unfold Region.ready at hmem
            rw [List.mem_filter] at hmem
            apply hmem
            simp only [List.size_toArray, List.mem_range]
            refine ⟨hi, ?_⟩
            have hi' : i < listed.size := by omega
            have ho : al[i]? = some al[i] := List.getElem?_eq_getElem hi
            simp only [Bool.and_eq_true, Bool.not_eq_true', List.getElem?_toArray, ho, Option.map_some, Option.getD_some, Array.all_eq_true']
            refine ⟨by simp [Array.getD, hi'] at hli ⊢; exact hli, ?_⟩
            intro e he
            by_cases hb : Region.binds .any e = true
            · simp only [hb, Bool.not_true, Bool.false_or]
              have hbo : bindsOn al[i] e.on = true := by
                simp only [bindsOn, List.any_eq_true, Bool.and_eq_true]
                exact ⟨e, by simpa using he, hb, Nat.beq_refl _⟩
              have hlt := hback i _ ho e.on hbo
              cases hle : listed.getD e.on false with
              | true => rfl
              | false => exact (ihn e.on (by omega) e.on rfl (by omega) hle).elim
            · simp only [Bool.not_eq_true] at hb; simp [hb]
        obtain ⟨i, hi1, hi2⟩ := hex
        exact hmin i i rfl hi1 hi2
      · unfold Region.ready at hj
        rw [List.mem_filter] at hj
        simp only [List.size_toArray, List.mem_range] at hj
        obtain ⟨hjn, hjr⟩ := hj
        have hj' : j < listed.size := by omega
        have ho : al[j]? = some al[j] := List.getElem?_eq_getElem hjn
        simp only [Bool.and_eq_true, Bool.not_eq_true', List.getElem?_toArray, ho, Option.map_some, Option.getD_some, Array.all_eq_true'] at hjr
        have hjl : listed.getD j false = false := by have := hjr.1; simp [Array.getD, hj'] at this ⊢; exact this
        have hdeps : ∀ i, bindsOn al[j] i = true → listed.getD i false = true := by
          intro i hi
          simp only [bindsOn, List.any_eq_true, Bool.and_eq_true] at hi
          obtain ⟨e, he1, he2, he3⟩ := hi
          have := hjr.2 e (by simpa using he1)
          rw [he2] at this
          have h3 := Nat.eq_of_beq_eq_true he3
          subst h3
          simpa using this
        have hD' : (fun i => (listed.setIfInBounds j true).getD i false) = fun i => listed.getD i false || Nat.beq i j := by
          funext i
          by_cases e : j = i
          · subst e; simp [Array.getD, hj', Nat.beq_refl]
          · have hb : Nat.beq i j = false := by
              cases h : Nat.beq i j with
              | false => rfl
              | true => exact absurd (Nat.eq_of_beq_eq_true h).symm e
            rw [hb]
            by_cases hi : i < listed.size
            · simp [Array.getD, hi, e]
            · simp [Array.getD, hi]
        have hcount : ((List.range al.length).filter fun i => !((listed.setIfInBounds j true).getD i true)).length = fuel := by
          have h1 : (List.range al.length).filter (fun i => !(listed.getD i true)) = (List.range al.length).filter (fun i => !(listed.getD i true)) := rfl
          have hperm : ∀ l : List Nat, l.Nodup → (∀ i ∈ l, i < al.length) → j ∈ l → (l.filter fun i => !(listed.getD i true)).length = (l.filter fun i => !((listed.setIfInBounds j true).getD i true)).length + 1 := by
            intro l
            induction l with
            | nil => intro _ _ h; simp at h
            | cons x r ihr =>
              intro hnd hlt hmem
              rw [List.nodup_cons] at hnd
              by_cases e : x = j
              · subst e
                have h2 : (!(listed.getD x true)) = true := by simpa using hjr.1
                have h3 : (!((listed.setIfInBounds x true).getD x true)) = false := by simp [Array.getD, hj']
                rw [List.filter_cons, List.filter_cons, h2, h3]
                simp only [if_true, List.length_cons]
                congr 1
                apply congrArg List.length
                apply List.filter_congr
                intro i hi
                have : x ≠ i := by intro e; subst e; exact hnd.1 hi
                by_cases hil : i < listed.size
                · simp [Array.getD, hil, this]
                · simp [Array.getD, hil]
              · have hm' : j ∈ r := by simp at hmem; rcases hmem with h | h; exact absurd h.symm e; exact h
                have ih2 := ihr hnd.2 (fun i hi => hlt i (by simp [hi])) hm'
                have h4 : (!(listed.getD x true)) = (!((listed.setIfInBounds j true).getD x true)) := by
                  have : j ≠ x := fun h => e h.symm
                  by_cases hil : x < listed.size
                  · simp [Array.getD, hil, this]
                  · simp [Array.getD, hil]
                rw [List.filter_cons, List.filter_cons, ← h4]
                split
                · rw [List.length_cons, List.length_cons, ih2]
                · exact ih2
          have := hperm (List.range al.length) List.nodup_range (fun i hi => List.mem_range.1 hi) (List.mem_range.2 hjn)
          omega
        have hdown' : Down al (fun i => (listed.setIfInBounds j true).getD i false) := by
          rw [hD']
          intro i o hi hDi i' hb
          simp only [Bool.or_eq_true] at hDi ⊢
          rcases hDi with h | h
          · exact .inl (hdown i o hi h i' hb)
          · have := Nat.eq_of_beq_eq_true h; subst this
            rw [ho] at hi; simp at hi; subst hi
            exact .inl (hdeps i' hb)
        have hstep : DStep E al Tn j al[j] (hp (cnt (fun i => listed.getD i false) effs) (listed.getD ia false)) (hp (cnt (fun i => (listed.setIfInBounds j true).getD i false) effs) ((listed.setIfInBounds j true).getD ia false)) →
            wpOp E.P al.toArray (WK E.P E.Q k) j (wpAny E.P .any al.toArray (WK E.P E.Q k) fuel (listed.setIfInBounds j true)) a w := by
          intro hst
          refine hst _ ρ a w _ _ hD hdeps hjl fun ρ' a' w' hD2 => ?_
          refine ih _ ρ' a' w' (by simpa using hsz) hcount hdown' ?_
          rw [← hD'] at hD2; exact hD2
        have hdown2 : Down al (fun i => listed.getD i false || Nat.beq i j) := by rw [← hD']; exact hdown'
        have hok : StOk al ia effs (cnt (fun i => listed.getD i false) effs) (listed.getD ia false) := by
          intro hb q e hq' he'
          cases hbe : reachB al ia e with
          | false => rfl
          | true =>
            have := reachB_down hdown hbe (cnt_lt_true hq' he')
            rw [hb] at this; simp at this
        have hoff : j ≠ ia → listed.getD ia false = false → reachB al ia j = false := by
          intro hne hb
          cases hbe : reachB al ia j with
          | false => rfl
          | true =>
            have := reachB_down hdown2 hbe (by simp [Nat.beq_refl])
            simp only [Bool.or_eq_true] at this
            rcases this with h | h
            · rw [hb] at h; simp at h
            · exact absurd (Nat.eq_of_beq_eq_true h).symm hne
        have hkeep : j ≠ ia → (listed.setIfInBounds j true).getD ia false = listed.getD ia false := by
          intro hne
          have := congrFun hD' ia
          rw [this]
          have hb : Nat.beq ia j = false := by
            cases h : Nat.beq ia j with
            | false => rfl
            | true => exact absurd (Nat.eq_of_beq_eq_true h).symm hne
          rw [hb, Bool.or_false]
        by_cases hmem : j ∈ effs
        · obtain ⟨p, hpp⟩ := List.getElem?_of_mem hmem
          have hpl : p < effs.length := by
            rcases Nat.lt_or_ge p effs.length with h1 | h1
            · exact h1
            · rw [List.getElem?_eq_none h1] at hpp; simp at hpp
          have hbefore : ∀ q e, q ≤ p → effs[q]? = some e → (listed.getD e false || Nat.beq e j) = true := effs_before hdown2 heffs hpp (by simp [Nat.beq_refl])
          have hnodup : ∀ q, q < p → effs[q]? ≠ some j := by
            intro q hqp hqj
            -- e_q binds the next; the chain rises
            have rise : ∀ {l : List Nat}, effsOk al l = true → ∀ {q p : Nat} {x y : Nat}, q < p → l[q]? = some x → l[p]? = some y → x < y := by
              intro l
              induction l with
              | nil => intro _ q p x y _ hx; simp at hx
              | cons u r ihr =>
                intro h q p x y hqp hx hy
                cases p with
                | zero => omega
                | succ p =>
                  cases r with
                  | nil => simp at hy
                  | cons v s =>
                    simp only [effsOk, Bool.and_eq_true] at h
                    have huv : u < v := blt_lt h.1.2.1
                    cases q with
                    | succ q => exact ihr h.2 (q := q) (p := p) (by omega) (by simpa using hx) (by simpa using hy)
                    | zero =>
                      simp at hx; subst hx
                      cases p with
                      | zero => simp at hy; subst hy; exact huv
                      | succ p =>
                        have := ihr h.2 (q := 0) (p := p + 1) (x := v) (y := y) (by omega) (by simp) (by simpa using hy)
                        omega
            have := rise heffs hqp hqj hpp
            omega
          have hc : cnt (fun i => listed.getD i false) effs = p := by
            refine cnt_spec (fun q e hqp hqe => ?_) (fun e hpe => ?_) (by omega)
            · have := hbefore q e (by omega) hqe
              simp only [Bool.or_eq_true] at this
              rcases this with h | h
              · exact h
              · have := Nat.eq_of_beq_eq_true h; subst this; exact absurd hqe (hnodup q hqp)
            · rw [hpp] at hpe; simp at hpe; subst hpe; exact hjl
          have hc' : cnt (fun i => (listed.setIfInBounds j true).getD i false) effs = p + 1 := by
            rw [hD']
            refine cnt_spec (fun q e hqp hqe => hbefore q e (by omega) hqe) (fun e hpe => ?_) (by omega)
            simp only [Bool.or_eq_false_iff]
            constructor
            · cases hle : listed.getD e false with
              | false => rfl
              | true =>
                have := effs_before hdown heffs hpe hle p j (by omega) hpp
                rw [hjl] at this; simp at this
            · cases hb : Nat.beq e j with
              | false => rfl
              | true =>
                have h := Nat.eq_of_beq_eq_true hb
                subst h
                exfalso
                have rise2 := effs_before (D := fun i => listed.getD i false || Nat.beq i e) hdown2 heffs hpe (by simp [Nat.beq_refl]) p e (by omega) hpp
                -- the same index twice in a rising chain
                have rise : ∀ {l : List Nat}, effsOk al l = true → ∀ {q p : Nat} {x y : Nat}, q < p → l[q]? = some x → l[p]? = some y → x < y := by
                  intro l
                  induction l with
                  | nil => intro _ q p x y _ hx; simp at hx
                  | cons u r ihr =>
                    intro h q p x y hqp hx hy
                    cases p with
                    | zero => omega
                    | succ p =>
                      cases r with
                      | nil => simp at hy
                      | cons v s =>
                        simp only [effsOk, Bool.and_eq_true] at h
                        have huv : u < v := blt_lt h.1.2.1
                        cases q with
                        | succ q => exact ihr h.2 (q := q) (p := p) (by omega) (by simpa using hx) (by simpa using hy)
                        | zero =>
                          simp at hx; subst hx
                          cases p with
                          | zero => simp at hy; subst hy; exact huv
                          | succ p =>
                            have := ihr h.2 (q := 0) (p := p + 1) (x := v) (y := y) (by omega) (by simp) (by simpa using hy)
                            omega
                have := rise heffs (Nat.lt_succ_self p) hpp hpe
                omega
          have hne : j ≠ ia := fun e => hna (e ▸ hmem)
          refine hstep ?_
          rw [hc', hc, hkeep hne]
          rw [hc] at hok
          exact he p _ j _ hpp ho hok (hoff hne)
        · have hc' : cnt (fun i => (listed.setIfInBounds j true).getD i false) effs = cnt (fun i => listed.getD i false) effs := by
            rw [hD']
            refine (cnt_congr fun e hemem => ?_).symm
            have : Nat.beq e j = false := by
              cases hb : Nat.beq e j with
              | false => rfl
              | true => have := Nat.eq_of_beq_eq_true hb; subst this; exact absurd hemem hmem
            simp [this]
          have hm := meets_cnt hdown ho hjl hdeps heffs hmem
          refine hstep ?_
          rw [hc']
          by_cases hne : j = ia
          · subst hne
            have hon : (listed.setIfInBounds j true).getD j false = true := by
              have := congrFun hD' j
              rw [this]; simp [Nat.beq_refl]
            rw [hon, hjl]
            rw [hjl] at hok
            have hoo : al[j] = oa := by rw [ho] at hia; simpa using hia
            rw [hoo] at hm ⊢
            exact ha _ (cnt_le _) hm hok
          · rw [hkeep hne]
            exact hq _ _ j _ (cnt_le _) ho hmem hne hm hok (hoff hne)
  refine key _ _ ρ a { w with drawn := w.drawn + 1 } (by simp) ?_ ?_ ?_
  · simp only [List.size_toArray]
    have : ((List.range al.length).filter fun i => !((Array.replicate al.length false).getD i true)) = List.range al.length := by
      rw [List.filter_eq_self]
      intro i hi
      have := List.mem_range.1 hi
      simp [Array.getD, this]
    rw [this]; simp
  · intro i o _ hi
    by_cases h : i < al.length <;> simp [Array.getD, h] at hi
  · have hc : cnt (fun i => (Array.replicate al.toArray.size false).getD i false) effs = 0 := by
      cases effs with
      | nil => rfl
      | cons x r =>
        simp only [cnt]
        rw [if_neg]
        by_cases h : x < al.length <;> simp [Array.getD, h]
    have hd0 : (Array.replicate al.toArray.size false).getD ia false = false := by
      by_cases h : ia < al.length <;> simp [Array.getD, h]
    rw [hc, hd0, h0]
    refine ⟨?_, ?_, hs.ts.num, hs.ts.def0, hs.base⟩
    · have h1 := hs.hs
      refine ⟨fun h o ho => ⟨SO.holds_world rfl _ (h1.objs h o ho).1, (h1.objs h o ho).2⟩, h1.size, h1.inj, h1.own, ⟨h1.fr.size, h1.fr.same, h1.fr.io⟩⟩
    · intro t v hv hav
      refine hs.ts.val t v (hT t v hv fun i o hi hd => ?_)
      have := hav i o hi hd
      by_cases h : i < al.length <;> simp [Array.getD, h] at this

end

theorem HSat.fill {w0 w : World} {bs : Nat → Prop} {ρ : Nat → Nat × Nat} {H : List HE} {o : SO} {ob : Obj} {n : Nat} (hS : HSat w0 bs ρ H w) (hn : H[n]? = some .absent)
    (hok : o.okh (there H) = true) (hh : o.holds ρ (w.alloc ob) (w.heap.size, 0)) :
    HSat w0 bs (upd ρ n (w.heap.size, 0)) (H.set n (.obj o)) (w.alloc ob) ∧ (∀ x, there H x = true → ρ x = upd ρ n (w.heap.size, 0) x) ∧ (∀ x, there H x = true → there (H.set n (.obj o)) x = true) ∧ there (H.set n (.obj o)) n = true := by
  have hnt : there H n = false := by simp [there, hn, HE.there]
  have hlt : n < H.length := by
    rcases Nat.lt_or_ge n H.length with h1 | h1
    · exact h1
    · rw [List.getElem?_eq_none h1] at hn; simp at hn
  have hagree : ∀ x, there H x = true → ρ x = upd ρ n (w.heap.size, 0) x := by
    intro x hx
    unfold upd
    rw [if_neg (fun e => by subst e; rw [hnt] at hx; simp at hx)]
  have hmono : ∀ x, there H x = true → there (H.set n (.obj o)) x = true := fun x hx => there_set hx
  have hat : ∀ x, x ≠ n → (H.set n (.obj o))[x]? = H[x]? := by
    intro x hx
    rw [List.getElem?_set, if_neg (fun e => hx e.symm)]
  have hself : (H.set n (.obj o))[n]? = some (.obj o) := by rw [List.getElem?_set]; simp [hlt]
  have hback : ∀ x, there (H.set n (.obj o)) x = true → x ≠ n → there H x = true := by
    intro x hx hne
    unfold there at *
    rw [hat x hne] at hx
    exact hx
  refine ⟨⟨?_, ?_, ?_, ?_, ?_⟩, hagree, hmono, there_of_obj hself⟩
  · intro x ox hx
    by_cases e : x = n
    · subst e
      rw [hself] at hx
      simp at hx
      subst hx
      refine ⟨?_, SO.okh_mono hmono _ hok⟩
      have := SO.holds_congr (w := w.alloc ob) (p := (w.heap.size, 0)) hagree o hok hh
      simpa [upd] using this
    · rw [hat x e] at hx
      obtain ⟨h1, h2⟩ := hS.objs x ox hx
      refine ⟨?_, SO.okh_mono hmono _ h2⟩
      have h3 := SO.holds_congr hagree ox h2 h1
      rw [← hagree x (there_of_obj hx)]
      exact SO.holds_world (heap_alloc_old w ob (hS.size x (there_of_obj hx))) _ h3
  · intro x hx
    by_cases e : x = n
    · subst e; simp [upd]
    · have h1 := hback x hx e
      rw [← hagree x h1]
      have := hS.size x h1
      simp; omega
  · have hobj : ∀ (x : Nat) (ox : SO), (H.set n (HE.obj o))[x]? = some (HE.obj ox) → x ≠ n → H[x]? = some (HE.obj ox) := by
      intro x ox hx hne
      rw [hat x hne] at hx
      exact hx
    intro x y ox oy hx hy e
    by_cases ex : x = n <;> by_cases ey : y = n
    · rw [ex, ey]
    · have h1 := hobj y oy hy ey
      rw [← hagree y (there_of_obj h1), ex] at e
      have := hS.size y (there_of_obj h1)
      simp [upd] at e; omega
    · have h1 := hobj x ox hx ex
      rw [← hagree x (there_of_obj h1), ey] at e
      have := hS.size x (there_of_obj h1)
      simp [upd] at e; omega
    · have h1 := hobj x ox hx ex
      have h2 := hobj y oy hy ey
      rw [← hagree x (there_of_obj h1), ← hagree y (there_of_obj h2)] at e
      exact hS.inj x y _ _ h1 h2 e
  · intro x ox hx hox
    by_cases e : x = n
    · subst e; right; simp [upd]; exact hS.fr.size
    · rw [hat x e] at hx
      rw [← hagree x (there_of_obj hx)]
      exact hS.own x ox hx hox
  · exact (hS.push (o := o) (ob := ob) hok hh).fr

theorem HSat.room {w0 w : World} {bs : Nat → Prop} {ρ : Nat → Nat × Nat} {H : List HE} (hS : HSat w0 bs ρ H w) :
    HSat w0 bs ρ (H ++ [.absent]) w ∧ ∀ x, there (H ++ [.absent]) x = there H x := by
  have hth : ∀ x, there (H ++ [.absent]) x = there H x := by
    intro x
    unfold there
    rw [List.getElem?_append]
    split
    · rfl
    · rename_i h
      rw [List.getElem?_eq_none (by omega : H.length ≤ x)]
      cases h2 : ([HE.absent] : List HE)[x - H.length]? with
      | none => rfl
      | some e =>
        have := List.mem_of_getElem? h2
        simp at this; subst this; rfl
  have hobj : ∀ (x : Nat) (ox : SO), (H ++ [HE.absent])[x]? = some (HE.obj ox) → H[x]? = some (HE.obj ox) := by
    intro x ox hx
    rw [List.getElem?_append] at hx
    split at hx
    · exact hx
    · have := List.mem_of_getElem? hx
      simp at this
  have hfun : there (H ++ [.absent]) = there H := funext hth
  refine ⟨⟨fun x ox hx => ?_, fun x hx => hS.size x (by rw [← hth]; exact hx), fun x y ox oy hx hy e => hS.inj x y ox oy (hobj x ox hx) (hobj y oy hy) e, fun x ox hx ho => hS.own x ox (hobj x ox hx) ho, hS.fr⟩, hth⟩
  rw [hfun]; exact hS.objs x ox (hobj x ox hx)

section
variable {E : Env} {al : List Oper} {Tn : List (Nat × SV)} {D : Nat → Bool} {ρ : Nat → Nat × Nat} {H : List HE} {a : Act} {w : World}

theorem dstep_fill {X : Tabs} (hTE : E.TE = X.TE) (hET : ∀ t ks, X.ET t = some ks → EqOk E.P t ks) (hreg : regOk al = true) {j n : Nat} {o : Oper} (hj : al[j]? = some o) (hg : o.guard = none) {o' : SO}
    (he : stepE X Tn H o.op = some (.newp o')) (hn : H[n]? = some .absent) (hd : ∀ d, o.dst = some d → look Tn d = some (.ptr n 0) ∧ Nat.blt d E.nt = true) : DStep E al Tn j o H (H.set n (.obj o')) := by
  intro D ρ a w K Q hs hD hDj hK
  obtain ⟨hc1, hc2⟩ := hs.ext_cut hreg hj hD
  have hsc : stepE X (cutT Tn (usesT o.op.operands.toList)) H o.op = stepE X Tn H o.op := stepE_congr look_cut_eq
  rw [← hsc] at he
  unfold wpOp
  simp only [List.getElem?_toArray, hj]
  rw [if_pos (by unfold Region.wanted; rw [hg])]
  left
  obtain ⟨h1, h2, ob, h3, h4⟩ := stepE_ok hTE hET hc1 he
  unfold Oper.wp
  rw [h3, Oper.upon_value]
  obtain ⟨p1, p2, p3, p4⟩ := hs.hs.fill hn (ob := ob) h2 h4
  have := (hs.ext p1 p2 p3).putD hreg hj (v := .ptr n 0) (by
    cases hdd : o.dst with
    | none => trivial
    | some d =>
      obtain ⟨g1, g2⟩ := hd d hdd
      exact ⟨⟨_, g1, rfl, by simpa [SV.okh] using p4⟩, blt_lt g2⟩)
  simp only [SV.tr, upd, if_true, Nat.zero_add] at this
  exact hK _ _ _ this
end

/-- One operation of a region that draws, as the text's order meets it: choices, what must be true, temporaries, the heap if it is an effect, what a load reads. -/
def stepD (X : Tabs) (rec : St → List Prop × St) (al : List Oper) (nt : Nat) (cs : List Ch) (T : List (Nat × SV)) (H : List HE) (o : Oper) :
    Option (List Ch × List Prop × List (Nat × SV) × Option (List HE) × Option Nat) :=
  match guardF al T o.guard with
  | 1 => match putD nt o.dst T (.tup []) with
    | some T' => some (cs, [], T', none, none)
    | none => none
  | 0 => match stepE X T H o.op with
    | some (.val b v) => match ovr cs v with
      | some (cs', b', v') => match putD nt o.dst T v' with
        | some T' => some (cs', addOP b' (addOP b []), T', none, ldOf T o.op)
        | none => none
      | none => none
    | some e => match afterF nt o.dst T H e with
      | some (b, T', H') => some (cs, addOP b [], T', some H', none)
      | none => none
    | none => match o.op with
      | .call c => match (match calleeF T c with | some (f, as0) => (match forceL as0 with | some as => some (f, as) | none => none) | none => none) with
        | some (f, as) => match evalF X rec cs f as H with
          | some (cs1, ob1, V, L) => match ovr cs1 V with
            | some (cs', b', V') => match putD nt o.dst T V' with
              | some T' => some (cs', addOP b' ob1, T', some L, none)
              | none => none
            | none => none
          | none => none
        | none => none
      | _ => none
  | _ => none

section
variable {P : Program} {X : Tabs} (hX : TOk P X)

theorem stepD_ok {rec : St → List Prop × St} (hrec : RecOk hX rec) {al : List Oper} {nt : Nat} {cs cs' : List Ch} {T T' : List (Nat × SV)} {H : List HE} {o : Oper} {ob : List Prop} {e : Option (List HE)} {ld : Option Nat}
    (h : stepD X rec al nt cs T H o = some (cs', ob, T', e, ld)) (ho : AllP ob) :
    (∀ t, o.dst ≠ some t → look T' t = look T t) ∧
      (e = none → Q1 X nt al T' T H o ∧ (guardF al T o.guard = 0 → ∀ h, ldOf T o.op = some h → ld = some h)) ∧ (∀ H', e = some H' → E1 P X nt al T' T o H H') := by
  unfold stepD at h
  split at h
  · rename_i hg
    split at h
    · rename_i T1 hT
      simp at h; obtain ⟨rfl, rfl, rfl, rfl, rfl⟩ := h
      obtain ⟨g1, g2⟩ := putD_look hT
      exact ⟨g1, fun _ => ⟨.inl ⟨hg, g2⟩, fun hg' => by rw [hg] at hg'; simp at hg'⟩, fun _ he => by simp at he⟩
    · simp at h
  · rename_i hg
    split at h
    · rename_i b v he
      split at h
      · rename_i cs1 b' v' hov
        split at h
        · rename_i T1 hT
          simp at h; obtain ⟨rfl, rfl, rfl, rfl, rfl⟩ := h
          obtain ⟨g1, g2⟩ := putD_look hT
          obtain ⟨ho2, hb'⟩ := addOP_all ho
          obtain ⟨_, hb⟩ := addOP_all ho2
          obtain ⟨s1, _⟩ := ovr_ok hov hb'
          refine ⟨g1, fun _ => ⟨.inr ⟨hg, b, v, he, hb, fun d hd => ?_⟩, fun _ h hh => hh⟩, fun _ he => by simp at he⟩
          obtain ⟨k1, k2⟩ := g2 d hd
          exact ⟨by rw [k1]; exact s1, k2⟩
        · simp at h
      · simp at h
    · rename_i ef hne he
      split at h
      · rename_i b T1 H1 ha
        simp at h; obtain ⟨rfl, rfl, rfl, rfl, rfl⟩ := h
        obtain ⟨_, hb⟩ := addOP_all ho
        refine ⟨afterF_look ha, fun he => by simp at he, fun H' hH => ?_⟩
        simp at hH; subst hH
        exact ⟨hg, .inl ⟨ef, b, T1, he, ha, hb, fun d hd => rfl⟩⟩
      · simp at h
    · split at h
      · rename_i c hop
        split at h
        · rename_i f as hc0
          have hc : calleeF T c = some (f, as) := by
            split at hc0
            · rename_i f' as0 hcc
              split at hc0
              · rename_i as1 hfl
                simp at hc0; obtain ⟨rfl, rfl⟩ := hc0
                rw [hcc, forceL_eq hfl]
              · simp at hc0
            · simp at hc0
          split at h
          · rename_i cs1 ob1 V L hev
            split at h
            · rename_i cs2 b' V' hov
              split at h
              · rename_i T1 hT
                simp at h; obtain ⟨rfl, rfl, rfl, rfl, rfl⟩ := h
                obtain ⟨ho2, hb'⟩ := addOP_all ho
                obtain ⟨hG, hfn⟩ := evalF_ok hX hrec hev ho2
                obtain ⟨_, s2⟩ := ovr_ok hov hb'
                obtain ⟨g1, g2⟩ := putD_look hT
                refine ⟨g1, fun he => by simp at he, fun H' hH => ?_⟩
                simp at hH; subst hH
                exact ⟨hg, .inr ⟨c, f, as, V', hop, hc, hfn, hG.same s2, g2⟩⟩
              · simp at h
            · simp at h
          · simp at h
        · simp at h
      · simp at h
  · simp at h
end

def skT (d : Option Nat) (Tk T : List (Nat × SV)) : List (Nat × SV) :=
  match d with
  | none => T
  | some d => match look Tk d with
    | some v => (d, v) :: T
    | none => T
theorem skT_look {d : Option Nat} {Tk T : List (Nat × SV)} : ∀ t, d ≠ some t → look (skT d Tk T) t = look T t := by
  intro t ht
  unfold skT
  split
  · rfl
  · rename_i d'
    split
    · rw [look_cons]
      have : ¬ d' = t := fun e => ht (by rw [e])
      simp [this]
    · rfl

/-- The text's order, the cell (ia, handle n) aside; 'off': the cell is not made yet, and what waits for it is passed by. -/
def drawRun2 (X : Tabs) (rec : St → List Prop × St) (al : List Oper) (nt ia n : Nat) (off : Bool) (Tk : List (Nat × SV)) : List Oper → Nat → List Ch → List (Nat × SV) → List HE → List Prop →
    Option (List Ch × List Prop × List (Nat × SV) × List (Nat × List HE) × List (Nat × Nat))
  | [], _, cs, T, _, ob => some (cs, ob, T, [], [])
  | o :: r, i, cs, T, H, ob => match Nat.beq i ia with
    | true => match putD nt o.dst T (.ptr n 0) with
      | some T' => drawRun2 X rec al nt ia n off Tk r (i + 1) cs T' H ob
      | none => none
    | false => match off && reachB al ia i with
      | true => drawRun2 X rec al nt ia n off Tk r (i + 1) cs (skT o.dst Tk T) H ob
      | false => match stepD X rec al nt cs T H o with
        | none => none
        | some (cs', ob', T', e, ld) => match e with
          | some H' => match drawRun2 X rec al nt ia n off Tk r (i + 1) cs' T' H' (addLP ob' ob) with
            | some (cs2, ob2, Tn, es, lds) => some (cs2, ob2, Tn, (i, H') :: es, lds)
            | none => none
          | none => match ld with
            | none => drawRun2 X rec al nt ia n off Tk r (i + 1) cs' T' H (addLP ob' ob)
            | some h => match drawRun2 X rec al nt ia n off Tk r (i + 1) cs' T' H (addLP ob' ob) with
              | some (cs2, ob2, Tn, es, lds) => some (cs2, ob2, Tn, es, (i, h) :: lds)
              | none => none

structure Facts2 (P : Program) (X : Tabs) (nt : Nat) (al : List Oper) (ia n : Nat) (off : Bool) (Tn : List (Nat × SV)) (l : List Oper) (i : Nat) (T : List (Nat × SV)) (H : List HE) (es : List (Nat × List HE)) (lds : List (Nat × Nat)) : Prop where
  agree : ∀ t, (∀ o ∈ l, o.dst ≠ some t) → look Tn t = look T t
  quiet : ∀ (j : Nat) (o : Oper), l[j]? = some o → i + j ≠ ia → (off && reachB al ia (i + j)) = false → (i + j) ∉ fstE es → ∃ (Tj : List (Nat × SV)) (Hj : List HE) (c : Nat), (H :: es.map (·.2))[c]? = some Hj ∧ (∀ (q e : Nat), (fstE es)[q]? = some e → (q < c ↔ e < i + j)) ∧
    (∀ t, (∀ o' ∈ l.drop j, o'.dst ≠ some t) → look Tn t = look Tj t) ∧ Q1 X nt al Tn Tj Hj o ∧ (guardF al Tj o.guard = 0 → ∀ h, ldOf Tj o.op = some h → (i + j, h) ∈ lds)
  eff : ∀ (q e : Nat) (L : List HE), es[q]? = some (e, L) → (e ≠ ia ∧ (off && reachB al ia e) = false) ∧ ∃ (j : Nat) (o : Oper) (Tj : List (Nat × SV)) (Hq : List HE), e = i + j ∧ l[j]? = some o ∧ (H :: es.map (·.2))[q]? = some Hq ∧
    (∀ t, (∀ o' ∈ l.drop j, o'.dst ≠ some t) → look Tn t = look Tj t) ∧ E1 P X nt al Tn Tj o Hq L
  cell : ∀ (j : Nat) (o : Oper), l[j]? = some o → i + j = ia → ∀ d, o.dst = some d → look Tn d = some (.ptr n 0) ∧ Nat.blt d nt = true

section
variable {P : Program} {X : Tabs} {nt : Nat} {al : List Oper} {ia n : Nat} {off : Bool} {Tn : List (Nat × SV)} {r : List Oper} {o : Oper} {i : Nat} {T T' : List (Nat × SV)} {H H' : List HE} {es : List (Nat × List HE)} {lds : List (Nat × Nat)}

theorem facts2_ge (h : Facts2 P X nt al ia n off Tn r i T H es lds) : ∀ (q e : Nat), (fstE es)[q]? = some e → i ≤ e := by
  intro q e hq
  rw [fstE_map] at hq
  simp at hq
  obtain ⟨L, hL⟩ := hq
  obtain ⟨_, j, _, _, _, h1, _⟩ := h.eff q e L hL
  omega

theorem facts2_agree (h : Facts2 P X nt al ia n off Tn r (i + 1) T' H' es lds) (hT : ∀ t, o.dst ≠ some t → look T' t = look T t) : ∀ t, (∀ o' ∈ o :: r, o'.dst ≠ some t) → look Tn t = look T t := by
  intro t ht
  rw [h.agree t (fun o' ho' => ht o' (by simp [ho'])), hT t (ht o (by simp))]

/-- An operation passed by, or the cell, ahead. -/
theorem facts2_skip (h : Facts2 P X nt al ia n off Tn r (i + 1) T' H es lds) (hT : ∀ t, o.dst ≠ some t → look T' t = look T t) (hs : i = ia ∨ (off && reachB al ia i) = true)
    (hcell : i = ia → ∀ d, o.dst = some d → look Tn d = some (.ptr n 0) ∧ Nat.blt d nt = true) : Facts2 P X nt al ia n off Tn (o :: r) i T H es lds := by
  refine ⟨facts2_agree h hT, ?_, ?_, ?_⟩
  · intro j p hp hne hsk hn
    cases j with
    | zero =>
      rcases hs with h1 | h1
      · exact absurd h1 hne
      · rw [Nat.add_zero] at hsk; rw [h1] at hsk; simp at hsk
    | succ j =>
      have hp' : r[j]? = some p := by simpa using hp
      rw [show i + (j + 1) = i + 1 + j from by omega] at hne hsk hn ⊢
      obtain ⟨Tj, Hj, c, h1, h2, h3, h4, h5⟩ := h.quiet j p hp' hne hsk hn
      exact ⟨Tj, Hj, c, h1, h2, fun t ht => h3 t (by simpa using ht), h4, h5⟩
  · intro q e L he
    obtain ⟨h0, j, p, Tj, Hq, h1, h2, h3, h4, h5⟩ := h.eff q e L he
    exact ⟨h0, j + 1, p, Tj, Hq, by omega, by simpa using h2, h3, fun t ht => h4 t (by simpa using ht), h5⟩
  · intro j p hp hj
    cases j with
    | zero => simp at hp; subst hp; exact hcell (by omega)
    | succ j => exact h.cell j p (by simpa using hp) (by omega)

/-- A quiet operation ahead. -/
theorem facts2_quiet (h : Facts2 P X nt al ia n off Tn r (i + 1) T' H es lds) (hT : ∀ t, o.dst ≠ some t → look T' t = look T t) (hne : i ≠ ia) (hq : Q1 X nt al Tn T H o)
    {lds' : List (Nat × Nat)} (hl : ∀ p ∈ lds, p ∈ lds') (hld : guardF al T o.guard = 0 → ∀ h, ldOf T o.op = some h → (i, h) ∈ lds') : Facts2 P X nt al ia n off Tn (o :: r) i T H es lds' := by
  refine ⟨facts2_agree h hT, ?_, ?_, ?_⟩
  · intro j p hp hne hsk hn
    cases j with
    | zero =>
      simp at hp; subst hp
      refine ⟨T, H, 0, by simp, ?_, fun t ht => facts2_agree h hT t (by simpa using ht), hq, hld⟩
      intro q e he
      have := facts2_ge h q e he
      constructor
      · intro h0; omega
      · intro h0; omega
    | succ j =>
      have hp' : r[j]? = some p := by simpa using hp
      rw [show i + (j + 1) = i + 1 + j from by omega] at hne hsk hn ⊢
      obtain ⟨Tj, Hj, c, h1, h2, h3, h4, h5⟩ := h.quiet j p hp' hne hsk hn
      exact ⟨Tj, Hj, c, h1, h2, fun t ht => h3 t (by simpa using ht), h4, fun hg h' hh => hl _ (h5 hg h' hh)⟩
  · intro q e L he
    obtain ⟨h0, j, p, Tj, Hq, h1, h2, h3, h4, h5⟩ := h.eff q e L he
    exact ⟨h0, j + 1, p, Tj, Hq, by omega, by simpa using h2, h3, fun t ht => h4 t (by simpa using ht), h5⟩
  · intro j p hp hj
    cases j with
    | zero => exact absurd (by omega) hne
    | succ j => exact h.cell j p (by simpa using hp) (by omega)

/-- An effect ahead. -/
theorem facts2_eff (h : Facts2 P X nt al ia n off Tn r (i + 1) T' H' es lds) (hT : ∀ t, o.dst ≠ some t → look T' t = look T t) (hne : i ≠ ia) (hsk : (off && reachB al ia i) = false) (he : E1 P X nt al Tn T o H H') :
    Facts2 P X nt al ia n off Tn (o :: r) i T H ((i, H') :: es) lds := by
  refine ⟨facts2_agree h hT, ?_, ?_, ?_⟩
  · intro j p hp hne' hsk' hn
    cases j with
    | zero => simp [fstE] at hn
    | succ j =>
      have hp' : r[j]? = some p := by simpa using hp
      rw [show i + (j + 1) = i + 1 + j from by omega] at hne' hsk' hn ⊢
      obtain ⟨Tj, Hj, c, h1, h2, h3, h4, h5⟩ := h.quiet j p hp' hne' hsk' (by
        simp only [fstE, List.mem_cons, not_or] at hn
        exact hn.2)
      refine ⟨Tj, Hj, c + 1, by simpa using h1, ?_, fun t ht => h3 t (by simpa using ht), h4, h5⟩
      intro q e hq
      cases q with
      | zero => simp [fstE] at hq; subst hq; constructor <;> intro _ <;> omega
      | succ q =>
        have := h2 q e (by simpa [fstE] using hq)
        rw [← this]; omega
  · intro q e L hq
    cases q with
    | zero =>
      simp at hq; obtain ⟨rfl, rfl⟩ := hq
      exact ⟨⟨hne, hsk⟩, 0, o, T, H, by omega, by simp, by simp, fun t ht => facts2_agree h hT t (by simpa using ht), he⟩
    | succ q =>
      obtain ⟨h0, j, p, Tj, Hq, h1, h2, h3, h4, h5⟩ := h.eff q e L (by simpa using hq)
      exact ⟨h0, j + 1, p, Tj, Hq, by omega, by simpa using h2, by simpa using h3, fun t ht => h4 t (by simpa using ht), h5⟩
  · intro j p hp hj
    cases j with
    | zero => exact absurd (by omega) hne
    | succ j => exact h.cell j p (by simpa using hp) (by omega)

theorem q1_congr {Tm : List (Nat × SV)} {Tj : List (Nat × SV)} (h : Q1 X nt al Tm Tj H o) (hT : ∀ d, o.dst = some d → look Tn d = look Tm d) : Q1 X nt al Tn Tj H o := by
  rcases h with ⟨h1, h2⟩ | ⟨h1, ob, v, h2, h3, h4⟩
  · exact .inl ⟨h1, fun d hd => by rw [hT d hd]; exact h2 d hd⟩
  · exact .inr ⟨h1, ob, v, h2, h3, fun d hd => by rw [hT d hd]; exact h4 d hd⟩
theorem e1_congr {Tm : List (Nat × SV)} {Tj : List (Nat × SV)} {L : List HE} (h : E1 P X nt al Tm Tj o H L) (hT : ∀ d, o.dst = some d → look Tn d = look Tm d) : E1 P X nt al Tn Tj o H L := by
  obtain ⟨h0, h | h⟩ := h
  · obtain ⟨e, ob, T', h1, h2, h3, h4⟩ := h
    exact ⟨h0, .inl ⟨e, ob, T', h1, h2, h3, fun d hd => by rw [hT d hd]; exact h4 d hd⟩⟩
  · obtain ⟨c, f, as, V, h1, h2, h3, h4, h5⟩ := h
    exact ⟨h0, .inr ⟨c, f, as, V, h1, h2, h3, h4, fun d hd => by rw [hT d hd]; exact h5 d hd⟩⟩

theorem drawRun2_facts (hX : TOk P X) {rec : St → List Prop × St} (hrec : RecOk hX rec) {Tk : List (Nat × SV)} : ∀ {l : List Oper} {i : Nat} {cs : List Ch} {T : List (Nat × SV)} {H : List HE} {ob : List Prop}
    {cs' : List Ch} {ob' : List Prop} {Tn : List (Nat × SV)} {es : List (Nat × List HE)} {lds : List (Nat × Nat)},
    drawRun2 X rec al nt ia n off Tk l i cs T H ob = some (cs', ob', Tn, es, lds) → dstsOk l = true → AllP ob' → AllP ob ∧ Facts2 P X nt al ia n off Tn l i T H es lds := by
  intro l
  induction l with
  | nil =>
    intro i cs T H ob cs' ob' Tn es lds h _ ho
    simp [drawRun2] at h
    obtain ⟨rfl, rfl, rfl, rfl, rfl⟩ := h
    exact ⟨ho, fun _ _ => rfl, fun j o hj => by simp at hj, fun q e L hq => by simp at hq, fun j o hj => by simp at hj⟩
  | cons o r ih =>
    intro i cs T H ob cs' ob' Tn es lds h hdl ho
    obtain ⟨hdr, hd0⟩ := dstsOk_cons hdl
    unfold drawRun2 at h
    split at h
    · rename_i hi
      have hi := Nat.eq_of_beq_eq_true hi
      split at h
      · rename_i T1 hT
        obtain ⟨h1, h2⟩ := ih h hdr ho
        obtain ⟨g1, g2⟩ := putD_look hT
        refine ⟨h1, facts2_skip h2 g1 (.inl hi) fun _ d hd => ?_⟩
        obtain ⟨k1, k2⟩ := g2 d hd
        exact ⟨by rw [h2.agree d (hd0 d hd)]; exact k1, k2⟩
      · simp at h
    · rename_i hi
      have hi : i ≠ ia := fun e => by subst e; simp [Nat.beq_refl] at hi
      split at h
      · rename_i hsk
        obtain ⟨h1, h2⟩ := ih h hdr ho
        exact ⟨h1, facts2_skip h2 skT_look (.inr hsk) fun e => absurd e hi⟩
      · rename_i hsk
        split at h
        · simp at h
        · rename_i cs1 ob1 T1 e ld hst
          split at h
          · rename_i H1
            split at h
            · rename_i cs2 ob2 Tn2 es2 lds2 hr
              simp at h; obtain ⟨rfl, rfl, rfl, rfl, rfl⟩ := h
              obtain ⟨h1, h2⟩ := ih hr hdr ho
              obtain ⟨ho1, ho2⟩ := addLP_all h1
              obtain ⟨s1, _, s3⟩ := stepD_ok hX hrec hst ho1
              exact ⟨ho2, facts2_eff h2 s1 hi hsk (e1_congr (s3 _ rfl) fun d hd => h2.agree d (hd0 d hd))⟩
            · simp at h
          · split at h
            · obtain ⟨h1, h2⟩ := ih h hdr ho
              obtain ⟨ho1, ho2⟩ := addLP_all h1
              obtain ⟨s1, s2, _⟩ := stepD_ok hX hrec hst ho1
              obtain ⟨s3, s4⟩ := s2 rfl
              exact ⟨ho2, facts2_quiet h2 s1 hi (q1_congr s3 fun d hd => h2.agree d (hd0 d hd)) (fun p hp => hp) fun hg h' hh => by have := s4 hg h' hh; simp at this⟩
            · rename_i h'
              split at h
              · rename_i cs2 ob2 Tn2 es2 lds2 hr
                simp at h; obtain ⟨rfl, rfl, rfl, rfl, rfl⟩ := h
                obtain ⟨h1, h2⟩ := ih hr hdr ho
                obtain ⟨ho1, ho2⟩ := addLP_all h1
                obtain ⟨s1, s2, _⟩ := stepD_ok hX hrec hst ho1
                obtain ⟨s3, s4⟩ := s2 rfl
                exact ⟨ho2, facts2_quiet h2 s1 hi (q1_congr s3 fun d hd => h2.agree d (hd0 d hd)) (fun p hp => by simp [hp]) fun hg x hh => by have := s4 hg x hh; simp at this; subst this; simp⟩
              · simp at h
end

section
variable {E : Env} {X : Tabs} {al : List Oper} {ia n : Nat} {off : Bool} {Tn Tr : List (Nat × SV)} {T : List (Nat × SV)} {H : List HE} {es : List (Nat × List HE)} {lds : List (Nat × Nat)}

/-- What is looked at stands ahead. -/
theorem use_back (hreg : regOk al = true) : ∀ {j : Nat} {o : Oper}, al[j]? = some o → ∀ t, (t ∈ usesT o.op.operands.toList ∨ t ∈ guardT al o.guard) → ∀ o' ∈ al.drop j, o'.dst ≠ some t := by
  intro j o hj t ht o' ho' hd
  obtain ⟨m, hm⟩ := List.getElem?_of_mem ho'
  rw [List.getElem?_drop] at hm
  have hlt : j < al.length := by
    rcases Nat.lt_or_ge j al.length with h1 | h1
    · exact h1
    · rw [List.getElem?_eq_none h1] at hj; simp at hj
  have hr := hreg
  simp only [regOk, Bool.and_eq_true, List.all_eq_true] at hr
  have := hr.2 j (List.mem_range.2 hlt)
  rw [hj] at this
  simp only [Bool.and_eq_true] at this
  have hb : bindsOn o (j + m) = true := by
    rcases ht with ht | ht
    · exact usesOk_get this.1.2 ht hm hd
    · exact usesOk_get this.2 ht hm hd
  have := bind_back hreg hj hb
  omega

theorem run_quiet (hreg : regOk al = true) (hF : Facts2 E.P X E.nt al ia n off Tr al 0 T H es lds) (hld : ∀ j h, (j, h) ∈ lds → ∃ acc, AllP (ldChk al j h H es acc)) (hTn : ∀ t, look Tn t = look Tr t)
    {c : Nat} {Hc : List HE} {j : Nat} {o : Oper} (hj : al[j]? = some o) (hne : j ≠ ia) (hsk : (off && reachB al ia j) = false) (hmem : j ∉ fstE es) (hc : (H :: es.map (·.2))[c]? = some Hc)
    (hsp : ∀ q e, (fstE es)[q]? = some e → (q < c → reachB al j e = false) ∧ (c ≤ q → reachB al e j = false)) : qE X E.nt al Tn Hc o := by
  obtain ⟨Tj, Hj, c0, h1, h2, h3, h4, h5⟩ := hF.quiet j o hj (by simpa using hne) (by simpa using hsk) (by simpa using hmem)
  rw [Nat.zero_add] at h5
  have hg : guardF al Tn o.guard = guardF al Tj o.guard := guardF_congr fun t ht => by rw [hTn]; exact h3 t (use_back hreg hj t (.inr ht))
  rcases h4 with ⟨g1, g2⟩ | ⟨g1, b, v, g2, g3, g4⟩
  · exact .inl ⟨by rw [hg]; exact g1, fun d hd => by rw [hTn]; exact g2 d hd⟩
  · refine .inr ⟨by rw [hg]; exact g1, b, v, ?_, g3, fun d hd => by rw [hTn]; exact g4 d hd⟩
    have hcg : ∀ H, stepE X Tn H o.op = stepE X Tj H o.op := fun H => stepE_congr fun t ht => by rw [hTn]; exact h3 t (use_back hreg hj t (.inl ht))
    rw [hcg]
    refine stepE_heap g2 fun x hx => ?_
    obtain ⟨acc, hacc⟩ := hld j x (h5 g1 x hx)
    have hch := (ldChk_all hacc).2
    have hlen : (fstE es).length = es.length := by rw [fstE_map]; simp
    have get : ∀ q, q ≤ es.length → ∃ Hq, (H :: es.map (·.2))[q]? = some Hq := by
      intro q hq
      have : q < (H :: es.map (·.2)).length := by simp; omega
      exact ⟨_, List.getElem?_eq_getElem this⟩
    have lt_of : ∀ {q : Nat} {Hq : List HE}, (H :: es.map (·.2))[q]? = some Hq → q ≤ es.length := by
      intro q Hq hq
      rcases Nat.lt_or_ge q (H :: es.map (·.2)).length with h1 | h1
      · simp at h1; omega
      · rw [List.getElem?_eq_none h1] at hq; simp at hq
    have step : ∀ q, q < es.length → (q < c → q < c0 → False) → (c0 ≤ q → c ≤ q → False) → ∀ Hq L, (H :: es.map (·.2))[q]? = some Hq → (H :: es.map (·.2))[q + 1]? = some L → getH Hq x = getH L x := by
      intro q hq n1 n2 Hq L hHq hL
      have hqe : q < (fstE es).length := by omega
      have he := List.getElem?_eq_getElem hqe
      have hiff := h2 q _ he
      rw [Nat.zero_add] at hiff
      have hne : (fstE es)[q] ≠ j := by
        intro e
        exact hmem (by rw [← e]; exact List.getElem_mem hqe)
      obtain ⟨m1, m2⟩ := hsp q _ he
      refine hch q _ Hq L he hHq hL ?_ ?_
      · by_cases hqc : c ≤ q
        · exact m2 hqc
        · have h0 : ¬ q < c0 := fun h => n1 (by omega) h
          cases hb : reachB al (fstE es)[q] j with
          | false => rfl
          | true =>
            have := reachB_le hreg hb
            exact absurd (hiff.2 (by omega)) h0
      · by_cases hqc : q < c
        · exact m1 hqc
        · have h0 : q < c0 := by
            rcases Nat.lt_or_ge q c0 with h | h
            · exact h
            · exact (n2 h (by omega)).elim
          cases hb : reachB al j (fstE es)[q] with
          | false => rfl
          | true =>
            have := reachB_le hreg hb
            have := hiff.1 h0
            omega
    have chain : ∀ n a, (a + n ≤ es.length) → (∀ q, a ≤ q → q < a + n → (q < c → q < c0 → False) ∧ (c0 ≤ q → c ≤ q → False)) → ∀ Ha Hb, (H :: es.map (·.2))[a]? = some Ha → (H :: es.map (·.2))[a + n]? = some Hb → getH Ha x = getH Hb x := by
      intro n
      induction n with
      | zero => intro a _ _ Ha Hb ha hb; rw [Nat.add_zero, ha] at hb; simp at hb; rw [hb]
      | succ n ih =>
        intro a hle hq Ha Hb ha hb
        obtain ⟨Hm, hm⟩ := get (a + n) (by omega)
        rw [ih a (by omega) (fun q h1 h2 => hq q h1 (by omega)) Ha Hm ha hm]
        obtain ⟨n1, n2⟩ := hq (a + n) (by omega) (by omega)
        exact step (a + n) (by omega) n1 n2 Hm Hb hm hb
    have hl1 := lt_of h1
    have hl2 := lt_of hc
    rcases Nat.le_total c c0 with hle | hle
    · exact (chain (c0 - c) c (by omega) (fun q a1 a2 => ⟨fun b1 _ => by omega, fun b1 _ => by omega⟩) Hc Hj hc (by rw [show c + (c0 - c) = c0 from by omega]; exact h1)).symm
    · exact chain (c - c0) c0 (by omega) (fun q a1 a2 => ⟨fun _ b1 => by omega, fun _ b1 => by omega⟩) Hj Hc h1 (by rw [show c0 + (c - c0) = c from by omega]; exact hc)

theorem run_eff (hTE : E.TE = X.TE) (hET : ∀ t ks, X.ET t = some ks → EqOk E.P t ks) (hreg : regOk al = true) (hF : Facts2 E.P X E.nt al ia n off Tr al 0 T H es lds) (hTn : ∀ t, look Tn t = look Tr t)
    {c : Nat} {Hc Hc' : List HE} {j : Nat} {o : Oper} (hj : (fstE es)[c]? = some j) (ho' : al[j]? = some o) (hc : (H :: es.map (·.2))[c]? = some Hc) (hc' : (H :: es.map (·.2))[c + 1]? = some Hc') : DStep E al Tn j o Hc Hc' := by
  have hje : ∃ L, es[c]? = some (j, L) := by
    rw [fstE_map] at hj
    simp at hj
    exact hj
  obtain ⟨L, hL⟩ := hje
  obtain ⟨_, j', o2, Tj, Hq, e1, e2, e3, e4, e5, e6⟩ := hF.eff c j L hL
  rw [Nat.zero_add] at e1; subst e1
  rw [ho'] at e2; simp at e2; subst e2
  rw [hc] at e3; simp at e3; subst e3
  have hLc : Hc' = L := by
    have : (H :: es.map (·.2))[c + 1]? = some L := by simp [hL]
    rw [hc'] at this; simpa using this
  subst hLc
  have hg : guardF al Tn o.guard = guardF al Tj o.guard := guardF_congr fun t ht => by rw [hTn]; exact e4 t (use_back hreg ho' t (.inr ht))
  rcases e6 with ⟨e, b, T2, s1, s2, s3, s4⟩ | ⟨cc, f, as, V, s1, s2, ⟨fn', s3, s4, s5⟩, s6, s7⟩
  · have hcg : stepE X Tn Hc o.op = stepE X Tj Hc o.op := stepE_congr fun t ht => by rw [hTn]; exact e4 t (use_back hreg ho' t (.inl ht))
    exact dstep_effE (X := X) hTE hET hreg ho' (by rw [hg]; exact e5) (by rw [hcg]; exact s1) s2 s3 (fun d hd => by rw [hTn]; exact s4 d hd)
  · have hcc : calleeF Tn cc = calleeF Tj cc := callee_congr fun t ht => by rw [hTn]; exact e4 t (use_back hreg ho' t (.inl (by rw [s1]; exact ht)))
    exact dstep_call hreg ho' (by rw [hg]; exact e5) s1 (by rw [hcc]; exact s2) s3 s4 s5 s6 (fun d hd => by rw [hTn]; exact s7 d hd)
end

def prefN : List Nat → List Nat → Bool
  | [], _ => true
  | x :: r, l => match l with
    | [] => false
    | y :: s => Nat.beq x y && prefN r s
theorem prefN_get : ∀ {a b : List Nat}, prefN a b = true → ∀ (q e : Nat), a[q]? = some e → b[q]? = some e
  | [], _, _, q, e, h => by simp at h
  | x :: r, [], h, q, e, _ => by simp [prefN] at h
  | x :: r, y :: s, h, q, e, he => by
    simp only [prefN, Bool.and_eq_true] at h
    cases q with
    | zero => simp at he ⊢; rw [← he]; exact (Nat.eq_of_beq_eq_true h.1).symm
    | succ q => simpa using prefN_get h.2 q e (by simpa using he)
def sufR (al : List Oper) (ia : Nat) : List Nat → List Nat → Bool
  | [], l => l.all fun e => reachB al ia e
  | _ :: r, l => match l with
    | [] => true
    | _ :: s => sufR al ia r s
theorem sufR_get {al : List Oper} {ia : Nat} : ∀ {a b : List Nat}, sufR al ia a b = true → ∀ (q e : Nat), a.length ≤ q → b[q]? = some e → reachB al ia e = true
  | [], b, h, q, e, _, he => by
    simp only [sufR, List.all_eq_true] at h
    exact h e (List.mem_of_getElem? he)
  | x :: r, [], _, q, e, _, he => by simp at he
  | x :: r, y :: s, h, q, e, hq, he => by
    simp only [sufR] at h
    cases q with
    | zero => simp at hq
    | succ q => exact sufR_get h q e (by simpa using hq) (by simpa using he)

/-- The heaps with the cell are those without, and the cell. -/
def filChk (n : Nat) (x : HE) : List HE → List (Nat × List HE) → List HE → List (Nat × List HE) → List Prop → List Prop
  | Hf, [], Ho, _, acc => (Hf.set n x = Ho) :: acc
  | Hf, (_, Hf') :: rf, Ho, eo, acc => match eo with
    | [] => False :: acc
    | (_, Ho') :: ro => filChk n x Hf' rf Ho' ro ((Hf.set n x = Ho) :: acc)
theorem filChk_all {n : Nat} {x : HE} : ∀ {ef : List (Nat × List HE)} {Hf Ho : List HE} {eo : List (Nat × List HE)} {acc : List Prop}, AllP (filChk n x Hf ef Ho eo acc) →
    AllP acc ∧ ∀ (c : Nat) (Hc : List HE), (Hf :: ef.map (·.2))[c]? = some Hc → (Ho :: eo.map (·.2))[c]? = some (Hc.set n x)
  | [], Hf, Ho, eo, acc, h => by
    simp only [filChk] at h
    refine ⟨fun p hp => h p (by simp [hp]), fun c Hc hc => ?_⟩
    cases c with
    | zero => simp at hc ⊢; rw [← hc]; exact (h (Hf.set n x = Ho) (by simp)).symm
    | succ c => simp at hc
  | (_, Hf') :: rf, Hf, Ho, [], acc, h => by
    simp only [filChk] at h
    exact (h False (by simp)).elim
  | (_, Hf') :: rf, Hf, Ho, (_, Ho') :: ro, acc, h => by
    simp only [filChk] at h
    obtain ⟨h1, h2⟩ := filChk_all h
    refine ⟨fun p hp => h1 p (by simp [hp]), fun c Hc hc => ?_⟩
    cases c with
    | zero => simp at hc ⊢; rw [← hc]; exact (h1 (Hf.set n x = Ho) (by simp)).symm
    | succ c => simpa using h2 c Hc (by simpa using hc)

def absN : List HE → Nat → Bool
  | [], _ => false
  | x :: _, 0 => match x with | .absent => true | _ => false
  | _ :: r, n + 1 => absN r n
theorem absN_get : ∀ {H : List HE} {n : Nat}, absN H n = true → H[n]? = some .absent
  | [], _, h => by simp [absN] at h
  | x :: _, 0, h => by cases x <;> simp [absN] at h ⊢
  | _ :: r, n + 1, h => by simpa using absN_get (H := r) (n := n) (by simpa [absN] using h)

def dstEq (Tf Tn : List (Nat × SV)) : List Oper → List Prop → List Prop
  | [], acc => acc
  | o :: r, acc => match o.dst with
    | none => dstEq Tf Tn r acc
    | some d => dstEq Tf Tn r ((look Tn d = look Tf d) :: acc)
theorem dstEq_all {Tf Tn : List (Nat × SV)} : ∀ {l : List Oper} {acc : List Prop}, AllP (dstEq Tf Tn l acc) → AllP acc ∧ ∀ o ∈ l, ∀ d, o.dst = some d → look Tn d = look Tf d
  | [], acc, h => ⟨h, fun o ho => by simp at ho⟩
  | o :: r, acc, h => by
    simp only [dstEq] at h
    split at h
    · rename_i hd
      obtain ⟨h1, h2⟩ := dstEq_all h
      refine ⟨h1, fun p hp d hpd => ?_⟩
      simp only [List.mem_cons] at hp
      rcases hp with rfl | hp
      · rw [hd] at hpd; simp at hpd
      · exact h2 p hp d hpd
    · rename_i d' hd
      obtain ⟨h1, h2⟩ := dstEq_all h
      refine ⟨fun p hp => h1 p (by simp [hp]), fun p hp d hpd => ?_⟩
      simp only [List.mem_cons] at hp
      rcases hp with rfl | hp
      · rw [hd] at hpd; simp at hpd; subst hpd; exact h1 _ (by simp)
      · exact h2 p hp d hpd

theorem stepE_alloc {X : Tabs} {T T' : List (Nat × SV)} {H H' : List HE} {op : Op} {t : TypeId} (h : op = .alloc t) : stepE X T H op = stepE X T' H' op := by
  subst h; rfl

/-- A region that draws where operation ia makes a cell that has no order against the calls. -/
def drawZ (X : Tabs) (rec : St → List Prop × St) (ia : Nat) : DrawF := fun cs al nt T H =>
  match al[ia]? with
  | none => none
  | some oa => match oa.op, oa.guard with
    | .alloc t, none => match stepE X [] [] (.alloc t), lenO H nums with
      | some (.newp o'), some n => match forceHs (H ++ [.obj o']), forceHs (H ++ [.absent]) with
        | some Ho, some Hf => match drawRun2 X rec al nt ia n false [] al 0 cs T Ho [] with
          | none => none
          | some (cs', ob, Tn, es, lds) => match drawRun2 X rec al nt ia n true Tn al 0 cs T Hf [] with
            | none => none
            | some (_, ob2, Tf, ef, lf) => match (regOk al && effsOk al (fstE es)) && (prefN (fstE ef) (fstE es) && sufR al ia (fstE ef) (fstE es)) && (absN Hf n && ef.all fun p => absN p.2 n) with
              | false => none
              | true => match forceP (dstEq Tf Tn al (filChk n (.obj o') Hf ef Ho es (ldAll al Ho es lds (ldAll al Hf ef lf (addLP ob2 ob))))), forceHs (lastE Ho es) with
                | some ob', some H' => some (cs', ob', Tn, H')
                | _, _ => none
        | _, _ => none
      | _, _ => none
    | _, _ => none

section
variable {P : Program} {X : Tabs} (hX : TOk P X)

theorem drawZ_any {rec : St → List Prop × St} (hrec : RecOk hX rec) (ia : Nat) : DrawAny hX (drawZ X rec ia) := by
  intro fn nt H0 R ρ0 w0 cs cs' al T T' H H' ob k h ho hk
  unfold drawZ at h
  split at h
  · simp at h
  rename_i oa hia
  split at h
  case h_2 => simp at h
  rename_i t hop hguard
  split at h
  case h_2 => simp at h
  rename_i o' n hnew hlen
  split at h
  case h_2 => simp at h
  rename_i Ho Hf hHo hHf
  have hHo := forceHs_eq hHo
  have hHf := forceHs_eq hHf
  subst hHo
  subst hHf
  split at h
  · simp at h
  rename_i cs1 ob1 Tn es lds hrun
  split at h
  · simp at h
  rename_i cs2 ob2 Tf ef lf hrun2
  split at h
  · simp at h
  rename_i hchk
  split at h
  case h_2 => simp at h
  rename_i obF HF hfp hfh
  have hfp := forceP_eq hfp
  have hfh := forceHs_eq hfh
  subst hfp
  subst hfh
  simp at h; obtain ⟨rfl, rfl, rfl, rfl⟩ := h
  have hn : n = H.length := lenO_eq hlen
  simp only [Bool.and_eq_true, List.all_eq_true] at hchk
  obtain ⟨⟨⟨hreg, heff⟩, hpre, hsuf⟩, habs0, habs⟩ := hchk
  obtain ⟨ho1, hdst⟩ := dstEq_all ho
  obtain ⟨ho2, hfil⟩ := filChk_all ho1
  obtain ⟨ho3, hldo⟩ := ldAll_all ho2
  obtain ⟨ho4, hldf⟩ := ldAll_all ho3
  obtain ⟨hof, hoo⟩ := addLP_all ho4
  have hd1 : dstsOk al = true := by have := hreg; simp only [regOk, Bool.and_eq_true] at this; exact this.1
  obtain ⟨_, hF⟩ := drawRun2_facts (P := P) hX hrec hrun hd1 hoo
  obtain ⟨_, hG⟩ := drawRun2_facts (P := P) hX hrec hrun2 hd1 hof
  have hTT : ∀ t, look Tn t = look Tf t := by
    intro t
    by_cases he : ∃ o ∈ al, o.dst = some t
    · obtain ⟨o, ho, hd⟩ := he
      exact hdst o ho t hd
    · have hno : ∀ o ∈ al, o.dst ≠ some t := fun o ho hd => he ⟨o, ho, hd⟩
      rw [hF.agree t hno, hG.agree t hno]
  have hlf : (fstE ef).length = ef.length := by rw [fstE_map]; simp
  have hle : (fstE es).length = es.length := by rw [fstE_map]; simp
  have hna : ia ∉ fstE es := by
    intro hm
    rw [fstE_map, List.mem_map] at hm
    obtain ⟨p, hp1, hp2⟩ := hm
    obtain ⟨q, hq⟩ := List.getElem?_of_mem hp1
    exact (hF.eff q p.1 p.2 (by rw [hq])).1.1 hp2
  let hp : Nat → Bool → List HE := fun c b => if b then (((H ++ [HE.obj o']) :: es.map (·.2))[c]?).getD [] else (((H ++ [HE.absent]) :: ef.map (·.2))[c]?).getD []
  have hpo : ∀ c, c ≤ es.length → (((H ++ [HE.obj o']) :: es.map (·.2))[c]?) = some (hp c true) := by
    intro c hc
    have : c < ((H ++ [HE.obj o']) :: es.map (·.2)).length := by simp; omega
    simp only [hp, if_true]
    rw [List.getElem?_eq_getElem this]; rfl
  have hpf : ∀ c, c ≤ ef.length → (((H ++ [HE.absent]) :: ef.map (·.2))[c]?) = some (hp c false) := by
    intro c hc
    have : c < ((H ++ [HE.absent]) :: ef.map (·.2)).length := by simp; omega
    simp only [hp, Bool.false_eq_true, if_false]
    rw [List.getElem?_eq_getElem this]; rfl
  have hcl : ∀ c, c ≤ (fstE es).length → StOk al ia (fstE es) c false → c ≤ ef.length := by
    intro c hc hok
    rcases Nat.lt_or_ge ef.length c with h1 | h1
    · exfalso
      have hlt : ef.length < (fstE es).length := by omega
      have he := List.getElem?_eq_getElem hlt
      have := hsuf
      have h2 := sufR_get hsuf ef.length _ (by omega) he
      have h3 := hok rfl ef.length _ h1 he
      rw [h3] at h2; simp at h2
    · exact h1
  intro ρ a w hs
  have hroom := hs.hs.room
  have hs' : Sat (FEnv P X.TE hX.te fn nt H0 R ρ0 w0) ρ T (H ++ [.absent]) a w := by
    have hfun : there (H ++ [.absent]) = there H := funext hroom.2
    exact ⟨hroom.1, by rw [hfun]; exact hs.ts, fun x hx => by obtain ⟨q1, q2⟩ := hs.base x hx; exact ⟨q1, by rw [hfun]; exact q2⟩⟩
  refine draw_any2 (E := FEnv P X.TE hX.te fn nt H0 R ρ0 w0) (hp := hp) (effs := fstE es) (ia := ia) (oa := oa) (Tn := Tn) hreg heff hia hna (by simp [hp]) ?_ ?_ ?_ ?_ ?_ ρ a w hs'
  · intro t v hv hd
    rw [← hF.agree t (fun o ho => ?_)]
    · exact hv
    · obtain ⟨i, hi⟩ := List.getElem?_of_mem ho
      exact hd i o hi
  · intro c b j o hc hj hmem hne hm hok hoff
    refine dstep_qE (X := X) rfl hX.et hreg hj ?_
    have hsp := meets_spec hm
    cases b with
    | true => exact run_quiet (E := FEnv P X.TE hX.te fn nt H0 R ρ0 w0) hreg hF hldo (fun _ => rfl) hj hne (by simp) hmem (hpo c (by omega)) hsp
    | false =>
      have hcf := hcl c hc hok
      refine run_quiet (E := FEnv P X.TE hX.te fn nt H0 R ρ0 w0) hreg hG hldf hTT hj hne (by simpa using hoff rfl) (fun hm' => hmem ?_) (hpf c hcf) (fun q e hq => hsp q e (prefN_get hpre q e hq))
      obtain ⟨q, hq⟩ := List.getElem?_of_mem hm'
      exact List.mem_of_getElem? (prefN_get hpre q j hq)
  · intro c b j o hj ho' hok hoff
    have hce : c < es.length := by
      rcases Nat.lt_or_ge c (fstE es).length with h1 | h1
      · omega
      · rw [List.getElem?_eq_none h1] at hj; simp at hj
    cases b with
    | true => exact run_eff (E := FEnv P X.TE hX.te fn nt H0 R ρ0 w0) rfl hX.et hreg hF (fun _ => rfl) hj ho' (hpo c (by omega)) (hpo (c + 1) (by omega))
    | false =>
      have hcf : c < ef.length := by
        rcases Nat.lt_or_ge c ef.length with h1 | h1
        · exact h1
        · have := sufR_get hsuf c j (by omega) hj
          rw [hoff rfl] at this; simp at this
      have hjf : (fstE ef)[c]? = some j := by
        have hlt : c < (fstE ef).length := by omega
        have he := List.getElem?_eq_getElem hlt
        have := prefN_get hpre c _ he
        rw [hj] at this; simp at this
        rw [he, ← this]
      exact run_eff (E := FEnv P X.TE hX.te fn nt H0 R ρ0 w0) rfl hX.et hreg hG hTT hjf ho' (hpf c (by omega)) (hpf (c + 1) (by omega))
  · intro c hc hm hok
    have hcf := hcl c hc hok
    have hset : hp c true = (hp c false).set n (.obj o') := by
      have h1 := hfil c _ (hpf c hcf)
      have h2 := hpo c (by omega)
      rw [h1] at h2
      simp at h2; exact h2.symm
    rw [hset]
    refine dstep_fill (E := FEnv P X.TE hX.te fn nt H0 R ρ0 w0) (X := X) rfl hX.et hreg hia hguard (by rw [stepE_alloc (T' := []) (H' := []) hop, hop]; exact hnew) ?_ ?_
    · cases c with
      | zero => simp only [hp]; simpa using absN_get habs0
      | succ c =>
        have hlt : c < ef.length := by omega
        have h1 := hpf (c + 1) hcf
        simp only [List.getElem?_cons_succ, List.getElem?_map] at h1
        rw [List.getElem?_eq_getElem hlt] at h1
        simp at h1
        rw [← h1]
        exact absN_get (habs _ (List.getElem_mem hlt))
    · exact fun d hd => hF.cell ia oa hia (by omega) d hd
  · have : hp (fstE es).length true = lastE (H ++ [.obj o']) es := by
      have h1 := hpo (fstE es).length (by omega)
      rw [lastE_get] at h1
      simpa using h1.symm
    rw [this]; exact hk

variable {Wb : (Nat → Nat × Nat) → World → Prop} {R : SV → List HE → Prop} {fn : Func} {nt : Nat} {H0 : List HE} {k : List KI} {T : List (Nat × SV)} {H : List HE} {cs : List Ch} {fs : List Fm}

/-- A region that draws, where operation ia makes a cell that has no order against the calls. -/
theorem ss_drawZ (ia : Nat) (cs : List Ch) (m : Nat) {cs0 cs' : List Ch} {ob : List Prop} {T' : List (Nat × SV)} {H' : List HE} {id : Nat} {ops : Array Oper}
    (h : drawZ X (fun s => runX X [] m s []) ia cs ops.toList nt T H = some (cs', ob, T', H')) (ho : conjP ob) (hs : SS hX Wb R ⟨cs', fs, fn, nt, H0, k, T', H'⟩) :
    SS hX Wb R ⟨cs0, fs, fn, nt, H0, .code (.region id ops true) :: k, T, H⟩ := by
  intro ρ0 w0 hw ρ a w hsat
  have hrec : RecOk hX (fun s => runX X [] m s []) := fun Wb R0 s h1 h2 => (runX_ok hX m [] Wb R0 s [] h1 h2).1
  simp only [WK]
  have := drawZ_any hX hrec ia fn nt H0 (Rof hX Wb R fs) ρ0 w0 cs cs' ops.toList T T' H H' ob k h (conjP_all ho) (hs ρ0 w0 hw) ρ a w hsat
  have h2 := wp_region_any (id := id) hX.mo this
  rw [Array.toArray_toList] at h2
  exact h2
end
end Go.Hx

/-
  Regions gone through by the machine, in frames of rounds, and in frames with deferred calls.
-/
namespace Go.Hx
open Go

/-- The frames that are gone over: a function's own (none), or a round's. -/
def Fw (rd : Option Nat) : Fence := { Fence.wide with round := rd }
theorem callsIn_fw {rd : Option Nat} {n : Nat} {P : Program} {f : FuncId} {args : Array Value} {w : World} {R : Ending → World → Prop} : CallsIn (Fw rd) n P f args w R ↔ Calls P f args w R :=
  (show CallsIn Fence.wide n P f args w R ↔ Calls P f args w R from callsIn_wide)
theorem rowsIn_fw {rd : Option Nat} {n : Nat} {P : Program} {row : String} {args : Array Value} {w : World} {R : Value → World → Prop} (h : Rows P row args w R) : RowsIn (Fw rd) n P row args w R :=
  fun c cs _ => let ⟨v, w', r, s⟩ := h c cs; ⟨v, w', r, (show StepsIn (Machine.fenced P Fence.wide) P _ _ from stepsIn_wide.2 s)⟩
def ndO (o : Oper) : Bool := match o.op with
  | .defer _ => false
  | _ => true
theorem ndO_ne {o : Oper} (h : ndO o = true) : ∀ c, o.op ≠ .defer c := by
  intro c e
  simp [ndO, e] at h
def regNd : List Oper → Bool
  | [] => true
  | o :: r => match ndO o with
    | true => regNd r
    | false => false
theorem regNd_mem : ∀ {l : List Oper}, regNd l = true → ∀ o ∈ l, ndO o = true
  | [], _, o, h => by simp at h
  | p :: r, h, o, ho => by
    simp only [regNd] at h
    split at h
    · rename_i hp
      simp only [List.mem_cons] at ho
      rcases ho with rfl | ho
      · exact hp
      · exact regNd_mem h o ho
    · simp at h
section
variable {rd : Option Nat} {P : Program} {D : List Deferred} {Qs Q : Exit → Act → World → Prop}
/-- With more deferred calls. -/
def lift (D : List Deferred) (a : Act) : Act := { a with defers := a.defers ++ D }
theorem lift_put {a : Act} {dst : Option Tmp} {v : Value} : lift D (a.put dst v) = (lift D a).put dst v := by cases dst <;> rfl
theorem lift_eval {a : Act} : (lift D a).eval = a.eval := by funext o; cases o <;> rfl
theorem nq_of (hQ : ∀ e a w, Qs e a w → e = .normal) {e : Exit} {a : Act} {w : World} (he : e ≠ .normal) (h : Qs e a w) : False := he (hQ _ _ _ h)
theorem nl_of (hQ : ∀ e a w, Qs e a w → e = .normal) : ¬ LetsOut Qs := fun ⟨_, _, hq⟩ => nq_of hQ (by simp) hq
/-- What an operation comes to, with more deferred calls. -/
theorem upon_in {o : Oper} {a : Act} {K K' : Act → World → Prop} (hQ : ∀ e a w, Qs e a w → e = .normal) (hK : ∀ a w, K a w → K' (lift D a) w) {r : Result Next}
    (h : o.upon P a K Qs r) : o.uponIn (Fw rd) 0 P (lift D a) K' Q r := by
  unfold Oper.upon at h
  split at h
  · rw [Oper.uponIn_value, ← lift_put]; exact hK _ _ h
  · rw [Oper.uponIn_skip, ← lift_put]; exact hK _ _ h
  · rw [Oper.uponIn_defer]
    have := hK _ _ h
    rw [lift_put] at this
    exact this
  · refine ⟨fun e => by simp [Fw, Fence.wide] at e, callsIn_fw.2 (Calls.mono h fun e w' he => ?_)⟩
    cases e with
    | returned v =>
      show K' ((lift D a).put o.dst v) w'
      rw [← lift_put]; exact hK _ _ he
    | panicked c => exact (nq_of hQ (by simp) he).elim
    | outgrown => exact (nl_of hQ he).elim
  · exact ⟨fun e => by simp [Fw, Fence.wide] at e, (rowsIn_fw h).mono fun v w' he => by rw [← lift_put]; exact hK _ _ he⟩
  · exact (nq_of hQ (by simp) h).elim
  · exact h.elim
theorem wp_in {o : Oper} {a : Act} {w : World} {K K' : Act → World → Prop} (hQ : ∀ e a w, Qs e a w → e = .normal) (hn : ndO o = true) (hK : ∀ a w, K a w → K' (lift D a) w) (h : o.wp P a w K Qs) : o.wpIn (Fw rd) 0 P (lift D a) w K' Q :=
  ⟨fun _ _ => trivial, by rw [Oper.semAt_eq _ _ _ (ndO_ne hn), lift_eval]; exact upon_in hQ hK h⟩
theorem wl_in {ops : Array Oper} (hQ : ∀ e a w, Qs e a w → e = .normal) (hq : ∀ a w, Qs .normal a w → Q .normal (lift D a) w) : ∀ {l : List Oper}, (∀ o ∈ l, ndO o = true) → ∀ {a : Act} {w : World}, wpList P ops Qs l a w → wpListIn (Fw rd) 0 P ops Q l (lift D a) w
  | [], _, _, _, h => hq _ _ h
  | o :: rest, hn, a, w, h => by
    unfold wpList at h
    unfold wpListIn
    have e : (lift D a).tmps = a.tmps := rfl
    rw [e]
    split
    · rename_i hw
      rw [if_pos hw] at h
      rcases h with h | h
      · exact wp_in hQ (hn o (by simp)) (fun a w hh => wl_in hQ hq (fun o ho => hn o (by simp [ho])) hh) h
      · exact (nl_of hQ h.2).elim
    · rename_i hw
      rw [if_neg hw] at h
      refine ⟨fun _ _ => trivial, ?_⟩
      rw [← lift_put]
      exact wl_in hQ hq (fun o ho => hn o (by simp [ho])) h
end
section
variable {P : Program} {X : Tabs} (hX : TOk P X) {fn : Func} {nt : Nat} {H : List HE} {T T1 : List (Nat × SV)} {H1 : List HE} {ρ : Nat → Nat × Nat} {W : World} {a : Act} {rd : Option Nat} {D : List Deferred} {Q : Exit → Act → World → Prop}
theorem wk_lp_normal {J : Act → World → Prop} (e : Exit) (a : Act) (w : World) (h : WK P (FEnv P X.TE hX.te fn nt H Not2 ρ W).Q [.lp J] e a w) : e = .normal := by
  cases e with
  | normal => rfl
  | _ => exact (not2_Q hX _ _ _ h).elim
/-- A region gone through by the machine, in whatever frame. -/
theorem region_in {id : Nat} {ops : Array Oper} (hn : regNd ops.toList = true) (hs : Sat (FEnv P X.TE hX.te fn nt H Not2 ρ W) ρ T H a W)
    (h : ∀ J : Act → World → Prop, (∀ cs T H', Sub (FEnv P X.TE hX.te fn nt H Not2 ρ W) T H' T1 H1 → SS hX (At ρ W) Not2 ⟨cs, [], fn, nt, H, [.lp J], T, H'⟩) → SS hX (At ρ W) Not2 ⟨[], [], fn, nt, H, [.ops ops.toList ops.toList, .lp J], T, H⟩)
    (hq : ∀ ρ' a' w', Sat (FEnv P X.TE hX.te fn nt H Not2 ρ W) ρ' T1 H1 a' w' → Q .normal (lift D a') w') : (Code.region id ops false).wpIn (Fw rd) 0 P Q (lift D a) W := by
  let J : Act → World → Prop := fun a' w' => ∃ ρ', Sat (FEnv P X.TE hX.te fn nt H Not2 ρ W) ρ' T1 H1 a' w'
  have hw := sw_ss hX (h J fun cs T H' hsub => ss_sw hX fun ρ1 a1 w1 hs1 => hsub ρ1 a1 w1 hs1) ρ a W hs
  refine wpIn_region_list (wl_in (fun e a w => wk_lp_normal hX e a w) (fun a' w' hJ => ?_) (regNd_mem hn) (by
    have h2 : wpList P ops.toList.toArray (WK P (FEnv P X.TE hX.te fn nt H Not2 ρ W).Q [.lp J]) ops.toList a W := hw
    rw [Array.toArray_toList] at h2
    exact h2))
  obtain ⟨ρ', hs'⟩ := hJ
  exact hq ρ' a' w' hs'
end
end Go.Hx

/-
  A walk in whatever frame, beside blocks that are kept (a loop's record, its deferred calls): states, and their steps.
-/
namespace Go.Hx
open Go

/-- What is left to do, in the fenced layer. -/
def WKi (rd : Option Nat) (P : Program) (Q : Exit → Act → World → Prop) : List KI → Exit → Act → World → Prop
  | [] => Q
  | .code c :: k => fun e a w => match e with
    | .normal => c.wpIn (Fw rd) 0 P (WKi rd P Q k) a w
    | e => WKi rd P Q k e a w
  | .blk id :: k => fun e a w => match e with
    | .exit i => if i = id then WKi rd P Q k .normal a w else WKi rd P Q k (.exit i) a w
    | e => WKi rd P Q k e a w
  | .lp I :: k => fun e a w => match e with
    | .normal => I a w
    | e => WKi rd P Q k e a w
  | .ops all rest :: k => fun e a w => match e with
    | .normal => wpListIn (Fw rd) 0 P all.toArray (WKi rd P Q k) rest a w
    | e => WKi rd P Q k e a w
  | .again _ _ :: k => WKi rd P Q k
/-- Blocks that are kept: what they are, and that nothing that is named lies there. -/
def Kept (K : List (Nat × Obj)) (ρ : Nat → Nat × Nat) (H : List HE) (W : World) : Prop :=
  ∀ p ∈ K, W.heap[p.1]? = some p.2 ∧ ∀ (h : Nat) (o : SO), H[h]? = some (.obj o) → (ρ h).1 ≠ p.1
/-- What is new is owned. -/
def newOwn : List HE → List HE → Bool
  | _, [] => true
  | [], .obj o :: r => match o.owned with
    | true => newOwn [] r
    | false => false
  | [], _ :: r => newOwn [] r
  | .obj _ :: H, _ :: r => newOwn H r
  | _ :: H, .obj o :: r => match o.owned with
    | true => newOwn H r
    | false => false
  | _ :: H, _ :: r => newOwn H r
theorem newOwn_get : ∀ {H H1 : List HE}, newOwn H H1 = true → ∀ {h : Nat} {o : SO}, H1[h]? = some (.obj o) → o.owned = true ∨ ∃ o', H[h]? = some (.obj o')
  | _, [], _, h, o, e => by simp at e
  | [], x :: r, hn, h, o, e => by
    cases h with
    | zero =>
      simp only [List.getElem?_cons_zero, Option.some.injEq] at e
      subst e
      simp only [newOwn] at hn
      split at hn
      · rename_i q; exact .inl q
      · simp at hn
    | succ h =>
      simp only [List.getElem?_cons_succ] at e
      have hn' : newOwn [] r = true := by
        cases x with
        | obj o2 =>
          simp only [newOwn] at hn
          split at hn
          · exact hn
          · simp at hn
        | _ => exact hn
      rcases newOwn_get hn' e with q | ⟨o', q⟩
      · exact .inl q
      · simp at q
  | y :: H, x :: r, hn, h, o, e => by
    cases h with
    | zero =>
      simp only [List.getElem?_cons_zero, Option.some.injEq] at e
      subst e
      cases y with
      | obj o2 => exact .inr ⟨o2, rfl⟩
      | _ =>
        simp only [newOwn] at hn
        split at hn
        · rename_i q; exact .inl q
        · simp at hn
    | succ h =>
      simp only [List.getElem?_cons_succ] at e
      have hn' : newOwn H r = true := by
        cases y with
        | obj o2 => cases x <;> exact hn
        | _ =>
          cases x with
          | obj o2 =>
            simp only [newOwn] at hn
            split at hn
            · exact hn
            · simp at hn
          | _ => exact hn
      exact newOwn_get hn' e
theorem HSat.rebase {w0 W : World} {bs : Nat → Prop} {ρ : Nat → Nat × Nat} {H : List HE} (h : HSat w0 bs ρ H W) : HSat W (Own ρ H) ρ H W :=
  ⟨h.objs, h.size, h.inj, fun x o hx ho => .inl ⟨x, o, hx, ho, rfl⟩, Fr.refl _ _⟩
theorem HSat.comp {w0 W W' : World} {bs : Nat → Prop} {ρ ρ' : Nat → Nat × Nat} {H H1 : List HE} (h : HSat w0 bs ρ H W) (h2 : HSat W (Own ρ H) ρ' H1 W') : HSat w0 bs ρ' H1 W' := by
  refine ⟨h2.objs, h2.size, h2.inj, fun x o hx ho => ?_, ⟨Nat.le_trans h.fr.size h2.fr.size, fun b hb hn => ?_, ?_⟩⟩
  · rcases h2.own x o hx ho with ⟨y, oy, hy, hoy, e⟩ | q
    · rw [← e]; exact h.own y oy hy hoy
    · exact .inr (Nat.le_trans h.fr.size q)
  · rw [h2.fr.same b (Nat.lt_of_lt_of_le hb h.fr.size) ?_, h.fr.same b hb hn]
    rintro ⟨y, oy, hy, hoy, e⟩
    rcases h.own y oy hy hoy with q | q
    · exact hn (by rw [← e]; exact q)
    · rw [e] at q; omega
  · obtain ⟨a1, a2, a3⟩ := h.fr.io
    obtain ⟨b1, b2, b3⟩ := h2.fr.io
    exact ⟨b1.trans a1, b2.trans a2, b3.trans a3⟩
theorem Kept.next {K : List (Nat × Obj)} {W W' : World} {ρ ρ' : Nat → Nat × Nat} {H H1 : List HE} (h : Kept K ρ H W) (h2 : HSat W (Own ρ H) ρ' H1 W') (hb : ∀ x, there H x = true → ρ' x = ρ x ∧ there H1 x = true) (hn : newOwn H H1 = true) : Kept K ρ' H1 W' := by
  intro p hp
  obtain ⟨k1, k2⟩ := h p hp
  have hlt : p.1 < W.heap.size := (Array.getElem?_eq_some_iff.1 k1).1
  have hno : ¬ Own ρ H p.1 := fun ⟨y, oy, hy, _, e⟩ => k2 y oy hy e
  refine ⟨by rw [h2.fr.same _ hlt hno]; exact k1, fun x o hx e => ?_⟩
  rcases newOwn_get hn hx with q | ⟨o', q⟩
  · rcases h2.own x o hx q with q2 | q2
    · rw [e] at q2; exact hno q2
    · rw [e] at q2; omega
  · rw [(hb x (there_of_obj q)).1] at e
    exact k2 x o' q e

section
variable {P : Program} {X : Tabs} (hX : TOk P X)
/-- A state: whatever is as it is told goes on to what is wanted. -/
def SI (rd : Option Nat) (D : List Deferred) (Q : Exit → Act → World → Prop) (w0 : World) (bs : Nat → Prop) (H0 : List HE) (ρ0 : Nat → Nat × Nat) (nt : Nat) (K : List (Nat × Obj)) (k : List KI) (T : List (Nat × SV)) (H : List HE) : Prop :=
  ∀ ρ a W, HSat w0 bs ρ H W → TSat ρ (there H) nt T a → (∀ h, there H0 h = true → ρ h = ρ0 h ∧ there H h = true) → Kept K ρ H W → WKi rd P Q k .normal (lift D a) W
variable {rd : Option Nat} {D : List Deferred} {Q : Exit → Act → World → Prop} {w0 : World} {bs : Nat → Prop} {H0 : List HE} {ρ0 : Nat → Nat × Nat} {fn : Func} {nt : Nat} {K : List (Nat × Obj)} {k k' : List KI} {T T1 : List (Nat × SV)} {H H1 : List HE}
theorem WKi_unwind {id : Nat} {a : Act} {w : World} : ∀ {k k' : List KI}, unwind id k = some k' → WKi rd P Q k' .normal a w → WKi rd P Q k (.exit id) a w
  | [], _, h, _ => by simp [unwind] at h
  | .blk i :: k, k', h, hw => by
    simp only [unwind] at h
    split at h
    · rename_i hb
      simp at h; subst h
      have := Nat.eq_of_beq_eq_true hb
      simp only [WKi]
      rw [if_pos this.symm]; exact hw
    · rename_i hb
      simp only [WKi]
      have : ¬ id = i := by intro e; subst e; simp at hb
      rw [if_neg this]
      exact WKi_unwind h hw
  | .code _ :: k, k', h, hw => WKi_unwind (k := k) h hw
  | .ops _ _ :: k, k', h, hw => WKi_unwind (k := k) h hw
  | .lp _ :: k, k', h, hw => WKi_unwind (k := k) h hw
  | .again _ _ :: k, k', h, hw => WKi_unwind (k := k) h hw
theorem si_seq {x y : Code} (h : (SI (P := P) rd D Q w0 bs H0 ρ0 nt K) (.code x :: .code y :: k) T H) : (SI (P := P) rd D Q w0 bs H0 ρ0 nt K) (.code (.seq x y) :: k) T H := fun ρ a W h1 h2 h3 h4 => by
  have hh := h ρ a W h1 h2 h3 h4
  simp only [WKi] at *
  refine wpIn_seq (wpIn_mono hh fun e a w hq => ?_)
  cases e <;> exact hq
theorem si_block {x : Code} {id : Nat} (h : (SI (P := P) rd D Q w0 bs H0 ρ0 nt K) (.code x :: .blk id :: k) T H) : (SI (P := P) rd D Q w0 bs H0 ρ0 nt K) (.code (.block id x) :: k) T H := fun ρ a W h1 h2 h3 h4 => by
  have hh := h ρ a W h1 h2 h3 h4
  simp only [WKi] at *
  refine wpIn_block (wpIn_mono hh fun e a w hq => ?_)
  cases e <;> exact hq
theorem si_skip (h : (SI (P := P) rd D Q w0 bs H0 ρ0 nt K) k T H) : (SI (P := P) rd D Q w0 bs H0 ρ0 nt K) (.code .skip :: k) T H := fun ρ a W h1 h2 h3 h4 => by
  simp only [WKi]; exact wpIn_skip (h ρ a W h1 h2 h3 h4)
theorem si_blk {id : Nat} (h : (SI (P := P) rd D Q w0 bs H0 ρ0 nt K) k T H) : (SI (P := P) rd D Q w0 bs H0 ρ0 nt K) (.blk id :: k) T H := fun ρ a W h1 h2 h3 h4 => by
  simp only [WKi]; exact h ρ a W h1 h2 h3 h4
theorem si_exit {id : Nat} (hu : unwind id k = some k') (h : (SI (P := P) rd D Q w0 bs H0 ρ0 nt K) k' T H) : (SI (P := P) rd D Q w0 bs H0 ρ0 nt K) (.code (.exit id) :: k) T H := fun ρ a W h1 h2 h3 h4 => by
  simp only [WKi]; exact wpIn_exit (WKi_unwind hu (h ρ a W h1 h2 h3 h4))
theorem look_eval {ρ : Nat → Nat × Nat} {a : Act} {A : Nat → Bool} {t : Nat} {v : SV} (hs : TSat ρ A nt T a) (hl : look T t = some v) : (lift D a).eval (.tmp t) = v.tr ρ := by
  have := (hs.val t v hl).1
  rw [lift_eval]
  simp [Act.eval, Array.getD_eq_getD_getElem?, this]
theorem si_ff {t : Nat} {x y : Code} (hl : look T t = some .ff) (h : (SI (P := P) rd D Q w0 bs H0 ρ0 nt K) (.code y :: k) T H) : (SI (P := P) rd D Q w0 bs H0 ρ0 nt K) (.code (.cond (.tmp t) x y) :: k) T H := fun ρ a W h1 h2 h3 h4 => by
  have hh := h ρ a W h1 h2 h3 h4
  simp only [WKi] at *
  exact wpIn_cond_false (by rw [look_eval h2 hl]; rfl) hh
/-- Behind a region. -/
theorem si_next {ρ ρ' : Nat → Nat × Nat} {a' : Act} {W W' : World} (h : (SI (P := P) rd D Q w0 bs H0 ρ0 nt K) k T1 H1) (hno : newOwn H H1 = true) (h1 : HSat w0 bs ρ H W) (h3 : ∀ h, there H0 h = true → ρ h = ρ0 h ∧ there H h = true) (h4 : Kept K ρ H W)
    (hs : Sat (FEnv P X.TE hX.te fn nt H Not2 ρ W) ρ' T1 H1 a' W') : WKi rd P Q k .normal (lift D a') W' := by
  have hb : ∀ x, there H x = true → ρ' x = ρ x ∧ there H1 x = true := hs.base
  exact h ρ' a' W' (h1.comp hs.hs) hs.ts (fun x hx => ⟨(hb x (h3 x hx).2).1.trans (h3 x hx).1, (hb x (h3 x hx).2).2⟩) (h4.next hs.hs hb hno)
theorem si_region {id : Nat} {ops : Array Oper} (hn : regNd ops.toList = true) (hno : newOwn H H1 = true)
    (h : ∀ ρ W (J : Act → World → Prop), (∀ cs T' H', Sub (FEnv P X.TE hX.te fn nt H Not2 ρ W) T' H' T1 H1 → SS hX (At ρ W) Not2 ⟨cs, [], fn, nt, H, [.lp J], T', H'⟩) → SS hX (At ρ W) Not2 ⟨[], [], fn, nt, H, [.ops ops.toList ops.toList, .lp J], T, H⟩)
    (hk : (SI (P := P) rd D Q w0 bs H0 ρ0 nt K) k T1 H1) : (SI (P := P) rd D Q w0 bs H0 ρ0 nt K) (.code (.region id ops false) :: k) T H := fun ρ a W h1 h2 h3 h4 => by
  simp only [WKi]
  exact region_in hX hn ⟨h1.rebase, h2, fun x hx => ⟨rfl, hx⟩⟩ (h ρ W) fun ρ' a' w' hs' => si_next hX hk hno h1 h3 h4 hs'
end
end Go.Hx

/-
  A range over a function: the statement, a round, a call of yield.
-/
namespace Go.Hx
open Go

section
variable {P : Program} {rd : Option Nat} {D : List Deferred} {Q : Exit → Act → World → Prop} {w0 : World} {bs : Nat → Prop} {H0 : List HE} {ρ0 : Nat → Nat × Nat} {nt : Nat} {K : List (Nat × Obj)} {k k' : List KI} {T T1 : List (Nat × SV)} {H H1 : List HE}
structure SatK (w0 : World) (bs : Nat → Prop) (H0 : List HE) (ρ0 : Nat → Nat × Nat) (nt : Nat) (K : List (Nat × Obj)) (ρ : Nat → Nat × Nat) (T : List (Nat × SV)) (H : List HE) (a : Act) (W : World) : Prop where
  hs : HSat w0 bs ρ H W
  ts : TSat ρ (there H) nt T a
  base : ∀ h, there H0 h = true → ρ h = ρ0 h ∧ there H h = true
  kept : Kept K ρ H W
theorem SI.at (h : (SI (P := P) rd D Q w0 bs H0 ρ0 nt K) k T H) {ρ : Nat → Nat × Nat} {a : Act} {W : World} (hs : SatK w0 bs H0 ρ0 nt K ρ T H a W) : WKi rd P Q k .normal (lift D a) W := h ρ a W hs.hs hs.ts hs.base hs.kept
theorem SI.of (h : ∀ ρ a W, SatK w0 bs H0 ρ0 nt K ρ T H a W → WKi rd P Q k .normal (lift D a) W) : (SI (P := P) rd D Q w0 bs H0 ρ0 nt K) k T H := fun ρ a W h1 h2 h3 h4 => h ρ a W ⟨h1, h2, h3, h4⟩
theorem WKi_ret {a : Act} {w : World} (h : Q .ret a w) : ∀ k : List KI, WKi rd P Q k .ret a w
  | [] => h
  | .code _ :: k => WKi_ret h k
  | .blk _ :: k => WKi_ret h k
  | .ops _ _ :: k => WKi_ret h k
  | .lp _ :: k => WKi_ret h k
  | .again _ _ :: k => WKi_ret h k
theorem si_ret (h : ∀ ρ a W, SatK w0 bs H0 ρ0 nt K ρ T H a W → Q .ret (lift D a) W) : (SI (P := P) rd D Q w0 bs H0 ρ0 nt K) (.code .ret :: k) T H := SI.of fun ρ a W hs => by
  simp only [WKi]; exact wpIn_ret (WKi_ret (h ρ a W hs) k)
/-- Less is known. -/
theorem si_sub (σ : (Nat → Nat × Nat) → Nat → Nat × Nat) (hsub : ∀ ρ a W, SatK w0 bs H0 ρ0 nt K ρ T H a W → SatK w0 bs H0 ρ0 nt K (σ ρ) T1 H1 a W) (h : (SI (P := P) rd D Q w0 bs H0 ρ0 nt K) k T1 H1) : (SI (P := P) rd D Q w0 bs H0 ρ0 nt K) k T H := SI.of fun ρ a W hs => h.at (hsub ρ a W hs)
theorem si_loop {body : Code} {α : Type} (Tf : α → List (Nat × SV)) (Hf : α → List HE) (Inv : α → Prop) (μ : α → Nat) (x0 : α) (h0 : Inv x0)
    (round : ∀ x, Inv x → ∀ I : Act → World → Prop, (∀ x', Inv x' → μ x' < μ x → (SI (P := P) rd D Q w0 bs H0 ρ0 nt K) (.lp I :: k) (Tf x') (Hf x')) → (SI (P := P) rd D Q w0 bs H0 ρ0 nt K) (.code body :: .lp I :: k) (Tf x) (Hf x)) :
    (SI (P := P) rd D Q w0 bs H0 ρ0 nt K) (.code (.loop body) :: k) (Tf x0) (Hf x0) := SI.of fun ρ a W hs => by
  classical
  let I : Act → World → Prop := fun a' w => ∃ x, Inv x ∧ ∃ ρ a, a' = lift D a ∧ SatK w0 bs H0 ρ0 nt K ρ (Tf x) (Hf x) a w
  let M : Act → World → Nat → Prop := fun a' w n => ∃ x, μ x = n ∧ Inv x ∧ ∃ ρ a, a' = lift D a ∧ SatK w0 bs H0 ρ0 nt K ρ (Tf x) (Hf x) a w
  have least : ∀ a w, I a w → ∃ n, M a w n ∧ ∀ m, M a w m → n ≤ m := by
    intro a w ⟨x, hx, hsx⟩
    have : ∀ n, ∀ x, μ x = n → Inv x → (∃ ρ a0, a = lift D a0 ∧ SatK w0 bs H0 ρ0 nt K ρ (Tf x) (Hf x) a0 w) → ∃ n, M a w n ∧ ∀ m, M a w m → n ≤ m := by
      intro n
      induction n using Nat.strongRecOn with
      | _ n ih =>
        intro x hn hx hsx
        by_cases hex : ∃ m, m < n ∧ M a w m
        · obtain ⟨m, hm, y, hy1, hy2, hy3⟩ := hex
          exact ih m hm y hy1 hy2 hy3
        · exact ⟨n, ⟨x, hn, hx, hsx⟩, fun m hm => by
            rcases Nat.lt_or_ge m n with h | h
            · exact absurd ⟨m, h, hm⟩ hex
            · exact h⟩
    exact this _ x rfl hx hsx
  let mu : Act → World → Nat := fun a w => if h : ∃ n, M a w n ∧ ∀ m, M a w m → n ≤ m then h.choose else 0
  have hmu : ∀ a w, I a w → M a w (mu a w) ∧ ∀ m, M a w m → mu a w ≤ m := by
    intro a w hI
    have h := least a w hI
    simp only [mu, dif_pos h]
    exact h.choose_spec
  simp only [WKi]
  refine wpIn_loop I mu ⟨x0, h0, ρ, a, rfl, hs⟩ ?_
  intro a1 w1 hI
  obtain ⟨⟨x, hx1, hx2, ρ1, a2, rfl, hx3⟩, _⟩ := hmu a1 w1 hI
  have := (round x hx2 (fun a' w => ∃ x', Inv x' ∧ μ x' < μ x ∧ ∃ ρ a, a' = lift D a ∧ SatK w0 bs H0 ρ0 nt K ρ (Tf x') (Hf x') a w) fun x' h1 h2 => SI.of fun ρ' a' W' hs' => by
    simp only [WKi]; exact ⟨x', h1, h2, ρ', a', rfl, hs'⟩).at hx3
  simp only [WKi] at this
  refine wpIn_mono this fun e a' w' hq => ?_
  cases e with
  | normal =>
    obtain ⟨x', h1, h2, h3⟩ := hq
    have hI' : I a' w' := ⟨x', h1, h3⟩
    refine ⟨hI', ?_⟩
    have := (hmu a' w' hI').2 (μ x') ⟨x', rfl, h1, h3⟩
    omega
  | _ => exact hq
/-- Blocks that are kept lie as they lay. -/
theorem HSat.putKept {W : World} {ρ : Nat → Nat × Nat} {l : Nat} {o : Obj} (h : HSat w0 bs ρ H W) (hl : w0.heap.size ≤ l ∨ bs l) (hn : ∀ (x : Nat) (ox : SO), H[x]? = some (.obj ox) → (ρ x).1 ≠ l) : HSat w0 bs ρ H (W.putObj l o) := by
  refine ⟨fun x ox hx => ?_, fun x hx => by rw [World.putObj_size]; exact h.size x hx, h.inj, h.own, ⟨by rw [World.putObj_size]; exact h.fr.size, fun b hb hnb => ?_, h.fr.io⟩⟩
  · obtain ⟨h1, h2⟩ := h.objs x ox hx
    exact ⟨ox.holds_world (World.putObj_heap_other (hn x ox hx)) h1, h2⟩
  · rw [World.putObj_heap_other (by rintro rfl; rcases hl with q | q; omega; exact hnb q)]
    exact h.fr.same b hb hnb
theorem lift_nil {a : Act} : lift [] a = a := by simp [lift]
/-! Operations, one part after the other. -/
theorem wl_append {F : Fence} {n : Nat} {ops : Array Oper} {Q' : Exit → Act → World → Prop} : ∀ {l1 l2 : List Oper} {a : Act} {w : World}, wpListIn F n P ops (fun e a w => e = .normal ∧ wpListIn F n P ops Q' l2 a w) l1 a w → wpListIn F n P ops Q' (l1 ++ l2) a w
  | [], _, _, _, h => h.2
  | o :: r, l2, a, w, h => by
    unfold wpListIn at h
    rw [List.cons_append]
    unfold wpListIn
    split
    · rename_i hw
      rw [if_pos hw] at h
      obtain ⟨h1, h2⟩ := h
      refine ⟨h1, ?_⟩
      generalize (o.semAt F.round a.eval).run P w = res at h2 ⊢
      unfold Oper.uponIn at h2 ⊢
      split at h2
      · exact wl_append h2
      · exact wl_append h2
      · exact wl_append h2
      · refine ⟨h2.1, CallsIn.mono h2.2 fun e w' he => ?_⟩
        cases e with
        | returned v => exact wl_append he
        | panicked c => exact absurd he.1 (by simp)
        | outgrown => obtain ⟨a, w, hq, _⟩ := he; simp at hq
      · exact ⟨h2.1, h2.2.mono fun v w' he => wl_append he⟩
      · refine ⟨h2.1, h2.2.mono fun e w' he => ?_⟩
        cases e with
        | returned v => exact wl_append he
        | panicked c => exact absurd he.1 (by simp)
        | outgrown => obtain ⟨a, w, hq, _⟩ := he; simp at hq
      · exact absurd h2.1 (by simp)
      · exact h2.elim
    · rename_i hw
      rw [if_neg hw] at h
      exact ⟨h.1, wl_append h.2⟩
theorem si_ops {id : Nat} {ops : Array Oper} (h : (SI (P := P) rd D Q w0 bs H0 ρ0 nt K) (.ops ops.toList ops.toList :: k) T H) : (SI (P := P) rd D Q w0 bs H0 ρ0 nt K) (.code (.region id ops false) :: k) T H := SI.of fun ρ a W hs => by
  have := h.at hs
  simp only [WKi] at this ⊢
  rw [Array.toArray_toList] at this
  exact wpIn_region_list this
theorem si_ops_nil {all : List Oper} (h : (SI (P := P) rd D Q w0 bs H0 ρ0 nt K) k T H) : (SI (P := P) rd D Q w0 bs H0 ρ0 nt K) (.ops all [] :: k) T H := SI.of fun ρ a W hs => by
  have := h.at hs
  simp only [WKi]
  exact this
/-- What begins a round, behind the assignments. -/
def beginJ (P : Program) (l : Nat) (body : Code) (R : Ending → World → Prop) : Act → World → Prop := fun a₁ w₁ => ∃ w₂, (Instr.beginRound l).run P w₁ = .ok () w₂ ∧ body.wpIn (Fw (some l)) 0 P (roundPost P l R) a₁ w₂
theorem round_in {l f : Nat} {tm : Array Value} {assign body : Code} {R : Ending → World → Prop} {W : World} {ρ : Nat → Nat × Nat}
    (h : SI (P := P) (some l) [] (fun _ _ _ => False) w0 bs H0 ρ0 nt K [.code assign, .lp (beginJ P l body R)] T H) (hs : SatK w0 bs H0 ρ0 nt K ρ T H { tmps := tm, defers := [] } W) : RoundIn Fence.wide 0 P l f tm assign body W R := by
  refine roundIn_of_wpIn trivial ?_
  have := h.at hs
  rw [lift_nil] at this
  simp only [WKi] at this
  refine wpIn_mono (show assign.wpIn (Fw (some l)) 0 P _ _ _ from this) fun e a w hq => ?_
  cases e with
  | normal => exact hq
  | _ => exact hq
theorem si_begin {l : Nat} {r : Loop} {body : Code} {R : Ending → World → Prop} (hl : w0.heap.size ≤ l ∨ bs l) (hr : r.state = .ready) (hK : ∀ p ∈ K, p.1 ≠ l)
    (h : SI (P := P) (some l) [] (roundPost P l R) w0 bs H0 ρ0 nt ((l, .loop { r with state := .busy }) :: K) [.code body] T H) :
    SI (P := P) (some l) [] (fun _ _ _ => False) w0 bs H0 ρ0 nt ((l, .loop r) :: K) [.lp (beginJ P l body R)] T H := SI.of fun ρ a W hs => by
  obtain ⟨k1, k2⟩ := hs.kept (l, .loop r) (List.mem_cons_self ..)
  have hlt : l < W.heap.size := (Array.getElem?_eq_some_iff.1 k1).1
  simp only [WKi]
  refine ⟨_, run_beginRound k1 hr, ?_⟩
  have := h.at (ρ := ρ) (a := a) (W := W.putObj l (.loop { r with state := .busy })) ⟨hs.hs.putKept hl k2, hs.ts, hs.base, fun p hp => ?_⟩
  · simp only [WKi] at this
    exact this
  · simp only [List.mem_cons] at hp
    rcases hp with rfl | hp
    · exact ⟨World.putObj_heap_same hlt, k2⟩
    · obtain ⟨q1, q2⟩ := hs.kept p (List.mem_cons_of_mem _ hp)
      exact ⟨by rw [World.putObj_heap_other (hK p hp)]; exact q1, q2⟩
theorem si_round_end {l : Nat} {r : Loop} {R : Ending → World → Prop} (h : ∀ ρ a W, SatK w0 bs H0 ρ0 nt ((l, .loop r) :: K) ρ T H a W → R (.returned (.bool true)) (W.putObj l (.loop { r with state := .ready, pending := none }))) :
    SI (P := P) (some l) [] (roundPost P l R) w0 bs H0 ρ0 nt ((l, .loop r) :: K) [] T H := SI.of fun ρ a W hs => by
  obtain ⟨k1, k2⟩ := hs.kept (l, .loop r) (List.mem_cons_self ..)
  exact ⟨_, _, run_endRound none k1, h ρ a W hs⟩
/-- An exit that nothing in a round catches. -/
def noBlk (id : Nat) : List KI → Bool
  | [] => true
  | .blk i :: k => match Nat.beq i id with
    | true => false
    | false => noBlk id k
  | _ :: k => noBlk id k
theorem WKi_out {id : Nat} {a : Act} {w : World} (h : Q (.exit id) a w) : ∀ {k : List KI}, noBlk id k = true → WKi rd P Q k (.exit id) a w
  | [], _ => h
  | .blk i :: k, hn => by
    simp only [noBlk] at hn
    split at hn
    · simp at hn
    · rename_i hb
      simp only [WKi]
      have : ¬ id = i := by intro e; subst e; simp at hb
      rw [if_neg this]
      exact WKi_out h hn
  | .code _ :: k, hn => WKi_out (k := k) h hn
  | .ops _ _ :: k, hn => WKi_out (k := k) h hn
  | .lp _ :: k, hn => WKi_out (k := k) h hn
  | .again _ _ :: k, hn => WKi_out (k := k) h hn
theorem si_round_out {l id : Nat} {r : Loop} {R : Ending → World → Prop} (hn : noBlk id k = true) (h : ∀ ρ a W, SatK w0 bs H0 ρ0 nt ((l, .loop r) :: K) ρ T H a W → R (.returned (.bool false)) (W.putObj l (.loop { r with state := .done, pending := some (.exit id) }))) :
    SI (P := P) (some l) [] (roundPost P l R) w0 bs H0 ρ0 nt ((l, .loop r) :: K) (.code (.exit id) :: k) T H := SI.of fun ρ a W hs => by
  obtain ⟨k1, k2⟩ := hs.kept (l, .loop r) (List.mem_cons_self ..)
  simp only [WKi]
  exact wpIn_exit (WKi_out ⟨_, _, run_endRound (some (.exit id)) k1, h ρ a W hs⟩ hn)
end
end Go.Hx

/-
  A call of yield; the statement that ranges over a function.
-/
namespace Go.Hx
open Go

theorem yield_run {P : Program} {A : Nat → Bool} {nt : Nat} {T : List (Nat × SV)} {o : Oper} {c : Call} {l : Nat} {as : List SV} {r : Loop} {x : Operand} (hop : o.op = .call c) (hcal : c.callee = .value x)
    (hx : ev T x = some (.raw (.func (.yield l) #[] #[]))) (has : evs T c.args.toList = some as) (hn : as.length = r.params.size) {ρ : Nat → Nat × Nat} {a : Act} {w : World} (hs : TSat ρ A nt T a) (hl : w.heap[l]? = some (.loop r)) :
    (execOp a.eval o).run P w = .ok (.round l r.fn ((r.params.zip (SV.trs ρ as).toArray).foldl (fun tmps (t, a) => tmps.setIfInBounds t a) r.tmps) r.assign r.body) w := by
  obtain ⟨h1, h2⟩ := ev_tr hs hx
  obtain ⟨h3, h4⟩ := evs_tr hs has
  have hmap : c.args.map a.eval = (SV.trs ρ as).toArray := by rw [toArr_map, h3]
  have hy := run_yield (P := P) (args := (SV.trs ρ as).toArray) hl (by simp [trs_length, hn])
  simp only [execOp, hop, Sem.run_bind]
  simp only [resolve, hcal, h1, SV.tr, Deferred.ofValue, hmap, Sem.run_pure, Result.andThen_ok, invoke]
  simpa using hy
section
variable {P : Program} {X : Tabs} (hX : TOk P X) {rd : Option Nat} {D : List Deferred} {Q : Exit → Act → World → Prop} {w0 : World} {bs : Nat → Prop} {H0 : List HE} {ρ0 : Nat → Nat × Nat} {fn : Func} {nt : Nat} {K : List (Nat × Obj)} {k k' : List KI} {T T1 : List (Nat × SV)} {H H1 : List HE}
/-- A part of a region, gone through by the machine. -/
theorem si_ops_run {all pre post : List Oper} (hn : regNd pre = true) (hno : newOwn H H1 = true)
    (h : ∀ ρ W (J : Act → World → Prop), (∀ cs T' H', Sub (FEnv P X.TE hX.te fn nt H Not2 ρ W) T' H' T1 H1 → SS hX (At ρ W) Not2 ⟨cs, [], fn, nt, H, [.lp J], T', H'⟩) → SS hX (At ρ W) Not2 ⟨[], [], fn, nt, H, [.ops all pre, .lp J], T, H⟩)
    (hk : (SI (P := P) rd D Q w0 bs H0 ρ0 nt K) (.ops all post :: k) T1 H1) : (SI (P := P) rd D Q w0 bs H0 ρ0 nt K) (.ops all (pre ++ post) :: k) T H := SI.of fun ρ a W hs => by
  simp only [WKi]
  have hs0 : Sat (FEnv P X.TE hX.te fn nt H Not2 ρ W) ρ T H a W := ⟨hs.hs.rebase, hs.ts, fun x hx => ⟨rfl, hx⟩⟩
  let J : Act → World → Prop := fun a' w' => ∃ ρ', Sat (FEnv P X.TE hX.te fn nt H Not2 ρ W) ρ' T1 H1 a' w'
  have hw := sw_ss hX (h ρ W J fun cs T H' hsub => ss_sw hX fun ρ1 a1 w1 hs1 => hsub ρ1 a1 w1 hs1) ρ a W hs0
  refine wl_append (wl_in (Qs := WK P (FEnv P X.TE hX.te fn nt H Not2 ρ W).Q [.lp J]) (fun e a w => wk_lp_normal hX e a w) (fun a' w' hJ => ?_) (regNd_mem hn) hw)
  obtain ⟨ρ', hs'⟩ := hJ
  have := si_next hX (fn := fn) hk hno hs.hs hs.base hs.kept hs'
  simp only [WKi] at this
  exact ⟨rfl, this⟩
/-- A call of yield. -/
theorem si_ops_yield {all post : List Oper} {o : Oper} {c : Call} {l : Nat} {as : List SV} {r : Loop} {x : Operand} (hop : o.op = .call c) (hcal : c.callee = .value x) (hg : guardF all T o.guard = 0)
    (hx : ev T x = some (.raw (.func (.yield l) #[] #[]))) (has : evs T c.args.toList = some as) (hn : as.length = r.params.size)
    (h : ∀ ρ a W, SatK w0 bs H0 ρ0 nt ((l, .loop r) :: K) ρ T H a W →
      RoundIn Fence.wide 0 P l r.fn ((r.params.zip (SV.trs ρ as).toArray).foldl (fun tmps (t, a) => tmps.setIfInBounds t a) r.tmps) r.assign r.body W fun e W' => match e with
        | .returned v => wpListIn (Fw rd) 0 P all.toArray (WKi rd P Q k) post (lift D (a.put o.dst v)) W'
        | _ => False) :
    SI (P := P) rd D Q w0 bs H0 ρ0 nt ((l, .loop r) :: K) (.ops all (o :: post) :: k) T H := SI.of fun ρ a W hs => by
  obtain ⟨k1, _⟩ := hs.kept (l, .loop r) (List.mem_cons_self ..)
  have hd : ∀ c, o.op ≠ .defer c := fun c e => by rw [hop] at e; cases e
  have hrun := yield_run (P := P) hop hcal hx has hn hs.ts k1
  have hw : Region.wanted o (yielded all.toArray (lift D a).tmps) = true := by
    have := guard_wanted (E := ⟨P, fun _ => TI.none, nt, Q, w0, bs, H0, ρ0, fun t => TIok.of_check (i := TI.none) (by simp [checkT, TI.none])⟩) (ρ := ρ) (T := T) (H := H) (a := a) (w := W) ⟨hs.hs, hs.ts, hs.base⟩ hg
    exact this
  simp only [WKi]
  unfold wpListIn
  rw [if_pos hw]
  refine ⟨fun _ _ => trivial, ?_⟩
  rw [Oper.semAt_eq _ _ _ hd, lift_eval, hrun, Oper.uponIn_round]
  refine ⟨fun e => by simp [Fw, Fence.wide] at e, ?_⟩
  refine RoundIn.mono (show RoundIn (Fw rd) 0 P l _ _ _ _ W _ from h ρ a W hs) fun e W' he => ?_
  cases e with
  | returned v =>
    show wpListIn (Fw rd) 0 P all.toArray (WKi rd P Q k) post ((lift D a).put o.dst v) W'
    rw [← lift_put]; exact he
  | panicked c => exact he.elim
  | outgrown => exact he.elim
/-- The mark of a loop's deferred calls. -/
def markD (b : Nat) : Deferred := { target := .collected b, args := #[] }
def recL (fid : FuncId) (tm : Array Value) (ps : Array Tmp) (assign body : Code) (b : Nat) : Loop := { state := .ready, pending := none, fn := fid, tmps := tm, params := ps, assign := assign, body := body, defers := b }
/-- The statement that ranges over a function. -/
theorem si_range {g tf : Nat} {caps : List SV} {fng : Func} {ps : Array Tmp} {assign body : Code} (hl : look T tf = some (.func (.func g) [] caps)) (hfn : P.funcs[g]? = some fng) (hb : fng.body.isSome = true) (hname : (fng.name == "runtime.NumGoroutine") = false)
    (h : ∀ ρ a W fid, SatK w0 bs H0 ρ0 nt K ρ T H a W → Calls P g (#[.func (.yield (W.heap.size + 1)) #[] #[]] ++ (SV.trs ρ caps).toArray) ((W.alloc (.deferred (some []))).alloc (.loop (recL fid a.tmps ps assign body W.heap.size))) fun e W2 => match e with
      | .returned _ => ∃ jump W3, (Instr.endLoop (W.heap.size + 1)).run P W2 = .ok jump W3 ∧ (match jump with
        | none => WKi none P Q k .normal (lift [markD W.heap.size] a) W3
        | some c => WKi none P Q (.code c :: k) .normal (lift [markD W.heap.size] a) W3)
      | _ => False) :
    SI (P := P) none [] Q w0 bs H0 ρ0 nt K (.code (.rangeFunc (.tmp tf) ps assign body) :: k) T H := SI.of fun ρ a W hs => by
  simp only [WKi]
  rw [lift_nil]
  refine wpIn_rangeFunc fun fid _ => ?_
  have hev : a.eval (.tmp tf) = .func (.func g) #[] (SV.trs ρ caps).toArray := by
    have := look_eval (D := []) hs.ts hl
    rw [lift_nil] at this
    rw [this]; rfl
  have hd0 : a.defers = [] := hs.ts.def0
  have hnone : ¬ fng.body = none := by intro e; rw [e] at hb; simp at hb
  have hn' : ¬ fng.name = "runtime.NumGoroutine" := by intro e; rw [e] at hname; simp at hname
  refine ⟨W.heap.size + 1, [markD W.heap.size], (W.alloc (.deferred (some []))).alloc (.loop (recL fid a.tmps ps assign body W.heap.size)), { target := .fn (.func g) (SV.trs ρ caps).toArray, args := #[.func (.yield (W.heap.size + 1)) #[] #[]] }, (W.alloc (.deferred (some []))).alloc (.loop (recL fid a.tmps ps assign body W.heap.size)), g, #[.func (.yield (W.heap.size + 1)) #[] #[]] ++ (SV.trs ρ caps).toArray, (W.alloc (.deferred (some []))).alloc (.loop (recL fid a.tmps ps assign body W.heap.size)), run_enterLoop_outer fid a.tmps ps assign body, ?_, fun f' _ => trivial, ?_, fun e => by simp [Fw, Fence.wide] at e, ?_⟩
  · show (Deferred.ofValue (a.eval (.tmp tf)) _).run P _ = _
    rw [hev]
    simp [Deferred.ofValue, Sem.run_pure, Act.eval]
  · simp [invoke, callFunc, Sem.run_bind, run_program, hfn, hn', hnone]
  · refine callsIn_fw.2 (Calls.mono (h ρ a W fid hs) fun e W2 he => ?_)
    cases e with
    | returned v =>
      obtain ⟨jump, W3, he1, he2⟩ := he
      refine ⟨jump, W3, he1, ?_⟩
      have e3 : ({ a with defers := [markD W.heap.size] ++ a.defers } : Act) = lift [markD W.heap.size] a := by simp [lift, hd0]
      rw [e3]
      cases jump with
      | none => exact he2
      | some c => simp only [WKi] at he2; exact he2
    | panicked c => exact he.elim
    | outgrown => exact he.elim
end
end Go.Hx

/-
  A range over a function: into the function that is ranged over, and out of it; a function with a loop's mark.
-/
namespace Go.Hx
open Go

section
variable {P : Program} {rd : Option Nat} {D : List Deferred} {Q : Exit → Act → World → Prop} {w0 : World} {bs : Nat → Prop} {H0 : List HE} {ρ0 : Nat → Nat × Nat} {nt : Nat} {K : List (Nat × Obj)} {k k' : List KI} {T T1 : List (Nat × SV)} {H H1 : List HE}
theorem argSat {ρ : Nat → Nat × Nat} {A : Nat → Bool} {args : List SV} (hok : SV.okhs A args = true) (hn : args.length ≤ nt) : TSat ρ A nt (argT 0 args) { tmps := (SV.trs ρ args).toArray ++ Array.replicate (nt - (SV.trs ρ args).toArray.size) undef, defers := [] } := by
  refine ⟨?_, ?_, rfl⟩
  · intro t v hv
    obtain ⟨_, h2⟩ := argT_get hv
    simp only [Nat.sub_zero] at h2
    refine ⟨?_, (okhs_iff args).1 hok v (List.mem_of_getElem? h2)⟩
    have hlt : t < args.length := by
      rcases Nat.lt_or_ge t args.length with h1 | h1
      · exact h1
      · rw [List.getElem?_eq_none h1] at h2; simp at h2
    rw [Array.getElem?_append_left (by simp [trs_length]; exact hlt)]
    simp [trs_eq_map, h2]
  · simp [trs_length]; omega
/-- A function is gone into, whatever is wanted of it. -/
theorem si_intro {g : Nat} {fng : Func} {c : Code} {as : List SV} {R : Ending → World → Prop} {ρ : Nat → Nat × Nat} {W : World} (hf : P.funcs[g]? = some fng) (hb : fng.body = some c) (hn : as.length ≤ fng.ntmps) (hok : SV.okhs (there H) as = true)
    (hs : HSat w0 bs ρ H W) (hbase : ∀ h, there H0 h = true → ρ h = ρ0 h ∧ there H h = true) (hk : Kept K ρ H W)
    (h : SI (P := P) none [] (bodyPostM (Fw none) 0 P fng R) w0 bs H0 ρ0 fng.ntmps K [.code c] (argT 0 as) H) : Calls P g (SV.trs ρ as).toArray W R := by
  refine callsIn_fw.1 (callsIn_of_wp_marks (F := Fw none) (n := 0) hf hb trivial ?_)
  have := h.at (ρ := ρ) (W := W) ⟨hs, argSat hok hn, hbase, hk⟩
  rw [lift_nil] at this
  simp only [WKi] at this
  refine wpIn_mono this fun e a w hq => ?_
  cases e <;> exact hq
theorem SatK.putL {ρ : Nat → Nat × Nat} {a : Act} {W : World} {l : Nat} {o o' : Obj} (hs : SatK w0 bs H0 ρ0 nt ((l, o) :: K) ρ T H a W) (hl : w0.heap.size ≤ l ∨ bs l) (hK : ∀ p ∈ K, p.1 ≠ l) : SatK w0 bs H0 ρ0 nt ((l, o') :: K) ρ T H a (W.putObj l o') := by
  obtain ⟨k1, k2⟩ := hs.kept (l, o) (List.mem_cons_self ..)
  have hlt : l < W.heap.size := (Array.getElem?_eq_some_iff.1 k1).1
  refine ⟨hs.hs.putKept hl k2, hs.ts, hs.base, fun p hp => ?_⟩
  simp only [List.mem_cons] at hp
  rcases hp with rfl | hp
  · exact ⟨World.putObj_heap_same hlt, k2⟩
  · obtain ⟨q1, q2⟩ := hs.kept p (List.mem_cons_of_mem _ hp)
    exact ⟨by rw [World.putObj_heap_other (hK p hp)]; exact q1, q2⟩
/-- What a round knows of its parameters. -/
def putP : List Nat → List SV → List (Nat × SV) → List (Nat × SV)
  | p :: ps, v :: vs, T => putP ps vs ((p, v) :: T)
  | _, _, T => T
def psLt (n : Nat) : List Nat → Bool
  | [] => true
  | p :: r => match Nat.ble (p + 1) n with
    | true => psLt n r
    | false => false
theorem putP_sat {ρ : Nat → Nat × Nat} {A : Nat → Bool} : ∀ {ps : List Nat} {vs : List SV} {T : List (Nat × SV)} {tm : Array Value}, TSat ρ A nt T { tmps := tm, defers := [] } → SV.okhs A vs = true → psLt nt ps = true →
    TSat ρ A nt (putP ps vs T) { tmps := (ps.zip (SV.trs ρ vs)).foldl (fun tmps (t, a) => tmps.setIfInBounds t a) tm, defers := [] }
  | [], vs, T, tm, h, _, _ => by cases vs <;> exact h
  | p :: ps, [], T, tm, h, _, _ => h
  | p :: ps, v :: vs, T, tm, h, hv, hp => by
    simp only [SV.okhs, Bool.and_eq_true] at hv
    simp only [psLt] at hp
    split at hp
    · rename_i hb
      have hlt : p < nt := Nat.le_of_ble_eq_true hb
      have h2 := h.put hlt hv.1
      exact putP_sat (ps := ps) (vs := vs) (T := (p, v) :: T) (tm := tm.setIfInBounds p (v.tr ρ)) h2 hv.2 hp
    · simp at hp
/-- A call of yield: a round. -/
theorem si_yield {all post : List Oper} {o : Oper} {c : Call} {l d nto : Nat} {as : List SV} {r : Loop} {x : Operand} {To : List (Nat × SV)} (hop : o.op = .call c) (hcal : c.callee = .value x) (hg : guardF all T o.guard = 0)
    (hx : ev T x = some (.raw (.func (.yield l) #[] #[]))) (has : evs T c.args.toList = some as) (hn : as.length = r.params.size) (hst : r.state = .ready) (hd : o.dst = some d) (hdn : d < nt)
    (hl : w0.heap.size ≤ l ∨ bs l) (hK : ∀ p ∈ K, p.1 ≠ l) (hps : psLt nto r.params.toList = true) (ho : TSat ρ0 (there H0) nto To { tmps := r.tmps, defers := [] })
    (h : ∀ (ρ : Nat → Nat × Nat) (Qr : Exit → Act → World → Prop) (J : Act → World → Prop),
      (∀ T2 H1, SI (P := P) (some l) [] Qr w0 bs H ρ nto ((l, .loop { r with state := .busy }) :: K) [.code r.body] T2 H1 → SI (P := P) (some l) [] (fun _ _ _ => False) w0 bs H ρ nto ((l, .loop r) :: K) [.lp J] T2 H1) →
      (∀ T2 H1, SI (P := P) rd D Q w0 bs H0 ρ0 nt ((l, .loop { r with state := .ready, pending := none }) :: K) (.ops all post :: k) ((d, .tt) :: T) H1 → SI (P := P) (some l) [] Qr w0 bs H ρ nto ((l, .loop { r with state := .busy }) :: K) [] T2 H1) →
      (∀ id T2 H1 kk, noBlk id kk = true → SI (P := P) rd D Q w0 bs H0 ρ0 nt ((l, .loop { r with state := .done, pending := some (.exit id) }) :: K) (.ops all post :: k) ((d, .ff) :: T) H1 → SI (P := P) (some l) [] Qr w0 bs H ρ nto ((l, .loop { r with state := .busy }) :: K) (.code (.exit id) :: kk) T2 H1) →
      SI (P := P) (some l) [] (fun _ _ _ => False) w0 bs H ρ nto ((l, .loop r) :: K) [.code r.assign, .lp J] (putP r.params.toList as To) H) :
    SI (P := P) rd D Q w0 bs H0 ρ0 nt ((l, .loop r) :: K) (.ops all (o :: post) :: k) T H := by
  refine si_ops_yield hop hcal hg hx has hn fun ρ a W hs => ?_
  have hok := (evs_tr hs.ts has).2
  have ho2 : TSat ρ (there H) nto To { tmps := r.tmps, defers := [] } := ho.ext (fun y hy => (hs.base y hy).1.symm) (fun y hy => (hs.base y hy).2)
  have hp := putP_sat (ps := r.params.toList) (vs := as) ho2 hok hps
  have e1 : (r.params.toList.zip (SV.trs ρ as)).foldl (fun tmps (t, a) => tmps.setIfInBounds t a) r.tmps = (r.params.zip (SV.trs ρ as).toArray).foldl (fun tmps (t, a) => tmps.setIfInBounds t a) r.tmps := by
    rw [← Array.foldl_toList]
    simp [Array.toList_zip]
  rw [e1] at hp
  have next : ∀ {b : Bool} {vb : SV} {r2 : Loop} {ρ' : Nat → Nat × Nat} {a' : Act} {W' : World} {T2 : List (Nat × SV)} {H1 : List HE}, vb.tr ρ' = .bool b → vb.okh (there H1) = true →
      SI (P := P) rd D Q w0 bs H0 ρ0 nt ((l, .loop r2) :: K) (.ops all post :: k) ((d, vb) :: T) H1 → SatK w0 bs H ρ nto ((l, .loop { r with state := .busy }) :: K) ρ' T2 H1 a' W' →
      wpListIn (Fw rd) 0 P all.toArray (WKi rd P Q k) post (lift D (a.put o.dst (.bool b))) (W'.putObj l (.loop r2)) := by
    intro b vb r2 ρ' a' W' T2 H1 hv hvo hsi hs'
    have hs2 := hs'.putL (o' := .loop r2) hl hK
    have ht : TSat ρ' (there H1) nt T a := hs.ts.ext (fun y hy => (hs'.base y hy).1.symm) (fun y hy => (hs'.base y hy).2)
    have := hsi.at (ρ := ρ') (a := a.put (some d) (vb.tr ρ')) (W := W'.putObj l (.loop r2)) ⟨hs2.hs, ht.put hdn hvo, fun y hy => ⟨(hs'.base y (hs.base y hy).2).1.trans (hs.base y hy).1, (hs'.base y (hs.base y hy).2).2⟩, hs2.kept⟩
    simp only [WKi] at this
    rw [hd, ← hv]
    exact this
  refine round_in (h ρ _ _ (fun T2 H1 hb => si_begin hl hst hK hb) (fun T2 H1 hsi => ?_) (fun id T2 H1 kk hnb hsi => ?_)) ⟨hs.hs, hp, fun y hy => ⟨rfl, hy⟩, hs.kept⟩
  · exact si_round_end fun ρ' a' W' hs' => next (vb := .tt) rfl rfl hsi hs'
  · exact si_round_out hnb fun ρ' a' W' hs' => next (vb := .ff) rfl rfl hsi hs'
theorem alloc_old {W : World} {o : Obj} {b : Nat} (h : b < W.heap.size) : (W.alloc o).heap[b]? = W.heap[b]? := by
  show (W.heap.push o)[b]? = _
  rw [Array.getElem?_push_lt h]
  simp [h]
/-- The world of a function that is ranged over. -/
def loopW (W : World) (r : Loop) : World := (W.alloc (.deferred (some []))).alloc (.loop r)
theorem loopW_size {W : World} {r : Loop} : (loopW W r).heap.size = W.heap.size + 2 := by simp [loopW]
theorem loopW_old {W : World} {r : Loop} {b : Nat} (h : b < W.heap.size) : (loopW W r).heap[b]? = W.heap[b]? := by
  rw [loopW, alloc_old (by simp; omega), alloc_old h]
theorem loopW_sat {W : World} {r : Loop} {ρ : Nat → Nat × Nat} (h : HSat w0 bs ρ H W) : HSat (loopW W r) (fun b => Own ρ H b ∨ b = W.heap.size + 1) ρ H (loopW W r) := by
  refine ⟨fun x ox hx => ?_, fun x hx => by rw [loopW_size]; have := h.size x hx; omega, h.inj, fun x o hx ho => .inl (.inl ⟨x, o, hx, ho, rfl⟩), Fr.refl _ _⟩
  obtain ⟨h1, h2⟩ := h.objs x ox hx
  exact ⟨ox.holds_world (loopW_old (h.size x (there_of_obj hx))) h1, h2⟩
theorem loopW_kept {W : World} {r : Loop} {ρ : Nat → Nat × Nat} (h : HSat w0 bs ρ H W) : Kept [(W.heap.size + 1, .loop r), (W.heap.size, .deferred (some []))] ρ H (loopW W r) := by
  intro p hp
  simp only [List.mem_cons, List.not_mem_nil, or_false] at hp
  rcases hp with rfl | rfl
  · refine ⟨?_, fun x o hx e => ?_⟩
    · have := World.alloc_heap_new (W.alloc (.deferred (some []))) (.loop r)
      rw [World.size_alloc] at this
      exact this
    · have := h.size x (there_of_obj hx); simp at e; omega
  · refine ⟨?_, fun x o hx e => ?_⟩
    · show ((W.alloc (.deferred (some []))).alloc (.loop r)).heap[W.heap.size]? = _
      rw [alloc_old (by simp), World.alloc_heap_new]
    · have := h.size x (there_of_obj hx); simp at e; omega
theorem loopW_back {W W' : World} {r : Loop} {ρ ρ' : Nat → Nat × Nat} (h2 : HSat (loopW W r) (fun b => Own ρ H b ∨ b = W.heap.size + 1) ρ' H1 W') : HSat W (Own ρ H) ρ' H1 W' := by
  refine ⟨h2.objs, h2.size, h2.inj, fun x o hx ho => ?_, ⟨?_, fun b hb hn => ?_, ?_⟩⟩
  · rcases h2.own x o hx ho with (q | q) | q
    · exact .inl q
    · exact .inr (by omega)
    · rw [loopW_size] at q; exact .inr (by omega)
  · have := h2.fr.size; rw [loopW_size] at this; omega
  · rw [h2.fr.same b (by rw [loopW_size]; omega) (by rintro (q | q); exact hn q; omega), loopW_old hb]
  · exact h2.fr.io
/-- What comes behind a loop. -/
def beyond (k : List KI) : Option Code → List KI
  | none => k
  | some c => .code c :: k
/-- A range over a function. -/
theorem si_over {g tf : Nat} {caps : List SV} {fng : Func} {cg : Code} {ps : Array Tmp} {assign body : Code} (hl : look T tf = some (.func (.func g) [] caps)) (hfn : P.funcs[g]? = some fng) (hb : fng.body = some cg) (hname : (fng.name == "runtime.NumGoroutine") = false)
    (hres : fng.results = #[]) (hcn : Nat.ble (caps.length + 1) fng.ntmps = true)
    (h : ∀ ρ (a : Act) (W1 : World) (l b : Nat) (bs1 : Nat → Prop) (fid : FuncId) (Qi : Exit → Act → World → Prop), TSat ρ (there H) nt T a → b ≠ l → bs1 l →
      (∀ T2 H2 (r2 : Loop), r2.state ≠ .busy → newOwn H H2 = true → (∀ b', w0.heap.size ≤ b' → SI (P := P) none [markD b'] Q w0 bs H0 ρ0 nt ((b', .deferred (some [])) :: K) (beyond k r2.pending) T H2) →
        SI (P := P) none [] Qi W1 bs1 H ρ fng.ntmps [(l, .loop r2), (b, .deferred (some []))] [] T2 H2 ∧ ∀ kk, SI (P := P) none [] Qi W1 bs1 H ρ fng.ntmps [(l, .loop r2), (b, .deferred (some []))] (.code .ret :: kk) T2 H2) →
      SI (P := P) none [] Qi W1 bs1 H ρ fng.ntmps [(l, .loop (recL fid a.tmps ps assign body b)), (b, .deferred (some []))] [.code cg] (argT 0 (.raw (.func (.yield l) #[] #[]) :: caps)) H) :
    SI (P := P) none [] Q w0 bs H0 ρ0 nt K (.code (.rangeFunc (.tmp tf) ps assign body) :: k) T H := by
  refine si_range hl hfn (by rw [hb]; rfl) hname fun ρ a W fid hs => ?_
  have e1 : (#[.func (.yield (W.heap.size + 1)) #[] #[]] ++ (SV.trs ρ caps).toArray : Array Value) = (SV.trs ρ (.raw (.func (.yield (W.heap.size + 1)) #[] #[]) :: caps)).toArray := by
    simp [SV.trs, SV.tr]
  rw [e1]
  refine si_intro (K := [(W.heap.size + 1, .loop (recL fid a.tmps ps assign body W.heap.size)), (W.heap.size, .deferred (some []))]) (w0 := loopW W (recL fid a.tmps ps assign body W.heap.size)) (bs := fun b => Own ρ H b ∨ b = W.heap.size + 1) (H := H) (H0 := H) (ρ0 := ρ) hfn hb (by have := Nat.le_of_ble_eq_true hcn; simp; omega) ?_ (loopW_sat hs.hs) (fun _ hh => ⟨rfl, hh⟩) (loopW_kept hs.hs) ?_
  · simp only [SV.okhs, Bool.and_eq_true]
    have := (hs.ts.val tf _ hl).2
    simp only [SV.okh, Bool.and_eq_true] at this
    exact ⟨rfl, this.2⟩
  · refine h ρ a _ (W.heap.size + 1) W.heap.size _ fid _ hs.ts (by omega) (.inr rfl) fun T2 H2 r2 hr2 hno hbey => ?_
    have key : ∀ ρ' a' W', SatK (loopW W (recL fid a.tmps ps assign body W.heap.size)) (fun b => Own ρ H b ∨ b = W.heap.size + 1) H ρ fng.ntmps [(W.heap.size + 1, .loop r2), (W.heap.size, .deferred (some []))] ρ' T2 H2 a' W' →
        ∃ v, (results fng a'.tmps).run P W' = .ok v W' ∧ ∃ jump W3, (Instr.endLoop (W.heap.size + 1)).run P W' = .ok jump W3 ∧ (match jump with
          | none => WKi none P Q k .normal (lift [markD W.heap.size] a) W3
          | some c => WKi none P Q (.code c :: k) .normal (lift [markD W.heap.size] a) W3) := by
      intro ρ' a' W' hs'
      obtain ⟨k1, _⟩ := hs'.kept (W.heap.size + 1, .loop r2) (List.mem_cons_self ..)
      refine ⟨_, by rw [results_none hres], _, _, run_endLoop k1 hr2, ?_⟩
      have hs3 := hs'.putL (o' := .loop { r2 with state := .exhausted }) (.inr (.inr rfl)) (by intro p hp; simp at hp; subst hp; simp)
      have hb2 := loopW_back hs3.hs
      obtain ⟨k3, k4⟩ := hs3.kept (W.heap.size, .deferred (some [])) (by simp)
      have hk2 := hs.kept.next hb2 hs'.base hno
      have := (hbey W.heap.size hs.hs.fr.size).at (ρ := ρ') (a := a) (W := W'.putObj (W.heap.size + 1) (.loop { r2 with state := .exhausted })) ⟨hs.hs.comp hb2, hs.ts.ext (fun y hy => (hs'.base y hy).1.symm) (fun y hy => (hs'.base y hy).2), fun y hy => ⟨(hs'.base y (hs.base y hy).2).1.trans (hs.base y hy).1, (hs'.base y (hs.base y hy).2).2⟩, fun p hp => ?_⟩
      · cases hpe : r2.pending with
        | none => rw [hpe] at this; exact this
        | some c => rw [hpe] at this; exact this
      · simp only [List.mem_cons] at hp
        rcases hp with rfl | hp
        · exact ⟨k3, k4⟩
        · exact hk2 p hp
    have hret : ∀ (e : Exit), (e = .ret ∨ e = .normal) → ∀ ρ' a' W', SatK (loopW W (recL fid a.tmps ps assign body W.heap.size)) (fun b => Own ρ H b ∨ b = W.heap.size + 1) H ρ fng.ntmps [(W.heap.size + 1, .loop r2), (W.heap.size, .deferred (some []))] ρ' T2 H2 a' W' →
        bodyPostM (Fw none) 0 P fng (fun e W2 => match e with
          | .returned _ => ∃ jump W3, (Instr.endLoop (W.heap.size + 1)).run P W2 = .ok jump W3 ∧ (match jump with
            | none => WKi none P Q k .normal (lift [markD W.heap.size] a) W3
            | some c => WKi none P Q (.code c :: k) .normal (lift [markD W.heap.size] a) W3)
          | _ => False) e (lift [] a') W' := by
      intro e he ρ' a' W' hs'
      have hd0 : a'.defers = [] := hs'.ts.def0
      obtain ⟨v, hv1, hv2⟩ := key ρ' a' W' hs'
      rcases he with rfl | rfl <;>
      · simp only [bodyPostM, lift, hd0, List.append_nil, LeavesInM, LeavesIn]
        exact ⟨v, hv1, hv2⟩
    exact ⟨SI.of fun ρ' a' W' hs' => by simp only [WKi]; exact hret _ (.inr rfl) ρ' a' W' hs', fun kk => si_ret fun ρ' a' W' hs' => hret _ (.inl rfl) ρ' a' W' hs'⟩
end
section
variable {P : Program} {X : Tabs} (hX : TOk P X) {fn : Func} {k : List KI} {T : List (Nat × SV)} {H H0 : List HE} {R : SV → List HE → Prop} {ρ0 : Nat → Nat × Nat} {w0 : World}
/-- What a function gives whose code has a range over a function. -/
theorem si_fn {f : Nat} {c : Code} {args : List SV} (hf : P.funcs[f]? = some fn) (hb : fn.body = some c) (hn : Nat.ble args.length fn.ntmps = true)
    (h : ∀ ρ w, SI (P := P) none [] (bodyPostM (Fw none) 0 P fn (FnPost w ρ H0 R)) w (Own ρ H0) H0 ρ fn.ntmps [] [.code c] (argT 0 args) H0) : Gives P f args H0 R := fun ρ w hS hok =>
  si_intro (K := []) hf hb (Nat.le_of_ble_eq_true hn) hok hS (fun _ hx => ⟨rfl, hx⟩) (fun _ hp => by simp at hp) (h ρ w)
/-- The end, behind a loop. -/
theorem si_mark_ret {nt b : Nat} (hb : w0.heap.size ≤ b) (h : SS hX (At ρ0 w0) R ⟨[], [], fn, nt, H0, [], T, H⟩) : SI (P := P) none [markD b] (bodyPostM (Fw none) 0 P fn (FnPost w0 ρ0 H0 R)) w0 (Own ρ0 H0) H0 ρ0 nt [(b, .deferred (some []))] (.code .ret :: k) T H := si_ret fun ρ a W hs => by
  obtain ⟨k1, _⟩ := hs.kept (b, .deferred (some [])) (by simp)
  have hs2 := hs.putL (o' := .deferred none) (.inl hb) (by simp)
  have hp : bodyPost P fn (FnPost w0 ρ0 H0 R) .normal a (W.putObj b (.deferred none)) := sw_ss hX h ρ a _ ⟨hs2.hs, hs2.ts, hs2.base⟩
  obtain ⟨h1, v, h2, h3⟩ := hp
  simp only [bodyPostM, lift, h1, List.nil_append, LeavesInM, LeavesIn]
  exact ⟨by simp, .inl ⟨b, _, rfl, run_takeDeferred k1, v, h2, h3⟩⟩
end
end Go.Hx

/-
  A statement list with labels, where nothing is gone to; the walker's way through regions in any frame.
-/
namespace Go.Hx
open Go

section
variable {P : Program} {F : Fence} {n : Nat} {b : Frame} {a : Act} {k : List Item} {cs : List Frame} {w : World} {Q : Exit → Act → World → Prop}
end
section
variable {P : Program} {X : Tabs} (hX : TOk P X) {rd : Option Nat} {D : List Deferred} {Q : Exit → Act → World → Prop} {w0 : World} {bs : Nat → Prop} {H0 : List HE} {ρ0 : Nat → Nat × Nat} {fn : Func} {nt : Nat} {K : List (Nat × Obj)} {k : List KI} {T T1 : List (Nat × SV)} {H H1 : List HE}
theorem si_cond {t : Nat} {b : Bool} {x y : Code} (hl : look T t = some (.bool b)) (ht : b = true → (SI (P := P) rd D Q w0 bs H0 ρ0 nt K) (.code x :: k) T H) (hf : b = false → (SI (P := P) rd D Q w0 bs H0 ρ0 nt K) (.code y :: k) T H) : (SI (P := P) rd D Q w0 bs H0 ρ0 nt K) (.code (.cond (.tmp t) x y) :: k) T H := SI.of fun ρ a W hs => by
  have he : (lift D a).eval (.tmp t) = .bool b := look_eval hs.ts hl
  cases b with
  | true =>
    have := (ht rfl).at hs
    simp only [WKi] at *
    exact wpIn_cond_true he this
  | false =>
    have := (hf rfl).at hs
    simp only [WKi] at *
    exact wpIn_cond_false he this
include hX in
/-- The same, told otherwise: under other names, less. -/
theorem si_told (σs : List Nat) (hlen : Nat.beq σs.length H1.length = true) (hnd : nodupN σs = true) (hb : fromN H0.length 0 σs = true) (hb' : leH H0 H1 = true)
    (hT : subT (sig σs 0) T T1) (hH : subH (sig σs 0) H 0 H1) (hok1 : okTP (thereF H1) T1) (hok2 : okHP (thereF H1) H1) (h : (SI (P := P) rd D Q w0 bs H0 ρ0 nt K) k T1 H1) : (SI (P := P) rd D Q w0 bs H0 ρ0 nt K) k T H := si_sub (fun ρ x => ρ (sig σs 0 x)) (fun ρ a W hs => by
  have q := subS_of (E := ⟨P, X.TE, nt, Q, w0, bs, H0, ρ0, hX.te⟩) σs hlen hnd hb hb' hT hH hok1 hok2 ρ a W ⟨hs.hs, hs.ts, hs.base⟩
  refine ⟨q.hs, q.ts, q.base, fun p hp => ?_⟩
  obtain ⟨k1, k2⟩ := hs.kept p hp
  refine ⟨k1, fun x o hx => ?_⟩
  obtain ⟨u, hu, _⟩ := (subH_get hH (h := x)).1 hx
  rw [Nat.zero_add] at hu
  exact k2 _ u hu) h
/-- A region's operations in two parts. -/
theorem si_split {all l : List Oper} (n : Nat) (h : (SI (P := P) rd D Q w0 bs H0 ρ0 nt K) (.ops all (l.take n ++ l.drop n) :: k) T H) : (SI (P := P) rd D Q w0 bs H0 ρ0 nt K) (.ops all l :: k) T H := by rwa [List.take_append_drop] at h
end
section
variable {P : Program} {X : Tabs} (hX : TOk P X) {fn : Func} {cs : List Ch} {nt : Nat} {T : List (Nat × SV)} {H H0 : List HE} {Wb : (Nat → Nat × Nat) → World → Prop}
/-- The end behind a loop: what is told. -/
theorem ss_end0 {V : SV} {L : List HE} {ob : List Prop} {vs : List SV} (σs : List Nat) (hr : resF X.TE fn.results.toList T H = some (ob, vs)) (ho : conjP ob)
    (hlen : Nat.beq σs.length L.length = true) (hnd : nodupN σs = true) (hb : fromN H0.length 0 σs = true) (hb' : leH H0 L = true)
    (hv : sim (tupF vs) (V.ren (sig σs 0))) (hH : subH (sig σs 0) H 0 L) (hok1 : okP (thereF L) V) (hok2 : okHP (thereF L) L) : SS hX Wb (Is V L) ⟨cs, [], fn, nt, H0, [], T, H⟩ := by
  intro ρ0 w0 hw
  have hsub := subS_of (E := FEnv P X.TE hX.te fn nt H0 (Is V L) ρ0 w0) (T := T) (T' := []) (H := H) (H' := L) σs hlen hnd hb hb' trivial hH trivial hok2
  intro ρ a w hsat
  have post : bodyPost P fn (FnPost w0 ρ0 H0 (Is V L)) .ret a w := by
    obtain ⟨h1, h2⟩ := results_ok hsat hr (conjP_all ho)
    have hs := hsub ρ a w hsat
    have hfun : thereF L = there L := funext (thereF_eq L)
    refine ⟨hsat.ts.def0, _, h1, _, L, V, ⟨rfl, rfl⟩, ?_, by rw [← hfun]; exact okP_okh V hok1, hs.hs, hs.base⟩
    rw [(sim_tr (A := fun _ => true) hv).1, tr_ren]
  exact post
end
end Go.Hx

/-
  Regions that draw, where an operation looks at a temporary that a later one writes: what stood there at first is looked at.
-/
namespace Go.Hx
open Go







section
variable {P : Program} {X : Tabs} (hX : TOk P X)
variable {Wb : (Nat → Nat × Nat) → World → Prop} {R : SV → List HE → Prop} {fn : Func} {nt : Nat} {H0 : List HE} {k : List KI} {T : List (Nat × SV)} {H : List HE} {cs : List Ch} {fs : List Fm}
end
end Go.Hx

/-
  Regions that draw, where several cells are made without order against a call that needs no cell.
-/
namespace Go.Hx
open Go

section
variable {E : Env} {al : List Oper} {Tn : List (Nat × SV)} {D : Nat → Bool} {ρ : Nat → Nat × Nat} {H : List HE} {a : Act} {w : World}

end

/-- An operation that reads, or makes, does so in a heap of more things too. -/
theorem stepV_more {TE : Nat → TI} {T : List (Nat × SV)} {H H' : List HE} {op : Op} {e : Eff} (hm : ∀ h o, getH H h = some o → getH H' h = some o) (he : stepV TE T H op = some e) (hs : ∀ ob h o, e ≠ .set ob h o) : stepV TE T H' op = some e := by
  have hl : ∀ i h o x, vLoad i H h o = some x → vLoad i H' h o = some x := by
    intro i h o x hx
    unfold vLoad at *
    cases hg : getH H h with
    | none => rw [hg] at hx; simp at hx
    | some q => rw [hg] at hx; rw [hm h q hg]; exact hx
  have hlr : ∀ i h o x s c y, vLoadR i H h o x s c = some y → vLoadR i H' h o x s c = some y := by
    intro i h o x s c y hx
    unfold vLoadR at *
    cases hg : getH H h with
    | none =>
      rw [hg] at hx
      have hx : vLoad i H h (o + x * s + c) = some y := hx
      unfold vLoad at hx
      rw [hg] at hx; simp at hx
    | some q =>
      rw [hg] at hx; rw [hm h q hg]
      cases q <;> first | exact hx | exact hl _ _ _ _ hx
  cases op
  case load t x =>
    simp only [stepV] at he ⊢
    split at he
    · exact hl _ _ _ _ he
    · exact hlr _ _ _ _ _ _ _ he
    · simp at he
  case store t x y =>
    exfalso
    simp only [stepV] at he
    have hst : ∀ i h o v x, vStore i H h o v = some x → ∃ ob h o, x = .set ob h o := by
      intro i h o v x hx
      unfold vStore at hx
      repeat' (split at hx)
      all_goals (first | (simp at hx; done) | (simp at hx; exact ⟨_, _, _, hx.symm⟩) | (simp only [vStoreL] at hx; repeat' (split at hx)) | (simp only [vStoreI] at hx; repeat' (split at hx)) | skip)
      all_goals (first | (simp at hx; done) | (simp at hx; exact ⟨_, _, _, hx.symm⟩) | skip)
    split at he
    · obtain ⟨ob, h, o, rfl⟩ := hst _ _ _ _ _ he; exact hs _ _ _ rfl
    · obtain ⟨ob, h, o, rfl⟩ := hst _ _ _ _ _ he; exact hs _ _ _ rfl
    · simp at he
  case slice t x lo hi mx => cases mx <;> exact he
  all_goals exact he


section
variable {E : Env} {al : List Oper} {Tn : List (Nat × SV)} {D : Nat → Bool} {ρ : Nat → Nat × Nat} {H : List HE} {a : Act} {w : World}
theorem dstep_fillS (hreg : regOk al = true) {j n : Nat} {o : Oper} (hj : al[j]? = some o) (hg : o.guard = none) {o' : SO} {ob : Option Bool} {l c : Nat}
    (he : stepV E.TE Tn H o.op = some (.news ob o' l c)) (hob : ob.getD true = true) (hn : H[n]? = some .absent) (hd : ∀ d, o.dst = some d → look Tn d = some (.slice n 0 l c) ∧ Nat.blt d E.nt = true) : DStep E al Tn j o H (H.set n (.obj o')) := by
  intro D ρ a w K Q hs hD hDj hK
  obtain ⟨hc1, hc2⟩ := hs.ext_cut hreg hj hD
  have hsc : stepV E.TE (cutT Tn (usesT o.op.operands.toList)) H o.op = stepV E.TE Tn H o.op := stepV_congr look_cut_eq
  rw [← hsc] at he
  unfold wpOp
  simp only [List.getElem?_toArray, hj]
  rw [if_pos (by unfold Region.wanted; rw [hg])]
  left
  obtain ⟨h1, h2, ob, h3, h4⟩ := stepV_ok E.hTE hc1.hs hc1.ts he hob
  unfold Oper.wp
  rw [h3, Oper.upon_value]
  obtain ⟨p1, p2, p3, p4⟩ := hs.hs.fill hn (ob := ob) h2 h4
  have := (hs.ext p1 p2 p3).putD hreg hj (v := .slice n 0 l c) (by
    cases hdd : o.dst with
    | none => trivial
    | some d =>
      obtain ⟨g1, g2⟩ := hd d hdd
      exact ⟨⟨_, g1, rfl, by simpa [SV.okh] using p4⟩, blt_lt g2⟩)
  simp only [SV.tr, upd, if_true, Nat.zero_add] at this
  exact hK _ _ _ this
end



section
variable {P : Program} {X : Tabs} (hX : TOk P X)
variable {Wb : (Nat → Nat × Nat) → World → Prop} {R : SV → List HE → Prop} {fn : Func} {nt : Nat} {H0 : List HE} {k : List KI} {T : List (Nat × SV)} {H : List HE} {cs : List Ch} {fs : List Fm}
end
end Go.Hx

/-
  Regions that draw, where one row is made (a literal) that no call waits for and that waits for no call.
-/
namespace Go.Hx
open Go

/-- The text's order, the cell (ia, handle n) aside; 'off': the cell is not made yet, and what waits for it is passed by. -/
def drawRunW (X : Tabs) (rec : St → List Prop × St) (al : List Oper) (nt ia n : Nat) (vn : SV) (off : Bool) (Tk : List (Nat × SV)) : List Oper → Nat → List Ch → List (Nat × SV) → List HE → List Prop →
    Option (List Ch × List Prop × List (Nat × SV) × List (Nat × List HE) × List (Nat × Nat))
  | [], _, cs, T, _, ob => some (cs, ob, T, [], [])
  | o :: r, i, cs, T, H, ob => match Nat.beq i ia with
    | true => match putD nt o.dst T vn with
      | some T' => drawRunW X rec al nt ia n vn off Tk r (i + 1) cs T' H ob
      | none => none
    | false => match off && reachB al ia i with
      | true => drawRunW X rec al nt ia n vn off Tk r (i + 1) cs (skT o.dst Tk T) H ob
      | false => match stepD X rec al nt cs T H o with
        | none => none
        | some (cs', ob', T', e, ld) => match e with
          | some H' => match drawRunW X rec al nt ia n vn off Tk r (i + 1) cs' T' H' (addLP ob' ob) with
            | some (cs2, ob2, Tn, es, lds) => some (cs2, ob2, Tn, (i, H') :: es, lds)
            | none => none
          | none => match ld with
            | none => drawRunW X rec al nt ia n vn off Tk r (i + 1) cs' T' H (addLP ob' ob)
            | some h => match drawRunW X rec al nt ia n vn off Tk r (i + 1) cs' T' H (addLP ob' ob) with
              | some (cs2, ob2, Tn, es, lds) => some (cs2, ob2, Tn, es, (i, h) :: lds)
              | none => none

structure FactsW (P : Program) (X : Tabs) (nt : Nat) (al : List Oper) (ia n : Nat) (vn : SV) (off : Bool) (Tn : List (Nat × SV)) (l : List Oper) (i : Nat) (T : List (Nat × SV)) (H : List HE) (es : List (Nat × List HE)) (lds : List (Nat × Nat)) : Prop where
  agree : ∀ t, (∀ o ∈ l, o.dst ≠ some t) → look Tn t = look T t
  quiet : ∀ (j : Nat) (o : Oper), l[j]? = some o → i + j ≠ ia → (off && reachB al ia (i + j)) = false → (i + j) ∉ fstE es → ∃ (Tj : List (Nat × SV)) (Hj : List HE) (c : Nat), (H :: es.map (·.2))[c]? = some Hj ∧ (∀ (q e : Nat), (fstE es)[q]? = some e → (q < c ↔ e < i + j)) ∧
    (∀ t, (∀ o' ∈ l.drop j, o'.dst ≠ some t) → look Tn t = look Tj t) ∧ Q1 X nt al Tn Tj Hj o ∧ (guardF al Tj o.guard = 0 → ∀ h, ldOf Tj o.op = some h → (i + j, h) ∈ lds)
  eff : ∀ (q e : Nat) (L : List HE), es[q]? = some (e, L) → (e ≠ ia ∧ (off && reachB al ia e) = false) ∧ ∃ (j : Nat) (o : Oper) (Tj : List (Nat × SV)) (Hq : List HE), e = i + j ∧ l[j]? = some o ∧ (H :: es.map (·.2))[q]? = some Hq ∧
    (∀ t, (∀ o' ∈ l.drop j, o'.dst ≠ some t) → look Tn t = look Tj t) ∧ E1 P X nt al Tn Tj o Hq L
  cell : ∀ (j : Nat) (o : Oper), l[j]? = some o → i + j = ia → ∀ d, o.dst = some d → look Tn d = some vn ∧ Nat.blt d nt = true

section
variable {P : Program} {X : Tabs} {nt : Nat} {al : List Oper} {ia n : Nat} {vn : SV} {off : Bool} {Tn : List (Nat × SV)} {r : List Oper} {o : Oper} {i : Nat} {T T' : List (Nat × SV)} {H H' : List HE} {es : List (Nat × List HE)} {lds : List (Nat × Nat)}

theorem factsW_ge (h : FactsW P X nt al ia n vn off Tn r i T H es lds) : ∀ (q e : Nat), (fstE es)[q]? = some e → i ≤ e := by
  intro q e hq
  rw [fstE_map] at hq
  simp at hq
  obtain ⟨L, hL⟩ := hq
  obtain ⟨_, j, _, _, _, h1, _⟩ := h.eff q e L hL
  omega

theorem factsW_agree (h : FactsW P X nt al ia n vn off Tn r (i + 1) T' H' es lds) (hT : ∀ t, o.dst ≠ some t → look T' t = look T t) : ∀ t, (∀ o' ∈ o :: r, o'.dst ≠ some t) → look Tn t = look T t := by
  intro t ht
  rw [h.agree t (fun o' ho' => ht o' (by simp [ho'])), hT t (ht o (by simp))]

/-- An operation passed by, or the cell, ahead. -/
theorem factsW_skip (h : FactsW P X nt al ia n vn off Tn r (i + 1) T' H es lds) (hT : ∀ t, o.dst ≠ some t → look T' t = look T t) (hs : i = ia ∨ (off && reachB al ia i) = true)
    (hcell : i = ia → ∀ d, o.dst = some d → look Tn d = some vn ∧ Nat.blt d nt = true) : FactsW P X nt al ia n vn off Tn (o :: r) i T H es lds := by
  refine ⟨factsW_agree h hT, ?_, ?_, ?_⟩
  · intro j p hp hne hsk hn
    cases j with
    | zero =>
      rcases hs with h1 | h1
      · exact absurd h1 hne
      · rw [Nat.add_zero] at hsk; rw [h1] at hsk; simp at hsk
    | succ j =>
      have hp' : r[j]? = some p := by simpa using hp
      rw [show i + (j + 1) = i + 1 + j from by omega] at hne hsk hn ⊢
      obtain ⟨Tj, Hj, c, h1, h2, h3, h4, h5⟩ := h.quiet j p hp' hne hsk hn
      exact ⟨Tj, Hj, c, h1, h2, fun t ht => h3 t (by simpa using ht), h4, h5⟩
  · intro q e L he
    obtain ⟨h0, j, p, Tj, Hq, h1, h2, h3, h4, h5⟩ := h.eff q e L he
    exact ⟨h0, j + 1, p, Tj, Hq, by omega, by simpa using h2, h3, fun t ht => h4 t (by simpa using ht), h5⟩
  · intro j p hp hj
    cases j with
    | zero => simp at hp; subst hp; exact hcell (by omega)
    | succ j => exact h.cell j p (by simpa using hp) (by omega)

/-- A quiet operation ahead. -/
theorem factsW_quiet (h : FactsW P X nt al ia n vn off Tn r (i + 1) T' H es lds) (hT : ∀ t, o.dst ≠ some t → look T' t = look T t) (hne : i ≠ ia) (hq : Q1 X nt al Tn T H o)
    {lds' : List (Nat × Nat)} (hl : ∀ p ∈ lds, p ∈ lds') (hld : guardF al T o.guard = 0 → ∀ h, ldOf T o.op = some h → (i, h) ∈ lds') : FactsW P X nt al ia n vn off Tn (o :: r) i T H es lds' := by
  refine ⟨factsW_agree h hT, ?_, ?_, ?_⟩
  · intro j p hp hne hsk hn
    cases j with
    | zero =>
      simp at hp; subst hp
      refine ⟨T, H, 0, by simp, ?_, fun t ht => factsW_agree h hT t (by simpa using ht), hq, hld⟩
      intro q e he
      have := factsW_ge h q e he
      constructor
      · intro h0; omega
      · intro h0; omega
    | succ j =>
      have hp' : r[j]? = some p := by simpa using hp
      rw [show i + (j + 1) = i + 1 + j from by omega] at hne hsk hn ⊢
      obtain ⟨Tj, Hj, c, h1, h2, h3, h4, h5⟩ := h.quiet j p hp' hne hsk hn
      exact ⟨Tj, Hj, c, h1, h2, fun t ht => h3 t (by simpa using ht), h4, fun hg h' hh => hl _ (h5 hg h' hh)⟩
  · intro q e L he
    obtain ⟨h0, j, p, Tj, Hq, h1, h2, h3, h4, h5⟩ := h.eff q e L he
    exact ⟨h0, j + 1, p, Tj, Hq, by omega, by simpa using h2, h3, fun t ht => h4 t (by simpa using ht), h5⟩
  · intro j p hp hj
    cases j with
    | zero => exact absurd (by omega) hne
    | succ j => exact h.cell j p (by simpa using hp) (by omega)

/-- An effect ahead. -/
theorem factsW_eff (h : FactsW P X nt al ia n vn off Tn r (i + 1) T' H' es lds) (hT : ∀ t, o.dst ≠ some t → look T' t = look T t) (hne : i ≠ ia) (hsk : (off && reachB al ia i) = false) (he : E1 P X nt al Tn T o H H') :
    FactsW P X nt al ia n vn off Tn (o :: r) i T H ((i, H') :: es) lds := by
  refine ⟨factsW_agree h hT, ?_, ?_, ?_⟩
  · intro j p hp hne' hsk' hn
    cases j with
    | zero => simp [fstE] at hn
    | succ j =>
      have hp' : r[j]? = some p := by simpa using hp
      rw [show i + (j + 1) = i + 1 + j from by omega] at hne' hsk' hn ⊢
      obtain ⟨Tj, Hj, c, h1, h2, h3, h4, h5⟩ := h.quiet j p hp' hne' hsk' (by
        simp only [fstE, List.mem_cons, not_or] at hn
        exact hn.2)
      refine ⟨Tj, Hj, c + 1, by simpa using h1, ?_, fun t ht => h3 t (by simpa using ht), h4, h5⟩
      intro q e hq
      cases q with
      | zero => simp [fstE] at hq; subst hq; constructor <;> intro _ <;> omega
      | succ q =>
        have := h2 q e (by simpa [fstE] using hq)
        rw [← this]; omega
  · intro q e L hq
    cases q with
    | zero =>
      simp at hq; obtain ⟨rfl, rfl⟩ := hq
      exact ⟨⟨hne, hsk⟩, 0, o, T, H, by omega, by simp, by simp, fun t ht => factsW_agree h hT t (by simpa using ht), he⟩
    | succ q =>
      obtain ⟨h0, j, p, Tj, Hq, h1, h2, h3, h4, h5⟩ := h.eff q e L (by simpa using hq)
      exact ⟨h0, j + 1, p, Tj, Hq, by omega, by simpa using h2, by simpa using h3, fun t ht => h4 t (by simpa using ht), h5⟩
  · intro j p hp hj
    cases j with
    | zero => exact absurd (by omega) hne
    | succ j => exact h.cell j p (by simpa using hp) (by omega)

theorem drawRunW_facts (hX : TOk P X) {rec : St → List Prop × St} (hrec : RecOk hX rec) {Tk : List (Nat × SV)} : ∀ {l : List Oper} {i : Nat} {cs : List Ch} {T : List (Nat × SV)} {H : List HE} {ob : List Prop}
    {cs' : List Ch} {ob' : List Prop} {Tn : List (Nat × SV)} {es : List (Nat × List HE)} {lds : List (Nat × Nat)},
    drawRunW X rec al nt ia n vn off Tk l i cs T H ob = some (cs', ob', Tn, es, lds) → dstsOk l = true → AllP ob' → AllP ob ∧ FactsW P X nt al ia n vn off Tn l i T H es lds := by
  intro l
  induction l with
  | nil =>
    intro i cs T H ob cs' ob' Tn es lds h _ ho
    simp [drawRunW] at h
    obtain ⟨rfl, rfl, rfl, rfl, rfl⟩ := h
    exact ⟨ho, fun _ _ => rfl, fun j o hj => by simp at hj, fun q e L hq => by simp at hq, fun j o hj => by simp at hj⟩
  | cons o r ih =>
    intro i cs T H ob cs' ob' Tn es lds h hdl ho
    obtain ⟨hdr, hd0⟩ := dstsOk_cons hdl
    unfold drawRunW at h
    split at h
    · rename_i hi
      have hi := Nat.eq_of_beq_eq_true hi
      split at h
      · rename_i T1 hT
        obtain ⟨h1, h2⟩ := ih h hdr ho
        obtain ⟨g1, g2⟩ := putD_look hT
        refine ⟨h1, factsW_skip h2 g1 (.inl hi) fun _ d hd => ?_⟩
        obtain ⟨k1, k2⟩ := g2 d hd
        exact ⟨by rw [h2.agree d (hd0 d hd)]; exact k1, k2⟩
      · simp at h
    · rename_i hi
      have hi : i ≠ ia := fun e => by subst e; simp [Nat.beq_refl] at hi
      split at h
      · rename_i hsk
        obtain ⟨h1, h2⟩ := ih h hdr ho
        exact ⟨h1, factsW_skip h2 skT_look (.inr hsk) fun e => absurd e hi⟩
      · rename_i hsk
        split at h
        · simp at h
        · rename_i cs1 ob1 T1 e ld hst
          split at h
          · rename_i H1
            split at h
            · rename_i cs2 ob2 Tn2 es2 lds2 hr
              simp at h; obtain ⟨rfl, rfl, rfl, rfl, rfl⟩ := h
              obtain ⟨h1, h2⟩ := ih hr hdr ho
              obtain ⟨ho1, ho2⟩ := addLP_all h1
              obtain ⟨s1, _, s3⟩ := stepD_ok hX hrec hst ho1
              exact ⟨ho2, factsW_eff h2 s1 hi hsk (e1_congr (s3 _ rfl) fun d hd => h2.agree d (hd0 d hd))⟩
            · simp at h
          · split at h
            · obtain ⟨h1, h2⟩ := ih h hdr ho
              obtain ⟨ho1, ho2⟩ := addLP_all h1
              obtain ⟨s1, s2, _⟩ := stepD_ok hX hrec hst ho1
              obtain ⟨s3, s4⟩ := s2 rfl
              exact ⟨ho2, factsW_quiet h2 s1 hi (q1_congr s3 fun d hd => h2.agree d (hd0 d hd)) (fun p hp => hp) fun hg h' hh => by have := s4 hg h' hh; simp at this⟩
            · rename_i h'
              split at h
              · rename_i cs2 ob2 Tn2 es2 lds2 hr
                simp at h; obtain ⟨rfl, rfl, rfl, rfl, rfl⟩ := h
                obtain ⟨h1, h2⟩ := ih hr hdr ho
                obtain ⟨ho1, ho2⟩ := addLP_all h1
                obtain ⟨s1, s2, _⟩ := stepD_ok hX hrec hst ho1
                obtain ⟨s3, s4⟩ := s2 rfl
                exact ⟨ho2, factsW_quiet h2 s1 hi (q1_congr s3 fun d hd => h2.agree d (hd0 d hd)) (fun p hp => by simp [hp]) fun hg x hh => by have := s4 hg x hh; simp at this; subst this; simp⟩
              · simp at h
end

section
variable {E : Env} {X : Tabs} {al : List Oper} {ia n : Nat} {vn : SV} {off : Bool} {Tn Tr : List (Nat × SV)} {T : List (Nat × SV)} {H : List HE} {es : List (Nat × List HE)} {lds : List (Nat × Nat)}

/-- What is looked at stands ahead. -/
theorem run_quietW (hreg : regOk al = true) (hF : FactsW E.P X E.nt al ia n vn off Tr al 0 T H es lds) (hld : ∀ j h, (j, h) ∈ lds → ∃ acc, AllP (ldChk al j h H es acc)) (hTn : ∀ t, look Tn t = look Tr t)
    {c : Nat} {Hc : List HE} {j : Nat} {o : Oper} (hj : al[j]? = some o) (hne : j ≠ ia) (hsk : (off && reachB al ia j) = false) (hmem : j ∉ fstE es) (hc : (H :: es.map (·.2))[c]? = some Hc)
    (hsp : ∀ q e, (fstE es)[q]? = some e → (q < c → reachB al j e = false) ∧ (c ≤ q → reachB al e j = false)) : qE X E.nt al Tn Hc o := by
  obtain ⟨Tj, Hj, c0, h1, h2, h3, h4, h5⟩ := hF.quiet j o hj (by simpa using hne) (by simpa using hsk) (by simpa using hmem)
  rw [Nat.zero_add] at h5
  have hg : guardF al Tn o.guard = guardF al Tj o.guard := guardF_congr fun t ht => by rw [hTn]; exact h3 t (use_back hreg hj t (.inr ht))
  rcases h4 with ⟨g1, g2⟩ | ⟨g1, b, v, g2, g3, g4⟩
  · exact .inl ⟨by rw [hg]; exact g1, fun d hd => by rw [hTn]; exact g2 d hd⟩
  · refine .inr ⟨by rw [hg]; exact g1, b, v, ?_, g3, fun d hd => by rw [hTn]; exact g4 d hd⟩
    have hcg : ∀ H, stepE X Tn H o.op = stepE X Tj H o.op := fun H => stepE_congr fun t ht => by rw [hTn]; exact h3 t (use_back hreg hj t (.inl ht))
    rw [hcg]
    refine stepE_heap g2 fun x hx => ?_
    obtain ⟨acc, hacc⟩ := hld j x (h5 g1 x hx)
    have hch := (ldChk_all hacc).2
    have hlen : (fstE es).length = es.length := by rw [fstE_map]; simp
    have get : ∀ q, q ≤ es.length → ∃ Hq, (H :: es.map (·.2))[q]? = some Hq := by
      intro q hq
      have : q < (H :: es.map (·.2)).length := by simp; omega
      exact ⟨_, List.getElem?_eq_getElem this⟩
    have lt_of : ∀ {q : Nat} {Hq : List HE}, (H :: es.map (·.2))[q]? = some Hq → q ≤ es.length := by
      intro q Hq hq
      rcases Nat.lt_or_ge q (H :: es.map (·.2)).length with h1 | h1
      · simp at h1; omega
      · rw [List.getElem?_eq_none h1] at hq; simp at hq
    have step : ∀ q, q < es.length → (q < c → q < c0 → False) → (c0 ≤ q → c ≤ q → False) → ∀ Hq L, (H :: es.map (·.2))[q]? = some Hq → (H :: es.map (·.2))[q + 1]? = some L → getH Hq x = getH L x := by
      intro q hq n1 n2 Hq L hHq hL
      have hqe : q < (fstE es).length := by omega
      have he := List.getElem?_eq_getElem hqe
      have hiff := h2 q _ he
      rw [Nat.zero_add] at hiff
      have hne : (fstE es)[q] ≠ j := by
        intro e
        exact hmem (by rw [← e]; exact List.getElem_mem hqe)
      obtain ⟨m1, m2⟩ := hsp q _ he
      refine hch q _ Hq L he hHq hL ?_ ?_
      · by_cases hqc : c ≤ q
        · exact m2 hqc
        · have h0 : ¬ q < c0 := fun h => n1 (by omega) h
          cases hb : reachB al (fstE es)[q] j with
          | false => rfl
          | true =>
            have := reachB_le hreg hb
            exact absurd (hiff.2 (by omega)) h0
      · by_cases hqc : q < c
        · exact m1 hqc
        · have h0 : q < c0 := by
            rcases Nat.lt_or_ge q c0 with h | h
            · exact h
            · exact (n2 h (by omega)).elim
          cases hb : reachB al j (fstE es)[q] with
          | false => rfl
          | true =>
            have := reachB_le hreg hb
            have := hiff.1 h0
            omega
    have chain : ∀ n a, (a + n ≤ es.length) → (∀ q, a ≤ q → q < a + n → (q < c → q < c0 → False) ∧ (c0 ≤ q → c ≤ q → False)) → ∀ Ha Hb, (H :: es.map (·.2))[a]? = some Ha → (H :: es.map (·.2))[a + n]? = some Hb → getH Ha x = getH Hb x := by
      intro n
      induction n with
      | zero => intro a _ _ Ha Hb ha hb; rw [Nat.add_zero, ha] at hb; simp at hb; rw [hb]
      | succ n ih =>
        intro a hle hq Ha Hb ha hb
        obtain ⟨Hm, hm⟩ := get (a + n) (by omega)
        rw [ih a (by omega) (fun q h1 h2 => hq q h1 (by omega)) Ha Hm ha hm]
        obtain ⟨n1, n2⟩ := hq (a + n) (by omega) (by omega)
        exact step (a + n) (by omega) n1 n2 Hm Hb hm hb
    have hl1 := lt_of h1
    have hl2 := lt_of hc
    rcases Nat.le_total c c0 with hle | hle
    · exact (chain (c0 - c) c (by omega) (fun q a1 a2 => ⟨fun b1 _ => by omega, fun b1 _ => by omega⟩) Hc Hj hc (by rw [show c + (c0 - c) = c0 from by omega]; exact h1)).symm
    · exact chain (c - c0) c0 (by omega) (fun q a1 a2 => ⟨fun _ b1 => by omega, fun _ b1 => by omega⟩) Hj Hc h1 (by rw [show c0 + (c - c0) = c from by omega]; exact hc)

theorem run_effW (hTE : E.TE = X.TE) (hET : ∀ t ks, X.ET t = some ks → EqOk E.P t ks) (hreg : regOk al = true) (hF : FactsW E.P X E.nt al ia n vn off Tr al 0 T H es lds) (hTn : ∀ t, look Tn t = look Tr t)
    {c : Nat} {Hc Hc' : List HE} {j : Nat} {o : Oper} (hj : (fstE es)[c]? = some j) (ho' : al[j]? = some o) (hc : (H :: es.map (·.2))[c]? = some Hc) (hc' : (H :: es.map (·.2))[c + 1]? = some Hc') : DStep E al Tn j o Hc Hc' := by
  have hje : ∃ L, es[c]? = some (j, L) := by
    rw [fstE_map] at hj
    simp at hj
    exact hj
  obtain ⟨L, hL⟩ := hje
  obtain ⟨_, j', o2, Tj, Hq, e1, e2, e3, e4, e5, e6⟩ := hF.eff c j L hL
  rw [Nat.zero_add] at e1; subst e1
  rw [ho'] at e2; simp at e2; subst e2
  rw [hc] at e3; simp at e3; subst e3
  have hLc : Hc' = L := by
    have : (H :: es.map (·.2))[c + 1]? = some L := by simp [hL]
    rw [hc'] at this; simpa using this
  subst hLc
  have hg : guardF al Tn o.guard = guardF al Tj o.guard := guardF_congr fun t ht => by rw [hTn]; exact e4 t (use_back hreg ho' t (.inr ht))
  rcases e6 with ⟨e, b, T2, s1, s2, s3, s4⟩ | ⟨cc, f, as, V, s1, s2, ⟨fn', s3, s4, s5⟩, s6, s7⟩
  · have hcg : stepE X Tn Hc o.op = stepE X Tj Hc o.op := stepE_congr fun t ht => by rw [hTn]; exact e4 t (use_back hreg ho' t (.inl ht))
    exact dstep_effE (X := X) hTE hET hreg ho' (by rw [hg]; exact e5) (by rw [hcg]; exact s1) s2 s3 (fun d hd => by rw [hTn]; exact s4 d hd)
  · have hcc : calleeF Tn cc = calleeF Tj cc := callee_congr fun t ht => by rw [hTn]; exact e4 t (use_back hreg ho' t (.inl (by rw [s1]; exact ht)))
    exact dstep_call hreg ho' (by rw [hg]; exact e5) s1 (by rw [hcc]; exact s2) s3 s4 s5 s6 (fun d hd => by rw [hTn]; exact s7 d hd)
end

/-- A region that draws where operation ia makes a row (a literal) that has no order against the calls. -/
def drawW (X : Tabs) (rec : St → List Prop × St) (ia : Nat) (o' : SO) (l c : Nat) (b0 : Option Bool) : DrawF := fun cs al nt T H =>
  match al[ia]? with
  | none => none
  | some oa => match oa.guard with
    | none => match lenO H nums with
      | some n => match forceHs (H ++ [.obj o']), forceHs (H ++ [.absent]) with
        | some Ho, some Hf => match drawRunW X rec al nt ia n (.slice n 0 l c) false [] al 0 cs T Ho [] with
          | none => none
          | some (cs', ob, Tn, es, lds) => match drawRunW X rec al nt ia n (.slice n 0 l c) true Tn al 0 cs T Hf [] with
            | none => none
            | some (_, ob2, Tf, ef, lf) => match (regOk al && effsOk al (fstE es)) && (prefN (fstE ef) (fstE es) && sufR al ia (fstE ef) (fstE es)) && (absN Hf n && ef.all fun p => absN p.2 n) with
              | false => none
              | true => match forceP ((stepV X.TE Tn [] oa.op = some (.news b0 o' l c)) :: (b0.getD true = true) :: dstEq Tf Tn al (filChk n (.obj o') Hf ef Ho es (ldAll al Ho es lds (ldAll al Hf ef lf (addLP ob2 ob))))), forceHs (lastE Ho es) with
                | some ob', some H' => some (cs', ob', Tn, H')
                | _, _ => none
        | _, _ => none
      | none => none
    | some _ => none

section
variable {P : Program} {X : Tabs} (hX : TOk P X)

theorem drawW_any {rec : St → List Prop × St} (hrec : RecOk hX rec) (ia : Nat) (o' : SO) (l c : Nat) (b0 : Option Bool) : DrawAny hX (drawW X rec ia o' l c b0) := by
  intro fn nt H0 R ρ0 w0 cs cs' al T T' H H' ob k h ho hk
  unfold drawW at h
  split at h
  · simp at h
  rename_i oa hia
  split at h
  case h_2 => simp at h
  rename_i hguard
  split at h
  case h_2 => simp at h
  rename_i n hlen
  split at h
  case h_2 => simp at h
  rename_i Ho Hf hHo hHf
  have hHo := forceHs_eq hHo
  have hHf := forceHs_eq hHf
  subst hHo
  subst hHf
  split at h
  · simp at h
  rename_i cs1 ob1 Tn es lds hrun
  split at h
  · simp at h
  rename_i cs2 ob2 Tf ef lf hrun2
  split at h
  · simp at h
  rename_i hchk
  split at h
  case h_2 => simp at h
  rename_i obF HF hfp hfh
  have hfp := forceP_eq hfp
  have hfh := forceHs_eq hfh
  subst hfp
  subst hfh
  simp at h; obtain ⟨rfl, rfl, rfl, rfl⟩ := h
  have hn : n = H.length := lenO_eq hlen
  simp only [Bool.and_eq_true, List.all_eq_true] at hchk
  obtain ⟨⟨⟨hreg, heff⟩, hpre, hsuf⟩, habs0, habs⟩ := hchk
  have hnew := ho _ (List.mem_cons_self ..)
  have hb0 := ho _ (List.mem_cons_of_mem _ (List.mem_cons_self ..))
  obtain ⟨ho1, hdst⟩ := dstEq_all (fun p hp => ho p (List.mem_cons_of_mem _ (List.mem_cons_of_mem _ hp)))
  obtain ⟨ho2, hfil⟩ := filChk_all ho1
  obtain ⟨ho3, hldo⟩ := ldAll_all ho2
  obtain ⟨ho4, hldf⟩ := ldAll_all ho3
  obtain ⟨hof, hoo⟩ := addLP_all ho4
  have hd1 : dstsOk al = true := by have := hreg; simp only [regOk, Bool.and_eq_true] at this; exact this.1
  obtain ⟨_, hF⟩ := drawRunW_facts (P := P) hX hrec hrun hd1 hoo
  obtain ⟨_, hG⟩ := drawRunW_facts (P := P) hX hrec hrun2 hd1 hof
  have hTT : ∀ t, look Tn t = look Tf t := by
    intro t
    by_cases he : ∃ o ∈ al, o.dst = some t
    · obtain ⟨o, ho, hd⟩ := he
      exact hdst o ho t hd
    · have hno : ∀ o ∈ al, o.dst ≠ some t := fun o ho hd => he ⟨o, ho, hd⟩
      rw [hF.agree t hno, hG.agree t hno]
  have hlf : (fstE ef).length = ef.length := by rw [fstE_map]; simp
  have hle : (fstE es).length = es.length := by rw [fstE_map]; simp
  have hna : ia ∉ fstE es := by
    intro hm
    rw [fstE_map, List.mem_map] at hm
    obtain ⟨p, hp1, hp2⟩ := hm
    obtain ⟨q, hq⟩ := List.getElem?_of_mem hp1
    exact (hF.eff q p.1 p.2 (by rw [hq])).1.1 hp2
  let hp : Nat → Bool → List HE := fun c b => if b then (((H ++ [HE.obj o']) :: es.map (·.2))[c]?).getD [] else (((H ++ [HE.absent]) :: ef.map (·.2))[c]?).getD []
  have hpo : ∀ c, c ≤ es.length → (((H ++ [HE.obj o']) :: es.map (·.2))[c]?) = some (hp c true) := by
    intro c hc
    have : c < ((H ++ [HE.obj o']) :: es.map (·.2)).length := by simp; omega
    simp only [hp, if_true]
    rw [List.getElem?_eq_getElem this]; rfl
  have hpf : ∀ c, c ≤ ef.length → (((H ++ [HE.absent]) :: ef.map (·.2))[c]?) = some (hp c false) := by
    intro c hc
    have : c < ((H ++ [HE.absent]) :: ef.map (·.2)).length := by simp; omega
    simp only [hp, Bool.false_eq_true, if_false]
    rw [List.getElem?_eq_getElem this]; rfl
  have hcl : ∀ c, c ≤ (fstE es).length → StOk al ia (fstE es) c false → c ≤ ef.length := by
    intro c hc hok
    rcases Nat.lt_or_ge ef.length c with h1 | h1
    · exfalso
      have hlt : ef.length < (fstE es).length := by omega
      have he := List.getElem?_eq_getElem hlt
      have := hsuf
      have h2 := sufR_get hsuf ef.length _ (by omega) he
      have h3 := hok rfl ef.length _ h1 he
      rw [h3] at h2; simp at h2
    · exact h1
  intro ρ a w hs
  have hroom := hs.hs.room
  have hs' : Sat (FEnv P X.TE hX.te fn nt H0 R ρ0 w0) ρ T (H ++ [.absent]) a w := by
    have hfun : there (H ++ [.absent]) = there H := funext hroom.2
    exact ⟨hroom.1, by rw [hfun]; exact hs.ts, fun x hx => by obtain ⟨q1, q2⟩ := hs.base x hx; exact ⟨q1, by rw [hfun]; exact q2⟩⟩
  refine draw_any2 (E := FEnv P X.TE hX.te fn nt H0 R ρ0 w0) (hp := hp) (effs := fstE es) (ia := ia) (oa := oa) (Tn := Tn) hreg heff hia hna (by simp [hp]) ?_ ?_ ?_ ?_ ?_ ρ a w hs'
  · intro t v hv hd
    rw [← hF.agree t (fun o ho => ?_)]
    · exact hv
    · obtain ⟨i, hi⟩ := List.getElem?_of_mem ho
      exact hd i o hi
  · intro c b j o hc hj hmem hne hm hok hoff
    refine dstep_qE (X := X) rfl hX.et hreg hj ?_
    have hsp := meets_spec hm
    cases b with
    | true => exact run_quietW (E := FEnv P X.TE hX.te fn nt H0 R ρ0 w0) hreg hF hldo (fun _ => rfl) hj hne (by simp) hmem (hpo c (by omega)) hsp
    | false =>
      have hcf := hcl c hc hok
      refine run_quietW (E := FEnv P X.TE hX.te fn nt H0 R ρ0 w0) hreg hG hldf hTT hj hne (by simpa using hoff rfl) (fun hm' => hmem ?_) (hpf c hcf) (fun q e hq => hsp q e (prefN_get hpre q e hq))
      obtain ⟨q, hq⟩ := List.getElem?_of_mem hm'
      exact List.mem_of_getElem? (prefN_get hpre q j hq)
  · intro c b j o hj ho' hok hoff
    have hce : c < es.length := by
      rcases Nat.lt_or_ge c (fstE es).length with h1 | h1
      · omega
      · rw [List.getElem?_eq_none h1] at hj; simp at hj
    cases b with
    | true => exact run_effW (E := FEnv P X.TE hX.te fn nt H0 R ρ0 w0) rfl hX.et hreg hF (fun _ => rfl) hj ho' (hpo c (by omega)) (hpo (c + 1) (by omega))
    | false =>
      have hcf : c < ef.length := by
        rcases Nat.lt_or_ge c ef.length with h1 | h1
        · exact h1
        · have := sufR_get hsuf c j (by omega) hj
          rw [hoff rfl] at this; simp at this
      have hjf : (fstE ef)[c]? = some j := by
        have hlt : c < (fstE ef).length := by omega
        have he := List.getElem?_eq_getElem hlt
        have := prefN_get hpre c _ he
        rw [hj] at this; simp at this
        rw [he, ← this]
      exact run_effW (E := FEnv P X.TE hX.te fn nt H0 R ρ0 w0) rfl hX.et hreg hG hTT hjf ho' (hpf c (by omega)) (hpf (c + 1) (by omega))
  · intro c hc hm hok
    have hcf := hcl c hc hok
    have hset : hp c true = (hp c false).set n (.obj o') := by
      have h1 := hfil c _ (hpf c hcf)
      have h2 := hpo c (by omega)
      rw [h1] at h2
      simp at h2; exact h2.symm
    rw [hset]
    refine dstep_fillS (E := FEnv P X.TE hX.te fn nt H0 R ρ0 w0) hreg hia hguard (stepV_more (H := []) (fun h o hh => by simp [getH] at hh) hnew (fun _ _ _ => by simp)) hb0 ?_ ?_
    · cases c with
      | zero => simp only [hp]; simpa using absN_get habs0
      | succ c =>
        have hlt : c < ef.length := by omega
        have h1 := hpf (c + 1) hcf
        simp only [List.getElem?_cons_succ, List.getElem?_map] at h1
        rw [List.getElem?_eq_getElem hlt] at h1
        simp at h1
        rw [← h1]
        exact absN_get (habs _ (List.getElem_mem hlt))
    · exact fun d hd => hF.cell ia oa hia (by omega) d hd
  · have : hp (fstE es).length true = lastE (H ++ [.obj o']) es := by
      have h1 := hpo (fstE es).length (by omega)
      rw [lastE_get] at h1
      simpa using h1.symm
    rw [this]; exact hk

variable {Wb : (Nat → Nat × Nat) → World → Prop} {R : SV → List HE → Prop} {fn : Func} {nt : Nat} {H0 : List HE} {k : List KI} {T : List (Nat × SV)} {H : List HE} {cs : List Ch} {fs : List Fm}

/-- A region that draws, where operation ia makes a cell that has no order against the calls. -/
theorem ss_drawW (ia : Nat) (o' : SO) (l c : Nat) (b0 : Option Bool) (cs : List Ch) (m : Nat) {cs0 cs' : List Ch} {ob : List Prop} {T' : List (Nat × SV)} {H' : List HE} {id : Nat} {ops : Array Oper}
    (h : drawW X (fun s => runX X [] m s []) ia o' l c b0 cs ops.toList nt T H = some (cs', ob, T', H')) (ho : conjP ob) (hs : SS hX Wb R ⟨cs', fs, fn, nt, H0, k, T', H'⟩) :
    SS hX Wb R ⟨cs0, fs, fn, nt, H0, .code (.region id ops true) :: k, T, H⟩ := by
  intro ρ0 w0 hw ρ a w hsat
  have hrec : RecOk hX (fun s => runX X [] m s []) := fun Wb R0 s h1 h2 => (runX_ok hX m [] Wb R0 s [] h1 h2).1
  simp only [WK]
  have := drawW_any hX hrec ia o' l c b0 fn nt H0 (Rof hX Wb R fs) ρ0 w0 cs cs' ops.toList T T' H H' ob k h (conjP_all ho) (hs ρ0 w0 hw) ρ a w hsat
  have h2 := wp_region_any (id := id) hX.mo this
  rw [Array.toArray_toList] at h2
  exact h2
end
end Go.Hx

