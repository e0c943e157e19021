/- The heap machine, part 3: values over handles, and how a program of this language goes over them; for every program. -/
import Derived.Test.YtkkddjchkkaagaaGreatDoorHyb
/-
  Which bool is it that a walk waits for? (A guess alone: nothing hangs on its being right.)
-/
namespace Go.Hx
open Go

inductive PrR where
  | done (s : St) (kept : List (Nat × Nat))
  | need (i : Nat) (b : Bool)
inductive PrD where
  | ok (cs : List Ch) (T : List (Nat × SV)) (H : List HE) (kept : List (Nat × Nat))
  | need (i : Nat) (b : Bool)
  | dead
inductive PrV where
  | ok (cs : List Ch) (v : SV) (H : List HE) (kept : List (Nat × Nat))
  | need (i : Nat) (b : Bool)
  | dead

/-- How many of the kept ones are older than the newest (p, d). -/
def keptAt (p d : Nat) : List (Nat × Nat) → Option Nat
  | [] => none
  | (q, e) :: r => match Nat.beq p q && Nat.beq d e with
    | true => some r.length
    | false => keptAt p d r
def keep1 (cs : List Ch) (v : SV) (p : Nat) (d : Option Nat) (kept : List (Nat × Nat)) : List (Nat × Nat) :=
  match cs, v, d with
  | [], .bool _, some d => (p, d) :: kept
  | [], .bool _, none => (p, 0) :: kept
  | _, _, _ => kept

def evalP (X : Tabs) (rec : Nat → St → List (Nat × Nat) → PrR) (p : Nat) (cs : List Ch) (f : Nat) (as : List SV) (H : List HE) (kept : List (Nat × Nat)) : PrV :=
  match X.FT f with
  | some fn => match (match X.CT f with | some sp => sp as H | none => none) with
    | some (_, V, L) => match forceHs L with
      | some L' => .ok cs V L' kept
      | none => .dead
    | none => match fn.body, Nat.ble as.length fn.ntmps, argTF nums as with
      | some c, true, some Ta => match rec (p + 1) ⟨cs, [], fn, fn.ntmps, H, [.code c], Ta, H⟩ kept with
        | .need i b => .need i b
        | .done ⟨cs', fs, fn', _, _, k, T, L⟩ kept' => match fs, isRet fn' k, resF X.TE fn'.results.toList T L with
          | [], true, some (_, vs) => .ok cs' (tupF vs) L kept'
          | _, _, _ => .dead
      | _, _, _ => .dead
  | none => .dead

def drawP (X : Tabs) (rec : Nat → St → List (Nat × Nat) → PrR) (p : Nat) (al : List Oper) (nt : Nat) : List Oper → List Ch → List (Nat × SV) → List HE → List (Nat × Nat) → PrD
  | [], cs, T, H, kept => .ok cs T H kept
  | o :: r, cs, T, H, kept => match guardF al T o.guard with
    | 1 => match putD nt o.dst T (.tup []) with
      | some T' => drawP X rec p al nt r cs T' H kept
      | none => .dead
    | 0 => match stepE X T H o.op with
      | some (.val _ v) => match ovr cs v with
        | some (cs', _, v') => match putD nt o.dst T v' with
          | some T' => drawP X rec p al nt r cs' T' H (keep1 cs v p o.dst kept)
          | none => .dead
        | none => .dead
      | some e => match afterF nt o.dst T H e with
        | some (_, T', H') => drawP X rec p al nt r cs T' H' kept
        | none => .dead
      | none => match o.op with
        | .call c => match (match calleeF T c with | some (f, as0) => (match forceL as0 with | some as => some (f, as) | none => none) | none => none) with
          | some (f, as) => match evalP X rec p cs f as H kept with
            | .need i b => .need i b
            | .dead => .dead
            | .ok cs1 V L kept1 => match ovr cs1 V with
              | some (cs', _, V') => match putD nt o.dst T V' with
                | some T' => drawP X rec p al nt r cs' T' L (keep1 cs1 V p o.dst kept1)
                | none => .dead
              | none => .dead
          | none => .dead
        | _ => .dead
    | _ => match guardU al T o.guard with
      | some (d, b) => match keptAt p d kept with
        | some i => .need i b
        | none => .dead
      | none => .dead

def stepP (X : Tabs) (rec : Nat → St → List (Nat × Nat) → PrR) (p : Nat) (s : St) (kept : List (Nat × Nat)) : PrR ⊕ (St × List (Nat × Nat)) :=
  match s with
  | ⟨cs, fs, fn, nt, H0, k, T, H⟩ =>
    match k with
    | .code (.region _ ops true) :: k' => match regOk ops.toList with
      | true => match drawP X rec p ops.toList nt ops.toList cs T H kept with
        | .need i b => .inl (.need i b)
        | .dead => .inl (.done ⟨cs, fs, fn, nt, H0, k, T, H⟩ kept)
        | .ok cs' T' H' kept' => .inr (⟨cs', fs, fn, nt, H0, k', T', H'⟩, kept')
      | false => match splitL ops.toList with
        | none => .inl (.done ⟨cs, fs, fn, nt, H0, k, T, H⟩ kept)
        | some (ini, last) => match drawP X rec p ini nt ini cs T H kept with
          | .need i b => .inl (.need i b)
          | .dead => .inl (.done ⟨cs, fs, fn, nt, H0, k, T, H⟩ kept)
          | .ok cs' T' H' kept' => match stepE X T' H' last.op with
            | none => .inl (.done ⟨cs, fs, fn, nt, H0, k, T, H⟩ kept)
            | some e => match afterF nt last.dst T' H' e with
              | none => .inl (.done ⟨cs, fs, fn, nt, H0, k, T, H⟩ kept)
              | some (_, T2, H2) => .inr (⟨cs', fs, fn, nt, H0, k', T2, H2⟩, kept')
    | _ => match step1 X (fun _ _ _ _ _ => none) ⟨cs, fs, fn, nt, H0, k, T, H⟩ with
      | some (_, s') => .inr (s', kept)
      | none => match cs, k with
        | [], .code (.cond (.tmp t) _ _) :: _ => match look T t with
          | some (.bool b) => .inl (.need kept.length b)
          | _ => .inl (.done ⟨cs, fs, fn, nt, H0, k, T, H⟩ kept)
        | [], .ops all (o :: _) :: _ => match guardU all T o.guard with
          | some (_, b) => .inl (.need kept.length b)
          | none => .inl (.done ⟨cs, fs, fn, nt, H0, k, T, H⟩ kept)
        | _, _ => .inl (.done ⟨cs, fs, fn, nt, H0, k, T, H⟩ kept)

def runP (X : Tabs) (bk : List Bk) : Nat → Nat → St → List (Nat × Nat) → PrR
  | 0, _, s, kept => .done s kept
  | n + 1, p, s, kept => match stopped bk s with
    | true => .done s kept
    | false => match stepP X (fun p s kept => runP X [] n p s kept) p s kept with
      | .inl r => r
      | .inr (s', kept') => runP X bk n p s' kept'
/-- The bool that is waited for, and how many are kept ahead of it. -/
def probe (X : Tabs) (bk : List Bk) (n : Nat) (s : St) : Option (Nat × Bool) :=
  match stepP X (fun p s kept => runP X [] n p s kept) 0 s [] with
  | .inl (.need i b) => some (i, b)
  | .inl _ => none
  | .inr (s', kept) => match runP X bk n 0 s' kept with
    | .need i b => some (i, b)
    | .done _ _ => none

section
variable {P : Program} {X : Tabs} (hX : TOk P X)
variable {Wb : (Nat → Nat × Nat) → World → Prop} {R : SV → List HE → Prop} {fn : Func} {nt : Nat} {H0 : List HE} {k : List KI} {T : List (Nat × SV)} {H : List HE} {fs : List Fm}
/-- Both ways at the bool that is waited for. -/
theorem ss_pb (bk : List Bk) (cs : List Ch) (n : Nat) {cs0 : List Ch} {i : Nat} {b : Bool} (_ : probe X bk n ⟨cs, fs, fn, nt, H0, k, T, H⟩ = some (i, b))
    (ht : b = true → SS hX Wb R ⟨cs0, fs, fn, nt, H0, k, T, H⟩) (hf : b = false → SS hX Wb R ⟨cs0, fs, fn, nt, H0, k, T, H⟩) : SS hX Wb R ⟨cs0, fs, fn, nt, H0, k, T, H⟩ := by
  cases b
  · exact hf rfl
  · exact ht rfl
end
end Go.Hx

/-
  Names found out of a heap; things that are there or not, more.
-/
namespace Go.Hx
open Go



end Go.Hx

/-
  A piece of code, gone through in a small heap: what else there is stays as it is.
-/
namespace Go.Hx
open Go














/-- What never is. -/
def Not2 : SV → List HE → Prop := fun _ _ => False

section
variable {P : Program} {X : Tabs} (hX : TOk P X)
variable {R : SV → List HE → Prop} {fn : Func} {nt : Nat} {H0 : List HE} {k : List KI} {T : List (Nat × SV)} {H : List HE} {cs : List Ch} {I : Act → World → Prop}

theorem not2_Q {ρ : Nat → Nat × Nat} {w : World} {H : List HE} (e : Exit) (a : Act) (w' : World) (h : (FEnv P X.TE hX.te fn nt H Not2 ρ w).Q e a w') : False := by
  simp only [FEnv] at h
  cases e with
  | normal => obtain ⟨_, v, _, ρ', H', v', h1, _⟩ := h; exact h1
  | ret => obtain ⟨_, v, _, ρ', H', v', h1, _⟩ := h; exact h1
  | panic c => exact h.2
  | outgrown => exact h
  | _ => exact h

end
end Go.Hx

/-
  Other names, of which some are of one thing; a value that is forgotten.
-/
namespace Go.Hx
open Go






section
variable {P : Program} {X : Tabs} (hX : TOk P X)
variable {R : SV → List HE → Prop} {fn : Func} {nt : Nat} {H0 : List HE} {k : List KI} {T : List (Nat × SV)} {H : List HE} {cs : List Ch}

end
end Go.Hx

/-
  A call in a world where a variable's cell is known.
-/
namespace Go.Hx
open Go Go.RowKit Go.ChangeShapes Go.WideShapes

/-- The cell of a variable. -/
abbrev pinE (v : Value) : HE := .obj (.pin 0 v)
theorem pin_lt {w : World} {v : Value} (hp : w.cell? ⟨0, 0, none⟩ = some v) : 0 < w.heap.size := by
  rcases Nat.eq_zero_or_pos w.heap.size with h0 | h
  · simp [World.cell?, h0] at hp
  · exact h
theorem hsat_pin {w : World} {v : Value} (hp : w.cell? ⟨0, 0, none⟩ = some v) : HSat w (Own (fun _ => (0, 0)) [pinE v]) (fun _ => (0, 0)) [pinE v] w := by
  refine ⟨?_, fun _ _ => pin_lt hp, ?_, ?_, Fr.refl _ _⟩
  · intro h u hu
    cases h with
    | zero => simp at hu; subst hu; exact ⟨⟨rfl, hp⟩, rfl⟩
    | succ h => simp at hu
  · intro h h' o o' hh hh' _
    have := there_lt (there_of_obj hh)
    have := there_lt (there_of_obj hh')
    simp at *
    omega
  · intro h u hu ho
    cases h with
    | zero => simp at hu; subst hu; simp [SO.owned] at ho
    | succ h => simp at hu

/-- Something that is not owned, and the cell. -/
theorem hsat_two {w : World} {v : Value} {o : SO} {p : Nat × Nat} (hp : w.cell? ⟨0, 0, none⟩ = some v) (ho : o.owned = false) (hk : o.okh (fun _ => false) = true)
    (hs : HSat w (Own (fun _ => p) [.obj o]) (fun _ => p) [.obj o] w) (hne : p.1 ≠ 0) :
    HSat w (Own (fun h => if h = 0 then p else (0, 0)) [.obj o, pinE v]) (fun h => if h = 0 then p else (0, 0)) [.obj o, pinE v] w := by
  have h0 := (hs.objs 0 o rfl).1
  have h0s : p.1 < w.heap.size := hs.size 0 rfl
  refine ⟨?_, fun h _ => ?_, ?_, ?_, Fr.refl _ _⟩
  · intro h u hu
    rcases h with _ | _ | h
    · simp at hu; subst hu
      refine ⟨?_, SO.okh_mono (A := fun _ => false) (fun x hx => by simp at hx) o hk⟩
      exact SO.holds_congr (A := fun _ => false) (fun x hx => by simp at hx) o hk h0
    · simp at hu; subst hu; exact ⟨⟨rfl, hp⟩, rfl⟩
    · simp at hu
  · show (if h = 0 then p else (0, 0)).1 < _; split
    · exact h0s
    · exact pin_lt hp
  · intro h h' o o' hh hh' e
    rcases h with _ | _ | h <;> rcases h' with _ | _ | h' <;> simp at * <;> omega
  · intro h u hu hoo
    rcases h with _ | _ | h
    · simp at hu; subst hu; rw [ho] at hoo; simp at hoo
    · simp at hu; subst hu; simp [SO.owned] at hoo
    · simp at hu

theorem okhs_none (A : Nat → Bool) (l : List SV) (hl : SV.okhs (fun _ => false) l = true) : SV.okhs A l = true := by
  rw [okhs_iff] at hl ⊢
  exact fun v hv => okh_mono (A := fun _ => false) (fun x hx => by simp at hx) v (hl v hv)


/-- No number, and no bool, lies in the variable's block. -/
theorem pin_ne {w : World} {v : Value} {ty : TypeId} {fr : Nat × Nat} (h0 : w.heap[0]? = some (.cells #[v] ty fr)) (hv : ∃ t u, v = .iface t u) {b o : Nat} {u : Value}
    (hu : w.cell? ⟨b, o, none⟩ = some u) (hni : ∀ t x, u ≠ .iface t x) : b ≠ 0 := by
  rintro rfl
  obtain ⟨t, x, rfl⟩ := hv
  simp only [World.cell?, h0] at hu
  rcases o with _ | o
  · simp at hu; exact hni t x hu.symm
  · simp at hu
theorem pin_cell {w : World} {v : Value} {ty : TypeId} {fr : Nat × Nat} (h0 : w.heap[0]? = some (.cells #[v] ty fr)) : w.cell? ⟨0, 0, none⟩ = some v := by
  simp [World.cell?, h0]

theorem own_two {ρ : Nat → Nat × Nat} {o : SO} {v : Value} (h : o.owned = false) : ∀ b, ¬ Own ρ [HE.obj o, pinE v] b :=
  own_none fun i u hu => by
    rcases i with _ | _ | i
    · simp at hu; subst hu; exact h
    · simp at hu; subst hu; rfl
    · simp at hu


section
variable {P : Program} {H : Type} {enc : TypeId × Value → H} {w : World} {t : TypeId} {d : DataW H} {ps : List MemPlace}
/-- A slice's first place. -/
theorem arg_ints_first {e : TypeId} {k : IntKind} {a : Option Addr} {len cap : Nat} (ht : P.underlying t = some (.slice e)) (he : P.underlying e = some (.int k)) (hc : P.cellsOf e = 1)
    (h : DataW.Trod enc P w 0 (fun _ => true) true t (.slice a len cap) d ps) (h0 : 0 < cap) : ∃ b o n, a = some ⟨b, o, none⟩ ∧ w.cell? ⟨b, o, none⟩ = some (.int k n) := by
  obtain ⟨fuel, hf⟩ := h
  rcases open_ints ht he hc hf with ⟨h1, _⟩ | ⟨x, l, c, zs, h1, _, hl, hm, hz, _, hcell, hwz⟩
  · simp [Value.cells] at h1
    omega
  · simp [Value.cells] at h1
    obtain ⟨rfl, rfl, rfl⟩ := h1
    simp only [if_true] at hz
    have hsp : x.spot = none := by
      have := spot_none (hcell 0 (by omega))
      simpa [Addr.add] using this
    have := hcell 0 (by omega)
    rw [add_nil hsp] at this
    refine ⟨x.block, x.off, _, ?_, this⟩
    obtain ⟨b, o, s⟩ := x
    simp only at hsp; subst hsp; rfl
end

end Go.Hx

/-
  What a call of Go's library leaves that sets one cell: in handles.
-/
namespace Go.Hx
open Go Go.RowKit

theorem there_cons {e e' : HE} {R : List HE} (h : e.there = e'.there) : there (e :: R) = there (e' :: R) := by
  funext x
  rcases x with _ | x <;> simp [there, h]
/-- A call that sets the first thing's one cell, and makes new blocks. -/
theorem fnPost_setL {w w1 : World} {ρ : Nat → Nat × Nat} {c n : Int} {E : TypeId} {R : List HE} (hS : HSat w (Own ρ (.obj (.cells [.int .i64 c] E) :: R)) ρ (.obj (.cells [.int .i64 c] E) :: R) w)
    (hb : Below w.heap.size w w1) : FnPost w ρ (.obj (.cells [.int .i64 c] E) :: R) (Is .tt (.obj (.cells [.int .i64 n] E) :: R)) (.returned (.bool true)) (w1.setCell ⟨(ρ 0).1, 0, none⟩ (.int .i64 n)) := by
  obtain ⟨⟨h01, h02⟩, _⟩ := hS.objs 0 _ rfl
  have hlt := hS.size 0 rfl
  have hcell : w1.heap[(ρ 0).1]? = some (.cells #[.int .i64 c] E (0, 0)) := by rw [hb.block _ hlt, h02]; rfl
  have hset := one_setCell (u := .int .i64 n) hcell
  have hoth : ∀ k, k < w.heap.size → k ≠ (ρ 0).1 → (w1.setCell ⟨(ρ 0).1, 0, none⟩ (.int .i64 n)).heap[k]? = w.heap[k]? := fun k hk hn => by
    rw [Below.heap_setCell _ _ _ _ hn, hb.block k hk]
  have hsz : (w1.setCell ⟨(ρ 0).1, 0, none⟩ (.int .i64 n)).heap.size = w1.heap.size := by simp [World.setCell]
  have hth : there (HE.obj (.cells [.int .i64 n] E) :: R) = there (.obj (.cells [.int .i64 c] E) :: R) := there_cons rfl
  refine ⟨ρ, _, .tt, ⟨rfl, rfl⟩, rfl, rfl, ⟨?_, ?_, ?_, ?_, ?_⟩, fun h hh => ⟨rfl, ?_⟩⟩
  · intro h o ho
    rw [hth]
    rcases h with _ | h
    · simp at ho; subst ho
      exact ⟨⟨h01, hset⟩, rfl⟩
    · have ho' : (HE.obj (.cells [.int .i64 c] E) :: R)[h + 1]? = some (.obj o) := by simpa using ho
      obtain ⟨q1, q2⟩ := hS.objs (h + 1) o ho'
      have hne : (ρ (h + 1)).1 ≠ (ρ 0).1 := fun e => by have := hS.inj (h + 1) 0 _ _ ho' rfl e; omega
      exact ⟨SO.holds_world (hoth _ (hS.size _ (there_of_obj ho')) hne) o q1, q2⟩
  · intro h hh
    rw [hth] at hh
    have := hS.size h hh
    rw [hsz]
    exact Nat.lt_of_lt_of_le this hb.size
  · intro h h' o o' hh hh' e
    rcases h with _ | h <;> rcases h' with _ | h'
    · rfl
    · exact hS.inj 0 (h' + 1) _ _ rfl (by simpa using hh') e
    · exact hS.inj (h + 1) 0 _ _ (by simpa using hh) rfl e
    · exact hS.inj (h + 1) (h' + 1) _ _ (by simpa using hh) (by simpa using hh') e
  · intro h o ho hoo
    rcases h with _ | h
    · exact hS.own 0 _ rfl rfl
    · exact hS.own (h + 1) o (by simpa using ho) hoo
  · refine ⟨by rw [hsz]; exact hb.size, fun b hbl hn => ?_, hb.os, hb.tape, hb.output⟩
    refine hoth b hbl fun e => hn ?_
    exact ⟨0, _, rfl, rfl, e.symm⟩
  · rw [hth]; exact hh

/-- A call that leaves all as it was. -/
theorem fnPost_same {w : World} {ρ : Nat → Nat × Nat} {H : List HE} {V : SV} (hS : HSat w (Own ρ H) ρ H w) (hV : V.okh (there H) = true) : FnPost w ρ H (Is V H) (.returned (V.tr ρ)) w :=
  ⟨ρ, H, V, ⟨rfl, rfl⟩, rfl, hV, hS, fun _ hh => ⟨rfl, hh⟩⟩
end Go.Hx

/-
  Things that are there or not, under two names; what is forgotten.
-/
namespace Go.Hx
open Go

section
variable {σ σ' : Nat → Nat} {h h' : Nat} {H : List HE} {i : Nat}
theorem ren_slVe {o : Option (List Int)} : (slV o h).ren σ = slV o (σ h) := by cases o <;> rfl
theorem ren_obj (o : SO) : (HE.obj o).ren σ = .obj (o.ren σ) := rfl
theorem sim_slVr {o : Option (List Int)} (hs : σ h = h') : sim (slV o h') ((slV o h).ren σ) := by rw [ren_slVe, hs]; exact sim_refl _
end
end Go.Hx

/-
  Contracts over three objects, in a larger heap; a step of a run over an arena, as a row of the table.
-/
namespace Go.Hx
open Go
section
variable {P : Program} {f : Nat} {ags cargs : List SV} {V : SV} {H : List HE} {o0 o1 o2 p0 p1 p2 : SO} {h0 h1 h2 : Nat} {N : List HE}
theorem frame3 (hT : ∃ TE : Nat → TI, ∀ t, TIok P t (TE t)) (hF : Gives P f cargs [.obj o0, .obj o1, .obj o2] (Is V (.obj p0 :: .obj p1 :: .obj p2 :: N))) (hargs : ags = SV.rens (nm [h0, h1, h2] H) cargs)
    (hcok : SV.okhs (there [.obj o0, .obj o1, .obj o2]) cargs = true) (hokc : okHs (there [.obj o0, .obj o1, .obj o2]) [.obj o0, .obj o1, .obj o2] = true) (hnd : nodupN [h0, h1, h2] = true)
    (g0 : getH H h0 = some (o0.ren (nm [h0, h1, h2] H))) (g1 : getH H h1 = some (o1.ren (nm [h0, h1, h2] H))) (g2 : getH H h2 = some (o2.ren (nm [h0, h1, h2] H))) (hn : newOk N = true) :
    Gives P f ags H (Is (V.ren (nm [h0, h1, h2] H)) (((H.set h0 (.obj (p0.ren (nm [h0, h1, h2] H)))).set h1 (.obj (p1.ren (nm [h0, h1, h2] H)))).set h2 (.obj (p2.ren (nm [h0, h1, h2] H))) ++ N.map (HE.ren (nm [h0, h1, h2] H)))) := by
  have := gives_frame (H := H) hT hF [h0, h1, h2] hargs hcok rfl rfl hokc hnd ⟨g0, g1, g2, trivial⟩ hn
  simpa [merge, setAll, HE.ren] using this
theorem frame3n (hT : ∃ TE : Nat → TI, ∀ t, TIok P t (TE t)) (hF : Gives P f cargs [.obj o0, .obj o1, .obj o2] (Is V [.obj p0, .obj p1, .obj p2])) (hargs : ags = SV.rens (nm [h0, h1, h2] H) cargs)
    (hcok : SV.okhs (there [.obj o0, .obj o1, .obj o2]) cargs = true) (hokc : okHs (there [.obj o0, .obj o1, .obj o2]) [.obj o0, .obj o1, .obj o2] = true) (hnd : nodupN [h0, h1, h2] = true)
    (g0 : getH H h0 = some (o0.ren (nm [h0, h1, h2] H))) (g1 : getH H h1 = some (o1.ren (nm [h0, h1, h2] H))) (g2 : getH H h2 = some (o2.ren (nm [h0, h1, h2] H)))
    {V' : SV} {q0 q1 q2 : SO} (hV : V.ren (nm [h0, h1, h2] H) = V') (hq0 : p0.ren (nm [h0, h1, h2] H) = q0) (hq1 : p1.ren (nm [h0, h1, h2] H) = q1) (hq2 : p2.ren (nm [h0, h1, h2] H) = q2) :
    Gives P f ags H (Is V' (((H.set h0 (.obj q0)).set h1 (.obj q1)).set h2 (.obj q2))) := by
  have := frame3 (N := []) hT hF hargs hcok hokc hnd g0 g1 g2 rfl
  rw [hV, hq0, hq1, hq2] at this
  simpa using this
end
end Go.Hx

/-
  Code taken apart at a region; a piece of it, gone through in a small heap.
-/
namespace Go.Hx
open Go

section
variable {P : Program} {Q : Exit → Act → World → Prop}
end
section
variable {P : Program} {X : Tabs} (hX : TOk P X)
variable {R : SV → List HE → Prop} {fn : Func} {nt : Nat} {H0 : List HE} {k : List KI} {T : List (Nat × SV)} {H : List HE} {cs : List Ch} {I : Act → World → Prop}
end
end Go.Hx

/-
  Regions that draw, where one cell is made that no call waits for and that waits for no call.
-/
namespace Go.Hx
open Go


section
variable {E : Env} {al : List Oper} {Tn : List (Nat × SV)} {D : Nat → Bool} {ρ : Nat → Nat × Nat} {H : List HE} {a : Act} {w : World}


end



section
variable {E : Env} {al : List Oper} {Tn : List (Nat × SV)} {D : Nat → Bool} {ρ : Nat → Nat × Nat} {H : List HE} {a : Act} {w : World}

end


section
variable {P : Program} {X : Tabs} (hX : TOk P X)

end




section
variable {P : Program} {X : Tabs} {nt : Nat} {al : List Oper} {ia n : Nat} {off : Bool} {Tn : List (Nat × SV)} {r : List Oper} {o : Oper} {i : Nat} {T T' : List (Nat × SV)} {H H' : List HE} {es : List (Nat × List HE)} {lds : List (Nat × Nat)}







end

section
variable {E : Env} {X : Tabs} {al : List Oper} {ia n : Nat} {off : Bool} {Tn Tr : List (Nat × SV)} {T : List (Nat × SV)} {H : List HE} {es : List (Nat × List HE)} {lds : List (Nat × Nat)}



end







section
variable {P : Program} {X : Tabs} (hX : TOk P X)


variable {Wb : (Nat → Nat × Nat) → World → Prop} {R : SV → List HE → Prop} {fn : Func} {nt : Nat} {H0 : List HE} {k : List KI} {T : List (Nat × SV)} {H : List HE} {cs : List Ch} {fs : List Fm}

end
end Go.Hx

/-
  Regions gone through by the machine, in frames of rounds, and in frames with deferred calls.
-/
namespace Go.Hx
open Go

/-- The frames that are gone over: a function's own (none), or a round's. -/
def Fw (rd : Option Nat) : Fence := { Fence.wide with round := rd }
theorem callsIn_fw {rd : Option Nat} {n : Nat} {P : Program} {f : FuncId} {args : Array Value} {w : World} {R : Ending → World → Prop} : CallsIn (Fw rd) n P f args w R ↔ Calls P f args w R :=
  (show CallsIn Fence.wide n P f args w R ↔ Calls P f args w R from callsIn_wide)
theorem rowsIn_fw {rd : Option Nat} {n : Nat} {P : Program} {row : String} {args : Array Value} {w : World} {R : Value → World → Prop} (h : Rows P row args w R) : RowsIn (Fw rd) n P row args w R :=
  fun c cs _ => let ⟨v, w', r, s⟩ := h c cs; ⟨v, w', r, (show StepsIn (Machine.fenced P Fence.wide) P _ _ from stepsIn_wide.2 s)⟩
def ndO (o : Oper) : Bool := match o.op with
  | .defer _ => false
  | _ => true
theorem ndO_ne {o : Oper} (h : ndO o = true) : ∀ c, o.op ≠ .defer c := by
  intro c e
  simp [ndO, e] at h
def regNd : List Oper → Bool
  | [] => true
  | o :: r => match ndO o with
    | true => regNd r
    | false => false
theorem regNd_mem : ∀ {l : List Oper}, regNd l = true → ∀ o ∈ l, ndO o = true
  | [], _, o, h => by simp at h
  | p :: r, h, o, ho => by
    simp only [regNd] at h
    split at h
    · rename_i hp
      simp only [List.mem_cons] at ho
      rcases ho with rfl | ho
      · exact hp
      · exact regNd_mem h o ho
    · simp at h
section
variable {rd : Option Nat} {P : Program} {D : List Deferred} {Qs Q : Exit → Act → World → Prop}
/-- With more deferred calls. -/
def lift (D : List Deferred) (a : Act) : Act := { a with defers := a.defers ++ D }
theorem lift_put {a : Act} {dst : Option Tmp} {v : Value} : lift D (a.put dst v) = (lift D a).put dst v := by cases dst <;> rfl
theorem lift_eval {a : Act} : (lift D a).eval = a.eval := by funext o; cases o <;> rfl
theorem nq_of (hQ : ∀ e a w, Qs e a w → e = .normal) {e : Exit} {a : Act} {w : World} (he : e ≠ .normal) (h : Qs e a w) : False := he (hQ _ _ _ h)
theorem nl_of (hQ : ∀ e a w, Qs e a w → e = .normal) : ¬ LetsOut Qs := fun ⟨_, _, hq⟩ => nq_of hQ (by simp) hq
/-- What an operation comes to, with more deferred calls. -/
theorem upon_in {o : Oper} {a : Act} {K K' : Act → World → Prop} (hQ : ∀ e a w, Qs e a w → e = .normal) (hK : ∀ a w, K a w → K' (lift D a) w) {r : Result Next}
    (h : o.upon P a K Qs r) : o.uponIn (Fw rd) 0 P (lift D a) K' Q r := by
  unfold Oper.upon at h
  split at h
  · rw [Oper.uponIn_value, ← lift_put]; exact hK _ _ h
  · rw [Oper.uponIn_skip, ← lift_put]; exact hK _ _ h
  · rw [Oper.uponIn_defer]
    have := hK _ _ h
    rw [lift_put] at this
    exact this
  · refine ⟨fun e => by simp [Fw, Fence.wide] at e, callsIn_fw.2 (Calls.mono h fun e w' he => ?_)⟩
    cases e with
    | returned v =>
      show K' ((lift D a).put o.dst v) w'
      rw [← lift_put]; exact hK _ _ he
    | panicked c => exact (nq_of hQ (by simp) he).elim
    | outgrown => exact (nl_of hQ he).elim
  · exact ⟨fun e => by simp [Fw, Fence.wide] at e, (rowsIn_fw h).mono fun v w' he => by rw [← lift_put]; exact hK _ _ he⟩
  · exact (nq_of hQ (by simp) h).elim
  · exact h.elim
theorem wp_in {o : Oper} {a : Act} {w : World} {K K' : Act → World → Prop} (hQ : ∀ e a w, Qs e a w → e = .normal) (hn : ndO o = true) (hK : ∀ a w, K a w → K' (lift D a) w) (h : o.wp P a w K Qs) : o.wpIn (Fw rd) 0 P (lift D a) w K' Q :=
  ⟨fun _ _ => trivial, by rw [Oper.semAt_eq _ _ _ (ndO_ne hn), lift_eval]; exact upon_in hQ hK h⟩
theorem wl_in {ops : Array Oper} (hQ : ∀ e a w, Qs e a w → e = .normal) (hq : ∀ a w, Qs .normal a w → Q .normal (lift D a) w) : ∀ {l : List Oper}, (∀ o ∈ l, ndO o = true) → ∀ {a : Act} {w : World}, wpList P ops Qs l a w → wpListIn (Fw rd) 0 P ops Q l (lift D a) w
  | [], _, _, _, h => hq _ _ h
  | o :: rest, hn, a, w, h => by
    unfold wpList at h
    unfold wpListIn
    have e : (lift D a).tmps = a.tmps := rfl
    rw [e]
    split
    · rename_i hw
      rw [if_pos hw] at h
      rcases h with h | h
      · exact wp_in hQ (hn o (by simp)) (fun a w hh => wl_in hQ hq (fun o ho => hn o (by simp [ho])) hh) h
      · exact (nl_of hQ h.2).elim
    · rename_i hw
      rw [if_neg hw] at h
      refine ⟨fun _ _ => trivial, ?_⟩
      rw [← lift_put]
      exact wl_in hQ hq (fun o ho => hn o (by simp [ho])) h
end
section
variable {P : Program} {X : Tabs} (hX : TOk P X) {fn : Func} {nt : Nat} {H : List HE} {T T1 : List (Nat × SV)} {H1 : List HE} {ρ : Nat → Nat × Nat} {W : World} {a : Act} {rd : Option Nat} {D : List Deferred} {Q : Exit → Act → World → Prop}
theorem wk_lp_normal {J : Act → World → Prop} (e : Exit) (a : Act) (w : World) (h : WK P (FEnv P X.TE hX.te fn nt H Not2 ρ W).Q [.lp J] e a w) : e = .normal := by
  cases e with
  | normal => rfl
  | _ => exact (not2_Q hX _ _ _ h).elim
/-- A region gone through by the machine, in whatever frame. -/
theorem region_in {id : Nat} {ops : Array Oper} (hn : regNd ops.toList = true) (hs : Sat (FEnv P X.TE hX.te fn nt H Not2 ρ W) ρ T H a W)
    (h : ∀ J : Act → World → Prop, (∀ cs T H', Sub (FEnv P X.TE hX.te fn nt H Not2 ρ W) T H' T1 H1 → SS hX (At ρ W) Not2 ⟨cs, [], fn, nt, H, [.lp J], T, H'⟩) → SS hX (At ρ W) Not2 ⟨[], [], fn, nt, H, [.ops ops.toList ops.toList, .lp J], T, H⟩)
    (hq : ∀ ρ' a' w', Sat (FEnv P X.TE hX.te fn nt H Not2 ρ W) ρ' T1 H1 a' w' → Q .normal (lift D a') w') : (Code.region id ops false).wpIn (Fw rd) 0 P Q (lift D a) W := by
  let J : Act → World → Prop := fun a' w' => ∃ ρ', Sat (FEnv P X.TE hX.te fn nt H Not2 ρ W) ρ' T1 H1 a' w'
  have hw := sw_ss hX (h J fun cs T H' hsub => ss_sw hX fun ρ1 a1 w1 hs1 => hsub ρ1 a1 w1 hs1) ρ a W hs
  refine wpIn_region_list (wl_in (fun e a w => wk_lp_normal hX e a w) (fun a' w' hJ => ?_) (regNd_mem hn) (by
    have h2 : wpList P ops.toList.toArray (WK P (FEnv P X.TE hX.te fn nt H Not2 ρ W).Q [.lp J]) ops.toList a W := hw
    rw [Array.toArray_toList] at h2
    exact h2))
  obtain ⟨ρ', hs'⟩ := hJ
  exact hq ρ' a' w' hs'
end
end Go.Hx

/-
  A walk in whatever frame, beside blocks that are kept (a loop's record, its deferred calls): states, and their steps.
-/
namespace Go.Hx
open Go

/-- What is left to do, in the fenced layer. -/
def WKi (rd : Option Nat) (P : Program) (Q : Exit → Act → World → Prop) : List KI → Exit → Act → World → Prop
  | [] => Q
  | .code c :: k => fun e a w => match e with
    | .normal => c.wpIn (Fw rd) 0 P (WKi rd P Q k) a w
    | e => WKi rd P Q k e a w
  | .blk id :: k => fun e a w => match e with
    | .exit i => if i = id then WKi rd P Q k .normal a w else WKi rd P Q k (.exit i) a w
    | e => WKi rd P Q k e a w
  | .lp I :: k => fun e a w => match e with
    | .normal => I a w
    | e => WKi rd P Q k e a w
  | .ops all rest :: k => fun e a w => match e with
    | .normal => wpListIn (Fw rd) 0 P all.toArray (WKi rd P Q k) rest a w
    | e => WKi rd P Q k e a w
  | .again _ _ :: k => WKi rd P Q k
/-- Blocks that are kept: what they are, and that nothing that is named lies there. -/
def Kept (K : List (Nat × Obj)) (ρ : Nat → Nat × Nat) (H : List HE) (W : World) : Prop :=
  ∀ p ∈ K, W.heap[p.1]? = some p.2 ∧ ∀ (h : Nat) (o : SO), H[h]? = some (.obj o) → (ρ h).1 ≠ p.1
/-- What is new is owned. -/
def newOwn : List HE → List HE → Bool
  | _, [] => true
  | [], .obj o :: r => match o.owned with
    | true => newOwn [] r
    | false => false
  | [], _ :: r => newOwn [] r
  | .obj _ :: H, _ :: r => newOwn H r
  | _ :: H, .obj o :: r => match o.owned with
    | true => newOwn H r
    | false => false
  | _ :: H, _ :: r => newOwn H r
theorem newOwn_get : ∀ {H H1 : List HE}, newOwn H H1 = true → ∀ {h : Nat} {o : SO}, H1[h]? = some (.obj o) → o.owned = true ∨ ∃ o', H[h]? = some (.obj o')
  | _, [], _, h, o, e => by simp at e
  | [], x :: r, hn, h, o, e => by
    cases h with
    | zero =>
      simp only [List.getElem?_cons_zero, Option.some.injEq] at e
      subst e
      simp only [newOwn] at hn
      split at hn
      · rename_i q; exact .inl q
      · simp at hn
    | succ h =>
      simp only [List.getElem?_cons_succ] at e
      have hn' : newOwn [] r = true := by
        cases x with
        | obj o2 =>
          simp only [newOwn] at hn
          split at hn
          · exact hn
          · simp at hn
        | _ => exact hn
      rcases newOwn_get hn' e with q | ⟨o', q⟩
      · exact .inl q
      · simp at q
  | y :: H, x :: r, hn, h, o, e => by
    cases h with
    | zero =>
      simp only [List.getElem?_cons_zero, Option.some.injEq] at e
      subst e
      cases y with
      | obj o2 => exact .inr ⟨o2, rfl⟩
      | _ =>
        simp only [newOwn] at hn
        split at hn
        · rename_i q; exact .inl q
        · simp at hn
    | succ h =>
      simp only [List.getElem?_cons_succ] at e
      have hn' : newOwn H r = true := by
        cases y with
        | obj o2 => cases x <;> exact hn
        | _ =>
          cases x with
          | obj o2 =>
            simp only [newOwn] at hn
            split at hn
            · exact hn
            · simp at hn
          | _ => exact hn
      exact newOwn_get hn' e
theorem HSat.rebase {w0 W : World} {bs : Nat → Prop} {ρ : Nat → Nat × Nat} {H : List HE} (h : HSat w0 bs ρ H W) : HSat W (Own ρ H) ρ H W :=
  ⟨h.objs, h.size, h.inj, fun x o hx ho => .inl ⟨x, o, hx, ho, rfl⟩, Fr.refl _ _⟩
theorem HSat.comp {w0 W W' : World} {bs : Nat → Prop} {ρ ρ' : Nat → Nat × Nat} {H H1 : List HE} (h : HSat w0 bs ρ H W) (h2 : HSat W (Own ρ H) ρ' H1 W') : HSat w0 bs ρ' H1 W' := by
  refine ⟨h2.objs, h2.size, h2.inj, fun x o hx ho => ?_, ⟨Nat.le_trans h.fr.size h2.fr.size, fun b hb hn => ?_, ?_⟩⟩
  · rcases h2.own x o hx ho with ⟨y, oy, hy, hoy, e⟩ | q
    · rw [← e]; exact h.own y oy hy hoy
    · exact .inr (Nat.le_trans h.fr.size q)
  · rw [h2.fr.same b (Nat.lt_of_lt_of_le hb h.fr.size) ?_, h.fr.same b hb hn]
    rintro ⟨y, oy, hy, hoy, e⟩
    rcases h.own y oy hy hoy with q | q
    · exact hn (by rw [← e]; exact q)
    · rw [e] at q; omega
  · obtain ⟨a1, a2, a3⟩ := h.fr.io
    obtain ⟨b1, b2, b3⟩ := h2.fr.io
    exact ⟨b1.trans a1, b2.trans a2, b3.trans a3⟩
theorem Kept.next {K : List (Nat × Obj)} {W W' : World} {ρ ρ' : Nat → Nat × Nat} {H H1 : List HE} (h : Kept K ρ H W) (h2 : HSat W (Own ρ H) ρ' H1 W') (hb : ∀ x, there H x = true → ρ' x = ρ x ∧ there H1 x = true) (hn : newOwn H H1 = true) : Kept K ρ' H1 W' := by
  intro p hp
  obtain ⟨k1, k2⟩ := h p hp
  have hlt : p.1 < W.heap.size := (Array.getElem?_eq_some_iff.1 k1).1
  have hno : ¬ Own ρ H p.1 := fun ⟨y, oy, hy, _, e⟩ => k2 y oy hy e
  refine ⟨by rw [h2.fr.same _ hlt hno]; exact k1, fun x o hx e => ?_⟩
  rcases newOwn_get hn hx with q | ⟨o', q⟩
  · rcases h2.own x o hx q with q2 | q2
    · rw [e] at q2; exact hno q2
    · rw [e] at q2; omega
  · rw [(hb x (there_of_obj q)).1] at e
    exact k2 x o' q e

section
variable {P : Program} {X : Tabs} (hX : TOk P X)
/-- A state: whatever is as it is told goes on to what is wanted. -/
def SI (rd : Option Nat) (D : List Deferred) (Q : Exit → Act → World → Prop) (w0 : World) (bs : Nat → Prop) (H0 : List HE) (ρ0 : Nat → Nat × Nat) (nt : Nat) (K : List (Nat × Obj)) (k : List KI) (T : List (Nat × SV)) (H : List HE) : Prop :=
  ∀ ρ a W, HSat w0 bs ρ H W → TSat ρ (there H) nt T a → (∀ h, there H0 h = true → ρ h = ρ0 h ∧ there H h = true) → Kept K ρ H W → WKi rd P Q k .normal (lift D a) W
variable {rd : Option Nat} {D : List Deferred} {Q : Exit → Act → World → Prop} {w0 : World} {bs : Nat → Prop} {H0 : List HE} {ρ0 : Nat → Nat × Nat} {fn : Func} {nt : Nat} {K : List (Nat × Obj)} {k k' : List KI} {T T1 : List (Nat × SV)} {H H1 : List HE}
theorem WKi_unwind {id : Nat} {a : Act} {w : World} : ∀ {k k' : List KI}, unwind id k = some k' → WKi rd P Q k' .normal a w → WKi rd P Q k (.exit id) a w
  | [], _, h, _ => by simp [unwind] at h
  | .blk i :: k, k', h, hw => by
    simp only [unwind] at h
    split at h
    · rename_i hb
      simp at h; subst h
      have := Nat.eq_of_beq_eq_true hb
      simp only [WKi]
      rw [if_pos this.symm]; exact hw
    · rename_i hb
      simp only [WKi]
      have : ¬ id = i := by intro e; subst e; simp at hb
      rw [if_neg this]
      exact WKi_unwind h hw
  | .code _ :: k, k', h, hw => WKi_unwind (k := k) h hw
  | .ops _ _ :: k, k', h, hw => WKi_unwind (k := k) h hw
  | .lp _ :: k, k', h, hw => WKi_unwind (k := k) h hw
  | .again _ _ :: k, k', h, hw => WKi_unwind (k := k) h hw
theorem si_seq {x y : Code} (h : (SI (P := P) rd D Q w0 bs H0 ρ0 nt K) (.code x :: .code y :: k) T H) : (SI (P := P) rd D Q w0 bs H0 ρ0 nt K) (.code (.seq x y) :: k) T H := fun ρ a W h1 h2 h3 h4 => by
  have hh := h ρ a W h1 h2 h3 h4
  simp only [WKi] at *
  refine wpIn_seq (wpIn_mono hh fun e a w hq => ?_)
  cases e <;> exact hq
theorem si_block {x : Code} {id : Nat} (h : (SI (P := P) rd D Q w0 bs H0 ρ0 nt K) (.code x :: .blk id :: k) T H) : (SI (P := P) rd D Q w0 bs H0 ρ0 nt K) (.code (.block id x) :: k) T H := fun ρ a W h1 h2 h3 h4 => by
  have hh := h ρ a W h1 h2 h3 h4
  simp only [WKi] at *
  refine wpIn_block (wpIn_mono hh fun e a w hq => ?_)
  cases e <;> exact hq
theorem si_skip (h : (SI (P := P) rd D Q w0 bs H0 ρ0 nt K) k T H) : (SI (P := P) rd D Q w0 bs H0 ρ0 nt K) (.code .skip :: k) T H := fun ρ a W h1 h2 h3 h4 => by
  simp only [WKi]; exact wpIn_skip (h ρ a W h1 h2 h3 h4)
theorem si_blk {id : Nat} (h : (SI (P := P) rd D Q w0 bs H0 ρ0 nt K) k T H) : (SI (P := P) rd D Q w0 bs H0 ρ0 nt K) (.blk id :: k) T H := fun ρ a W h1 h2 h3 h4 => by
  simp only [WKi]; exact h ρ a W h1 h2 h3 h4
theorem si_exit {id : Nat} (hu : unwind id k = some k') (h : (SI (P := P) rd D Q w0 bs H0 ρ0 nt K) k' T H) : (SI (P := P) rd D Q w0 bs H0 ρ0 nt K) (.code (.exit id) :: k) T H := fun ρ a W h1 h2 h3 h4 => by
  simp only [WKi]; exact wpIn_exit (WKi_unwind hu (h ρ a W h1 h2 h3 h4))
theorem look_eval {ρ : Nat → Nat × Nat} {a : Act} {A : Nat → Bool} {t : Nat} {v : SV} (hs : TSat ρ A nt T a) (hl : look T t = some v) : (lift D a).eval (.tmp t) = v.tr ρ := by
  have := (hs.val t v hl).1
  rw [lift_eval]
  simp [Act.eval, Array.getD_eq_getD_getElem?, this]
theorem si_ff {t : Nat} {x y : Code} (hl : look T t = some .ff) (h : (SI (P := P) rd D Q w0 bs H0 ρ0 nt K) (.code y :: k) T H) : (SI (P := P) rd D Q w0 bs H0 ρ0 nt K) (.code (.cond (.tmp t) x y) :: k) T H := fun ρ a W h1 h2 h3 h4 => by
  have hh := h ρ a W h1 h2 h3 h4
  simp only [WKi] at *
  exact wpIn_cond_false (by rw [look_eval h2 hl]; rfl) hh
/-- Behind a region. -/
theorem si_next {ρ ρ' : Nat → Nat × Nat} {a' : Act} {W W' : World} (h : (SI (P := P) rd D Q w0 bs H0 ρ0 nt K) k T1 H1) (hno : newOwn H H1 = true) (h1 : HSat w0 bs ρ H W) (h3 : ∀ h, there H0 h = true → ρ h = ρ0 h ∧ there H h = true) (h4 : Kept K ρ H W)
    (hs : Sat (FEnv P X.TE hX.te fn nt H Not2 ρ W) ρ' T1 H1 a' W') : WKi rd P Q k .normal (lift D a') W' := by
  have hb : ∀ x, there H x = true → ρ' x = ρ x ∧ there H1 x = true := hs.base
  exact h ρ' a' W' (h1.comp hs.hs) hs.ts (fun x hx => ⟨(hb x (h3 x hx).2).1.trans (h3 x hx).1, (hb x (h3 x hx).2).2⟩) (h4.next hs.hs hb hno)
theorem si_region {id : Nat} {ops : Array Oper} (hn : regNd ops.toList = true) (hno : newOwn H H1 = true)
    (h : ∀ ρ W (J : Act → World → Prop), (∀ cs T' H', Sub (FEnv P X.TE hX.te fn nt H Not2 ρ W) T' H' T1 H1 → SS hX (At ρ W) Not2 ⟨cs, [], fn, nt, H, [.lp J], T', H'⟩) → SS hX (At ρ W) Not2 ⟨[], [], fn, nt, H, [.ops ops.toList ops.toList, .lp J], T, H⟩)
    (hk : (SI (P := P) rd D Q w0 bs H0 ρ0 nt K) k T1 H1) : (SI (P := P) rd D Q w0 bs H0 ρ0 nt K) (.code (.region id ops false) :: k) T H := fun ρ a W h1 h2 h3 h4 => by
  simp only [WKi]
  exact region_in hX hn ⟨h1.rebase, h2, fun x hx => ⟨rfl, hx⟩⟩ (h ρ W) fun ρ' a' w' hs' => si_next hX hk hno h1 h3 h4 hs'
end
end Go.Hx

/-
  A range over a function: the statement, a round, a call of yield.
-/
namespace Go.Hx
open Go

section
variable {P : Program} {rd : Option Nat} {D : List Deferred} {Q : Exit → Act → World → Prop} {w0 : World} {bs : Nat → Prop} {H0 : List HE} {ρ0 : Nat → Nat × Nat} {nt : Nat} {K : List (Nat × Obj)} {k k' : List KI} {T T1 : List (Nat × SV)} {H H1 : List HE}
structure SatK (w0 : World) (bs : Nat → Prop) (H0 : List HE) (ρ0 : Nat → Nat × Nat) (nt : Nat) (K : List (Nat × Obj)) (ρ : Nat → Nat × Nat) (T : List (Nat × SV)) (H : List HE) (a : Act) (W : World) : Prop where
  hs : HSat w0 bs ρ H W
  ts : TSat ρ (there H) nt T a
  base : ∀ h, there H0 h = true → ρ h = ρ0 h ∧ there H h = true
  kept : Kept K ρ H W
theorem SI.at (h : (SI (P := P) rd D Q w0 bs H0 ρ0 nt K) k T H) {ρ : Nat → Nat × Nat} {a : Act} {W : World} (hs : SatK w0 bs H0 ρ0 nt K ρ T H a W) : WKi rd P Q k .normal (lift D a) W := h ρ a W hs.hs hs.ts hs.base hs.kept
theorem SI.of (h : ∀ ρ a W, SatK w0 bs H0 ρ0 nt K ρ T H a W → WKi rd P Q k .normal (lift D a) W) : (SI (P := P) rd D Q w0 bs H0 ρ0 nt K) k T H := fun ρ a W h1 h2 h3 h4 => h ρ a W ⟨h1, h2, h3, h4⟩
theorem WKi_ret {a : Act} {w : World} (h : Q .ret a w) : ∀ k : List KI, WKi rd P Q k .ret a w
  | [] => h
  | .code _ :: k => WKi_ret h k
  | .blk _ :: k => WKi_ret h k
  | .ops _ _ :: k => WKi_ret h k
  | .lp _ :: k => WKi_ret h k
  | .again _ _ :: k => WKi_ret h k
theorem si_ret (h : ∀ ρ a W, SatK w0 bs H0 ρ0 nt K ρ T H a W → Q .ret (lift D a) W) : (SI (P := P) rd D Q w0 bs H0 ρ0 nt K) (.code .ret :: k) T H := SI.of fun ρ a W hs => by
  simp only [WKi]; exact wpIn_ret (WKi_ret (h ρ a W hs) k)
/-- Less is known. -/
theorem si_sub (σ : (Nat → Nat × Nat) → Nat → Nat × Nat) (hsub : ∀ ρ a W, SatK w0 bs H0 ρ0 nt K ρ T H a W → SatK w0 bs H0 ρ0 nt K (σ ρ) T1 H1 a W) (h : (SI (P := P) rd D Q w0 bs H0 ρ0 nt K) k T1 H1) : (SI (P := P) rd D Q w0 bs H0 ρ0 nt K) k T H := SI.of fun ρ a W hs => h.at (hsub ρ a W hs)
theorem si_loop {body : Code} {α : Type} (Tf : α → List (Nat × SV)) (Hf : α → List HE) (Inv : α → Prop) (μ : α → Nat) (x0 : α) (h0 : Inv x0)
    (round : ∀ x, Inv x → ∀ I : Act → World → Prop, (∀ x', Inv x' → μ x' < μ x → (SI (P := P) rd D Q w0 bs H0 ρ0 nt K) (.lp I :: k) (Tf x') (Hf x')) → (SI (P := P) rd D Q w0 bs H0 ρ0 nt K) (.code body :: .lp I :: k) (Tf x) (Hf x)) :
    (SI (P := P) rd D Q w0 bs H0 ρ0 nt K) (.code (.loop body) :: k) (Tf x0) (Hf x0) := SI.of fun ρ a W hs => by
  classical
  let I : Act → World → Prop := fun a' w => ∃ x, Inv x ∧ ∃ ρ a, a' = lift D a ∧ SatK w0 bs H0 ρ0 nt K ρ (Tf x) (Hf x) a w
  let M : Act → World → Nat → Prop := fun a' w n => ∃ x, μ x = n ∧ Inv x ∧ ∃ ρ a, a' = lift D a ∧ SatK w0 bs H0 ρ0 nt K ρ (Tf x) (Hf x) a w
  have least : ∀ a w, I a w → ∃ n, M a w n ∧ ∀ m, M a w m → n ≤ m := by
    intro a w ⟨x, hx, hsx⟩
    have : ∀ n, ∀ x, μ x = n → Inv x → (∃ ρ a0, a = lift D a0 ∧ SatK w0 bs H0 ρ0 nt K ρ (Tf x) (Hf x) a0 w) → ∃ n, M a w n ∧ ∀ m, M a w m → n ≤ m := by
      intro n
      induction n using Nat.strongRecOn with
      | _ n ih =>
        intro x hn hx hsx
        by_cases hex : ∃ m, m < n ∧ M a w m
        · obtain ⟨m, hm, y, hy1, hy2, hy3⟩ := hex
          exact ih m hm y hy1 hy2 hy3
        · exact ⟨n, ⟨x, hn, hx, hsx⟩, fun m hm => by
            rcases Nat.lt_or_ge m n with h | h
            · exact absurd ⟨m, h, hm⟩ hex
            · exact h⟩
    exact this _ x rfl hx hsx
  let mu : Act → World → Nat := fun a w => if h : ∃ n, M a w n ∧ ∀ m, M a w m → n ≤ m then h.choose else 0
  have hmu : ∀ a w, I a w → M a w (mu a w) ∧ ∀ m, M a w m → mu a w ≤ m := by
    intro a w hI
    have h := least a w hI
    simp only [mu, dif_pos h]
    exact h.choose_spec
  simp only [WKi]
  refine wpIn_loop I mu ⟨x0, h0, ρ, a, rfl, hs⟩ ?_
  intro a1 w1 hI
  obtain ⟨⟨x, hx1, hx2, ρ1, a2, rfl, hx3⟩, _⟩ := hmu a1 w1 hI
  have := (round x hx2 (fun a' w => ∃ x', Inv x' ∧ μ x' < μ x ∧ ∃ ρ a, a' = lift D a ∧ SatK w0 bs H0 ρ0 nt K ρ (Tf x') (Hf x') a w) fun x' h1 h2 => SI.of fun ρ' a' W' hs' => by
    simp only [WKi]; exact ⟨x', h1, h2, ρ', a', rfl, hs'⟩).at hx3
  simp only [WKi] at this
  refine wpIn_mono this fun e a' w' hq => ?_
  cases e with
  | normal =>
    obtain ⟨x', h1, h2, h3⟩ := hq
    have hI' : I a' w' := ⟨x', h1, h3⟩
    refine ⟨hI', ?_⟩
    have := (hmu a' w' hI').2 (μ x') ⟨x', rfl, h1, h3⟩
    omega
  | _ => exact hq
/-- Blocks that are kept lie as they lay. -/
theorem HSat.putKept {W : World} {ρ : Nat → Nat × Nat} {l : Nat} {o : Obj} (h : HSat w0 bs ρ H W) (hl : w0.heap.size ≤ l ∨ bs l) (hn : ∀ (x : Nat) (ox : SO), H[x]? = some (.obj ox) → (ρ x).1 ≠ l) : HSat w0 bs ρ H (W.putObj l o) := by
  refine ⟨fun x ox hx => ?_, fun x hx => by rw [World.putObj_size]; exact h.size x hx, h.inj, h.own, ⟨by rw [World.putObj_size]; exact h.fr.size, fun b hb hnb => ?_, h.fr.io⟩⟩
  · obtain ⟨h1, h2⟩ := h.objs x ox hx
    exact ⟨ox.holds_world (World.putObj_heap_other (hn x ox hx)) h1, h2⟩
  · rw [World.putObj_heap_other (by rintro rfl; rcases hl with q | q; omega; exact hnb q)]
    exact h.fr.same b hb hnb
theorem lift_nil {a : Act} : lift [] a = a := by simp [lift]
/-! Operations, one part after the other. -/
theorem wl_append {F : Fence} {n : Nat} {ops : Array Oper} {Q' : Exit → Act → World → Prop} : ∀ {l1 l2 : List Oper} {a : Act} {w : World}, wpListIn F n P ops (fun e a w => e = .normal ∧ wpListIn F n P ops Q' l2 a w) l1 a w → wpListIn F n P ops Q' (l1 ++ l2) a w
  | [], _, _, _, h => h.2
  | o :: r, l2, a, w, h => by
    unfold wpListIn at h
    rw [List.cons_append]
    unfold wpListIn
    split
    · rename_i hw
      rw [if_pos hw] at h
      obtain ⟨h1, h2⟩ := h
      refine ⟨h1, ?_⟩
      generalize (o.semAt F.round a.eval).run P w = res at h2 ⊢
      unfold Oper.uponIn at h2 ⊢
      split at h2
      · exact wl_append h2
      · exact wl_append h2
      · exact wl_append h2
      · refine ⟨h2.1, CallsIn.mono h2.2 fun e w' he => ?_⟩
        cases e with
        | returned v => exact wl_append he
        | panicked c => exact absurd he.1 (by simp)
        | outgrown => obtain ⟨a, w, hq, _⟩ := he; simp at hq
      · exact ⟨h2.1, h2.2.mono fun v w' he => wl_append he⟩
      · refine ⟨h2.1, h2.2.mono fun e w' he => ?_⟩
        cases e with
        | returned v => exact wl_append he
        | panicked c => exact absurd he.1 (by simp)
        | outgrown => obtain ⟨a, w, hq, _⟩ := he; simp at hq
      · exact absurd h2.1 (by simp)
      · exact h2.elim
    · rename_i hw
      rw [if_neg hw] at h
      exact ⟨h.1, wl_append h.2⟩
theorem si_ops {id : Nat} {ops : Array Oper} (h : (SI (P := P) rd D Q w0 bs H0 ρ0 nt K) (.ops ops.toList ops.toList :: k) T H) : (SI (P := P) rd D Q w0 bs H0 ρ0 nt K) (.code (.region id ops false) :: k) T H := SI.of fun ρ a W hs => by
  have := h.at hs
  simp only [WKi] at this ⊢
  rw [Array.toArray_toList] at this
  exact wpIn_region_list this
theorem si_ops_nil {all : List Oper} (h : (SI (P := P) rd D Q w0 bs H0 ρ0 nt K) k T H) : (SI (P := P) rd D Q w0 bs H0 ρ0 nt K) (.ops all [] :: k) T H := SI.of fun ρ a W hs => by
  have := h.at hs
  simp only [WKi]
  exact this
/-- What begins a round, behind the assignments. -/
def beginJ (P : Program) (l : Nat) (body : Code) (R : Ending → World → Prop) : Act → World → Prop := fun a₁ w₁ => ∃ w₂, (Instr.beginRound l).run P w₁ = .ok () w₂ ∧ body.wpIn (Fw (some l)) 0 P (roundPost P l R) a₁ w₂
theorem round_in {l f : Nat} {tm : Array Value} {assign body : Code} {R : Ending → World → Prop} {W : World} {ρ : Nat → Nat × Nat}
    (h : SI (P := P) (some l) [] (fun _ _ _ => False) w0 bs H0 ρ0 nt K [.code assign, .lp (beginJ P l body R)] T H) (hs : SatK w0 bs H0 ρ0 nt K ρ T H { tmps := tm, defers := [] } W) : RoundIn Fence.wide 0 P l f tm assign body W R := by
  refine roundIn_of_wpIn trivial ?_
  have := h.at hs
  rw [lift_nil] at this
  simp only [WKi] at this
  refine wpIn_mono (show assign.wpIn (Fw (some l)) 0 P _ _ _ from this) fun e a w hq => ?_
  cases e with
  | normal => exact hq
  | _ => exact hq
theorem si_begin {l : Nat} {r : Loop} {body : Code} {R : Ending → World → Prop} (hl : w0.heap.size ≤ l ∨ bs l) (hr : r.state = .ready) (hK : ∀ p ∈ K, p.1 ≠ l)
    (h : SI (P := P) (some l) [] (roundPost P l R) w0 bs H0 ρ0 nt ((l, .loop { r with state := .busy }) :: K) [.code body] T H) :
    SI (P := P) (some l) [] (fun _ _ _ => False) w0 bs H0 ρ0 nt ((l, .loop r) :: K) [.lp (beginJ P l body R)] T H := SI.of fun ρ a W hs => by
  obtain ⟨k1, k2⟩ := hs.kept (l, .loop r) (List.mem_cons_self ..)
  have hlt : l < W.heap.size := (Array.getElem?_eq_some_iff.1 k1).1
  simp only [WKi]
  refine ⟨_, run_beginRound k1 hr, ?_⟩
  have := h.at (ρ := ρ) (a := a) (W := W.putObj l (.loop { r with state := .busy })) ⟨hs.hs.putKept hl k2, hs.ts, hs.base, fun p hp => ?_⟩
  · simp only [WKi] at this
    exact this
  · simp only [List.mem_cons] at hp
    rcases hp with rfl | hp
    · exact ⟨World.putObj_heap_same hlt, k2⟩
    · obtain ⟨q1, q2⟩ := hs.kept p (List.mem_cons_of_mem _ hp)
      exact ⟨by rw [World.putObj_heap_other (hK p hp)]; exact q1, q2⟩
theorem si_round_end {l : Nat} {r : Loop} {R : Ending → World → Prop} (h : ∀ ρ a W, SatK w0 bs H0 ρ0 nt ((l, .loop r) :: K) ρ T H a W → R (.returned (.bool true)) (W.putObj l (.loop { r with state := .ready, pending := none }))) :
    SI (P := P) (some l) [] (roundPost P l R) w0 bs H0 ρ0 nt ((l, .loop r) :: K) [] T H := SI.of fun ρ a W hs => by
  obtain ⟨k1, k2⟩ := hs.kept (l, .loop r) (List.mem_cons_self ..)
  exact ⟨_, _, run_endRound none k1, h ρ a W hs⟩
/-- An exit that nothing in a round catches. -/
def noBlk (id : Nat) : List KI → Bool
  | [] => true
  | .blk i :: k => match Nat.beq i id with
    | true => false
    | false => noBlk id k
  | _ :: k => noBlk id k
theorem WKi_out {id : Nat} {a : Act} {w : World} (h : Q (.exit id) a w) : ∀ {k : List KI}, noBlk id k = true → WKi rd P Q k (.exit id) a w
  | [], _ => h
  | .blk i :: k, hn => by
    simp only [noBlk] at hn
    split at hn
    · simp at hn
    · rename_i hb
      simp only [WKi]
      have : ¬ id = i := by intro e; subst e; simp at hb
      rw [if_neg this]
      exact WKi_out h hn
  | .code _ :: k, hn => WKi_out (k := k) h hn
  | .ops _ _ :: k, hn => WKi_out (k := k) h hn
  | .lp _ :: k, hn => WKi_out (k := k) h hn
  | .again _ _ :: k, hn => WKi_out (k := k) h hn
theorem si_round_out {l id : Nat} {r : Loop} {R : Ending → World → Prop} (hn : noBlk id k = true) (h : ∀ ρ a W, SatK w0 bs H0 ρ0 nt ((l, .loop r) :: K) ρ T H a W → R (.returned (.bool false)) (W.putObj l (.loop { r with state := .done, pending := some (.exit id) }))) :
    SI (P := P) (some l) [] (roundPost P l R) w0 bs H0 ρ0 nt ((l, .loop r) :: K) (.code (.exit id) :: k) T H := SI.of fun ρ a W hs => by
  obtain ⟨k1, k2⟩ := hs.kept (l, .loop r) (List.mem_cons_self ..)
  simp only [WKi]
  exact wpIn_exit (WKi_out ⟨_, _, run_endRound (some (.exit id)) k1, h ρ a W hs⟩ hn)
end
end Go.Hx

/-
  A call of yield; the statement that ranges over a function.
-/
namespace Go.Hx
open Go

theorem yield_run {P : Program} {A : Nat → Bool} {nt : Nat} {T : List (Nat × SV)} {o : Oper} {c : Call} {l : Nat} {as : List SV} {r : Loop} {x : Operand} (hop : o.op = .call c) (hcal : c.callee = .value x)
    (hx : ev T x = some (.raw (.func (.yield l) #[] #[]))) (has : evs T c.args.toList = some as) (hn : as.length = r.params.size) {ρ : Nat → Nat × Nat} {a : Act} {w : World} (hs : TSat ρ A nt T a) (hl : w.heap[l]? = some (.loop r)) :
    (execOp a.eval o).run P w = .ok (.round l r.fn ((r.params.zip (SV.trs ρ as).toArray).foldl (fun tmps (t, a) => tmps.setIfInBounds t a) r.tmps) r.assign r.body) w := by
  obtain ⟨h1, h2⟩ := ev_tr hs hx
  obtain ⟨h3, h4⟩ := evs_tr hs has
  have hmap : c.args.map a.eval = (SV.trs ρ as).toArray := by rw [toArr_map, h3]
  have hy := run_yield (P := P) (args := (SV.trs ρ as).toArray) hl (by simp [trs_length, hn])
  simp only [execOp, hop, Sem.run_bind]
  simp only [resolve, hcal, h1, SV.tr, Deferred.ofValue, hmap, Sem.run_pure, Result.andThen_ok, invoke]
  simpa using hy
section
variable {P : Program} {X : Tabs} (hX : TOk P X) {rd : Option Nat} {D : List Deferred} {Q : Exit → Act → World → Prop} {w0 : World} {bs : Nat → Prop} {H0 : List HE} {ρ0 : Nat → Nat × Nat} {fn : Func} {nt : Nat} {K : List (Nat × Obj)} {k k' : List KI} {T T1 : List (Nat × SV)} {H H1 : List HE}
/-- A part of a region, gone through by the machine. -/
theorem si_ops_run {all pre post : List Oper} (hn : regNd pre = true) (hno : newOwn H H1 = true)
    (h : ∀ ρ W (J : Act → World → Prop), (∀ cs T' H', Sub (FEnv P X.TE hX.te fn nt H Not2 ρ W) T' H' T1 H1 → SS hX (At ρ W) Not2 ⟨cs, [], fn, nt, H, [.lp J], T', H'⟩) → SS hX (At ρ W) Not2 ⟨[], [], fn, nt, H, [.ops all pre, .lp J], T, H⟩)
    (hk : (SI (P := P) rd D Q w0 bs H0 ρ0 nt K) (.ops all post :: k) T1 H1) : (SI (P := P) rd D Q w0 bs H0 ρ0 nt K) (.ops all (pre ++ post) :: k) T H := SI.of fun ρ a W hs => by
  simp only [WKi]
  have hs0 : Sat (FEnv P X.TE hX.te fn nt H Not2 ρ W) ρ T H a W := ⟨hs.hs.rebase, hs.ts, fun x hx => ⟨rfl, hx⟩⟩
  let J : Act → World → Prop := fun a' w' => ∃ ρ', Sat (FEnv P X.TE hX.te fn nt H Not2 ρ W) ρ' T1 H1 a' w'
  have hw := sw_ss hX (h ρ W J fun cs T H' hsub => ss_sw hX fun ρ1 a1 w1 hs1 => hsub ρ1 a1 w1 hs1) ρ a W hs0
  refine wl_append (wl_in (Qs := WK P (FEnv P X.TE hX.te fn nt H Not2 ρ W).Q [.lp J]) (fun e a w => wk_lp_normal hX e a w) (fun a' w' hJ => ?_) (regNd_mem hn) hw)
  obtain ⟨ρ', hs'⟩ := hJ
  have := si_next hX (fn := fn) hk hno hs.hs hs.base hs.kept hs'
  simp only [WKi] at this
  exact ⟨rfl, this⟩
/-- A call of yield. -/
theorem si_ops_yield {all post : List Oper} {o : Oper} {c : Call} {l : Nat} {as : List SV} {r : Loop} {x : Operand} (hop : o.op = .call c) (hcal : c.callee = .value x) (hg : guardF all T o.guard = 0)
    (hx : ev T x = some (.raw (.func (.yield l) #[] #[]))) (has : evs T c.args.toList = some as) (hn : as.length = r.params.size)
    (h : ∀ ρ a W, SatK w0 bs H0 ρ0 nt ((l, .loop r) :: K) ρ T H a W →
      RoundIn Fence.wide 0 P l r.fn ((r.params.zip (SV.trs ρ as).toArray).foldl (fun tmps (t, a) => tmps.setIfInBounds t a) r.tmps) r.assign r.body W fun e W' => match e with
        | .returned v => wpListIn (Fw rd) 0 P all.toArray (WKi rd P Q k) post (lift D (a.put o.dst v)) W'
        | _ => False) :
    SI (P := P) rd D Q w0 bs H0 ρ0 nt ((l, .loop r) :: K) (.ops all (o :: post) :: k) T H := SI.of fun ρ a W hs => by
  obtain ⟨k1, _⟩ := hs.kept (l, .loop r) (List.mem_cons_self ..)
  have hd : ∀ c, o.op ≠ .defer c := fun c e => by rw [hop] at e; cases e
  have hrun := yield_run (P := P) hop hcal hx has hn hs.ts k1
  have hw : Region.wanted o (yielded all.toArray (lift D a).tmps) = true := by
    have := guard_wanted (E := ⟨P, fun _ => TI.none, nt, Q, w0, bs, H0, ρ0, fun t => TIok.of_check (i := TI.none) (by simp [checkT, TI.none])⟩) (ρ := ρ) (T := T) (H := H) (a := a) (w := W) ⟨hs.hs, hs.ts, hs.base⟩ hg
    exact this
  simp only [WKi]
  unfold wpListIn
  rw [if_pos hw]
  refine ⟨fun _ _ => trivial, ?_⟩
  rw [Oper.semAt_eq _ _ _ hd, lift_eval, hrun, Oper.uponIn_round]
  refine ⟨fun e => by simp [Fw, Fence.wide] at e, ?_⟩
  refine RoundIn.mono (show RoundIn (Fw rd) 0 P l _ _ _ _ W _ from h ρ a W hs) fun e W' he => ?_
  cases e with
  | returned v =>
    show wpListIn (Fw rd) 0 P all.toArray (WKi rd P Q k) post ((lift D a).put o.dst v) W'
    rw [← lift_put]; exact he
  | panicked c => exact he.elim
  | outgrown => exact he.elim
/-- The mark of a loop's deferred calls. -/
def markD (b : Nat) : Deferred := { target := .collected b, args := #[] }
def recL (fid : FuncId) (tm : Array Value) (ps : Array Tmp) (assign body : Code) (b : Nat) : Loop := { state := .ready, pending := none, fn := fid, tmps := tm, params := ps, assign := assign, body := body, defers := b }
/-- The statement that ranges over a function. -/
theorem si_range {g tf : Nat} {caps : List SV} {fng : Func} {ps : Array Tmp} {assign body : Code} (hl : look T tf = some (.func (.func g) [] caps)) (hfn : P.funcs[g]? = some fng) (hb : fng.body.isSome = true) (hname : (fng.name == "runtime.NumGoroutine") = false)
    (h : ∀ ρ a W fid, SatK w0 bs H0 ρ0 nt K ρ T H a W → Calls P g (#[.func (.yield (W.heap.size + 1)) #[] #[]] ++ (SV.trs ρ caps).toArray) ((W.alloc (.deferred (some []))).alloc (.loop (recL fid a.tmps ps assign body W.heap.size))) fun e W2 => match e with
      | .returned _ => ∃ jump W3, (Instr.endLoop (W.heap.size + 1)).run P W2 = .ok jump W3 ∧ (match jump with
        | none => WKi none P Q k .normal (lift [markD W.heap.size] a) W3
        | some c => WKi none P Q (.code c :: k) .normal (lift [markD W.heap.size] a) W3)
      | _ => False) :
    SI (P := P) none [] Q w0 bs H0 ρ0 nt K (.code (.rangeFunc (.tmp tf) ps assign body) :: k) T H := SI.of fun ρ a W hs => by
  simp only [WKi]
  rw [lift_nil]
  refine wpIn_rangeFunc fun fid _ => ?_
  have hev : a.eval (.tmp tf) = .func (.func g) #[] (SV.trs ρ caps).toArray := by
    have := look_eval (D := []) hs.ts hl
    rw [lift_nil] at this
    rw [this]; rfl
  have hd0 : a.defers = [] := hs.ts.def0
  have hnone : ¬ fng.body = none := by intro e; rw [e] at hb; simp at hb
  have hn' : ¬ fng.name = "runtime.NumGoroutine" := by intro e; rw [e] at hname; simp at hname
  refine ⟨W.heap.size + 1, [markD W.heap.size], (W.alloc (.deferred (some []))).alloc (.loop (recL fid a.tmps ps assign body W.heap.size)), { target := .fn (.func g) (SV.trs ρ caps).toArray, args := #[.func (.yield (W.heap.size + 1)) #[] #[]] }, (W.alloc (.deferred (some []))).alloc (.loop (recL fid a.tmps ps assign body W.heap.size)), g, #[.func (.yield (W.heap.size + 1)) #[] #[]] ++ (SV.trs ρ caps).toArray, (W.alloc (.deferred (some []))).alloc (.loop (recL fid a.tmps ps assign body W.heap.size)), run_enterLoop_outer fid a.tmps ps assign body, ?_, fun f' _ => trivial, ?_, fun e => by simp [Fw, Fence.wide] at e, ?_⟩
  · show (Deferred.ofValue (a.eval (.tmp tf)) _).run P _ = _
    rw [hev]
    simp [Deferred.ofValue, Sem.run_pure, Act.eval]
  · simp [invoke, callFunc, Sem.run_bind, run_program, hfn, hn', hnone]
  · refine callsIn_fw.2 (Calls.mono (h ρ a W fid hs) fun e W2 he => ?_)
    cases e with
    | returned v =>
      obtain ⟨jump, W3, he1, he2⟩ := he
      refine ⟨jump, W3, he1, ?_⟩
      have e3 : ({ a with defers := [markD W.heap.size] ++ a.defers } : Act) = lift [markD W.heap.size] a := by simp [lift, hd0]
      rw [e3]
      cases jump with
      | none => exact he2
      | some c => simp only [WKi] at he2; exact he2
    | panicked c => exact he.elim
    | outgrown => exact he.elim
end
end Go.Hx

/-
  A range over a function: into the function that is ranged over, and out of it; a function with a loop's mark.
-/
namespace Go.Hx
open Go

section
variable {P : Program} {rd : Option Nat} {D : List Deferred} {Q : Exit → Act → World → Prop} {w0 : World} {bs : Nat → Prop} {H0 : List HE} {ρ0 : Nat → Nat × Nat} {nt : Nat} {K : List (Nat × Obj)} {k k' : List KI} {T T1 : List (Nat × SV)} {H H1 : List HE}
theorem argSat {ρ : Nat → Nat × Nat} {A : Nat → Bool} {args : List SV} (hok : SV.okhs A args = true) (hn : args.length ≤ nt) : TSat ρ A nt (argT 0 args) { tmps := (SV.trs ρ args).toArray ++ Array.replicate (nt - (SV.trs ρ args).toArray.size) undef, defers := [] } := by
  refine ⟨?_, ?_, rfl⟩
  · intro t v hv
    obtain ⟨_, h2⟩ := argT_get hv
    simp only [Nat.sub_zero] at h2
    refine ⟨?_, (okhs_iff args).1 hok v (List.mem_of_getElem? h2)⟩
    have hlt : t < args.length := by
      rcases Nat.lt_or_ge t args.length with h1 | h1
      · exact h1
      · rw [List.getElem?_eq_none h1] at h2; simp at h2
    rw [Array.getElem?_append_left (by simp [trs_length]; exact hlt)]
    simp [trs_eq_map, h2]
  · simp [trs_length]; omega
/-- A function is gone into, whatever is wanted of it. -/
theorem si_intro {g : Nat} {fng : Func} {c : Code} {as : List SV} {R : Ending → World → Prop} {ρ : Nat → Nat × Nat} {W : World} (hf : P.funcs[g]? = some fng) (hb : fng.body = some c) (hn : as.length ≤ fng.ntmps) (hok : SV.okhs (there H) as = true)
    (hs : HSat w0 bs ρ H W) (hbase : ∀ h, there H0 h = true → ρ h = ρ0 h ∧ there H h = true) (hk : Kept K ρ H W)
    (h : SI (P := P) none [] (bodyPostM (Fw none) 0 P fng R) w0 bs H0 ρ0 fng.ntmps K [.code c] (argT 0 as) H) : Calls P g (SV.trs ρ as).toArray W R := by
  refine callsIn_fw.1 (callsIn_of_wp_marks (F := Fw none) (n := 0) hf hb trivial ?_)
  have := h.at (ρ := ρ) (W := W) ⟨hs, argSat hok hn, hbase, hk⟩
  rw [lift_nil] at this
  simp only [WKi] at this
  refine wpIn_mono this fun e a w hq => ?_
  cases e <;> exact hq
theorem SatK.putL {ρ : Nat → Nat × Nat} {a : Act} {W : World} {l : Nat} {o o' : Obj} (hs : SatK w0 bs H0 ρ0 nt ((l, o) :: K) ρ T H a W) (hl : w0.heap.size ≤ l ∨ bs l) (hK : ∀ p ∈ K, p.1 ≠ l) : SatK w0 bs H0 ρ0 nt ((l, o') :: K) ρ T H a (W.putObj l o') := by
  obtain ⟨k1, k2⟩ := hs.kept (l, o) (List.mem_cons_self ..)
  have hlt : l < W.heap.size := (Array.getElem?_eq_some_iff.1 k1).1
  refine ⟨hs.hs.putKept hl k2, hs.ts, hs.base, fun p hp => ?_⟩
  simp only [List.mem_cons] at hp
  rcases hp with rfl | hp
  · exact ⟨World.putObj_heap_same hlt, k2⟩
  · obtain ⟨q1, q2⟩ := hs.kept p (List.mem_cons_of_mem _ hp)
    exact ⟨by rw [World.putObj_heap_other (hK p hp)]; exact q1, q2⟩
/-- What a round knows of its parameters. -/
def putP : List Nat → List SV → List (Nat × SV) → List (Nat × SV)
  | p :: ps, v :: vs, T => putP ps vs ((p, v) :: T)
  | _, _, T => T
def psLt (n : Nat) : List Nat → Bool
  | [] => true
  | p :: r => match Nat.ble (p + 1) n with
    | true => psLt n r
    | false => false
theorem putP_sat {ρ : Nat → Nat × Nat} {A : Nat → Bool} : ∀ {ps : List Nat} {vs : List SV} {T : List (Nat × SV)} {tm : Array Value}, TSat ρ A nt T { tmps := tm, defers := [] } → SV.okhs A vs = true → psLt nt ps = true →
    TSat ρ A nt (putP ps vs T) { tmps := (ps.zip (SV.trs ρ vs)).foldl (fun tmps (t, a) => tmps.setIfInBounds t a) tm, defers := [] }
  | [], vs, T, tm, h, _, _ => by cases vs <;> exact h
  | p :: ps, [], T, tm, h, _, _ => h
  | p :: ps, v :: vs, T, tm, h, hv, hp => by
    simp only [SV.okhs, Bool.and_eq_true] at hv
    simp only [psLt] at hp
    split at hp
    · rename_i hb
      have hlt : p < nt := Nat.le_of_ble_eq_true hb
      have h2 := h.put hlt hv.1
      exact putP_sat (ps := ps) (vs := vs) (T := (p, v) :: T) (tm := tm.setIfInBounds p (v.tr ρ)) h2 hv.2 hp
    · simp at hp
/-- A call of yield: a round. -/
theorem si_yield {all post : List Oper} {o : Oper} {c : Call} {l d nto : Nat} {as : List SV} {r : Loop} {x : Operand} {To : List (Nat × SV)} (hop : o.op = .call c) (hcal : c.callee = .value x) (hg : guardF all T o.guard = 0)
    (hx : ev T x = some (.raw (.func (.yield l) #[] #[]))) (has : evs T c.args.toList = some as) (hn : as.length = r.params.size) (hst : r.state = .ready) (hd : o.dst = some d) (hdn : d < nt)
    (hl : w0.heap.size ≤ l ∨ bs l) (hK : ∀ p ∈ K, p.1 ≠ l) (hps : psLt nto r.params.toList = true) (ho : TSat ρ0 (there H0) nto To { tmps := r.tmps, defers := [] })
    (h : ∀ (ρ : Nat → Nat × Nat) (Qr : Exit → Act → World → Prop) (J : Act → World → Prop),
      (∀ T2 H1, SI (P := P) (some l) [] Qr w0 bs H ρ nto ((l, .loop { r with state := .busy }) :: K) [.code r.body] T2 H1 → SI (P := P) (some l) [] (fun _ _ _ => False) w0 bs H ρ nto ((l, .loop r) :: K) [.lp J] T2 H1) →
      (∀ T2 H1, SI (P := P) rd D Q w0 bs H0 ρ0 nt ((l, .loop { r with state := .ready, pending := none }) :: K) (.ops all post :: k) ((d, .tt) :: T) H1 → SI (P := P) (some l) [] Qr w0 bs H ρ nto ((l, .loop { r with state := .busy }) :: K) [] T2 H1) →
      (∀ id T2 H1 kk, noBlk id kk = true → SI (P := P) rd D Q w0 bs H0 ρ0 nt ((l, .loop { r with state := .done, pending := some (.exit id) }) :: K) (.ops all post :: k) ((d, .ff) :: T) H1 → SI (P := P) (some l) [] Qr w0 bs H ρ nto ((l, .loop { r with state := .busy }) :: K) (.code (.exit id) :: kk) T2 H1) →
      SI (P := P) (some l) [] (fun _ _ _ => False) w0 bs H ρ nto ((l, .loop r) :: K) [.code r.assign, .lp J] (putP r.params.toList as To) H) :
    SI (P := P) rd D Q w0 bs H0 ρ0 nt ((l, .loop r) :: K) (.ops all (o :: post) :: k) T H := by
  refine si_ops_yield hop hcal hg hx has hn fun ρ a W hs => ?_
  have hok := (evs_tr hs.ts has).2
  have ho2 : TSat ρ (there H) nto To { tmps := r.tmps, defers := [] } := ho.ext (fun y hy => (hs.base y hy).1.symm) (fun y hy => (hs.base y hy).2)
  have hp := putP_sat (ps := r.params.toList) (vs := as) ho2 hok hps
  have e1 : (r.params.toList.zip (SV.trs ρ as)).foldl (fun tmps (t, a) => tmps.setIfInBounds t a) r.tmps = (r.params.zip (SV.trs ρ as).toArray).foldl (fun tmps (t, a) => tmps.setIfInBounds t a) r.tmps := by
    rw [← Array.foldl_toList]
    simp [Array.toList_zip]
  rw [e1] at hp
  have next : ∀ {b : Bool} {vb : SV} {r2 : Loop} {ρ' : Nat → Nat × Nat} {a' : Act} {W' : World} {T2 : List (Nat × SV)} {H1 : List HE}, vb.tr ρ' = .bool b → vb.okh (there H1) = true →
      SI (P := P) rd D Q w0 bs H0 ρ0 nt ((l, .loop r2) :: K) (.ops all post :: k) ((d, vb) :: T) H1 → SatK w0 bs H ρ nto ((l, .loop { r with state := .busy }) :: K) ρ' T2 H1 a' W' →
      wpListIn (Fw rd) 0 P all.toArray (WKi rd P Q k) post (lift D (a.put o.dst (.bool b))) (W'.putObj l (.loop r2)) := by
    intro b vb r2 ρ' a' W' T2 H1 hv hvo hsi hs'
    have hs2 := hs'.putL (o' := .loop r2) hl hK
    have ht : TSat ρ' (there H1) nt T a := hs.ts.ext (fun y hy => (hs'.base y hy).1.symm) (fun y hy => (hs'.base y hy).2)
    have := hsi.at (ρ := ρ') (a := a.put (some d) (vb.tr ρ')) (W := W'.putObj l (.loop r2)) ⟨hs2.hs, ht.put hdn hvo, fun y hy => ⟨(hs'.base y (hs.base y hy).2).1.trans (hs.base y hy).1, (hs'.base y (hs.base y hy).2).2⟩, hs2.kept⟩
    simp only [WKi] at this
    rw [hd, ← hv]
    exact this
  refine round_in (h ρ _ _ (fun T2 H1 hb => si_begin hl hst hK hb) (fun T2 H1 hsi => ?_) (fun id T2 H1 kk hnb hsi => ?_)) ⟨hs.hs, hp, fun y hy => ⟨rfl, hy⟩, hs.kept⟩
  · exact si_round_end fun ρ' a' W' hs' => next (vb := .tt) rfl rfl hsi hs'
  · exact si_round_out hnb fun ρ' a' W' hs' => next (vb := .ff) rfl rfl hsi hs'
theorem alloc_old {W : World} {o : Obj} {b : Nat} (h : b < W.heap.size) : (W.alloc o).heap[b]? = W.heap[b]? := by
  show (W.heap.push o)[b]? = _
  rw [Array.getElem?_push_lt h]
  simp [h]
/-- The world of a function that is ranged over. -/
def loopW (W : World) (r : Loop) : World := (W.alloc (.deferred (some []))).alloc (.loop r)
theorem loopW_size {W : World} {r : Loop} : (loopW W r).heap.size = W.heap.size + 2 := by simp [loopW]
theorem loopW_old {W : World} {r : Loop} {b : Nat} (h : b < W.heap.size) : (loopW W r).heap[b]? = W.heap[b]? := by
  rw [loopW, alloc_old (by simp; omega), alloc_old h]
theorem loopW_sat {W : World} {r : Loop} {ρ : Nat → Nat × Nat} (h : HSat w0 bs ρ H W) : HSat (loopW W r) (fun b => Own ρ H b ∨ b = W.heap.size + 1) ρ H (loopW W r) := by
  refine ⟨fun x ox hx => ?_, fun x hx => by rw [loopW_size]; have := h.size x hx; omega, h.inj, fun x o hx ho => .inl (.inl ⟨x, o, hx, ho, rfl⟩), Fr.refl _ _⟩
  obtain ⟨h1, h2⟩ := h.objs x ox hx
  exact ⟨ox.holds_world (loopW_old (h.size x (there_of_obj hx))) h1, h2⟩
theorem loopW_kept {W : World} {r : Loop} {ρ : Nat → Nat × Nat} (h : HSat w0 bs ρ H W) : Kept [(W.heap.size + 1, .loop r), (W.heap.size, .deferred (some []))] ρ H (loopW W r) := by
  intro p hp
  simp only [List.mem_cons, List.not_mem_nil, or_false] at hp
  rcases hp with rfl | rfl
  · refine ⟨?_, fun x o hx e => ?_⟩
    · have := World.alloc_heap_new (W.alloc (.deferred (some []))) (.loop r)
      rw [World.size_alloc] at this
      exact this
    · have := h.size x (there_of_obj hx); simp at e; omega
  · refine ⟨?_, fun x o hx e => ?_⟩
    · show ((W.alloc (.deferred (some []))).alloc (.loop r)).heap[W.heap.size]? = _
      rw [alloc_old (by simp), World.alloc_heap_new]
    · have := h.size x (there_of_obj hx); simp at e; omega
theorem loopW_back {W W' : World} {r : Loop} {ρ ρ' : Nat → Nat × Nat} (h2 : HSat (loopW W r) (fun b => Own ρ H b ∨ b = W.heap.size + 1) ρ' H1 W') : HSat W (Own ρ H) ρ' H1 W' := by
  refine ⟨h2.objs, h2.size, h2.inj, fun x o hx ho => ?_, ⟨?_, fun b hb hn => ?_, ?_⟩⟩
  · rcases h2.own x o hx ho with (q | q) | q
    · exact .inl q
    · exact .inr (by omega)
    · rw [loopW_size] at q; exact .inr (by omega)
  · have := h2.fr.size; rw [loopW_size] at this; omega
  · rw [h2.fr.same b (by rw [loopW_size]; omega) (by rintro (q | q); exact hn q; omega), loopW_old hb]
  · exact h2.fr.io
/-- What comes behind a loop. -/
def beyond (k : List KI) : Option Code → List KI
  | none => k
  | some c => .code c :: k
/-- A range over a function. -/
theorem si_over {g tf : Nat} {caps : List SV} {fng : Func} {cg : Code} {ps : Array Tmp} {assign body : Code} (hl : look T tf = some (.func (.func g) [] caps)) (hfn : P.funcs[g]? = some fng) (hb : fng.body = some cg) (hname : (fng.name == "runtime.NumGoroutine") = false)
    (hres : fng.results = #[]) (hcn : Nat.ble (caps.length + 1) fng.ntmps = true)
    (h : ∀ ρ (a : Act) (W1 : World) (l b : Nat) (bs1 : Nat → Prop) (fid : FuncId) (Qi : Exit → Act → World → Prop), TSat ρ (there H) nt T a → b ≠ l → bs1 l →
      (∀ T2 H2 (r2 : Loop), r2.state ≠ .busy → newOwn H H2 = true → (∀ b', w0.heap.size ≤ b' → SI (P := P) none [markD b'] Q w0 bs H0 ρ0 nt ((b', .deferred (some [])) :: K) (beyond k r2.pending) T H2) →
        SI (P := P) none [] Qi W1 bs1 H ρ fng.ntmps [(l, .loop r2), (b, .deferred (some []))] [] T2 H2 ∧ ∀ kk, SI (P := P) none [] Qi W1 bs1 H ρ fng.ntmps [(l, .loop r2), (b, .deferred (some []))] (.code .ret :: kk) T2 H2) →
      SI (P := P) none [] Qi W1 bs1 H ρ fng.ntmps [(l, .loop (recL fid a.tmps ps assign body b)), (b, .deferred (some []))] [.code cg] (argT 0 (.raw (.func (.yield l) #[] #[]) :: caps)) H) :
    SI (P := P) none [] Q w0 bs H0 ρ0 nt K (.code (.rangeFunc (.tmp tf) ps assign body) :: k) T H := by
  refine si_range hl hfn (by rw [hb]; rfl) hname fun ρ a W fid hs => ?_
  have e1 : (#[.func (.yield (W.heap.size + 1)) #[] #[]] ++ (SV.trs ρ caps).toArray : Array Value) = (SV.trs ρ (.raw (.func (.yield (W.heap.size + 1)) #[] #[]) :: caps)).toArray := by
    simp [SV.trs, SV.tr]
  rw [e1]
  refine si_intro (K := [(W.heap.size + 1, .loop (recL fid a.tmps ps assign body W.heap.size)), (W.heap.size, .deferred (some []))]) (w0 := loopW W (recL fid a.tmps ps assign body W.heap.size)) (bs := fun b => Own ρ H b ∨ b = W.heap.size + 1) (H := H) (H0 := H) (ρ0 := ρ) hfn hb (by have := Nat.le_of_ble_eq_true hcn; simp; omega) ?_ (loopW_sat hs.hs) (fun _ hh => ⟨rfl, hh⟩) (loopW_kept hs.hs) ?_
  · simp only [SV.okhs, Bool.and_eq_true]
    have := (hs.ts.val tf _ hl).2
    simp only [SV.okh, Bool.and_eq_true] at this
    exact ⟨rfl, this.2⟩
  · refine h ρ a _ (W.heap.size + 1) W.heap.size _ fid _ hs.ts (by omega) (.inr rfl) fun T2 H2 r2 hr2 hno hbey => ?_
    have key : ∀ ρ' a' W', SatK (loopW W (recL fid a.tmps ps assign body W.heap.size)) (fun b => Own ρ H b ∨ b = W.heap.size + 1) H ρ fng.ntmps [(W.heap.size + 1, .loop r2), (W.heap.size, .deferred (some []))] ρ' T2 H2 a' W' →
        ∃ v, (results fng a'.tmps).run P W' = .ok v W' ∧ ∃ jump W3, (Instr.endLoop (W.heap.size + 1)).run P W' = .ok jump W3 ∧ (match jump with
          | none => WKi none P Q k .normal (lift [markD W.heap.size] a) W3
          | some c => WKi none P Q (.code c :: k) .normal (lift [markD W.heap.size] a) W3) := by
      intro ρ' a' W' hs'
      obtain ⟨k1, _⟩ := hs'.kept (W.heap.size + 1, .loop r2) (List.mem_cons_self ..)
      refine ⟨_, by rw [results_none hres], _, _, run_endLoop k1 hr2, ?_⟩
      have hs3 := hs'.putL (o' := .loop { r2 with state := .exhausted }) (.inr (.inr rfl)) (by intro p hp; simp at hp; subst hp; simp)
      have hb2 := loopW_back hs3.hs
      obtain ⟨k3, k4⟩ := hs3.kept (W.heap.size, .deferred (some [])) (by simp)
      have hk2 := hs.kept.next hb2 hs'.base hno
      have := (hbey W.heap.size hs.hs.fr.size).at (ρ := ρ') (a := a) (W := W'.putObj (W.heap.size + 1) (.loop { r2 with state := .exhausted })) ⟨hs.hs.comp hb2, hs.ts.ext (fun y hy => (hs'.base y hy).1.symm) (fun y hy => (hs'.base y hy).2), fun y hy => ⟨(hs'.base y (hs.base y hy).2).1.trans (hs.base y hy).1, (hs'.base y (hs.base y hy).2).2⟩, fun p hp => ?_⟩
      · cases hpe : r2.pending with
        | none => rw [hpe] at this; exact this
        | some c => rw [hpe] at this; exact this
      · simp only [List.mem_cons] at hp
        rcases hp with rfl | hp
        · exact ⟨k3, k4⟩
        · exact hk2 p hp
    have hret : ∀ (e : Exit), (e = .ret ∨ e = .normal) → ∀ ρ' a' W', SatK (loopW W (recL fid a.tmps ps assign body W.heap.size)) (fun b => Own ρ H b ∨ b = W.heap.size + 1) H ρ fng.ntmps [(W.heap.size + 1, .loop r2), (W.heap.size, .deferred (some []))] ρ' T2 H2 a' W' →
        bodyPostM (Fw none) 0 P fng (fun e W2 => match e with
          | .returned _ => ∃ jump W3, (Instr.endLoop (W.heap.size + 1)).run P W2 = .ok jump W3 ∧ (match jump with
            | none => WKi none P Q k .normal (lift [markD W.heap.size] a) W3
            | some c => WKi none P Q (.code c :: k) .normal (lift [markD W.heap.size] a) W3)
          | _ => False) e (lift [] a') W' := by
      intro e he ρ' a' W' hs'
      have hd0 : a'.defers = [] := hs'.ts.def0
      obtain ⟨v, hv1, hv2⟩ := key ρ' a' W' hs'
      rcases he with rfl | rfl <;>
      · simp only [bodyPostM, lift, hd0, List.append_nil, LeavesInM, LeavesIn]
        exact ⟨v, hv1, hv2⟩
    exact ⟨SI.of fun ρ' a' W' hs' => by simp only [WKi]; exact hret _ (.inr rfl) ρ' a' W' hs', fun kk => si_ret fun ρ' a' W' hs' => hret _ (.inl rfl) ρ' a' W' hs'⟩
end
section
variable {P : Program} {X : Tabs} (hX : TOk P X) {fn : Func} {k : List KI} {T : List (Nat × SV)} {H H0 : List HE} {R : SV → List HE → Prop} {ρ0 : Nat → Nat × Nat} {w0 : World}
/-- What a function gives whose code has a range over a function. -/
theorem si_fn {f : Nat} {c : Code} {args : List SV} (hf : P.funcs[f]? = some fn) (hb : fn.body = some c) (hn : Nat.ble args.length fn.ntmps = true)
    (h : ∀ ρ w, SI (P := P) none [] (bodyPostM (Fw none) 0 P fn (FnPost w ρ H0 R)) w (Own ρ H0) H0 ρ fn.ntmps [] [.code c] (argT 0 args) H0) : Gives P f args H0 R := fun ρ w hS hok =>
  si_intro (K := []) hf hb (Nat.le_of_ble_eq_true hn) hok hS (fun _ hx => ⟨rfl, hx⟩) (fun _ hp => by simp at hp) (h ρ w)
/-- The end, behind a loop. -/
theorem si_mark_ret {nt b : Nat} (hb : w0.heap.size ≤ b) (h : SS hX (At ρ0 w0) R ⟨[], [], fn, nt, H0, [], T, H⟩) : SI (P := P) none [markD b] (bodyPostM (Fw none) 0 P fn (FnPost w0 ρ0 H0 R)) w0 (Own ρ0 H0) H0 ρ0 nt [(b, .deferred (some []))] (.code .ret :: k) T H := si_ret fun ρ a W hs => by
  obtain ⟨k1, _⟩ := hs.kept (b, .deferred (some [])) (by simp)
  have hs2 := hs.putL (o' := .deferred none) (.inl hb) (by simp)
  have hp : bodyPost P fn (FnPost w0 ρ0 H0 R) .normal a (W.putObj b (.deferred none)) := sw_ss hX h ρ a _ ⟨hs2.hs, hs2.ts, hs2.base⟩
  obtain ⟨h1, v, h2, h3⟩ := hp
  simp only [bodyPostM, lift, h1, List.nil_append, LeavesInM, LeavesIn]
  exact ⟨by simp, .inl ⟨b, _, rfl, run_takeDeferred k1, v, h2, h3⟩⟩
end
end Go.Hx

/-
  A statement list with labels, where nothing is gone to; the walker's way through regions in any frame.
-/
namespace Go.Hx
open Go

section
variable {P : Program} {F : Fence} {n : Nat} {b : Frame} {a : Act} {k : List Item} {cs : List Frame} {w : World} {Q : Exit → Act → World → Prop}
end
section
variable {P : Program} {X : Tabs} (hX : TOk P X) {rd : Option Nat} {D : List Deferred} {Q : Exit → Act → World → Prop} {w0 : World} {bs : Nat → Prop} {H0 : List HE} {ρ0 : Nat → Nat × Nat} {fn : Func} {nt : Nat} {K : List (Nat × Obj)} {k : List KI} {T T1 : List (Nat × SV)} {H H1 : List HE}
theorem si_cond {t : Nat} {b : Bool} {x y : Code} (hl : look T t = some (.bool b)) (ht : b = true → (SI (P := P) rd D Q w0 bs H0 ρ0 nt K) (.code x :: k) T H) (hf : b = false → (SI (P := P) rd D Q w0 bs H0 ρ0 nt K) (.code y :: k) T H) : (SI (P := P) rd D Q w0 bs H0 ρ0 nt K) (.code (.cond (.tmp t) x y) :: k) T H := SI.of fun ρ a W hs => by
  have he : (lift D a).eval (.tmp t) = .bool b := look_eval hs.ts hl
  cases b with
  | true =>
    have := (ht rfl).at hs
    simp only [WKi] at *
    exact wpIn_cond_true he this
  | false =>
    have := (hf rfl).at hs
    simp only [WKi] at *
    exact wpIn_cond_false he this
include hX in
/-- The same, told otherwise: under other names, less. -/
theorem si_told (σs : List Nat) (hlen : Nat.beq σs.length H1.length = true) (hnd : nodupN σs = true) (hb : fromN H0.length 0 σs = true) (hb' : leH H0 H1 = true)
    (hT : subT (sig σs 0) T T1) (hH : subH (sig σs 0) H 0 H1) (hok1 : okTP (thereF H1) T1) (hok2 : okHP (thereF H1) H1) (h : (SI (P := P) rd D Q w0 bs H0 ρ0 nt K) k T1 H1) : (SI (P := P) rd D Q w0 bs H0 ρ0 nt K) k T H := si_sub (fun ρ x => ρ (sig σs 0 x)) (fun ρ a W hs => by
  have q := subS_of (E := ⟨P, X.TE, nt, Q, w0, bs, H0, ρ0, hX.te⟩) σs hlen hnd hb hb' hT hH hok1 hok2 ρ a W ⟨hs.hs, hs.ts, hs.base⟩
  refine ⟨q.hs, q.ts, q.base, fun p hp => ?_⟩
  obtain ⟨k1, k2⟩ := hs.kept p hp
  refine ⟨k1, fun x o hx => ?_⟩
  obtain ⟨u, hu, _⟩ := (subH_get hH (h := x)).1 hx
  rw [Nat.zero_add] at hu
  exact k2 _ u hu) h
/-- A region's operations in two parts. -/
theorem si_split {all l : List Oper} (n : Nat) (h : (SI (P := P) rd D Q w0 bs H0 ρ0 nt K) (.ops all (l.take n ++ l.drop n) :: k) T H) : (SI (P := P) rd D Q w0 bs H0 ρ0 nt K) (.ops all l :: k) T H := by rwa [List.take_append_drop] at h
end
section
variable {P : Program} {X : Tabs} (hX : TOk P X) {fn : Func} {cs : List Ch} {nt : Nat} {T : List (Nat × SV)} {H H0 : List HE} {Wb : (Nat → Nat × Nat) → World → Prop}
/-- The end behind a loop: what is told. -/
theorem ss_end0 {V : SV} {L : List HE} {ob : List Prop} {vs : List SV} (σs : List Nat) (hr : resF X.TE fn.results.toList T H = some (ob, vs)) (ho : conjP ob)
    (hlen : Nat.beq σs.length L.length = true) (hnd : nodupN σs = true) (hb : fromN H0.length 0 σs = true) (hb' : leH H0 L = true)
    (hv : sim (tupF vs) (V.ren (sig σs 0))) (hH : subH (sig σs 0) H 0 L) (hok1 : okP (thereF L) V) (hok2 : okHP (thereF L) L) : SS hX Wb (Is V L) ⟨cs, [], fn, nt, H0, [], T, H⟩ := by
  intro ρ0 w0 hw
  have hsub := subS_of (E := FEnv P X.TE hX.te fn nt H0 (Is V L) ρ0 w0) (T := T) (T' := []) (H := H) (H' := L) σs hlen hnd hb hb' trivial hH trivial hok2
  intro ρ a w hsat
  have post : bodyPost P fn (FnPost w0 ρ0 H0 (Is V L)) .ret a w := by
    obtain ⟨h1, h2⟩ := results_ok hsat hr (conjP_all ho)
    have hs := hsub ρ a w hsat
    have hfun : thereF L = there L := funext (thereF_eq L)
    refine ⟨hsat.ts.def0, _, h1, _, L, V, ⟨rfl, rfl⟩, ?_, by rw [← hfun]; exact okP_okh V hok1, hs.hs, hs.base⟩
    rw [(sim_tr (A := fun _ => true) hv).1, tr_ren]
  exact post
end
end Go.Hx

/-
  Regions that draw, where an operation looks at a temporary that a later one writes: what stood there at first is looked at.
-/
namespace Go.Hx
open Go







section
variable {P : Program} {X : Tabs} (hX : TOk P X)
variable {Wb : (Nat → Nat × Nat) → World → Prop} {R : SV → List HE → Prop} {fn : Func} {nt : Nat} {H0 : List HE} {k : List KI} {T : List (Nat × SV)} {H : List HE} {cs : List Ch} {fs : List Fm}
end
end Go.Hx

/-
  Regions that draw, where several cells are made without order against a call that needs no cell.
-/
namespace Go.Hx
open Go

section
variable {E : Env} {al : List Oper} {Tn : List (Nat × SV)} {D : Nat → Bool} {ρ : Nat → Nat × Nat} {H : List HE} {a : Act} {w : World}

end



section
variable {E : Env} {al : List Oper} {Tn : List (Nat × SV)} {D : Nat → Bool} {ρ : Nat → Nat × Nat} {H : List HE} {a : Act} {w : World}
end



section
variable {P : Program} {X : Tabs} (hX : TOk P X)
variable {Wb : (Nat → Nat × Nat) → World → Prop} {R : SV → List HE → Prop} {fn : Func} {nt : Nat} {H0 : List HE} {k : List KI} {T : List (Nat × SV)} {H : List HE} {cs : List Ch} {fs : List Fm}
end
end Go.Hx

/-
  Regions that draw, where one row is made (a literal) that no call waits for and that waits for no call.
-/
namespace Go.Hx
open Go



section
variable {P : Program} {X : Tabs} {nt : Nat} {al : List Oper} {ia n : Nat} {vn : SV} {off : Bool} {Tn : List (Nat × SV)} {r : List Oper} {o : Oper} {i : Nat} {T T' : List (Nat × SV)} {H H' : List HE} {es : List (Nat × List HE)} {lds : List (Nat × Nat)}






end

section
variable {E : Env} {X : Tabs} {al : List Oper} {ia n : Nat} {vn : SV} {off : Bool} {Tn Tr : List (Nat × SV)} {T : List (Nat × SV)} {H : List HE} {es : List (Nat × List HE)} {lds : List (Nat × Nat)}


end


section
variable {P : Program} {X : Tabs} (hX : TOk P X)


variable {Wb : (Nat → Nat × Nat) → World → Prop} {R : SV → List HE → Prop} {fn : Func} {nt : Nat} {H0 : List HE} {k : List KI} {T : List (Nat × SV)} {H : List HE} {cs : List Ch} {fs : List Fm}

end
end Go.Hx

