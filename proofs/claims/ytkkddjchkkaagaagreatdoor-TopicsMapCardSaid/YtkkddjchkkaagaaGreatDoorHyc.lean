/- The heap machine, part 3: values over handles, and how a program of this language goes over them; for every program. -/
import Derived.Test.YtkkddjchkkaagaaGreatDoorHyb
/-
  A call in a world where a variable's cell is known.
-/
namespace Go.Hx
open Go Go.RowKit Go.ChangeShapes Go.WideShapes

/-- The cell of a variable. -/
abbrev pinE (v : Value) : HE := .obj (.pin 0 v)
theorem pin_lt {w : World} {v : Value} (hp : w.cell? ⟨0, 0, none⟩ = some v) : 0 < w.heap.size := by
  rcases Nat.eq_zero_or_pos w.heap.size with h0 | h
  · simp [World.cell?, h0] at hp
  · exact h
theorem hsat_pin {w : World} {v : Value} (hp : w.cell? ⟨0, 0, none⟩ = some v) : HSat w (Own (fun _ => (0, 0)) [pinE v]) (fun _ => (0, 0)) [pinE v] w := by
  refine ⟨?_, fun _ _ => pin_lt hp, ?_, ?_, Fr.refl _ _⟩
  · intro h u hu
    cases h with
    | zero => simp at hu; subst hu; exact ⟨⟨rfl, hp⟩, rfl⟩
    | succ h => simp at hu
  · intro h h' o o' hh hh' _
    have := there_lt (there_of_obj hh)
    have := there_lt (there_of_obj hh')
    simp at *
    omega
  · intro h u hu ho
    cases h with
    | zero => simp at hu; subst hu; simp [SO.owned] at ho
    | succ h => simp at hu

/-- Something that is not owned, and the cell. -/
theorem hsat_two {w : World} {v : Value} {o : SO} {p : Nat × Nat} (hp : w.cell? ⟨0, 0, none⟩ = some v) (ho : o.owned = false) (hk : o.okh (fun _ => false) = true)
    (hs : HSat w (Own (fun _ => p) [.obj o]) (fun _ => p) [.obj o] w) (hne : p.1 ≠ 0) :
    HSat w (Own (fun h => if h = 0 then p else (0, 0)) [.obj o, pinE v]) (fun h => if h = 0 then p else (0, 0)) [.obj o, pinE v] w := by
  have h0 := (hs.objs 0 o rfl).1
  have h0s : p.1 < w.heap.size := hs.size 0 rfl
  refine ⟨?_, fun h _ => ?_, ?_, ?_, Fr.refl _ _⟩
  · intro h u hu
    rcases h with _ | _ | h
    · simp at hu; subst hu
      refine ⟨?_, SO.okh_mono (A := fun _ => false) (fun x hx => by simp at hx) o hk⟩
      exact SO.holds_congr (A := fun _ => false) (fun x hx => by simp at hx) o hk h0
    · simp at hu; subst hu; exact ⟨⟨rfl, hp⟩, rfl⟩
    · simp at hu
  · show (if h = 0 then p else (0, 0)).1 < _; split
    · exact h0s
    · exact pin_lt hp
  · intro h h' o o' hh hh' e
    rcases h with _ | _ | h <;> rcases h' with _ | _ | h' <;> simp at * <;> omega
  · intro h u hu hoo
    rcases h with _ | _ | h
    · simp at hu; subst hu; rw [ho] at hoo; simp at hoo
    · simp at hu; subst hu; simp [SO.owned] at hoo
    · simp at hu

theorem okhs_none (A : Nat → Bool) (l : List SV) (hl : SV.okhs (fun _ => false) l = true) : SV.okhs A l = true := by
  rw [okhs_iff] at hl ⊢
  exact fun v hv => okh_mono (A := fun _ => false) (fun x hx => by simp at hx) v (hl v hv)


/-- No number, and no bool, lies in the variable's block. -/
theorem pin_ne {w : World} {v : Value} {ty : TypeId} {fr : Nat × Nat} (h0 : w.heap[0]? = some (.cells #[v] ty fr)) (hv : ∃ t u, v = .iface t u) {b o : Nat} {u : Value}
    (hu : w.cell? ⟨b, o, none⟩ = some u) (hni : ∀ t x, u ≠ .iface t x) : b ≠ 0 := by
  rintro rfl
  obtain ⟨t, x, rfl⟩ := hv
  simp only [World.cell?, h0] at hu
  rcases o with _ | o
  · simp at hu; exact hni t x hu.symm
  · simp at hu
theorem pin_cell {w : World} {v : Value} {ty : TypeId} {fr : Nat × Nat} (h0 : w.heap[0]? = some (.cells #[v] ty fr)) : w.cell? ⟨0, 0, none⟩ = some v := by
  simp [World.cell?, h0]
theorem okK_first : ∀ {ks : List (Option IntKind)} {l : List SV}, okK ks l → 0 < ks.length → ∃ u, l[0]? = some u ∧ ∀ ρ t x, u.tr ρ ≠ .iface t x
  | [], _, _, h => by simp at h
  | some k :: ks, l, h, _ => by
    rcases l with _ | ⟨a, l⟩
    · simp [okK] at h
    · simp only [okK] at h
      obtain ⟨⟨n, rfl, _⟩, _⟩ := h
      exact ⟨_, rfl, fun ρ t x => by simp [SV.tr]⟩
  | none :: ks, l, h, _ => by
    rcases l with _ | ⟨a, l⟩
    · simp [okK] at h
    · simp only [okK] at h
      obtain ⟨⟨n, rfl⟩, _⟩ := h
      exact ⟨_, rfl, fun ρ t x => by simp [SV.tr]⟩

theorem own_two {ρ : Nat → Nat × Nat} {o : SO} {v : Value} (h : o.owned = false) : ∀ b, ¬ Own ρ [HE.obj o, pinE v] b :=
  own_none fun i u hu => by
    rcases i with _ | _ | i
    · simp at hu; subst hu; exact h
    · simp at hu; subst hu; rfl
    · simp at hu

/-- One slice of rows. -/
theorem calls_rowsP {P : Program} {f : Nat} {pre post : List SV} {ks : List (Option IntKind)} {w : World} {a : Option Addr} {len cap : Nat} {v : Value} {ty : TypeId} {fr : Nat × Nat}
    (hp : w.heap[0]? = some (.cells #[v] ty fr)) (hv : ∃ t u, v = .iface t u) (hks : 0 < ks.length) (h : ArgRows w ks a len cap)
    (g0 : ∃ L, Gives P f (pre ++ .raw (.slice a 0 0) :: post) [pinE v] (Is .tt L)) (hpre : SV.okhs (fun _ => false) pre = true) (hpost : SV.okhs (fun _ => false) post = true)
    (g1 : ∀ (o : Nat → List SV), (∀ i, okK ks (o i)) → len ≤ maxLen → ∃ L, Gives P f (pre ++ .slice 0 0 len cap :: post) [.obj (.rows len ks.length o), pinE v] (Is .tt L)) :
    Calls P f (SV.trs (fun _ => (0, 0)) pre ++ Value.slice a len cap :: SV.trs (fun _ => (0, 0)) post).toArray w fun e w' => e = .returned (.bool true) ∧ Below w.heap.size w w' := by
  have hc0 := pin_cell hp
  rcases h with ⟨rfl, rfl⟩ | ⟨b, o, g, rfl, hl, h0, hm, hb, hk, hc⟩
  · obtain ⟨L, g0⟩ := g0
    refine calls_true (fun _ => (0, 0)) g0 (hsat_pin hc0) ?_ (own_one rfl) ?_
    · rw [okhs_append, okhs_none _ _ hpre]; simp [SV.okhs, SV.okh, okhs_none _ _ hpost]
    · rw [trs_append]; rfl
  · obtain ⟨L, hg⟩ := g1 g hk (by omega)
    have hne : b ≠ 0 := by
      obtain ⟨u, hu, hni⟩ := okK_first (hk 0) hks
      exact pin_ne hp hv (hc 0 (by omega) (fun _ => (0, 0)) 0 u hu) (hni _)
    refine calls_true (fun h => if h = 0 then (b, o) else (0, 0)) hg (hsat_two hc0 rfl rfl (hsat_rows hb hk fun i hi => hc i (by omega)) hne) ?_ (own_two rfl) ?_
    · rw [okhs_append, okhs_none _ _ hpre]; simp [SV.okhs, SV.okh, okhs_none _ _ hpost, there, HE.there]
    · rw [trs_append, trs_congr (A := fun _ => false) (fun x hx => by simp at hx) pre hpre]
      simp only [SV.trs, SV.tr]
      rw [trs_congr (A := fun _ => false) (fun x hx => by simp at hx) post hpost (ρ := fun h => if h = 0 then (b, o) else (0, 0)) (ρ' := fun _ => (0, 0))]
      rfl

section
variable {P : Program} {H : Type} {enc : TypeId × Value → H} {w : World} {t : TypeId} {d : DataW H} {ps : List MemPlace}
end

end Go.Hx

/-
  What a call of Go's library leaves that sets one cell: in handles.
-/
namespace Go.Hx
open Go Go.RowKit

theorem there_cons {e e' : HE} {R : List HE} (h : e.there = e'.there) : there (e :: R) = there (e' :: R) := by
  funext x
  rcases x with _ | x <;> simp [there, h]
/-- A call that sets the first thing's one cell, and makes new blocks. -/
theorem fnPost_setL {w w1 : World} {ρ : Nat → Nat × Nat} {c n : Int} {E : TypeId} {R : List HE} (hS : HSat w (Own ρ (.obj (.cells [.int .i64 c] E) :: R)) ρ (.obj (.cells [.int .i64 c] E) :: R) w)
    (hb : Below w.heap.size w w1) : FnPost w ρ (.obj (.cells [.int .i64 c] E) :: R) (Is .tt (.obj (.cells [.int .i64 n] E) :: R)) (.returned (.bool true)) (w1.setCell ⟨(ρ 0).1, 0, none⟩ (.int .i64 n)) := by
  obtain ⟨⟨h01, h02⟩, _⟩ := hS.objs 0 _ rfl
  have hlt := hS.size 0 rfl
  have hcell : w1.heap[(ρ 0).1]? = some (.cells #[.int .i64 c] E (0, 0)) := by rw [hb.block _ hlt, h02]; rfl
  have hset := one_setCell (u := .int .i64 n) hcell
  have hoth : ∀ k, k < w.heap.size → k ≠ (ρ 0).1 → (w1.setCell ⟨(ρ 0).1, 0, none⟩ (.int .i64 n)).heap[k]? = w.heap[k]? := fun k hk hn => by
    rw [Below.heap_setCell _ _ _ _ hn, hb.block k hk]
  have hsz : (w1.setCell ⟨(ρ 0).1, 0, none⟩ (.int .i64 n)).heap.size = w1.heap.size := by simp [World.setCell]
  have hth : there (HE.obj (.cells [.int .i64 n] E) :: R) = there (.obj (.cells [.int .i64 c] E) :: R) := there_cons rfl
  refine ⟨ρ, _, .tt, ⟨rfl, rfl⟩, rfl, rfl, ⟨?_, ?_, ?_, ?_, ?_⟩, fun h hh => ⟨rfl, ?_⟩⟩
  · intro h o ho
    rw [hth]
    rcases h with _ | h
    · simp at ho; subst ho
      exact ⟨⟨h01, hset⟩, rfl⟩
    · have ho' : (HE.obj (.cells [.int .i64 c] E) :: R)[h + 1]? = some (.obj o) := by simpa using ho
      obtain ⟨q1, q2⟩ := hS.objs (h + 1) o ho'
      have hne : (ρ (h + 1)).1 ≠ (ρ 0).1 := fun e => by have := hS.inj (h + 1) 0 _ _ ho' rfl e; omega
      exact ⟨SO.holds_world (hoth _ (hS.size _ (there_of_obj ho')) hne) o q1, q2⟩
  · intro h hh
    rw [hth] at hh
    have := hS.size h hh
    rw [hsz]
    exact Nat.lt_of_lt_of_le this hb.size
  · intro h h' o o' hh hh' e
    rcases h with _ | h <;> rcases h' with _ | h'
    · rfl
    · exact hS.inj 0 (h' + 1) _ _ rfl (by simpa using hh') e
    · exact hS.inj (h + 1) 0 _ _ (by simpa using hh) rfl e
    · exact hS.inj (h + 1) (h' + 1) _ _ (by simpa using hh) (by simpa using hh') e
  · intro h o ho hoo
    rcases h with _ | h
    · exact hS.own 0 _ rfl rfl
    · exact hS.own (h + 1) o (by simpa using ho) hoo
  · refine ⟨by rw [hsz]; exact hb.size, fun b hbl hn => ?_, hb.os, hb.tape, hb.output⟩
    refine hoth b hbl fun e => hn ?_
    exact ⟨0, _, rfl, rfl, e.symm⟩
  · rw [hth]; exact hh

/-- A call that leaves all as it was. -/
theorem fnPost_same {w : World} {ρ : Nat → Nat × Nat} {H : List HE} {V : SV} (hS : HSat w (Own ρ H) ρ H w) (hV : V.okh (there H) = true) : FnPost w ρ H (Is V H) (.returned (V.tr ρ)) w :=
  ⟨ρ, H, V, ⟨rfl, rfl⟩, rfl, hV, hS, fun _ hh => ⟨rfl, hh⟩⟩
end Go.Hx

/-
  Things that are there or not, under two names; what is forgotten.
-/
namespace Go.Hx
open Go

section
variable {σ σ' : Nat → Nat} {h h' : Nat} {H : List HE} {i : Nat}
theorem ren_slVe {o : Option (List Int)} : (slV o h).ren σ = slV o (σ h) := by cases o <;> rfl
theorem sim_slVr {o : Option (List Int)} (hs : σ h = h') : sim (slV o h') ((slV o h).ren σ) := by rw [ren_slVe, hs]; exact sim_refl _
end
end Go.Hx

/-
  Contracts over three objects, in a larger heap; a step of a run over an arena, as a row of the table.
-/
namespace Go.Hx
open Go
section
variable {P : Program} {f : Nat} {ags cargs : List SV} {V : SV} {H : List HE} {o0 o1 o2 p0 p1 p2 : SO} {h0 h1 h2 : Nat} {N : List HE}
end
end Go.Hx

/-
  Regions that draw, where an operation looks at a temporary that a later one writes: what stood there at first is looked at.
-/
namespace Go.Hx
open Go

theorem owp_mono2 {P : Program} {Q : Exit → Act → World → Prop} {o : Oper} {a : Act} {w : World} {K K' : Act → World → Prop}
    (h : ∀ u ds w', K (({ a with defers := ds } : Act).put o.dst u) w' → K' (({ a with defers := ds } : Act).put o.dst u) w')
    (hh : o.wp P a w K Q) : o.wp P a w K' Q := by
  unfold Oper.wp at *
  generalize (execOp a.eval o).run P w = r at *
  have h0 : ∀ u w', K (a.put o.dst u) w' → K' (a.put o.dst u) w' := fun u w' => h u a.defers w'
  cases r with
  | ok n w' =>
    cases n <;> simp only [Oper.upon] at hh ⊢ <;>
      first
        | exact h0 _ _ hh
        | exact h _ _ _ hh
        | exact Calls.mono hh (fun e w'' he => by cases e <;> first | exact h0 _ _ he | exact he)
        | exact Rows.mono hh (fun _ _ he => h0 _ _ he)
  | halt x w' => cases x <;> simp only [Oper.upon] at hh ⊢ <;> exact hh

def stillB (al : List Oper) (j t : Nat) : Bool := (List.range al.length).all fun i => match al[i]? with
  | some o => (match o.dst with | some d => !(Nat.beq d t) | none => true) || bindsOn o j
  | none => true

theorem still_get {al : List Oper} {j t i : Nat} {o : Oper} (h : stillB al j t = true) (ho : al[i]? = some o) : o.dst ≠ some t ∨ bindsOn o j = true := by
  simp only [stillB, List.all_eq_true] at h
  have hlt : i < al.length := by
    rcases Nat.lt_or_ge i al.length with h1 | h1
    · exact h1
    · rw [List.getElem?_eq_none h1] at ho; simp at ho
  have := h i (List.mem_range.2 hlt)
  rw [ho] at this
  simp only [Bool.or_eq_true] at this
  rcases this with h1 | h1
  · left
    intro hd
    rw [hd] at h1
    simp at h1
  · exact .inr h1

theorem put_tmp {a : Act} {ds : List Deferred} {dst : Option Tmp} {u v : Value} {t : Nat} (h : a.tmps[t]? = some v) (hd : dst ≠ some t) : ((({ a with defers := ds } : Act).put dst u).tmps)[t]? = some v := by
  cases dst with
  | none => exact h
  | some d =>
    have : d ≠ t := fun e => hd (by rw [e])
    simp [Act.put, this, h]

theorem any_still {P : Program} {Q : Exit → Act → World → Prop} {al : List Oper} {j t : Nat} {o o' : Oper} {v : Value}
    (hj : al[j]? = some o) (hst : stillB al j t = true) (hdst : o'.dst = o.dst) (haf : o'.after = o.after) (hgd : o'.guard = o.guard)
    (hex : ∀ a : Act, a.tmps[t]? = some v → execOp a.eval o' = execOp a.eval o) :
    ∀ (fuel : Nat) (listed : Array Bool) (a : Act) (w : World), listed.size = al.length → (listed.getD j false = false → a.tmps[t]? = some v) →
      wpAny P .any (al.set j o').toArray Q fuel listed a w → wpAny P .any al.toArray Q fuel listed a w := by
  have hjl : j < al.length := by
    rcases Nat.lt_or_ge j al.length with h1 | h1
    · exact h1
    · rw [List.getElem?_eq_none h1] at hj; simp at hj
  have hget : ∀ i, i ≠ j → (al.set j o')[i]? = al[i]? := fun i hi => by rw [List.getElem?_set_ne (Ne.symm hi)]
  have hgj : (al.set j o')[j]? = some o' := by simp [hjl]
  have hready : ∀ listed, Region.ready .any (al.set j o').toArray listed = Region.ready .any al.toArray listed := by
    intro listed
    unfold Region.ready
    simp only [List.size_toArray, List.length_set, List.getElem?_toArray]
    apply List.filter_congr
    intro i _
    by_cases hi : i = j
    · subst hi; rw [hgj, hj]; simp only [Option.map_some, haf]
    · rw [hget i hi]
  have hyield : ∀ tm, yielded (al.set j o').toArray tm = yielded al.toArray tm := by
    intro tm
    funext g
    unfold yielded
    simp only [List.getElem?_toArray]
    by_cases hi : g = j
    · subst hi; rw [hgj, hj]; simp only [Option.bind_some, hdst]
    · rw [hget g hi]
  intro fuel
  induction fuel with
  | zero =>
    intro listed a w hsz hv h
    exact ⟨by rw [← hready]; exact h.1, h.2⟩
  | succ fuel ih =>
    intro listed a w hsz hv h
    refine ⟨fun hr => h.1 (by rw [hready]; exact hr), fun i hi => ?_⟩
    have hw := h.2 i (by rw [hready]; exact hi)
    have hsz' : (listed.setIfInBounds i true).size = al.length := by simpa using hsz
    obtain ⟨hun, oi, hoi, hall⟩ := mem_ready.1 hi
    by_cases hij : i = j
    · subst hij
      have hlist : (listed.setIfInBounds i true).getD i false = true := by simp [Array.getD, hsz, hjl]
      have htm : a.tmps[t]? = some v := hv (by simpa [Array.getD, hsz, hjl] using hun)
      have hK : ∀ a' w', wpAny P .any (al.set i o').toArray Q fuel (listed.setIfInBounds i true) a' w' → wpAny P .any al.toArray Q fuel (listed.setIfInBounds i true) a' w' :=
        fun a' w' => ih _ a' w' hsz' (fun hf => by rw [hlist] at hf; simp at hf)
      refine wpOp_mono hK ?_
      unfold wpOp at *
      simp only [List.getElem?_toArray, hgj, hj, hyield] at hw ⊢
      have hwt : Region.wanted o' = Region.wanted o := by funext y; unfold Region.wanted; rw [hgd]
      rw [hwt] at hw
      split
      · rename_i hc
        rw [if_pos hc] at hw
        refine hw.imp (fun q => ?_) (fun q => ⟨?_, q.2⟩)
        · unfold Oper.wp at *
          rw [hex a htm] at q
          have hup : o'.upon P a = o.upon P a := by
            funext K Q r
            unfold Oper.upon
            rw [hdst]
          rw [hup] at q
          exact q
        · have := q.1
          unfold Oper.asks at *
          rw [hex a htm] at this
          exact this
      · rename_i hc
        rw [if_neg hc, hdst] at hw
        exact hw
    · have hoi' : (al.set j o').toArray[i]? = some oi := by
        simp only [List.getElem?_toArray] at hoi ⊢
        rw [hget i hij]; exact hoi
      have hkeep : (listed.setIfInBounds i true).getD j false = listed.getD j false := getD_set_ne false hij
      have hnext : ∀ u ds w', wpAny P .any (al.set j o').toArray Q fuel (listed.setIfInBounds i true) (({ a with defers := ds } : Act).put oi.dst u) w' → wpAny P .any al.toArray Q fuel (listed.setIfInBounds i true) (({ a with defers := ds } : Act).put oi.dst u) w' := by
        intro u ds w' hh
        refine ih _ _ w' hsz' (fun hf => ?_) hh
        rw [hkeep] at hf
        refine put_tmp (hv hf) fun hd => ?_
        rcases still_get hst (by simpa using hoi) with h1 | h1
        · exact h1 hd
        · simp only [bindsOn, List.any_eq_true, Bool.and_eq_true] at h1
          obtain ⟨e, he1, he2, he3⟩ := h1
          have h4 := Nat.eq_of_beq_eq_true he3
          have h5 := hall e (by simpa using he1) he2
          rw [h4, hf] at h5
          simp at h5
      unfold wpOp at *
      simp only [hoi, hoi', hyield] at hw ⊢
      split
      · rename_i hc
        rw [if_pos hc] at hw
        exact hw.imp (owp_mono2 hnext) id
      · rename_i hc
        rw [if_neg hc] at hw
        exact hnext _ a.defers _ hw

/-- The region as it stands, but that operation j moves the constant that temporary t has. -/
def stillO (al : List Oper) (j : Nat) (c : Value) : List Oper := match al[j]? with
  | some o => al.set j { o with op := .move (.const c) }
  | none => al
def stillOk (al : List Oper) (T : List (Nat × SV)) (j : Nat) (c : Value) : Prop := ∃ o t v, al[j]? = some o ∧ o.op = .move (.tmp t) ∧ stillB al j t = true ∧ look T t = some v ∧ ev T (.const c) = some v

section
variable {P : Program} {X : Tabs} (hX : TOk P X)
variable {Wb : (Nat → Nat × Nat) → World → Prop} {R : SV → List HE → Prop} {fn : Func} {nt : Nat} {H0 : List HE} {k : List KI} {T : List (Nat × SV)} {H : List HE} {cs : List Ch} {fs : List Fm}
/-- A region that draws, where operation j moves what a later one writes anew. -/
theorem ss_drawS (j : Nat) (c : Value) (cs : List Ch) (m : Nat) {cs0 cs' : List Ch} {ob : List Prop} {T' : List (Nat × SV)} {H' : List HE} {id : Nat} {ops : Array Oper}
    (hl : stillOk ops.toList T j c)
    (h : drawX X (fun s => runX X [] m s []) cs (stillO ops.toList j c) nt T H = some (cs', ob, T', H')) (ho : conjP ob) (hs : SS hX Wb R ⟨cs', fs, fn, nt, H0, k, T', H'⟩) :
    SS hX Wb R ⟨cs0, fs, fn, nt, H0, .code (.region id ops true) :: k, T, H⟩ := by
  intro ρ0 w0 hw ρ a w hsat
  have hrec : RecOk hX (fun s => runX X [] m s []) := fun Wb R0 s h1 h2 => (runX_ok hX m [] Wb R0 s [] h1 h2).1
  simp only [WK]
  have := drawX_any hX hrec fn nt H0 (Rof hX Wb R fs) ρ0 w0 cs cs' (stillO ops.toList j c) T T' H H' ob _ h (conjP_all ho) (hs ρ0 w0 hw) ρ a w hsat
  obtain ⟨o, t, v, hj, hop, hst, hlk, hev⟩ := hl
  have hso : stillO ops.toList j c = ops.toList.set j { o with op := .move (.const c) } := by unfold stillO; rw [hj]
  rw [hso] at this
  have htm : a.tmps[t]? = some (v.tr ρ) := (hsat.ts.1 t v hlk).1
  have hce : a.eval (.const c) = v.tr ρ := (ev_tr hsat.ts hev).1
  have hc2 : ∀ b : Act, b.eval (.const c) = v.tr ρ := fun b => by rw [← hce]; rfl
  have h3 := any_still (v := v.tr ρ) (o' := { o with op := .move (.const c) }) hj hst rfl rfl rfl (fun b hb => by
    have hbt : b.eval (.tmp t) = v.tr ρ := by simp [Act.eval, hb]
    obtain ⟨dst, op, type, pos, after, guard⟩ := o
    simp only at hop
    subst hop
    simp only [execOp, hc2, hbt]) _ _ a _ (by simp) (fun _ => htm) this
  have e1 : (ops.toList.set j { o with op := .move (.const c) }).toArray.size = ops.toList.toArray.size := by simp
  rw [e1] at h3
  have h2 := wp_region_any (id := id) hX.mo h3
  rw [Array.toArray_toList] at h2
  exact h2
end
end Go.Hx

