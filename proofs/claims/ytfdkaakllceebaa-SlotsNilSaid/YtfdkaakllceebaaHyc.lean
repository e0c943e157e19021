/- The heap machine, part 3: values over handles, and how a program of this language goes over them; for every program. -/
import Derived.Test.YtfdkaakllceebaaHyb
/-
  A call's arguments, as the row hands them in: integers, bools, plain values, slices of plain values.
-/
namespace Go.Hx
open Go Go.RowKit Go.ChangeShapes Go.WideShapes

section
variable {H : Type} {enc : TypeId × Value → H} {P : Program} {w : World} {t : TypeId} {v : Value} {d : DataW H} {ps : List MemPlace}

theorem tr_plain {ks : List (Option IntKind)} {l : List SV} (h : okK ks l) (ρ ρ' : Nat → Nat × Nat) {c : Nat} {u : SV} (hc : l[c]? = some u) : u.tr ρ = u.tr ρ' := by
  have := okK_closed h u (List.mem_of_getElem? hc)
  exact tr_congr (A := fun _ => false) (fun x hx => by simp at hx) u this

theorem okK_okhs {ks : List (Option IntKind)} {l : List SV} (h : okK ks l) : SV.okhs (fun _ => false) l = true := (okhs_iff l).2 (okK_closed h)

/-- A plain value that is passed as it is. -/
theorem arg_agg {ks : List (Option IntKind)} (n : Nat) (hk : flatK P n t = some ks) (ha : ∃ cs, v = .agg cs) (h : DataW.Trod enc P w 0 (fun _ => true) true t v d ps) :
    ∃ l, okK ks l ∧ v = SV.tr (fun _ => (0, 0)) (.agg l) := by
  obtain ⟨cs, rfl⟩ := ha
  obtain ⟨fuel, hf⟩ := h
  obtain ⟨l, h1, h2⟩ := flat_open n hk hf
  refine ⟨l, h1, ?_⟩
  simp only [SV.tr, ← h2, Value.cells]

theorem arg_array {m : Nat} {e : TypeId} (ht : P.underlying t = some (.array m e)) {r : Reach} {base : Nat} (h : Value.okWide P w r base t v) : ∃ cs, v = .agg cs := by
  simp only [Value.okWide, ht] at h
  obtain ⟨cs, h1, _⟩ := h
  exact ⟨cs, h1⟩
theorem arg_struct {fs : Array Field} (ht : P.underlying t = some (.struct fs)) {r : Reach} {base : Nat} (h : Value.okWide P w r base t v) : ∃ cs, v = .agg cs := by
  simp only [Value.okWide, ht] at h
  obtain ⟨cs, h1, _⟩ := h
  exact ⟨cs, h1⟩

theorem arg_int {k : IntKind} (ht : P.underlying t = some (.int k)) (h : DataW.Trod enc P w 0 (fun _ => true) true t v d ps) {r : Reach} {base : Nat} (ho : Value.okWide P w r base t v) :
    ∃ n, v = .int k n ∧ (Lit.int k n).wf = true := by
  obtain ⟨n, rfl⟩ := okWide_int ht ho
  obtain ⟨fuel, hf⟩ := h
  obtain ⟨m, h1, _, h2⟩ := DataW.trod_int ht hf
  simp [Value.cells] at h1
  subst h1
  exact ⟨n, rfl, h2⟩

theorem add_nil {x : Addr} (hs : x.spot = none) (i : Nat) : x.add i = ⟨x.block, x.off + i, none⟩ := by
  obtain ⟨b, o, s⟩ := x
  simp only at hs; subst hs
  exact add_off b o i
theorem spot_none {x : Addr} {u : Value} (h : w.cell? x = some u) : x.spot = none := by
  unfold World.cell? at h
  split at h
  · split at h
    · simp at h
    · rename_i h2; simpa using h2
  · simp at h

/-- A slice of rows of plain cells. -/
def ArgRows (w : World) (ks : List (Option IntKind)) (a : Option Addr) (len cap : Nat) : Prop :=
  (len = 0 ∧ cap = 0) ∨ ∃ (b o : Nat) (f : Nat → List SV), a = some ⟨b, o, none⟩ ∧ len ≤ cap ∧ 0 < cap ∧ cap ≤ maxLen ∧ b < w.heap.size ∧
    (∀ i, okK ks (f i)) ∧ ∀ i, i < cap → ∀ (ρ : Nat → Nat × Nat) (c : Nat) (u : SV), (f i)[c]? = some u → w.cell? ⟨b, o + (i * ks.length + c), none⟩ = some (u.tr ρ)

theorem arg_rows {e : TypeId} {ks : List (Option IntKind)} {a : Option Addr} {len cap : Nat} (n : Nat) (ht : P.underlying t = some (.slice e)) (hk : flatK P n e = some ks) (hpos : 0 < ks.length) (hc : P.cellsOf e = ks.length)
    (h : DataW.Trod enc P w 0 (fun _ => true) true t (.slice a len cap) d ps) : ArgRows w ks a len cap := by
  obtain ⟨fuel, hf⟩ := h
  rcases Deep.open_slice ht hf with ⟨h1, _⟩ | ⟨x, l, c, m, nn, D, Pl, h1, _, hl, hm, rfl, _, hx⟩
  · simp [Value.cells] at h1
    exact .inl ⟨h1.2.1, h1.2.2⟩
  · simp [Value.cells] at h1
    obtain ⟨rfl, rfl, rfl⟩ := h1
    have hx : ∀ i, i < cap → ∃ cs', w.cells? 0 (x.add (i * P.cellsOf e)) (P.cellsOf e) = some cs' ∧ DataW.trod enc P w 0 (fun _ => true) true nn e cs' = some (D i, Pl i) := hx
    rw [hc] at hx
    by_cases h0 : cap = 0
    · exact .inl ⟨by omega, h0⟩
    refine .inr ?_
    have hx' : ∀ i, i < cap → ∃ l : List SV, okK ks l ∧ ∀ c u, l[c]? = some u → w.cell? ((x.add (i * ks.length)).add c) = some (u.tr (fun _ => (0, 0))) := by
      intro i hi
      obtain ⟨cs', h2, h3⟩ := hx i hi
      obtain ⟨l, h4, h5⟩ := flat_open n hk h3
      refine ⟨l, h4, fun c u hcu => ?_⟩
      obtain ⟨_, h6, h7⟩ := World.cells?_some h2
      have hlt := (List.getElem?_eq_some_iff.1 hcu).1
      rw [okK_length h4] at hlt
      rw [h7 c hlt, h5, trs_eq_map, List.getElem?_map, hcu]
      rfl
    obtain ⟨f, hf2⟩ := Deep.choose_lt (α := List SV) hx'
    have hsp : x.spot = none := by
      obtain ⟨q1, q2⟩ := hf2 0 (by omega)
      have hlen := okK_length q1
      obtain ⟨u, hu⟩ : ∃ u, (f 0)[0]? = some u := ⟨(f 0)[0]'(by omega), List.getElem?_eq_getElem (by omega)⟩
      have := spot_none (q2 0 u hu)
      simpa [Addr.add] using this
    have hcell : ∀ i c, (x.add (i * ks.length)).add c = ⟨x.block, x.off + (i * ks.length + c), none⟩ := by
      intro i c
      rw [Deep.add_add, add_nil hsp]
    refine ⟨x.block, x.off, fun i => f (if i < cap then i else 0), ?_, hl, by omega, hm, ?_, fun i => ?_, fun i hi ρ c u hcu => ?_⟩
    · obtain ⟨b, o, s⟩ := x
      simp only at hsp; subst hsp; rfl
    · obtain ⟨q1, q2⟩ := hf2 0 (by omega)
      have hlen := okK_length q1
      obtain ⟨u, hu⟩ : ∃ u, (f 0)[0]? = some u := ⟨(f 0)[0]'(by omega), List.getElem?_eq_getElem (by omega)⟩
      have := q2 0 u hu
      rw [hcell] at this
      exact block_lt_of_cell (a := ⟨x.block, x.off + (0 * ks.length + 0), none⟩) this
    · exact (hf2 _ (by split <;> omega)).1
    · simp only [if_pos hi] at hcu
      rw [← hcell, (hf2 i hi).2 c u hcu, tr_plain (hf2 i hi).1 ρ (fun _ => (0, 0)) hcu]

/-- A slice of integers. -/
def ArgInts (w : World) (k : IntKind) (a : Option Addr) (len cap : Nat) : Prop :=
  (len = 0 ∧ cap = 0) ∨ ∃ (b o : Nat) (zs : List Int), a = some ⟨b, o, none⟩ ∧ len ≤ cap ∧ 0 < cap ∧ cap ≤ maxLen ∧ b < w.heap.size ∧ zs.length = len ∧ (∀ n ∈ zs, (Lit.int k n).wf = true) ∧
    ∀ i n, zs[i]? = some n → w.cell? ⟨b, o + i, none⟩ = some (.int k n)

theorem arg_ints {e : TypeId} {k : IntKind} {a : Option Addr} {len cap : Nat} (ht : P.underlying t = some (.slice e)) (he : P.underlying e = some (.int k)) (hc : P.cellsOf e = 1)
    (h : DataW.Trod enc P w 0 (fun _ => true) true t (.slice a len cap) d ps) : ArgInts w k a len cap := by
  obtain ⟨fuel, hf⟩ := h
  rcases open_ints ht he hc hf with ⟨h1, _⟩ | ⟨x, l, c, zs, h1, _, hl, hm, hz, _, hcell, hwz⟩
  · simp [Value.cells] at h1
    exact .inl ⟨h1.2.1, h1.2.2⟩
  · simp [Value.cells] at h1
    obtain ⟨rfl, rfl, rfl⟩ := h1
    simp only [if_true] at hz
    by_cases h0 : cap = 0
    · exact .inl ⟨by omega, h0⟩
    have hsp : x.spot = none := by
      have := spot_none (hcell 0 (by omega))
      simpa [Addr.add] using this
    refine .inr ⟨x.block, x.off, zs.take len, ?_, hl, by omega, hm, ?_, by simp; omega, fun n hn => hwz n (List.mem_of_mem_take hn), fun i n hi => ?_⟩
    · obtain ⟨b, o, s⟩ := x
      simp only at hsp; subst hsp; rfl
    · have := hcell 0 (by omega)
      rw [add_nil hsp] at this
      exact block_lt_of_cell (a := ⟨x.block, x.off + 0, none⟩) this
    · rw [List.getElem?_take] at hi
      split at hi
      · rename_i hlt
        have := hcell i (by omega)
        rw [add_nil hsp] at this
        rw [this, List.getD_eq_getElem?_getD, hi]; rfl
      · simp at hi
end

/-- Windows that are read alone, at places of their own blocks. -/
theorem hsat_rows {w : World} {ks : List (Option IntKind)} {b o n : Nat} {f : Nat → List SV} (hb : b < w.heap.size) (hk : ∀ i, okK ks (f i)) (hc : ∀ i, i < n → ∀ (ρ : Nat → Nat × Nat) (c : Nat) (u : SV), (f i)[c]? = some u → w.cell? ⟨b, o + (i * ks.length + c), none⟩ = some (u.tr ρ)) :
    HSat w (Own (fun _ => (b, o)) [.obj (.rows n ks.length f)]) (fun _ => (b, o)) [.obj (.rows n ks.length f)] w := by
  refine ⟨?_, fun _ _ => hb, ?_, ?_, Fr.refl _ _⟩
  · intro h u hu
    cases h with
    | zero => simp at hu; subst hu; exact ⟨fun i hi c v hv => ⟨okK_closed (hk i) v (List.mem_of_getElem? hv), hc i hi _ c v hv⟩, rfl⟩
    | succ h => simp at hu
  · intro h h' o o' hh hh' _
    have := there_lt (there_of_obj hh)
    have := there_lt (there_of_obj hh')
    simp at *
    omega
  · intro h u hu ho
    cases h with
    | zero => simp at hu; subst hu; simp [SO.owned] at ho
    | succ h => simp at hu

theorem own_one {ρ : Nat → Nat × Nat} {o : SO} (h : o.owned = false) : ∀ b, ¬ Own ρ [HE.obj o] b :=
  own_none fun i u hu => by
    cases i with
    | zero => simp at hu; subst hu; exact h
    | succ i => simp at hu

/-- No slice among the arguments. -/
theorem calls_flat {P : Program} {f : Nat} {args : List SV} {L : List HE} {w : World} (hg : Gives P f args [] (Is .tt L)) (hok : SV.okhs (fun _ => false) args = true) :
    Calls P f (SV.trs (fun _ => (0, 0)) args).toArray w fun e w' => e = .returned (.bool true) ∧ Below w.heap.size w w' :=
  calls_true (fun _ => (0, 0)) hg (hsat_nil w _) (okhs_mono (A := fun _ => false) (fun x hx => by simp at hx) args hok) (own_none fun i o h => by simp at h) rfl

/-- One slice of rows. -/
theorem calls_rows {P : Program} {f : Nat} {pre post : List SV} {ks : List (Option IntKind)} {w : World} {a : Option Addr} {len cap : Nat} (h : ArgRows w ks a len cap)
    (g0 : Gives P f (pre ++ .raw (.slice a 0 0) :: post) [] (Is .tt [])) (hpre : SV.okhs (fun _ => false) pre = true) (hpost : SV.okhs (fun _ => false) post = true)
    (g1 : ∀ (o : Nat → List SV), (∀ i, okK ks (o i)) → len ≤ maxLen → ∃ L, Gives P f (pre ++ .slice 0 0 len cap :: post) [.obj (.rows len ks.length o)] (Is .tt L)) :
    Calls P f (SV.trs (fun _ => (0, 0)) pre ++ Value.slice a len cap :: SV.trs (fun _ => (0, 0)) post).toArray w fun e w' => e = .returned (.bool true) ∧ Below w.heap.size w w' := by
  have mono : ∀ (A : Nat → Bool) (l : List SV), SV.okhs (fun _ => false) l = true → SV.okhs A l = true := by
    intro A l hl
    rw [okhs_iff] at hl ⊢
    exact fun v hv => okh_mono (A := fun _ => false) (fun x hx => by simp at hx) v (hl v hv)
  rcases h with ⟨rfl, rfl⟩ | ⟨b, o, g, rfl, hl, h0, hm, hb, hk, hc⟩
  · refine calls_true (fun _ => (0, 0)) g0 (hsat_nil w _) ?_ (own_none fun i o h => by simp at h) ?_
    · rw [okhs_append, mono _ _ hpre]; simp [SV.okhs, SV.okh, mono _ _ hpost]
    · rw [trs_append]; rfl
  · obtain ⟨L, hg⟩ := g1 g hk (by omega)
    refine calls_true (fun _ => (b, o)) hg (hsat_rows hb hk fun i hi => hc i (by omega)) ?_ (own_one rfl) ?_
    · rw [okhs_append, mono _ _ hpre]; simp [SV.okhs, SV.okh, mono _ _ hpost, there, HE.there]
    · rw [trs_append, trs_congr (A := fun _ => false) (fun x hx => by simp at hx) pre hpre]
      simp only [SV.trs, SV.tr]
      rw [trs_congr (A := fun _ => false) (fun x hx => by simp at hx) post hpost (ρ := fun _ => (b, o)) (ρ' := fun _ => (0, 0))]
      rfl

/-- One slice of integers. -/
theorem calls_ints {P : Program} {f : Nat} {pre post : List SV} {k : IntKind} {w : World} {a : Option Addr} {len cap : Nat} (h : ArgInts w k a len cap)
    (g0 : Gives P f (pre ++ .raw (.slice a 0 0) :: post) [] (Is .tt [])) (hpre : SV.okhs (fun _ => false) pre = true) (hpost : SV.okhs (fun _ => false) post = true)
    (g1 : ∀ (z : List Int), z.length = len → (∀ n ∈ z, (Lit.int k n).wf = true) → len ≤ maxLen → ∃ L, Gives P f (pre ++ .slice 0 0 len cap :: post) [.obj (.winI k z)] (Is .tt L)) :
    Calls P f (SV.trs (fun _ => (0, 0)) pre ++ Value.slice a len cap :: SV.trs (fun _ => (0, 0)) post).toArray w fun e w' => e = .returned (.bool true) ∧ Below w.heap.size w w' := by
  have mono : ∀ (A : Nat → Bool) (l : List SV), SV.okhs (fun _ => false) l = true → SV.okhs A l = true := by
    intro A l hl
    rw [okhs_iff] at hl ⊢
    exact fun v hv => okh_mono (A := fun _ => false) (fun x hx => by simp at hx) v (hl v hv)
  rcases h with ⟨rfl, rfl⟩ | ⟨b, o, z, rfl, hl, h0, hm, hb, hz, hwz, hc⟩
  · refine calls_true (fun _ => (0, 0)) g0 (hsat_nil w _) ?_ (own_none fun i o h => by simp at h) ?_
    · rw [okhs_append, mono _ _ hpre]; simp [SV.okhs, SV.okh, mono _ _ hpost]
    · rw [trs_append]; rfl
  · obtain ⟨L, hg⟩ := g1 z hz hwz (by omega)
    refine calls_true (fun _ => (b, o)) hg (hsat_winI hb hc) ?_ (own_one rfl) ?_
    · rw [okhs_append, mono _ _ hpre]; simp [SV.okhs, SV.okh, mono _ _ hpost, there, HE.there]
    · rw [trs_append, trs_congr (A := fun _ => false) (fun x hx => by simp at hx) pre hpre]
      simp only [SV.trs, SV.tr]
      rw [trs_congr (A := fun _ => false) (fun x hx => by simp at hx) post hpost (ρ := fun _ => (b, o)) (ρ' := fun _ => (0, 0))]
      rfl
end Go.Hx

/-
  A contract over a small heap, in a larger one.
-/
namespace Go.Hx
open Go

theorem gives_frame {P : Program} {f : Nat} {as cargs : List SV} {H Hc L : List HE} {V : SV} (hT : ∃ TE : Nat → TI, ∀ t, TIok P t (TE t)) (hF : Gives P f cargs Hc (Is V L)) (σs : List Nat) (hargs : as = SV.rens (nm σs H) cargs) (hcok : SV.okhs (there Hc) cargs = true)
    (hlen : σs.length = Hc.length) (hobj : allObj Hc = true) (hokc : okHs (there Hc) Hc = true) (hnd : nodupN σs = true) (hsub : subC (nm σs H) H 0 Hc) (hnew : newOk (L.drop σs.length) = true) :
    Gives P f as H (Is (V.ren (nm σs H)) (merge (nm σs H) σs H L)) := by
  intro ρ w hS hok
  obtain ⟨TE, hTE⟩ := hT
  have hsub' : ∀ (h : Nat) (o : SO), Hc[h]? = some (.obj o) → H[sig σs H.length h]? = some (.obj (o.ren (sig σs H.length))) := fun h o ho => by
    have := subC_get hsub h o ho
    simpa [nm] using this
  have hthc : ∀ h, there Hc h = true → there H (sig σs H.length h) = true := fun h hh => by
    obtain ⟨o, ho⟩ := allObj_get hobj (there_lt hh)
    exact there_of_obj (hsub' h o ho)
  have hSc : HSat w (Own (fun x => ρ (sig σs H.length x)) Hc) (fun x => ρ (sig σs H.length x)) Hc w := by
    refine ⟨fun h o ho => ⟨(SO.holds_ren o).1 (hS.objs _ _ (hsub' h o ho)).1, okHs_get hokc ho⟩, fun h hh => hS.size _ (hthc h hh), ?_, fun h o ho hoo => .inl ⟨h, o, ho, hoo, rfl⟩, Fr.refl _ _⟩
    intro h h' o o' hh hh' e
    have := hS.inj _ _ _ _ (hsub' h o hh) (hsub' h' o' hh') e
    have l1 : h < σs.length := by rw [hlen]; exact there_lt (there_of_obj hh)
    have l2 : h' < σs.length := by rw [hlen]; exact there_lt (there_of_obj hh')
    have g1 := sig_lt (b := H.length) l1
    have g2 := sig_lt (b := H.length) l2
    rw [this] at g1
    exact nodupN_get hnd g1 g2
  have he : SV.trs ρ as = SV.trs (fun x => ρ (sig σs H.length x)) cargs := by rw [hargs, trs_rens]; rfl
  rw [he]
  refine Calls.mono (hF (fun x => ρ (sig σs H.length x)) w hSc hcok) fun e w' he => ?_
  cases e with
  | panicked c => exact he
  | outgrown => exact he
  | returned V' =>
    obtain ⟨ρc, Hn, v, ⟨rfl, rfl⟩, rfl, hvok, hSn, hb⟩ := he
    have hs : Sat (E := ⟨P, TE, 0, fun _ _ _ => True, w, Own ρ H, H, ρ, hTE⟩) ρ [] H ⟨#[], []⟩ w := ⟨hS, ⟨fun t v h => by simp [look] at h, rfl, rfl⟩, fun h hh => ⟨rfl, hh⟩⟩
    obtain ⟨ρ', m1, m2, m3, m4⟩ := merge_sat hs hlen hobj hnd hsub' hSn hb hnew
    refine ⟨ρ', _, _, ⟨rfl, rfl⟩, ?_, ?_, m1, fun h hh => ⟨(m2 h hh).symm, m3 h hh⟩⟩
    · rw [tr_ren]
      exact (tr_congr (fun h hh => (m4 h hh).1) v hvok).symm
    · rw [okh_ren]
      exact okh_mono (fun h hh => (m4 h hh).2) v hvok

mutual
theorem ren_closed (σ : Nat → Nat) : ∀ {v : SV}, v.okh (fun _ => false) = true → v.ren σ = v
  | .ptr x o, hv => by simp [SV.okh] at hv
  | .rptr x o i s c, hv => by simp [SV.okh] at hv
  | .bptr x i s c, hv => by simp [SV.okh] at hv
  | .sbuf x s o l, hv => by simp [SV.okh] at hv
  | .slice x o l c, hv => by simp [SV.okh] at hv
  | .map x, hv => by simp [SV.okh] at hv
  | .func fn a c, hv => by simp [SV.okh] at hv; simp [SV.ren, rens_closed σ hv.1, rens_closed σ hv.2]
  | .iface t v, hv => by simp [SV.okh] at hv; simp [SV.ren, ren_closed σ hv]
  | .agg l, hv => by simp [SV.okh] at hv; simp [SV.ren, rens_closed σ hv]
  | .tup l, hv => by simp [SV.okh] at hv; simp [SV.ren, rens_closed σ hv]
  | .tt, _ | .ff, _ | .bool _, _ | .int _ _, _ | .str _, _ | .nilptr, _ | .nilslice, _ | .nilmap, _ | .nilfunc, _ | .niliface, _ | .raw _, _ => by simp [SV.ren]
theorem rens_closed (σ : Nat → Nat) : ∀ {l : List SV}, SV.okhs (fun _ => false) l = true → SV.rens σ l = l
  | [], _ => rfl
  | v :: r, hv => by simp [SV.okhs] at hv; simp [SV.rens, ren_closed σ hv.1, rens_closed σ hv.2]
end

/-- A contract that reaches no memory, in any heap. -/
theorem gives_pure {P : Program} {f : Nat} {args : List SV} {V : SV} (hT : ∃ TE : Nat → TI, ∀ t, TIok P t (TE t)) (h : Gives P f args [] (Is V [])) (ha : SV.okhs (fun _ => false) args = true) (hv : V.okh (fun _ => false) = true) (H : List HE) :
    Gives P f args H (Is V H) := by
  have hth : there ([] : List HE) = fun _ => false := funext fun x => by simp [there]
  have := gives_frame (H := H) hT h [] (rens_closed _ ha).symm (by rw [hth]; exact ha) rfl rfl rfl rfl trivial rfl
  rw [ren_closed _ hv] at this
  simpa [merge, setAll] using this

/-- What a function that reaches no memory gives, as a table's row. -/
def pureS (g : List SV → Option (List Prop × SV)) : Spec := fun args H => match g args with
  | some (ob, v) => some (ob, v, H)
  | none => none

theorem pureS_ok {P : Program} {f : Nat} {g : List SV → Option (List Prop × SV)} (hT : ∃ TE : Nat → TI, ∀ t, TIok P t (TE t))
    (h : ∀ args ob V, g args = some (ob, V) → AllP ob → SV.okhs (fun _ => false) args = true ∧ V.okh (fun _ => false) = true ∧ Gives P f args [] (Is V []))
    {args : List SV} {H : List HE} {ob : List Prop} {V : SV} {L : List HE} (hs : pureS g args H = some (ob, V, L)) (ho : AllP ob) : Gives P f args H (Is V L) := by
  unfold pureS at hs
  split at hs
  · rename_i ob' v hg
    simp at hs
    obtain ⟨rfl, rfl, rfl⟩ := hs
    obtain ⟨h1, h2, h3⟩ := h _ _ _ hg ho
    exact gives_pure hT h3 h1 h2 _
  · simp at hs

theorem wfU {n : Int} (h : (Lit.int .u64 n).wf = true) : 0 ≤ n ∧ n < 18446744073709551616 := by
  simp only [Lit.wf, Bool.and_eq_true, decide_eq_true_eq] at h
  have e1 : IntKind.u64.min = 0 := by decide
  have e2 : IntKind.u64.max = 18446744073709551615 := by decide
  omega
theorem wfI {n : Int} (h : (Lit.int .i64 n).wf = true) : -9223372036854775808 ≤ n ∧ n < 9223372036854775808 := by
  simp only [Lit.wf, Bool.and_eq_true, decide_eq_true_eq] at h
  have e1 : IntKind.i64.min = -9223372036854775808 := by decide
  have e2 : IntKind.i64.max = 9223372036854775807 := by decide
  omega
end Go.Hx

