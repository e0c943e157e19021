/- cause.Word: of a nil error, of an api.Errno, of a trouble at a word whose cause is an api.Errno. -/
import Derived.Test.YtfdkaakllceebaaDoorAsNil
import Derived.RangeFuncRecord
import Derived.TacticsIn
import Derived.BigFrameIn
import Derived.RangeFuncOwn
import Derived.LoopNIn
import Derived.OneCell
import Derived.Tactics2
import Derived.WalkKit
import Derived.WalkSpells
import Derived.StillTactics
import Derived.Laws.Pointers
import Derived.Deep.RegionHeld3
namespace Go.Proofs.YtfdkaakllceebaaDoor
open Go Go.RowKit
def findR : Code → Option (Code × Code)
  | .rangeFunc _ _ a c => some (a, c)
  | .seq x y => match findR x with | some r => some r | none => findR y
  | .block _ c => findR c
  | .loop c => findR c
  | _ => none
noncomputable def wAs : Code := match Tryd.f62.body with | some c => (match findR c with | some r => r.1 | none => .skip) | none => .skip
noncomputable def wBd : Code := match Tryd.f62.body with | some c => (match findR c with | some r => r.2 | none => .skip) | none => .skip
theorem parts_in (F : Fence) (n : Nat) (hF : F.fn 80) (hro : F.round = none) (v : Value) (hv : v = .nilIface ∨ ∃ t x, v = .iface t x) (W : World) :
    CallsIn F n Tryd.prog 80 #[v] W fun e W' => e = .returned (.func (.func 87) #[] #[.pointer (some ⟨W.heap.size, 0, none⟩)]) ∧ W' = W.alloc (.cells #[v] 35) := by
  rcases hv with rfl | ⟨t, x, rfl⟩
  all_goals
    refine callsIn_of_wp Tryd.func80 rfl hF ?_ hro
    simp only [Tryd.ntmps80, List.size_toArray, List.length_nil, List.length_cons, Nat.reduceAdd, Nat.reduceSub, Array.replicate_succ, Array.replicate_zero, List.push_toArray, List.append_toArray, List.nil_append, List.cons_append]
    gi_wp2
    first | go_end0 | go_ret
    exact ⟨rfl, rfl⟩
def wTmps (s : Nat) (t0 t11 : Value) : Array Value := #[t0, undef, .int .i64 0, .bool false, .pointer (some ⟨s, 0, none⟩), .pointer (some ⟨s + 1, 0, none⟩), undef, undef, undef, t0, .func (.func 87) #[] #[.pointer (some ⟨s + 1 + 1, 0, none⟩)], t11, undef, undef, undef, undef, undef, undef, undef, undef, undef, undef, undef, undef]
noncomputable def wRec (fn : FuncId) (s : Nat) (t0 : Value) (st : LoopState) (pend : Option Code) : Loop :=
  { state := st, pending := pend, fn, tmps := wTmps s t0 undef, params := #[11], assign := wAs, body := wBd, defers := s + 1 + 1 + 1 }
/-- Between two rounds. -/
structure WMid (w0 : World) (fn : FuncId) (t0 : Value) (x : Int) (b : Bool) (v : Value) (W : World) : Prop where
  c4 : W.heap[w0.heap.size]? = some (.cells #[.int .i64 x] 3 (0, 0))
  c5 : W.heap[w0.heap.size + 1]? = some (.cells #[.bool b] 4 (0, 0))
  cx : W.heap[w0.heap.size + 1 + 1]? = some (.cells #[v] 35 (0, 0))
  K : W.heap[w0.heap.size + 1 + 1 + 1]? = some (.deferred (some []))
  L : W.heap[w0.heap.size + 1 + 1 + 1 + 1]? = some (.loop (wRec fn w0.heap.size t0 .ready none))
  bel : Below w0.heap.size w0 W

theorem notAtE (e : Int) (w : World) : (Instr.typeAssert (.iface 38 (.int .i64 e)) 35 93 true).run Tryd.prog w = .ok (.tuple #[.pointer none, .bool false]) w := by kernel_rfl
theorem isAtA (p : Value) (w : World) : (Instr.typeAssert (.iface 93 p) 35 93 true).run Tryd.prog w = .ok (.tuple #[p, .bool true]) w := by kernel_rfl
theorem oneCell {w : World} {b : Nat} {v : Value} {t : TypeId} (h : w.heap[b]? = some (.cells #[v] t (0, 0))) : w.cell? ⟨b, 0, none⟩ = some v := by simp [World.cell?, h]
theorem oneFree {w : World} {b : Nat} {v : Value} {t : TypeId} (h : w.heap[b]? = some (.cells #[v] t (0, 0))) : w.frozen? ⟨b, 0, none⟩ = false := by simp [World.frozen?, h]
theorem below_put {w0 W : World} {l : Nat} {o : Obj} (h : Below w0.heap.size w0 W) (hl : w0.heap.size ≤ l) : Below w0.heap.size w0 (W.putObj l o) :=
  h.trans ⟨rfl, rfl, rfl, by simp, fun k hk => World.putObj_heap_other (by omega)⟩
set_option maxRecDepth 20000 in
set_option maxHeartbeats 2000000 in
theorem wRoundC (m : Nat) (w0 : World) (fn : FuncId) (t0 : Value) (x : Int) (b : Bool) (v : Value) (e : Int) (W : World) (h : WMid w0 fn t0 x b v W) :
    RoundIn Fence.wide m Tryd.prog (w0.heap.size + 1 + 1 + 1 + 1) fn (wTmps w0.heap.size t0 (.iface 38 (.int .i64 e))) wAs wBd W
      fun r W' => r = .returned (.bool true) ∧ WMid w0 fn t0 x b v W' := by
  refine roundIn_of_wpIn trivial ?_
  have hl := (Array.getElem?_eq_some_iff.1 h.L).1
  have hbr := run_beginRound (P := Tryd.prog) h.L rfl
  obtain ⟨W2, hW2⟩ : ∃ W2, W.putObj (w0.heap.size + 1 + 1 + 1 + 1) (.loop { wRec fn w0.heap.size t0 .ready none with state := .busy }) = W2 := ⟨_, rfl⟩
  rw [hW2] at hbr
  have hoth : ∀ k, k ≠ w0.heap.size + 1 + 1 + 1 + 1 → W2.heap[k]? = W.heap[k]? := fun k hk => by rw [← hW2]; exact World.putObj_heap_other hk
  have hL2 : W2.heap[w0.heap.size + 1 + 1 + 1 + 1]? = some (.loop { wRec fn w0.heap.size t0 .ready none with state := .busy }) := by rw [← hW2]; exact World.putObj_heap_same hl
  have hb2 : Below w0.heap.size w0 W2 := by rw [← hW2]; exact below_put h.bel (by omega)
  clear hW2
  have hta := notAtE e
  unfold wAs Tryd.f62 wTmps
  simp only [findR]
  gi_wp2_with (rw [Oper.semAt_eq _ _ _ (fun c h => by cases h)]; go_simp; (try go_bits); (try (simp only [Act.put]; go_at_K)))
  unfold wBd Tryd.f62
  simp only [findR]
  gi_wp2_with (rw [Oper.semAt_eq _ _ _ (fun c h => by cases h)]; go_simp; (try go_bits); (try (simp only [Act.put]; go_at_K)))
  have hl2 := (Array.getElem?_eq_some_iff.1 hL2).1
  refine ⟨_, _, run_endRound none hL2, rfl, ?_, ?_, ?_, ?_, ?_, ?_⟩
  · rw [World.putObj_heap_other (by omega), hoth _ (by omega)]; exact h.c4
  · rw [World.putObj_heap_other (by omega), hoth _ (by omega)]; exact h.c5
  · rw [World.putObj_heap_other (by omega), hoth _ (by omega)]; exact h.cx
  · rw [World.putObj_heap_other (by omega), hoth _ (by omega)]; exact h.K
  · exact World.putObj_heap_same hl2
  · exact below_put hb2 (by omega)
set_option maxRecDepth 20000 in
set_option maxHeartbeats 2000000 in
theorem wRoundA (m : Nat) (w0 : World) (fn : FuncId) (t0 : Value) (x : Int) (b : Bool) (v : Value) (e i : Int) (pb : Nat) (W : World) (h : WMid w0 fn t0 x b v W)
    (hp : w0.heap[pb]? = some (.cells #[.iface 38 (.int .i64 e), .int .i64 i] 95 (0, 0))) (hpl : pb < w0.heap.size) :
    RoundIn Fence.wide m Tryd.prog (w0.heap.size + 1 + 1 + 1 + 1) fn (wTmps w0.heap.size t0 (.iface 93 (.pointer (some ⟨pb, 0, none⟩)))) wAs wBd W
      fun r W' => r = .returned (.bool true) ∧ WMid w0 fn t0 i true v W' := by
  refine roundIn_of_wpIn trivial ?_
  have hl := (Array.getElem?_eq_some_iff.1 h.L).1
  have hbr := run_beginRound (P := Tryd.prog) h.L rfl
  obtain ⟨W2, hW2⟩ : ∃ W2, W.putObj (w0.heap.size + 1 + 1 + 1 + 1) (.loop { wRec fn w0.heap.size t0 .ready none with state := .busy }) = W2 := ⟨_, rfl⟩
  rw [hW2] at hbr
  have hoth : ∀ k, k ≠ w0.heap.size + 1 + 1 + 1 + 1 → W2.heap[k]? = W.heap[k]? := fun k hk => by rw [← hW2]; exact World.putObj_heap_other hk
  have hL2 : W2.heap[w0.heap.size + 1 + 1 + 1 + 1]? = some (.loop { wRec fn w0.heap.size t0 .ready none with state := .busy }) := by rw [← hW2]; exact World.putObj_heap_same hl
  have hb2 : Below w0.heap.size w0 W2 := by rw [← hW2]; exact below_put h.bel (by omega)
  clear hW2
  have h4 : W2.heap[w0.heap.size]? = some (.cells #[.int .i64 x] 3 (0, 0)) := by rw [hoth _ (by omega)]; exact h.c4
  have h5 : W2.heap[w0.heap.size + 1]? = some (.cells #[.bool b] 4 (0, 0)) := by rw [hoth _ (by omega)]; exact h.c5
  have hpw : W2.cell? ⟨pb, 1, none⟩ = some (.int .i64 i) := by
    have : W2.heap[pb]? = _ := (hb2.block pb hpl).trans hp
    simp [World.cell?, this]
  have hc4 := oneCell h4
  have hf4 := oneFree h4
  have h5' : (W2.setCell ⟨w0.heap.size, 0, none⟩ (.int .i64 i)).heap[w0.heap.size + 1]? = some (.cells #[.bool b] 4 (0, 0)) := by rw [Below.heap_setCell _ _ _ _ (by simp)]; exact h5
  have hc5 := oneCell h5'
  have hf5 := oneFree h5'
  have hta := isAtA
  unfold wAs Tryd.f62 wTmps
  simp only [findR]
  gi_wp2_with (rw [Oper.semAt_eq _ _ _ (fun c h => by cases h)]; go_simp; (try go_bits); (try (simp only [Act.put]; go_at_K)))
  unfold wBd Tryd.f62
  simp only [findR]
  gi_wp2_with (rw [Oper.semAt_eq _ _ _ (fun c h => by cases h)]; go_simp; (try go_bits); (try (simp only [Act.put]; go_at_K)))
  have h4s := one_setCell (u := .int .i64 i) h4
  have h5s := one_setCell (u := .bool true) h5'
  have hoth2 : ∀ k, k ≠ w0.heap.size → k ≠ w0.heap.size + 1 → ((W2.setCell ⟨w0.heap.size, 0, none⟩ (.int .i64 i)).setCell ⟨w0.heap.size + 1, 0, none⟩ (.bool true)).heap[k]? = W2.heap[k]? := fun k h1 h2 => by
    rw [Below.heap_setCell _ _ _ _ h2, Below.heap_setCell _ _ _ _ h1]
  have hL3 : ((W2.setCell ⟨w0.heap.size, 0, none⟩ (.int .i64 i)).setCell ⟨w0.heap.size + 1, 0, none⟩ (.bool true)).heap[w0.heap.size + 1 + 1 + 1 + 1]? = _ := (hoth2 _ (by omega) (by omega)).trans hL2
  have hl3 := (Array.getElem?_eq_some_iff.1 hL3).1
  refine ⟨_, _, run_endRound none hL3, rfl, ?_, ?_, ?_, ?_, ?_, ?_⟩
  · rw [World.putObj_heap_other (by omega), Below.heap_setCell _ _ _ _ (by simp)]; exact h4s
  · rw [World.putObj_heap_other (by omega)]; exact h5s
  · rw [World.putObj_heap_other (by omega), hoth2 _ (by omega) (by omega), hoth _ (by omega)]; exact h.cx
  · rw [World.putObj_heap_other (by omega), hoth2 _ (by omega) (by omega), hoth _ (by omega)]; exact h.K
  · exact World.putObj_heap_same hl3
  · exact below_put ((hb2.setCell (by simp) _).setCell (by simp) _) (by omega)
theorem WMid.setX {w0 : World} {fn : FuncId} {t0 : Value} {x : Int} {b : Bool} {v : Value} {W : World} (h : WMid w0 fn t0 x b v W) (u : Value) : WMid w0 fn t0 x b u (W.setCell ⟨w0.heap.size + 1 + 1, 0, none⟩ u) :=
  ⟨by rw [Below.heap_setCell _ _ _ _ (by simp; omega)]; exact h.c4, by rw [Below.heap_setCell _ _ _ _ (by simp)]; exact h.c5, one_setCell h.cx, by rw [Below.heap_setCell _ _ _ _ (by simp)]; exact h.K,
    by rw [Below.heap_setCell _ _ _ _ (by simp; omega)]; exact h.L, h.bel.setCell (by simp; omega) _⟩
theorem notOverE (e : Int) (w : World) : (Instr.typeAssert (.iface 38 (.int .i64 e)) 35 151 true).run Tryd.prog w = .ok (.tuple #[.pointer none, .bool false]) w := by kernel_rfl
theorem notOverA (p : Value) (w : World) : (Instr.typeAssert (.iface 93 p) 35 151 true).run Tryd.prog w = .ok (.tuple #[.pointer none, .bool false]) w := by kernel_rfl
theorem yieldRun (w0 : World) (fn : FuncId) (t0 : Value) (x : Int) (b : Bool) (v u : Value) (W : World) (h : WMid w0 fn t0 x b v W) :
    (Instr.yield (w0.heap.size + 1 + 1 + 1 + 1) #[u]).run Tryd.prog W = .ok (.round (w0.heap.size + 1 + 1 + 1 + 1) fn (wTmps w0.heap.size t0 u) wAs wBd) W := by
  have := run_yield (P := Tryd.prog) (args := #[u]) h.L rfl
  simpa [wRec, wTmps] using this
set_option maxRecDepth 20000 in
set_option maxHeartbeats 4000000 in
theorem partsC (m : Nat) (hm : 1 ≤ m) (w0 : World) (fn : FuncId) (t0 : Value) (x : Int) (b : Bool) (e : Int) (W : World) (h : WMid w0 fn t0 x b (.iface 38 (.int .i64 e)) W) :
    CallsIn Fence.wide m Tryd.prog 87 #[.func (.yield (w0.heap.size + 1 + 1 + 1 + 1)) #[] #[], .pointer (some ⟨w0.heap.size + 1 + 1, 0, none⟩)] W fun r W' => (∃ v, r = .returned v) ∧ WMid w0 fn t0 x b .nilIface W' := by
  refine callsIn_of_wp Tryd.func87 rfl trivial ?_ rfl
  simp only [Tryd.ntmps87, List.size_toArray, List.length_nil, List.length_cons, Nat.reduceAdd, Nat.reduceSub, Array.replicate_succ, Array.replicate_zero, List.push_toArray, List.append_toArray, List.nil_append, List.cons_append]
  have hcx := oneCell h.cx
  have hy := yieldRun w0 fn t0 x b _ (.iface 38 (.int .i64 e)) W h
  gi_wp2
  refine wpIn_loop_rounds 2 ?_
  rw [roundsIn_succ]
  gi_wp2
  refine (wRoundC _ w0 fn t0 x b _ e W h).mono ?_
  rintro r W1 ⟨rfl, h1⟩
  have hcx1 := oneCell h1.cx
  have hfx1 := oneFree h1.cx
  have hno := notOverE e
  have hna := notAtE e
  have h2 := h1.setX .nilIface
  have hcx2 := oneCell h2.cx
  gi_wp2
  rw [roundsIn_succ]
  gi_wp2
  repeat (refine ⟨fun f hf => (by cases hf), ?_⟩; go_at_K; gi_wp2)
  first | go_end0 | go_ret
  exact ⟨⟨_, rfl⟩, h2⟩
set_option maxRecDepth 20000 in
set_option maxHeartbeats 4000000 in
theorem partsA (m : Nat) (hm : 1 ≤ m) (w0 : World) (fn : FuncId) (t0 : Value) (x : Int) (b : Bool) (e i : Int) (pb : Nat) (W : World) (h : WMid w0 fn t0 x b (.iface 93 (.pointer (some ⟨pb, 0, none⟩))) W)
    (hp : w0.heap[pb]? = some (.cells #[.iface 38 (.int .i64 e), .int .i64 i] 95 (0, 0))) (hpl : pb < w0.heap.size) :
    CallsIn Fence.wide m Tryd.prog 87 #[.func (.yield (w0.heap.size + 1 + 1 + 1 + 1)) #[] #[], .pointer (some ⟨w0.heap.size + 1 + 1, 0, none⟩)] W fun r W' => (∃ v, r = .returned v) ∧ WMid w0 fn t0 i true .nilIface W' := by
  refine callsIn_of_wp Tryd.func87 rfl trivial ?_ rfl
  simp only [Tryd.ntmps87, List.size_toArray, List.length_nil, List.length_cons, Nat.reduceAdd, Nat.reduceSub, Array.replicate_succ, Array.replicate_zero, List.push_toArray, List.append_toArray, List.nil_append, List.cons_append]
  have hcx := oneCell h.cx
  have hy := yieldRun w0 fn t0 x b _ (.iface 93 (.pointer (some ⟨pb, 0, none⟩))) W h
  gi_wp2
  refine wpIn_loop_rounds 3 ?_
  rw [roundsIn_succ]
  gi_wp2
  refine (wRoundA _ w0 fn t0 x b _ e i pb W h hp hpl).mono ?_
  rintro r W1 ⟨rfl, h1⟩
  have hcx1 := oneCell h1.cx
  have hfx1 := oneFree h1.cx
  have hno := notOverA
  have hna := isAtA
  have hpw : W1.cell? ⟨pb, 0, none⟩ = some (.iface 38 (.int .i64 e)) := by
    have : W1.heap[pb]? = _ := (h1.bel.block pb hpl).trans hp
    simp [World.cell?, this]
  have h2 := h1.setX (.iface 38 (.int .i64 e))
  have hcx2 := oneCell h2.cx
  have hy2 := yieldRun w0 fn t0 i true _ (.iface 38 (.int .i64 e)) _ h2
  gi_wp2
  rw [roundsIn_succ]
  gi_wp2
  refine (wRoundC _ w0 fn t0 i true _ e _ h2).mono ?_
  rintro r W3 ⟨rfl, h3⟩
  have hcx3 := oneCell h3.cx
  have hfx3 := oneFree h3.cx
  have hno3 := notOverE e
  have hna3 := notAtE e
  have h4 := h3.setX .nilIface
  have hcx4 := oneCell h4.cx
  gi_wp2
  rw [roundsIn_succ]
  gi_wp2
  repeat (refine ⟨fun f hf => (by cases hf), ?_⟩; go_at_K; gi_wp2)
  first | go_end0 | go_ret
  exact ⟨⟨_, rfl⟩, h4⟩
theorem partsN (m : Nat) (w0 : World) (fn : FuncId) (t0 : Value) (x : Int) (b : Bool) (W : World) (h : WMid w0 fn t0 x b .nilIface W) :
    CallsIn Fence.wide m Tryd.prog 87 #[.func (.yield (w0.heap.size + 1 + 1 + 1 + 1)) #[] #[], .pointer (some ⟨w0.heap.size + 1 + 1, 0, none⟩)] W fun r W' => (∃ v, r = .returned v) ∧ WMid w0 fn t0 x b .nilIface W' := by
  refine callsIn_of_wp Tryd.func87 rfl trivial ?_ rfl
  simp only [Tryd.ntmps87, List.size_toArray, List.length_nil, List.length_cons, Nat.reduceAdd, Nat.reduceSub, Array.replicate_succ, Array.replicate_zero, List.push_toArray, List.append_toArray, List.nil_append, List.cons_append]
  have hcx := oneCell h.cx
  gi_wp2
  refine wpIn_loop_rounds 1 ?_
  rw [roundsIn_succ]
  gi_wp2
  repeat (refine ⟨fun f hf => (by cases hf), ?_⟩; go_at_K; gi_wp2)
  first | go_end0 | go_ret
  exact ⟨⟨_, rfl⟩, h⟩
set_option maxRecDepth 100000 in
set_option maxHeartbeats 4000000 in
/-- cause.Word, of what its parts leave. -/
theorem word_of (w : World) (t0 : Value) (hv : t0 = .nilIface ∨ ∃ t x, t0 = .iface t x) (i : Int) (b : Bool)
    (hp : ∀ fn W, WMid w fn t0 0 false t0 W → CallsIn Fence.wide 2 Tryd.prog 87 #[.func (.yield (w.heap.size + 1 + 1 + 1 + 1)) #[] #[], .pointer (some ⟨w.heap.size + 1 + 1, 0, none⟩)] W fun r W' => (∃ v, r = .returned v) ∧ WMid w fn t0 i b .nilIface W') :
    Calls Tryd.prog 62 #[t0] w fun r w' => r = .returned (.tuple #[.int .i64 i, .bool b]) ∧ Below w.heap.size w w' := by
  refine (callsIn_wide (n := 3)).1 ?_
  refine callsIn_of_wp_marks Tryd.func62 rfl trivial ?_ rfl
  simp only [Tryd.ntmps62, List.size_toArray, List.length_nil, List.length_cons, Nat.reduceAdd, Nat.reduceSub, Array.replicate_succ, Array.replicate_zero, List.push_toArray, List.append_toArray, List.nil_append, List.cons_append]
  gi_wp2
  refine ⟨trivial, (parts_in Fence.wide _ trivial rfl _ hv _).mono ?_⟩
  rintro e W1 ⟨rfl, rfl⟩
  gi_wp2
  refine wpIn_rangeFunc ?_
  intro fn hfn
  obtain ⟨W0, hW0⟩ : ∃ W0, (((w.alloc (.cells #[.int .i64 0] 3)).alloc (.cells #[.bool false] 4)).alloc (.cells #[t0] 35)) = W0 := ⟨_, rfl⟩
  have hs0 : W0.heap.size = w.heap.size + 1 + 1 + 1 := by rw [← hW0]; simp
  have hb0 : Below w.heap.size w W0 := by
    rw [← hW0]
    exact (((Below.refl _ _).alloc (Nat.le_refl _) _).alloc (by simp) _).alloc (by simp; omega) _
  have h4 : W0.heap[w.heap.size]? = some (.cells #[.int .i64 0] 3 (0, 0)) := by
    rw [← hW0, Below.heap_alloc _ _ _ (by simp; omega), Below.heap_alloc _ _ _ (by simp)]
    exact World.alloc_heap_new w _
  have h5 : W0.heap[w.heap.size + 1]? = some (.cells #[.bool false] 4 (0, 0)) := by
    rw [← hW0, Below.heap_alloc _ _ _ (by simp)]
    have := World.alloc_heap_new (w.alloc (.cells #[.int .i64 0] 3)) (.cells #[.bool false] 4)
    rwa [World.size_alloc] at this
  have hx : W0.heap[w.heap.size + 1 + 1]? = some (.cells #[t0] 35 (0, 0)) := by
    rw [← hW0]
    have := World.alloc_heap_new ((w.alloc (.cells #[.int .i64 0] 3)).alloc (.cells #[.bool false] 4)) (.cells #[t0] 35)
    rwa [World.size_alloc, World.size_alloc] at this
  rw [hW0]
  obtain ⟨W1, hW1⟩ : ∃ W1, (W0.alloc (.deferred (some []))).alloc (.loop (wRec fn w.heap.size t0 .ready none)) = W1 := ⟨_, rfl⟩
  have hold : ∀ k, k < W0.heap.size → W1.heap[k]? = W0.heap[k]? := fun k hk => by
    rw [← hW1]; exact (Below.heap_alloc _ _ k (by simp; omega)).trans (Below.heap_alloc _ _ k hk)
  have hM : WMid w fn t0 0 false t0 W1 := by
    refine ⟨(hold _ (by omega)).trans h4, (hold _ (by omega)).trans h5, (hold _ (by omega)).trans hx, ?_, ?_, ?_⟩
    · rw [← hW1, ← hs0]; exact (Below.heap_alloc _ _ _ (by simp)).trans (World.alloc_heap_new W0 _)
    · rw [← hW1, ← hs0]; have := World.alloc_heap_new (W0.alloc (.deferred (some []))) (.loop (wRec fn w.heap.size t0 .ready none)); rwa [World.size_alloc] at this
    · rw [← hW1]; exact (hb0.alloc (by omega) _).alloc (by simp; omega) _
  refine ⟨w.heap.size + 1 + 1 + 1 + 1, [{ target := .collected (w.heap.size + 1 + 1 + 1), args := #[] }], W1, { target := .fn (.func 87) #[.pointer (some ⟨w.heap.size + 1 + 1, 0, none⟩)], args := #[.func (.yield (w.heap.size + 1 + 1 + 1 + 1)) #[] #[]] }, W1, 87,
    #[.func (.yield (w.heap.size + 1 + 1 + 1 + 1)) #[] #[], .pointer (some ⟨w.heap.size + 1 + 1, 0, none⟩)], W1, ?_, ?_, ?_, ?_, fun _ => by omega, ?_⟩
  · have e := run_enterLoop_outer (P := Tryd.prog) (w := W0) fn (wTmps w.heap.size t0 undef) #[11] wAs wBd
    rw [hs0] at e
    rw [← hW1]; exact e
  · simp [resolve, go_sem]
  · intro f' hf'; trivial
  · simp [invoke, go_sem]
  · refine (hp fn W1 hM).mono ?_
    rintro e W2 ⟨⟨v, rfl⟩, h2⟩
    have hend := run_endLoop (P := Tryd.prog) h2.L (by simp [wRec])
    obtain ⟨W3, hW3⟩ : ∃ W3, W2.putObj (w.heap.size + 1 + 1 + 1 + 1) (.loop { wRec fn w.heap.size t0 .ready none with state := .exhausted }) = W3 := ⟨_, rfl⟩
    rw [hW3] at hend
    have hoth : ∀ k, k ≠ w.heap.size + 1 + 1 + 1 + 1 → W3.heap[k]? = W2.heap[k]? := fun k hk => by rw [← hW3]; exact World.putObj_heap_other hk
    have h43 : W3.heap[w.heap.size]? = some (.cells #[.int .i64 i] 3 (0, 0)) := by rw [hoth _ (by omega)]; exact h2.c4
    have h53 : W3.heap[w.heap.size + 1]? = some (.cells #[.bool b] 4 (0, 0)) := by rw [hoth _ (by omega)]; exact h2.c5
    have hK3 : W3.heap[w.heap.size + 1 + 1 + 1]? = some (.deferred (some [])) := by rw [hoth _ (by omega)]; exact h2.K
    have hb3 : Below w.heap.size w W3 := by rw [← hW3]; exact below_put h2.bel (by omega)
    clear hW3
    have hc4 := oneCell h43
    have hc5 := oneCell h53
    refine ⟨none, W3, hend, ?_⟩
    gi_wp2
    refine wpIn_wide.2 ?_
    go_region_held3 (fun w' => w'.cell? ⟨w.heap.size, 0, none⟩ = some (.int .i64 i) ∧ w'.cell? ⟨w.heap.size + 1, 0, none⟩ = some (.bool b)) (go_keep) (fail)
    simp only [Exit.then]
    go_at_K
    gi_wp2
    have hKd : W3.drew.heap[w.heap.size + 1 + 1 + 1]? = some (.deferred (some [])) := hK3
    refine ⟨by simp, .inl ⟨_, _, rfl, run_takeDeferred hKd, ?_⟩⟩
    exact ⟨_, results_tmp2 rfl _ _ _, rfl, below_put hb3.drew (by omega)⟩
theorem word_nilW (w : World) : Calls Tryd.prog 62 #[.nilIface] w fun r w' => r = .returned (.tuple #[.int .i64 0, .bool false]) ∧ Below w.heap.size w w' :=
  word_of w .nilIface (.inl rfl) 0 false fun fn W h => partsN 2 w fn _ 0 false W h
theorem word_codeW (e : Int) (w : World) : Calls Tryd.prog 62 #[.iface 38 (.int .i64 e)] w fun r w' => r = .returned (.tuple #[.int .i64 0, .bool false]) ∧ Below w.heap.size w w' :=
  word_of w _ (.inr ⟨_, _, rfl⟩) 0 false fun fn W h => partsC 2 (by omega) w fn _ 0 false e W h
theorem word_atW (e i : Int) (pb : Nat) (w : World) (hp : w.heap[pb]? = some (.cells #[.iface 38 (.int .i64 e), .int .i64 i] 95 (0, 0))) :
    Calls Tryd.prog 62 #[.iface 93 (.pointer (some ⟨pb, 0, none⟩))] w fun r w' => r = .returned (.tuple #[.int .i64 i, .bool true]) ∧ Below w.heap.size w w' :=
  word_of w _ (.inr ⟨_, _, rfl⟩) i true fun fn W h => partsA 2 (by omega) w fn _ 0 false e i pb W h hp (lt_of_block hp)
end Go.Proofs.YtfdkaakllceebaaDoor
