/- errors.As at the target *api.Errno: of a trouble at a word, whose cause is an api.Errno. -/
import Derived.Test.YtkkddjchkkaagaaGreatDoorAsNil
import Derived.Stop.Asserts
namespace Go.Proofs.YtkkddjchkkaagaaGreatDoor
open Go Go.RowKit Go.Extern

theorem typeOfA (v : Value) (w : World) : (ReflectliteType.typeOf #[.iface 221 v]).run Tryz.prog w = .ok (.iface 208 (.agg #[.pointer (some ⟨1, 221, none⟩)])) w := by kernel_rfl
theorem assignableA (w : World) : (ReflectliteType.relation "AssignableTo" ReflectliteType.assignableTo #[.agg #[.pointer (some ⟨1, 221, none⟩)], .iface 208 (.agg #[.pointer (some ⟨1, 35, none⟩)])]).run Tryz.prog w = .ok (.bool false) w := by kernel_rfl
theorem noAsA (v : Value) (xT : TypeId) (w : World) : (Instr.typeAssert (.iface 221 v) xT 213 true).run Tryz.prog w = .ok (.tuple #[.nilIface, .bool false]) w :=
  run_typeAssert_lacksB Tryz.underlying213 (by kernel_rfl) (by kernel_rfl) v xT w
theorem unwrapA (v : Value) (xT : TypeId) (w : World) : (Instr.typeAssert (.iface 221 v) xT 216 true).run Tryz.prog w = .ok (.tuple #[.iface 221 v, .bool true]) w :=
  run_typeAssert_hasB Tryz.underlying216 (by kernel_rfl) v xT w
theorem methodUnwrap (v : Value) (w : World) : (Go.method 377 221 v "Unwrap").run Tryz.prog w = .ok (244, v) w := by kernel_rfl

set_option maxHeartbeats 4000000 in
theorem as_atW (e : Int) (p t : Addr) (old : Value) (w : World) (hp : w.cell? p = some (.iface 35 (.int .i64 e))) (hg : w.cell? ⟨0, 0, none⟩ = some (.iface 208 (.agg #[.pointer (some ⟨1, 27, none⟩)]))) (ht0 : w.cell? t = some old) (hf0 : w.frozen? t = false) :
    Calls Tryz.prog 80 #[.iface 221 (.pointer (some p)), .iface 134 (.pointer (some t))] w fun ev w' => ev = .returned (.bool true) ∧ w' = ((((w.alloc (.cells #[.pointer (some t)] 134)).alloc (.cells #[.pointer (some ⟨1, 134, none⟩), .pointer (some ⟨w.heap.size, 0, none⟩), .int .u64 150] 178)).alloc (.cells #[.pointer (some ⟨1, 134, none⟩), .pointer (some ⟨w.heap.size, 0, none⟩), .int .u64 150] 178)).alloc (.cells #[.int .i64 e] 35)).setCell t (.int .i64 e) := by
  have hVO := @run_callFunc_extern Tryz.prog 135 _ (fun args => ReflectliteValue.unpack (args.getD 0 (.tuple #[]))) Tryz.func135 (by kernel_rfl) (by kernel_rfl) (by kernel_rfl) (by kernel_rfl)
  have hTy := @run_callFunc_extern Tryz.prog 136 _ (ReflectliteValue.methodAny (ReflectliteValue.valueError "reflectlite.Value.Type" 0) (fun t _ _ _ => ReflectliteType.toType t)) Tryz.func136 (by kernel_rfl) (by kernel_rfl) (by kernel_rfl) (by kernel_rfl)
  have hIN := @run_callFunc_extern Tryz.prog 137 _ (ReflectliteValue.method (ReflectliteValue.valueError "reflectlite.Value.IsNil" 0) ReflectliteValue.isNil) Tryz.func137 (by kernel_rfl) (by kernel_rfl) (by kernel_rfl) (by kernel_rfl)
  have hK := @run_callFunc_extern Tryz.prog 225 _ (ReflectliteType.abiMethod fun t => do pure (.int .u8 (← Rtype.kind t))) Tryz.func225 (by kernel_rfl) (by kernel_rfl) (by kernel_rfl) (by kernel_rfl)
  have hEl := @run_callFunc_extern Tryz.prog 235 _ (ReflectliteType.method ReflectliteType.elem) Tryz.func235 (by kernel_rfl) (by kernel_rfl) (by kernel_rfl) (by kernel_rfl)
  have hIm := @run_callFunc_extern Tryz.prog 236 _ (ReflectliteType.relation "Implements" ReflectliteType.implements_) Tryz.func236 (by kernel_rfl) (by kernel_rfl) (by kernel_rfl) (by kernel_rfl)
  have hTO := @run_callFunc_extern Tryz.prog 171 _ ReflectliteType.typeOf Tryz.func171 (by kernel_rfl) (by kernel_rfl) (by kernel_rfl) (by kernel_rfl)
  have hAs := @run_callFunc_extern Tryz.prog 233 _ (ReflectliteType.relation "AssignableTo" ReflectliteType.assignableTo) Tryz.func233 (by kernel_rfl) (by kernel_rfl) (by kernel_rfl) (by kernel_rfl)
  have hVE := @run_callFunc_extern Tryz.prog 172 _ (ReflectliteValue.method (ReflectliteValue.valueError "reflectlite.Value.Elem" 0) ReflectliteValue.elem) Tryz.func172 (by kernel_rfl) (by kernel_rfl) (by kernel_rfl) (by kernel_rfl)
  have hSt := @run_callFunc_extern Tryz.prog 173 _ ReflectliteValue.set Tryz.func173 (by kernel_rfl) (by kernel_rfl) (by kernel_rfl) (by kernel_rfl)
  have tO := typeOfE
  have tA := typeOfA
  have aA := assignableA
  have nA := noAsA
  have uA := unwrapA
  have mU := methodUnwrap
  have mA := methodAssignableTo
  have aE := assignableE
  have vE := valueOfE
  have fP := valueOfP
  have fT := typeP
  have mK := methodKind
  have mE := methodElem
  have mI := methodImplements
  have kP := kindP
  have kE := kindE
  have eP := elemP
  have iE := implementsE
  have n8 := isNilP ⟨w.heap.size, 0, none⟩ t ((w.alloc (.cells #[.pointer (some t)] 134)).alloc (.cells #[.pointer (some ⟨1, 134, none⟩), .pointer (some ⟨w.heap.size, 0, none⟩), .int .u64 150] 178)) (by simp)
  have hlt : 0 < w.heap.size := by
    rcases Nat.eq_zero_or_pos w.heap.size with h0 | h
    · simp [World.cell?, h0] at hg
    · exact h
  have hg2 : ((w.alloc (.cells #[.pointer (some t)] 134)).alloc (.cells #[.pointer (some ⟨1, 134, none⟩), .pointer (some ⟨w.heap.size, 0, none⟩), .int .u64 150] 178)).cell? ⟨0, 0, none⟩ = some (.iface 208 (.agg #[.pointer (some ⟨1, 27, none⟩)])) := by
    rw [World.cell?_alloc_lt _ _ ⟨0, 0, none⟩ (by simp), World.cell?_alloc_lt _ _ ⟨0, 0, none⟩ hlt]; exact hg
  have htl : t.block < w.heap.size := by
    rcases Nat.lt_or_ge t.block w.heap.size with h | h
    · exact h
    · simp [World.cell?, Array.getElem?_eq_none h] at ht0
  have el := elemVP ⟨w.heap.size, 0, none⟩ t (((w.alloc (.cells #[.pointer (some t)] 134)).alloc (.cells #[.pointer (some ⟨1, 134, none⟩), .pointer (some ⟨w.heap.size, 0, none⟩), .int .u64 150] 178)).alloc (.cells #[.pointer (some ⟨1, 134, none⟩), .pointer (some ⟨w.heap.size, 0, none⟩), .int .u64 150] 178)) (by rw [World.cell?_alloc_lt _ _ ⟨w.heap.size, 0, none⟩ (by simp; omega)]; simp)
  have st := setE t ⟨w.heap.size + 1 + 1 + 1, 0, none⟩ e old ((((w.alloc (.cells #[.pointer (some t)] 134)).alloc (.cells #[.pointer (some ⟨1, 134, none⟩), .pointer (some ⟨w.heap.size, 0, none⟩), .int .u64 150] 178)).alloc (.cells #[.pointer (some ⟨1, 134, none⟩), .pointer (some ⟨w.heap.size, 0, none⟩), .int .u64 150] 178)).alloc (.cells #[.int .i64 e] 35))
    (by rw [World.cell?_alloc_at _ _ _ _ (by simp)]; rfl)
    (by rw [World.cell?_alloc_lt _ _ t (by simp; omega), World.cell?_alloc_lt _ _ t (by simp; omega), World.cell?_alloc_lt _ _ t (by simp; omega), World.cell?_alloc_lt _ _ t htl]; exact ht0)
    (by rw [World.frozen?_alloc_old _ _ t (by simp; omega), World.frozen?_alloc_old _ _ t (by simp; omega), World.frozen?_alloc_old _ _ t (by simp; omega), World.frozen?_alloc_old _ _ t (Nat.ne_of_lt htl)]; exact hf0)
  have hpl : p.block < w.heap.size := by
    rcases Nat.lt_or_ge p.block w.heap.size with h | h
    · exact h
    · simp [World.cell?, Array.getElem?_eq_none h] at hp
  have hp3 : (((w.alloc (.cells #[.pointer (some t)] 134)).alloc (.cells #[.pointer (some ⟨1, 134, none⟩), .pointer (some ⟨w.heap.size, 0, none⟩), .int .u64 150] 178)).alloc (.cells #[.pointer (some ⟨1, 134, none⟩), .pointer (some ⟨w.heap.size, 0, none⟩), .int .u64 150] 178)).cell? p = some (.iface 35 (.int .i64 e)) := by
    rw [World.cell?_alloc_lt _ _ p (by simp; omega), World.cell?_alloc_lt _ _ p (by simp; omega), World.cell?_alloc_lt _ _ p hpl]; exact hp
  go_enter Tryz.func80, Tryz.ntmps80
  go_wp2
  refine wp_loop_rounds 2 ?_
  rw [rounds_succ]
  go_wp2
  rw [rounds_succ]
  go_wp2
  go_ret
  exact ⟨rfl, rfl⟩
end Go.Proofs.YtkkddjchkkaagaaGreatDoor
