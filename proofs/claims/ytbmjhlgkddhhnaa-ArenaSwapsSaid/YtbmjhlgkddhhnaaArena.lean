/- A1: a text of this seat. -/
import Derived.Test.YtbmjhlgkddhhnaaTypes
namespace Go.Proofs.Ytbmjhlgkddhhnaa
open Go Go.Hx
set_option maxRecDepth 4000

theorem Try.mixed : Try.prog.follows .mixedOrders = true := by kernel_rfl

/-- the arena, whose words lie at h -/
abbrev AO (h n : Nat) (st kd wd vl : Int) (ch er : SV) : HE := .obj (.cells [.slice h 0 n n, .int .i64 st, .int .i64 kd, .int .i64 wd, .int .u64 vl, ch, er] 69)
abbrev WO (ws : List Int) : HE := .obj (.ints .u64 ws 26)

theorem new_fn (n : Int) (h1 : 1 ≤ n) (h2 : n ≤ 4096) : Gives Try.prog 8 [.int .i64 n] [] (Is (.ptr 1 0) [WO (List.replicate n.toNat 0), AO 0 n.toNat 0 0 0 0 .ff .niliface]) := by
  refine fn_intro Try.hTE Try.func8 rfl 13 rfl rfl fun ρ w => ?_
  refine go 100 rfl trivial ?_
  refine sw_bool 5 rfl (fun h => absurd h (by simp; omega)) (fun _ => ?_)
  refine go 100 rfl trivial ?_
  refine sw_bool 8 rfl (fun h => absurd h (by simp; omega)) (fun _ => ?_)
  refine go 100 rfl (by simp [conj] <;> omega) ?_
  exact ret1 rfl (sub_of [0, 1] rfl rfl rfl rfl (by repeat' (first | exact rfl | exact trivial | refine And.intro ?_ ?_)) (by repeat' (first | exact rfl | exact trivial | refine And.intro ?_ ?_)) rfl rfl)

theorem load_fn (ws : List Int) (n : Nat) (st kd wd vl i : Int) (ch : SV) (hn : n = ws.length) (h1 : 0 ≤ i) (h2 : i < n) : Gives Try.prog 9 [.ptr 0 0, .int .i64 i] [AO 1 n st kd wd vl ch .niliface, WO ws]
    (Is (.int .u64 (ws.getD i.toNat 0)) [AO 1 n (IntKind.i64.wrap (st + 1)) 1 i (ws.getD i.toNat 0) .ff .niliface, WO ws]) := by
  refine fn_intro Try.hTE Try.func9 rfl 10 rfl rfl fun ρ w => ?_
  refine go 100 rfl trivial ?_
  refine' go_in rfl rfl Try.func30 rfl rfl rfl (?c30 : Gives _ _ _ _ (Is _ _)) rfl ?_
  case c30 =>
    refine fn_intro Try.hTE Try.func30 rfl 71 rfl rfl fun ρ w => ?_
    refine go 100 rfl trivial ?_
    refine' go_in rfl rfl Try.func51 rfl rfl rfl (?c51 : Gives _ _ _ _ (Is _ _)) rfl ?_
    case c51 =>
      refine fn_intro Try.hTE Try.func51 rfl 10 rfl rfl fun ρ w => ?_
      refine go 100 rfl trivial ?_
      refine go_add rfl rfl Try.func55 (by kernel_rfl) (by kernel_rfl) (by kernel_rfl) (by kernel_rfl) rfl rfl rfl rfl rfl rfl rfl ?_
      refine go 100 rfl trivial ?_
      exact in1 rfl rfl
    refine go 100 rfl trivial ?_
    refine sw_bool 23 rfl (fun h => absurd h (by simp; omega)) (fun _ => ?_)
    refine go 100 rfl trivial ?_
    refine sw_bool 31 rfl (fun h => absurd h (by simp; omega)) (fun _ => ?_)
    refine go 100 rfl (by simp [conj] <;> omega) ?_
    refine' go_in rfl rfl Try.func31 rfl rfl rfl (?c31 : Gives _ _ _ _ (Is _ _)) rfl ?_
    case c31 =>
      refine fn_intro Try.hTE Try.func31 rfl 7 rfl rfl fun ρ w => ?_
      refine go 100 rfl (by simp [conj] <;> omega) ?_
      exact in1 rfl rfl
    refine go 200 rfl (by simp [conj] <;> omega) ?_
    exact in1 rfl rfl
  refine go 200 rfl trivial ?_
  exact retC rfl [0, 1] rfl rfl rfl rfl rfl (subS_of [0, 1] rfl rfl rfl rfl trivial (by repeat' (first | exact rfl | exact trivial | refine And.intro ?_ ?_)) rfl rfl)

theorem swap_hit (ws : List Int) (n : Nat) (st kd wd vl i old new : Int) (ch : SV) (hn : n = ws.length) (h1 : 0 ≤ i) (h2 : i < n) (he : ws.getD i.toNat 0 = old) :
    Gives Try.prog 10 [.ptr 0 0, .int .i64 i, .int .u64 old, .int .u64 new] [AO 1 n st kd wd vl ch .niliface, WO ws]
    (Is .tt [AO 1 n (IntKind.i64.wrap (st + 1)) 3 i new .tt .niliface, WO (ws.set i.toNat new)]) := by
  have he' := he
  simp at he'
  have hg : (ws.set i.toNat new).getD i.toNat 0 = new := by rw [List.getD_eq_getElem?_getD, List.getElem?_set_self (by omega)]; rfl
  refine fn_intro Try.hTE Try.func10 rfl 13 rfl rfl fun ρ w => ?_
  refine go 100 rfl trivial ?_
  refine' go_in rfl rfl Try.func30 rfl rfl rfl (?c30 : Gives _ _ _ _ (Is _ _)) rfl ?_
  case c30 =>
    refine fn_intro Try.hTE Try.func30 rfl 71 rfl rfl fun ρ w => ?_
    refine go 100 rfl trivial ?_
    refine' go_in rfl rfl Try.func51 rfl rfl rfl (?c51 : Gives _ _ _ _ (Is _ _)) rfl ?_
    case c51 =>
      refine fn_intro Try.hTE Try.func51 rfl 10 rfl rfl fun ρ w => ?_
      refine go 100 rfl trivial ?_
      refine go_add rfl rfl Try.func55 (by kernel_rfl) (by kernel_rfl) (by kernel_rfl) (by kernel_rfl) rfl rfl rfl rfl rfl rfl rfl ?_
      refine go 100 rfl trivial ?_
      exact in1 rfl rfl
    refine go 100 rfl trivial ?_
    refine sw_bool 23 rfl (fun h => absurd h (by simp; omega)) (fun _ => ?_)
    refine go 100 rfl trivial ?_
    refine sw_bool 31 rfl (fun h => absurd h (by simp; omega)) (fun _ => ?_)
    refine go 100 rfl (by simp [conj] <;> omega) ?_
    refine' go_in rfl rfl Try.func32 rfl rfl rfl (?c32 : Gives _ _ _ _ (Is _ _)) rfl ?_
    case c32 =>
      refine fn_intro Try.hTE Try.func32 rfl 13 rfl rfl fun ρ w => ?_
      refine go 100 rfl (by simp [conj] <;> omega) ?_
      refine go_draw0 [] Try.mixed rfl rfl ⟨⟨rfl, rfl, rfl⟩, ⟨rfl, rfl, rfl⟩, ⟨by simp; omega, rfl, rfl⟩, ⟨rfl, rfl, rfl⟩, ⟨rfl, rfl, rfl⟩, trivial⟩ ?_
      refine go 100 rfl trivial ?_
      refine sw_bool 9 rfl (fun h => absurd h (by simp [he'])) (fun _ => ?_)
      refine go 100 rfl (by simp [conj] <;> omega) ?_
      exact in1 rfl rfl
    refine go 200 rfl (by simp [conj] <;> omega) ?_
    exact in1 rfl rfl
  refine go 200 rfl trivial ?_
  refine ret1 rfl (sub_of [0, 1] rfl rfl rfl rfl (by repeat' (first | exact rfl | exact trivial | refine And.intro ?_ ?_)) (by simp only [Nat.add_zero, hg]; repeat' (first | exact rfl | exact trivial | refine And.intro ?_ ?_)) rfl rfl)
theorem swap_miss (ws : List Int) (n : Nat) (st kd wd vl i old new : Int) (ch : SV) (hn : n = ws.length) (h1 : 0 ≤ i) (h2 : i < n) (he : ws.getD i.toNat 0 ≠ old) :
    Gives Try.prog 10 [.ptr 0 0, .int .i64 i, .int .u64 old, .int .u64 new] [AO 1 n st kd wd vl ch .niliface, WO ws]
    (Is .ff [AO 1 n (IntKind.i64.wrap (st + 1)) 3 i (ws.getD i.toNat 0) .ff .niliface, WO ws]) := by
  have he' := he
  simp at he'
  refine fn_intro Try.hTE Try.func10 rfl 13 rfl rfl fun ρ w => ?_
  refine go 100 rfl trivial ?_
  refine' go_in rfl rfl Try.func30 rfl rfl rfl (?c30 : Gives _ _ _ _ (Is _ _)) rfl ?_
  case c30 =>
    refine fn_intro Try.hTE Try.func30 rfl 71 rfl rfl fun ρ w => ?_
    refine go 100 rfl trivial ?_
    refine' go_in rfl rfl Try.func51 rfl rfl rfl (?c51 : Gives _ _ _ _ (Is _ _)) rfl ?_
    case c51 =>
      refine fn_intro Try.hTE Try.func51 rfl 10 rfl rfl fun ρ w => ?_
      refine go 100 rfl trivial ?_
      refine go_add rfl rfl Try.func55 (by kernel_rfl) (by kernel_rfl) (by kernel_rfl) (by kernel_rfl) rfl rfl rfl rfl rfl rfl rfl ?_
      refine go 100 rfl trivial ?_
      exact in1 rfl rfl
    refine go 100 rfl trivial ?_
    refine sw_bool 23 rfl (fun h => absurd h (by simp; omega)) (fun _ => ?_)
    refine go 100 rfl trivial ?_
    refine sw_bool 31 rfl (fun h => absurd h (by simp; omega)) (fun _ => ?_)
    refine go 100 rfl (by simp [conj] <;> omega) ?_
    refine' go_in rfl rfl Try.func32 rfl rfl rfl (?c32 : Gives _ _ _ _ (Is _ _)) rfl ?_
    case c32 =>
      refine fn_intro Try.hTE Try.func32 rfl 13 rfl rfl fun ρ w => ?_
      refine go 100 rfl (by simp [conj] <;> omega) ?_
      refine go_draw0 [] Try.mixed rfl rfl ⟨⟨rfl, rfl, rfl⟩, ⟨rfl, rfl, rfl⟩, ⟨by simp; omega, rfl, rfl⟩, ⟨rfl, rfl, rfl⟩, ⟨rfl, rfl, rfl⟩, trivial⟩ ?_
      refine go 100 rfl trivial ?_
      refine sw_bool 9 rfl (fun _ => ?_) (fun h => absurd h (by simp [he']))
      refine go 100 rfl trivial ?_
      exact in1 rfl rfl
    refine go 200 rfl (by simp [conj] <;> omega) ?_
    exact in1 rfl rfl
  refine go 200 rfl trivial ?_
  exact ret1 rfl (sub_of [0, 1] rfl rfl rfl rfl (by repeat' (first | exact rfl | exact trivial | refine And.intro ?_ ?_)) (by repeat' (first | exact rfl | exact trivial | refine And.intro ?_ ?_)) rfl rfl)

theorem store_fn (ws : List Int) (n : Nat) (st kd wd vl i v : Int) (ch : SV) (hn : n = ws.length) (h1 : 0 ≤ i) (h2 : i < n) : Gives Try.prog 14 [.ptr 0 0, .int .i64 i, .int .u64 v] [AO 1 n st kd wd vl ch .niliface, WO ws]
    (Is (.tup []) [AO 1 n (IntKind.i64.wrap (st + 1)) 2 i v .tt .niliface, WO (ws.set i.toNat v)]) := by
  have hg : (ws.set i.toNat v).getD i.toNat 0 = v := by rw [List.getD_eq_getElem?_getD, List.getElem?_set_self (by omega)]; rfl
  refine fn_intro Try.hTE Try.func14 rfl 10 rfl rfl fun ρ w => ?_
  refine go 100 rfl trivial ?_
  refine' go_in rfl rfl Try.func30 rfl rfl rfl (?c30 : Gives _ _ _ _ (Is _ _)) rfl ?_
  case c30 =>
    refine fn_intro Try.hTE Try.func30 rfl 71 rfl rfl fun ρ w => ?_
    refine go 100 rfl trivial ?_
    refine' go_in rfl rfl Try.func51 rfl rfl rfl (?c51 : Gives _ _ _ _ (Is _ _)) rfl ?_
    case c51 =>
      refine fn_intro Try.hTE Try.func51 rfl 10 rfl rfl fun ρ w => ?_
      refine go 100 rfl trivial ?_
      refine go_add rfl rfl Try.func55 (by kernel_rfl) (by kernel_rfl) (by kernel_rfl) (by kernel_rfl) rfl rfl rfl rfl rfl rfl rfl ?_
      refine go 100 rfl trivial ?_
      exact in1 rfl rfl
    refine go 100 rfl trivial ?_
    refine sw_bool 23 rfl (fun h => absurd h (by simp; omega)) (fun _ => ?_)
    refine go 100 rfl trivial ?_
    refine sw_bool 31 rfl (fun h => absurd h (by simp; omega)) (fun _ => ?_)
    refine go 100 rfl (by simp [conj] <;> omega) ?_
    refine' go_in rfl rfl Try.func34 rfl rfl rfl (?c34 : Gives _ _ _ _ (Is _ _)) rfl ?_
    case c34 =>
      refine fn_intro Try.hTE Try.func34 rfl 7 rfl rfl fun ρ w => ?_
      refine go 100 rfl (by simp [conj] <;> omega) ?_
      exact in1 rfl rfl
    refine go 200 rfl (by simp [conj] <;> omega) ?_
    exact in1 rfl rfl
  refine go 200 rfl trivial ?_
  refine end0 rfl (sub_of [0, 1] rfl rfl rfl rfl trivial (by simp only [Nat.add_zero, hg]; repeat' (first | exact rfl | exact trivial | refine And.intro ?_ ?_)) rfl rfl)

end Go.Proofs.Ytbmjhlgkddhhnaa
