/- A2: a text of this seat. -/
import Derived.Test.YtbmjhlgkddhhnaaArena
namespace Go.Proofs.Ytbmjhlgkddhhnaa
open Go Go.Hx
set_option maxRecDepth 4000

theorem awake_fn : Gives Try.prog 7 [] [] (Is .tt []) := by
  refine fn_intro Try.hTE Try.func7 rfl 19 rfl rfl fun ρ w => ?_
  refine go 100 rfl trivial ?_
  refine go_call [] (new_fn 2 (by decide) (by decide)) rfl rfl Try.func8 rfl rfl rfl rfl rfl rfl rfl rfl rfl trivial rfl rfl ?_
  refine go 100 rfl trivial ?_
  refine go_call [1, 0] (swap_hit (List.replicate 2 0) 2 0 0 0 0 1 0 5 .ff rfl (by decide) (by decide) rfl) rfl rfl Try.func10 rfl rfl rfl rfl rfl rfl rfl rfl rfl ⟨rfl, rfl, trivial⟩ rfl rfl ?_
  refine go 100 rfl trivial ?_
  refine go_call [1, 0] (swap_miss [0, 5] 2 (IntKind.i64.wrap (0 + 1)) 3 1 5 1 0 6 .tt rfl (by decide) (by decide) (by decide)) rfl rfl Try.func10 rfl rfl rfl rfl rfl rfl rfl rfl rfl ⟨rfl, rfl, trivial⟩ rfl rfl ?_
  refine go 100 rfl trivial ?_
  refine go_call [1, 0] (load_fn [0, 5] 2 _ _ _ _ 1 .ff rfl (by decide) (by decide)) rfl rfl Try.func9 rfl rfl rfl rfl rfl rfl rfl rfl rfl ⟨rfl, rfl, trivial⟩ rfl rfl ?_
  refine go 100 rfl trivial ?_
  refine sw_bool 0 rfl (fun _ => ?_) (fun h => absurd h (by decide))
  exact ret1 rfl (sub_of [] rfl rfl rfl rfl (by repeat' (first | exact rfl | exact trivial | refine And.intro ?_ ?_)) (by repeat' (first | exact rfl | exact trivial | refine And.intro ?_ ?_)) rfl rfl)

theorem wi64 {n : Int} (h1 : -9223372036854775808 ≤ n) (h2 : n < 9223372036854775808) : IntKind.i64.wrap n = n := by
  rw [IntKind.wrap_i64]; omega
theorem wu64 {n : Int} (h1 : 0 ≤ n) (h2 : n < 18446744073709551616) : IntKind.u64.wrap n = n := by
  rw [IntKind.wrap_u64]; omega

structure SwS where
  (i won : Nat) (st kd wd vl : Int) (ch : Bool) (s0 s1 s2 s3 : Int) (l0 l1 l2 l3 : Bool)

def swT (len cap : Nat) : SwS → List (Nat × SV)
  | ⟨i, won, _, _, _, _, _, _, _, _, _, _, _, _, _⟩ => [(0, .slice 0 0 len cap), (3, .tt), (4, .ptr 2 0), (5, .ptr 3 0), (6, .ptr 4 0), (7, .int .u64 won), (8, .int .i64 i)]
def swH (ts : List Int) : SwS → List HE
  | ⟨_, won, st, kd, wd, vl, ch, s0, s1, s2, s3, l0, l1, l2, l3⟩ => [.obj (.winI .i64 ts), WO [0, won, 0], AO 1 3 st kd wd vl (.bool ch) .niliface, .obj (.ints .u64 [s0, s1, s2, s3] 27), .obj (.cells [.bool l0, .bool l1, .bool l2, .bool l3] 28)]

theorem and3 (x : Int) : ibits .and .i64 x 3 = 0 ∨ ibits .and .i64 x 3 = 1 ∨ ibits .and .i64 x 3 = 2 ∨ ibits .and .i64 x 3 = 3 := by
  have h : (BitVec.ofInt IntKind.i64.bits x &&& BitVec.ofInt IntKind.i64.bits 3).toNat = (BitVec.ofInt IntKind.i64.bits x).toNat % 4 := by
    rw [BitVec.toNat_and]
    exact Nat.and_two_pow_sub_one_eq_mod _ 2
  have h2 : (BitVec.ofInt IntKind.i64.bits x).toNat % 4 < 4 := Nat.mod_lt _ (by decide)
  simp only [ibits, h]
  rw [wi64 (by omega) (by omega)]
  omega

theorem swaps_fn (ts : List Int) (len cap : Nat) (hlen : len = ts.length) : Gives Try.prog 3 [.slice 0 0 len cap] [.obj (.winI .i64 ts)] (Is .tt [.obj (.winI .i64 ts)]) := by
  refine fn_intro Try.hTE Try.func3 rfl 69 rfl rfl fun ρ w => ?_
  refine go 100 rfl trivial ?_
  refine go_call [] awake_fn rfl rfl Try.func7 rfl rfl rfl rfl rfl rfl rfl rfl rfl trivial rfl rfl ?_
  refine go 100 rfl trivial ?_
  refine go_call [] (new_fn 3 (by decide) (by decide)) rfl rfl Try.func8 rfl rfl rfl rfl rfl rfl rfl rfl rfl trivial rfl rfl ?_
  refine go 100 rfl trivial ?_
  refine sw_sub (T' := swT len cap ⟨0, 0, 0, 0, 0, 0, false, 0, 0, 0, 0, false, false, false, false⟩) (H' := swH ts ⟨0, 0, 0, 0, 0, 0, false, 0, 0, 0, 0, false, false, false, false⟩) (sub_of [0, 1, 2, 3, 4] rfl rfl rfl rfl (by repeat' (first | exact rfl | exact trivial | refine And.intro ?_ ?_)) (by repeat' (first | exact rfl | exact trivial | refine And.intro ?_ ?_)) rfl rfl) ?_
  refine sw_loop (swT len cap) (swH ts) (fun x => x.i ≤ 80 ∧ x.won ≤ x.i) (fun x => 80 - x.i) _ ⟨by decide, by decide⟩ ?_
  rintro ⟨i, won, st, kd, wd, vl, ch, s0, s1, s2, s3, l0, l1, l2, l3⟩ ⟨hi, hw⟩
  simp only at hi hw
  refine go 100 rfl trivial ?_
  refine sw_bool 18 rfl (fun h => ?_) (fun _ => ?_)
  · refine go 100 rfl trivial ?_
    refine sw_bool 21 rfl (fun h2 => ?_) (fun _ => ?_)
    · simp at h h2
      refine gob 29 100 rfl (by simp [conj] <;> omega) ?_
      have hk := and3 (ts.getD ((i : Int).toNat + 0) 0)
      generalize ibits .and .i64 (ts.getD ((i : Int).toNat + 0) 0) 3 = kk at hk
      have hi1 : IntKind.i64.wrap ((i : Int) + 1) = ((i + 1 : Nat) : Int) := by rw [wi64 (by omega) (by omega)]; omega
      by_cases heq : (won : Int) = [s0, s1, s2, s3].getD kk.toNat 0
      · have hw1 : IntKind.u64.wrap ((won : Int) + 1) = ((won + 1 : Nat) : Int) := by rw [wu64 (by omega) (by omega)]; omega
        have hn1 : IntKind.u64.wrap ([s0, s1, s2, s3].getD kk.toNat 0 + 1) = ((won + 1 : Nat) : Int) := by rw [← heq]; exact hw1
        rcases hk with rfl | rfl | rfl | rfl
        all_goals
          refine go 100 rfl (by simp [conj]) ?_
          refine sw_bool 32 rfl (fun hl => ?_) (fun hl => ?_)
          · refine go 100 rfl trivial ?_
            refine go_call [2, 1] (load_fn [0, won, 0] 3 _ _ _ _ 1 (.bool ch) rfl (by decide) (by decide)) rfl rfl Try.func9 rfl rfl rfl rfl rfl rfl rfl rfl rfl ⟨rfl, rfl, trivial⟩ rfl rfl ?_
            refine go 100 rfl (by simp [conj]) ?_
            refine' sw_lp ⟨i + 1, won, _, _, _, _, _, _, _, _, _, _, _, _, _⟩ ⟨by simp only; omega, by simp only; omega⟩ (by simp only; omega) (sub_of [0, 1, 2, 3, 4] rfl rfl rfl rfl (by repeat' (first | exact rfl | exact trivial | exact congrArg (SV.int .i64) hi1 | exact congrArg (SV.int .u64) hw1 | exact congrArg (fun z => SO.ints .u64 [0, z, 0] 26) hn1 | refine And.intro ?_ ?_)) (by repeat' (first | exact rfl | exact trivial | exact congrArg (SV.int .i64) hi1 | exact congrArg (SV.int .u64) hw1 | exact congrArg (fun z => SO.ints .u64 [0, z, 0] 26) hn1 | refine And.intro ?_ ?_)) rfl rfl)
          · refine go 100 rfl (by simp [conj]) ?_
            refine' go_draw [] [(8, .tt, _)] Try.mixed rfl rfl rfl ?_ ⟨de_call [2, 1] (swap_hit [0, won, 0] 3 _ _ _ _ 1 _ _ (.bool ch) rfl (by decide) (by decide) heq) rfl rfl rfl rfl rfl rfl rfl Try.func10 rfl rfl rfl rfl rfl rfl rfl rfl ⟨rfl, rfl, trivial⟩ rfl rfl rfl, trivial⟩ ?_
            · repeat' (first | exact rfl | exact trivial | refine And.intro ?_ ?_)
            refine go 100 rfl (by simp [conj]) ?_
            refine' sw_lp ⟨i + 1, won + 1, _, _, _, _, _, _, _, _, _, _, _, _, _⟩ ⟨by simp only; omega, by simp only; omega⟩ (by simp only; omega) (sub_of [0, 1, 2, 3, 4] rfl rfl rfl rfl (by repeat' (first | exact rfl | exact trivial | exact congrArg (SV.int .i64) hi1 | exact congrArg (SV.int .u64) hw1 | exact congrArg (fun z => SO.ints .u64 [0, z, 0] 26) hn1 | refine And.intro ?_ ?_)) (by repeat' (first | exact rfl | exact trivial | exact congrArg (SV.int .i64) hi1 | exact congrArg (SV.int .u64) hw1 | exact congrArg (fun z => SO.ints .u64 [0, z, 0] 26) hn1 | refine And.intro ?_ ?_)) rfl rfl)
      · rcases hk with rfl | rfl | rfl | rfl
        all_goals
          refine go 100 rfl (by simp [conj]) ?_
          refine sw_bool 32 rfl (fun hl => ?_) (fun hl => ?_)
          · refine go 100 rfl trivial ?_
            refine go_call [2, 1] (load_fn [0, won, 0] 3 _ _ _ _ 1 (.bool ch) rfl (by decide) (by decide)) rfl rfl Try.func9 rfl rfl rfl rfl rfl rfl rfl rfl rfl ⟨rfl, rfl, trivial⟩ rfl rfl ?_
            refine go 100 rfl (by simp [conj]) ?_
            refine' sw_lp ⟨i + 1, won, _, _, _, _, _, _, _, _, _, _, _, _, _⟩ ⟨by simp only; omega, by simp only; omega⟩ (by simp only; omega) (sub_of [0, 1, 2, 3, 4] rfl rfl rfl rfl (by repeat' (first | exact rfl | exact trivial | exact congrArg (SV.int .i64) hi1 | refine And.intro ?_ ?_)) (by repeat' (first | exact rfl | exact trivial | exact congrArg (SV.int .i64) hi1 | refine And.intro ?_ ?_)) rfl rfl)
          · refine go 100 rfl (by simp [conj]) ?_
            refine' go_draw [] [(8, .ff, _)] Try.mixed rfl rfl rfl ?_ ⟨de_call [2, 1] (swap_miss [0, won, 0] 3 _ _ _ _ 1 _ _ (.bool ch) rfl (by decide) (by decide) heq) rfl rfl rfl rfl rfl rfl rfl Try.func10 rfl rfl rfl rfl rfl rfl rfl rfl ⟨rfl, rfl, trivial⟩ rfl rfl rfl, trivial⟩ ?_
            · repeat' (first | exact rfl | exact trivial | refine And.intro ?_ ?_)
            refine go 100 rfl (by simp [conj]) ?_
            refine' sw_lp ⟨i + 1, won, _, _, _, _, _, _, _, _, _, _, _, _, _⟩ ⟨by simp only; omega, by simp only; omega⟩ (by simp only; omega) (sub_of [0, 1, 2, 3, 4] rfl rfl rfl rfl (by repeat' (first | exact rfl | exact trivial | exact congrArg (SV.int .i64) hi1 | refine And.intro ?_ ?_)) (by repeat' (first | exact rfl | exact trivial | exact congrArg (SV.int .i64) hi1 | refine And.intro ?_ ?_)) rfl rfl)
    · refine go 100 rfl trivial ?_
      refine go_call [2, 1] (load_fn [0, won, 0] 3 _ _ _ _ 1 (.bool ch) rfl (by decide) (by decide)) rfl rfl Try.func9 rfl rfl rfl rfl rfl rfl rfl rfl rfl ⟨rfl, rfl, trivial⟩ rfl rfl ?_
      refine go 100 rfl trivial ?_
      refine sw_bool 59 rfl (fun _ => ?_) (fun h => absurd h (by simp))
      refine go 100 rfl trivial ?_
      refine go_call [2, 1] (load_fn [0, won, 0] 3 _ _ _ _ 0 .ff rfl (by decide) (by decide)) rfl rfl Try.func9 rfl rfl rfl rfl rfl rfl rfl rfl rfl ⟨rfl, rfl, trivial⟩ rfl rfl ?_
      refine go 100 rfl trivial ?_
      refine sw_bool 64 rfl (fun _ => ?_) (fun h => absurd h (by simp))
      refine go 100 rfl trivial ?_
      refine go_call [2, 1] (load_fn [0, won, 0] 3 _ _ _ _ 2 .ff rfl (by decide) (by decide)) rfl rfl Try.func9 rfl rfl rfl rfl rfl rfl rfl rfl rfl ⟨rfl, rfl, trivial⟩ rfl rfl ?_
      refine go 100 rfl trivial ?_
      refine sw_bool 2 rfl (fun _ => ?_) (fun h => absurd h (by simp))
      exact ret1 rfl (sub_of [0] rfl rfl rfl rfl (by repeat' (first | exact rfl | exact trivial | refine And.intro ?_ ?_)) (by repeat' (first | exact rfl | exact trivial | refine And.intro ?_ ?_)) rfl rfl)
  · refine go 100 rfl trivial ?_
    refine go_call [2, 1] (load_fn [0, won, 0] 3 _ _ _ _ 1 (.bool ch) rfl (by decide) (by decide)) rfl rfl Try.func9 rfl rfl rfl rfl rfl rfl rfl rfl rfl ⟨rfl, rfl, trivial⟩ rfl rfl ?_
    refine go 100 rfl trivial ?_
    refine sw_bool 59 rfl (fun _ => ?_) (fun h => absurd h (by simp))
    refine go 100 rfl trivial ?_
    refine go_call [2, 1] (load_fn [0, won, 0] 3 _ _ _ _ 0 .ff rfl (by decide) (by decide)) rfl rfl Try.func9 rfl rfl rfl rfl rfl rfl rfl rfl rfl ⟨rfl, rfl, trivial⟩ rfl rfl ?_
    refine go 100 rfl trivial ?_
    refine sw_bool 64 rfl (fun _ => ?_) (fun h => absurd h (by simp))
    refine go 100 rfl trivial ?_
    refine go_call [2, 1] (load_fn [0, won, 0] 3 _ _ _ _ 2 .ff rfl (by decide) (by decide)) rfl rfl Try.func9 rfl rfl rfl rfl rfl rfl rfl rfl rfl ⟨rfl, rfl, trivial⟩ rfl rfl ?_
    refine go 100 rfl trivial ?_
    refine sw_bool 2 rfl (fun _ => ?_) (fun h => absurd h (by simp))
    exact ret1 rfl (sub_of [0] rfl rfl rfl rfl (by repeat' (first | exact rfl | exact trivial | refine And.intro ?_ ?_)) (by repeat' (first | exact rfl | exact trivial | refine And.intro ?_ ?_)) rfl rfl)
def niT (a : Option Addr) (_ : Unit) : List (Nat × SV) := [(0, .raw (.slice a 0 0)), (3, .tt), (4, .ptr 1 0), (7, .int .u64 0), (8, .int .i64 0)]
def niH (_ : Unit) : List HE := [WO [0, 0, 0], AO 0 3 0 0 0 0 .ff .niliface]

theorem swaps_nil (a : Option Addr) : Gives Try.prog 3 [.raw (.slice a 0 0)] [] (Is .tt []) := by
  refine fn_intro Try.hTE Try.func3 rfl 69 rfl rfl fun ρ w => ?_
  refine go 100 rfl trivial ?_
  refine go_call [] awake_fn rfl rfl Try.func7 rfl rfl rfl rfl rfl rfl rfl rfl rfl trivial rfl rfl ?_
  refine go 100 rfl trivial ?_
  refine go_call [] (new_fn 3 (by decide) (by decide)) rfl rfl Try.func8 rfl rfl rfl rfl rfl rfl rfl rfl rfl trivial rfl rfl ?_
  refine go 100 rfl trivial ?_
  refine sw_sub (T' := niT a ()) (H' := niH ()) (sub_of [0, 1] rfl rfl rfl rfl (by repeat' (first | exact rfl | exact trivial | refine And.intro ?_ ?_)) (by repeat' (first | exact rfl | exact trivial | refine And.intro ?_ ?_)) rfl rfl) ?_
  refine sw_loop (niT a) niH (fun _ => True) (fun _ => 0) () trivial ?_
  rintro ⟨⟩ _
  refine go 100 rfl trivial ?_
  refine sw_bool 18 rfl (fun h => absurd h (by decide)) (fun _ => ?_)
  refine go 100 rfl trivial ?_
  refine go_call [1, 0] (load_fn [0, 0, 0] 3 _ _ _ _ 1 .ff rfl (by decide) (by decide)) rfl rfl Try.func9 rfl rfl rfl rfl rfl rfl rfl rfl rfl ⟨rfl, rfl, trivial⟩ rfl rfl ?_
  refine go 100 rfl trivial ?_
  refine sw_bool 59 rfl (fun _ => ?_) (fun h => absurd h (by simp))
  refine go 100 rfl trivial ?_
  refine go_call [1, 0] (load_fn [0, 0, 0] 3 _ _ _ _ 0 .ff rfl (by decide) (by decide)) rfl rfl Try.func9 rfl rfl rfl rfl rfl rfl rfl rfl rfl ⟨rfl, rfl, trivial⟩ rfl rfl ?_
  refine go 100 rfl trivial ?_
  refine sw_bool 64 rfl (fun _ => ?_) (fun h => absurd h (by simp))
  refine go 100 rfl trivial ?_
  refine go_call [1, 0] (load_fn [0, 0, 0] 3 _ _ _ _ 2 .ff rfl (by decide) (by decide)) rfl rfl Try.func9 rfl rfl rfl rfl rfl rfl rfl rfl rfl ⟨rfl, rfl, trivial⟩ rfl rfl ?_
  refine go 100 rfl trivial ?_
  refine sw_bool 2 rfl (fun _ => ?_) (fun h => absurd h (by simp))
  exact ret1 rfl (sub_of [] rfl rfl rfl rfl (by repeat' (first | exact rfl | exact trivial | refine And.intro ?_ ?_)) (by repeat' (first | exact rfl | exact trivial | refine And.intro ?_ ?_)) rfl rfl)
end Go.Proofs.Ytbmjhlgkddhhnaa
