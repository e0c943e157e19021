/- Slots' words; is a number in a row? -/
import Derived.Test.YtfdkaakllceebaaArenaSteps
namespace Go.Proofs.Ytfdkaakllceebaa
open Go Go.Hx
set_option maxRecDepth 8000



theorem getV_hi (w : Int) : getV w 32 32 = w / 4294967296 % 4294967296 := by
  have p : (2 : Int) ^ (32 : Int).toNat = 4294967296 := by decide
  unfold getV; rw [p]
theorem getV_lo (w : Int) : getV w 0 32 = w % 4294967296 := by
  have p : (2 : Int) ^ (32 : Int).toNat = 4294967296 := by decide
  have q : (2 : Int) ^ (0 : Int).toNat = 1 := by decide
  unfold getV; rw [p, q, Int.ediv_one]
def clientV (w : Int) : Int := w / 4294967296 - 1
def blkV (w : Int) : Int := w % 4294967296

def ctS1 : Nat → Option Hx.Spec
  | 52 => some (pureS getS)
  | _ => none
theorem ctS1_ok : ∀ f s args H ob V L, ctS1 f = some s → s args H = some (ob, V, L) → AllP ob → Gives Try.prog f args H (Is V L) := by
  intro f s args H ob V L h hs ho
  unfold ctS1 at h
  split at h
  · simp at h; subst h; exact pureS_ok ⟨_, hTE⟩ (getS_ok) hs ho
  · simp at h
noncomputable def XS1 : Tabs := tabs tr ft xt (fun _ => none) ctS1 20
theorem hXS1 : TOk Try.prog XS1 := ⟨hTE, hFT, ctS1_ok, hXT, fun t ks h => by simp [XS1, tabs] at h, mixed⟩
theorem client_fn {w : Int} (h0 : 0 ≤ w) (h1 : w < 18446744073709551616) : Gives Try.prog 22 [.int .u64 w] [] (Is (.int .i64 (clientV w)) []) := by
  refine gives_x hXS1 (fn := Try.f22) rfl rfl rfl rfl fun ρ w0 => ?_
  refine sx hXS1 [] 200 rfl (by simp [conjP]; omega) ?_
  refine ss_end hXS1 [] rfl rfl trivial rfl rfl rfl rfl ⟨rfl, ?_⟩ trivial (by (repeat' (first | exact rfl | exact trivial | exact sim_refl _ | refine And.intro ?_ ?_))) trivial
  rw [getV_hi]
  have e : w / 4294967296 % 4294967296 = w / 4294967296 := by omega
  rw [e, wi64 (n := w / 4294967296) (by omega) (by omega), wi64 (by omega) (by omega), clientV]
theorem blk_fn {w : Int} (h0 : 0 ≤ w) (h1 : w < 18446744073709551616) : Gives Try.prog 37 [.int .u64 w] [] (Is (.int .i64 (blkV w)) []) := by
  refine gives_x hXS1 (fn := Try.f37) rfl rfl rfl rfl fun ρ w0 => ?_
  refine sx hXS1 [] 200 rfl (by simp [conjP]; omega) ?_
  refine ss_end hXS1 [] rfl rfl trivial rfl rfl rfl rfl ⟨rfl, ?_⟩ trivial (by (repeat' (first | exact rfl | exact trivial | exact sim_refl _ | refine And.intro ?_ ?_))) trivial
  rw [getV_lo, wi64 (by omega) (by omega), blkV]
def clientS : List SV → Option (List Prop × SV)
  | [.int .u64 w] => some ([0 ≤ w, w < 18446744073709551616], .int .i64 (clientV w))
  | _ => none
theorem clientS_ok : PureOk 22 clientS := by
  intro args ob V hs ho
  unfold clientS at hs
  split at hs
  · simp only [Option.some.injEq, Prod.mk.injEq] at hs
    obtain ⟨rfl, rfl⟩ := hs
    have o1 := ho _ (List.mem_cons_self ..)
    have o2 := ho _ (List.mem_cons_of_mem _ (List.mem_cons_self ..))
    exact ⟨rfl, rfl, client_fn o1 o2⟩
  · simp at hs
def blkS : List SV → Option (List Prop × SV)
  | [.int .u64 w] => some ([0 ≤ w, w < 18446744073709551616], .int .i64 (blkV w))
  | _ => none
theorem blkS_ok : PureOk 37 blkS := by
  intro args ob V hs ho
  unfold blkS at hs
  split at hs
  · simp only [Option.some.injEq, Prod.mk.injEq] at hs
    obtain ⟨rfl, rfl⟩ := hs
    have o1 := ho _ (List.mem_cons_self ..)
    have o2 := ho _ (List.mem_cons_of_mem _ (List.mem_cons_self ..))
    exact ⟨rfl, rfl, blk_fn o1 o2⟩
  · simp at hs

noncomputable def XS0 : Tabs := tabs tr ft xt (fun _ => none) (fun _ => none) 0
theorem hXS0 : TOk Try.prog XS0 := ⟨hTE, hFT, fun f s args H ob V L h => by simp [XS0, tabs] at h, hXT, fun t ks h => by simp [XS0, tabs] at h, mixed⟩
abbrev IB (l : List Int) : HE := .obj (.buf .i64 l 1 3)
def hasT (l : List Int) (n : Int) : Nat → List (Nat × SV)
  | i => [(0, .sbuf 0 1 0 l.length), (1, .int .i64 n), (5, .int .i64 (i : Int))]
theorem has_fn (l : List Int) (n : Int) (hl : l.length < 1000000) : Gives Try.prog 21 [.sbuf 0 1 0 l.length, .int .i64 n] [IB l] (Is (.bool (hasL l n)) [IB l]) := by
  refine gives_x hXS0 (fn := Try.f21) rfl rfl rfl rfl fun ρ w0 => ?_
  refine sx hXS0 [] 100 rfl trivial ?_
  refine ss_sub hXS0 (T' := hasT l n 0) (H' := [IB l]) [0] rfl rfl rfl rfl (by (repeat' (first | exact rfl | exact trivial | exact sim_refl _ | refine And.intro ?_ ?_))) (by (repeat' (first | exact rfl | exact trivial | exact sim_refl _ | refine And.intro ?_ ?_))) (by (repeat' (first | exact rfl | exact trivial | exact sim_refl _ | refine And.intro ?_ ?_))) (by (repeat' (first | exact rfl | exact trivial | exact sim_refl _ | refine And.intro ?_ ?_))) ?_
  refine ss_loop hXS0 (hasT l n) (fun _ => [IB l]) (fun i => i ≤ l.length ∧ hasL l n = hasL (l.drop i) n) (fun i => l.length - i) _ ⟨Nat.zero_le _, rfl⟩ ?_
  rintro i ⟨hi, hd⟩ I back
  refine sx hXS0 [] 400 rfl (by (simp [-List.getD_eq_getElem?_getD, -List.length_eq_zero_iff, conjP] <;> (first | omega | ((repeat' (refine And.intro ?_ ?_)) <;> (first | omega | exact decide_eq_false (by omega) | exact decide_eq_true (by omega)))))) ?_
  refine ss_pb hXS0 [] [] 400 rfl (fun hb0 => ?_) (fun hb0 => ?_)
  · try simp [-List.getD_eq_getElem?_getD, -List.length_eq_zero_iff] at hb0
    refine sx hXS0 [.T] 400 rfl (by (simp [-List.getD_eq_getElem?_getD, -List.length_eq_zero_iff, conjP, cellOff, hb0] <;> (first | omega | ((repeat' (refine And.intro ?_ ?_)) <;> (first | omega | exact decide_eq_false (by omega) | exact decide_eq_true (by omega)))))) ?_
    refine ss_pb hXS0 [] [] 400 rfl (fun hb1 => ?_) (fun hb1 => ?_)
    · try simp [-List.getD_eq_getElem?_getD, -List.length_eq_zero_iff, cellOff] at hb1
      refine sx hXS0 [.T] 400 rfl (by (simp [-List.getD_eq_getElem?_getD, -List.length_eq_zero_iff, conjP, addOP, cellOff, hb1] <;> (first | omega | ((repeat' (refine And.intro ?_ ?_)) <;> (first | omega | exact decide_eq_false (by omega) | exact decide_eq_true (by omega)))))) ?_
      (first | ((have q := hasL_drop (l := l) (i := i) (by omega) n); refine ss_end hXS0 [0] rfl rfl trivial rfl rfl rfl rfl ?_ (by (repeat' (first | exact rfl | exact trivial | exact sim_refl _ | refine And.intro ?_ ?_))) (by (repeat' (first | exact rfl | exact trivial | exact sim_refl _ | refine And.intro ?_ ?_))) (by (repeat' (first | exact rfl | exact trivial | exact sim_refl _ | refine And.intro ?_ ?_))); (have hz : l.getD i 0 = n := by simpa [hb0] using hb1); rw [if_pos hz] at q; rw [hd, q]; exact rfl) | ((have q := hasL_drop (l := l) (i := i) (by omega) n); (have hz : ¬ l.getD i 0 = n := by simpa [hb0] using hb1); rw [if_neg hz] at q; refine back (i + 1) ⟨by omega, by rw [hd, q]⟩ (by omega) _ _ _ (sub_of [0] rfl rfl rfl rfl ⟨by (repeat' (first | exact rfl | exact trivial | exact sim_refl _ | refine And.intro ?_ ?_)), by (repeat' (first | exact rfl | exact trivial | exact sim_refl _ | refine And.intro ?_ ?_)), ⟨rfl, wi64 (by omega) (by omega)⟩, trivial⟩ (by (repeat' (first | exact rfl | exact trivial | exact sim_refl _ | refine And.intro ?_ ?_))) (by (repeat' (first | exact rfl | exact trivial | exact sim_refl _ | refine And.intro ?_ ?_))) (by (repeat' (first | exact rfl | exact trivial | exact sim_refl _ | refine And.intro ?_ ?_))))) | (refine ss_end hXS0 [0] rfl rfl trivial rfl rfl rfl rfl ?_ (by (repeat' (first | exact rfl | exact trivial | exact sim_refl _ | refine And.intro ?_ ?_))) (by (repeat' (first | exact rfl | exact trivial | exact sim_refl _ | refine And.intro ?_ ?_))) (by (repeat' (first | exact rfl | exact trivial | exact sim_refl _ | refine And.intro ?_ ?_))); rw [hd, List.drop_eq_nil_of_le (by omega)]; exact rfl))
    · try simp [-List.getD_eq_getElem?_getD, -List.length_eq_zero_iff, cellOff] at hb1
      refine sx hXS0 [.F] 400 rfl (by (simp [-List.getD_eq_getElem?_getD, -List.length_eq_zero_iff, conjP, addOP, cellOff, hb1] <;> (first | omega | ((repeat' (refine And.intro ?_ ?_)) <;> (first | omega | exact decide_eq_false (by omega) | exact decide_eq_true (by omega)))))) ?_
      (first | ((have q := hasL_drop (l := l) (i := i) (by omega) n); refine ss_end hXS0 [0] rfl rfl trivial rfl rfl rfl rfl ?_ (by (repeat' (first | exact rfl | exact trivial | exact sim_refl _ | refine And.intro ?_ ?_))) (by (repeat' (first | exact rfl | exact trivial | exact sim_refl _ | refine And.intro ?_ ?_))) (by (repeat' (first | exact rfl | exact trivial | exact sim_refl _ | refine And.intro ?_ ?_))); (have hz : l.getD i 0 = n := by simpa [hb0] using hb1); rw [if_pos hz] at q; rw [hd, q]; exact rfl) | ((have q := hasL_drop (l := l) (i := i) (by omega) n); (have hz : ¬ l.getD i 0 = n := by simpa [hb0] using hb1); rw [if_neg hz] at q; refine back (i + 1) ⟨by omega, by rw [hd, q]⟩ (by omega) _ _ _ (sub_of [0] rfl rfl rfl rfl ⟨by (repeat' (first | exact rfl | exact trivial | exact sim_refl _ | refine And.intro ?_ ?_)), by (repeat' (first | exact rfl | exact trivial | exact sim_refl _ | refine And.intro ?_ ?_)), ⟨rfl, wi64 (by omega) (by omega)⟩, trivial⟩ (by (repeat' (first | exact rfl | exact trivial | exact sim_refl _ | refine And.intro ?_ ?_))) (by (repeat' (first | exact rfl | exact trivial | exact sim_refl _ | refine And.intro ?_ ?_))) (by (repeat' (first | exact rfl | exact trivial | exact sim_refl _ | refine And.intro ?_ ?_))))) | (refine ss_end hXS0 [0] rfl rfl trivial rfl rfl rfl rfl ?_ (by (repeat' (first | exact rfl | exact trivial | exact sim_refl _ | refine And.intro ?_ ?_))) (by (repeat' (first | exact rfl | exact trivial | exact sim_refl _ | refine And.intro ?_ ?_))) (by (repeat' (first | exact rfl | exact trivial | exact sim_refl _ | refine And.intro ?_ ?_))); rw [hd, List.drop_eq_nil_of_le (by omega)]; exact rfl))
  · try simp [-List.getD_eq_getElem?_getD, -List.length_eq_zero_iff] at hb0
    refine sx hXS0 [.F] 400 rfl (by (simp [-List.getD_eq_getElem?_getD, -List.length_eq_zero_iff, conjP, addOP, hb0] <;> (first | omega | ((repeat' (refine And.intro ?_ ?_)) <;> (first | omega | exact decide_eq_false (by omega) | exact decide_eq_true (by omega)))))) ?_
    (first | ((have q := hasL_drop (l := l) (i := i) (by omega) n); refine ss_end hXS0 [0] rfl rfl trivial rfl rfl rfl rfl ?_ (by (repeat' (first | exact rfl | exact trivial | exact sim_refl _ | refine And.intro ?_ ?_))) (by (repeat' (first | exact rfl | exact trivial | exact sim_refl _ | refine And.intro ?_ ?_))) (by (repeat' (first | exact rfl | exact trivial | exact sim_refl _ | refine And.intro ?_ ?_))); (have hz : l.getD i 0 = n := by simpa [hb0] using hb1); rw [if_pos hz] at q; rw [hd, q]; exact rfl) | ((have q := hasL_drop (l := l) (i := i) (by omega) n); (have hz : ¬ l.getD i 0 = n := by simpa [hb0] using hb1); rw [if_neg hz] at q; refine back (i + 1) ⟨by omega, by rw [hd, q]⟩ (by omega) _ _ _ (sub_of [0] rfl rfl rfl rfl ⟨by (repeat' (first | exact rfl | exact trivial | exact sim_refl _ | refine And.intro ?_ ?_)), by (repeat' (first | exact rfl | exact trivial | exact sim_refl _ | refine And.intro ?_ ?_)), ⟨rfl, wi64 (by omega) (by omega)⟩, trivial⟩ (by (repeat' (first | exact rfl | exact trivial | exact sim_refl _ | refine And.intro ?_ ?_))) (by (repeat' (first | exact rfl | exact trivial | exact sim_refl _ | refine And.intro ?_ ?_))) (by (repeat' (first | exact rfl | exact trivial | exact sim_refl _ | refine And.intro ?_ ?_))))) | (refine ss_end hXS0 [0] rfl rfl trivial rfl rfl rfl rfl ?_ (by (repeat' (first | exact rfl | exact trivial | exact sim_refl _ | refine And.intro ?_ ?_))) (by (repeat' (first | exact rfl | exact trivial | exact sim_refl _ | refine And.intro ?_ ?_))) (by (repeat' (first | exact rfl | exact trivial | exact sim_refl _ | refine And.intro ?_ ?_))); rw [hd, List.drop_eq_nil_of_le (by omega)]; exact rfl))
theorem has_nil (n : Int) : Gives Try.prog 21 [.nilslice, .int .i64 n] [] (Is (.bool false) []) := by
  refine gives_x hXS1 (fn := Try.f21) rfl rfl rfl rfl fun ρ w0 => ?_
  refine sx hXS1 [] 400 rfl (by (simp [-List.getD_eq_getElem?_getD, -List.length_eq_zero_iff, conjP] <;> (first | omega | ((repeat' (refine And.intro ?_ ?_)) <;> (first | omega | exact decide_eq_false (by omega) | exact decide_eq_true (by omega)))))) ?_
  refine sx hXS1 [.F] 400 rfl (by (simp [-List.getD_eq_getElem?_getD, -List.length_eq_zero_iff, conjP, addOP] <;> (first | omega | ((repeat' (refine And.intro ?_ ?_)) <;> (first | omega | exact decide_eq_false (by omega) | exact decide_eq_true (by omega)))))) ?_
  (exact ss_end hXS1 [] rfl rfl trivial rfl rfl rfl rfl (by (repeat' (first | exact rfl | exact trivial | exact sim_refl _ | refine And.intro ?_ ?_))) (by (repeat' (first | exact rfl | exact trivial | exact sim_refl _ | refine And.intro ?_ ?_))) (by (repeat' (first | exact rfl | exact trivial | exact sim_refl _ | refine And.intro ?_ ?_))) (by (repeat' (first | exact rfl | exact trivial | exact sim_refl _ | refine And.intro ?_ ?_))))
def hasS : Hx.Spec := fun args H => match args with
  | [.nilslice, .int .i64 _] => some ([], .bool false, H)
  | [.sbuf h 1 0 l, .int .i64 n] => match getH H h with
    | some (.buf .i64 L 1 3) => some ([l = L.length, L.length < 1000000], .bool (hasL L n), H)
    | _ => none
  | _ => none
end Go.Proofs.Ytfdkaakllceebaa
