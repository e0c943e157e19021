/- Is a number in a row: a contract. -/
import Derived.Test.YtkkddjchkkaagaaGreatDoorRSize
import Derived.Test.YtkkddjchkkaagaaGreatDoorHyc
namespace Go.Proofs.YtkkddjchkkaagaaGreatDoor
open Go Go.Hx
set_option maxRecDepth 8000
noncomputable def XH0 : Tabs := tabs tr ft xt (fun _ => none) (fun _ => none) 0
theorem hXH0 : TOk Tryz.prog XH0 := ⟨hTE, hFT, fun f s args H ob V L h => by simp [XH0, tabs] at h, hXT, fun t ks h => by simp [XH0, tabs] at h, mixed⟩
abbrev IB (l : List Int) : HE := .obj (.buf .i64 l 1 3)
def hasT (l : List Int) (n : Int) : Nat → List (Nat × SV)
  | i => [(0, .sbuf 0 1 0 l.length), (1, .int .i64 n), (5, .int .i64 (i : Int))]
theorem has_fn (l : List Int) (n : Int) (hl : l.length < 1000000) : Gives Tryz.prog 37 [.sbuf 0 1 0 l.length, .int .i64 n] [IB l] (Is (.bool (hasL l n)) [IB l]) := by
  refine gives_x hXH0 (fn := Tryz.f37) rfl rfl rfl rfl fun ρ w0 => ?_
  refine sx hXH0 [] 100 rfl trivial ?_
  refine ss_sub hXH0 (T' := hasT l n 0) (H' := [IB l]) [0] rfl rfl rfl rfl (by (repeat' (first | exact rfl | exact trivial | exact sim_refl _ | refine And.intro ?_ ?_))) (by (repeat' (first | exact rfl | exact trivial | exact sim_refl _ | refine And.intro ?_ ?_))) (by (repeat' (first | exact rfl | exact trivial | exact sim_refl _ | refine And.intro ?_ ?_))) (by (repeat' (first | exact rfl | exact trivial | exact sim_refl _ | refine And.intro ?_ ?_))) ?_
  refine ss_loop hXH0 (hasT l n) (fun _ => [IB l]) (fun i => i ≤ l.length ∧ hasL l n = hasL (l.drop i) n) (fun i => l.length - i) _ ⟨Nat.zero_le _, rfl⟩ ?_
  rintro i ⟨hi, hd⟩ I back
  refine sx hXH0 [] 400 rfl (by (simp [-List.getD_eq_getElem?_getD, -List.length_eq_zero_iff, conjP])) ?_
  refine ss_pb hXH0 [] [] 400 rfl (fun hb0 => ?_) (fun hb0 => ?_)
  · try simp [-List.getD_eq_getElem?_getD, -List.length_eq_zero_iff] at hb0
    refine sx hXH0 [.T] 400 rfl (by (simp [-List.getD_eq_getElem?_getD, -List.length_eq_zero_iff, conjP, cellOff, hb0])) ?_
    refine ss_pb hXH0 [] [] 400 rfl (fun hb1 => ?_) (fun hb1 => ?_)
    · try simp [-List.getD_eq_getElem?_getD, -List.length_eq_zero_iff, cellOff] at hb1
      refine sx hXH0 [.T] 400 rfl (by (simp [-List.getD_eq_getElem?_getD, -List.length_eq_zero_iff, conjP, addOP, cellOff, hb1])) ?_
      (first | ((have q := hasL_drop (l := l) (i := i) (by omega) n); refine ss_end hXH0 [0] rfl rfl trivial rfl rfl rfl rfl ?_ (by (repeat' (first | exact rfl | exact trivial | exact sim_refl _ | refine And.intro ?_ ?_))) (by (repeat' (first | exact rfl | exact trivial | exact sim_refl _ | refine And.intro ?_ ?_))) (by (repeat' (first | exact rfl | exact trivial | exact sim_refl _ | refine And.intro ?_ ?_))); (have hz : l.getD i 0 = n := by simpa [hb0] using hb1); rw [if_pos hz] at q; rw [hd, q]; exact rfl) | ((have q := hasL_drop (l := l) (i := i) (by omega) n); (have hz : ¬ l.getD i 0 = n := by simpa [hb0] using hb1); rw [if_neg hz] at q; refine back (i + 1) ⟨by omega, by rw [hd, q]⟩ (by omega) _ _ _ (sub_of [0] rfl rfl rfl rfl ⟨by (repeat' (first | exact rfl | exact trivial | exact sim_refl _ | refine And.intro ?_ ?_)), by (repeat' (first | exact rfl | exact trivial | exact sim_refl _ | refine And.intro ?_ ?_)), ⟨rfl, wi64 (by omega) (by omega)⟩, trivial⟩ (by (repeat' (first | exact rfl | exact trivial | exact sim_refl _ | refine And.intro ?_ ?_))) (by (repeat' (first | exact rfl | exact trivial | exact sim_refl _ | refine And.intro ?_ ?_))) (by (repeat' (first | exact rfl | exact trivial | exact sim_refl _ | refine And.intro ?_ ?_))))) | (refine ss_end hXH0 [0] rfl rfl trivial rfl rfl rfl rfl ?_ (by (repeat' (first | exact rfl | exact trivial | exact sim_refl _ | refine And.intro ?_ ?_))) (by (repeat' (first | exact rfl | exact trivial | exact sim_refl _ | refine And.intro ?_ ?_))) (by (repeat' (first | exact rfl | exact trivial | exact sim_refl _ | refine And.intro ?_ ?_))); rw [hd, List.drop_eq_nil_of_le (by omega)]; exact rfl))
    · try simp [-List.getD_eq_getElem?_getD, -List.length_eq_zero_iff, cellOff] at hb1
      refine sx hXH0 [.F] 400 rfl (by (simp [-List.getD_eq_getElem?_getD, -List.length_eq_zero_iff, conjP, addOP, cellOff, hb1])) ?_
      (first | ((have q := hasL_drop (l := l) (i := i) (by omega) n); refine ss_end hXH0 [0] rfl rfl trivial rfl rfl rfl rfl ?_ (by (repeat' (first | exact rfl | exact trivial | exact sim_refl _ | refine And.intro ?_ ?_))) (by (repeat' (first | exact rfl | exact trivial | exact sim_refl _ | refine And.intro ?_ ?_))) (by (repeat' (first | exact rfl | exact trivial | exact sim_refl _ | refine And.intro ?_ ?_))); (have hz : l.getD i 0 = n := by simpa [hb0] using hb1); rw [if_pos hz] at q; rw [hd, q]; exact rfl) | ((have q := hasL_drop (l := l) (i := i) (by omega) n); (have hz : ¬ l.getD i 0 = n := by simpa [hb0] using hb1); rw [if_neg hz] at q; refine back (i + 1) ⟨by omega, by rw [hd, q]⟩ (by omega) _ _ _ (sub_of [0] rfl rfl rfl rfl ⟨by (repeat' (first | exact rfl | exact trivial | exact sim_refl _ | refine And.intro ?_ ?_)), by (repeat' (first | exact rfl | exact trivial | exact sim_refl _ | refine And.intro ?_ ?_)), ⟨rfl, wi64 (by omega) (by omega)⟩, trivial⟩ (by (repeat' (first | exact rfl | exact trivial | exact sim_refl _ | refine And.intro ?_ ?_))) (by (repeat' (first | exact rfl | exact trivial | exact sim_refl _ | refine And.intro ?_ ?_))) (by (repeat' (first | exact rfl | exact trivial | exact sim_refl _ | refine And.intro ?_ ?_))))) | (refine ss_end hXH0 [0] rfl rfl trivial rfl rfl rfl rfl ?_ (by (repeat' (first | exact rfl | exact trivial | exact sim_refl _ | refine And.intro ?_ ?_))) (by (repeat' (first | exact rfl | exact trivial | exact sim_refl _ | refine And.intro ?_ ?_))) (by (repeat' (first | exact rfl | exact trivial | exact sim_refl _ | refine And.intro ?_ ?_))); rw [hd, List.drop_eq_nil_of_le (by omega)]; exact rfl))
  · try simp [-List.getD_eq_getElem?_getD, -List.length_eq_zero_iff] at hb0
    refine sx hXH0 [.F] 400 rfl (by (simp [-List.getD_eq_getElem?_getD, -List.length_eq_zero_iff, conjP, addOP, hb0])) ?_
    (first | ((have q := hasL_drop (l := l) (i := i) (by omega) n); refine ss_end hXH0 [0] rfl rfl trivial rfl rfl rfl rfl ?_ (by (repeat' (first | exact rfl | exact trivial | exact sim_refl _ | refine And.intro ?_ ?_))) (by (repeat' (first | exact rfl | exact trivial | exact sim_refl _ | refine And.intro ?_ ?_))) (by (repeat' (first | exact rfl | exact trivial | exact sim_refl _ | refine And.intro ?_ ?_))); (have hz : l.getD i 0 = n := by simpa [hb0] using hb1); rw [if_pos hz] at q; rw [hd, q]; exact rfl) | ((have q := hasL_drop (l := l) (i := i) (by omega) n); (have hz : ¬ l.getD i 0 = n := by simpa [hb0] using hb1); rw [if_neg hz] at q; refine back (i + 1) ⟨by omega, by rw [hd, q]⟩ (by omega) _ _ _ (sub_of [0] rfl rfl rfl rfl ⟨by (repeat' (first | exact rfl | exact trivial | exact sim_refl _ | refine And.intro ?_ ?_)), by (repeat' (first | exact rfl | exact trivial | exact sim_refl _ | refine And.intro ?_ ?_)), ⟨rfl, wi64 (by omega) (by omega)⟩, trivial⟩ (by (repeat' (first | exact rfl | exact trivial | exact sim_refl _ | refine And.intro ?_ ?_))) (by (repeat' (first | exact rfl | exact trivial | exact sim_refl _ | refine And.intro ?_ ?_))) (by (repeat' (first | exact rfl | exact trivial | exact sim_refl _ | refine And.intro ?_ ?_))))) | (refine ss_end hXH0 [0] rfl rfl trivial rfl rfl rfl rfl ?_ (by (repeat' (first | exact rfl | exact trivial | exact sim_refl _ | refine And.intro ?_ ?_))) (by (repeat' (first | exact rfl | exact trivial | exact sim_refl _ | refine And.intro ?_ ?_))) (by (repeat' (first | exact rfl | exact trivial | exact sim_refl _ | refine And.intro ?_ ?_))); rw [hd, List.drop_eq_nil_of_le (by omega)]; exact rfl))
theorem has_nil (n : Int) : Gives Tryz.prog 37 [.nilslice, .int .i64 n] [] (Is (.bool false) []) := by
  refine gives_x hXR (fn := Tryz.f37) rfl rfl rfl rfl fun ρ w0 => ?_
  refine sx hXR [] 400 rfl (by (simp [-List.getD_eq_getElem?_getD, -List.length_eq_zero_iff, conjP])) ?_
  refine sx hXR [.F] 400 rfl (by (simp [-List.getD_eq_getElem?_getD, -List.length_eq_zero_iff, conjP, addOP])) ?_
  (exact ss_end hXR [] rfl rfl trivial rfl rfl rfl rfl (by (repeat' (first | exact rfl | exact trivial | exact sim_refl _ | refine And.intro ?_ ?_))) (by (repeat' (first | exact rfl | exact trivial | exact sim_refl _ | refine And.intro ?_ ?_))) (by (repeat' (first | exact rfl | exact trivial | exact sim_refl _ | refine And.intro ?_ ?_))) (by (repeat' (first | exact rfl | exact trivial | exact sim_refl _ | refine And.intro ?_ ?_))))
def hasS : Hx.Spec := fun args H => match args with
  | [.nilslice, .int .i64 _] => some ([], .bool false, H)
  | [.sbuf h 1 0 l, .int .i64 n] => match getH H h with
    | some (.buf .i64 L 1 3) => some ([l = L.length, L.length < 1000000], .bool (hasL L n), H)
    | _ => none
  | _ => none
theorem set_self {H : List HE} {h : Nat} {o : SO} (hg : getH H h = some o) : H.set h (.obj o) = H := by
  have := getH_some.1 hg
  apply List.ext_getElem?
  intro i
  rw [List.getElem?_set]
  split
  · rename_i e; subst e
    have hl : h < H.length := by
      rcases Nat.lt_or_ge h H.length with h1 | h1
      · exact h1
      · rw [List.getElem?_eq_none h1] at this; simp at this
    rw [List.getElem?_eq_getElem hl] at this ⊢
    rw [if_pos hl, Option.some.inj this]
  · rfl
theorem hasS_ok {args : List SV} {H : List HE} {ob : List Prop} {V : SV} {L : List HE} (hs : hasS args H = some (ob, V, L)) (ho : AllP ob) : Gives Tryz.prog 37 args H (Is V L) := by
  unfold hasS at hs
  split at hs
  · simp only [Option.some.injEq, Prod.mk.injEq] at hs
    obtain ⟨rfl, rfl, rfl⟩ := hs
    exact gives_pure ⟨_, hTE⟩ (has_nil _) rfl rfl _
  · rename_i _ h l n
    split at hs
    · rename_i _ X hg
      simp only [Option.some.injEq, Prod.mk.injEq] at hs
      obtain ⟨rfl, rfl, rfl⟩ := hs
      have o1 := ho _ (List.mem_cons_self ..)
      have o2 := ho _ (List.mem_cons_of_mem _ (List.mem_cons_self ..))
      subst o1
      have := frame1 (N := []) (H := H) (h0 := h) ⟨_, hTE⟩ (has_fn X n o2) rfl rfl rfl hg rfl
      simp only [List.map_nil, List.append_nil] at this
      have e : SO.ren (nm [h] H) (SO.buf .i64 X 1 3) = SO.buf .i64 X 1 3 := rfl
      rw [e, set_self hg] at this
      exact this
    · simp at hs
  · simp at hs
end Go.Proofs.YtkkddjchkkaagaaGreatDoor
