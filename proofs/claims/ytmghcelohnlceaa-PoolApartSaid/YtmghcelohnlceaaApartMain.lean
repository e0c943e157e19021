/- PoolApart: behind a turn, as a whole -/
import Derived.Test.YtmghcelohnlceaaApartLookC
namespace Go.Proofs.Ytmghcelohnlceaa
open Go Go.Hx
set_option maxRecDepth 8000
theorem lenB (base : Int) : ∀ (n : Nat) (l : List Int), (∀ b, l.count b ≤ if base < b ∧ b ≤ base + n then 1 else 0) → l.length ≤ n
  | 0, l, h => by
    cases l with
    | nil => exact Nat.le_refl _
    | cons x r =>
      have := h x
      rw [if_neg (by omega), List.count_cons_self] at this
      omega
  | n + 1, l, h => by
    have ih := lenB base n (l.erase (base + ((n + 1 : Nat) : Int))) fun b => by
      rw [List.count_erase]
      have := h b
      by_cases e : b = base + ((n + 1 : Nat) : Int)
      · subst e
        rw [if_pos (by omega)] at this
        rw [if_pos (by simp), if_neg (by omega)]; omega
      · have e' : ¬ (base + ((n + 1 : Nat) : Int) == b) = true := by simpa using fun q => e q.symm
        rw [if_neg e']
        by_cases q : base < b ∧ b ≤ base + (n : Int)
        · rw [if_pos q]; rw [if_pos (by omega)] at this; omega
        · rw [if_neg q]; rw [if_neg (by omega)] at this; omega
    rw [List.length_erase] at ih
    split at ih <;> omega
theorem list_cnt {A B : Int} {k : Nat → Pk} {i : Nat} {W : List Int} {L : Int → List Int} (h : InvQ A B i W k L) {c : Int} (hc : c = 0 ∨ c = 1) : (L c).length ≤ (cntV A B c).toNat := by
  have h0 := h.a0
  have h2 := h.b0
  have key : ∀ b, (L c).count b ≤ if classV A B b = c then 1 else 0 := fun b => by
    have q := h.cnt b
    by_cases e : classV A B b = c
    · rw [if_pos e]
      rcases hc with rfl | rfl <;> (split at q <;> omega)
    · rw [if_neg e]
      have : (L c).count b = 0 := by
        rw [List.count_eq_zero]
        intro hb
        exact e (h.cls c (by omega) (by omega) b hb)
      omega
  rcases hc with rfl | rfl
  · refine lenB 0 _ _ fun b => ?_
    have := key b
    have e : (cntV A B 0) = A := rfl
    rw [e]
    by_cases q : 0 < b ∧ b ≤ 0 + (A.toNat : Int)
    · rw [if_pos q]; split at this <;> omega
    · rw [if_neg q]
      have : ¬ classV A B b = 0 := fun r => by have := cls_iff (by decide) r; omega
      have := key b
      rw [if_neg ‹¬ classV A B b = 0›] at this; exact this
  · refine lenB A _ _ fun b => ?_
    have := key b
    have e : (cntV A B 1) = B := rfl
    rw [e]
    by_cases q : A < b ∧ b ≤ A + (B.toNat : Int)
    · rw [if_pos q]; split at this <;> omega
    · rw [if_neg q]
      have : ¬ classV A B b = 1 := fun r => by have := cls_iff (by decide) r; omega
      have := key b
      rw [if_neg ‹¬ classV A B b = 1›] at this; exact this
theorem sub_trans {E : Env} {T T1 T2 : List (Nat × SV)} {H H1 H2 : List HE} (h : Hx.Sub E T H T1 H1) (h2 : Hx.Sub E T1 H1 T2 H2) : Hx.Sub E T H T2 H2 := fun ρ a w hs => by
  obtain ⟨ρ1, h1⟩ := h ρ a w hs
  exact h2 ρ1 a w h1
def rfreeF (A B : Int) (L0 L1 Fr : List Int) : Hx.Spec := fun args H => match args with
  | [.agg cfg, .sbuf h 1 0 l] => match getH H h, nums[H.length]? with
    | some (.buf .u64 W 1 70), some n => some ([frL L0 L1 (A + B).toNat = Fr, cfg = [.int .i64 1, .int .i64 4, .int .i64 1, .int .i64 2, .int .i64 4, .int .i64 A, .int .i64 6, .int .i64 B, .int .i64 2], l = W.length, rightB 1 4 1 2 4 A 6 B 2 = true, (W.length : Int) = 16 + A * 5 + B * 7, ∀ j, 0 ≤ W.getD j 0 ∧ W.getD j 0 < 18446744073709551616, 0 ≤ A ∧ A ≤ 5, 0 ≤ B ∧ B ≤ 5,
        chn A B W (W.getD (3 + (0 : Int)).toNat 0) L0, ∀ b ∈ L0, classV A B b = 0, L0.length ≤ (cntV A B 0).toNat, chn A B W (W.getD (3 + (1 : Int)).toNat 0) L1, ∀ b ∈ L1, classV A B b = 1, L1.length ≤ (cntV A B 1).toNat], toldV (nzl Fr) n, H ++ [slE (nzl Fr) .i64 3])
    | _, _ => none
  | _ => none
theorem rfreeF_ok {A B : Int} {L0 L1 Fr : List Int} {args : List SV} {H : List HE} {ob : List Prop} {V : SV} {Lh : List HE} (hs : rfreeF A B L0 L1 Fr args H = some (ob, V, Lh)) (ho : AllP ob) : Gives Try.prog 16 args H (Is V Lh) := by
  unfold rfreeF at hs
  split at hs
  case h_2 => simp at hs
  split at hs
  case h_2 => simp at hs
  rename_i _ cfg h l _ _ W n hg hn
  simp only [Option.some.injEq, Prod.mk.injEq] at hs
  obtain ⟨rfl, rfl, rfl⟩ := hs
  have e := ho _ (List.mem_cons_self ..)
  subst e
  refine rfreeS_ok (A := A) (B := B) (L0 := L0) (L1 := L1) (ob := _) ?_ (fun p hp => ho p (List.mem_cons_of_mem _ hp))
  unfold rfreeS
  simp only [hg, hn]
def ctCf (A B : Int) (L0 L1 Fr : List Int) : Nat → Option Hx.Spec
  | 17 => some (arWordsS)
  | 16 => some (rfreeF A B L0 L1 Fr)
  | _ => none
theorem ctCf_ok (A B : Int) (L0 L1 Fr : List Int) : ∀ f s args H ob V L, ctCf A B L0 L1 Fr f = some s → s args H = some (ob, V, L) → AllP ob → Gives Try.prog f args H (Is V L) := by
  intro f s args H ob V L h hs ho
  unfold ctCf at h
  split at h
  · simp at h; subst h; exact arWordsS_ok hs ho
  · simp at h; subst h; exact rfreeF_ok hs ho
  · simp at h
noncomputable def Xcf (A B : Int) (L0 L1 Fr : List Int) : Tabs := tabs tr ft xt (fun _ => none) (ctCf A B L0 L1 Fr) 0
theorem hXcf (A B : Int) (L0 L1 Fr : List Int) : TOk Try.prog (Xcf A B L0 L1 Fr) := ⟨hTE, hFT, (ctCf_ok A B L0 L1 Fr), hXT, fun t ks h => by simp [Xcf, tabs] at h, mixed⟩
section
variable {n cap : Nat} {o : Nat → ActP} {A B : Int} {ρ : Nat → Nat × Nat} {w : World} {I : Act → World → Prop} {x : SP} {p : Nat → VV} {G : List Int}
set_option maxHeartbeats 16000000 in
theorem ck_main {i : Nat} {k : Nat → Pk} (hi : i < 200) (hI : InvB A B (i + 1) ⟨x, k, p, G⟩) (back : ∀ cs T H, Sub (FEnv Try.prog (Xap A B true true).TE (hXap A B true true).te Try.f3 Try.f3.ntmps [.obj (.rows n 3 (actRow o))] (Is .tt [.obj (.rows n 3 (actRow o))]) ρ w) T H (spT (.slice 0 0 n cap) (i + 1)) (spH n o A B x k p G) → SS (hXap A B true true) (At ρ w) (Is .tt [.obj (.rows n 3 (actRow o))]) ⟨cs, [], Try.f3, Try.f3.ntmps, [.obj (.rows n 3 (actRow o))], .lp I :: dnLp (flatS (contF Try.f3 11 [I])), T, H⟩) :
    SS (hXap A B true true) (At ρ w) (Is .tt [.obj (.rows n 3 (actRow o))]) ⟨[], [], Try.f3, Try.f3.ntmps, [.obj (.rows n 3 (actRow o))], flatS (contF Try.f3 30 [I]), spT (.slice 0 0 n cap) i, spH n o A B x k p G⟩ := by
  obtain ⟨W, st, kd, wd, vl, ch⟩ := x
  obtain ⟨⟨s0, s1⟩, ⟨hG, hg⟩, L, hq⟩ := hI
  dsimp only at s0 s1 hG hg hq
  have hA : 0 ≤ A ∧ A ≤ 5 := ⟨hq.a0, hq.a1⟩
  have hB : 0 ≤ B ∧ B ≤ 5 := ⟨hq.b0, hq.b1⟩
  have hr := pool_right hA.1 hA.2 hB.1 hB.2
  have hl : (W.length : Int) = 16 + A * 5 + B * 7 := by
    have e := hq.len
    rw [szP_eq] at e
    omega
  have bd := hq.bd
  have hw5 : W.length ≤ 5000 := by omega
  have hc0 := hq.chn 0 (by decide) (by decide)
  have hc1 := hq.chn 1 (by decide) (by decide)
  have hk0 := hq.cls 0 (by decide) (by decide)
  have hk1 := hq.cls 1 (by decide) (by decide)
  have hn0 := list_cnt hq (c := 0) (.inl rfl)
  have hn1 := list_cnt hq (c := 1) (.inr rfl)
  have hlen : (aQ (frL (L 0) (L 1) (A + B).toNat) (k 0) (k 1) (k 2) (k 3) 4).length = (A + B).toNat := by rw [aQ_all]; exact allQ_len hq
  have hnd : (aQ (frL (L 0) (L 1) (A + B).toNat) (k 0) (k 1) (k 2) (k 3) 4).Nodup := by rw [aQ_all]; exact allQ_nodup hq
  have hfl : (frL (L 0) (L 1) (A + B).toNat).length ≤ 10 := by have := frL_len (L 0) (L 1) (A + B).toNat; omega
  generalize hF : frL (L 0) (L 1) (A + B).toNat = Fr at hlen hnd hfl
  rcases Fr with _ | ⟨y, r⟩
  · skip
    refine ss_sw (hXap A B true true) (sw_ss (hXcf A B (L 0) (L 1) []) (cs := []) ?_)
    have hXk := hXcf A B (L 0) (L 1) []
    refine ss_drawZ hXk 4 [] 400 rfl (by repeat' (first | exact rfl | exact trivial | exact hF | exact bd | exact hw5 | exact hr | exact hl | exact hA | exact hB | exact hc0 | exact hc1 | exact hk0 | exact hk1 | exact hn0 | exact hn1 | refine And.intro ?_ ?_)) ?_
    dsimp only [spT, spH, toldV, nzl]
    refine sxb hXk [.r 34] [] 4000 rfl (by (simp [-List.getD_eq_getElem?_getD, -List.length_eq_zero_iff, conjP] <;> (first | omega | ((repeat' (refine And.intro ?_ ?_)) <;> (first | omega | exact decide_eq_false (by omega) | exact decide_eq_true (by omega)))))) ?_
    refine sxb hXk [.r 34] [.F] 4000 rfl (by (simp [-List.getD_eq_getElem?_getD, -List.length_eq_zero_iff, conjP] <;> (first | omega | ((repeat' (refine And.intro ?_ ?_)) <;> (first | omega | exact decide_eq_false (by omega) | exact decide_eq_true (by omega)))))) ?_
    (refine ss_sw hXk (sw_ss (hXck A B (L 0) (L 1)) (cs := []) ?_); refine ss_sub (hXck A B (L 0) (L 1)) (T' := ckT (.slice 0 0 n cap) i (allV (some []) 18)) (H' := ckH n o A B ⟨W, st, kd, wd, vl, ch⟩ (k 0) (k 1) (k 2) (k 3) p G (allE (some []))) [0, 1, 2, 3, 4, 5, 6, 7, 8, 9, 10, 11, 12, 13, 14, 15, 16, 17, 22] rfl rfl rfl rfl (by (((repeat' (first | exact rfl | exact trivial | exact sim_refl _ | exact subE_same rfl ren_slE | exact subE_phE rfl rfl | exact sim_slV rfl | exact sim_tkP rfl | exact sim_gvP rfl | (simp; done) | (simp; omega) | (simp [*]; done) | (unfold lst; simp [*]; done) | refine And.intro ?_ ?_)); done))) (by (((repeat' (first | exact rfl | exact trivial | exact sim_refl _ | exact subE_same rfl ren_slE | exact subE_phE rfl rfl | exact sim_slV rfl | exact sim_tkP rfl | exact sim_gvP rfl | (simp; done) | (simp; omega) | (simp [*]; done) | (unfold lst; simp [*]; done) | refine And.intro ?_ ?_)); done))) (by (((repeat' (first | exact rfl | exact trivial | exact okE_slE | exact okE_phE rfl | exact okP_slV rfl | exact okP_tkP rfl | exact okP_gvP rfl | refine And.intro ?_ ?_)); done))) (by (((repeat' (first | exact rfl | exact trivial | exact okE_slE | exact okE_phE rfl | exact okP_slV rfl | exact okP_tkP rfl | exact okP_gvP rfl | refine And.intro ?_ ?_)); done))) ?_; exact ck_loop hi hA hB hG ⟨_, rfl, by rw [hg 0 (by decide)]; exact giv_gb hq (by decide), own_len hq (m := 0) (by decide) rfl⟩ ⟨_, rfl, by rw [hg 1 (by decide)]; exact giv_gb hq (by decide), own_len hq (m := 1) (by decide) rfl⟩ ⟨_, rfl, by rw [hg 2 (by decide)]; exact giv_gb hq (by decide), own_len hq (m := 2) (by decide) rfl⟩ ⟨_, rfl, by rw [hg 3 (by decide)]; exact giv_gb hq (by decide), own_len hq (m := 3) (by decide) rfl⟩ (by decide) hlen hnd (fun cs T H hs => back cs T H (sub_trans hs (sub_of [0, 1, 2, 3, 4, 5, 6, 7, 8, 9, 10, 11, 12, 13, 14, 15, 16, 17] rfl rfl rfl rfl (by (repeat' (first | exact rfl | exact trivial | exact sim_refl _ | refine And.intro ?_ ?_))) (by (((repeat' (first | exact rfl | exact trivial | exact sim_refl _ | exact subE_same rfl ren_slE | exact subE_r rfl ren_slE ren_slE | exact subE_phE rfl rfl | exact sim_slV rfl | exact sim_slVr rfl | exact sim_slV3 rfl | exact sim_tkP rfl | exact sim_gvP rfl | exact sim_tkP3 rfl | exact sim_gvP3 rfl | (simp; done) | (unfold lst; simp; done) | refine And.intro ?_ ?_)); done))) (by (repeat' (first | exact rfl | exact trivial | exact sim_refl _ | refine And.intro ?_ ?_))) (by (((repeat' (first | exact rfl | exact trivial | exact okE_slE | exact okE_phE rfl | exact okP_slV rfl | exact okP_tkP rfl | exact okP_gvP rfl | refine And.intro ?_ ?_)); done)))))))
  · skip
    refine ss_sw (hXap A B true true) (sw_ss (hXcf A B (L 0) (L 1) (y :: r)) (cs := []) ?_)
    have hXk := hXcf A B (L 0) (L 1) (y :: r)
    refine ss_drawZ hXk 4 [] 400 rfl (by repeat' (first | exact rfl | exact trivial | exact hF | exact bd | exact hw5 | exact hr | exact hl | exact hA | exact hB | exact hc0 | exact hc1 | exact hk0 | exact hk1 | exact hn0 | exact hn1 | refine And.intro ?_ ?_)) ?_
    dsimp only [spT, spH, toldV, nzl]
    have hfl2 : r.length ≤ 10 := by simp at hfl; omega
    refine sxb hXk [.r 34] [] 4000 rfl (by (simp [-List.getD_eq_getElem?_getD, -List.length_eq_zero_iff, conjP] <;> (first | omega | ((repeat' (refine And.intro ?_ ?_)) <;> (first | omega | exact decide_eq_false (by omega) | exact decide_eq_true (by omega)))))) ?_
    refine sxb hXk [.r 34] [.F] 4000 rfl (by (simp [-List.getD_eq_getElem?_getD, -List.length_eq_zero_iff, conjP] <;> (first | omega | ((repeat' (refine And.intro ?_ ?_)) <;> (first | omega | exact decide_eq_false (by omega) | exact decide_eq_true (by omega)))))) ?_
    ((simp only [mulS_eq, Nat.mul_one, List.take_zero, List.drop_zero, List.nil_append, List.take_length, Nat.zero_add]); refine ss_sw hXk (sw_ss (hXck A B (L 0) (L 1)) (cs := []) ?_); refine ss_sub (hXck A B (L 0) (L 1)) (T' := ckT (.slice 0 0 n cap) i (allV (some (y :: r)) 18)) (H' := ckH n o A B ⟨W, st, kd, wd, vl, ch⟩ (k 0) (k 1) (k 2) (k 3) p G (allE (some (y :: r)))) [0, 1, 2, 3, 4, 5, 6, 7, 8, 9, 10, 11, 12, 13, 14, 15, 16, 17, 22] rfl rfl rfl rfl (by (((repeat' (first | exact rfl | exact trivial | exact sim_refl _ | exact subE_same rfl ren_slE | exact subE_phE rfl rfl | exact sim_slV rfl | exact sim_tkP rfl | exact sim_gvP rfl | (simp; done) | (simp; omega) | (simp [*]; done) | (unfold lst; simp [*]; done) | refine And.intro ?_ ?_)); done))) (by (((repeat' (first | exact rfl | exact trivial | exact sim_refl _ | exact subE_same rfl ren_slE | exact subE_phE rfl rfl | exact sim_slV rfl | exact sim_tkP rfl | exact sim_gvP rfl | (simp; done) | (simp; omega) | (simp [*]; done) | (unfold lst; simp [*]; done) | refine And.intro ?_ ?_)); done))) (by (((repeat' (first | exact rfl | exact trivial | exact okE_slE | exact okE_phE rfl | exact okP_slV rfl | exact okP_tkP rfl | exact okP_gvP rfl | refine And.intro ?_ ?_)); done))) (by (((repeat' (first | exact rfl | exact trivial | exact okE_slE | exact okE_phE rfl | exact okP_slV rfl | exact okP_tkP rfl | exact okP_gvP rfl | refine And.intro ?_ ?_)); done))) ?_; exact ck_loop hi hA hB hG ⟨_, rfl, by rw [hg 0 (by decide)]; exact giv_gb hq (by decide), own_len hq (m := 0) (by decide) rfl⟩ ⟨_, rfl, by rw [hg 1 (by decide)]; exact giv_gb hq (by decide), own_len hq (m := 1) (by decide) rfl⟩ ⟨_, rfl, by rw [hg 2 (by decide)]; exact giv_gb hq (by decide), own_len hq (m := 2) (by decide) rfl⟩ ⟨_, rfl, by rw [hg 3 (by decide)]; exact giv_gb hq (by decide), own_len hq (m := 3) (by decide) rfl⟩ hfl hlen hnd (fun cs T H hs => back cs T H (sub_trans hs (sub_of [0, 1, 2, 3, 4, 5, 6, 7, 8, 9, 10, 11, 12, 13, 14, 15, 16, 17] rfl rfl rfl rfl (by (repeat' (first | exact rfl | exact trivial | exact sim_refl _ | refine And.intro ?_ ?_))) (by (((repeat' (first | exact rfl | exact trivial | exact sim_refl _ | exact subE_same rfl ren_slE | exact subE_r rfl ren_slE ren_slE | exact subE_phE rfl rfl | exact sim_slV rfl | exact sim_slVr rfl | exact sim_slV3 rfl | exact sim_tkP rfl | exact sim_gvP rfl | exact sim_tkP3 rfl | exact sim_gvP3 rfl | (simp; done) | (unfold lst; simp; done) | refine And.intro ?_ ?_)); done))) (by (repeat' (first | exact rfl | exact trivial | exact sim_refl _ | refine And.intro ?_ ?_))) (by (((repeat' (first | exact rfl | exact trivial | exact okE_slE | exact okE_phE rfl | exact okP_slV rfl | exact okP_tkP rfl | exact okP_gvP rfl | refine And.intro ?_ ?_)); done)))))))
end
end Go.Proofs.Ytmghcelohnlceaa
