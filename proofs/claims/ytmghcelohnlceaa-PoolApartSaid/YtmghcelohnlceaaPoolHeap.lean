/- Four clients of a pool, in a heap. -/
import Derived.Test.YtmghcelohnlceaaPoolRows
import Derived.Test.YtmghcelohnlceaaHyc
namespace Go.Proofs.Ytmghcelohnlceaa
open Go Go.Hx
set_option maxRecDepth 8000

theorem len_le : ∀ (n : Nat) (l : List Int), (∀ b, l.count b ≤ if 1 ≤ b ∧ b ≤ (n : Int) then 1 else 0) → l.length ≤ n
  | 0, l, h => by
    cases l with
    | nil => exact Nat.le_refl _
    | cons x r =>
      have := h x
      rw [if_neg (by omega), List.count_cons_self] at this
      omega
  | n + 1, l, h => by
    have ih := len_le n (l.erase ((n + 1 : Nat) : Int)) fun b => by
      rw [List.count_erase]
      have := h b
      by_cases e : b = ((n + 1 : Nat) : Int)
      · subst e
        rw [if_pos (by omega)] at this
        rw [if_pos (by simp), if_neg (by omega)]; omega
      · have e' : ¬ (((n + 1 : Nat) : Int) == b) = true := by simpa using fun q => e q.symm
        rw [if_neg e']
        by_cases q : 1 ≤ b ∧ b ≤ (n : Int)
        · rw [if_pos q]; rw [if_pos (by omega)] at this; omega
        · rw [if_neg q]; rw [if_neg (by omega)] at this; omega
    rw [List.length_erase] at ih
    split at ih <;> omega
theorem own_len {A B : Int} {i : Nat} {W : List Int} {k : Nat → Pk} {L : Int → List Int} (h : InvQ A B i W k L) {m : Nat} (hm : m < 4) {l : List Int} (hk : lst (k m).own = l) : l.length ≤ 10 := by
  have h0 := h.a0
  have h1 := h.a1
  have h2 := h.b0
  have h3 := h.b1
  have := len_le (A + B).toNat l fun b => by
    have q1 := h.cnt b
    have q2 := cntK_one (k := k) hm b
    unfold cnt1 at q2
    rw [hk] at q2
    have e : ((A + B).toNat : Int) = A + B := by omega
    rw [e, ← q1]
    omega
  omega
theorem own_nodup {A B : Int} {i : Nat} {W : List Int} {k : Nat → Pk} {L : Int → List Int} (h : InvQ A B i W k L) {m : Nat} (hm : m < 4) : (lst (k m).own).Nodup := by
  rw [List.nodup_iff_count]
  intro b
  have q1 := h.cnt b
  have q2 := cntK_one (k := k) hm b
  unfold cnt1 at q2
  split at q1 <;> omega
def awPS : List SV → Option (List Prop × SV)
  | [] => some ([], .tt)
  | _ => none
theorem awPS_ok : PureOk 8 awPS := by
  intro args ob V hs ho
  unfold awPS at hs
  split at hs
  · simp only [Option.some.injEq, Prod.mk.injEq] at hs
    obtain ⟨rfl, rfl⟩ := hs
    exact ⟨rfl, rfl, awakeP_fn⟩
  · simp at hs
structure ActP where
  (who which : Int) (give : Bool)
def actRow (o : Nat → ActP) (j : Nat) : List SV := [.int .i64 (o j).who, .int .i64 (o j).which, .bool (o j).give]
def tkP (p : Ph) (h : Nat) : SV :=
  match p with
  | .t1 .. => .ptr h 0
  | .t2 .. => .ptr h 0
  | .t3 .. => .ptr h 0
  | _ => .nilptr
def gvP (p : Ph) (h : Nat) : SV :=
  match p with
  | .g1 .. => .ptr h 0
  | .g2 .. => .ptr h 0
  | .g3 .. => .ptr h 0
  | _ => .nilptr
def phE (A B : Int) (h : Nat) : Ph → HE
  | .idle => .absent
  | .t1 c s b f => .obj (phO A B h (.t1 c s b f))
  | .t2 c s b f => .obj (phO A B h (.t2 c s b f))
  | .t3 c s b f => .obj (phO A B h (.t3 c s b f))
  | .g1 b s => .obj (phO A B h (.g1 b s))
  | .g2 b s => .obj (phO A B h (.g2 b s))
  | .g3 b s => .obj (phO A B h (.g3 b s))
section
variable {σ σ' : Nat → Nat} {H H' : List HE} {A B : Int} {h h' i : Nat} {p : Ph}
theorem ren_tkP : (tkP p h).ren σ = tkP p (σ h) := by cases p <;> rfl
theorem ren_gvP : (gvP p h).ren σ = gvP p (σ h) := by cases p <;> rfl
theorem ren_phE : (phE A B h p).ren σ = phE A B (σ h) p := by cases p <;> rfl
theorem sim_tkP (hs : σ h = h') : sim (tkP p h') ((tkP p h).ren σ) := by subst hs; rw [ren_tkP]; exact sim_refl _
theorem sim_gvP (hs : σ h = h') : sim (gvP p h') ((gvP p h).ren σ) := by subst hs; rw [ren_gvP]; exact sim_refl _
theorem sim_tkP3 (hs : σ' h' = σ h) : sim ((tkP p h').ren σ') ((tkP p h).ren σ) := by rw [ren_tkP, ren_tkP, hs]; exact sim_refl _
theorem sim_gvP3 (hs : σ' h' = σ h) : sim ((gvP p h').ren σ') ((gvP p h).ren σ) := by rw [ren_gvP, ren_gvP, hs]; exact sim_refl _
theorem okP_tkP (e : thereF H' h = (phE A B h p).there) : okP (thereF H') (tkP p h) := by
  cases p <;> first | exact trivial | simpa [tkP, okP, phE, HE.there] using e
theorem okP_gvP (e : thereF H' h = (phE A B h p).there) : okP (thereF H') (gvP p h) := by
  cases p <;> first | exact trivial | simpa [gvP, okP, phE, HE.there] using e
theorem subE_phE {h1 : Nat} (hg : H[σ i]? = some (phE A B h1 p)) (hs : σ h = h1) : subE σ H i (phE A B h p) := by
  subst hs
  cases p with
  | idle => trivial
  | _ =>
    simp only [phE] at hg
    simp only [phE, subE, getH_some.2 hg, ren_phO]
    simp only [simG]
    exact simO_refl _
theorem okE_phE {A' : Nat → Bool} (e : A' h = (phE A B h p).there) : okE A' (phE A B h p) := by
  cases p with
  | idle => trivial
  | _ =>
    have e' : A' h = true := e
    simp only [phE, phO, tkO, gvO, okE, okPs, okP]
    refine ⟨trivial, trivial, trivial, trivial, trivial, trivial, trivial, trivial, trivial, trivial, trivial, ?_⟩
    first
      | exact ⟨⟨⟨e', trivial⟩, trivial⟩, trivial, trivial, trivial, trivial⟩
      | exact ⟨⟨⟨e', trivial⟩, trivial⟩, trivial, trivial⟩
theorem okNew_phE : okNew (phE A B h p) := by cases p <;> first | trivial | rfl
end
end Go.Proofs.Ytmghcelohnlceaa
