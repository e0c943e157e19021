/- The heap machine, part 3: values over handles, and how a program of this language goes over them; for every program. -/
import Derived.Test.YtmghcelohnlceaaGreatDoorHyb
/-
  Which bool is it that a walk waits for? (A guess alone: nothing hangs on its being right.)
-/
namespace Go.Hx
open Go

inductive PrR where
  | done (s : St) (kept : List (Nat × Nat))
  | need (i : Nat) (b : Bool)
inductive PrD where
  | ok (cs : List Ch) (T : List (Nat × SV)) (H : List HE) (kept : List (Nat × Nat))
  | need (i : Nat) (b : Bool)
  | dead
inductive PrV where
  | ok (cs : List Ch) (v : SV) (H : List HE) (kept : List (Nat × Nat))
  | need (i : Nat) (b : Bool)
  | dead

/-- How many of the kept ones are older than the newest (p, d). -/
def keptAt (p d : Nat) : List (Nat × Nat) → Option Nat
  | [] => none
  | (q, e) :: r => match Nat.beq p q && Nat.beq d e with
    | true => some r.length
    | false => keptAt p d r
def keep1 (cs : List Ch) (v : SV) (p : Nat) (d : Option Nat) (kept : List (Nat × Nat)) : List (Nat × Nat) :=
  match cs, v, d with
  | [], .bool _, some d => (p, d) :: kept
  | [], .bool _, none => (p, 0) :: kept
  | _, _, _ => kept

def evalP (X : Tabs) (rec : Nat → St → List (Nat × Nat) → PrR) (p : Nat) (cs : List Ch) (f : Nat) (as : List SV) (H : List HE) (kept : List (Nat × Nat)) : PrV :=
  match X.FT f with
  | some fn => match (match X.CT f with | some sp => sp as H | none => none) with
    | some (_, V, L) => match forceHs L with
      | some L' => .ok cs V L' kept
      | none => .dead
    | none => match fn.body, Nat.ble as.length fn.ntmps, argTF nums as with
      | some c, true, some Ta => match rec (p + 1) ⟨cs, [], fn, fn.ntmps, H, [.code c], Ta, H⟩ kept with
        | .need i b => .need i b
        | .done ⟨cs', fs, fn', _, _, k, T, L⟩ kept' => match fs, isRet fn' k, resF X.TE fn'.results.toList T L with
          | [], true, some (_, vs) => .ok cs' (tupF vs) L kept'
          | _, _, _ => .dead
      | _, _, _ => .dead
  | none => .dead

def drawP (X : Tabs) (rec : Nat → St → List (Nat × Nat) → PrR) (p : Nat) (al : List Oper) (nt : Nat) : List Oper → List Ch → List (Nat × SV) → List HE → List (Nat × Nat) → PrD
  | [], cs, T, H, kept => .ok cs T H kept
  | o :: r, cs, T, H, kept => match guardF al T o.guard with
    | 1 => match putD nt o.dst T (.tup []) with
      | some T' => drawP X rec p al nt r cs T' H kept
      | none => .dead
    | 0 => match stepE X T H o.op with
      | some (.val _ v) => match ovr cs v with
        | some (cs', _, v') => match putD nt o.dst T v' with
          | some T' => drawP X rec p al nt r cs' T' H (keep1 cs v p o.dst kept)
          | none => .dead
        | none => .dead
      | some e => match afterF nt o.dst T H e with
        | some (_, T', H') => drawP X rec p al nt r cs T' H' kept
        | none => .dead
      | none => match o.op with
        | .call c => match (match calleeF T c with | some (f, as0) => (match forceL as0 with | some as => some (f, as) | none => none) | none => none) with
          | some (f, as) => match evalP X rec p cs f as H kept with
            | .need i b => .need i b
            | .dead => .dead
            | .ok cs1 V L kept1 => match ovr cs1 V with
              | some (cs', _, V') => match putD nt o.dst T V' with
                | some T' => drawP X rec p al nt r cs' T' L (keep1 cs1 V p o.dst kept1)
                | none => .dead
              | none => .dead
          | none => .dead
        | _ => .dead
    | _ => match guardU al T o.guard with
      | some (d, b) => match keptAt p d kept with
        | some i => .need i b
        | none => .dead
      | none => .dead

def stepP (X : Tabs) (rec : Nat → St → List (Nat × Nat) → PrR) (p : Nat) (s : St) (kept : List (Nat × Nat)) : PrR ⊕ (St × List (Nat × Nat)) :=
  match s with
  | ⟨cs, fs, fn, nt, H0, k, T, H⟩ =>
    match k with
    | .code (.region _ ops true) :: k' => match regOk ops.toList with
      | true => match drawP X rec p ops.toList nt ops.toList cs T H kept with
        | .need i b => .inl (.need i b)
        | .dead => .inl (.done ⟨cs, fs, fn, nt, H0, k, T, H⟩ kept)
        | .ok cs' T' H' kept' => .inr (⟨cs', fs, fn, nt, H0, k', T', H'⟩, kept')
      | false => match splitL ops.toList with
        | none => .inl (.done ⟨cs, fs, fn, nt, H0, k, T, H⟩ kept)
        | some (ini, last) => match drawP X rec p ini nt ini cs T H kept with
          | .need i b => .inl (.need i b)
          | .dead => .inl (.done ⟨cs, fs, fn, nt, H0, k, T, H⟩ kept)
          | .ok cs' T' H' kept' => match stepE X T' H' last.op with
            | none => .inl (.done ⟨cs, fs, fn, nt, H0, k, T, H⟩ kept)
            | some e => match afterF nt last.dst T' H' e with
              | none => .inl (.done ⟨cs, fs, fn, nt, H0, k, T, H⟩ kept)
              | some (_, T2, H2) => .inr (⟨cs', fs, fn, nt, H0, k', T2, H2⟩, kept')
    | _ => match step1 X (fun _ _ _ _ _ => none) ⟨cs, fs, fn, nt, H0, k, T, H⟩ with
      | some (_, s') => .inr (s', kept)
      | none => match cs, k with
        | [], .code (.cond (.tmp t) _ _) :: _ => match look T t with
          | some (.bool b) => .inl (.need kept.length b)
          | _ => .inl (.done ⟨cs, fs, fn, nt, H0, k, T, H⟩ kept)
        | [], .ops all (o :: _) :: _ => match guardU all T o.guard with
          | some (_, b) => .inl (.need kept.length b)
          | none => .inl (.done ⟨cs, fs, fn, nt, H0, k, T, H⟩ kept)
        | _, _ => .inl (.done ⟨cs, fs, fn, nt, H0, k, T, H⟩ kept)

def runP (X : Tabs) (bk : List Bk) : Nat → Nat → St → List (Nat × Nat) → PrR
  | 0, _, s, kept => .done s kept
  | n + 1, p, s, kept => match stopped bk s with
    | true => .done s kept
    | false => match stepP X (fun p s kept => runP X [] n p s kept) p s kept with
      | .inl r => r
      | .inr (s', kept') => runP X bk n p s' kept'
/-- The bool that is waited for, and how many are kept ahead of it. -/
def probe (X : Tabs) (bk : List Bk) (n : Nat) (s : St) : Option (Nat × Bool) :=
  match stepP X (fun p s kept => runP X [] n p s kept) 0 s [] with
  | .inl (.need i b) => some (i, b)
  | .inl _ => none
  | .inr (s', kept) => match runP X bk n 0 s' kept with
    | .need i b => some (i, b)
    | .done _ _ => none

section
variable {P : Program} {X : Tabs} (hX : TOk P X)
variable {Wb : (Nat → Nat × Nat) → World → Prop} {R : SV → List HE → Prop} {fn : Func} {nt : Nat} {H0 : List HE} {k : List KI} {T : List (Nat × SV)} {H : List HE} {fs : List Fm}
/-- Both ways at the bool that is waited for. -/
theorem ss_pb (bk : List Bk) (cs : List Ch) (n : Nat) {cs0 : List Ch} {i : Nat} {b : Bool} (_ : probe X bk n ⟨cs, fs, fn, nt, H0, k, T, H⟩ = some (i, b))
    (ht : b = true → SS hX Wb R ⟨cs0, fs, fn, nt, H0, k, T, H⟩) (hf : b = false → SS hX Wb R ⟨cs0, fs, fn, nt, H0, k, T, H⟩) : SS hX Wb R ⟨cs0, fs, fn, nt, H0, k, T, H⟩ := by
  cases b
  · exact hf rfl
  · exact ht rfl
end
end Go.Hx

/-
  Names found out of a heap; things that are there or not, more.
-/
namespace Go.Hx
open Go



end Go.Hx

/-
  A piece of code, gone through in a small heap: what else there is stays as it is.
-/
namespace Go.Hx
open Go

/-- What becomes of a place: it is as the small heap has it; it stays; it is dropped. -/
inductive Fl where
  | new | keep | drop
def HE.dim : HE → HE
  | .absent => .absent
  | _ => .opq
def setN : List HE → Nat → HE → List HE
  | [], _, _ => []
  | _ :: r, 0, e => e :: r
  | x :: r, n + 1, e => x :: setN r n e
def dimN : List HE → Nat → List HE
  | [], _ => []
  | x :: r, 0 => x.dim :: r
  | x :: r, n + 1 => x :: dimN r n
theorem setN_eq (e : HE) : ∀ (l : List HE) (n : Nat), setN l n e = l.set n e
  | [], _ => rfl
  | _ :: _, 0 => rfl
  | x :: r, n + 1 => by simp [setN, setN_eq e r n]
theorem dimN_get : ∀ (l : List HE) (n i : Nat), (dimN l n)[i]? = if i = n then l[i]?.map HE.dim else l[i]?
  | [], _, _ => by simp [dimN]
  | x :: r, 0, 0 => by simp [dimN]
  | x :: r, 0, i + 1 => by simp [dimN]
  | x :: r, n + 1, 0 => by simp [dimN]
  | x :: r, n + 1, i + 1 => by simp [dimN, dimN_get r n i]
theorem dimN_length : ∀ (l : List HE) (n : Nat), (dimN l n).length = l.length
  | [], _ => rfl
  | _ :: _, 0 => rfl
  | x :: r, n + 1 => by simp [dimN, dimN_length r n]

def layB (σ : Nat → Nat) : List HE → List Nat → List Fl → List HE → List HE
  | H, s :: ss, .new :: fs, e :: es => layB σ (setN H s (e.ren σ)) ss fs es
  | H, _ :: ss, .keep :: fs, _ :: es => layB σ H ss fs es
  | H, s :: ss, .drop :: fs, _ :: es => layB σ (dimN H s) ss fs es
  | H, _, _, _ => H
def dropL : List HE → List Nat → List HE
  | l, [] => l
  | _ :: r, _ :: s => dropL r s
  | [], _ => []
def renL (σ : Nat → Nat) : List HE → List HE
  | [] => []
  | e :: r => e.ren σ :: renL σ r
def appL : List HE → List HE → List HE
  | [], m => m
  | e :: l, m => e :: appL l m
def mergeB (σ : Nat → Nat) (σs : List Nat) (fs : List Fl) (H Hn : List HE) : List HE := appL (layB σ H σs fs Hn) (renL σ (dropL Hn σs))

theorem dropL_eq : ∀ (l : List HE) (s : List Nat), dropL l s = l.drop s.length
  | l, [] => by simp [dropL]
  | _ :: r, _ :: s => by simp [dropL, dropL_eq r s]
  | [], _ :: _ => by simp [dropL]
theorem renL_eq (σ : Nat → Nat) : ∀ l : List HE, renL σ l = l.map (HE.ren σ)
  | [] => rfl
  | e :: r => by simp [renL, renL_eq σ r]
theorem appL_eq : ∀ l m : List HE, appL l m = l ++ m
  | [], _ => rfl
  | e :: l, m => by simp [appL, appL_eq l m]
theorem layB_length (σ : Nat → Nat) : ∀ (H : List HE) (ss : List Nat) (fs : List Fl) (es : List HE), (layB σ H ss fs es).length = H.length
  | H, s :: ss, .new :: fs, e :: es => by rw [layB, layB_length σ _ ss fs es, setN_eq, List.length_set]
  | H, _ :: ss, .keep :: fs, _ :: es => by rw [layB, layB_length σ _ ss fs es]
  | H, s :: ss, .drop :: fs, _ :: es => by rw [layB, layB_length σ _ ss fs es, dimN_length]
  | H, [], _, _ => by simp [layB]
  | H, _ :: _, [], _ => by simp [layB]
  | H, _ :: _, .new :: _, [] => by simp [layB]
  | H, _ :: _, .keep :: _, [] => by simp [layB]
  | H, _ :: _, .drop :: _, [] => by simp [layB]
theorem layB_other (σ : Nat → Nat) : ∀ (H : List HE) (ss : List Nat) (fs : List Fl) (es : List HE) (x : Nat), x ∉ ss → (layB σ H ss fs es)[x]? = H[x]?
  | H, s :: ss, .new :: fs, e :: es, x, hx => by
    simp at hx
    rw [layB, layB_other σ _ ss fs es x hx.2, setN_eq, List.getElem?_set, if_neg (fun e => hx.1 e.symm)]
  | H, _ :: ss, .keep :: fs, _ :: es, x, hx => by
    simp at hx
    rw [layB, layB_other σ _ ss fs es x hx.2]
  | H, s :: ss, .drop :: fs, _ :: es, x, hx => by
    simp at hx
    rw [layB, layB_other σ _ ss fs es x hx.2, dimN_get, if_neg hx.1]
  | H, [], _, _, _, _ => by simp [layB]
  | H, _ :: _, [], _, _, _ => by simp [layB]
  | H, _ :: _, .new :: _, [], _, _ => by simp [layB]
  | H, _ :: _, .keep :: _, [], _, _ => by simp [layB]
  | H, _ :: _, .drop :: _, [], _, _ => by simp [layB]
theorem layB_at (σ : Nat → Nat) : ∀ (H : List HE) (ss : List Nat) (fs : List Fl) (es : List HE) (i s : Nat) (f : Fl) (e : HE), nodupN ss = true → ss[i]? = some s → fs[i]? = some f → es[i]? = some e → fs.length ≤ es.length → s < H.length →
    (layB σ H ss fs es)[s]? = match f with | .new => some (e.ren σ) | .keep => H[s]? | .drop => H[s]?.map HE.dim
  | H, [], _, _, i, s, f, e, _, h, _, _, _, _ => by simp at h
  | H, _ :: _, [], _, i, s, f, e, _, _, h, _, _, _ => by simp at h
  | H, _ :: _, _ :: _, [], i, s, f, e, _, _, _, h, _, _ => by simp at h
  | H, t :: ss, g :: fs, d :: es, i, s, f, e, hn, hs, hf, he, hle, hlt => by
    simp only [nodupN, Bool.and_eq_true, Bool.not_eq_true'] at hn
    cases i with
    | zero =>
      simp at hs hf he; subst hs; subst hf; subst he
      have hm : t ∉ ss := by intro h; have := memN_iff.2 h; rw [this] at hn; simp at hn
      cases g
      · rw [layB, layB_other σ _ ss fs es t hm, setN_eq]; simp [hlt]
      · rw [layB, layB_other σ _ ss fs es t hm]
      · rw [layB, layB_other σ _ ss fs es t hm, dimN_get, if_pos rfl]
    | succ i =>
      have hts : t ≠ s := by
        intro e1; subst e1
        have hm : t ∈ ss := List.mem_of_getElem? (by simpa using hs)
        have := memN_iff.2 hm; rw [this] at hn; simp at hn
      have hle' : fs.length ≤ es.length := by simp at hle; exact hle
      cases g
      · rw [layB, layB_at σ _ ss fs es i s f e hn.2 (by simpa using hs) (by simpa using hf) (by simpa using he) hle' (by rw [setN_eq]; simpa using hlt), setN_eq, List.getElem?_set, if_neg hts]
      · rw [layB, layB_at σ _ ss fs es i s f e hn.2 (by simpa using hs) (by simpa using hf) (by simpa using he) hle' hlt]
      · rw [layB, layB_at σ _ ss fs es i s f e hn.2 (by simpa using hs) (by simpa using hf) (by simpa using he) hle' (by rw [dimN_length]; exact hlt), dimN_get, if_neg (fun h => hts h.symm)]

def okNew : HE → Prop
  | .obj o => o.owned = true
  | _ => True
def okNews : List HE → Prop
  | [] => True
  | e :: r => okNew e ∧ okNews r
theorem okNews_get : ∀ {l : List HE}, okNews l → ∀ {h : Nat} {o : SO}, l[h]? = some (.obj o) → o.owned = true
  | [], _, h, o, ho => by simp at ho
  | e :: r, hl, 0, o, ho => by simp at ho; subst ho; exact hl.1
  | e :: r, hl, h + 1, o, ho => okNews_get hl.2 (h := h) (by simpa using ho)

/-- What the places are, and what becomes of them. -/
def flOk : List Fl → List HE → List HE → Prop
  | [], [], es => okNews es
  | .new :: fs, .obj _ :: cs, _ :: es => flOk fs cs es
  | .keep :: fs, .opq :: cs, _ :: es => flOk fs cs es
  | .drop :: fs, c :: cs, e :: es => (e.there = true → c.there = true) ∧ flOk fs cs es
  | _, _, _ => False
theorem flOk_len : ∀ {fs : List Fl} {cs es : List HE}, flOk fs cs es → fs.length = cs.length ∧ cs.length ≤ es.length
  | [], [], es, _ => by simp
  | .new :: fs, .obj _ :: cs, _ :: es, h => by have := flOk_len (fs := fs) (cs := cs) (es := es) h; simp; exact this
  | .keep :: fs, .opq :: cs, _ :: es, h => by have := flOk_len (fs := fs) (cs := cs) (es := es) h; simp; exact this
  | .drop :: fs, c :: cs, e :: es, h => by have := flOk_len (fs := fs) (cs := cs) (es := es) h.2; simp; exact this
  | [], _ :: _, _, h => by simp [flOk] at h
  | .new :: _, [], _, h => by simp [flOk] at h
  | .new :: _, .absent :: _, _, h => by simp [flOk] at h
  | .new :: _, .opq :: _, _, h => by simp [flOk] at h
  | .new :: _, .obj _ :: _, [], h => by simp [flOk] at h
  | .keep :: _, [], _, h => by simp [flOk] at h
  | .keep :: _, .absent :: _, _, h => by simp [flOk] at h
  | .keep :: _, .obj _ :: _, _, h => by simp [flOk] at h
  | .keep :: _, .opq :: _, [], h => by simp [flOk] at h
  | .drop :: _, [], _, h => by simp [flOk] at h
  | .drop :: _, _ :: _, [], h => by simp [flOk] at h
theorem flOk_get : ∀ {fs : List Fl} {cs es : List HE}, flOk fs cs es → ∀ {h : Nat} {f : Fl}, fs[h]? = some f → ∃ c e, cs[h]? = some c ∧ es[h]? = some e ∧
    match f with | .new => ∃ o, c = .obj o | .keep => c = .opq | .drop => (e.there = true → c.there = true)
  | [], [], es, _, h, f, hf => by simp at hf
  | .new :: fs, .obj o :: cs, e :: es, hk, 0, f, hf => by simp at hf; subst hf; exact ⟨_, _, rfl, rfl, o, rfl⟩
  | .new :: fs, .obj _ :: cs, _ :: es, hk, h + 1, f, hf => flOk_get (fs := fs) (cs := cs) (es := es) hk (h := h) (by simpa using hf)
  | .keep :: fs, .opq :: cs, e :: es, hk, 0, f, hf => by simp at hf; subst hf; exact ⟨_, _, rfl, rfl, rfl⟩
  | .keep :: fs, .opq :: cs, _ :: es, hk, h + 1, f, hf => flOk_get (fs := fs) (cs := cs) (es := es) hk (h := h) (by simpa using hf)
  | .drop :: fs, c :: cs, e :: es, hk, 0, f, hf => by simp at hf; subst hf; exact ⟨_, _, rfl, rfl, hk.1⟩
  | .drop :: fs, c :: cs, e :: es, hk, h + 1, f, hf => flOk_get (fs := fs) (cs := cs) (es := es) hk.2 (h := h) (by simpa using hf)
  | [], _ :: _, _, hk, _, _, _ => by simp [flOk] at hk
  | .new :: _, [], _, hk, _, _, _ => by simp [flOk] at hk
  | .new :: _, .absent :: _, _, hk, _, _, _ => by simp [flOk] at hk
  | .new :: _, .opq :: _, _, hk, _, _, _ => by simp [flOk] at hk
  | .new :: _, .obj _ :: _, [], hk, _, _, _ => by simp [flOk] at hk
  | .keep :: _, [], _, hk, _, _, _ => by simp [flOk] at hk
  | .keep :: _, .absent :: _, _, hk, _, _, _ => by simp [flOk] at hk
  | .keep :: _, .obj _ :: _, _, hk, _, _, _ => by simp [flOk] at hk
  | .keep :: _, .opq :: _, [], hk, _, _, _ => by simp [flOk] at hk
  | .drop :: _, [], _, hk, _, _, _ => by simp [flOk] at hk
  | .drop :: _, _ :: _, [], hk, _, _, _ => by simp [flOk] at hk
theorem flOk_news : ∀ {fs : List Fl} {cs es : List HE}, flOk fs cs es → okNews (es.drop cs.length)
  | [], [], es, h => by simpa [flOk] using h
  | .new :: fs, .obj _ :: cs, _ :: es, h => by simpa using flOk_news (fs := fs) (cs := cs) (es := es) h
  | .keep :: fs, .opq :: cs, _ :: es, h => by simpa using flOk_news (fs := fs) (cs := cs) (es := es) h
  | .drop :: fs, c :: cs, e :: es, h => by simpa using flOk_news (fs := fs) (cs := cs) (es := es) h.2
  | [], _ :: _, _, h => by simp [flOk] at h
  | .new :: _, [], _, h => by simp [flOk] at h
  | .new :: _, .absent :: _, _, h => by simp [flOk] at h
  | .new :: _, .opq :: _, _, h => by simp [flOk] at h
  | .new :: _, .obj _ :: _, [], h => by simp [flOk] at h
  | .keep :: _, [], _, h => by simp [flOk] at h
  | .keep :: _, .absent :: _, _, h => by simp [flOk] at h
  | .keep :: _, .obj _ :: _, _, h => by simp [flOk] at h
  | .keep :: _, .opq :: _, [], h => by simp [flOk] at h
  | .drop :: _, [], _, h => by simp [flOk] at h
  | .drop :: _, _ :: _, [], h => by simp [flOk] at h

theorem dim_there (e : HE) : e.dim.there = e.there := by cases e <;> rfl
theorem dim_noobj {e : HE} {o : SO} : e.dim ≠ .obj o := by cases e <;> simp [HE.dim]

set_option maxHeartbeats 2000000 in
/-- The small heap, seen in the great one. -/
theorem frame_sat {E : Env} {ρ ρc : Nat → Nat × Nat} {H Hs Hn : List HE} {w w' : World} {σs : List Nat} {T : List (Nat × SV)} {a : Act} {fs : List Fl}
    (hs : Sat E ρ T H a w) (hlen : σs.length = Hs.length) (hnd : nodupN σs = true) (hold : ∀ h, h < σs.length → sig σs H.length h < H.length)
    (hsub : ∀ (h : Nat) (o : SO), Hs[h]? = some (.obj o) → ∃ u, H[sig σs H.length h]? = some (.obj u) ∧ u.owned = o.owned)
    (hsth : ∀ h, there Hs h = true → there H (sig σs H.length h) = true)
    (hc : HSat w (Own (fun x => ρ (sig σs H.length x)) Hs) ρc Hn w')
    (hbase : ∀ h, there Hs h = true → ρc h = ρ (sig σs H.length h) ∧ there Hn h = true) (hfl : flOk fs Hs Hn) :
    ∃ ρ', HSat E.w0 E.bs ρ' (mergeB (sig σs H.length) σs fs H Hn) w' ∧ (∀ x, there H x = true → ρ x = ρ' x) ∧ (∀ x, there H x = true → there (mergeB (sig σs H.length) σs fs H Hn) x = true) ∧
      (∀ h, there Hn h = true → ρ' (sig σs H.length h) = ρc h ∧ there (mergeB (sig σs H.length) σs fs H Hn) (sig σs H.length h) = true) := by
  generalize hσ : sig σs H.length = σ at *
  have hσlt : ∀ h, h < σs.length → σs[h]? = some (σ h) := fun h hh => by rw [← hσ]; exact sig_lt hh
  have hσge : ∀ h, σs.length ≤ h → σ h = H.length + (h - σs.length) := fun h hh => by rw [← hσ]; exact sig_ge hh
  obtain ⟨hl1, hl2⟩ := flOk_len hfl
  have hfs : fs.length = σs.length := by omega
  have hnlen : σs.length ≤ Hn.length := by omega
  have hff : ∀ h, h < σs.length → ∃ f c e, fs[h]? = some f ∧ Hs[h]? = some c ∧ Hn[h]? = some e ∧ match f with | .new => ∃ o, c = .obj o | .keep => c = .opq | .drop => (e.there = true → c.there = true) := fun h hh => by
    have hf : fs[h]? = some (fs[h]'(by omega)) := List.getElem?_eq_getElem _
    obtain ⟨c, e, h1, h2, h3⟩ := flOk_get hfl hf
    exact ⟨_, c, e, hf, h1, h2, h3⟩
  let M := mergeB σ σs fs H Hn
  have hM : M = layB σ H σs fs Hn ++ (Hn.drop σs.length).map (HE.ren σ) := by
    show mergeB σ σs fs H Hn = _
    unfold mergeB
    rw [appL_eq, renL_eq, dropL_eq]
  have hMlt : ∀ x, x < H.length → M[x]? = (layB σ H σs fs Hn)[x]? := fun x hx => by
    rw [hM, List.getElem?_append_left (by rw [layB_length]; exact hx)]
  have hMge : ∀ h, σs.length ≤ h → M[σ h]? = (Hn[h]?).map (HE.ren σ) := fun h hh => by
    rw [hM, hσge h hh, List.getElem?_append_right (by rw [layB_length]; omega), layB_length]
    simp only [Nat.add_sub_cancel_left, List.getElem?_map, List.getElem?_drop]
    rw [show σs.length + (h - σs.length) = h from by omega]
  have hMsig : ∀ h f e, h < σs.length → fs[h]? = some f → Hn[h]? = some e → M[σ h]? = match f with | .new => some (e.ren σ) | .keep => H[σ h]? | .drop => H[σ h]?.map HE.dim := fun h f e hh hf he => by
    rw [hMlt _ (hold h hh)]
    exact layB_at σ H σs fs Hn h (σ h) f e hnd (hσlt h hh) hf he (by omega) (hold h hh)
  have hMoth : ∀ x, x < H.length → x ∉ σs → M[x]? = H[x]? := fun x hx hn => by
    rw [hMlt x hx, layB_other σ H σs fs Hn x hn]
  have hMnone : ∀ x e, M[x]? = some e → H.length ≤ x → ∃ h, σs.length ≤ h ∧ x = σ h ∧ ∃ e', Hn[h]? = some e' ∧ e = e'.ren σ := fun x e he hx => by
    refine ⟨σs.length + (x - H.length), by omega, ?_, ?_⟩
    · rw [hσge _ (by omega)]; omega
    · have h1 := hMge (σs.length + (x - H.length)) (by omega)
      rw [hσge _ (by omega)] at h1
      rw [show H.length + (σs.length + (x - H.length) - σs.length) = x from by omega, he] at h1
      cases hx' : Hn[σs.length + (x - H.length)]? with
      | none => rw [hx'] at h1; simp at h1
      | some e' => rw [hx'] at h1; simp at h1; exact ⟨e', rfl, h1⟩
  have hinj : ∀ g h, g < σs.length → h < σs.length → σ g = σ h → g = h := fun g h h1 h2 e => by
    have e1 := hσlt g h1
    have e2 := hσlt h h2
    rw [e] at e1
    exact nodupN_get hnd e1 e2
  let ρ' : Nat → Nat × Nat := fun x => if x < H.length then ρ x else ρc (x - H.length + σs.length)
  have hthS : ∀ h, h < σs.length → there Hn h = true → there Hs h = true := fun h hl hh => by
    obtain ⟨f, c, e, _, h1, h2, h3⟩ := hff h hl
    have he : e.there = true := by unfold there at hh; rw [h2] at hh; exact hh
    have : c.there = true := by
      cases f
      · obtain ⟨o, rfl⟩ := h3; rfl
      · simp only at h3; subst h3; rfl
      · exact h3 he
    unfold there; rw [h1]; exact this
  have hρ'σ : ∀ h, there Hn h = true → ρ' (σ h) = ρc h := fun h hh => by
    rcases Nat.lt_or_ge h σs.length with hl | hl
    · have := (hbase h (hthS h hl hh)).1
      simp only [ρ']
      rw [if_pos (hold h hl), this]
    · simp only [ρ']
      rw [hσge h hl, if_neg (by omega)]
      congr 1; omega
  have hρ'H : ∀ x, there H x = true → ρ x = ρ' x := fun x hx => by
    simp only [ρ']; rw [if_pos (there_lt hx)]
  have hthM : ∀ h, h < σs.length → there H (σ h) = true → there M (σ h) = true := fun h hl hh => by
    obtain ⟨f, c, e, hf, h1, h2, h3⟩ := hff h hl
    have hm := hMsig h f e hl hf h2
    unfold there at hh ⊢
    rw [hm]
    cases f
    · obtain ⟨o, rfl⟩ := h3
      have := (hbase h (there_of_obj h1)).2
      unfold there at this
      rw [h2] at this
      cases e <;> simp_all [HE.ren, HE.there]
    · exact hh
    · simp only
      cases hx : H[σ h]? with
      | none => rw [hx] at hh; simp at hh
      | some u => rw [hx] at hh; simpa [dim_there] using hh
  have hthN : ∀ h, there Hn h = true → there M (σ h) = true := fun h hh => by
    rcases Nat.lt_or_ge h σs.length with hl | hl
    · exact hthM h hl (hsth h (hthS h hl hh))
    · unfold there at hh ⊢
      rw [hMge h hl]
      cases he : Hn[h]? with
      | none => rw [he] at hh; simp at hh
      | some e => rw [he] at hh; cases e <;> simp_all [HE.ren, HE.there]
  have hthH : ∀ x, there H x = true → there M x = true := fun x hx => by
    by_cases hm : x ∈ σs
    · obtain ⟨h, hh⟩ := List.getElem?_of_mem hm
      have hl : h < σs.length := by
        rcases Nat.lt_or_ge h σs.length with h1 | h1
        · exact h1
        · rw [List.getElem?_eq_none h1] at hh; simp at hh
      have e := hσlt h hl
      rw [hh] at e; simp at e
      subst e
      exact hthM h hl hx
    · have := hMoth x (there_lt hx) hm
      unfold there at *
      rw [this]; exact hx
  -- each handle of M that is known is the great heap's own (and not the small one's), or the small one's
  let Mine : Nat → Prop := fun x => ∀ g, g < σs.length → (∃ o, Hs[g]? = some (HE.obj o)) → x ≠ σ g
  have hcase : ∀ x o, M[x]? = some (HE.obj o) → (H[x]? = some (.obj o) ∧ Mine x) ∨ ∃ h o', x = σ h ∧ Hn[h]? = some (HE.obj o') ∧ o = o'.ren σ ∧ (h < σs.length → ∃ c, Hs[h]? = some (HE.obj c)) := fun x o he => by
    rcases Nat.lt_or_ge x H.length with hx | hx
    · by_cases hm : x ∈ σs
      · obtain ⟨h, hh⟩ := List.getElem?_of_mem hm
        have hl : h < σs.length := by
          rcases Nat.lt_or_ge h σs.length with h1 | h1
          · exact h1
          · rw [List.getElem?_eq_none h1] at hh; simp at hh
        have e1 := hσlt h hl
        rw [hh] at e1; simp at e1
        subst e1
        obtain ⟨f, c, e, hf, h1, h2, h3⟩ := hff h hl
        have hm' := hMsig h f e hl hf h2
        rw [he] at hm'
        cases f
        · right
          simp only at hm'
          obtain ⟨oc, rfl⟩ := h3
          cases e with
          | absent => simp [HE.ren] at hm'
          | opq => simp [HE.ren] at hm'
          | obj o' => simp [HE.ren] at hm'; exact ⟨h, o', rfl, h2, hm', fun _ => ⟨oc, h1⟩⟩
        · left
          refine ⟨hm'.symm, fun g hg hog e4 => ?_⟩
          have := hinj g h hg hl e4.symm
          subst this
          obtain ⟨o4, ho4⟩ := hog
          simp only at h3; subst h3
          rw [h1] at ho4; simp at ho4
        · simp only at hm'
          cases hu : H[σ h]? with
          | none => rw [hu] at hm'; simp at hm'
          | some u => rw [hu] at hm'; simp at hm'; exact absurd hm'.symm dim_noobj
      · left
        refine ⟨by rw [← hMoth x hx hm]; exact he, fun g hg _ e4 => hm ?_⟩
        rw [e4]; exact List.mem_of_getElem? (hσlt g hg)
    · right
      obtain ⟨h, h0, h2, e', h3, h4⟩ := hMnone x _ he hx
      cases e' with
      | absent => simp [HE.ren] at h4
      | opq => simp [HE.ren] at h4
      | obj o' => simp [HE.ren] at h4; exact ⟨h, o', h2, h3, h4, fun hl => absurd hl (by omega)⟩
  have hnotown : ∀ (x : Nat) (ox : SO), H[x]? = some (HE.obj ox) → Mine x → ¬ Own (fun x => ρ (σ x)) Hs (ρ x).1 := fun x ox hx hm ⟨h, o, h1, _, h3⟩ => by
    have hl : h < σs.length := by have := there_lt (there_of_obj h1); omega
    obtain ⟨u, hu, _⟩ := hsub h o h1
    have := hs.hs.inj _ _ _ _ hu hx h3
    exact hm h hl ⟨o, h1⟩ this.symm
  have hsame : ∀ (x : Nat) (ox : SO), H[x]? = some (HE.obj ox) → Mine x → w'.heap[(ρ x).1]? = w.heap[(ρ x).1]? := fun x ox hx hm =>
    hc.fr.same _ (hs.hs.size x (there_of_obj hx)) (hnotown x ox hx hm)
  have hfresh : ∀ (h : Nat) (o : SO), σs.length ≤ h → Hn[h]? = some (HE.obj o) → w.heap.size ≤ (ρc h).1 ∨ ∃ g og, Hs[g]? = some (HE.obj og) ∧ (ρ (σ g)).1 = (ρc h).1 := fun h o hh hob => by
    have hget : (Hn.drop Hs.length)[h - Hs.length]? = some (HE.obj o) := by
      rw [List.getElem?_drop, show Hs.length + (h - Hs.length) = h from by omega]; exact hob
    have h2 := okNews_get (flOk_news hfl) hget
    rcases hc.own h o hob h2 with ⟨g, og, g1, g2, g3⟩ | h3
    · exact .inr ⟨g, og, g1, g3⟩
    · exact .inl h3
  refine ⟨ρ', ⟨?_, ?_, ?_, ?_, ?_⟩, hρ'H, hthH, fun h hh => ⟨hρ'σ h hh, hthN h hh⟩⟩
  · intro x o ho
    rcases hcase x _ ho with ⟨hH, hm⟩ | ⟨h, on, hxe, hn, he, _⟩
    · obtain ⟨h1, h2⟩ := hs.hs.objs x o hH
      refine ⟨?_, SO.okh_mono hthH _ h2⟩
      have h3 := SO.holds_congr hρ'H o h2 h1
      rw [← hρ'H x (there_of_obj hH)]
      exact SO.holds_world (hsame x _ hH hm) _ h3
    · subst he
      obtain ⟨h1, h2⟩ := hc.objs h on hn
      subst hxe
      refine ⟨?_, ?_⟩
      · rw [SO.holds_ren, hρ'σ h (there_of_obj hn)]
        exact SO.holds_congr (fun y hy => (hρ'σ y hy).symm) on h2 h1
      · have : (on.ren σ).okh (there M) = on.okh (fun y => there M (σ y)) := by
          cases on <;> simp [SO.ren, SO.okh, okhs_rens]
        rw [this]
        exact SO.okh_mono hthN on h2
  · intro x hx
    rcases Nat.lt_or_ge x H.length with hxl | hxl
    · -- the handle is one of the great heap's
      by_cases hH : there H x = true
      · rw [← hρ'H x hH]
        have := hs.hs.size x hH
        have := hc.fr.size
        omega
      · exfalso
        have hx' : there M x = true := hx
        by_cases hm : x ∈ σs
        · obtain ⟨h, hh⟩ := List.getElem?_of_mem hm
          have hl : h < σs.length := by
            rcases Nat.lt_or_ge h σs.length with h1 | h1
            · exact h1
            · rw [List.getElem?_eq_none h1] at hh; simp at hh
          have e1 := hσlt h hl
          rw [hh] at e1; simp at e1
          subst e1
          obtain ⟨f, c, e, hf, h1, h2, h3⟩ := hff h hl
          have hm' := hMsig h f e hl hf h2
          unfold there at hx' hH
          rw [hm'] at hx'
          cases f
          · obtain ⟨oc, rfl⟩ := h3
            exact hH (hsth h (there_of_obj h1))
          · exact hH hx'
          · simp only at hx'
            cases hu : H[σ h]? with
            | none => rw [hu] at hx'; simp at hx'
            | some u => rw [hu] at hx' hH; simp [dim_there] at hx'; simp [hx'] at hH
        · have := hMoth x hxl hm
          unfold there at hx' hH
          rw [this] at hx'
          exact hH hx'
    · have hx' : there M x = true := hx
      unfold there at hx'
      cases he : M[x]? with
      | none => rw [he] at hx'; simp at hx'
      | some e =>
        rw [he] at hx'
        obtain ⟨h, h0, h2, e', h3, h4⟩ := hMnone x e he hxl
        have hth : there Hn h = true := by unfold there; rw [h3]; rw [h4] at hx'; cases e' <;> simp_all [HE.ren, HE.there]
        rw [h2, hρ'σ h hth]
        exact hc.size h hth
  · have mix : ∀ (x h : Nat) (ox o : SO), H[x]? = some (HE.obj ox) → Mine x → Hn[h]? = some (HE.obj o) → (h < σs.length → ∃ c, Hs[h]? = some (HE.obj c)) → (ρ x).1 = (ρc h).1 → False := fun x h ox o hx hm hh hcc e => by
      rcases Nat.lt_or_ge h σs.length with hl | hl
      · obtain ⟨c, hc1⟩ := hcc hl
        obtain ⟨u, hu, _⟩ := hsub h c hc1
        rw [(hbase h (there_of_obj hc1)).1] at e
        exact hm h hl ⟨c, hc1⟩ (hs.hs.inj _ _ _ _ hx hu e)
      · have hsz := hs.hs.size x (there_of_obj hx)
        rcases hfresh h o hl hh with h1 | ⟨g, og, g1, g2⟩
        · omega
        · obtain ⟨u, hu, _⟩ := hsub g og g1
          exact hm g (by have := there_lt (there_of_obj g1); omega) ⟨og, g1⟩ (hs.hs.inj _ _ _ _ hx hu (by rw [e, g2]))
    intro x y ox oy hx hy e
    rcases hcase x ox hx with ⟨hx1, hx2⟩ | ⟨h, o1, hxe, hh, _, hhc⟩ <;> rcases hcase y oy hy with ⟨hy1, hy2⟩ | ⟨g, o2, hye, hg, _, hgc⟩
    · rw [← hρ'H x (there_of_obj hx1), ← hρ'H y (there_of_obj hy1)] at e; exact hs.hs.inj x y _ _ hx1 hy1 e
    · rw [← hρ'H x (there_of_obj hx1), hye, hρ'σ g (there_of_obj hg)] at e; exact (mix x g _ _ hx1 hx2 hg hgc e).elim
    · rw [← hρ'H y (there_of_obj hy1), hxe, hρ'σ h (there_of_obj hh)] at e; exact (mix y h _ _ hy1 hy2 hh hhc e.symm).elim
    · rw [hxe, hye, hρ'σ h (there_of_obj hh), hρ'σ g (there_of_obj hg)] at e
      rw [hxe, hye, hc.inj h g _ _ hh hg e]
  · intro x o ho hoo
    rcases hcase x _ ho with ⟨hH, hm⟩ | ⟨h, on, hxe, hn, he, _⟩
    · rw [← hρ'H x (there_of_obj hH)]; exact hs.hs.own x o hH hoo
    · subst he
      rw [SO.owned_ren] at hoo
      rw [hxe, hρ'σ h (there_of_obj hn)]
      rcases hc.own h on hn hoo with ⟨g, og, g1, g2, g3⟩ | h3
      · obtain ⟨u, hu, huo⟩ := hsub g og g1
        have := hs.hs.own _ _ hu (by rw [huo]; exact g2)
        simp only at g3
        rw [g3] at this; exact this
      · right; have := hs.hs.fr.size; omega
  · refine ⟨by have := hs.hs.fr.size; have := hc.fr.size; omega, fun b hb hnb => ?_, hc.fr.io.1.trans hs.hs.fr.io.1, hc.fr.io.2.1.trans hs.hs.fr.io.2.1, hc.fr.io.2.2.trans hs.hs.fr.io.2.2⟩
    rw [hc.fr.same b (by have := hs.hs.fr.size; omega) ?_]
    · exact hs.hs.fr.same b hb hnb
    · rintro ⟨g, og, g1, g2, g3⟩
      obtain ⟨u, hu, huo⟩ := hsub g og g1
      rcases hs.hs.own _ _ hu (by rw [huo]; exact g2) with h1 | h1
      · simp only at g3; rw [g3] at h1; exact hnb h1
      · simp only at g3; rw [g3] at h1; omega






def allLt (H : List HE) : List Nat → Prop
  | [] => True
  | s :: r => (∃ e, H[s]? = some e) ∧ allLt H r
theorem allLt_get {H : List HE} : ∀ {l : List Nat}, allLt H l → ∀ {i s : Nat}, l[i]? = some s → s < H.length
  | [], _, i, s, h => by simp at h
  | t :: r, hl, 0, s, h => by
    simp at h; subst h
    obtain ⟨e, he⟩ := hl.1
    rcases Nat.lt_or_ge t H.length with h1 | h1
    · exact h1
    · rw [List.getElem?_eq_none h1] at he; simp at he
  | t :: r, hl, i + 1, s, h => allLt_get hl.2 (i := i) (by simpa using h)


section
variable {P : Program} {X : Tabs} (hX : TOk P X)
variable {R : SV → List HE → Prop} {fn : Func} {nt : Nat} {H0 : List HE} {k : List KI} {T : List (Nat × SV)} {H : List HE} {cs : List Ch} {I : Act → World → Prop}


end
end Go.Hx

/-
  Other names, of which some are of one thing; a value that is forgotten.
-/
namespace Go.Hx
open Go





/-- Cell j of object i. -/
def setC (l : List SV) : Nat → SV → List SV := fun j v => match l, j with
  | [], _ => []
  | _ :: r, 0 => v :: r
  | x :: r, j + 1 => x :: setC r j v
theorem setC_trs {ρ : Nat → Nat × Nat} {v : SV} : ∀ {l : List SV} {j : Nat} {u : SV}, l[j]? = some u → v.tr ρ = u.tr ρ → SV.trs ρ (setC l j v) = SV.trs ρ l
  | [], _, _, h, _ => by simp at h
  | x :: r, 0, u, h, e => by simp at h; subst h; simp [setC, SV.trs, e]
  | x :: r, j + 1, u, h, e => by simp [setC, SV.trs, setC_trs (l := r) (j := j) (by simpa using h) e]
theorem setC_okhs {A : Nat → Bool} {v : SV} (hv : v.okh A = true) : ∀ {l : List SV} {j : Nat}, SV.okhs A l = true → SV.okhs A (setC l j v) = true
  | [], _, _ => by simp [setC, SV.okhs]
  | x :: r, 0, h => by simp [SV.okhs] at h; simp [setC, SV.okhs, hv, h.2]
  | x :: r, j + 1, h => by simp [SV.okhs] at h; simp [setC, SV.okhs, h.1, setC_okhs hv h.2]

section
variable {P : Program} {X : Tabs} (hX : TOk P X)
variable {R : SV → List HE → Prop} {fn : Func} {nt : Nat} {H0 : List HE} {k : List KI} {T : List (Nat × SV)} {H : List HE} {cs : List Ch}

/-- A cell's value is forgotten: it is some one. -/
theorem ss_raw {ρ0 : Nat → Nat × Nat} {w0 : World} (i j : Nat) {l : List SV} {ty : TypeId} {u : SV} (hi : getH H i = some (.cells l ty)) (hj : nthF l j = some u)
    (h : ∀ v, SS hX (At ρ0 w0) R ⟨cs, [], fn, nt, H0, k, T, setN H i (.obj (.cells (setC l j (.raw v)) ty))⟩) : SS hX (At ρ0 w0) R ⟨cs, [], fn, nt, H0, k, T, H⟩ := by
  refine ss_sw hX fun ρ a w hs => ?_
  have hj' : l[j]? = some u := by rw [← nthF_eq]; exact hj
  have hi' := getH_some.1 hi
  have hlt : i < H.length := there_lt (there_of_obj hi')
  refine sw_ss hX (h (u.tr ρ)) ρ a w ?_
  rw [setN_eq]
  have hth : ∀ x, there (H.set i (.obj (.cells (setC l j (.raw (u.tr ρ))) ty))) x = there H x := fun x => by
    unfold there
    rw [List.getElem?_set]
    split
    · rename_i e; subst e; rw [hi']; first | rfl | (rw [if_pos hlt]; rfl)
    · rfl
  have hthf : there (H.set i (.obj (.cells (setC l j (.raw (u.tr ρ))) ty))) = there H := funext hth
  have hgo : ∀ (x : Nat) (o : SO), (H.set i (.obj (.cells (setC l j (.raw (u.tr ρ))) ty)))[x]? = some (HE.obj o) → ∃ o' : SO, H[x]? = some (HE.obj o') ∧ (o.owned = o'.owned) ∧ (o'.holds ρ w (ρ x) → o.holds ρ w (ρ x)) ∧ (o'.okh (there H) = true → o.okh (there H) = true) := fun x o ho => by
    rw [List.getElem?_set] at ho
    split at ho
    · rename_i e; subst e
      (try rw [if_pos hlt] at ho)
      simp at ho; (try subst ho)
      refine ⟨_, hi', rfl, fun hh => ?_, fun hh => setC_okhs rfl hh⟩
      simp only [SO.holds] at hh ⊢
      rw [setC_trs hj' (v := .raw (u.tr ρ)) rfl]
      exact hh
    · exact ⟨o, ho, rfl, id, id⟩
  refine ⟨⟨?_, ?_, ?_, ?_, hs.hs.fr⟩, ?_, ?_⟩
  · intro x o ho
    obtain ⟨o', h1, h2, h3, h4⟩ := hgo x o ho
    obtain ⟨q1, q2⟩ := hs.hs.objs x o' h1
    rw [hthf]
    exact ⟨h3 q1, h4 q2⟩
  · intro x hx; rw [hth] at hx; exact hs.hs.size x hx
  · intro x y o o' hx hy e
    obtain ⟨p, h1, _⟩ := hgo x o hx
    obtain ⟨q, h2, _⟩ := hgo y o' hy
    exact hs.hs.inj x y p q h1 h2 e
  · intro x o ho hoo
    obtain ⟨p, h1, h2, _⟩ := hgo x o ho
    exact hs.hs.own x p h1 (by rw [← h2]; exact hoo)
  · rw [hthf]; exact hs.ts
  · intro x hx
    rw [hth]
    exact hs.base x hx
end
end Go.Hx

/-
  A call in a world where a variable's cell is known.
-/
namespace Go.Hx
open Go Go.RowKit Go.ChangeShapes Go.WideShapes

/-- The cell of a variable. -/
abbrev pinE (v : Value) : HE := .obj (.pin 0 v)
theorem pin_lt {w : World} {v : Value} (hp : w.cell? ⟨0, 0, none⟩ = some v) : 0 < w.heap.size := by
  rcases Nat.eq_zero_or_pos w.heap.size with h0 | h
  · simp [World.cell?, h0] at hp
  · exact h
theorem hsat_pin {w : World} {v : Value} (hp : w.cell? ⟨0, 0, none⟩ = some v) : HSat w (Own (fun _ => (0, 0)) [pinE v]) (fun _ => (0, 0)) [pinE v] w := by
  refine ⟨?_, fun _ _ => pin_lt hp, ?_, ?_, Fr.refl _ _⟩
  · intro h u hu
    cases h with
    | zero => simp at hu; subst hu; exact ⟨⟨rfl, hp⟩, rfl⟩
    | succ h => simp at hu
  · intro h h' o o' hh hh' _
    have := there_lt (there_of_obj hh)
    have := there_lt (there_of_obj hh')
    simp at *
    omega
  · intro h u hu ho
    cases h with
    | zero => simp at hu; subst hu; simp [SO.owned] at ho
    | succ h => simp at hu

/-- Something that is not owned, and the cell. -/
theorem hsat_two {w : World} {v : Value} {o : SO} {p : Nat × Nat} (hp : w.cell? ⟨0, 0, none⟩ = some v) (ho : o.owned = false) (hk : o.okh (fun _ => false) = true)
    (hs : HSat w (Own (fun _ => p) [.obj o]) (fun _ => p) [.obj o] w) (hne : p.1 ≠ 0) :
    HSat w (Own (fun h => if h = 0 then p else (0, 0)) [.obj o, pinE v]) (fun h => if h = 0 then p else (0, 0)) [.obj o, pinE v] w := by
  have h0 := (hs.objs 0 o rfl).1
  have h0s : p.1 < w.heap.size := hs.size 0 rfl
  refine ⟨?_, fun h _ => ?_, ?_, ?_, Fr.refl _ _⟩
  · intro h u hu
    rcases h with _ | _ | h
    · simp at hu; subst hu
      refine ⟨?_, SO.okh_mono (A := fun _ => false) (fun x hx => by simp at hx) o hk⟩
      exact SO.holds_congr (A := fun _ => false) (fun x hx => by simp at hx) o hk h0
    · simp at hu; subst hu; exact ⟨⟨rfl, hp⟩, rfl⟩
    · simp at hu
  · show (if h = 0 then p else (0, 0)).1 < _; split
    · exact h0s
    · exact pin_lt hp
  · intro h h' o o' hh hh' e
    rcases h with _ | _ | h <;> rcases h' with _ | _ | h' <;> simp at * <;> omega
  · intro h u hu hoo
    rcases h with _ | _ | h
    · simp at hu; subst hu; rw [ho] at hoo; simp at hoo
    · simp at hu; subst hu; simp [SO.owned] at hoo
    · simp at hu

theorem okhs_none (A : Nat → Bool) (l : List SV) (hl : SV.okhs (fun _ => false) l = true) : SV.okhs A l = true := by
  rw [okhs_iff] at hl ⊢
  exact fun v hv => okh_mono (A := fun _ => false) (fun x hx => by simp at hx) v (hl v hv)


/-- No number, and no bool, lies in the variable's block. -/
theorem pin_ne {w : World} {v : Value} {ty : TypeId} {fr : Nat × Nat} (h0 : w.heap[0]? = some (.cells #[v] ty fr)) (hv : ∃ t u, v = .iface t u) {b o : Nat} {u : Value}
    (hu : w.cell? ⟨b, o, none⟩ = some u) (hni : ∀ t x, u ≠ .iface t x) : b ≠ 0 := by
  rintro rfl
  obtain ⟨t, x, rfl⟩ := hv
  simp only [World.cell?, h0] at hu
  rcases o with _ | o
  · simp at hu; exact hni t x hu.symm
  · simp at hu
theorem pin_cell {w : World} {v : Value} {ty : TypeId} {fr : Nat × Nat} (h0 : w.heap[0]? = some (.cells #[v] ty fr)) : w.cell? ⟨0, 0, none⟩ = some v := by
  simp [World.cell?, h0]
theorem okK_first : ∀ {ks : List (Option IntKind)} {l : List SV}, okK ks l → 0 < ks.length → ∃ u, l[0]? = some u ∧ ∀ ρ t x, u.tr ρ ≠ .iface t x
  | [], _, _, h => by simp at h
  | some k :: ks, l, h, _ => by
    rcases l with _ | ⟨a, l⟩
    · simp [okK] at h
    · simp only [okK] at h
      obtain ⟨⟨n, rfl, _⟩, _⟩ := h
      exact ⟨_, rfl, fun ρ t x => by simp [SV.tr]⟩
  | none :: ks, l, h, _ => by
    rcases l with _ | ⟨a, l⟩
    · simp [okK] at h
    · simp only [okK] at h
      obtain ⟨⟨n, rfl⟩, _⟩ := h
      exact ⟨_, rfl, fun ρ t x => by simp [SV.tr]⟩

theorem own_two {ρ : Nat → Nat × Nat} {o : SO} {v : Value} (h : o.owned = false) : ∀ b, ¬ Own ρ [HE.obj o, pinE v] b :=
  own_none fun i u hu => by
    rcases i with _ | _ | i
    · simp at hu; subst hu; exact h
    · simp at hu; subst hu; rfl
    · simp at hu

/-- One slice of rows. -/
theorem calls_rowsP {P : Program} {f : Nat} {pre post : List SV} {ks : List (Option IntKind)} {w : World} {a : Option Addr} {len cap : Nat} {v : Value} {ty : TypeId} {fr : Nat × Nat}
    (hp : w.heap[0]? = some (.cells #[v] ty fr)) (hv : ∃ t u, v = .iface t u) (hks : 0 < ks.length) (h : ArgRows w ks a len cap)
    (g0 : ∃ L, Gives P f (pre ++ .raw (.slice a 0 0) :: post) [pinE v] (Is .tt L)) (hpre : SV.okhs (fun _ => false) pre = true) (hpost : SV.okhs (fun _ => false) post = true)
    (g1 : ∀ (o : Nat → List SV), (∀ i, okK ks (o i)) → len ≤ maxLen → ∃ L, Gives P f (pre ++ .slice 0 0 len cap :: post) [.obj (.rows len ks.length o), pinE v] (Is .tt L)) :
    Calls P f (SV.trs (fun _ => (0, 0)) pre ++ Value.slice a len cap :: SV.trs (fun _ => (0, 0)) post).toArray w fun e w' => e = .returned (.bool true) ∧ Below w.heap.size w w' := by
  have hc0 := pin_cell hp
  rcases h with ⟨rfl, rfl⟩ | ⟨b, o, g, rfl, hl, h0, hm, hb, hk, hc⟩
  · obtain ⟨L, g0⟩ := g0
    refine calls_true (fun _ => (0, 0)) g0 (hsat_pin hc0) ?_ (own_one rfl) ?_
    · rw [okhs_append, okhs_none _ _ hpre]; simp [SV.okhs, SV.okh, okhs_none _ _ hpost]
    · rw [trs_append]; rfl
  · obtain ⟨L, hg⟩ := g1 g hk (by omega)
    have hne : b ≠ 0 := by
      obtain ⟨u, hu, hni⟩ := okK_first (hk 0) hks
      exact pin_ne hp hv (hc 0 (by omega) (fun _ => (0, 0)) 0 u hu) (hni _)
    refine calls_true (fun h => if h = 0 then (b, o) else (0, 0)) hg (hsat_two hc0 rfl rfl (hsat_rows hb hk fun i hi => hc i (by omega)) hne) ?_ (own_two rfl) ?_
    · rw [okhs_append, okhs_none _ _ hpre]; simp [SV.okhs, SV.okh, okhs_none _ _ hpost, there, HE.there]
    · rw [trs_append, trs_congr (A := fun _ => false) (fun x hx => by simp at hx) pre hpre]
      simp only [SV.trs, SV.tr]
      rw [trs_congr (A := fun _ => false) (fun x hx => by simp at hx) post hpost (ρ := fun h => if h = 0 then (b, o) else (0, 0)) (ρ' := fun _ => (0, 0))]
      rfl

section
variable {P : Program} {H : Type} {enc : TypeId × Value → H} {w : World} {t : TypeId} {d : DataW H} {ps : List MemPlace}
end

end Go.Hx

/-
  What a call of Go's library leaves that sets one cell: in handles.
-/
namespace Go.Hx
open Go Go.RowKit

theorem there_cons {e e' : HE} {R : List HE} (h : e.there = e'.there) : there (e :: R) = there (e' :: R) := by
  funext x
  rcases x with _ | x <;> simp [there, h]
/-- A call that sets the first thing's one cell, and makes new blocks. -/
theorem fnPost_setL {w w1 : World} {ρ : Nat → Nat × Nat} {c n : Int} {E : TypeId} {R : List HE} (hS : HSat w (Own ρ (.obj (.cells [.int .i64 c] E) :: R)) ρ (.obj (.cells [.int .i64 c] E) :: R) w)
    (hb : Below w.heap.size w w1) : FnPost w ρ (.obj (.cells [.int .i64 c] E) :: R) (Is .tt (.obj (.cells [.int .i64 n] E) :: R)) (.returned (.bool true)) (w1.setCell ⟨(ρ 0).1, 0, none⟩ (.int .i64 n)) := by
  obtain ⟨⟨h01, h02⟩, _⟩ := hS.objs 0 _ rfl
  have hlt := hS.size 0 rfl
  have hcell : w1.heap[(ρ 0).1]? = some (.cells #[.int .i64 c] E (0, 0)) := by rw [hb.block _ hlt, h02]; rfl
  have hset := one_setCell (u := .int .i64 n) hcell
  have hoth : ∀ k, k < w.heap.size → k ≠ (ρ 0).1 → (w1.setCell ⟨(ρ 0).1, 0, none⟩ (.int .i64 n)).heap[k]? = w.heap[k]? := fun k hk hn => by
    rw [Below.heap_setCell _ _ _ _ hn, hb.block k hk]
  have hsz : (w1.setCell ⟨(ρ 0).1, 0, none⟩ (.int .i64 n)).heap.size = w1.heap.size := by simp [World.setCell]
  have hth : there (HE.obj (.cells [.int .i64 n] E) :: R) = there (.obj (.cells [.int .i64 c] E) :: R) := there_cons rfl
  refine ⟨ρ, _, .tt, ⟨rfl, rfl⟩, rfl, rfl, ⟨?_, ?_, ?_, ?_, ?_⟩, fun h hh => ⟨rfl, ?_⟩⟩
  · intro h o ho
    rw [hth]
    rcases h with _ | h
    · simp at ho; subst ho
      exact ⟨⟨h01, hset⟩, rfl⟩
    · have ho' : (HE.obj (.cells [.int .i64 c] E) :: R)[h + 1]? = some (.obj o) := by simpa using ho
      obtain ⟨q1, q2⟩ := hS.objs (h + 1) o ho'
      have hne : (ρ (h + 1)).1 ≠ (ρ 0).1 := fun e => by have := hS.inj (h + 1) 0 _ _ ho' rfl e; omega
      exact ⟨SO.holds_world (hoth _ (hS.size _ (there_of_obj ho')) hne) o q1, q2⟩
  · intro h hh
    rw [hth] at hh
    have := hS.size h hh
    rw [hsz]
    exact Nat.lt_of_lt_of_le this hb.size
  · intro h h' o o' hh hh' e
    rcases h with _ | h <;> rcases h' with _ | h'
    · rfl
    · exact hS.inj 0 (h' + 1) _ _ rfl (by simpa using hh') e
    · exact hS.inj (h + 1) 0 _ _ (by simpa using hh) rfl e
    · exact hS.inj (h + 1) (h' + 1) _ _ (by simpa using hh) (by simpa using hh') e
  · intro h o ho hoo
    rcases h with _ | h
    · exact hS.own 0 _ rfl rfl
    · exact hS.own (h + 1) o (by simpa using ho) hoo
  · refine ⟨by rw [hsz]; exact hb.size, fun b hbl hn => ?_, hb.os, hb.tape, hb.output⟩
    refine hoth b hbl fun e => hn ?_
    exact ⟨0, _, rfl, rfl, e.symm⟩
  · rw [hth]; exact hh

/-- A call that leaves all as it was. -/
theorem fnPost_same {w : World} {ρ : Nat → Nat × Nat} {H : List HE} {V : SV} (hS : HSat w (Own ρ H) ρ H w) (hV : V.okh (there H) = true) : FnPost w ρ H (Is V H) (.returned (V.tr ρ)) w :=
  ⟨ρ, H, V, ⟨rfl, rfl⟩, rfl, hV, hS, fun _ hh => ⟨rfl, hh⟩⟩
end Go.Hx

/-
  Things that are there or not, under two names; what is forgotten.
-/
namespace Go.Hx
open Go

section
variable {σ σ' : Nat → Nat} {h h' : Nat} {H : List HE} {i : Nat}
end
end Go.Hx

/-
  Contracts over three objects, in a larger heap; a step of a run over an arena, as a row of the table.
-/
namespace Go.Hx
open Go
section
variable {P : Program} {f : Nat} {ags cargs : List SV} {V : SV} {H : List HE} {o0 o1 o2 p0 p1 p2 : SO} {h0 h1 h2 : Nat} {N : List HE}
theorem frame3 (hT : ∃ TE : Nat → TI, ∀ t, TIok P t (TE t)) (hF : Gives P f cargs [.obj o0, .obj o1, .obj o2] (Is V (.obj p0 :: .obj p1 :: .obj p2 :: N))) (hargs : ags = SV.rens (nm [h0, h1, h2] H) cargs)
    (hcok : SV.okhs (there [.obj o0, .obj o1, .obj o2]) cargs = true) (hokc : okHs (there [.obj o0, .obj o1, .obj o2]) [.obj o0, .obj o1, .obj o2] = true) (hnd : nodupN [h0, h1, h2] = true)
    (g0 : getH H h0 = some (o0.ren (nm [h0, h1, h2] H))) (g1 : getH H h1 = some (o1.ren (nm [h0, h1, h2] H))) (g2 : getH H h2 = some (o2.ren (nm [h0, h1, h2] H))) (hn : newOk N = true) :
    Gives P f ags H (Is (V.ren (nm [h0, h1, h2] H)) (((H.set h0 (.obj (p0.ren (nm [h0, h1, h2] H)))).set h1 (.obj (p1.ren (nm [h0, h1, h2] H)))).set h2 (.obj (p2.ren (nm [h0, h1, h2] H))) ++ N.map (HE.ren (nm [h0, h1, h2] H)))) := by
  have := gives_frame (H := H) hT hF [h0, h1, h2] hargs hcok rfl rfl hokc hnd ⟨g0, g1, g2, trivial⟩ hn
  simpa [merge, setAll, HE.ren] using this
end
end Go.Hx

/-
  A contract over a small heap in which some things are there but not looked at, in a larger heap.
-/
namespace Go.Hx
open Go

theorem gives_frameB {P : Program} {f : Nat} {ags cargs : List SV} {H Hc L : List HE} {V : SV} (hT : ∃ TE : Nat → TI, ∀ t, TIok P t (TE t)) (hF : Gives P f cargs Hc (Is V L)) (σs : List Nat) (fs : List Fl)
    (hargs : ags = SV.rens (sig σs H.length) cargs) (hcok : SV.okhs (there Hc) cargs = true) (hlen : Nat.beq σs.length Hc.length = true) (hnd : nodupN σs = true) (hlt : allLt H σs)
    (hH : subH (sig σs H.length) H 0 Hc) (hok2 : okHP (thereF Hc) Hc) (hfl : flOk fs Hc L) :
    Gives P f ags H (Is (V.ren (sig σs H.length)) (mergeB (sig σs H.length) σs fs H L)) := by
  intro ρ w hS hok
  obtain ⟨TE, hTE⟩ := hT
  have hlen' : σs.length = Hc.length := Nat.eq_of_beq_eq_true hlen
  have hfun : thereF Hc = there Hc := funext (thereF_eq Hc)
  have hok2' := okHP_ok hok2
  rw [hfun] at hok2'
  have hth : ∀ h, there Hc h = true → there H (sig σs H.length h) = true := fun h hh => by
    have := (subH_get hH (h := h)).2 hh
    simpa using this
  have hobj : ∀ {h : Nat} {o : SO}, Hc[h]? = some (.obj o) → ∃ u, H[sig σs H.length h]? = some (.obj u) ∧ simO u (o.ren (sig σs H.length)) := by
    intro h o ho
    have := (subH_get hH (h := h)).1 ho
    simpa using this
  have hSc : HSat w (Own (fun x => ρ (sig σs H.length x)) Hc) (fun x => ρ (sig σs H.length x)) Hc w := by
    refine ⟨?_, fun h hh => hS.size _ (hth h hh), ?_, fun h o ho hoo => .inl ⟨h, o, ho, hoo, rfl⟩, Fr.refl _ _⟩
    · intro h o ho
      obtain ⟨u, hu, hsim⟩ := hobj ho
      exact ⟨(SO.holds_ren o).1 ((simO_holds hsim).1 (hS.objs _ _ hu).1), okHs_get hok2' ho⟩
    · intro h h' o o' hh hh' e
      obtain ⟨u1, hu1, _⟩ := hobj hh
      obtain ⟨u2, hu2, _⟩ := hobj hh'
      have := hS.inj _ _ _ _ hu1 hu2 e
      have l1 : h < σs.length := by rw [hlen']; exact there_lt (there_of_obj hh)
      have l2 : h' < σs.length := by rw [hlen']; exact there_lt (there_of_obj hh')
      have g1 := sig_lt (b := H.length) l1
      have g2 := sig_lt (b := H.length) l2
      rw [this] at g1
      exact nodupN_get hnd g1 g2
  have he : SV.trs ρ ags = SV.trs (fun x => ρ (sig σs H.length x)) cargs := by rw [hargs, trs_rens]
  rw [he]
  refine Calls.mono (hF (fun x => ρ (sig σs H.length x)) w hSc hcok) fun e w' he => ?_
  cases e with
  | panicked c => exact he
  | outgrown => exact he
  | returned V' =>
    obtain ⟨ρc, Hn, v, ⟨rfl, rfl⟩, rfl, hvok, hSn, hb⟩ := he
    have hs : Sat (E := ⟨P, TE, 0, fun _ _ _ => True, w, Own ρ H, H, ρ, hTE⟩) ρ [] H ⟨#[], []⟩ w := ⟨hS, ⟨fun t v h => by simp [look] at h, rfl, rfl⟩, fun h hh => ⟨rfl, hh⟩⟩
    obtain ⟨ρ', m1, m2, m3, m4⟩ := frame_sat hs hlen' hnd (fun h hh => allLt_get hlt (sig_lt hh)) (fun h o ho => by
        obtain ⟨u, hu, hsim⟩ := hobj ho
        refine ⟨u, hu, ?_⟩
        rw [(simO_holds (ρ := ρ) (w := w) (p := (0, 0)) hsim).2, SO.owned_ren]) hth hSn (fun h hh => ⟨(hb h hh).1, (hb h hh).2⟩) hfl
    refine ⟨ρ', _, _, ⟨rfl, rfl⟩, ?_, ?_, m1, fun h hh => ⟨(m2 h hh).symm, m3 h hh⟩⟩
    · rw [tr_ren]
      exact (tr_congr (fun h hh => (m4 h hh).1) v hvok).symm
    · rw [okh_ren]
      exact okh_mono (fun h hh => (m4 h hh).2) v hvok
end Go.Hx

/-
  Regions that draw, where several cells are made without order against a call that needs no cell.
-/
namespace Go.Hx
open Go

theorem HSat.room {w0 w : World} {bs : Nat → Prop} {ρ : Nat → Nat × Nat} {H : List HE} (hS : HSat w0 bs ρ H w) :
    HSat w0 bs ρ (H ++ [.absent]) w ∧ ∀ x, there (H ++ [.absent]) x = there H x := by
  have hth : ∀ x, there (H ++ [.absent]) x = there H x := by
    intro x
    unfold there
    rw [List.getElem?_append]
    split
    · rfl
    · rename_i h
      rw [List.getElem?_eq_none (by omega : H.length ≤ x)]
      cases h2 : ([HE.absent] : List HE)[x - H.length]? with
      | none => rfl
      | some e =>
        have := List.mem_of_getElem? h2
        simp at this; subst this; rfl
  have hobj : ∀ (x : Nat) (ox : SO), (H ++ [HE.absent])[x]? = some (HE.obj ox) → H[x]? = some (HE.obj ox) := by
    intro x ox hx
    rw [List.getElem?_append] at hx
    split at hx
    · exact hx
    · have := List.mem_of_getElem? hx
      simp at this
  have hfun : there (H ++ [.absent]) = there H := funext hth
  refine ⟨⟨fun x ox hx => ?_, fun x hx => hS.size x (by rw [← hth]; exact hx), fun x y ox oy hx hy e => hS.inj x y ox oy (hobj x ox hx) (hobj y oy hy) e, fun x ox hx ho => hS.own x ox (hobj x ox hx) ho, hS.fr⟩, hth⟩
  rw [hfun]; exact hS.objs x ox (hobj x ox hx)

theorem HSat.fill {w0 w : World} {bs : Nat → Prop} {ρ : Nat → Nat × Nat} {H : List HE} {o : SO} {ob : Obj} {n : Nat} (hS : HSat w0 bs ρ H w) (hn : H[n]? = some .absent)
    (hok : o.okh (there H) = true) (hh : o.holds ρ (w.alloc ob) (w.heap.size, 0)) :
    HSat w0 bs (upd ρ n (w.heap.size, 0)) (H.set n (.obj o)) (w.alloc ob) ∧ (∀ x, there H x = true → ρ x = upd ρ n (w.heap.size, 0) x) ∧ (∀ x, there H x = true → there (H.set n (.obj o)) x = true) ∧ there (H.set n (.obj o)) n = true := by
  have hnt : there H n = false := by simp [there, hn, HE.there]
  have hlt : n < H.length := by
    rcases Nat.lt_or_ge n H.length with h1 | h1
    · exact h1
    · rw [List.getElem?_eq_none h1] at hn; simp at hn
  have hagree : ∀ x, there H x = true → ρ x = upd ρ n (w.heap.size, 0) x := by
    intro x hx
    unfold upd
    rw [if_neg (fun e => by subst e; rw [hnt] at hx; simp at hx)]
  have hmono : ∀ x, there H x = true → there (H.set n (.obj o)) x = true := fun x hx => there_set hx
  have hat : ∀ x, x ≠ n → (H.set n (.obj o))[x]? = H[x]? := by
    intro x hx
    rw [List.getElem?_set, if_neg (fun e => hx e.symm)]
  have hself : (H.set n (.obj o))[n]? = some (.obj o) := by rw [List.getElem?_set]; simp [hlt]
  have hback : ∀ x, there (H.set n (.obj o)) x = true → x ≠ n → there H x = true := by
    intro x hx hne
    unfold there at *
    rw [hat x hne] at hx
    exact hx
  refine ⟨⟨?_, ?_, ?_, ?_, ?_⟩, hagree, hmono, there_of_obj hself⟩
  · intro x ox hx
    by_cases e : x = n
    · subst e
      rw [hself] at hx
      simp at hx
      subst hx
      refine ⟨?_, SO.okh_mono hmono _ hok⟩
      have := SO.holds_congr (w := w.alloc ob) (p := (w.heap.size, 0)) hagree o hok hh
      simpa [upd] using this
    · rw [hat x e] at hx
      obtain ⟨h1, h2⟩ := hS.objs x ox hx
      refine ⟨?_, SO.okh_mono hmono _ h2⟩
      have h3 := SO.holds_congr hagree ox h2 h1
      rw [← hagree x (there_of_obj hx)]
      exact SO.holds_world (heap_alloc_old w ob (hS.size x (there_of_obj hx))) _ h3
  · intro x hx
    by_cases e : x = n
    · subst e; simp [upd]
    · have h1 := hback x hx e
      rw [← hagree x h1]
      have := hS.size x h1
      simp; omega
  · have hobj : ∀ (x : Nat) (ox : SO), (H.set n (HE.obj o))[x]? = some (HE.obj ox) → x ≠ n → H[x]? = some (HE.obj ox) := by
      intro x ox hx hne
      rw [hat x hne] at hx
      exact hx
    intro x y ox oy hx hy e
    by_cases ex : x = n <;> by_cases ey : y = n
    · rw [ex, ey]
    · have h1 := hobj y oy hy ey
      rw [← hagree y (there_of_obj h1), ex] at e
      have := hS.size y (there_of_obj h1)
      simp [upd] at e; omega
    · have h1 := hobj x ox hx ex
      rw [← hagree x (there_of_obj h1), ey] at e
      have := hS.size x (there_of_obj h1)
      simp [upd] at e; omega
    · have h1 := hobj x ox hx ex
      have h2 := hobj y oy hy ey
      rw [← hagree x (there_of_obj h1), ← hagree y (there_of_obj h2)] at e
      exact hS.inj x y _ _ h1 h2 e
  · intro x ox hx hox
    by_cases e : x = n
    · subst e; right; simp [upd]; exact hS.fr.size
    · rw [hat x e] at hx
      rw [← hagree x (there_of_obj hx)]
      exact hS.own x ox hx hox
  · exact (hS.push (o := o) (ob := ob) hok hh).fr


section
variable {E : Env} {al : List Oper} {Tn : List (Nat × SV)} {D : Nat → Bool} {ρ : Nat → Nat × Nat} {H : List HE} {a : Act} {w : World}

/-- All orders, the heap told by what has been done. -/
theorem draw_anyD {k : List KI} {T : List (Nat × SV)} {hp : (Nat → Bool) → List HE} (hreg : regOk al = true) (h0 : hp (fun _ => false) = H)
    (hT : ∀ t v, look Tn t = some v → (∀ (i : Nat) (o : Oper), al[i]? = some o → o.dst ≠ some t) → look T t = some v)
    (hstep : ∀ (D : Nat → Bool) (j : Nat) (o : Oper), Down al D → al[j]? = some o → D j = false → (∀ i, bindsOn o i = true → D i = true) → (∀ i, D i = true → i < al.length) → DStep E al Tn j o (hp D) (hp (fun i => D i || Nat.beq i j)))
    (hk : ∀ D : Nat → Bool, (∀ i, i < al.length → D i = true) → SW E k Tn (hp D)) : ∀ ρ a w, Sat E ρ T H a w → wpAny E.P .any al.toArray (WK E.P E.Q k) al.toArray.size (Array.replicate al.toArray.size false) a { w with drawn := w.drawn + 1 } := by
  intro ρ a w hs
  have hreg' := hreg
  simp only [regOk, Bool.and_eq_true, List.all_eq_true] at hreg'
  have hback : ∀ (j : Nat) (o : Oper), al[j]? = some o → ∀ i, bindsOn o i = true → i < j := by
    intro j o ho i hi
    have hlt : j < al.length := by
      rcases Nat.lt_or_ge j al.length with h1 | h1
      · exact h1
      · rw [List.getElem?_eq_none h1] at ho; simp at ho
    have := hreg'.2 j (List.mem_range.2 hlt)
    rw [ho] at this
    simp only [Bool.and_eq_true, List.all_eq_true] at this
    simp only [bindsOn, List.any_eq_true, Bool.and_eq_true] at hi
    obtain ⟨e, he1, he2, he3⟩ := hi
    have h4 := this.1.1 e he1
    rw [he2] at h4
    have := Nat.eq_of_beq_eq_true he3
    simp at h4
    have h5 : e.on < j := blt_lt (by simpa using h4)
    omega
  -- the walk over all orders
  have key : ∀ (fuel : Nat) (listed : Array Bool) (ρ : Nat → Nat × Nat) (a : Act) (w : World), listed.size = al.length →
      ((List.range al.length).filter fun i => !(listed.getD i true)).length = fuel →
      Down al (fun i => listed.getD i false) → DSat E al Tn (fun i => listed.getD i false) ρ (hp (fun i => listed.getD i false)) a w →
      wpAny E.P .any al.toArray (WK E.P E.Q k) fuel listed a w := by
    intro fuel
    induction fuel with
    | zero =>
      intro listed ρ a w hsz hf hdown hD
      have hall : ∀ i, i < al.length → listed.getD i false = true := by
        intro i hi
        have hnil := List.eq_nil_of_length_eq_zero hf
        rw [List.filter_eq_nil_iff] at hnil
        have := hnil i (List.mem_range.2 hi)
        have hi' : i < listed.size := by omega
        simp [Array.getD, hi'] at this ⊢
        exact this
      refine ⟨?_, hk _ hall ρ a w ⟨hD.hs, ⟨fun t v hv => hD.val t v hv fun i o hi _ => hall i ?_, hD.num, hD.def0⟩, hD.base⟩⟩
      · unfold Region.ready
        rw [List.filter_eq_nil_iff]
        intro i hi
        simp only [List.size_toArray, List.mem_range] at hi
        have := hall i hi
        have hi' : i < listed.size := by omega
        simp [Array.getD, hi'] at this ⊢
        intro h; rw [this] at h; simp at h
      · rcases Nat.lt_or_ge i al.length with h1 | h1
        · exact h1
        · rw [List.getElem?_eq_none h1] at hi; simp at hi
    | succ fuel ih =>
      intro listed ρ a w hsz hf hdown hD
      refine ⟨fun hr => ?_, fun j hj => ?_⟩
      · -- somebody is ready
        exfalso
        have hex : ∃ i, i < al.length ∧ listed.getD i false = false := by
          have : ((List.range al.length).filter fun i => !(listed.getD i true)) ≠ [] := by intro h; rw [h] at hf; simp at hf
          obtain ⟨i, hi⟩ := List.exists_mem_of_ne_nil _ this
          rw [List.mem_filter, List.mem_range] at hi
          refine ⟨i, hi.1, ?_⟩
          have hi' : i < listed.size := by omega
          have := hi.2
          simp [Array.getD, hi'] at this ⊢
          exact this
        have hmin : ∀ n, ∀ i, i = n → i < al.length → listed.getD i false = false → False := by
          intro n
          induction n using Nat.strongRecOn with
          | _ n ihn =>
            intro i hin hi hli
            have hmem : i ∉ Region.ready .any al.toArray listed := by rw [hr]; simp
            unfold Region.ready at hmem
            rw [List.mem_filter] at hmem
            apply hmem
            simp only [List.size_toArray, List.mem_range]
            refine ⟨hi, ?_⟩
            have hi' : i < listed.size := by omega
            have ho : al[i]? = some al[i] := List.getElem?_eq_getElem hi
            simp only [Bool.and_eq_true, Bool.not_eq_true', List.getElem?_toArray, ho, Option.map_some, Option.getD_some, Array.all_eq_true']
            refine ⟨by simp [Array.getD, hi'] at hli ⊢; exact hli, ?_⟩
            intro e he
            by_cases hb : Region.binds .any e = true
            · simp only [hb, Bool.not_true, Bool.false_or]
              have hbo : bindsOn al[i] e.on = true := by
                simp only [bindsOn, List.any_eq_true, Bool.and_eq_true]
                exact ⟨e, by simpa using he, hb, Nat.beq_refl _⟩
              have hlt := hback i _ ho e.on hbo
              cases hle : listed.getD e.on false with
              | true => rfl
              | false => exact (ihn e.on (by omega) e.on rfl (by omega) hle).elim
            · simp only [Bool.not_eq_true] at hb; simp [hb]
        obtain ⟨i, hi1, hi2⟩ := hex
        exact hmin i i rfl hi1 hi2
      · unfold Region.ready at hj
        rw [List.mem_filter] at hj
        simp only [List.size_toArray, List.mem_range] at hj
        obtain ⟨hjn, hjr⟩ := hj
        have hj' : j < listed.size := by omega
        have ho : al[j]? = some al[j] := List.getElem?_eq_getElem hjn
        simp only [Bool.and_eq_true, Bool.not_eq_true', List.getElem?_toArray, ho, Option.map_some, Option.getD_some, Array.all_eq_true'] at hjr
        have hjl : listed.getD j false = false := by have := hjr.1; simp [Array.getD, hj'] at this ⊢; exact this
        have hdeps : ∀ i, bindsOn al[j] i = true → listed.getD i false = true := by
          intro i hi
          simp only [bindsOn, List.any_eq_true, Bool.and_eq_true] at hi
          obtain ⟨e, he1, he2, he3⟩ := hi
          have := hjr.2 e (by simpa using he1)
          rw [he2] at this
          have h3 := Nat.eq_of_beq_eq_true he3
          subst h3
          simpa using this
        have hD' : (fun i => (listed.setIfInBounds j true).getD i false) = fun i => listed.getD i false || Nat.beq i j := by
          funext i
          by_cases e : j = i
          · subst e; simp [Array.getD, hj', Nat.beq_refl]
          · have hb : Nat.beq i j = false := by
              cases h : Nat.beq i j with
              | false => rfl
              | true => exact absurd (Nat.eq_of_beq_eq_true h).symm e
            rw [hb]
            by_cases hi : i < listed.size
            · simp [Array.getD, hi, e]
            · simp [Array.getD, hi]
        have hcount : ((List.range al.length).filter fun i => !((listed.setIfInBounds j true).getD i true)).length = fuel := by
          have h1 : (List.range al.length).filter (fun i => !(listed.getD i true)) = (List.range al.length).filter (fun i => !(listed.getD i true)) := rfl
          have hperm : ∀ l : List Nat, l.Nodup → (∀ i ∈ l, i < al.length) → j ∈ l → (l.filter fun i => !(listed.getD i true)).length = (l.filter fun i => !((listed.setIfInBounds j true).getD i true)).length + 1 := by
            intro l
            induction l with
            | nil => intro _ _ h; simp at h
            | cons x r ihr =>
              intro hnd hlt hmem
              rw [List.nodup_cons] at hnd
              by_cases e : x = j
              · subst e
                have h2 : (!(listed.getD x true)) = true := by simpa using hjr.1
                have h3 : (!((listed.setIfInBounds x true).getD x true)) = false := by simp [Array.getD, hj']
                rw [List.filter_cons, List.filter_cons, h2, h3]
                simp only [if_true, List.length_cons]
                congr 1
                apply congrArg List.length
                apply List.filter_congr
                intro i hi
                have : x ≠ i := by intro e; subst e; exact hnd.1 hi
                by_cases hil : i < listed.size
                · simp [Array.getD, hil, this]
                · simp [Array.getD, hil]
              · have hm' : j ∈ r := by simp at hmem; rcases hmem with h | h; exact absurd h.symm e; exact h
                have ih2 := ihr hnd.2 (fun i hi => hlt i (by simp [hi])) hm'
                have h4 : (!(listed.getD x true)) = (!((listed.setIfInBounds j true).getD x true)) := by
                  have : j ≠ x := fun h => e h.symm
                  by_cases hil : x < listed.size
                  · simp [Array.getD, hil, this]
                  · simp [Array.getD, hil]
                rw [List.filter_cons, List.filter_cons, ← h4]
                split
                · rw [List.length_cons, List.length_cons, ih2]
                · exact ih2
          have := hperm (List.range al.length) List.nodup_range (fun i hi => List.mem_range.1 hi) (List.mem_range.2 hjn)
          omega
        have hdown' : Down al (fun i => (listed.setIfInBounds j true).getD i false) := by
          rw [hD']
          intro i o hi hDi i' hb
          simp only [Bool.or_eq_true] at hDi ⊢
          rcases hDi with h | h
          · exact .inl (hdown i o hi h i' hb)
          · have := Nat.eq_of_beq_eq_true h; subst this
            rw [ho] at hi; simp at hi; subst hi
            exact .inl (hdeps i' hb)
        refine hstep _ j _ hdown ho hjl hdeps (fun i hi => ?_) _ ρ a w _ _ hD hdeps hjl fun ρ' a' w' hD2 => ?_
        · rcases Nat.lt_or_ge i al.length with h1 | h1
          · exact h1
          · have : ¬ i < listed.size := by omega
            simp [Array.getD, this] at hi
        · refine ih _ ρ' a' w' (by simpa using hsz) hcount hdown' ?_
          rw [hD']; exact hD2
  have hz : (fun i => (Array.replicate al.toArray.size false).getD i false) = fun _ => false := by
    funext i
    by_cases h : i < al.length <;> simp [Array.getD, h]
  refine key _ _ ρ a { w with drawn := w.drawn + 1 } (by simp) ?_ ?_ ?_
  · simp only [List.size_toArray]
    have : ((List.range al.length).filter fun i => !((Array.replicate al.length false).getD i true)) = List.range al.length := by
      rw [List.filter_eq_self]
      intro i hi
      have := List.mem_range.1 hi
      simp [Array.getD, this]
    rw [this]; simp
  · intro i o _ hi
    by_cases h : i < al.length <;> simp [Array.getD, h] at hi
  · rw [hz, h0]
    refine ⟨?_, ?_, hs.ts.num, hs.ts.def0, hs.base⟩
    · have h1 := hs.hs
      refine ⟨fun h o ho => ⟨SO.holds_world rfl _ (h1.objs h o ho).1, (h1.objs h o ho).2⟩, h1.size, h1.inj, h1.own, ⟨h1.fr.size, h1.fr.same, h1.fr.io⟩⟩
    · intro t v hv hav
      refine hs.ts.val t v (hT t v hv fun i o hi hd => ?_)
      have := hav i o hi hd
      simp at this
end

/-- An operation that reads, or makes, does so in a heap of more things too. -/
theorem stepV_more {TE : Nat → TI} {T : List (Nat × SV)} {H H' : List HE} {op : Op} {e : Eff} (hm : ∀ h o, getH H h = some o → getH H' h = some o) (he : stepV TE T H op = some e) (hs : ∀ ob h o, e ≠ .set ob h o) : stepV TE T H' op = some e := by
  have hl : ∀ i h o x, vLoad i H h o = some x → vLoad i H' h o = some x := by
    intro i h o x hx
    unfold vLoad at *
    cases hg : getH H h with
    | none => rw [hg] at hx; simp at hx
    | some q => rw [hg] at hx; rw [hm h q hg]; exact hx
  have hlr : ∀ i h o x s c y, vLoadR i H h o x s c = some y → vLoadR i H' h o x s c = some y := by
    intro i h o x s c y hx
    unfold vLoadR at *
    cases hg : getH H h with
    | none =>
      rw [hg] at hx
      have hx : vLoad i H h (o + x * s + c) = some y := hx
      unfold vLoad at hx
      rw [hg] at hx; simp at hx
    | some q =>
      rw [hg] at hx; rw [hm h q hg]
      cases q <;> first | exact hx | exact hl _ _ _ _ hx
  cases op
  case load t x =>
    simp only [stepV] at he ⊢
    split at he
    · exact hl _ _ _ _ he
    · exact hlr _ _ _ _ _ _ _ he
    · simp at he
  case store t x y =>
    exfalso
    simp only [stepV] at he
    have hst : ∀ i h o v x, vStore i H h o v = some x → ∃ ob h o, x = .set ob h o := by
      intro i h o v x hx
      unfold vStore at hx
      repeat' (split at hx)
      all_goals (first | (simp at hx; done) | (simp at hx; exact ⟨_, _, _, hx.symm⟩) | (simp only [vStoreL] at hx; repeat' (split at hx)) | (simp only [vStoreI] at hx; repeat' (split at hx)) | skip)
      all_goals (first | (simp at hx; done) | (simp at hx; exact ⟨_, _, _, hx.symm⟩) | skip)
    split at he
    · obtain ⟨ob, h, o, rfl⟩ := hst _ _ _ _ _ he; exact hs _ _ _ rfl
    · obtain ⟨ob, h, o, rfl⟩ := hst _ _ _ _ _ he; exact hs _ _ _ rfl
    · simp at he
  case slice t x lo hi mx => cases mx <;> exact he
  all_goals exact he

/-- The cells that have been made. -/
def cellsD (D : Nat → Bool) (cells : List (Nat × SO)) : List HE := cells.map fun p => bif D p.1 then .obj p.2 else .absent
def fullC (cells : List (Nat × SO)) : List HE := cells.map fun p => .obj p.2
theorem cellsD_full {D : Nat → Bool} : ∀ {cells : List (Nat × SO)}, (∀ p ∈ cells, D p.1 = true) → cellsD D cells = fullC cells
  | [], _ => rfl
  | p :: r, h => by
    have := cellsD_full (cells := r) (fun q hq => h q (by simp [hq]))
    unfold cellsD fullC at *
    simp [h p (by simp), this]
theorem cellsD_congr {D D' : Nat → Bool} : ∀ {cells : List (Nat × SO)}, (∀ p ∈ cells, D p.1 = D' p.1) → cellsD D cells = cellsD D' cells
  | [], _ => rfl
  | p :: r, h => by
    have := cellsD_congr (cells := r) (fun q hq => h q (by simp [hq]))
    unfold cellsD at *
    simp [h p (by simp), this]
def onceC : List (Nat × SO) → Bool
  | [] => true
  | p :: r => (r.all fun q => !(Nat.beq q.1 p.1)) && onceC r
theorem cellsD_set {D : Nat → Bool} {j : Nat} {o : SO} : ∀ {cells : List (Nat × SO)} {i : Nat}, onceC cells = true → cells[i]? = some (j, o) → (cellsD D cells).set i (.obj o) = cellsD (fun x => D x || Nat.beq x j) cells
  | [], i, _, h => by simp at h
  | p :: r, 0, ho, h => by
    simp at h; subst h
    simp only [onceC, Bool.and_eq_true, List.all_eq_true] at ho
    have hc : cellsD D r = cellsD (fun x => D x || Nat.beq x j) r := cellsD_congr fun q hq => by
      have := ho.1 q hq
      simp only [Bool.not_eq_true'] at this
      simp [this]
    unfold cellsD at *
    simp [hc, Nat.beq_refl]
  | p :: r, i + 1, ho, h => by
    simp only [onceC, Bool.and_eq_true, List.all_eq_true] at ho
    have ih := cellsD_set (cells := r) (i := i) (D := D) (j := j) (o := o) ho.2 (by simpa using h)
    have hm : (j, o) ∈ r := List.mem_of_getElem? (by simpa using h)
    have hb : Nat.beq p.1 j = false := by
      have := ho.1 _ hm
      simp only [Bool.not_eq_true'] at this
      cases hh : Nat.beq p.1 j with
      | false => rfl
      | true => have e := Nat.eq_of_beq_eq_true hh; rw [e, Nat.beq_refl] at this; simp at this
    unfold cellsD at *
    simp [ih, hb]
theorem HSat.rooms {w0 w : World} {bs : Nat → Prop} {ρ : Nat → Nat × Nat} : ∀ (cells : List (Nat × SO)) {H : List HE}, HSat w0 bs ρ H w →
    HSat w0 bs ρ (H ++ cellsD (fun _ => false) cells) w ∧ ∀ x, there (H ++ cellsD (fun _ => false) cells) x = there H x
  | [], H, hS => by simpa [cellsD] using hS
  | p :: r, H, hS => by
    obtain ⟨h1, h2⟩ := hS.room
    obtain ⟨h3, h4⟩ := HSat.rooms r h1
    have e : H ++ cellsD (fun _ => false) (p :: r) = (H ++ [.absent]) ++ cellsD (fun _ => false) r := by simp [cellsD]
    rw [e]
    exact ⟨h3, fun x => by rw [h4, h2]⟩

section
variable {E : Env} {al : List Oper} {Tn : List (Nat × SV)} {D : Nat → Bool} {ρ : Nat → Nat × Nat} {H : List HE} {a : Act} {w : World}
theorem dstep_fillS (hreg : regOk al = true) {j n : Nat} {o : Oper} (hj : al[j]? = some o) (hg : o.guard = none) {o' : SO} {ob : Option Bool} {l c : Nat}
    (he : stepV E.TE Tn H o.op = some (.news ob o' l c)) (hob : ob.getD true = true) (hn : H[n]? = some .absent) (hd : ∀ d, o.dst = some d → look Tn d = some (.slice n 0 l c) ∧ Nat.blt d E.nt = true) : DStep E al Tn j o H (H.set n (.obj o')) := by
  intro D ρ a w K Q hs hD hDj hK
  obtain ⟨hc1, hc2⟩ := hs.ext_cut hreg hj hD
  have hsc : stepV E.TE (cutT Tn (usesT o.op.operands.toList)) H o.op = stepV E.TE Tn H o.op := stepV_congr look_cut_eq
  rw [← hsc] at he
  unfold wpOp
  simp only [List.getElem?_toArray, hj]
  rw [if_pos (by unfold Region.wanted; rw [hg])]
  left
  obtain ⟨h1, h2, ob, h3, h4⟩ := stepV_ok E.hTE hc1.hs hc1.ts he hob
  unfold Oper.wp
  rw [h3, Oper.upon_value]
  obtain ⟨p1, p2, p3, p4⟩ := hs.hs.fill hn (ob := ob) h2 h4
  have := (hs.ext p1 p2 p3).putD hreg hj (v := .slice n 0 l c) (by
    cases hdd : o.dst with
    | none => trivial
    | some d =>
      obtain ⟨g1, g2⟩ := hd d hdd
      exact ⟨⟨_, g1, rfl, by simpa [SV.okh] using p4⟩, blt_lt g2⟩)
  simp only [SV.tr, upd, if_true, Nat.zero_add] at this
  exact hK _ _ _ this
theorem dstep_fillP (hreg : regOk al = true) {j n : Nat} {o : Oper} (hj : al[j]? = some o) (hg : o.guard = none) {o' : SO}
    (he : stepV E.TE Tn H o.op = some (.newp o')) (hn : H[n]? = some .absent) (hd : ∀ d, o.dst = some d → look Tn d = some (.ptr n 0) ∧ Nat.blt d E.nt = true) : DStep E al Tn j o H (H.set n (.obj o')) := by
  intro D ρ a w K Q hs hD hDj hK
  obtain ⟨hc1, hc2⟩ := hs.ext_cut hreg hj hD
  have hsc : stepV E.TE (cutT Tn (usesT o.op.operands.toList)) H o.op = stepV E.TE Tn H o.op := stepV_congr look_cut_eq
  rw [← hsc] at he
  unfold wpOp
  simp only [List.getElem?_toArray, hj]
  rw [if_pos (by unfold Region.wanted; rw [hg])]
  left
  obtain ⟨h1, h2, ob, h3, h4⟩ := stepV_ok E.hTE hc1.hs hc1.ts he
  unfold Oper.wp
  rw [h3, Oper.upon_value]
  obtain ⟨p1, p2, p3, p4⟩ := hs.hs.fill hn (ob := ob) h2 h4
  have := (hs.ext p1 p2 p3).putD hreg hj (v := .ptr n 0) (by
    cases hdd : o.dst with
    | none => trivial
    | some d =>
      obtain ⟨g1, g2⟩ := hd d hdd
      exact ⟨⟨_, g1, rfl, by simpa [SV.okh] using p4⟩, blt_lt g2⟩)
  simp only [SV.tr, upd, if_true, Nat.zero_add] at this
  exact hK _ _ _ this
end

/-- What is neither a cell nor the call. -/
def quietC (TE : Nat → TI) (nt : Nat) (al : List Oper) (Tn : List (Nat × SV)) (H : List HE) (sk : List Nat) : Nat → List Oper → Prop
  | _, [] => True
  | i, o :: r => (match memN i sk with | true => True | false => qProp TE nt al Tn H o) ∧ quietC TE nt al Tn H sk (i + 1) r
theorem quietC_get {TE : Nat → TI} {nt : Nat} {al : List Oper} {Tn : List (Nat × SV)} {H : List HE} {sk : List Nat} : ∀ {l : List Oper} {i : Nat}, quietC TE nt al Tn H sk i l → ∀ {j : Nat} {o : Oper}, l[j]? = some o → memN (i + j) sk = false → qProp TE nt al Tn H o
  | [], i, _, j, o, h, _ => by simp at h
  | x :: r, i, hq, 0, o, h, hm => by
    simp at h; subst h
    have := hq.1
    rw [show i + 0 = i from rfl] at hm
    rw [hm] at this
    exact this
  | x :: r, i, hq, j + 1, o, h, hm => quietC_get hq.2 (j := j) (by simpa using h) (by rw [show i + 1 + j = i + (j + 1) from by omega]; exact hm)
def cellC (TE : Nat → TI) (nt : Nat) (Tn : List (Nat × SV)) (n : Nat) (o : Oper) (o' : SO) : Prop := o.guard = none ∧ match o.dst, stepV TE Tn [] o.op with
  | some d, some (.newp x) => x = o' ∧ look Tn d = some (.ptr n 0) ∧ Nat.blt d nt = true
  | some d, some (.news ob x l c) => ob.getD true = true ∧ x = o' ∧ look Tn d = some (.slice n 0 l c) ∧ Nat.blt d nt = true
  | _, _ => False
def cellsC (TE : Nat → TI) (nt : Nat) (al : List Oper) (Tn : List (Nat × SV)) : Nat → List (Nat × SO) → Prop
  | _, [] => True
  | n, p :: r => (match al[p.1]? with | some o => cellC TE nt Tn n o p.2 | none => False) ∧ cellsC TE nt al Tn (n + 1) r
theorem cellsC_get {TE : Nat → TI} {nt : Nat} {al : List Oper} {Tn : List (Nat × SV)} : ∀ {cells : List (Nat × SO)} {n : Nat}, cellsC TE nt al Tn n cells → ∀ {i j : Nat} {o : SO}, cells[i]? = some (j, o) → ∃ p, al[j]? = some p ∧ cellC TE nt Tn (n + i) p o
  | [], n, _, i, j, o, h => by simp at h
  | x :: r, n, hc, 0, j, o, h => by
    simp at h; subst h
    have := hc.1
    split at this
    · rename_i p hp; exact ⟨p, hp, this⟩
    · exact this.elim
  | x :: r, n, hc, i + 1, j, o, h => by
    obtain ⟨p, h1, h2⟩ := cellsC_get hc.2 (i := i) (by simpa using h)
    exact ⟨p, h1, by rw [show n + (i + 1) = n + 1 + i from by omega]; exact h2⟩

def keysC (al : List Oper) (B : List (Nat × SV)) : Bool := B.all fun p => al.any fun o => match o.dst with | some d => Nat.beq d p.1 | none => false
theorem look_keys {al : List Oper} {T : List (Nat × SV)} : ∀ {B : List (Nat × SV)}, keysC al B = true → ∀ {t : Nat} {v : SV}, look (B ++ T) t = some v → (∀ (i : Nat) (o : Oper), al[i]? = some o → o.dst ≠ some t) → look T t = some v
  | [], _, t, v, h, _ => h
  | (k, u) :: r, hk, t, v, h, hno => by
    unfold keysC at hk
    simp only [List.all_cons, Bool.and_eq_true] at hk
    rw [List.cons_append, look_cons] at h
    split at h
    · rename_i e
      exfalso
      have h1 := hk.1
      simp only [List.any_eq_true] at h1
      obtain ⟨o, ho, hd⟩ := h1
      obtain ⟨i, hi⟩ := List.getElem?_of_mem ho
      split at hd
      · rename_i d hdd
        have := Nat.eq_of_beq_eq_true hd
        exact hno i o hi (by rw [hdd, this, e])
      · simp at hd
    · exact look_keys hk.2 h hno
def callC (X : Tabs) (nt : Nat) (al : List Oper) (Tn : List (Nat × SV)) (jc f : Nat) (as : List SV) (V : SV) (N : List HE) : Prop :=
  match al[jc]? with
  | some o => match o.op with
    | .call c => (guardF al Tn o.guard = 0 ∧ calleeF Tn c = some (f, as)) ∧ (SV.okhs (fun _ => false) as = true ∧ newOk N = true) ∧ (∃ fn, X.FT f = some fn) ∧ (match o.dst with | some d => look Tn d = some V ∧ Nat.blt d nt = true | none => True)
    | _ => False
  | none => False

section
variable {P : Program} {X : Tabs} (hX : TOk P X)
variable {Wb : (Nat → Nat × Nat) → World → Prop} {R : SV → List HE → Prop} {fn : Func} {nt : Nat} {H0 : List HE} {k : List KI} {T : List (Nat × SV)} {H : List HE} {cs : List Ch} {fs : List Fm}
/-- A region that draws, where cells are made without order against a call that needs none of them. -/
theorem ss_drawC (B : List (Nat × SV)) (cells : List (Nat × SO)) (jc f : Nat) (as : List SV) (V0 : SV) (N : List HE) (cs' : List Ch) {cs0 : List Ch} {id : Nat} {ops : Array Oper}
    (hreg : regOk ops.toList = true) (hkeys : keysC ops.toList B = true) (hone : onceC cells = true) (hjc : memN jc (cells.map (·.1)) = false)
    (hq : quietC X.TE nt ops.toList (B ++ T) (H ++ cellsD (fun _ => false) cells) (jc :: cells.map (·.1)) 0 ops.toList)
    (hcl : cellsC X.TE nt ops.toList (B ++ T) H.length cells) (hG : Gives P f as [] (Is V0 N))
    (hcall : callC X nt ops.toList (B ++ T) jc f as (V0.ren (sig [] (H.length + cells.length))) N)
    (hs : SS hX Wb R ⟨cs', fs, fn, nt, H0, k, B ++ T, H ++ fullC cells ++ N.map (HE.ren (sig [] (H.length + cells.length)))⟩) :
    SS hX Wb R ⟨cs0, fs, fn, nt, H0, .code (.region id ops true) :: k, T, H⟩ := by
  intro ρ0 w0 hw ρ a w hsat
  simp only [WK]
  have hs1 := hs ρ0 w0 hw
  generalize hal : ops.toList = al at *
  obtain ⟨hr1, hr2⟩ := HSat.rooms cells hsat.hs
  have hlenD : ∀ D : Nat → Bool, (cellsD D cells).length = cells.length := fun D => by simp [cellsD]
  have hs' : Sat (FEnv P X.TE hX.te fn nt H0 (Rof hX Wb R fs) ρ0 w0) ρ T (H ++ cellsD (fun _ => false) cells) a w := by
    have hfun : there (H ++ cellsD (fun _ => false) cells) = there H := funext hr2
    exact ⟨hr1, by rw [hfun]; exact hsat.ts, fun x hx => by obtain ⟨q1, q2⟩ := hsat.base x hx; exact ⟨q1, by rw [hfun]; exact q2⟩⟩
  have := draw_anyD (E := FEnv P X.TE hX.te fn nt H0 (Rof hX Wb R fs) ρ0 w0) (Tn := B ++ T) (k := k)
    (hp := fun D => H ++ cellsD D cells ++ bif D jc then N.map (HE.ren (sig [] (H.length + cells.length))) else []) hreg (by simp) (fun t v hv hno => look_keys hkeys hv hno) (fun D j o hdown hj hDj hdeps hlt => ?_) (fun D hall => ?_) ρ a w hs'
  · have h2 := wp_region_any (id := id) hX.mo this
    rw [← hal, Array.toArray_toList] at h2
    exact h2
  · by_cases hjj : j = jc
    · subst hjj
      have hcj : cellsD (fun i => D i || Nat.beq i j) cells = cellsD D cells := (cellsD_congr fun p hp => by
        have : Nat.beq p.1 j = false := by
          cases hh : Nat.beq p.1 j with
          | false => rfl
          | true =>
            have e := Nat.eq_of_beq_eq_true hh
            have : memN j (cells.map (·.1)) = true := memN_iff.2 (List.mem_map.2 ⟨p, hp, e⟩)
            rw [hjc] at this; simp at this
        simp [this]).symm
      have hG' := frame0 (H := H ++ cellsD D cells) ⟨_, hX.te⟩ hG
      unfold callC at hcall
      rw [hj] at hcall
      simp only at hcall
      split at hcall
      · rename_i c hop
        obtain ⟨⟨c1, c2⟩, ⟨c3, c4⟩, ⟨fn', c5⟩, c6⟩ := hcall
        obtain ⟨q1, q2, q3⟩ := hX.ft f fn' c5
        have e1 : nm [] (H ++ cellsD D cells) = sig [] (H.length + cells.length) := by unfold nm; rw [List.length_append, hlenD]
        have hG2 := hG' c3 c4
        rw [e1] at hG2
        simp only [hDj, cond_false, List.append_nil, hcj, Bool.false_or, Nat.beq_refl, cond_true]
        exact dstep_call hreg hj c1 hop c2 q1 q3 q2 hG2 (fun d hd => by rw [hd] at c6; exact c6)
      · exact hcall.elim
    · have hbj : Nat.beq jc j = false := by
        cases hh : Nat.beq jc j with
        | false => rfl
        | true => exact absurd (Nat.eq_of_beq_eq_true hh).symm hjj
      simp only [hbj, Bool.or_false]
      by_cases hm : j ∈ cells.map (·.1)
      · obtain ⟨⟨j', o'⟩, hpm, he⟩ := List.mem_map.1 hm
        simp only at he; subst he
        obtain ⟨i, hi⟩ := List.getElem?_of_mem hpm
        obtain ⟨p, hp1, hp2⟩ := cellsC_get hcl hi
        rw [hj] at hp1; simp at hp1; subst hp1
        have hil : i < cells.length := by
          rcases Nat.lt_or_ge i cells.length with h1 | h1
          · exact h1
          · rw [List.getElem?_eq_none h1] at hi; simp at hi
        have hset : (H ++ cellsD D cells ++ bif D jc then N.map (HE.ren (sig [] (H.length + cells.length))) else []).set (H.length + i) (.obj o') = H ++ cellsD (fun x => D x || Nat.beq x j') cells ++ bif D jc then N.map (HE.ren (sig [] (H.length + cells.length))) else [] := by
          rw [List.set_append_left _ _ (by simp [hlenD]; omega), List.set_append_right _ _ (by omega), Nat.add_sub_cancel_left, cellsD_set hone hi]
        have habs : (H ++ cellsD D cells ++ bif D jc then N.map (HE.ren (sig [] (H.length + cells.length))) else [])[H.length + i]? = some .absent := by
          rw [List.getElem?_append_left (by simp [hlenD]; omega), List.getElem?_append_right (by omega), Nat.add_sub_cancel_left]
          unfold cellsD
          rw [List.getElem?_map, hi]
          simp [hDj]
        rw [← hset]
        unfold cellC at hp2
        obtain ⟨hg, hp3⟩ := hp2
        split at hp3
        · rename_i d x hd hst
          obtain ⟨rfl, g1, g2⟩ := hp3
          exact dstep_fillP hreg hj hg (stepV_more (fun h o hh => by simp [getH] at hh) hst (fun _ _ _ e => by simp at e)) habs (fun d' hd' => by rw [hd] at hd'; simp at hd'; subst hd'; exact ⟨g1, g2⟩)
        · rename_i d ob x l c hd hst
          obtain ⟨g0, rfl, g1, g2⟩ := hp3
          exact dstep_fillS hreg hj hg (stepV_more (fun h o hh => by simp [getH] at hh) hst (fun _ _ _ e => by simp at e)) g0 habs (fun d' hd' => by rw [hd] at hd'; simp at hd'; subst hd'; exact ⟨g1, g2⟩)
        · exact hp3.elim
      · have hcj : cellsD (fun i => D i || Nat.beq i j) cells = cellsD D cells := (cellsD_congr fun p hp => by
          have : Nat.beq p.1 j = false := by
            cases hh : Nat.beq p.1 j with
            | false => rfl
            | true => exact absurd (List.mem_map.2 ⟨p, hp, Nat.eq_of_beq_eq_true hh⟩) hm
          simp [this]).symm
        rw [hcj]
        have hmm : memN (0 + j) (jc :: cells.map (·.1)) = false := by
          cases hh : memN (0 + j) (jc :: cells.map (·.1)) with
          | false => rfl
          | true =>
            have := memN_iff.1 hh
            rw [Nat.zero_add] at this
            simp only [List.mem_cons] at this
            rcases this with h1 | h1
            · exact absurd h1 hjj
            · exact absurd h1 hm
        have hqq := quietC_get hq hj hmm
        refine dstep_quiet hreg hj ?_
        have hmore : ∀ h o, getH (H ++ cellsD (fun _ => false) cells) h = some o → getH (H ++ cellsD D cells ++ bif D jc then N.map (HE.ren (sig [] (H.length + cells.length))) else []) h = some o := by
          intro h o hh
          rw [getH_some] at hh ⊢
          rcases Nat.lt_or_ge h H.length with h1 | h1
          · rw [List.getElem?_append_left h1] at hh
            rw [List.append_assoc, List.getElem?_append_left h1]; exact hh
          · rw [List.getElem?_append_right h1] at hh
            unfold cellsD at hh
            simp at hh
        unfold qProp at *
        split at hqq
        · exact hqq
        · split at hqq
          · rename_i ob v hst
            have := stepV_more hmore hst (fun _ _ _ e => by simp at e)
            show (match stepV X.TE (B ++ T) _ o.op with | some (.val ob v) => _ | _ => False)
            rw [this]; exact hqq
          · exact hqq.elim
        · exact hqq.elim
  · have hcj := cellsD_full (D := D) (cells := cells) (fun p hp => by
      obtain ⟨i, hi⟩ := List.getElem?_of_mem hp
      obtain ⟨q, hq1, _⟩ := cellsC_get hcl (j := p.1) (o := p.2) hi
      refine hall _ ?_
      rcases Nat.lt_or_ge p.1 al.length with h1 | h1
      · exact h1
      · rw [List.getElem?_eq_none h1] at hq1; simp at hq1)
    have hcD : D jc = true := by
      refine hall _ ?_
      rcases Nat.lt_or_ge jc al.length with h1 | h1
      · exact h1
      · unfold callC at hcall; rw [List.getElem?_eq_none h1] at hcall; exact hcall.elim
    simp only [hcj, hcD, cond_true]
    exact hs1
end
end Go.Hx

