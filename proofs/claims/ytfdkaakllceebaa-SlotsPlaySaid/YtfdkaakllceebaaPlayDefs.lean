/- SlotsPlay's walk: the heap, the small heap of one client's turn. -/
import Derived.Test.YtfdkaakllceebaaPlayLaw
import Derived.Test.YtfdkaakllceebaaSlotDefs
import Derived.Test.YtfdkaakllceebaaHyc
namespace Go.Proofs.Ytfdkaakllceebaa
open Go Go.Hx
set_option maxRecDepth 8000

def ctSp : Nat → Option Hx.Spec
  | 70 => some (pureS rightS)
  | 68 => some (pureS rightS)
  | 23 => some (pureS (placeS slotF))
  | 33 => some (pureS (placeS slotF))
  | 25 => some (pureS markS)
  | 38 => some (pureS rmarkS)
  | 32 => some (sameS)
  | 24 => some (arStoreS)
  | 40 => some (arSwapS)
  | 20 => some (arWordsS)
  | 26 => some (arStepsS)
  | 31 => some (arLastS)
  | 65 => some (raStoreS)
  | 64 => some (raSwapS)
  | 18 => some (makeS)
  | 27 => some (rmakeS)
  | 9 => some (pureS cfgS)
  | 10 => some (pureS awS)
  | _ => none
theorem ctSp_ok : ∀ f s args H ob V L, ctSp f = some s → s args H = some (ob, V, L) → AllP ob → Gives Try.prog f args H (Is V L) := by
  intro f s args H ob V L h hs ho
  unfold ctSp at h
  split at h
  · simp at h; subst h; exact pureS_ok ⟨_, hTE⟩ (rightS_ok right70) hs ho
  · simp at h; subst h; exact pureS_ok ⟨_, hTE⟩ (rightS_ok right68) hs ho
  · simp at h; subst h; exact pureS_ok ⟨_, hTE⟩ (placeS_ok (v := slotF) slot_fn) hs ho
  · simp at h; subst h; exact pureS_ok ⟨_, hTE⟩ (placeS_ok (v := slotF) rslot_fn) hs ho
  · simp at h; subst h; exact pureS_ok ⟨_, hTE⟩ (markS_ok) hs ho
  · simp at h; subst h; exact pureS_ok ⟨_, hTE⟩ (rmarkS_ok) hs ho
  · simp at h; subst h; exact sameS_ok hs ho
  · simp at h; subst h; exact arStoreS_ok hs ho
  · simp at h; subst h; exact arSwapS_ok hs ho
  · simp at h; subst h; exact arWordsS_ok hs ho
  · simp at h; subst h; exact arStepsS_ok hs ho
  · simp at h; subst h; exact arLastS_ok hs ho
  · simp at h; subst h; exact raStoreS_ok hs ho
  · simp at h; subst h; exact raSwapS_ok hs ho
  · simp at h; subst h; exact makeS_ok hs ho
  · simp at h; subst h; exact rmakeS_ok hs ho
  · simp at h; subst h; exact pureS_ok ⟨_, hTE⟩ (cfgS_ok) hs ho
  · simp at h; subst h; exact pureS_ok ⟨_, hTE⟩ (awS_ok) hs ho
  · simp at h
noncomputable def XSp0 : Tabs := tabs tr ft xt (fun _ => none) ctSp 0
theorem hXSp0 : TOk Try.prog XSp0 := ⟨hTE, hFT, ctSp_ok, hXT, fun t ks h => by simp [XSp0, tabs] at h, mixed⟩
noncomputable def XSp : Tabs := tabs tr ft xt etA ctSp 0
theorem hXSp : TOk Try.prog XSp := ⟨hTE, hFT, ctSp_ok, hXT, etA_ok, mixed⟩

/-- What a client's claim of the document's points to: it goes on, or is some value. -/
def rcO (S m a : Int) : SO := .cells [.int .i64 1, .int .i64 4, .int .i64 S, .int .i64 4, .int .i64 4, .int .i64 2, .int .i64 6, .int .i64 2, .int .i64 2, .int .i64 m, .int .i64 a, .int .i64 (-1)] 106
def tV (o : Option Int) (v : Value) (h : Nat) : SV := match o with | none => .raw v | some _ => .ptr h 0
section
variable {σ σ' : Nat → Nat} {H : List HE} {h h' : Nat} {o : Option Int} {v : Value} {S m : Int}
theorem ren_rc : (objE (o.map (rcO S m))).ren σ = objE (o.map (rcO S m)) := ren_objM fun a => rfl
theorem okE_rc {A : Nat → Bool} : okE A (objE (o.map (rcO S m))) := okE_objM fun a => ⟨trivial, trivial, trivial, trivial, trivial, trivial, trivial, trivial, trivial, trivial, trivial, trivial, trivial⟩
theorem sim_tV (hs : σ h = h) : sim (tV o v h) ((tV o v h).ren σ) := sim_same (by cases o <;> simp [tV, SV.ren, hs])
theorem okP_tV (e : thereF H h = (objE (o.map (rcO S m))).there) : okP (thereF H) (tV o v h) := by
  cases o with
  | none => trivial
  | some a => simpa [tV, okP, objE, HE.there] using e
end
abbrev VV := Value × Value
abbrev cqO (a b d e : Nat) (c : Cl) (p : VV) : HE := .obj (.cells [slV c.own b, ptrV c.take d, .nilptr, tV c.take p.1 e, .raw p.2] 47)
abbrev kpO : HE := .obj (.cells [.ptr 7 0, .ptr 11 0, .ptr 15 0, .ptr 19 0] 42)
/-- The heap behind some turns. -/
def spH (n : Nat) (o : Nat → ActV) (S : Int) (W : List Int) (st kd wd vl : Int) (ch : Bool) (c0 c1 c2 c3 : Cl) (p0 p1 p2 p3 : VV) : List HE :=
  [.obj (.rows n 3 (actRow o)), cfO S, WO W, AOx 2 W st kd wd vl ch, WO W, ROx 4 W st kd wd vl ch, kpO,
    cqO 7 8 9 10 c0 p0, slE c0.own .i64 3, objE (c0.take.map (tkO S 0)), objE (c0.take.map (rcO S 0)),
    cqO 11 12 13 14 c1 p1, slE c1.own .i64 3, objE (c1.take.map (tkO S 1)), objE (c1.take.map (rcO S 1)),
    cqO 15 16 17 18 c2 p2, slE c2.own .i64 3, objE (c2.take.map (tkO S 2)), objE (c2.take.map (rcO S 2)),
    cqO 19 20 21 22 c3 p3, slE c3.own .i64 3, objE (c3.take.map (tkO S 3)), objE (c3.take.map (rcO S 3))]
abbrev SQ := SA × VV × VV × VV × VV
abbrev spX (n : Nat) (o : Nat → ActV) (S : Int) (q : SQ) : List HE := spH n o S q.1.W q.1.st q.1.kd q.1.wd q.1.vl q.1.ch q.1.c0 q.1.c1 q.1.c2 q.1.c3 q.2.1 q.2.2.1 q.2.2.2.1 q.2.2.2.2
def spT (sv : SV) (i : Nat) : List (Nat × SV) := [(1, sv), (5, .tt), (6, .ptr 1 0), (7, .ptr 3 0), (9, .ptr 5 0), (10, .slice 6 0 4 4), (11, .int .i64 (i : Int))]
/-- The small heap of client m. -/
def sqH (n : Nat) (o : Nat → ActV) (S m : Int) (W : List Int) (st kd wd vl : Int) (ch : Bool) (c : Cl) (p : VV) : List HE :=
  [.obj (.rows n 3 (actRow o)), cfO S, WO W, AOx 2 W st kd wd vl ch, WO W, ROx 4 W st kd wd vl ch, .opq,
    cqO 7 8 9 10 c p, slE c.own .i64 3, objE (c.take.map (tkO S m)), objE (c.take.map (rcO S m))]
def sqT (n cap i : Nat) : List (Nat × SV) := [(1, .slice 0 0 n cap), (5, .tt), (6, .ptr 1 0), (7, .ptr 3 0), (9, .ptr 5 0), (10, .slice 6 0 4 4), (11, .int .i64 (i : Int)), (12, .ptr 7 0)]
/-- It, behind the turn. -/
def sqJ (n : Nat) (o : Nat → ActV) (S m : Int) (c : Cl) (x : SA) (d : Cl) (p : VV) : List HE :=
  [.obj (.rows n 3 (actRow o)), cfO S, WO x.W, AOx 2 x.W x.st x.kd x.wd x.vl x.ch, WO x.W, ROx 4 x.W x.st x.kd x.wd x.vl x.ch, .opq,
    cqO 7 11 12 13 d p, (slE c.own .i64 3).dim, (objE (c.take.map (tkO S m))).dim, (objE (c.take.map (rcO S m))).dim,
    slE d.own .i64 3, objE (d.take.map (tkO S m)), objE (d.take.map (rcO S m))]
def sqTj (n cap i : Nat) : List (Nat × SV) := [(1, .slice 0 0 n cap), (5, .tt), (6, .ptr 1 0), (7, .ptr 3 0), (9, .ptr 5 0), (10, .slice 6 0 4 4), (11, .int .i64 ((i + 1 : Nat) : Int))]
def sigS (t : Bool) (H : List HE) : Option (List Nat) :=
  match hdlF H 7 0 60, hdlF H 7 1 61, (match t with | true => hdlF H 7 3 62 | false => some 62) with
  | some a, some b, some c => some [0, 1, 2, 3, 4, 5, 6, 7, 8, 9, 10, a, b, c]
  | _, _, _ => none
end Go.Proofs.Ytfdkaakllceebaa
