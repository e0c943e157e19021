/- The clients of these laws, and which of them has its turn. -/
import Derived.Test.YtmghcelohnlceaaGreatDoorHyc
import Derived.Test.YtmghcelohnlceaaGreatDoorReadSteps
namespace Go.Proofs.YtmghcelohnlceaaGreatDoor
open Go Go.Hx
set_option maxRecDepth 8000
/-- A run that writes, under way. -/
structure WS where
  (ep nx sn fl tm i : Int) (hd : Bool) (l : List Int)
def wrP (o : Option WS) (h : Nat) : SV := match o with | none => .nilptr | some _ => .ptr h 0
def wrE (R : Int) (o : Option WS) (hw : Nat) : HE := match o with | none => .absent | some s => .obj (wrO R s.ep s.nx s.sn s.fl 0 s.tm .niliface hw s.l.length s.i s.hd)
def wlE (o : Option WS) : HE := match o with | none => .absent | some s => wdE s.l
def hdO (o : Option WS) : Bool := match o with | none => false | some s => s.hd
/-- A run that reads, under way. -/
structure RS where
  (ep nx sn fl tm : Int) (o : Option (List Int))
def rdP (o : Option RS) (h : Nat) : SV := match o with | none => .nilptr | some _ => .ptr h 0
def rdE (R : Int) (o : Option RS) (hw : Nat) : HE := match o with | none => .absent | some s => .obj (rdO R s.ep s.nx s.sn s.fl 0 s.tm .niliface (slV s.o hw))
def rlE (o : Option RS) : HE := match o with | none => .absent | some s => slE s.o .u64 39
abbrev cqO (w r : SV) (p q : Value) (id : Int) : SO := .cells [w, r, .raw p, .raw q, .int .u64 id] 47
/-- The document's arena's words: as they were made, or a copy of the program's. -/
def bsV (f : Bool) (h : Nat) : SV := bif f then .sbuf h 1 0 21 else .slice h 0 21 21
def bwE (f : Bool) (W : List Int) : HE := bif f then wdE W else WO W
abbrev rbO (b : SV) (st kd wd vl : Int) (ch : Bool) : SO := .cells [b, .int .i64 st, .int .i64 kd, .int .i64 wd, .int .u64 vl, .bool ch, .ff, .int .i64 0] 54
def a3 (s : Int) : Int := ibits .and .i64 s 3
/-- Does the topic go, and come anew? -/
def bkB (s n : Int) (h0 h1 : Bool) : Bool := !(decide (ibits .and .i64 s 4 = 0)) && (decide (ibits .and .i64 n 15 = 0) && (!h0 && !h1))
def ctSg : Nat → Option Hx.Spec
  | 22 => some (pureS ctlKS)
  | 41 => some (pureS ctlKS)
  | 40 => some (pureS rbornS)
  | 42 => some (pureS rgoneS)
  | 51 => some (arStoreS)
  | _ => none
theorem ctSg_ok : ∀ f s args H ob V L, ctSg f = some s → s args H = some (ob, V, L) → AllP ob → Gives Tryz.prog f args H (Is V L) := by
  intro f s args H ob V L h hs ho
  unfold ctSg at h
  split at h
  · simp at h; subst h; exact pureS_ok ⟨_, hTE⟩ (ctlKS_ok) hs ho
  · simp at h; subst h; exact pureS_ok ⟨_, hTE⟩ (rctlKS_ok) hs ho
  · simp at h; subst h; exact pureS_ok ⟨_, hTE⟩ (rbornS_ok) hs ho
  · simp at h; subst h; exact pureS_ok ⟨_, hTE⟩ (rgoneS_ok) hs ho
  · simp at h; subst h; exact arStoreS_ok hs ho
  · simp at h
noncomputable def XSg : Tabs := tabs tr ft xt (fun _ => none) ctSg 20
theorem hXSg : TOk Tryz.prog (XSg) := ⟨hTE, hFT, ctSg_ok, hXT, fun t ks h => by simp [XSg, tabs] at h, mixed⟩
section
variable {R n st kd wd vl stb kdb wdb vlb id0 id1 s m : Int} {ch chb : Bool} {W : List Int} {p0 q0 p1 q1 : Value} {s0 s1 : WS}













end
end Go.Proofs.YtmghcelohnlceaaGreatDoor
