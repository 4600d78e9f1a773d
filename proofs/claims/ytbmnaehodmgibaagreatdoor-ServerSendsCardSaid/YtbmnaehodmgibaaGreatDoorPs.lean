/-
  LAYERS 10, 13, 15, 20: frames that may be, numbers of pushes, steps, sessions: plainly.
-/
import Derived.Test.YtbmnaehodmgibaaGreatDoorPn
set_option linter.unusedSimpArgs false
set_option linter.unusedVariables false
section
/-
  The plain functions of layer 13, numbers of pushes: what the program and the reference compute.
-/
namespace Go.Nonce
structure Ou where
  (l0 l1 l2 l3 : Int) (o0 o1 o2 o3 : Bool) (m : Int)
  deriving DecidableEq
structure Nn where
  (l0 l1 l2 l3 m : Int)
  deriving DecidableEq
def bnd (n : Int) : Int := max 1 (min n 2147483647)
def startO (n : Int) : Ou := ⟨0, 0, 0, 0, false, false, false, false, bnd n⟩
def startI (n : Int) : Nn := ⟨0, 0, 0, 0, bnd n⟩
def soundB (i : Nn) : Bool :=
  decide (0 ≤ i.l0) && decide (i.l0 ≤ i.m) && decide (0 ≤ i.l1) && decide (i.l1 ≤ i.m) && decide (0 ≤ i.l2) && decide (i.l2 ≤ i.m) && decide (0 ≤ i.l3) && decide (i.l3 ≤ i.m) && decide (1 ≤ i.m) && decide (i.m ≤ 2147483647)
def Ou.toI (o : Ou) : Nn := ⟨o.l0, o.l1, o.l2, o.l3, o.m⟩
def goodB (o : Ou) : Bool :=
  !(o.o0 && decide (o.l0 = 0)) && !(o.o1 && decide (o.l1 = 0)) && !(o.o2 && decide (o.l2 = 0)) && !(o.o3 && decide (o.l3 = 0)) && soundB o.toI
def outF (o : Ou) : Ou := if goodB o then o else startO o.m
def inF (i : Nn) : Nn := if soundB i then i else startI i.m
def kindB (k : Int) : Bool := decide (0 ≤ k) && decide (k < 4)
def Ou.last (o : Ou) (k : Int) : Int := if k = 0 then o.l0 else if k = 1 then o.l1 else if k = 2 then o.l2 else o.l3
def Ou.open' (o : Ou) (k : Int) : Bool := if k = 0 then o.o0 else if k = 1 then o.o1 else if k = 2 then o.o2 else o.o3
def Ou.set (o : Ou) (k l : Int) (b : Bool) : Ou :=
  if k = 0 then { o with l0 := l, o0 := b } else if k = 1 then { o with l1 := l, o1 := b } else if k = 2 then { o with l2 := l, o2 := b } else { o with l3 := l, o3 := b }
def Nn.last (o : Nn) (k : Int) : Int := if k = 0 then o.l0 else if k = 1 then o.l1 else if k = 2 then o.l2 else o.l3
def Nn.set (o : Nn) (k l : Int) : Nn :=
  if k = 0 then { o with l0 := l } else if k = 1 then { o with l1 := l } else if k = 2 then { o with l2 := l } else { o with l3 := l }
/-- A push at a state that is in order: the state behind it, the number, the error. -/
def pushQ (o : Ou) (k : Int) : Ou × Int × Int :=
  if kindB k = false then (o, 0, 4)
  else if o.open' k then (o, 0, 15)
  else if o.last k = o.m then (o, 0, 14)
  else (o.set k (o.last k + 1) true, o.last k + 1, 0)
def push (o : Ou) (k : Int) : Ou × Int × Int := pushQ (outF o) k
def doneQ (o : Ou) (k n : Int) : Ou × Int :=
  if kindB k = false then (o, 4)
  else if o.open' k = false ∨ n ≠ o.last k then (o, 11)
  else (o.set k (o.last k) false, 0)
def done (o : Ou) (k n : Int) : Ou × Int := doneQ (outF o) k n
def takeQ (i : Nn) (k n : Int) : Nn × Int :=
  if kindB k = false then (i, 4)
  else if n ≠ 0 ∧ n = i.last k then (i, 9)
  else if n ≠ i.last k + 1 ∨ i.m < n then (i, 11)
  else (i.set k n, 0)
def take (i : Nn) (k n : Int) : Nn × Int := takeQ (inF i) k n
theorem soundB_mk (a b c d m : Int) : (soundB ⟨a, b, c, d, m⟩ = true) = (0 ≤ a ∧ a ≤ m ∧ 0 ≤ b ∧ b ≤ m ∧ 0 ≤ c ∧ c ≤ m ∧ 0 ≤ d ∧ d ≤ m ∧ 1 ≤ m ∧ m ≤ 2147483647) := by
  simp [soundB, and_assoc]
theorem bnd_ok (n : Int) : 1 ≤ bnd n ∧ bnd n ≤ 2147483647 := by simp only [bnd]; omega
def Ou.ok (o : Ou) : Prop := (0 ≤ o.l0 ∧ o.l0 ≤ o.m ∧ 0 ≤ o.l1 ∧ o.l1 ≤ o.m ∧ 0 ≤ o.l2 ∧ o.l2 ≤ o.m ∧ 0 ≤ o.l3 ∧ o.l3 ≤ o.m ∧ 1 ≤ o.m ∧ o.m ≤ 2147483647)
def Nn.ok (o : Nn) : Prop := (0 ≤ o.l0 ∧ o.l0 ≤ o.m ∧ 0 ≤ o.l1 ∧ o.l1 ≤ o.m ∧ 0 ≤ o.l2 ∧ o.l2 ≤ o.m ∧ 0 ≤ o.l3 ∧ o.l3 ≤ o.m ∧ 1 ≤ o.m ∧ o.m ≤ 2147483647)
theorem outF_ok (o : Ou) : (outF o).ok := by
  obtain ⟨a, b, c, d, x, y, z, t, m⟩ := o
  simp only [outF]
  by_cases h : goodB ⟨a, b, c, d, x, y, z, t, m⟩ = true
  · rw [if_pos h]
    simp only [goodB, Ou.toI, Bool.and_eq_true, soundB_mk] at h
    exact h.2
  · rw [if_neg h]
    have := bnd_ok m
    simp only [Ou.ok, startO]; omega
theorem kindB_is {k : Int} (h : kindB k = true) : k = 0 ∨ k = 1 ∨ k = 2 ∨ k = 3 := by
  simp only [kindB, Bool.and_eq_true, decide_eq_true_iff] at h; omega
end Go.Nonce
end
section
namespace Go.G
open Go.AI
def okK (k : Key) : Bool := rngB k.kind 3 && nameB k.name
def smallF (f : Frame) : Bool :=
  (decide (f.adds.length ≤ 64) && decide (f.gone.length ≤ 64) && decide (f.have_.length ≤ 64) && decide (f.held.length ≤ 64))
    && (f.have_.all fun m => rngB m.ver 2147483647) && rngB f.epoch 2147483647 && rngB f.nonce 2147483647 && rngB f.turn 2147483647 && rngB f.err 15
def bareF (f : Frame) : Frame :=
  if f.type = 0 then { f with epoch := 0, have_ := [] }
  else if f.type = 1 then { f with epoch := 0, kind := 0, nonce := 0, adds := [], gone := [] }
  else if f.type = 2 then { f with epoch := 0, kind := 0, nonce := 0, err := 0, turn := 0, held := [] }
  else if f.type = 3 then { f with epoch := 0, turn := 0, held := [] }
  else { f with epoch := 0 }
def shapedF (f : Frame) : Bool := decide (bareF f = { zFrame with type := f.type })
def namedF (f : Frame) : Bool := f.gone.all okK && f.held.all okK && f.have_.all fun m => okK m.k
def kindF (f : Frame) : Bool := (f.adds.all fun r => decide (r.kind = f.kind)) && f.gone.all fun k => decide (k.kind = f.kind)
def frameE (f : Frame) : Int :=
  if (rngB f.type 3 && rngB f.kind 3) = false then 4 else if smallF f = false then 3 else if shapedF f = false then 2 else if namedF f = false then 5
  else if ¬ firstE f.adds = 0 then firstE f.adds else if kindF f = false then 2 else 0
@[simp] def ouC (o : Nonce.Ou) : List D := [iD o.l0, iD o.l1, iD o.l2, iD o.l3, bD o.o0, bD o.o1, bD o.o2, bD o.o3, iD o.m]
structure Sess where
  epoch : Int
  greeted : Bool
  out : Nonce.Ou
  v : View
  stuck : Int
  at_ : Int
  deriving DecidableEq
@[simp] def sessC (s : Sess) : List D := [iD s.epoch, bD s.greeted] ++ ouC s.out ++ viewC s.v ++ [iD s.stuck, iD s.at_]
structure OkSess (s : Sess) : Prop where
  v : OkView s.v
def zView : View := ⟨[], [], 0, zFrame, false⟩
def newSess (epoch most : Int) : Sess := ⟨max 0 (min epoch 2147483647), false, Nonce.startO most, zView, 0, 0⟩
def helloF (v : View) : Frame := ⟨0, 0, 0, 0, 0, [], [], 0, marksV v.have_, []⟩
def drainF (v : View) : Frame := ⟨3, 0, 0, 0, v.turn, [], [], 0, [], v.held⟩
def seenB (v : View) : Bool := decide (frameE (helloF v) = 0) && decide (frameE (drainF v) = 0)
def waitsB (s : Sess) : Bool :=
  s.greeted && decide (frameE s.v.push = 0) && decide (s.v.push.type = 1) && decide (s.v.push.epoch = s.epoch)
    && s.out.open' s.v.push.kind && decide (s.out.last s.v.push.kind = s.v.push.nonce)
def plainB (s : Sess) : Bool := rngB s.epoch 2147483647 && decide (0 ≤ s.at_) && rngB s.stuck 15
def saneS (s : Sess) : Bool := plainB s && Nonce.goodB s.out && seenB s.v && (!s.v.open_ || waitsB s)
def soundS (s : Sess) : Sess := if saneS s then s else newSess s.epoch s.out.m
def nowL (p : Store) : List Res := lastS (takenS p)
def nowI (p : Store) : Int := ((takenS p).hist.length : Int) - 1
def helloV (p : Store) (v : View) (l : List Mark) : View := { v with have_ := knownV p l, held := if v.turn = 0 then (knownV p l).map Res.key else v.held }
def helloH (s : Sess) (p : Store) (f : Frame) : Sess × Int := if s.greeted = true then (s, 9) else ({ s with greeted := true, v := helloV p s.v f.have_ }, 0)
def ackH (s : Sess) (p : Store) (f : Frame) : Sess × Int :=
  if ¬ (Nonce.done s.out f.kind f.nonce).2 = 0 then (s, (Nonce.done s.out f.kind f.nonce).2) else if s.v.open_ = false then (s, 15)
  else if (ansV s.v f).open_ = true then (s, 11) else if 64 < (ansV s.v f).have_.length then (s, 3)
  else (⟨s.epoch, s.greeted, (Nonce.done s.out f.kind f.nonce).1, ansV s.v f, f.err, nowI p⟩, 0)
def drainH (s : Sess) (f : Frame) : Sess × Int := ({ s with v := drainV s.v f.turn f.held }, 0)
def handleQ (s : Sess) (p : Store) (f : Frame) : Sess × Int :=
  if ¬ frameE f = 0 then (s, frameE f) else if ¬ f.epoch = s.epoch then (s, 11)
  else if f.type = 0 then helloH s p f else if f.type = 1 then (s, 2) else if f.type = 2 then ackH s p f else drainH s f
def handle (s : Sess) (p : Store) (f : Frame) : Sess × Int := handleQ (soundS s) p f
structure Step where
  kind : Int
  adds : List Res
  gone : List Key
  deriving DecidableEq
@[simp] def stepC (s : Step) : List D := [iD s.kind, lD (s.adds.map resC), lD (s.gone.map keyC)]
def kindL (l : List Res) (n : Int) : List Res := l.filter fun r => decide (r.kind = n)
def kindG (l : List Key) (n : Int) : List Key := l.filter fun k => decide (k.kind = n)
structure Job where
  adds : List Res
  gone : List Key
  reach : List Key
  have_ : List Res
  held : List Key
def begin' (hv want : List Res) (held : List Key) : Job := ⟨diffA hv want, diffG hv want, (reachR want).map Res.key, hv, held⟩
def Job.early (j : Job) (n : Int) : Step := ⟨n, (kindL j.adds n).filter fun r => decide (r.key ∈ j.reach), []⟩
def Job.late (j : Job) (n : Int) : Step := ⟨n, kindL j.adds n, []⟩
def Job.off (j : Job) (n : Int) : Step := ⟨n, [], kindG j.gone n⟩
def Job.freeK (j : Job) (k : Key) : Bool := !(decide (k ∈ j.held) || decide (0 < (refersR j.have_ k).length))
def Job.free (j : Job) (n : Int) : Step := ⟨n, [], (kindG j.gone n).filter j.freeK⟩
def Job.doors (j : Job) (n : Int) : Step := ⟨n, kindL j.adds n, kindG j.gone n⟩
def Step.none (s : Step) : Bool := decide (s.adds.length + s.gone.length = 0)
/-- The last step that was looked at, and whether it is one. -/
def seek (g : Int → Step) : List Int → Step → Step × Bool
  | [], s => (s, false)
  | n :: l, _ => if (g n).none then seek g l (g n) else (g n, true)
def Job.steps (j : Job) : List Step := [j.early 3, j.early 2, j.early 1, j.doors 0, j.late 3, j.late 2, j.late 1, j.free 1, j.free 2, j.free 3]
def nextP (hv want : List Res) (held : List Key) : Option Step := (begin' hv want held).steps.find? fun s => !s.none
def pushF (s : Sess) (x : Step) (n : Int) : Frame := ⟨1, s.epoch, x.kind, n, 0, x.adds, x.gone, 0, [], []⟩
def idle (s : Sess) (p : Store) : Bool := !s.greeted || s.v.open_ || (!decide (s.stuck = 0) && decide (s.at_ = nowI p))
def pumpS (s : Sess) (x : Step) : Sess × List Frame × Int :=
  if (Nonce.push s.out x.kind).2.2 = 0 then
    ({ s with v := sentV s.v (pushF s x (Nonce.push s.out x.kind).2.1), out := (Nonce.push s.out x.kind).1 }, [pushF s x (Nonce.push s.out x.kind).2.1], 0)
  else (s, [], (Nonce.push s.out x.kind).2.2)
def pumpQ (s : Sess) (p : Store) : Sess × List Frame × Int :=
  if idle s p = true then (s, [], 0) else
  match nextP s.v.have_ (nowL p) s.v.held with
  | .none => (s, [], 0)
  | .some x => pumpS s x
def pump (s : Sess) (p : Store) : Sess × List Frame × Int := pumpQ (soundS s) p
def resendF (s : Sess) : List Frame := if (soundS s).v.open_ = true then [(soundS s).v.push] else []
theorem firstE_zero {l : List Res} : firstE l = 0 ↔ ∀ r ∈ l, saneE r = 0 := by
  unfold firstE
  constructor
  · intro h r hr
    split at h
    · rename_i x hx
      have := List.find?_some hx
      simp [h] at this
    · rename_i hx
      have := List.find?_eq_none.1 hx r hr
      simpa using this
  · intro h
    have : l.find? (fun r => !decide (saneE r = 0)) = none := by rw [List.find?_eq_none]; intro r hr; simp [h r hr]
    rw [this]
structure OkF (f : Frame) : Prop where
  type : rngB f.type 3 = true
  kind : rngB f.kind 3 = true
  small : smallF f = true
  shaped : shapedF f = true
  named : namedF f = true
  adds : ∀ r ∈ f.adds, saneE r = 0
  alike : kindF f = true
theorem frameE_zero {f : Frame} : frameE f = 0 ↔ OkF f := by
  constructor
  · intro h
    unfold frameE at h
    (repeat' split at h) <;> first | omega | skip
    rename_i h1 h2 h3 h4 h5 h6
    simp at h1 h2 h3 h4 h5 h6
    exact ⟨h1.1, h1.2, h2, h3, h4, firstE_zero.1 h5, h6⟩
  · intro h
    unfold frameE
    have := firstE_zero.2 h.adds
    simp [h.type, h.kind, h.small, h.shaped, h.named, this, h.alike]
theorem small_len {f : Frame} (h : smallF f = true) : f.adds.length ≤ 64 ∧ f.gone.length ≤ 64 ∧ f.have_.length ≤ 64 ∧ f.held.length ≤ 64 ∧ (∀ m ∈ f.have_, rngB m.ver 2147483647 = true) ∧ rngB f.epoch 2147483647 = true ∧ rngB f.nonce 2147483647 = true ∧ rngB f.turn 2147483647 = true ∧ rngB f.err 15 = true := by
  simp only [smallF, Bool.and_eq_true, decide_eq_true_eq, List.all_eq_true] at h
  exact ⟨h.1.1.1.1.1.1.1.1, h.1.1.1.1.1.1.1.2, h.1.1.1.1.1.1.2, h.1.1.1.1.1.2, h.1.1.1.1.2, h.1.1.1.2, h.1.1.2, h.1.2, h.2⟩
theorem hello_ok {v : View} : frameE (helloF v) = 0 ↔ v.have_.length ≤ 64 ∧ ∀ r ∈ v.have_, rngB r.ver 2147483647 = true ∧ okK r.key = true := by
  rw [frameE_zero]
  constructor
  · intro h
    have h1 := small_len h.small
    refine ⟨by simpa [helloF] using h1.2.2.1, fun r hr => ⟨?_, ?_⟩⟩
    · exact h1.2.2.2.2.1 ⟨r.key, r.ver⟩ (List.mem_map.2 ⟨r, hr, rfl⟩)
    · have := h.named
      simp only [namedF, helloF, Bool.and_eq_true, List.all_eq_true] at this
      exact this.2 ⟨r.key, r.ver⟩ (List.mem_map.2 ⟨r, hr, rfl⟩)
  · rintro ⟨h1, h2⟩
    refine ⟨rfl, rfl, ?_, rfl, ?_, by simp [helloF], rfl⟩
    · simp only [smallF, helloF, Bool.and_eq_true, decide_eq_true_eq, List.all_eq_true]
      refine ⟨⟨⟨⟨⟨⟨⟨⟨by simp, by simp⟩, by simpa using h1⟩, by simp⟩, ?_⟩, rfl⟩, rfl⟩, rfl⟩, rfl⟩
      intro m hm
      obtain ⟨r, hr, rfl⟩ := List.mem_map.1 hm
      exact (h2 r hr).1
    · simp only [namedF, helloF, Bool.and_eq_true, List.all_eq_true]
      refine ⟨⟨by simp, by simp⟩, fun m hm => ?_⟩
      obtain ⟨r, hr, rfl⟩ := List.mem_map.1 hm
      exact (h2 r hr).2
theorem drain_ok {v : View} : frameE (drainF v) = 0 ↔ v.held.length ≤ 64 ∧ rngB v.turn 2147483647 = true ∧ ∀ k ∈ v.held, okK k = true := by
  rw [frameE_zero]
  constructor
  · intro h
    have h1 := small_len h.small
    refine ⟨h1.2.2.2.1, h1.2.2.2.2.2.2.2.1, fun k hk => ?_⟩
    have := h.named
    simp only [namedF, drainF, Bool.and_eq_true, List.all_eq_true] at this
    exact this.1.2 k hk
  · rintro ⟨h1, h2, h3⟩
    refine ⟨rfl, rfl, ?_, rfl, ?_, by simp [drainF], rfl⟩
    · simp only [smallF, drainF, Bool.and_eq_true, decide_eq_true_eq, List.all_eq_true]
      exact ⟨⟨⟨⟨⟨⟨⟨⟨by simp, by simp⟩, by simp⟩, by first | exact h1 | exact decide_eq_true h1⟩, by simp⟩, rfl⟩, rfl⟩, h2⟩, rfl⟩
    · simp only [namedF, drainF, Bool.and_eq_true, List.all_eq_true]
      exact ⟨⟨by simp, h3⟩, by simp⟩
structure SaneS (s : Sess) : Prop where
  plain : plainB s = true
  out : Nonce.goodB s.out = true
  hl : s.v.have_.length ≤ 64
  have_ : ∀ r ∈ s.v.have_, rngB r.ver 2147483647 = true ∧ okK r.key = true
  dl : s.v.held.length ≤ 64
  turn : rngB s.v.turn 2147483647 = true
  held : ∀ k ∈ s.v.held, okK k = true
  waits : s.v.open_ = true → waitsB s = true
theorem saneS_iff {s : Sess} : saneS s = true ↔ SaneS s := by
  constructor
  · intro h
    simp only [saneS, seenB, Bool.and_eq_true, decide_eq_true_eq] at h
    obtain ⟨⟨⟨h1, h2⟩, h3, h4⟩, h5⟩ := h
    rw [hello_ok] at h3
    rw [drain_ok] at h4
    exact ⟨h1, h2, h3.1, h3.2, h4.1, h4.2.1, h4.2.2, fun h => by simpa [h] using h5⟩
  · intro h
    simp only [saneS, seenB, Bool.and_eq_true, decide_eq_true_eq]
    refine ⟨⟨⟨h.plain, h.out⟩, hello_ok.2 ⟨h.hl, h.have_⟩, drain_ok.2 ⟨h.dl, h.turn, h.held⟩⟩, ?_⟩
    cases ho : s.v.open_ with
    | false => rfl
    | true => simpa using h.waits ho
theorem good_start (n : Int) : Nonce.goodB (Nonce.startO n) = true := by
  have := Nonce.bnd_ok n
  simp only [Nonce.goodB, Nonce.startO, Nonce.Ou.toI, Bool.and_eq_true, Nonce.soundB_mk]
  refine ⟨by simp, ?_⟩
  omega
theorem sane_newSess (e m : Int) : saneS (newSess e m) = true := by
  rw [saneS_iff]
  refine ⟨?_, good_start m, by simp [newSess, zView], by simp [newSess, zView], by simp [newSess, zView], by simp [newSess, zView, rngB], by simp [newSess, zView], by simp [newSess, zView]⟩
  simp only [plainB, newSess, rngB, Bool.and_eq_true, decide_eq_true_eq]
  refine ⟨⟨⟨?_, ?_⟩, by simp⟩, by simp, by simp⟩ <;> first | omega | (refine decide_eq_true ?_; omega)
theorem soundS_sane (s : Sess) : saneS (soundS s) = true := by
  unfold soundS
  split
  · assumption
  · exact sane_newSess _ _
theorem soundS_of {s : Sess} (h : saneS s = true) : soundS s = s := by simp [soundS, h]
theorem outF_of {o : Nonce.Ou} (h : Nonce.goodB o = true) : Nonce.outF o = o := by simp [Nonce.outF, h]
end Go.G
end
section
namespace Go.G
open Go.AI
end Go.G
namespace Go.G
open Go.AI
theorem near_eq (x m : Int) (hm : 1 ≤ m) : ((if 0 < (if m < x then m else x) then (if m < x then m else x) else 0) = x) ↔ (0 ≤ x ∧ x ≤ m) := by
  by_cases h : m < x <;> simp [h] <;> (try omega)
end Go.G
namespace Go.G
open Go.AI
end Go.G
end
section
namespace Go.G
open Go.AI
theorem bnd_min (n : Int) : (if 1 < (if 2147483647 < n then 2147483647 else n) then (if 2147483647 < n then (2147483647 : Int) else n) else 1) = Nonce.bnd n := by
  unfold Nonce.bnd
  by_cases h : 2147483647 < n
  · simp [h]; omega
  · simp [h]; omega
theorem first_of {l : List Int} {k : Nat} {x : Int} (h : (l.take k).all (fun e => decide (e = 0)) = true) (hr : l[k]? = some x) (hx : ¬ x = 0) : (l.find? fun e => !decide (e = 0)) = some x :=
  find_at (k := k) (x := x) (by simpa using h) hr (by simpa using hx)
theorem first_not {l : List Int} (h : l.all (fun e => decide (e = 0)) = true) : (l.find? fun e => !decide (e = 0)) = none :=
  find_none (by simpa using h)
theorem any_not {α : Type} (l : List α) (p : α → Bool) : (l.any fun x => !p x) = !l.all p := by
  induction l with
  | nil => rfl
  | cons a l ih => simp [ih, Bool.not_and]
theorem bare_ok {f : Frame} (h : OkFrame f) : OkFrame (bareF f) := by
  have h0 : OkRs [] := ⟨by simp, by simp⟩
  unfold bareF
  (repeat' split) <;> constructor <;> first | exact h.adds | exact h.gone | exact h.have_ | exact h.held | exact h0 | simp
theorem sound_yes (i : Nonce.Nn) (h : (decide ((if 0 < (if i.m < i.l0 then i.m else i.l0) then (if i.m < i.l0 then i.m else i.l0) else 0) = i.l0) && (decide ((if 0 < (if i.m < i.l1 then i.m else i.l1) then (if i.m < i.l1 then i.m else i.l1) else 0) = i.l1) && (decide ((if 0 < (if i.m < i.l2 then i.m else i.l2) then (if i.m < i.l2 then i.m else i.l2) else 0) = i.l2) && decide ((if 0 < (if i.m < i.l3 then i.m else i.l3) then (if i.m < i.l3 then i.m else i.l3) else 0) = i.l3)))) = true) : decide (i.m = Nonce.bnd i.m) = Nonce.soundB i := by
  obtain ⟨a, b, c, d, m⟩ := i
  simp only [Bool.and_eq_true, decide_eq_true_eq] at h
  obtain ⟨h0, h1, h2, h3⟩ := h
  rw [Bool.eq_iff_iff]
  dsimp only at h0 h1 h2 h3 ⊢
  rw [Nonce.soundB_mk]
  rw [decide_eq_true_iff]
  constructor
  · intro hm0
    have hm := Nonce.bnd_ok m
    rw [← hm0] at hm
    have := (near_eq _ _ hm.1).1 h0; have := (near_eq _ _ hm.1).1 h1; have := (near_eq _ _ hm.1).1 h2; have := (near_eq _ _ hm.1).1 h3
    clear h0 h1 h2 h3 hm0
    omega
  · intro hm
    clear h0 h1 h2 h3
    unfold Nonce.bnd
    omega
theorem sound_no (i : Nonce.Nn) (h : (decide ((if 0 < (if i.m < i.l0 then i.m else i.l0) then (if i.m < i.l0 then i.m else i.l0) else 0) = i.l0) && (decide ((if 0 < (if i.m < i.l1 then i.m else i.l1) then (if i.m < i.l1 then i.m else i.l1) else 0) = i.l1) && (decide ((if 0 < (if i.m < i.l2 then i.m else i.l2) then (if i.m < i.l2 then i.m else i.l2) else 0) = i.l2) && decide ((if 0 < (if i.m < i.l3 then i.m else i.l3) then (if i.m < i.l3 then i.m else i.l3) else 0) = i.l3)))) = false) : Nonce.soundB i = false := by
  obtain ⟨a, b, c, d, m⟩ := i
  rw [Bool.eq_false_iff]
  intro hs
  rw [Nonce.soundB_mk] at hs
  obtain ⟨a1, a2, a3, a4, a5, a6, a7, a8, a9, a10⟩ := hs
  rw [Bool.eq_false_iff] at h
  apply h
  simp only [Bool.and_eq_true, decide_eq_true_eq]
  exact ⟨(near_eq _ _ a9).2 ⟨a1, a2⟩, (near_eq _ _ a9).2 ⟨a3, a4⟩, (near_eq _ _ a9).2 ⟨a5, a6⟩, (near_eq _ _ a9).2 ⟨a7, a8⟩⟩
theorem first_frame (f : Frame) : (([if (rngB f.type 3 && rngB f.kind 3) = true then 0 else 4, if smallF f = true then 0 else 3, if shapedF f = true then 0 else 2, if namedF f = true then 0 else 5, firstE f.adds, if kindF f = true then 0 else 2] : List Int).find? fun e => !decide (e = 0)).getD 0 = frameE f := by
  unfold frameE
  cases h1 : (rngB f.type 3 && rngB f.kind 3) <;> cases h2 : smallF f <;> cases h3 : shapedF f <;> cases h4 : namedF f <;> cases h6 : kindF f <;> by_cases h5 : firstE f.adds = 0 <;> simp [List.find?_cons, h5]
end Go.G
namespace Go.G
open Go.AI
theorem epoch_min (n : Int) : (if 0 < (if 2147483647 < n then 2147483647 else n) then (if 2147483647 < n then (2147483647 : Int) else n) else 0) = max 0 (min n 2147483647) := by
  by_cases h : 2147483647 < n
  · simp [h]; omega
  · simp [h]; omega
theorem hello_okF (v : View) (h : v.have_.length ≤ 9223372036854775807) : OkFrame (helloF v) := ⟨⟨by simp [helloF], by simp [helloF]⟩, by simp [helloF], by simpa [helloF] using h, by simp [helloF]⟩
theorem rng3 {n : Int} (h : rngB n 3 = true) : n = 0 ∨ n = 1 ∨ n = 2 ∨ n = 3 := by
  simp only [rngB, Bool.and_eq_true, decide_eq_true_eq] at h; omega
theorem push_kind {f : Frame} (h : frameE f = 0) : f.kind = 0 ∨ f.kind = 1 ∨ f.kind = 2 ∨ f.kind = 3 := rng3 (frameE_zero.1 h).kind
theorem push_type {f : Frame} (h : frameE f = 0) : f.type = 0 ∨ f.type = 1 ∨ f.type = 2 ∨ f.type = 3 := rng3 (frameE_zero.1 h).type
end Go.G
end
section
namespace Go.G
open Go.AI
structure StepOk (hv want : List Res) (held : List Key) (x : Step) : Prop where
  kind : x.kind = 0 ∨ x.kind = 1 ∨ x.kind = 2 ∨ x.kind = 3
  adds : ∀ r ∈ x.adds, r ∈ want ∧ r.kind = x.kind
  gone : ∀ k ∈ x.gone, k ∈ hv.map Res.key ∧ k.kind = x.kind
  al : x.adds.length ≤ want.length
  gl : x.gone.length ≤ hv.length
  some : 0 < x.adds.length + x.gone.length
  free : ¬ x.kind = 0 → ∀ k ∈ x.gone, k ∉ held ∧ (refersR hv k).length = 0
theorem mem_kindL {l : List Res} {n : Int} {r : Res} : r ∈ kindL l n ↔ r ∈ l ∧ r.kind = n := by simp [kindL]
theorem mem_kindG {l : List Key} {n : Int} {k : Key} : k ∈ kindG l n ↔ k ∈ l ∧ k.kind = n := by simp [kindG]
theorem diffA_len (a b : List Res) : (diffA a b).length ≤ b.length := List.length_filter_le _ _
theorem diffG_len (a b : List Res) : (diffG a b).length ≤ a.length := Nat.le_trans (List.length_filter_le _ _) (by simp)
theorem kindL_len (l : List Res) (n : Int) : (kindL l n).length ≤ l.length := List.length_filter_le _ _
theorem kindG_len (l : List Key) (n : Int) : (kindG l n).length ≤ l.length := List.length_filter_le _ _
theorem next_ok {hv want : List Res} {held : List Key} {x : Step} (h : nextP hv want held = .some x) : StepOk hv want held x := by
  have hs := List.find?_some h
  have hm := List.mem_of_find?_eq_some h
  have h0 : 0 < x.adds.length + x.gone.length := by
    simp only [Step.none, Bool.not_eq_true', decide_eq_false_iff_not] at hs; omega
  have hA : ∀ r n, r ∈ kindL (diffA hv want) n → r ∈ want ∧ r.kind = n := fun r n hr => ⟨(List.mem_filter.1 (mem_kindL.1 hr).1).1, (mem_kindL.1 hr).2⟩
  have hG : ∀ k n, k ∈ kindG (diffG hv want) n → k ∈ hv.map Res.key ∧ k.kind = n := fun k n hk => ⟨(List.mem_filter.1 (mem_kindG.1 hk).1).1, (mem_kindG.1 hk).2⟩
  have lA : ∀ n, (kindL (diffA hv want) n).length ≤ want.length := fun n => Nat.le_trans (kindL_len _ _) (diffA_len _ _)
  have lG : ∀ n, (kindG (diffG hv want) n).length ≤ hv.length := fun n => Nat.le_trans (kindG_len _ _) (diffG_len _ _)
  have early : ∀ n, (n = 0 ∨ n = 1 ∨ n = 2 ∨ n = 3) → x = (begin' hv want held).early n → StepOk hv want held x := by
    rintro n hn rfl
    exact ⟨hn, fun r hr => hA r n (List.mem_filter.1 hr).1, fun k hk => (by cases hk), Nat.le_trans (List.length_filter_le _ _) (lA n), Nat.zero_le _, h0, fun _ k hk => (by cases hk)⟩
  have late : ∀ n, (n = 0 ∨ n = 1 ∨ n = 2 ∨ n = 3) → x = (begin' hv want held).late n → StepOk hv want held x := by
    rintro n hn rfl
    exact ⟨hn, fun r hr => hA r n hr, fun k hk => (by cases hk), lA n, Nat.zero_le _, h0, fun _ k hk => (by cases hk)⟩
  have free : ∀ n, (n = 0 ∨ n = 1 ∨ n = 2 ∨ n = 3) → x = (begin' hv want held).free n → StepOk hv want held x := by
    rintro n hn rfl
    refine ⟨hn, fun r hr => (by cases hr), fun k hk => hG k n (List.mem_filter.1 hk).1, Nat.zero_le _, Nat.le_trans (List.length_filter_le _ _) (lG n), h0, fun _ k hk => ?_⟩
    have := (List.mem_filter.1 hk).2
    simp only [Job.freeK, Bool.not_eq_true', Bool.or_eq_false_iff] at this
    have h1 := of_decide_eq_false this.1
    have h2 := of_decide_eq_false this.2
    simp only [begin'] at h1 h2
    exact ⟨h1, by omega⟩
  simp only [Job.steps, List.mem_cons, List.not_mem_nil, or_false] at hm
  rcases hm with hm | hm | hm | hm | hm | hm | hm | hm | hm | hm
  · exact early 3 (by simp) hm
  · exact early 2 (by simp) hm
  · exact early 1 (by simp) hm
  · subst hm
    exact ⟨Or.inl rfl, fun r hr => hA r 0 hr, fun k hk => hG k 0 hk, lA 0, lG 0, h0, fun h => absurd rfl h⟩
  · exact late 3 (by simp) hm
  · exact late 2 (by simp) hm
  · exact late 1 (by simp) hm
  · exact free 1 (by simp) hm
  · exact free 2 (by simp) hm
  · exact free 3 (by simp) hm
theorem kind_is {n : Int} (h : n = 0 ∨ n = 1 ∨ n = 2 ∨ n = 3) : rngB n 3 = true := by
  rcases h with rfl | rfl | rfl | rfl <;> rfl
theorem kind_B {n : Int} (h : n = 0 ∨ n = 1 ∨ n = 2 ∨ n = 3) : Nonce.kindB n = true := by
  rcases h with rfl | rfl | rfl | rfl <;> rfl
/-- A push whose number is given: its number, and what is open behind it. -/
theorem push_good {o : Nonce.Ou} (h : Nonce.goodB o = true) {k : Int} (hk : k = 0 ∨ k = 1 ∨ k = 2 ∨ k = 3) (he : (Nonce.push o k).2.2 = 0) :
    Nonce.goodB (Nonce.push o k).1 = true ∧ rngB (Nonce.push o k).2.1 2147483647 = true ∧ (Nonce.push o k).1.open' k = true ∧ (Nonce.push o k).1.last k = (Nonce.push o k).2.1 := by
  simp only [Nonce.push, outF_of h] at he ⊢
  obtain ⟨a, b, c, d, x, y, z, t, m⟩ := o
  simp only [Nonce.goodB, Nonce.Ou.toI, Bool.and_eq_true, Nonce.soundB_mk] at h
  simp only [Nonce.pushQ, kind_B hk] at he ⊢
  rcases hk with rfl | rfl | rfl | rfl <;> simp only [Nonce.Ou.open', Nonce.Ou.last, Nonce.Ou.set] at he ⊢ <;>
    ((repeat' split at he) <;> first | (exfalso; revert he; decide) | skip) <;>
    simp_all [Nonce.goodB, Nonce.Ou.toI, Nonce.soundB_mk, rngB] <;> omega
theorem pushF_ok {hv want : List Res} {held : List Key} {x : Step} {s : Sess} {n : Int} (hx : StepOk hv want held x) (hS : SaneS s) (hv' : hv = s.v.have_) (hw : tabE want = 0) (hn : rngB n 2147483647 = true) : frameE (pushF s x n) = 0 := by
  subst hv'
  have hwl : want.length ≤ 64 := by
    unfold tabE at hw
    split at hw
    · cases hw
    · omega
  have hp := hS.plain
  simp only [plainB, Bool.and_eq_true, decide_eq_true_eq] at hp
  have hA : ∀ r ∈ x.adds, saneE r = 0 := fun r hr => tab_all hw (hx.adds r hr).1
  rw [frameE_zero]
  refine ⟨rfl, kind_is hx.kind, ?_, rfl, ?_, hA, ?_⟩
  · have h1 := hx.al; have h2 := hx.gl; have h3 := hS.hl
    simp only [smallF, pushF, Bool.and_eq_true, decide_eq_true_eq]
    have a1 : x.adds.length ≤ 64 := by omega
    have a2 : x.gone.length ≤ 64 := by omega
    exact ⟨⟨⟨⟨⟨⟨⟨⟨decide_eq_true a1, decide_eq_true a2⟩, by simp⟩, by simp⟩, by simp⟩, hp.1.1⟩, hn⟩, rfl⟩, rfl⟩
  · simp only [namedF, pushF, Bool.and_eq_true, List.all_eq_true]
    refine ⟨⟨fun k hk => ?_, by simp⟩, by simp⟩
    obtain ⟨r, hr, rfl⟩ := List.mem_map.1 (hx.gone k hk).1
    exact (hS.have_ r hr).2
  · simp only [kindF, pushF, Bool.and_eq_true, List.all_eq_true, decide_eq_true_eq]
    exact ⟨fun r hr => decide_eq_true (hx.adds r hr).2, fun k hk => decide_eq_true (hx.gone k hk).2⟩
theorem sent_sane {s : Sess} {x : Step} {want : List Res} (hS : SaneS s) (hx : StepOk s.v.have_ want s.v.held x) (hw : tabE want = 0) (hg : s.greeted = true) (he : (Nonce.push s.out x.kind).2.2 = 0) :
    saneS { s with v := sentV s.v (pushF s x (Nonce.push s.out x.kind).2.1), out := (Nonce.push s.out x.kind).1 } = true := by
  obtain ⟨g1, g2, g3, g4⟩ := push_good hS.out hx.kind he
  have hf := pushF_ok hx hS rfl hw g2
  rw [saneS_iff]
  refine ⟨hS.plain, g1, hS.hl, hS.have_, hS.dl, hS.turn, hS.held, fun _ => ?_⟩
  simp only [waitsB, sentV, Bool.and_eq_true, decide_eq_true_eq]
  exact ⟨⟨⟨⟨⟨hg, decide_eq_true hf⟩, decide_eq_true rfl⟩, decide_eq_true rfl⟩, g3⟩, decide_eq_true g4⟩
theorem now_tab {p : Store} (hp : sanS p = true) : tabE (nowL p) = 0 := by
  unfold nowL
  rw [sane_taken hp]
  exact (sane_acc hp).tab
/-- What a pump leaves: nothing sent and the session as it was, or one push of a step. -/
theorem pump_cases {s : Sess} (hs : saneS s = true) (p : Store) :
    (pump s p).1 = s ∧ (pump s p).2.1 = [] ∨
    ∃ x, nextP s.v.have_ (nowL p) s.v.held = .some x ∧ s.v.open_ = false ∧ s.greeted = true ∧ (Nonce.push s.out x.kind).2.2 = 0 ∧
      pump s p = ({ s with v := sentV s.v (pushF s x (Nonce.push s.out x.kind).2.1), out := (Nonce.push s.out x.kind).1 }, [pushF s x (Nonce.push s.out x.kind).2.1], 0) := by
  unfold pump
  rw [soundS_of hs]
  unfold pumpQ
  by_cases hi : idle s p = true
  · rw [if_pos hi]; exact Or.inl ⟨rfl, rfl⟩
  rw [if_neg hi]
  simp only [idle, Bool.or_eq_true, not_or, Bool.not_eq_true, Bool.not_eq_false'] at hi
  cases hn : nextP s.v.have_ (nowL p) s.v.held with
  | none => exact Or.inl ⟨rfl, rfl⟩
  | some x =>
    unfold pumpS
    by_cases he : (Nonce.push s.out x.kind).2.2 = 0
    · refine Or.inr ⟨x, rfl, hi.1.2, hi.1.1, he, ?_⟩
      simp only [if_pos he]
    · refine Or.inl ?_
      simp only [if_neg he]; exact ⟨trivial, trivial⟩
theorem pump_open {s : Sess} (hs : saneS s = true) (p : Store) (ho : s.v.open_ = true) : pump s p = (s, [], 0) := by
  unfold pump
  rw [soundS_of hs]
  simp [pumpQ, idle, ho]
theorem resend_open {s : Sess} (hs : saneS s = true) (ho : s.v.open_ = true) : resendF s = [s.v.push] := by
  simp [resendF, soundS_of hs, ho]
end Go.G
namespace Go.G
open Go.AI
theorem open_b {s : Sess} (S : SaneS s) (ho : s.v.open_ = true) : s.v.have_.length + s.v.push.adds.length ≤ 1000000 ∧ s.v.push.gone.length ≤ 9223372036854775807 := by
  have hw := S.waits ho
  simp only [waitsB, Bool.and_eq_true, decide_eq_true_eq] at hw
  have P := frameE_zero.1 hw.1.1.1.1.2
  have L := small_len P.small
  have := S.hl
  omega
theorem drain_okG {v : View} (h : v.held.length ≤ 9223372036854775807) : OkFrame (drainF v) := ⟨⟨by simp [drainF], by simp [drainF]⟩, by simp [drainF], by simp [drainF], h⟩
theorem zFrame_ok : OkFrame zFrame := ⟨⟨by simp [zFrame], by simp [zFrame]⟩, by simp [zFrame], by simp [zFrame], by simp [zFrame]⟩
theorem zView_ok : OkView zView := ⟨⟨by simp [zView], by simp [zView]⟩, by simp [zView], zFrame_ok⟩
theorem soundS_ok {s : Sess} (h : OkSess s) : OkSess (soundS s) := by
  unfold soundS
  split
  · exact h
  · exact ⟨zView_ok⟩
end Go.G
end
section
namespace Go.G
open Go.AI
def xC : Res := ⟨2, ⟨#[99]⟩, 0, 0, ⟨#[101]⟩, [], []⟩
def xE : Res := ⟨3, ⟨#[101]⟩, 0, 0, ⟨#[]⟩, [], []⟩
def xP : Store := ⟨9, [[], [{ xC with ver := 1 }, { xE with ver := 1 }]]⟩
def xF : Frame := ⟨0, 4, 0, 0, 0, [], [], 0, [], []⟩
def xS : Sess := ⟨4, true, Nonce.startO 9, zView, 0, 0⟩
def xG : Frame := ⟨1, 4, 3, 1, 0, [{ xE with ver := 1 }], [], 0, [], []⟩
def xT : Sess := ⟨4, true, ⟨0, 0, 0, 1, false, false, false, true, 9⟩, ⟨[], [], 0, xG, true⟩, 0, 0⟩
theorem w1 : propS (newS 9) [xC, xE] [] = xP := by decide +kernel
theorem w2 : propE (newS 9) [xC, xE] [] = 0 := by decide +kernel
theorem w3 : handle (newSess 4 9) xP xF = (xS, 0) := by decide +kernel
theorem w4a : nowL xP = [{ xC with ver := 1 }, { xE with ver := 1 }] := by decide +kernel
theorem w4b : reachR (nowL xP) = [] := by
  rw [w4a]
  simp [reachR, reachedL, rootsR, xC, xE]
theorem w4c : nextP [] (nowL xP) [] = some ⟨3, [{ xE with ver := 1 }], []⟩ := by
  unfold nextP begin'
  rw [w4b, w4a]
  decide +kernel
theorem w4 : pump xS xP = (xT, [xG], 0) := by
  have h1 : saneS xS = true := by decide +kernel
  have h2 : idle xS xP = false := by decide +kernel
  have h3 : nextP xS.v.have_ (nowL xP) xS.v.held = some ⟨3, [{ xE with ver := 1 }], []⟩ := w4c
  unfold pump
  rw [soundS_of h1]
  unfold pumpQ
  rw [if_neg (by rw [h2]; decide), h3]
  decide +kernel
theorem w5 : resendF xT = [xG] := by decide +kernel
theorem w6 : saneS xT = true := by decide +kernel
theorem w7 : sanS xP = true := by decide +kernel
theorem w8 : AscR (nowL xP) ∧ (nowL xP).length ≤ 100000 := ⟨tabE_asc (now_tab w7), by decide +kernel⟩
end Go.G
end
