/-
  LAYERS 10, 13, 15, 20: frames that may be, numbers of pushes, steps, sessions: plainly.
-/
import Derived.Test.YtbmnaehodmgibaaGreatDoorPn
set_option linter.unusedSimpArgs false
set_option linter.unusedVariables false
section
namespace Go.Nonce
structure Ou where
 (l0 l1 l2 l3 : Int) (o0 o1 o2 o3 : Bool) (m : Int)
 deriving DecidableEq
structure Nn where
 (l0 l1 l2 l3 m : Int)
 deriving DecidableEq
def bnd (n : Int) : Int := max 1 (min n 2147483647)
def startO (n : Int) : Ou := ⟨0, 0, 0, 0, false, false, false, false, bnd n⟩
def startI (n : Int) : Nn := ⟨0, 0, 0, 0, bnd n⟩
def soundB (i : Nn) : Bool :=
 decide (0 ≤ i.l0) && decide (i.l0 ≤ i.m) && decide (0 ≤ i.l1) && decide (i.l1 ≤ i.m) && decide (0 ≤ i.l2) && decide (i.l2 ≤ i.m) && decide (0 ≤ i.l3) && decide (i.l3 ≤ i.m) && decide (1 ≤ i.m) && decide (i.m ≤ 2147483647)
def Ou.toI (o : Ou) : Nn := ⟨o.l0, o.l1, o.l2, o.l3, o.m⟩
def goodB (o : Ou) : Bool :=
 !(o.o0 && decide (o.l0 = 0)) && !(o.o1 && decide (o.l1 = 0)) && !(o.o2 && decide (o.l2 = 0)) && !(o.o3 && decide (o.l3 = 0)) && soundB o.toI
def outF (o : Ou) : Ou := if goodB o then o else startO o.m
def inF (i : Nn) : Nn := if soundB i then i else startI i.m
def kindB (k : Int) : Bool := decide (0 ≤ k) && decide (k < 4)
def Ou.last (o : Ou) (k : Int) : Int := if k = 0 then o.l0 else if k = 1 then o.l1 else if k = 2 then o.l2 else o.l3
def Ou.open' (o : Ou) (k : Int) : Bool := if k = 0 then o.o0 else if k = 1 then o.o1 else if k = 2 then o.o2 else o.o3
def Ou.set (o : Ou) (k l : Int) (b : Bool) : Ou :=
 if k = 0 then { o with l0 := l, o0 := b } else if k = 1 then { o with l1 := l, o1 := b } else if k = 2 then { o with l2 := l, o2 := b } else { o with l3 := l, o3 := b }
def Nn.last (o : Nn) (k : Int) : Int := if k = 0 then o.l0 else if k = 1 then o.l1 else if k = 2 then o.l2 else o.l3
def Nn.set (o : Nn) (k l : Int) : Nn :=
 if k = 0 then { o with l0 := l } else if k = 1 then { o with l1 := l } else if k = 2 then { o with l2 := l } else { o with l3 := l }
def pushQ (o : Ou) (k : Int) : Ou × Int × Int :=
 if kindB k = false then (o, 0, 4)
 else if o.open' k then (o, 0, 15)
 else if o.last k = o.m then (o, 0, 14)
 else (o.set k (o.last k + 1) true, o.last k + 1, 0)
def push (o : Ou) (k : Int) : Ou × Int × Int := pushQ (outF o) k
def doneQ (o : Ou) (k n : Int) : Ou × Int :=
 if kindB k = false then (o, 4)
 else if o.open' k = false ∨ n ≠ o.last k then (o, 11)
 else (o.set k (o.last k) false, 0)
def done (o : Ou) (k n : Int) : Ou × Int := doneQ (outF o) k n
def takeQ (i : Nn) (k n : Int) : Nn × Int :=
 if kindB k = false then (i, 4)
 else if n ≠ 0 ∧ n = i.last k then (i, 9)
 else if n ≠ i.last k + 1 ∨ i.m < n then (i, 11)
 else (i.set k n, 0)
def take (i : Nn) (k n : Int) : Nn × Int := takeQ (inF i) k n
theorem soundB_mk (a b c d m : Int) : (soundB ⟨a, b, c, d, m⟩ = true) = (0 ≤ a ∧ a ≤ m ∧ 0 ≤ b ∧ b ≤ m ∧ 0 ≤ c ∧ c ≤ m ∧ 0 ≤ d ∧ d ≤ m ∧ 1 ≤ m ∧ m ≤ 2147483647) := by
 simp [soundB, and_assoc]
theorem bnd_ok (n : Int) : 1 ≤ bnd n ∧ bnd n ≤ 2147483647 := by simp only [bnd]; omega
def Ou.ok (o : Ou) : Prop := (0 ≤ o.l0 ∧ o.l0 ≤ o.m ∧ 0 ≤ o.l1 ∧ o.l1 ≤ o.m ∧ 0 ≤ o.l2 ∧ o.l2 ≤ o.m ∧ 0 ≤ o.l3 ∧ o.l3 ≤ o.m ∧ 1 ≤ o.m ∧ o.m ≤ 2147483647)
def Nn.ok (o : Nn) : Prop := (0 ≤ o.l0 ∧ o.l0 ≤ o.m ∧ 0 ≤ o.l1 ∧ o.l1 ≤ o.m ∧ 0 ≤ o.l2 ∧ o.l2 ≤ o.m ∧ 0 ≤ o.l3 ∧ o.l3 ≤ o.m ∧ 1 ≤ o.m ∧ o.m ≤ 2147483647)
theorem outF_ok (o : Ou) : (outF o).ok := by
 obtain ⟨a, b, c, d, x, y, z, t, m⟩ := o
 simp only [outF]
 by_cases h : goodB ⟨a, b, c, d, x, y, z, t, m⟩ = true
 ·rw [if_pos h]
  simp only [goodB, Ou.toI, Bool.and_eq_true, soundB_mk] at h
  exact h.2
 ·rw [if_neg h]
  have := bnd_ok m
  simp only [Ou.ok, startO]; omega
theorem inF_ok (o : Nn) : (inF o).ok := by
 obtain ⟨a, b, c, d, m⟩ := o
 simp only [inF]
 by_cases h : soundB ⟨a, b, c, d, m⟩ = true
 ·rw [if_pos h]
  rw [soundB_mk] at h
  exact h
 ·rw [if_neg h]
  have := bnd_ok m
  simp only [Nn.ok, startI]; omega
theorem kindB_is {k : Int} (h : kindB k = true) : k = 0 ∨ k = 1 ∨ k = 2 ∨ k = 3 := by
 simp only [kindB, Bool.and_eq_true, decide_eq_true_iff] at h; omega
end Go.Nonce
end
section
namespace Go.G
open Go.AI
def okK (k : Key) : Bool := rngB k.kind 3 && zcr k.name
def zbs (f : Frame) : Bool :=
 (decide (f.adds.length ≤ 64) && decide (f.gone.length ≤ 64) && decide (f.have_.length ≤ 64) && decide (f.held.length ≤ 64))
   && (f.have_.all fun m => rngB m.ver 2147483647) && rngB f.epoch 2147483647 && rngB f.nonce 2147483647 && rngB f.turn 2147483647 && rngB f.err 15
def zif (f : Frame) : Frame :=
 if f.type = 0 then { f with epoch := 0, have_ := [] }
 else if f.type = 1 then { f with epoch := 0, kind := 0, nonce := 0, adds := [], gone := [] }
 else if f.type = 2 then { f with epoch := 0, kind := 0, nonce := 0, err := 0, turn := 0, held := [] }
 else if f.type = 3 then { f with epoch := 0, turn := 0, held := [] }
 else { f with epoch := 0 }
def zeo (f : Frame) : Bool := decide (zif f = { zFrame with type := f.type })
def zbw (f : Frame) : Bool := f.gone.all okK && f.held.all okK && f.have_.all fun m => okK m.k
def zi3 (f : Frame) : Bool := (f.adds.all fun r => decide (r.kind = f.kind)) && f.gone.all fun k => decide (k.kind = f.kind)
def za6 (f : Frame) : Int :=
 if (rngB f.type 3 && rngB f.kind 3) = false then 4 else if zbs f = false then 3 else if zeo f = false then 2 else if zbw f = false then 5
 else if ¬ zb9 f.adds = 0 then zb9 f.adds else if zi3 f = false then 2 else 0
@[simp] def ouC (o : Nonce.Ou) : List D := [iD o.l0, iD o.l1, iD o.l2, iD o.l3, bD o.o0, bD o.o1, bD o.o2, bD o.o3, iD o.m]
structure Sess where
 epoch : Int
 greeted : Bool
 out : Nonce.Ou
 v : View
 stuck : Int
 at_ : Int
 deriving DecidableEq
@[simp] def zcb (s : Sess) : List D := [iD s.epoch, bD s.greeted] ++ ouC s.out ++ zjm s.v ++ [iD s.stuck, iD s.at_]
structure OkSess (s : Sess) : Prop where
 v : OkView s.v
def zView : View := ⟨[], [], 0, zFrame, false⟩
def zan (epoch most : Int) : Sess := ⟨max 0 (min epoch 2147483647), false, Nonce.startO most, zView, 0, 0⟩
def zcz (v : View) : Frame := ⟨0, 0, 0, 0, 0, [], [], 0, zch v.have_, []⟩
def zdz (v : View) : Frame := ⟨3, 0, 0, 0, v.turn, [], [], 0, [], v.held⟩
def zqm (v : View) : Bool := decide (za6 (zcz v) = 0) && decide (za6 (zdz v) = 0)
def zbd (s : Sess) : Bool :=
 s.greeted && decide (za6 s.v.push = 0) && decide (s.v.push.type = 1) && decide (s.v.push.epoch = s.epoch)
  && s.out.open' s.v.push.kind && decide (s.out.last s.v.push.kind = s.v.push.nonce)
def zcq (s : Sess) : Bool := rngB s.epoch 2147483647 && decide (0 ≤ s.at_) && rngB s.stuck 15
def zba (s : Sess) : Bool := zcq s && Nonce.goodB s.out && zqm s.v && (!s.v.open_ || zbd s)
def zbh (s : Sess) : Sess := if zba s then s else zan s.epoch s.out.m
def nowL (p : Store) : List Res := zam (zaw p)
def nowI (p : Store) : Int := ((zaw p).hist.length : Int) - 1
def zg1 (p : Store) (v : View) (l : List Mark) : View := { v with have_ := zci p l, held := if v.turn = 0 then (zci p l).map Res.key else v.held }
def zgj (s : Sess) (p : Store) (f : Frame) : Sess × Int := if s.greeted = true then (s, 9) else ({ s with greeted := true, v := zg1 p s.v f.have_ }, 0)
def ackH (s : Sess) (p : Store) (f : Frame) : Sess × Int :=
 if ¬ (Nonce.done s.out f.kind f.nonce).2 = 0 then (s, (Nonce.done s.out f.kind f.nonce).2) else if s.v.open_ = false then (s, 15)
 else if (ansV s.v f).open_ = true then (s, 11) else if 64 < (ansV s.v f).have_.length then (s, 3)
 else (⟨s.epoch, s.greeted, (Nonce.done s.out f.kind f.nonce).1, ansV s.v f, f.err, nowI p⟩, 0)
def zkr (s : Sess) (f : Frame) : Sess × Int := ({ s with v := zc1 s.v f.turn f.held }, 0)
def zbq (s : Sess) (p : Store) (f : Frame) : Sess × Int :=
 if ¬ za6 f = 0 then (s, za6 f) else if ¬ f.epoch = s.epoch then (s, 11)
 else if f.type = 0 then zgj s p f else if f.type = 1 then (s, 2) else if f.type = 2 then ackH s p f else zkr s f
def handle (s : Sess) (p : Store) (f : Frame) : Sess × Int := zbq (zbh s) p f
structure Step where
 kind : Int
 adds : List Res
 gone : List Key
 deriving DecidableEq
@[simp] def zte (s : Step) : List D := [iD s.kind, lD (s.adds.map resC), lD (s.gone.map keyC)]
def zev (l : List Res) (n : Int) : List Res := l.filter fun r => decide (r.kind = n)
def zgm (l : List Key) (n : Int) : List Key := l.filter fun k => decide (k.kind = n)
structure Job where
 adds : List Res
 gone : List Key
 reach : List Key
 have_ : List Res
 held : List Key
def zah (hv want : List Res) (held : List Key) : Job := ⟨zca hv want, zda hv want, (zal want).map Res.key, hv, held⟩
def Job.early (j : Job) (n : Int) : Step := ⟨n, (zev j.adds n).filter fun r => decide (r.key ∈ j.reach), []⟩
def Job.late (j : Job) (n : Int) : Step := ⟨n, zev j.adds n, []⟩
def Job.off (j : Job) (n : Int) : Step := ⟨n, [], zgm j.gone n⟩
def Job.freeK (j : Job) (k : Key) : Bool := !(decide (k ∈ j.held) || decide (0 < (zc8 j.have_ k).length))
def Job.free (j : Job) (n : Int) : Step := ⟨n, [], (zgm j.gone n).filter j.freeK⟩
def Job.doors (j : Job) (n : Int) : Step := ⟨n, zev j.adds n, zgm j.gone n⟩
def Step.none (s : Step) : Bool := decide (s.adds.length + s.gone.length = 0)
def seek (g : Int → Step) : List Int → Step → Step × Bool
 | [], s => (s, false)
 | n :: l, _ => if (g n).none then seek g l (g n) else (g n, true)
def Job.steps (j : Job) : List Step := [j.early 3, j.early 2, j.early 1, j.doors 0, j.late 3, j.late 2, j.late 1, j.free 1, j.free 2, j.free 3]
def zeq (hv want : List Res) (held : List Key) : Option Step := (zah hv want held).steps.find? fun s => !s.none
def zbe (s : Sess) (x : Step) (n : Int) : Frame := ⟨1, s.epoch, x.kind, n, 0, x.adds, x.gone, 0, [], []⟩
def idle (s : Sess) (p : Store) : Bool := !s.greeted || s.v.open_ || (!decide (s.stuck = 0) && decide (s.at_ = nowI p))
def zl6 (s : Sess) (x : Step) : Sess × List Frame × Int :=
 if (Nonce.push s.out x.kind).2.2 = 0 then
  ({ s with v := zh2 s.v (zbe s x (Nonce.push s.out x.kind).2.1), out := (Nonce.push s.out x.kind).1 }, [zbe s x (Nonce.push s.out x.kind).2.1], 0)
 else (s, [], (Nonce.push s.out x.kind).2.2)
def zec (s : Sess) (p : Store) : Sess × List Frame × Int :=
 if idle s p = true then (s, [], 0) else
 match zeq s.v.have_ (nowL p) s.v.held with
 | .none => (s, [], 0)
 | .some x => zl6 s x
def pump (s : Sess) (p : Store) : Sess × List Frame × Int := zec (zbh s) p
def zd3 (s : Sess) : List Frame := if (zbh s).v.open_ = true then [(zbh s).v.push] else []
def zea (s : Sess) (p : Store) : Bool := (zbh s).greeted && !(zbh s).v.open_ && decide ((zbh s).v.have_ = nowL p)
theorem firstE_zero {l : List Res} : zb9 l = 0 ↔ ∀ r ∈ l, zbl r = 0 := by
 unfold zb9
 constructor
 ·intro h r hr
  split at h
  ·rename_i x hx
   have := List.find?_some hx
   simp [h] at this
  ·rename_i hx
   have := List.find?_eq_none.1 hx r hr
   simpa using this
 ·intro h
  have : l.find? (fun r => !decide (zbl r = 0)) = none := by rw [List.find?_eq_none]; intro r hr; simp [h r hr]
  rw [this]
structure OkF (f : Frame) : Prop where
 type : rngB f.type 3 = true
 kind : rngB f.kind 3 = true
 small : zbs f = true
 shaped : zeo f = true
 named : zbw f = true
 adds : ∀ r ∈ f.adds, zbl r = 0
 alike : zi3 f = true
theorem frameE_zero {f : Frame} : za6 f = 0 ↔ OkF f := by
 constructor
 ·intro h
  unfold za6 at h
  (repeat' split at h) <;> first | omega | skip
  rename_i h1 h2 h3 h4 h5 h6
  simp at h1 h2 h3 h4 h5 h6
  exact ⟨h1.1, h1.2, h2, h3, h4, firstE_zero.1 h5, h6⟩
 ·intro h
  unfold za6
  have := firstE_zero.2 h.adds
  simp [h.type, h.kind, h.small, h.shaped, h.named, this, h.alike]
theorem zcp {f : Frame} (h : zbs f = true) : f.adds.length ≤ 64 ∧ f.gone.length ≤ 64 ∧ f.have_.length ≤ 64 ∧ f.held.length ≤ 64 ∧ (∀ m ∈ f.have_, rngB m.ver 2147483647 = true) ∧ rngB f.epoch 2147483647 = true ∧ rngB f.nonce 2147483647 = true ∧ rngB f.turn 2147483647 = true ∧ rngB f.err 15 = true := by
 simp only [zbs, Bool.and_eq_true, decide_eq_true_eq, List.all_eq_true] at h
 exact ⟨h.1.1.1.1.1.1.1.1, h.1.1.1.1.1.1.1.2, h.1.1.1.1.1.1.2, h.1.1.1.1.1.2, h.1.1.1.1.2, h.1.1.1.2, h.1.1.2, h.1.2, h.2⟩
theorem hello_ok {v : View} : za6 (zcz v) = 0 ↔ v.have_.length ≤ 64 ∧ ∀ r ∈ v.have_, rngB r.ver 2147483647 = true ∧ okK r.key = true := by
 rw [frameE_zero]
 constructor
 ·intro h
  have h1 := zcp h.small
  refine ⟨by simpa [zcz] using h1.2.2.1, fun r hr => ⟨?_, ?_⟩⟩
  ·exact h1.2.2.2.2.1 ⟨r.key, r.ver⟩ (List.mem_map.2 ⟨r, hr, rfl⟩)
  ·have := h.named
   simp only [zbw, zcz, Bool.and_eq_true, List.all_eq_true] at this
   exact this.2 ⟨r.key, r.ver⟩ (List.mem_map.2 ⟨r, hr, rfl⟩)
 ·rintro ⟨h1, h2⟩
  refine ⟨rfl, rfl, ?_, rfl, ?_, by simp [zcz], rfl⟩
  ·simp only [zbs, zcz, Bool.and_eq_true, decide_eq_true_eq, List.all_eq_true]
   refine ⟨⟨⟨⟨⟨⟨⟨⟨by simp, by simp⟩, by simpa using h1⟩, by simp⟩, ?_⟩, rfl⟩, rfl⟩, rfl⟩, rfl⟩
   intro m hm
   obtain ⟨r, hr, rfl⟩ := List.mem_map.1 hm
   exact (h2 r hr).1
  ·simp only [zbw, zcz, Bool.and_eq_true, List.all_eq_true]
   refine ⟨⟨by simp, by simp⟩, fun m hm => ?_⟩
   obtain ⟨r, hr, rfl⟩ := List.mem_map.1 hm
   exact (h2 r hr).2
theorem drain_ok {v : View} : za6 (zdz v) = 0 ↔ v.held.length ≤ 64 ∧ rngB v.turn 2147483647 = true ∧ ∀ k ∈ v.held, okK k = true := by
 rw [frameE_zero]
 constructor
 ·intro h
  have h1 := zcp h.small
  refine ⟨h1.2.2.2.1, h1.2.2.2.2.2.2.2.1, fun k hk => ?_⟩
  have := h.named
  simp only [zbw, zdz, Bool.and_eq_true, List.all_eq_true] at this
  exact this.1.2 k hk
 ·rintro ⟨h1, h2, h3⟩
  refine ⟨rfl, rfl, ?_, rfl, ?_, by simp [zdz], rfl⟩
  ·simp only [zbs, zdz, Bool.and_eq_true, decide_eq_true_eq, List.all_eq_true]
   exact ⟨⟨⟨⟨⟨⟨⟨⟨by simp, by simp⟩, by simp⟩, by first | exact h1 | exact decide_eq_true h1⟩, by simp⟩, rfl⟩, rfl⟩, h2⟩, rfl⟩
  ·simp only [zbw, zdz, Bool.and_eq_true, List.all_eq_true]
   exact ⟨⟨by simp, h3⟩, by simp⟩
structure SaneS (s : Sess) : Prop where
 plain : zcq s = true
 out : Nonce.goodB s.out = true
 hl : s.v.have_.length ≤ 64
 have_ : ∀ r ∈ s.v.have_, rngB r.ver 2147483647 = true ∧ okK r.key = true
 dl : s.v.held.length ≤ 64
 turn : rngB s.v.turn 2147483647 = true
 held : ∀ k ∈ s.v.held, okK k = true
 waits : s.v.open_ = true → zbd s = true
theorem saneS_iff {s : Sess} : zba s = true ↔ SaneS s := by
 constructor
 ·intro h
  simp only [zba, zqm, Bool.and_eq_true, decide_eq_true_eq] at h
  obtain ⟨⟨⟨h1, h2⟩, h3, h4⟩, h5⟩ := h
  rw [hello_ok] at h3
  rw [drain_ok] at h4
  exact ⟨h1, h2, h3.1, h3.2, h4.1, h4.2.1, h4.2.2, fun h => by simpa [h] using h5⟩
 ·intro h
  simp only [zba, zqm, Bool.and_eq_true, decide_eq_true_eq]
  refine ⟨⟨⟨h.plain, h.out⟩, hello_ok.2 ⟨h.hl, h.have_⟩, drain_ok.2 ⟨h.dl, h.turn, h.held⟩⟩, ?_⟩
  cases ho : s.v.open_ with
  | false => rfl
  | true => simpa using h.waits ho
theorem zxw (n : Int) : Nonce.goodB (Nonce.startO n) = true := by
 have := Nonce.bnd_ok n
 simp only [Nonce.goodB, Nonce.startO, Nonce.Ou.toI, Bool.and_eq_true, Nonce.soundB_mk]
 refine ⟨by simp, ?_⟩
 omega
theorem zcy (e m : Int) : zba (zan e m) = true := by
 rw [saneS_iff]
 refine ⟨?_, zxw m, by simp [zan, zView], by simp [zan, zView], by simp [zan, zView], by simp [zan, zView, rngB], by simp [zan, zView], by simp [zan, zView]⟩
 simp only [zcq, zan, rngB, Bool.and_eq_true, decide_eq_true_eq]
 refine ⟨⟨⟨?_, ?_⟩, by simp⟩, by simp, by simp⟩ <;> first | omega | (refine decide_eq_true ?_; omega)
theorem zlo (s : Sess) : zba (zbh s) = true := by
 unfold zbh
 split
 ·assumption
 ·exact zcy _ _
theorem zbk {s : Sess} (h : zba s = true) : zbh s = s := by simp [zbh, h]
theorem zzw {o : Nonce.Ou} (h : Nonce.goodB o = true) : Nonce.outF o = o := by simp [Nonce.outF, h]
theorem zin {r : Res} (h : zbl r = 0) : rngB r.ver 2147483647 = true ∧ okK r.key = true := by
 cases h1 : rngB r.kind 3 with
 | false => simp [zbl, h1] at h
 | true =>
   cases h2 : zcr r.name with
   | false => simp [zbl, h1, h2] at h
   | true =>
     cases h3 : zb0 r with
     | false => simp [zbl, h1, h2, h3] at h
     | true =>
       refine ⟨?_, by simp [okK, Res.key, h1, h2]⟩
       simp only [zb0, Bool.and_eq_true] at h3
       exact h3.1.1.1.1.1
theorem qa6 {o : Nonce.Ou} (h : Nonce.goodB o = true) (k n : Int) : Nonce.goodB (Nonce.done o k n).1 = true := by
 simp only [Nonce.done, zzw h]
 obtain ⟨a, b, c, d, x, y, z, t, m⟩ := o
 simp only [Nonce.doneQ]
 split
 ·exact h
 ·split
  ·exact h
  ·simp only [Nonce.Ou.set, Nonce.Ou.last]
   simp only [Nonce.goodB, Nonce.Ou.toI, Bool.and_eq_true] at h ⊢
   (repeat' split) <;> simp_all
end Go.G
end
section
namespace Go.G
open Go.AI
theorem qah {p : Store} {l : List Mark} {x : Res} (h : x ∈ zci p l) : ∃ m ∈ l, x.key = m.k ∧ x.ver = m.ver := by
 rcases zf6 h with h | h
 ·cases h
 ·obtain ⟨m, hm, rfl⟩ := List.mem_map.1 h
  exact ⟨m, hm, qg6 p m, qg5 p m⟩
theorem qdc (p : Store) : 0 ≤ nowI p := by
 have : 0 < (zaw p).hist.length := by
  unfold zaw
  split
  ·simp [newS]
  ·rename_i h; exact List.length_pos_iff.2 h
 unfold nowI; omega
theorem rngB_iff {n m : Int} : rngB n m = true ↔ 0 ≤ n ∧ n ≤ m := by simp [rngB]
theorem qes {v : View} {f : Frame} {x : Res} (h : x ∈ (ansV v f).have_) : x ∈ v.have_ ∨ (v.open_ = true ∧ x ∈ v.push.adds) := by
 unfold ansV at h
 split at h
 ·exact Or.inl h
 ·rename_i ho
  split at h
  ·exact Or.inl h
  ·simp only at h
   split at h
   ·rcases zmd h with h | h
    ·exact Or.inl h
    ·exact Or.inr ⟨by simpa using ho, h⟩
   ·exact Or.inl h
theorem zmw (v : View) (t : Int) (h : List Key) : (zc1 v t h).held = (if v.turn < t then h else v.held) ∧ (zc1 v t h).turn = (if v.turn < t then t else v.turn) := by
 unfold zc1; split <;> simp
theorem zpz (v : View) (f : Frame) : ((ansV v f).held = v.held ∧ (ansV v f).turn = v.turn) ∨ (v.turn < f.turn ∧ (ansV v f).held = f.held ∧ (ansV v f).turn = f.turn) := by
 unfold ansV
 split
 ·exact Or.inl ⟨rfl, rfl⟩
 ·split
  ·exact Or.inl ⟨rfl, rfl⟩
  ·have := zmw ⟨v.have_, v.held, v.turn, zFrame, false⟩ f.turn f.held
   simp only at this ⊢
   rw [this.1, this.2]
   split
   ·exact Or.inr ⟨by assumption, rfl, rfl⟩
   ·exact Or.inl ⟨rfl, rfl⟩
theorem zes {s : Sess} (p : Store) (f : Frame) (hs : zba s = true) : zba (handle s p f).1 = true := by
 unfold handle
 rw [zbk hs]
 unfold zbq
 have S := saneS_iff.1 hs
 split
 ·exact hs
 ·rename_i hf
  have F := frameE_zero.1 (Decidable.not_not.1 hf)
  have L := zcp F.small
  split
  ·exact hs
  ·split
   ·unfold zgj
    split
    ·exact hs
    ·rename_i hg
     have hno : s.v.open_ = false := by
      cases ho : s.v.open_ with
      | false => rfl
      | true =>
        have := S.waits ho
        simp only [zbd, Bool.and_eq_true] at this
        exact absurd this.1.1.1.1.1 hg
     have hk : ∀ r ∈ zci p f.have_, rngB r.ver 2147483647 = true ∧ okK r.key = true := by
      intro r hr
      obtain ⟨m, hm, h1, h2⟩ := qah hr
      have hn := F.named
      simp only [zbw, Bool.and_eq_true, List.all_eq_true] at hn
      rw [h1, h2]
      exact ⟨L.2.2.2.2.1 m hm, hn.2 m hm⟩
     have hl : (zci p f.have_).length ≤ 64 := Nat.le_trans (zmi p _) L.2.2.1
     rw [saneS_iff]
     refine ⟨S.plain, S.out, hl, hk, ?_, S.turn, ?_, ?_⟩
     ·simp only [zg1]; split
      ·simpa using hl
      ·exact S.dl
     ·simp only [zg1]; split
      ·intro k hk'
       obtain ⟨r, hr, rfl⟩ := List.mem_map.1 hk'
       exact (hk r hr).2
      ·exact S.held
     ·intro ho; rw [show ({ s with greeted := true, v := zg1 p s.v f.have_ } : Sess).v.open_ = s.v.open_ from rfl, hno] at ho; cases ho
   ·split
    ·exact hs
    ·split
     ·unfold ackH
      split
      ·exact hs
      ·split
       ·exact hs
       ·rename_i hop
        split
        ·exact hs
        ·rename_i hcl
         split
         ·exact hs
         ·rename_i h64
          rw [saneS_iff]
          have hw := S.waits (by simpa using hop)
          simp only [zbd, Bool.and_eq_true, decide_eq_true_eq] at hw
          have P := frameE_zero.1 hw.1.1.1.1.2
          have hp := S.plain
          simp only [zcq, Bool.and_eq_true, decide_eq_true_eq] at hp
          refine ⟨?_, qa6 S.out _ _, by simpa using h64, ?_, ?_, ?_, ?_, ?_⟩
          ·simp only [zcq, Bool.and_eq_true, decide_eq_true_eq]
           exact ⟨⟨hp.1.1, qdc p⟩, L.2.2.2.2.2.2.2.2⟩
          ·intro r hr
           rcases qes hr with h | ⟨_, h⟩
           ·exact S.have_ r h
           ·exact zin (P.adds r h)
          ·rcases zpz s.v f with h | h
           ·rw [h.1]; exact S.dl
           ·rw [h.2.1]; exact L.2.2.2.1
          ·rcases zpz s.v f with h | h
           ·rw [h.2]; exact S.turn
           ·rw [h.2.2]; exact L.2.2.2.2.2.2.2.1
          ·rcases zpz s.v f with h | h
           ·rw [h.1]; exact S.held
           ·rw [h.2.1]
            have hn := F.named
            simp only [zbw, Bool.and_eq_true, List.all_eq_true] at hn
            exact hn.1.2
          ·intro ho; exact absurd ho hcl
     ·unfold zkr
      rw [saneS_iff]
      have hd := zmw s.v f.turn f.held
      refine ⟨S.plain, S.out, by simpa using S.hl, by simpa using S.have_, ?_, ?_, ?_, ?_⟩
      ·simp only [hd.1]; split
       ·exact L.2.2.2.1
       ·exact S.dl
      ·simp only [hd.2]; split
       ·exact L.2.2.2.2.2.2.2.1
       ·exact S.turn
      ·simp only [hd.1]; split
       ·have hn := F.named
        simp only [zbw, Bool.and_eq_true, List.all_eq_true] at hn
        exact hn.1.2
       ·exact S.held
      ·intro ho
       have := S.waits (by simpa using ho)
       simpa [zbd] using this
end Go.G
namespace Go.G
open Go.AI
theorem zgv (x m : Int) (hm : 1 ≤ m) : ((if 0 < (if m < x then m else x) then (if m < x then m else x) else 0) = x) ↔ (0 ≤ x ∧ x ≤ m) := by
 by_cases h : m < x <;> simp [h] <;> (try omega)
end Go.G
namespace Go.G
open Go.AI
theorem zmm {s : Sess} (p : Store) (f : Frame) (hs : zba s = true) : (handle s p f).1.v.push = s.v.push ∨ (handle s p f).1.v.push = zFrame := by
 unfold handle
 rw [zbk hs]
 unfold zbq zgj ackH zkr zg1
 (repeat' split) <;> first | exact Or.inl rfl | skip
 ·rcases qer s.v f with e | e
  ·exact Or.inl e
  ·exact Or.inr e
 ·exact Or.inl (zx1 _ _ _)
end Go.G
end
section
namespace Go.G
open Go.AI
theorem qh5 (n : Int) : (if 1 < (if 2147483647 < n then 2147483647 else n) then (if 2147483647 < n then (2147483647 : Int) else n) else 1) = Nonce.bnd n := by
 unfold Nonce.bnd
 by_cases h : 2147483647 < n
 ·simp [h]; omega
 ·simp [h]; omega
theorem qd8 {l : List Int} {k : Nat} {x : Int} (h : (l.take k).all (fun e => decide (e = 0)) = true) (hr : l[k]? = some x) (hx : ¬ x = 0) : (l.find? fun e => !decide (e = 0)) = some x :=
 zpj (k := k) (x := x) (by simpa using h) hr (by simpa using hx)
theorem qbf {l : List Int} (h : l.all (fun e => decide (e = 0)) = true) : (l.find? fun e => !decide (e = 0)) = none :=
 zms (by simpa using h)
theorem zj9 {α : Type} (l : List α) (p : α → Bool) : (l.any fun x => !p x) = !l.all p := by
 induction l with
 | nil => rfl
 | cons a l ih => simp [ih, Bool.not_and]
theorem qib {f : Frame} (h : OkFrame f) : OkFrame (zif f) := by
 have h0 : OkRs [] := ⟨by simp, by simp⟩
 unfold zif
 (repeat' split) <;> constructor <;> first | exact h.adds | exact h.gone | exact h.have_ | exact h.held | exact h0 | simp
theorem zy3 (i : Nonce.Nn) (h : (decide ((if 0 < (if i.m < i.l0 then i.m else i.l0) then (if i.m < i.l0 then i.m else i.l0) else 0) = i.l0) && (decide ((if 0 < (if i.m < i.l1 then i.m else i.l1) then (if i.m < i.l1 then i.m else i.l1) else 0) = i.l1) && (decide ((if 0 < (if i.m < i.l2 then i.m else i.l2) then (if i.m < i.l2 then i.m else i.l2) else 0) = i.l2) && decide ((if 0 < (if i.m < i.l3 then i.m else i.l3) then (if i.m < i.l3 then i.m else i.l3) else 0) = i.l3)))) = true) : decide (i.m = Nonce.bnd i.m) = Nonce.soundB i := by
 obtain ⟨a, b, c, d, m⟩ := i
 simp only [Bool.and_eq_true, decide_eq_true_eq] at h
 obtain ⟨h0, h1, h2, h3⟩ := h
 rw [Bool.eq_iff_iff]
 dsimp only at h0 h1 h2 h3 ⊢
 rw [Nonce.soundB_mk]
 rw [decide_eq_true_iff]
 constructor
 ·intro hm0
  have hm := Nonce.bnd_ok m
  rw [← hm0] at hm
  have := (zgv _ _ hm.1).1 h0; have := (zgv _ _ hm.1).1 h1; have := (zgv _ _ hm.1).1 h2; have := (zgv _ _ hm.1).1 h3
  clear h0 h1 h2 h3 hm0
  omega
 ·intro hm
  clear h0 h1 h2 h3
  unfold Nonce.bnd
  omega
theorem qce (i : Nonce.Nn) (h : (decide ((if 0 < (if i.m < i.l0 then i.m else i.l0) then (if i.m < i.l0 then i.m else i.l0) else 0) = i.l0) && (decide ((if 0 < (if i.m < i.l1 then i.m else i.l1) then (if i.m < i.l1 then i.m else i.l1) else 0) = i.l1) && (decide ((if 0 < (if i.m < i.l2 then i.m else i.l2) then (if i.m < i.l2 then i.m else i.l2) else 0) = i.l2) && decide ((if 0 < (if i.m < i.l3 then i.m else i.l3) then (if i.m < i.l3 then i.m else i.l3) else 0) = i.l3)))) = false) : Nonce.soundB i = false := by
 obtain ⟨a, b, c, d, m⟩ := i
 rw [Bool.eq_false_iff]
 intro hs
 rw [Nonce.soundB_mk] at hs
 obtain ⟨a1, a2, a3, a4, a5, a6, a7, a8, a9, a10⟩ := hs
 rw [Bool.eq_false_iff] at h
 apply h
 simp only [Bool.and_eq_true, decide_eq_true_eq]
 exact ⟨(zgv _ _ a9).2 ⟨a1, a2⟩, (zgv _ _ a9).2 ⟨a3, a4⟩, (zgv _ _ a9).2 ⟨a5, a6⟩, (zgv _ _ a9).2 ⟨a7, a8⟩⟩
theorem zuh (f : Frame) : (([if (rngB f.type 3 && rngB f.kind 3) = true then 0 else 4, if zbs f = true then 0 else 3, if zeo f = true then 0 else 2, if zbw f = true then 0 else 5, zb9 f.adds, if zi3 f = true then 0 else 2] : List Int).find? fun e => !decide (e = 0)).getD 0 = za6 f := by
 unfold za6
 cases h1 : (rngB f.type 3 && rngB f.kind 3) <;> cases h2 : zbs f <;> cases h3 : zeo f <;> cases h4 : zbw f <;> cases h6 : zi3 f <;> by_cases h5 : zb9 f.adds = 0 <;> simp [List.find?_cons, h5]
theorem zxu (e m : Int) (p : Store) (g : Frame) (h : za6 g = 0) (he : g.epoch = (zan e m).epoch) (h0 : g.type = 0) :
  handle (zan e m) p g = ({ zan e m with greeted := true, v := zg1 p (zan e m).v g.have_ }, 0) := by
 unfold handle
 rw [zbk (zcy e m)]
 simp [zbq, h, he, h0, zgj, zan]
end Go.G
namespace Go.G
open Go.AI
theorem qbk (n : Int) : (if 0 < (if 2147483647 < n then 2147483647 else n) then (if 2147483647 < n then (2147483647 : Int) else n) else 0) = max 0 (min n 2147483647) := by
 by_cases h : 2147483647 < n
 ·simp [h]; omega
 ·simp [h]; omega
theorem qa3 (v : View) (h : v.have_.length ≤ 9223372036854775807) : OkFrame (zcz v) := ⟨⟨by simp [zcz], by simp [zcz]⟩, by simp [zcz], by simpa [zcz] using h, by simp [zcz]⟩
theorem rng3 {n : Int} (h : rngB n 3 = true) : n = 0 ∨ n = 1 ∨ n = 2 ∨ n = 3 := by
 simp only [rngB, Bool.and_eq_true, decide_eq_true_eq] at h; omega
theorem zq0 {f : Frame} (h : za6 f = 0) : f.kind = 0 ∨ f.kind = 1 ∨ f.kind = 2 ∨ f.kind = 3 := rng3 (frameE_zero.1 h).kind
theorem zzp {f : Frame} (h : za6 f = 0) : f.type = 0 ∨ f.type = 1 ∨ f.type = 2 ∨ f.type = 3 := rng3 (frameE_zero.1 h).type
end Go.G
end
section
namespace Go.G
open Go.AI
structure StepOk (hv want : List Res) (held : List Key) (x : Step) : Prop where
 kind : x.kind = 0 ∨ x.kind = 1 ∨ x.kind = 2 ∨ x.kind = 3
 adds : ∀ r ∈ x.adds, r ∈ want ∧ r.kind = x.kind
 gone : ∀ k ∈ x.gone, k ∈ hv.map Res.key ∧ k.kind = x.kind
 al : x.adds.length ≤ want.length
 gl : x.gone.length ≤ hv.length
 some : 0 < x.adds.length + x.gone.length
 free : ¬ x.kind = 0 → ∀ k ∈ x.gone, k ∉ held ∧ (zc8 hv k).length = 0
theorem mem_kindL {l : List Res} {n : Int} {r : Res} : r ∈ zev l n ↔ r ∈ l ∧ r.kind = n := by simp [zev]
theorem mem_kindG {l : List Key} {n : Int} {k : Key} : k ∈ zgm l n ↔ k ∈ l ∧ k.kind = n := by simp [zgm]
theorem diffA_len (a b : List Res) : (zca a b).length ≤ b.length := List.length_filter_le _ _
theorem diffG_len (a b : List Res) : (zda a b).length ≤ a.length := Nat.le_trans (List.length_filter_le _ _) (by simp)
theorem zgy (l : List Res) (n : Int) : (zev l n).length ≤ l.length := List.length_filter_le _ _
theorem zi2 (l : List Key) (n : Int) : (zgm l n).length ≤ l.length := List.length_filter_le _ _
theorem qg8 {hv want : List Res} {held : List Key} {x : Step} (h : zeq hv want held = .some x) : StepOk hv want held x := by
 have hs := List.find?_some h
 have hm := List.mem_of_find?_eq_some h
 have h0 : 0 < x.adds.length + x.gone.length := by
  simp only [Step.none, Bool.not_eq_true', decide_eq_false_iff_not] at hs; omega
 have hA : ∀ r n, r ∈ zev (zca hv want) n → r ∈ want ∧ r.kind = n := fun r n hr => ⟨(List.mem_filter.1 (mem_kindL.1 hr).1).1, (mem_kindL.1 hr).2⟩
 have hG : ∀ k n, k ∈ zgm (zda hv want) n → k ∈ hv.map Res.key ∧ k.kind = n := fun k n hk => ⟨(List.mem_filter.1 (mem_kindG.1 hk).1).1, (mem_kindG.1 hk).2⟩
 have lA : ∀ n, (zev (zca hv want) n).length ≤ want.length := fun n => Nat.le_trans (zgy _ _) (diffA_len _ _)
 have lG : ∀ n, (zgm (zda hv want) n).length ≤ hv.length := fun n => Nat.le_trans (zi2 _ _) (diffG_len _ _)
 have early : ∀ n, (n = 0 ∨ n = 1 ∨ n = 2 ∨ n = 3) → x = (zah hv want held).early n → StepOk hv want held x := by
  rintro n hn rfl
  exact ⟨hn, fun r hr => hA r n (List.mem_filter.1 hr).1, fun k hk => (by cases hk), Nat.le_trans (List.length_filter_le _ _) (lA n), Nat.zero_le _, h0, fun _ k hk => (by cases hk)⟩
 have late : ∀ n, (n = 0 ∨ n = 1 ∨ n = 2 ∨ n = 3) → x = (zah hv want held).late n → StepOk hv want held x := by
  rintro n hn rfl
  exact ⟨hn, fun r hr => hA r n hr, fun k hk => (by cases hk), lA n, Nat.zero_le _, h0, fun _ k hk => (by cases hk)⟩
 have free : ∀ n, (n = 0 ∨ n = 1 ∨ n = 2 ∨ n = 3) → x = (zah hv want held).free n → StepOk hv want held x := by
  rintro n hn rfl
  refine ⟨hn, fun r hr => (by cases hr), fun k hk => hG k n (List.mem_filter.1 hk).1, Nat.zero_le _, Nat.le_trans (List.length_filter_le _ _) (lG n), h0, fun _ k hk => ?_⟩
  have := (List.mem_filter.1 hk).2
  simp only [Job.freeK, Bool.not_eq_true', Bool.or_eq_false_iff] at this
  have h1 := of_decide_eq_false this.1
  have h2 := of_decide_eq_false this.2
  simp only [zah] at h1 h2
  exact ⟨h1, by omega⟩
 simp only [Job.steps, List.mem_cons, List.not_mem_nil, or_false] at hm
 rcases hm with hm | hm | hm | hm | hm | hm | hm | hm | hm | hm
 ·exact early 3 (by simp) hm
 ·exact early 2 (by simp) hm
 ·exact early 1 (by simp) hm
 ·subst hm
  exact ⟨Or.inl rfl, fun r hr => hA r 0 hr, fun k hk => hG k 0 hk, lA 0, lG 0, h0, fun h => absurd rfl h⟩
 ·exact late 3 (by simp) hm
 ·exact late 2 (by simp) hm
 ·exact late 1 (by simp) hm
 ·exact free 1 (by simp) hm
 ·exact free 2 (by simp) hm
 ·exact free 3 (by simp) hm
theorem qaq {n : Int} (h : n = 0 ∨ n = 1 ∨ n = 2 ∨ n = 3) : rngB n 3 = true := by
 rcases h with rfl | rfl | rfl | rfl <;> rfl
theorem qjr {n : Int} (h : n = 0 ∨ n = 1 ∨ n = 2 ∨ n = 3) : Nonce.kindB n = true := by
 rcases h with rfl | rfl | rfl | rfl <;> rfl
theorem zzq {o : Nonce.Ou} (h : Nonce.goodB o = true) {k : Int} (hk : k = 0 ∨ k = 1 ∨ k = 2 ∨ k = 3) (he : (Nonce.push o k).2.2 = 0) :
  Nonce.goodB (Nonce.push o k).1 = true ∧ rngB (Nonce.push o k).2.1 2147483647 = true ∧ (Nonce.push o k).1.open' k = true ∧ (Nonce.push o k).1.last k = (Nonce.push o k).2.1 := by
 simp only [Nonce.push, zzw h] at he ⊢
 obtain ⟨a, b, c, d, x, y, z, t, m⟩ := o
 simp only [Nonce.goodB, Nonce.Ou.toI, Bool.and_eq_true, Nonce.soundB_mk] at h
 simp only [Nonce.pushQ, qjr hk] at he ⊢
 rcases hk with rfl | rfl | rfl | rfl <;> simp only [Nonce.Ou.open', Nonce.Ou.last, Nonce.Ou.set] at he ⊢ <;>
  ((repeat' split at he) <;> first | (exfalso; revert he; decide) | skip) <;>
  simp_all [Nonce.goodB, Nonce.Ou.toI, Nonce.soundB_mk, rngB] <;> omega
theorem zvd {hv want : List Res} {held : List Key} {x : Step} {s : Sess} {n : Int} (hx : StepOk hv want held x) (hS : SaneS s) (hv' : hv = s.v.have_) (hw : tabE want = 0) (hn : rngB n 2147483647 = true) : za6 (zbe s x n) = 0 := by
 subst hv'
 have hwl : want.length ≤ 64 := by
  unfold tabE at hw
  split at hw
  ·cases hw
  ·omega
 have hp := hS.plain
 simp only [zcq, Bool.and_eq_true, decide_eq_true_eq] at hp
 have hA : ∀ r ∈ x.adds, zbl r = 0 := fun r hr => zd2 hw (hx.adds r hr).1
 rw [frameE_zero]
 refine ⟨rfl, qaq hx.kind, ?_, rfl, ?_, hA, ?_⟩
 ·have h1 := hx.al; have h2 := hx.gl; have h3 := hS.hl
  simp only [zbs, zbe, Bool.and_eq_true, decide_eq_true_eq]
  have a1 : x.adds.length ≤ 64 := by omega
  have a2 : x.gone.length ≤ 64 := by omega
  exact ⟨⟨⟨⟨⟨⟨⟨⟨decide_eq_true a1, decide_eq_true a2⟩, by simp⟩, by simp⟩, by simp⟩, hp.1.1⟩, hn⟩, rfl⟩, rfl⟩
 ·simp only [zbw, zbe, Bool.and_eq_true, List.all_eq_true]
  refine ⟨⟨fun k hk => ?_, by simp⟩, by simp⟩
  obtain ⟨r, hr, rfl⟩ := List.mem_map.1 (hx.gone k hk).1
  exact (hS.have_ r hr).2
 ·simp only [zi3, zbe, Bool.and_eq_true, List.all_eq_true, decide_eq_true_eq]
  exact ⟨fun r hr => decide_eq_true (hx.adds r hr).2, fun k hk => decide_eq_true (hx.gone k hk).2⟩
theorem zy6 {s : Sess} {x : Step} {want : List Res} (hS : SaneS s) (hx : StepOk s.v.have_ want s.v.held x) (hw : tabE want = 0) (hg : s.greeted = true) (he : (Nonce.push s.out x.kind).2.2 = 0) :
  zba { s with v := zh2 s.v (zbe s x (Nonce.push s.out x.kind).2.1), out := (Nonce.push s.out x.kind).1 } = true := by
 obtain ⟨g1, g2, g3, g4⟩ := zzq hS.out hx.kind he
 have hf := zvd hx hS rfl hw g2
 rw [saneS_iff]
 refine ⟨hS.plain, g1, hS.hl, hS.have_, hS.dl, hS.turn, hS.held, fun _ => ?_⟩
 simp only [zbd, zh2, Bool.and_eq_true, decide_eq_true_eq]
 exact ⟨⟨⟨⟨⟨hg, decide_eq_true hf⟩, decide_eq_true rfl⟩, decide_eq_true rfl⟩, g3⟩, decide_eq_true g4⟩
theorem zep {p : Store} (hp : sanS p = true) : tabE (nowL p) = 0 := by
 unfold nowL
 rw [zb3 hp]
 exact (zim hp).tab
theorem zxd {s : Sess} (hs : zba s = true) (p : Store) :
  (pump s p).1 = s ∧ (pump s p).2.1 = [] ∨
  ∃ x, zeq s.v.have_ (nowL p) s.v.held = .some x ∧ s.v.open_ = false ∧ s.greeted = true ∧ (Nonce.push s.out x.kind).2.2 = 0 ∧
   pump s p = ({ s with v := zh2 s.v (zbe s x (Nonce.push s.out x.kind).2.1), out := (Nonce.push s.out x.kind).1 }, [zbe s x (Nonce.push s.out x.kind).2.1], 0) := by
 unfold pump
 rw [zbk hs]
 unfold zec
 by_cases hi : idle s p = true
 ·rw [if_pos hi]; exact Or.inl ⟨rfl, rfl⟩
 rw [if_neg hi]
 simp only [idle, Bool.or_eq_true, not_or, Bool.not_eq_true, Bool.not_eq_false'] at hi
 cases hn : zeq s.v.have_ (nowL p) s.v.held with
 | none => exact Or.inl ⟨rfl, rfl⟩
 | some x =>
   unfold zl6
   by_cases he : (Nonce.push s.out x.kind).2.2 = 0
   ·refine Or.inr ⟨x, rfl, hi.1.2, hi.1.1, he, ?_⟩
    simp only [if_pos he]
   ·refine Or.inl ?_
    simp only [if_neg he]; exact ⟨trivial, trivial⟩
end Go.G
namespace Go.G
open Go.AI
theorem qjb {s : Sess} (S : SaneS s) (ho : s.v.open_ = true) : s.v.have_.length + s.v.push.adds.length ≤ 1000000 ∧ s.v.push.gone.length ≤ 9223372036854775807 := by
 have hw := S.waits ho
 simp only [zbd, Bool.and_eq_true, decide_eq_true_eq] at hw
 have P := frameE_zero.1 hw.1.1.1.1.2
 have L := zcp P.small
 have := S.hl
 omega
theorem zsl {v : View} (h : v.held.length ≤ 9223372036854775807) : OkFrame (zdz v) := ⟨⟨by simp [zdz], by simp [zdz]⟩, by simp [zdz], by simp [zdz], h⟩
theorem zgp : OkFrame zFrame := ⟨⟨by simp [zFrame], by simp [zFrame]⟩, by simp [zFrame], by simp [zFrame], by simp [zFrame]⟩
theorem zk4 : OkView zView := ⟨⟨by simp [zView], by simp [zView]⟩, by simp [zView], zgp⟩
theorem zqg {s : Sess} (h : OkSess s) : OkSess (zbh s) := by
 unfold zbh
 split
 ·exact h
 ·exact ⟨zk4⟩
end Go.G
end
section
namespace Go.G
open Go.AI
def xC : Res := ⟨2, ⟨#[99]⟩, 0, 0, ⟨#[101]⟩, [], []⟩
def xE : Res := ⟨3, ⟨#[101]⟩, 0, 0, ⟨#[]⟩, [], []⟩
def xP : Store := ⟨9, [[], [{ xC with ver := 1 }, { xE with ver := 1 }]]⟩
def xF : Frame := ⟨0, 4, 0, 0, 0, [], [], 0, [], []⟩
def xS : Sess := ⟨4, true, Nonce.startO 9, zView, 0, 0⟩
def xG : Frame := ⟨1, 4, 3, 1, 0, [{ xE with ver := 1 }], [], 0, [], []⟩
def xT : Sess := ⟨4, true, ⟨0, 0, 0, 1, false, false, false, true, 9⟩, ⟨[], [], 0, xG, true⟩, 0, 0⟩
theorem w1 : zir (newS 9) [xC, xE] [] = xP := by decide +kernel
theorem w2 : zh7 (newS 9) [xC, xE] [] = 0 := by decide +kernel
theorem w3 : handle (zan 4 9) xP xF = (xS, 0) := by decide +kernel
theorem w4a : nowL xP = [{ xC with ver := 1 }, { xE with ver := 1 }] := by decide +kernel
theorem w4b : zal (nowL xP) = [] := by
 rw [w4a]
 simp [zal, zc9, zhu, xC, xE]
theorem w4c : zeq [] (nowL xP) [] = some ⟨3, [{ xE with ver := 1 }], []⟩ := by
 unfold zeq zah
 rw [w4b, w4a]
 decide +kernel
theorem w4 : pump xS xP = (xT, [xG], 0) := by
 have h1 : zba xS = true := by decide +kernel
 have h2 : idle xS xP = false := by decide +kernel
 have h3 : zeq xS.v.have_ (nowL xP) xS.v.held = some ⟨3, [{ xE with ver := 1 }], []⟩ := w4c
 unfold pump
 rw [zbk h1]
 unfold zec
 rw [if_neg (by rw [h2]; decide), h3]
 decide +kernel
theorem w5 : zd3 xT = [xG] := by decide +kernel
theorem w6 : zba xT = true := by decide +kernel
theorem w7 : sanS xP = true := by decide +kernel
theorem w8 : AscR (nowL xP) ∧ (nowL xP).length ≤ 100000 := ⟨zai (zep w7), by decide +kernel⟩
end Go.G
end
