/-
  LAYERS 1 to 14: the plain functions that the code computes, how their data lies in cells, and plain laws of them.
-/
import Derived.Test.YtbmnaehodmgibaaGreatDoorFc
import Derived.Lib.Bytealg
import Derived.Laws.RangeAny
import Derived.Sort.Statements
set_option linter.unusedSimpArgs false
set_option linter.unusedVariables false
section
namespace Go.G
abbrev Str := ByteArray
structure Key where
 kind : Int
 name : Str
 deriving DecidableEq
structure Weight where
 cluster : Str
 w : Int
 deriving DecidableEq
structure Rule where
 host : Str
 pre : Str
 split : List Weight
 deriving DecidableEq
structure Res where
 kind : Int
 name : Str
 ver : Int
 port : Int
 to : Str
 rules : List Rule
 hosts : List Int
 deriving DecidableEq
structure Mark where
 k : Key
 ver : Int
 deriving DecidableEq
structure Frame where
 type : Int
 epoch : Int
 kind : Int
 nonce : Int
 turn : Int
 adds : List Res
 gone : List Key
 err : Int
 have_ : List Mark
 held : List Key
 deriving DecidableEq
structure View where
 have_ : List Res
 held : List Key
 turn : Int
 push : Frame
 open_ : Bool
 deriving DecidableEq
def Res.key (r : Res) : Key := ⟨r.kind, r.name⟩
end Go.G
end
section
namespace Go.G
open Go.AI
abbrev iD (n : Int) : D := .v (.int .i64 n)
abbrev sD (s : Str) : D := .v (.string s)
abbrev bD (b : Bool) : D := .v (.bool b)
abbrev int (n : Int) : AV := .d (iD n)
abbrev str (s : Str) : AV := .d (sD s)
abbrev bool (b : Bool) : AV := .d (bD b)
abbrev lD (es : List (List D)) : D := .ro false es
abbrev lst (es : List (List D)) : AV := .d (lD es)
@[simp] def intC (n : Int) : List D := [iD n]
@[simp] def wC (w : Weight) : List D := [sD w.cluster, iD w.w]
@[simp] def zb4 (r : Rule) : List D := [sD r.host, sD r.pre, lD (r.split.map wC)]
@[simp] def resC (r : Res) : List D := [iD r.kind, sD r.name, iD r.ver, iD r.port, sD r.to, lD (r.rules.map zb4), lD (r.hosts.map intC)]
@[simp] def keyC (k : Key) : List D := [iD k.kind, sD k.name]
@[simp] def zdv (m : Mark) : List D := [iD m.k.kind, sD m.k.name, iD m.ver]
@[simp] def zak (f : Frame) : List D := [iD f.type, iD f.epoch, iD f.kind, iD f.nonce, iD f.turn, lD (f.adds.map resC), lD (f.gone.map keyC), iD f.err, lD (f.have_.map zdv), lD (f.held.map keyC)]
@[simp] def zjm (v : View) : List D := [lD (v.have_.map resC), lD (v.held.map keyC), iD v.turn] ++ zak v.push ++ [bD v.open_]
@[simp] theorem lenAll_int (l : List Int) : zbt (l.map intC) 1 = True := zbj (f := intC) (n := 1) (fun _ => rfl) l
@[simp] theorem lenAll_w (l : List Weight) : zbt (l.map wC) 2 = True := zbj (f := wC) (n := 2) (fun _ => rfl) l
@[simp] theorem lenAll_rule (l : List Rule) : zbt (l.map zb4) 3 = True := zbj (f := zb4) (n := 3) (fun _ => rfl) l
@[simp] theorem lenAll_res (l : List Res) : zbt (l.map resC) 7 = True := zbj (f := resC) (n := 7) (fun _ => rfl) l
@[simp] theorem lenAll_key (l : List Key) : zbt (l.map keyC) 2 = True := zbj (f := keyC) (n := 2) (fun _ => rfl) l
@[simp] theorem lenAll_mark (l : List Mark) : zbt (l.map zdv) 3 = True := zbj (f := zdv) (n := 3) (fun _ => rfl) l
abbrev st (cs : List D) : AV := .agg (cs.map .d)
theorem fin0 {mm : Nat → Option Blk} {r res : AV} (h : leA (prA (fun _ => false) mm 8 r) (res.ren (gf []))) (hn : inA (nmF [] []) res = true) : ∃ g, FinOk mm r [] res [] g :=
 ⟨[], by simpa using h, by simp, by simp, by simp, by simp, hn, by simp⟩
theorem zaa {ops : Array Oper} {ft : List (List Nat × List Nat)} {mm : Nat → Option Blk} {r res : AV} (h : leA (prA (fun _ => false) mm 8 r) (res.ren (gf []))) (hd : za4 ops ft := by decide +kernel) (hn : inA (nmF [] []) res = true := by rfl) : za4 ops ft ∧ ∃ g, FinOk mm r [] res [] g :=
 ⟨hd, fin0 h hn⟩
end Go.G
end
section
namespace Go.G
open Go.AI
def bs (s : Str) : List UInt8 := s.data.toList
theorem zc5 (s : Str) : s.size = (bs s).length := by show s.data.size = _; rw [bs, Array.length_toList]
theorem qj1 (s : Str) (i : Nat) : s[i]? = (bs s)[i]? := by
 simp only [bs, Array.getElem?_toList]
 by_cases h : i < s.size
 ·rw [getElem?_pos s i h, getElem?_pos s.data i h]; rfl
 ·rw [getElem?_neg s i h, getElem?_neg s.data i h]
theorem zwf {a b : Str} (h : bs a = bs b) : a = b := by
 cases a; cases b; simp [bs] at h; cases h; rfl
theorem zei (s : Str) (i j : Nat) : bs (s.extract i j) = ((bs s).take j).drop i := by
 simp [bs, List.extract_eq_take_drop]
 rw [List.drop_take]
@[simp] theorem bs_mk (l : List UInt8) : bs ⟨l.toArray⟩ = l := rfl
abbrev byte (c : UInt8) : AV := .d (.v (.int .u8 c.toNat))
def lowB (c : UInt8) : Bool := decide ((97 : Int) ≤ c.toNat) && decide ((c.toNat : Int) ≤ 122)
def zky (c : UInt8) : Bool := lowB c || (decide ((48 : Int) ≤ c.toNat) && decide ((c.toNat : Int) ≤ 57)) || decide ((c.toNat : Int) = 45)
def zf2 (l : List UInt8) : Bool := decide (1 ≤ l.length) && decide (l.length ≤ 12) && lowB (l.headD 0) && l.all zky
def zcr (s : Str) : Bool := zf2 (bs s)
end Go.G
namespace Go.G
open Go.AI
theorem zuy (a b : Str) : (a = b) = (bs a = bs b) := propext ⟨fun h => by rw [h], zwf⟩
def slB (c : UInt8) : Bool := zky c || decide ((c.toNat : Int) = 47)
def znb (s : Str) : Bool := decide (1 ≤ (bs s).length) && decide ((bs s).length ≤ 40) && decide (((bs s).headD 0).toNat = 47) && (bs s).all slB
def zoh (l : List UInt8) : Bool := decide (2 ≤ l.length) && decide (l.take 2 = [42, 46])
def zcg : List UInt8 → List UInt8 → Bool
 | p, [] => zf2 p
 | p, c :: r => if c = 46 then zf2 p && zcg [] r else zcg (p ++ [c]) r
def zsd (s : Str) : Bool := decide ((bs s).length ≤ 40) && (decide (bs s = [42]) || (zoh (bs s) && zcg [] ((bs s).drop 2)) || zcg [] (bs s))
def qdz (s : Str) : Bool := decide ((bs s).length ≤ 40) && (decide (bs s = [42]) || zcg [] (if zoh (bs s) then (bs s).drop 2 else bs s))
theorem zw2 {l : List UInt8} (h : zoh l = true) : zcg [] l = false := by
 match l, h with
 | [], h => simp [zoh] at h
 | [_], h => simp [zoh] at h
 | a :: b :: r, h =>
   simp [zoh] at h
   obtain ⟨rfl, rfl⟩ := h
   simp [zcg, zf2, lowB]
theorem zvx (s : Str) : qdz s = zsd s := by
 unfold qdz zsd
 cases h : zoh (bs s)
 ·simp
 ·simp [zw2 h]
def cmpS (a b : Str) : Int := Lib.compareBytes (bs a) (bs b)
end Go.G
namespace Go.G
open Go.AI
theorem qki {s : Str} {k : Nat} {c : UInt8} (h : (bs s)[k]? = some c) : ∃ hk : k < s.size, s[k]'hk = c := by
 rw [← qj1] at h
 by_cases hk : k < s.size
 ·rw [getElem?_pos s k hk] at h; cases h; exact ⟨hk, rfl⟩
 ·rw [getElem?_neg s k hk] at h; cases h
theorem zsm {s : Str} {k : Nat} {c : UInt8} (h : (bs s)[k]? = some c) (hc : c.toNat < 128) : Utf8.decode s k = (c.toNat, 1) := by
 obtain ⟨hk, rfl⟩ := qki h
 exact decode_ascii s k hk hc
theorem zsn {s : Str} {k : Nat} {c : UInt8} (h : (bs s)[k]? = some c) (hc : 128 ≤ c.toNat) : 128 ≤ (Utf8.decode s k).1 := by
 obtain ⟨hk, rfl⟩ := qki h
 exact (decode_high s k hk hc).1
theorem zzu {c : UInt8} (h : zky c = true) : c.toNat < 128 := by
 simp [zky, lowB] at h; omega
def lowI (c : Int) : Bool := decide (97 ≤ c) && decide (c ≤ 122)
def zq7 (c : Int) : Bool := lowI c || (decide (48 ≤ c) && decide (c ≤ 57)) || decide (c = 45)
@[simp] theorem plainI_is (c : UInt8) : zq7 c.toNat = zky c := rfl
@[simp] theorem lowI_is (c : UInt8) : lowI c.toNat = lowB c := rfl
theorem zq6 {n : Nat} (h : 128 ≤ n) : zq7 n = false := by simp [zq7, lowI]; omega
end Go.G
end
section
namespace Go.G
open Go.AI
def rngB (n m : Int) : Bool := decide (0 ≤ n) && decide (n ≤ m)
def zgs (x : Rule) : Bool := decide (x.split.length ≤ 4) && x.split.all fun w => rngB w.w 100
def zb0 (r : Res) : Bool := rngB r.ver 2147483647 && rngB r.port 65535 && decide (r.rules.length ≤ 8) && decide (r.hosts.length ≤ 8) && (r.hosts.all fun h => rngB h 2147483647) && r.rules.all zgs
def mayP (k : Int) : Bool := decide (k = 0)
def mayT (k : Int) : Bool := decide (k = 0) || decide (k = 2)
def mayR (k : Int) : Bool := decide (k = 1)
def mayH (k : Int) : Bool := decide (k = 3)
def zfb (r : Res) : Bool := (decide (r.port = 0) || mayP r.kind) && (decide (bs r.to = []) || mayT r.kind) && (decide (r.rules.length = 0) || mayR r.kind) && (decide (r.hosts.length = 0) || mayH r.kind)
def zl0 (x : Rule) : Bool := zsd x.host && znb x.pre && x.split.all fun w => zcr w.cluster
def zgw (r : Res) : Bool := (!mayT r.kind || zcr r.to) && r.rules.all zl0
def zjl (x : Rule) : Bool := x.split.any fun w => decide (0 < w.w)
def zm6 (x y : Rule) : Bool := decide (x.host = y.host) && decide (x.pre = y.pre)
def zfx {α : Type} (q : α → α → Bool) : List α → List α → Bool
 | _, [] => true
 | p, x :: l => !(p.any (q x)) && zfx q (p ++ [x]) l
def zen (r : Res) : Bool := r.rules.all zjl && zfx zm6 [] r.rules && zfx (fun a b => decide (a = b)) [] r.hosts
def zbl (r : Res) : Int :=
 if rngB r.kind 3 = false then 4 else if zcr r.name = false then 5 else if zb0 r = false then 3 else if zfb r = false then 2 else if zgw r = false then 5 else if zen r = false then 2 else 0
def idxF {α : Type} (p : α → Bool) (l : List α) : Int := match l.findIdx? p with
 | some i => i
 | none => -1
theorem za9 {α : Type} {p : α → Bool} {l : List α} (h : ∀ x ∈ l, p x = false) : idxF p l = -1 := by
 have : l.findIdx? p = none := by rw [List.findIdx?_eq_none_iff]; exact h
 simp [idxF, this]
theorem zn2 {α : Type} {p : α → Bool} : ∀ {l : List α} {k : Nat} {x : α}, (l.take k).all (fun x => !p x) = true → l[k]? = some x → p x = true → l.findIdx? p = some k
 | [], k, x, _, h, _ => by simp at h
 | a :: l, 0, x, _, h, hp => by
   simp at h; subst h; simp [List.findIdx?_cons, hp]
 | a :: l, k + 1, x, h1, h2, hp => by
   simp at h1 h2
   have := zn2 (l := l) (k := k) (by simpa using h1.2) h2 hp
   simp [List.findIdx?_cons, h1.1, this]
theorem zcl {α : Type} {p : α → Bool} {l : List α} {k : Nat} {x : α} (h1 : (l.take k).all (fun x => !p x) = true) (h2 : l[k]? = some x) (hp : p x = true) : idxF p l = k := by
 simp [idxF, zn2 h1 h2 hp]
theorem zga {α : Type} (p : α → Bool) (l : List α) : decide (0 ≤ idxF p l) = l.any p := by
 rw [Bool.eq_iff_iff, decide_eq_true_eq]
 unfold idxF
 cases h : l.findIdx? p with
 | none =>
   rw [List.findIdx?_eq_none_iff] at h
   simp only [List.any_eq_true]
   constructor
   ·intro h; simp at h
   ·rintro ⟨x, hx, hp⟩; rw [h x hx] at hp; cases hp
 | some i =>
   rw [List.findIdx?_eq_some_iff_getElem] at h
   obtain ⟨hi, hp, _⟩ := h
   simp only [List.any_eq_true]
   exact ⟨fun _ => ⟨_, List.getElem_mem hi, hp⟩, fun _ => by simp⟩
end Go.G
end
section
namespace Go.G
open Go.AI
def cmpK (a b : Key) : Int := if a.kind < b.kind then -1 else if b.kind < a.kind then 1 else cmpS a.name b.name
def putG (k : Key) : Bool → List Key → List Key
 | done, [] => if done then [] else [k]
 | done, x :: l => (if 0 ≤ cmpK x k ∧ done = false then [k] else []) ++ (if cmpK x k = 0 then [] else [x]) ++ putG k (done || decide (0 ≤ cmpK x k)) l
def putK (l : List Key) (k : Key) : List Key := putG k false l
theorem zjd : ∀ (a b : List UInt8), Lib.compareBytes a b = -1 ∨ Lib.compareBytes a b = 0 ∨ Lib.compareBytes a b = 1
 | [], [] => by simp [Lib.compareBytes]
 | [], _ :: _ => by simp [Lib.compareBytes]
 | _ :: _, [] => by simp [Lib.compareBytes]
 | a :: l, b :: m => by
   simp only [Lib.compareBytes]
   split
   ·simp
   ·split
    ·simp
    ·exact zjd l m
theorem zks : ∀ {a b : List UInt8}, Lib.compareBytes a b = 0 ↔ a = b
 | [], [] => by simp [Lib.compareBytes]
 | [], _ :: _ => by simp [Lib.compareBytes]
 | _ :: _, [] => by simp [Lib.compareBytes]
 | a :: l, b :: m => by
   simp only [Lib.compareBytes, List.cons.injEq]
   split
   ·rename_i h; simp; intro e; subst e; exact absurd h (UInt8.lt_irrefl _)
   ·split
    ·rename_i h; simp; intro e; subst e; exact absurd h (UInt8.lt_irrefl _)
    ·rename_i h1 h2
     rw [zks]
     have : a = b := by
      simp only [UInt8.lt_iff_toNat_lt] at h1 h2
      exact UInt8.toNat_inj.1 (by omega)
     simp [this]
theorem qbs {a b : Str} : cmpS a b = 0 ↔ a = b := by rw [cmpS, zks, ← zuy]
theorem cmpK_zero {a b : Key} : cmpK a b = 0 ↔ a = b := by
 obtain ⟨x, s⟩ := a; obtain ⟨y, t⟩ := b
 simp only [cmpK, Key.mk.injEq]
 split
 ·rename_i h; simp; intro e; omega
 ·split
  ·rename_i h; simp; intro e; omega
  ·rw [qbs]
   have : x = y := by omega
   simp [this]
theorem zdl (a b : Key) : cmpK a b = -1 ∨ cmpK a b = 0 ∨ cmpK a b = 1 := by
 unfold cmpK
 split
 ·simp
 ·split
  ·simp
  ·exact zjd _ _
end Go.G
namespace Go.G
theorem qav {p : Prop} [Decidable p] (y : Key) : (if p then [] else [y]).length ≤ 1 := by split <;> simp
theorem zl4 (k : Key) : ∀ (l : List Key), (putG k true l).length ≤ l.length
 | [] => by simp [putG]
 | y :: l => by
   have h1 := zl4 k l
   have h2 := qav (p := cmpK y k = 0) y
   simp only [putG, List.length_append, List.length_cons, Bool.true_or, Bool.true_eq_false, and_false, if_false, List.length_nil]
   omega
theorem zl5 (k : Key) : ∀ (d : Bool) (l : List Key), (putG k d l).length ≤ l.length + 1
 | true, l => Nat.le_succ_of_le (zl4 k l)
 | false, [] => by simp [putG]
 | false, x :: l => by
   have h1 := zl5 k false l
   have h2 := zl4 k l
   have h3 := qav (p := cmpK x k = 0) x
   simp only [putG, List.length_append, List.length_cons, Bool.false_or, and_true]
   by_cases hc : 0 ≤ cmpK x k
   ·simp only [hc, decide_true, if_true, List.length_cons, List.length_nil]; omega
   ·simp only [hc, decide_false, if_false, List.length_nil]; omega
def ze1 (out : List Key) (w : Weight) : List Key := if 0 < w.w then putK out ⟨2, w.cluster⟩ else out
def zjr (r : Res) : List Key := if mayT r.kind then [⟨r.kind + 1, r.to⟩] else []
def za2 (r : Res) : List Key := if zbl r = 0 then (r.rules.flatMap (·.split)).foldl ze1 (zjr r) else []
theorem zl3 (out : List Key) (w : Weight) : (ze1 out w).length ≤ out.length + 1 := by
 unfold ze1
 split
 ·exact zl5 _ _ _
 ·omega
theorem zeh {r : Res} (h : zbl r = 0) : rngB r.kind 3 = true ∧ zcr r.name = true ∧ zb0 r = true ∧ zfb r = true ∧ zgw r = true ∧ zen r = true := by
 unfold zbl at h
 (repeat' split at h) <;> simp_all
theorem zz9 {s : Str} (h : zcr s = true) : (bs s).length ≤ 12 := by
 simp [zcr, zf2] at h; exact h.1.1.2
end Go.G
namespace Go.G
theorem zv3 : ∀ (l : List Weight) (o : List Key), (l.foldl ze1 o).length ≤ o.length + l.length
 | [], o => by simp
 | w :: l, o => by
   have h1 := zv3 l (ze1 o w)
   have h2 := zl3 o w
   simp only [List.foldl_cons, List.length_cons]; omega
theorem zph : ∀ {l : List Rule}, (∀ x ∈ l, x.split.length ≤ 4) → (l.flatMap (·.split)).length ≤ 4 * l.length
 | [], _ => by simp
 | x :: l, h => by
   have h1 := zph (l := l) (fun y hy => h y (by simp [hy]))
   have h2 := h x (by simp)
   simp only [List.flatMap_cons, List.length_append, List.length_cons]; omega
def zvc (r : Res) (k : Nat) : List Key := ((r.rules.take k).flatMap (·.split)).foldl ze1 (zjr r)
theorem zzm (r : Res) : (zjr r).length ≤ 1 := by unfold zjr; split <;> simp
theorem zxc {r : Res} (k : Nat) (h1 : r.rules.length ≤ 8) (h : ∀ x ∈ r.rules, x.split.length ≤ 4) : (zvc r k).length ≤ 33 := by
 have h2 := zv3 ((r.rules.take k).flatMap (·.split)) (zjr r)
 have h3 := zzm r
 have h4 := zph (l := r.rules.take k) (fun x hx => h x (List.mem_of_mem_take hx))
 have h5 : (r.rules.take k).length ≤ 8 := Nat.le_trans (by simp; omega) h1
 unfold zvc; omega
theorem qcr {r : Res} (h : zbl r = 0) : za2 r = zvc r r.rules.length := by simp [za2, zvc, h]
end Go.G
namespace Go.G
def zd5 (x : Rule) : Bool := decide (x.split.length ≤ 20) && decide ((bs x.host).length ≤ 100) && decide ((bs x.pre).length ≤ 100)
def ze6 (r : Res) : Bool := r.rules.all zd5 && decide (r.rules.length ≤ 20) && decide (r.hosts.length ≤ 20) && decide ((bs r.name).length ≤ 100) && decide ((bs r.to).length ≤ 100)
end Go.G
end
section
namespace Go.G
open Go.AI
abbrev nB (s : Str) : Prop := (bs s).length ≤ 9223372036854775807
structure OkRes (r : Res) : Prop where
 name : nB r.name
 to : nB r.to
 rules : r.rules.length ≤ 9223372036854775807
 split : ∀ x ∈ r.rules, x.split.length ≤ 9223372036854775807
 hosts : r.hosts.length ≤ 9223372036854775807
structure OkRs (l : List Res) : Prop where
 len : l.length ≤ 9223372036854775807
 all : ∀ r ∈ l, OkRes r
def zRes : Res := ⟨0, ⟨#[]⟩, 0, 0, ⟨#[]⟩, [], []⟩
def za0 (a b : Res) : Bool := decide (a.kind = b.kind) && decide (a.name = b.name) && decide (a.port = b.port) && decide (a.to = b.to) && decide (a.hosts = b.hosts) && decide (a.rules = b.rules)
theorem zn8 (a b : Res) : (za0 a b && decide (a.ver = b.ver)) = decide (a = b) := by
 rw [Bool.eq_iff_iff]
 obtain ⟨a1, a2, a3, a4, a5, a6, a7⟩ := a
 obtain ⟨b1, b2, b3, b4, b5, b6, b7⟩ := b
 simp [za0]
 constructor
 ·rintro ⟨⟨⟨⟨⟨⟨h1, h2⟩, h3⟩, h4⟩, h5⟩, h6⟩, h7⟩; exact ⟨h1, h2, h7, h3, h4, h6, h5⟩
 ·rintro ⟨h1, h2, h7, h3, h4, h6, h5⟩; exact ⟨⟨⟨⟨⟨⟨h1, h2⟩, h3⟩, h4⟩, h5⟩, h6⟩, h7⟩
def fewL (l : List Res) : Bool := l.all ze6 && decide (l.length ≤ 80)
def getR (l : List Res) (k : Key) : Option Res := l.find? fun r => decide (r.key = k)
abbrev getA (l : List Res) (k : Key) : AV := .tup [st (resC ((getR l k).getD zRes)), bool (getR l k).isSome]
abbrev zhn (l : List Res) (k : Key) (c : Int) : List Res := l.filter fun r => decide (cmpK r.key k = c)
abbrev zej (l : List Res) (r : Res) : List Res := zhn l r.key (-1) ++ [r] ++ zhn l r.key 1
abbrev zbx (l : List Res) (k : Key) : List Res := l.filter fun r => !decide (r.key = k)
def zac (l adds : List Res) (gone : List Key) : List Res := adds.foldl zej (gone.foldl zbx l)
abbrev zc8 (l : List Res) (k : Key) : List Key := (l.filter fun r => decide (k ∈ za2 r)).map Res.key
theorem znt (a b : Key) : (decide (a.kind = b.kind) && decide (a.name = b.name)) = decide (a = b) := by
 obtain ⟨p, q⟩ := a; obtain ⟨u, v⟩ := b
 simp [Key.mk.injEq]
theorem zp5 (l : List Res) (r : Res) : (zej l r).length ≤ l.length + 1 := by
 have h : ∀ l : List Res, (zhn l r.key (-1)).length + (zhn l r.key 1).length ≤ l.length := by
  intro l
  induction l with
  | nil => simp
  | cons a l ih =>
    simp only [zhn, List.filter_cons] at ih ⊢
    by_cases h1 : cmpK a.key r.key = -1
    ·have h2 : ¬ cmpK a.key r.key = 1 := by omega
     simp [h1] at ih ⊢; omega
    ·by_cases h2 : cmpK a.key r.key = 1
     ·simp [h2] at ih ⊢; omega
     ·simp [h1, h2] at ih ⊢; omega
 have := h l
 simp only [zej, List.length_append, List.length_cons, List.length_nil]; omega
theorem ztb (l : List Res) (k : Key) : (zbx l k).length ≤ l.length := List.length_filter_le _ _
theorem zcu : ∀ (g : List Key) (l : List Res), (g.foldl zbx l).length ≤ l.length
 | [], l => by simp
 | k :: g, l => Nat.le_trans (zcu g _) (ztb l k)
theorem zef : ∀ (a l : List Res), (a.foldl zej l).length ≤ l.length + a.length
 | [], l => by simp
 | r :: a, l => by
   have h1 := zef a (zej l r)
   have h2 := zp5 l r
   simp only [List.foldl_cons, List.length_cons]; omega
theorem zms {α : Type} {p : α → Bool} {l : List α} (h : l.all (fun x => !p x) = true) : l.find? p = none := by
 rw [List.find?_eq_none]; intro x hx; have := List.all_eq_true.1 h x hx; simpa using this
theorem zpj {α : Type} {p : α → Bool} : ∀ {l : List α} {k : Nat} {x : α}, (l.take k).all (fun x => !p x) = true → l[k]? = some x → p x = true → l.find? p = some x
 | [], k, x, _, h, _ => by simp at h
 | a :: l, 0, x, _, h, hp => by simp at h; subst h; simp [List.find?_cons, hp]
 | a :: l, k + 1, x, h1, h2, hp => by
   simp at h1 h2
   have := zpj (l := l) (k := k) (by simpa using h1.2) h2 hp
   simp [List.find?_cons, h1.1, this]
theorem qfb (a b : Key) : (!decide (a.kind = b.kind) || !decide (a.name = b.name)) = !decide (a = b) := by rw [← znt, Bool.not_and]
theorem zfi (r : Res) : (za2 r).length ≤ 33 := by
 by_cases h : zbl r = 0
 ·rw [qcr h]
  have hs := (zeh h).2.2.1
  simp only [zb0, Bool.and_eq_true, decide_eq_true_eq, List.all_eq_true] at hs
  refine zxc _ hs.1.1.1.2 (fun x hx => ?_)
  have := hs.2 x hx
  simp only [zgs, Bool.and_eq_true, decide_eq_true_eq] at this
  exact this.1
 ·simp [za2, h]
theorem qgn (r : Res) : (za2 r).length ≤ 9223372036854775807 := Nat.le_trans (zfi r) (by omega)
@[simp] theorem lenAll_keyc {α : Type} (g : α → Key) (l : List α) : zbt (l.map (keyC ∘ g)) 2 = True := zbj (f := keyC ∘ g) (n := 2) (fun _ => rfl) l
@[simp] theorem lenAll_resc {α : Type} (g : α → Res) (l : List α) : zbt (l.map (resC ∘ g)) 7 = True := zbj (f := resC ∘ g) (n := 7) (fun _ => rfl) l
@[simp] theorem lenAll_markc {α : Type} (g : α → Mark) (l : List α) : zbt (l.map (zdv ∘ g)) 3 = True := zbj (f := zdv ∘ g) (n := 3) (fun _ => rfl) l
end Go.G
end
section
namespace Go.G
open Go.AI
structure OkFrame (f : Frame) : Prop where
 adds : OkRs f.adds
 gone : f.gone.length ≤ 9223372036854775807
 have_ : f.have_.length ≤ 9223372036854775807
 held : f.held.length ≤ 9223372036854775807
structure OkView (v : View) : Prop where
 have_ : OkRs v.have_
 held : v.held.length ≤ 9223372036854775807
 push : OkFrame v.push
def zFrame : Frame := ⟨0, 0, 0, 0, 0, [], [], 0, [], []⟩
def fewF (f : Frame) : Bool := (f.have_.all fun m => decide ((bs m.k.name).length ≤ 100)) && fewL f.adds && decide (f.gone.length ≤ 80) && decide (f.have_.length ≤ 80) && decide (f.held.length ≤ 80)
def fewV (v : View) : Bool := fewL v.have_ && decide (v.held.length ≤ 80) && fewF v.push
def zh2 (v : View) (f : Frame) : View := { v with push := f, open_ := true }
def zc1 (v : View) (t : Int) (h : List Key) : View := if v.turn < t then { v with turn := t, held := h } else v
def fitF (v : View) (f : Frame) : Bool := decide (f.type = 2) && decide (f.epoch = v.push.epoch) && decide (f.kind = v.push.kind) && decide (f.nonce = v.push.nonce)
def ansV (v : View) (f : Frame) : View :=
 if v.open_ = false then v else if fitF v f = false then v
 else { zc1 ⟨v.have_, v.held, v.turn, zFrame, false⟩ f.turn f.held with have_ := if f.err = 0 then zac v.have_ v.push.adds v.push.gone else v.have_ }
def ansE (v : View) (f : Frame) : Int := if v.open_ = false then 15 else if fitF v f = false then 11 else f.err
theorem qak (a b : Mark) : (decide (a.k.kind = b.k.kind) && decide (a.k.name = b.k.name) && decide (a.ver = b.ver)) = decide (a = b) := by
 obtain ⟨⟨p, q⟩, r⟩ := a; obtain ⟨⟨u, v⟩, w⟩ := b
 simp [Mark.mk.injEq, Key.mk.injEq]
@[simp] theorem drain_have (v : View) (t : Int) (h : List Key) : (zc1 v t h).have_ = v.have_ := by unfold zc1; split <;> rfl
@[simp] theorem zx1 (v : View) (t : Int) (h : List Key) : (zc1 v t h).push = v.push := by unfold zc1; split <;> rfl
@[simp] theorem drain_open (v : View) (t : Int) (h : List Key) : (zc1 v t h).open_ = v.open_ := by unfold zc1; split <;> rfl
end Go.G
end
section
namespace Go.G
open Go.AI
theorem zja {α : Type} (p : α → Bool) (l : List α) : (idxF p l = -1 ∧ l.find? p = none) ∨ ∃ (i : Nat) (x : α), idxF p l = i ∧ i < l.length ∧ l[i]? = some x ∧ l.find? p = some x := by
 induction l with
 | nil => left; simp [idxF]
 | cons a l ih =>
   by_cases h : p a = true
   ·right; exact ⟨0, a, by simp [idxF, List.findIdx?_cons, h], by simp, by simp, by simp [h]⟩
   ·have h' : p a = false := by simpa using h
    rcases ih with ⟨h1, h2⟩ | ⟨i, x, h1, h2, h3, h4⟩
    ·left
     refine ⟨?_, by simp [h', h2]⟩
     unfold idxF at h1 ⊢
     simp only [List.findIdx?_cons, h']
     cases hf : l.findIdx? p with
     | none => simp
     | some j => rw [hf] at h1; simp at h1 <;> omega
    ·right
     refine ⟨i + 1, x, ?_, by simp; omega, by simpa using h3, by simp [h', h4]⟩
     unfold idxF at h1 ⊢
     simp only [List.findIdx?_cons, h']
     cases hf : l.findIdx? p with
     | none => rw [hf] at h1; simp at h1 <;> omega
     | some j => rw [hf] at h1; simp at h1 ⊢; omega
end Go.G
end
section
namespace Go.G
variable {α : Type}
structure DelSt (p : α → Bool) (l : List α) (j i : Nat) (cur : List α) : Prop where
 len : cur.length = l.length
 lt : i < j
 le : j ≤ l.length
 pre : cur.take i = (l.take j).filter fun x => !p x
 suf : cur.drop j = l.drop j
theorem DelSt.start {p : α → Bool} {l : List α} {i : Nat} {x : α} (h : idxF p l = i) (hi : i < l.length) : DelSt p l (i + 1) i l := by
 have key : ∀ (l : List α) (i : Nat), idxF p l = i → i < l.length → l.take i = (l.take (i + 1)).filter fun x => !p x := by
  intro l
  induction l with
  | nil => intro i h hi; simp at hi
  | cons a l ih =>
    intro i h hi
    unfold idxF at h
    by_cases ha : p a = true
    ·simp only [List.findIdx?_cons, ha, if_true] at h
     have : i = 0 := by omega
     subst this
     simp [ha]
    ·have ha' : p a = false := by simpa using ha
     simp only [List.findIdx?_cons, ha'] at h
     cases hf : l.findIdx? p with
     | none => rw [hf] at h; simp at h <;> omega
     | some q =>
       rw [hf] at h
       have e : i = q + 1 := by simp at h; omega
       subst e
       have := ih q (by simp [idxF, hf]) (by simpa using hi)
       simp [ha', this]
 exact ⟨rfl, by omega, by omega, key l i h hi, rfl⟩
theorem DelSt.get {p : α → Bool} {l : List α} {j i : Nat} {cur : List α} (h : DelSt p l j i cur) {v : α} (hv : l[j]? = some v) : cur[j]? = some v := by
 have h1 : (cur.drop j)[0]? = (l.drop j)[0]? := by rw [h.suf]
 simpa [hv] using h1
theorem DelSt.del {p : α → Bool} {l : List α} {j i : Nat} {cur : List α} (h : DelSt p l j i cur) {v : α} (hv : l[j]? = some v) (hp : p v = true) : DelSt p l (j + 1) i cur := by
 have hj : j < l.length := (List.getElem?_eq_some_iff.1 hv).1
 refine ⟨h.len, by have := h.lt; omega, by omega, ?_, ?_⟩
 ·rw [h.pre, List.take_add_one, hv]; simp [hp]
 ·have := congrArg (List.drop 1) h.suf
  rwa [List.drop_drop, List.drop_drop] at this
theorem DelSt.keep {p : α → Bool} {l : List α} {j i : Nat} {cur : List α} (h : DelSt p l j i cur) {v : α} (hv : l[j]? = some v) (hp : p v = false) : DelSt p l (j + 1) (i + 1) (cur.set i v) := by
 have hj : j < l.length := (List.getElem?_eq_some_iff.1 hv).1
 have hlt := h.lt
 have hlen := h.len
 refine ⟨by simp [hlen], by omega, by omega, ?_, ?_⟩
 ·rw [List.take_add_one (l := l), hv]
  have : (cur.set i v).take (i + 1) = cur.take i ++ [v] := by
   rw [List.take_add_one]
   have h1 : (cur.set i v)[i]? = some v := by simp [show i < cur.length by omega]
   rw [h1, List.take_set_of_le (Nat.le_refl i)]
   rfl
  rw [this, h.pre]; simp [hp]
 ·rw [List.drop_set_of_lt (by omega)]
  have := congrArg (List.drop 1) h.suf
  rwa [List.drop_drop, List.drop_drop] at this
theorem DelSt.done {p : α → Bool} {l : List α} {i : Nat} {cur : List α} (h : DelSt p l l.length i cur) : cur.take i = l.filter fun x => !p x := by
 rw [h.pre, List.take_length]
end Go.G
end
section
namespace Go.G
open Go.AI Go.Sort
def ltOf (cf : Key → Key → Int) (x y : Key) : Bool := decide (cf x y < 0)
theorem zkt : ∀ (a b : List UInt8), Lib.compareBytes b a = - Lib.compareBytes a b
 | [], [] => by simp [Lib.compareBytes]
 | [], _ :: _ => by simp [Lib.compareBytes]
 | _ :: _, [] => by simp [Lib.compareBytes]
 | a :: l, b :: m => by
   simp only [Lib.compareBytes, UInt8.lt_iff_toNat_lt]
   by_cases h1 : a.toNat < b.toNat
   ·have h2 : ¬ b.toNat < a.toNat := by omega
    simp [h1, h2]
   ·by_cases h2 : b.toNat < a.toNat
    ·simp [h1, h2]
    ·simp [h1, h2]; exact zkt l m
theorem zjc : ∀ {a b c : List UInt8}, Lib.compareBytes a b = -1 → Lib.compareBytes b c = -1 → Lib.compareBytes a c = -1
 | [], [], _, h, _ => by simp [Lib.compareBytes] at h
 | [], _ :: _, [], _, h => by simp [Lib.compareBytes] at h
 | [], _ :: _, _ :: _, _, _ => by simp [Lib.compareBytes]
 | _ :: _, [], _, h, _ => by simp [Lib.compareBytes] at h
 | _ :: _, _ :: _, [], _, h => by simp [Lib.compareBytes] at h
 | a :: l, b :: m, c :: n, h1, h2 => by
   simp only [Lib.compareBytes, UInt8.lt_iff_toNat_lt] at h1 h2 ⊢
   by_cases p1 : a.toNat < b.toNat
   ·by_cases p2 : b.toNat < c.toNat
    ·simp [show a.toNat < c.toNat by omega]
    ·by_cases p3 : c.toNat < b.toNat
     ·simp [p2, p3] at h2
     ·simp [show a.toNat < c.toNat by omega]
   ·by_cases p1' : b.toNat < a.toNat
    ·simp [p1, p1'] at h1
    ·by_cases p2 : b.toNat < c.toNat
     ·simp [show a.toNat < c.toNat by omega]
     ·by_cases p3 : c.toNat < b.toNat
      ·simp [p2, p3] at h2
      ·have q1 : ¬ a.toNat < c.toNat := by omega
       have q2 : ¬ c.toNat < a.toNat := by omega
       simp only [p1, p1', p2, p3, q1, q2, if_false] at h1 h2 ⊢
       exact zjc h1 h2
theorem zg4 (a b : Key) : cmpK b a = - cmpK a b := by
 unfold cmpK
 by_cases h1 : a.kind < b.kind
 ·have h2 : ¬ b.kind < a.kind := by omega
  simp [h1, h2]
 ·by_cases h2 : b.kind < a.kind
  ·simp [h1, h2]
  ·simp [h1, h2, cmpS]; exact zkt _ _
theorem zce {a b c : Key} (h1 : cmpK a b = -1) (h2 : cmpK b c = -1) : cmpK a c = -1 := by
 unfold cmpK at *
 by_cases p1 : a.kind < b.kind
 ·by_cases p2 : b.kind < c.kind
  ·simp [show a.kind < c.kind by omega]
  ·by_cases p3 : c.kind < b.kind
   ·simp [p2, p3] at h2
   ·simp [show a.kind < c.kind by omega]
 ·by_cases p1' : b.kind < a.kind
  ·simp [p1, p1'] at h1
  ·by_cases p2 : b.kind < c.kind
   ·simp [show a.kind < c.kind by omega]
   ·by_cases p3 : c.kind < b.kind
    ·simp [p2, p3] at h2
    ·have q1 : ¬ a.kind < c.kind := by omega
     have q2 : ¬ c.kind < a.kind := by omega
     simp only [p1, p1', p2, p3, q1, q2, if_false] at h1 h2 ⊢
     exact zjc h1 h2
theorem zdb (a : Key) : cmpK a a = 0 := cmpK_zero.2 rfl
theorem qeg (a b : Key) : (cmpK a b < 0) ↔ cmpK a b = -1 := by
 have := zdl a b; omega
theorem zrt (a b : Key) : ltOf cmpK a b = decide (cmpK a b = -1) := by
 unfold ltOf; rw [Bool.eq_iff_iff]; simp [qeg]
theorem qhf {a b : Key} (h1 : ltOf cmpK a b = false) (h2 : ltOf cmpK b a = false) : a = b := by
 rw [zrt] at h1 h2
 have e := zg4 a b
 have r := zdl a b
 simp at h1 h2
 exact cmpK_zero.1 (by omega)
theorem swoK : SWO (ltOf cmpK) where
 irrefl x := by rw [zrt, zdb]; simp
 trans x y z h1 h2 := by
  rw [zrt] at *; simp at *; exact zce h1 h2
 ntrans x y z h1 h2 := by
  cases h : ltOf cmpK x z
  ·rfl
  ·exfalso
   rw [zrt] at *
   simp at *
   rcases zdl y x with a | a | a
   ·have := zce a h
    exact h2 this
   ·have e := cmpK_zero.1 a; subst e; exact h2 h
   ·have := zg4 y x; omega
def zii (l : List Key) : List Key := l.mergeSort fun x y => !(ltOf cmpK) y x
theorem zdt (l : List Key) : (zii l).length = l.length := List.length_mergeSort l
theorem zro {l : List Key} {k : Key} : k ∈ zii l ↔ k ∈ l := List.mem_mergeSort
theorem qdp (l : List Key) : (zii l).Pairwise fun x y => (!(ltOf cmpK) y x) = true := by
 refine List.pairwise_mergeSort (le := fun x y => !(ltOf cmpK) y x) ?_ ?_ l
 ·intro a b c h1 h2
  simp only [Bool.not_eq_true'] at *
  exact swoK.ntrans _ _ _ h2 h1
 ·intro a b
  cases h : ltOf cmpK b a
  ·simp
  ·cases h2 : ltOf cmpK a b
   ·simp
   ·have := swoK.trans _ _ _ h h2
    rw [swoK.irrefl] at this; cases this
def Asc (l : List Key) : Prop := l.Pairwise fun x y => cmpK x y = -1
theorem zfv : ∀ {a b : List Key}, Asc a → Asc b → (∀ k, k ∈ a ↔ k ∈ b) → a = b
 | [], [], _, _, _ => rfl
 | [], y :: b, _, _, h => by have := (h y).2 (by simp); simp at this
 | x :: a, [], _, _, h => by have := (h x).1 (by simp); simp at this
 | x :: a, y :: b, ha, hb, h => by
   obtain ⟨hx, ha'⟩ := List.pairwise_cons.1 ha
   obtain ⟨hy, hb'⟩ := List.pairwise_cons.1 hb
   have irr : ∀ z : Key, ¬ cmpK z z = -1 := fun z => by rw [zdb]; decide
   have e : x = y := by
    rcases List.mem_cons.1 ((h x).1 (by simp)) with e | e
    ·exact e
    ·rcases List.mem_cons.1 ((h y).2 (by simp)) with e' | e'
     ·exact e'.symm
     ·exact absurd (zce (hx y e') (hy x e)) (irr x)
   subst e
   congr 1
   refine zfv ha' hb' fun k => ?_
   constructor
   ·intro hk
    rcases List.mem_cons.1 ((h k).1 (by simp [hk])) with e | e
    ·subst e; exact absurd (hx _ hk) (irr _)
    ·exact e
   ·intro hk
    rcases List.mem_cons.1 ((h k).2 (by simp [hk])) with e | e
    ·subst e; exact absurd (hy _ hk) (irr _)
    ·exact e
def zgd (p : Option Key) : List Key → List Key
 | [] => []
 | x :: l => (if p = some x then [] else [x]) ++ zgd (some x) l
def zex (l : List Key) : List Key := zgd none l
def zub (p : Option Key) (l : List Key) : Option Key := match l.getLast? with
 | some x => some x
 | none => p
theorem zn4 (x : Key) : ∀ (l : List Key) (p : Option Key), zgd p (l ++ [x]) = zgd p l ++ (if zub p l = some x then [] else [x])
 | [], p => by by_cases h : p = some x <;> simp [zgd, zub, h]
 | y :: l, p => by
   simp only [List.cons_append, zgd]
   rw [zn4 x l (some y)]
   have : zub (some y) l = zub p (y :: l) := by
    unfold zub
    rw [List.getLast?_cons]
    cases l.getLast? <;> simp
   rw [this]; simp
theorem zrr {k : Key} : ∀ {l : List Key} {p : Option Key}, k ∈ zgd p l → k ∈ l
 | [], p, h => by simp [zgd] at h
 | x :: l, p, h => by
   simp only [zgd, List.mem_append] at h
   rcases h with h | h
   ·split at h <;> simp at h; subst h; simp
   ·simp [zrr h]
theorem znr {k : Key} : ∀ {l : List Key} {p : Option Key}, k ∈ l → k ∈ zgd p l ∨ p = some k
 | [], p, h => by simp at h
 | x :: l, p, h => by
   simp only [zgd, List.mem_append]
   rcases List.mem_cons.1 h with e | e
   ·subst e
    by_cases hp : p = some k
    ·exact .inr hp
    ·simp [hp]
   ·rcases znr (p := some x) e with h | h
    ·exact .inl (.inr h)
    ·by_cases hp : p = some x
     ·exact .inr (by rw [hp, h])
     ·have : x = k := Option.some.inj h
      exact .inl (.inl (by rw [this] at hp; simp [hp, this]))
theorem zrq {k : Key} {l : List Key} : k ∈ zex l ↔ k ∈ l :=
 ⟨zrr, fun h => (znr (p := none) h).resolve_right (by simp)⟩
theorem zs4 : ∀ {l : List Key} {p : Option Key}, l.Pairwise (fun x y => (!(ltOf cmpK) y x) = true) → Asc (zgd p l) ∧ ∀ q, p = some q → (∀ x ∈ l, (!(ltOf cmpK) x q) = true) → ∀ x ∈ zgd p l, cmpK q x = -1
 | [], p, _ => ⟨by simp [zgd, Asc], fun q _ _ x h => by simp [zgd] at h⟩
 | x :: l, p, h => by
   obtain ⟨hx, hl⟩ := List.pairwise_cons.1 h
   obtain ⟨h1, h2⟩ := zs4 (p := some x) hl
   have h3 := h2 x rfl hx
   refine ⟨?_, fun q hq hlq y hy => ?_⟩
   ·simp only [zgd]
    split
    ·simpa using h1
    ·exact List.pairwise_cons.2 ⟨h3, h1⟩
   ·simp only [zgd, List.mem_append] at hy
    have lt : ∀ z, (!(ltOf cmpK) z q) = true → z ≠ q → cmpK q z = -1 := fun z hz hne => by
     rw [zrt] at hz
     simp at hz
     rcases zdl q z with a | a | a
     ·exact a
     ·exact absurd (cmpK_zero.1 a).symm hne
     ·have := zg4 q z; omega
    rcases hy with hy | hy
    ·split at hy
     ·simp at hy
     ·rename_i hne
      simp at hy; subst hy
      exact lt _ (hlq _ (by simp)) (fun e => hne (by rw [hq, e]))
    ·by_cases e : x = q
     ·rw [← e]; exact h3 y hy
     ·exact zce (lt x (hlq x (by simp)) e) (h3 y hy)
theorem zwh (l : List Key) : Asc (zex (zii l)) := (zs4 (qdp l)).1
theorem zf4 (k : Key) : ∀ {l : List Key}, Asc l → (∀ x ∈ l, cmpK k x = -1) → putG k true l = l
 | [], _, _ => by simp [putG]
 | x :: l, h, hk => by
   obtain ⟨_, hl⟩ := List.pairwise_cons.1 h
   have h0 : ¬ cmpK x k = 0 := by
    intro e; have := hk x (by simp); rw [cmpK_zero.1 e, zdb] at this; omega
   have := zf4 k hl (fun y hy => hk y (by simp [hy]))
   simp [putG, h0, this]
theorem zqz (k : Key) : ∀ {l : List Key}, Asc l → Asc (putK l k) ∧ ∀ x, x ∈ putK l k ↔ x = k ∨ x ∈ l
 | [], _ => by simp [putK, putG, Asc]
 | x :: l, h => by
   obtain ⟨hx, hl⟩ := List.pairwise_cons.1 h
   obtain ⟨h1, h2⟩ := zqz k hl
   rcases zdl x k with a | a | a
   ·have e : putK (x :: l) k = x :: putK l k := by simp [putK, putG, a]
    rw [e]
    refine ⟨List.pairwise_cons.2 ⟨fun y hy => ?_, h1⟩, fun y => ?_⟩
    ·rcases (h2 y).1 hy with e | e
     ·rw [e]; exact a
     ·exact hx y e
    ·simp only [List.mem_cons, h2]
     constructor
     ·rintro (h | h | h) <;> simp [h]
     ·rintro (h | h | h) <;> simp [h]
   ·have e := cmpK_zero.1 a
    subst e
    have : putG x true l = l := zf4 x hl hx
    have e : putK (x :: l) x = x :: l := by simp [putK, putG, zdb, this]
    rw [e]
    exact ⟨h, fun y => by simp⟩
   ·have b : cmpK k x = -1 := by have := zg4 x k; omega
    have : putG k true l = l := zf4 k hl (fun y hy => zce b (hx y hy))
    have e : putK (x :: l) k = k :: x :: l := by simp [putK, putG, a, this]
    rw [e]
    refine ⟨List.pairwise_cons.2 ⟨fun y hy => ?_, h⟩, fun y => by simp⟩
    rcases List.mem_cons.1 hy with e | e
    ·rw [e]; exact b
    ·exact zce b (hx y e)
theorem zdx : ∀ (l : List Key) {o : List Key}, Asc o → Asc (l.foldl putK o) ∧ ∀ x, x ∈ l.foldl putK o ↔ x ∈ o ∨ x ∈ l
 | [], o, h => ⟨h, fun x => by simp⟩
 | k :: l, o, h => by
   obtain ⟨h1, h2⟩ := zqz k h
   obtain ⟨h3, h4⟩ := zdx l h1
   refine ⟨h3, fun x => ?_⟩
   rw [List.foldl_cons, h4, h2]
   simp only [List.mem_cons]
   constructor
   ·rintro ((h | h) | h) <;> simp [h]
   ·rintro (h | h | h) <;> simp [h]
theorem zsr (l : List Key) : zex (zii l) = l.foldl putK [] := by
 obtain ⟨h1, h2⟩ := zdx l (o := []) (by simp [Asc])
 refine zfv (zwh l) h1 fun k => ?_
 rw [zrq, zro, h2]; simp
theorem zsq {l m : List Key} (hm : Asc m) (h : ∀ k, k ∈ m ↔ k ∈ l) : zex (zii l) = m :=
 zfv (zwh l) hm fun k => by rw [zrq, zro, h]
end Go.G
namespace Go.G
abbrev toKey (w : Weight) : Key := ⟨2, w.cluster⟩
theorem zmq : ∀ (l : List Weight) (o : List Key), l.foldl ze1 o = ((l.filter fun w => decide (0 < w.w)).map toKey).foldl putK o
 | [], o => rfl
 | w :: l, o => by
   rw [List.foldl_cons, zmq l]
   by_cases h : 0 < w.w <;> simp [ze1, h]
def outP (r : Res) (k : Nat) : List Key := (if bs r.to = [] then [] else [⟨r.kind + 1, r.to⟩]) ++ (((r.rules.take k).flatMap (·.split)).filter fun w => decide (0 < w.w)).map toKey
theorem zra {r : Res} (h : zbl r = 0) : zex (zii (outP r r.rules.length)) = za2 r := by
 obtain ⟨_, _, _, h4, h5, _⟩ := zeh h
 have e0 : (if bs r.to = [] then ([] : List Key) else [⟨r.kind + 1, r.to⟩]) = zjr r := by
  unfold zjr
  by_cases ht : mayT r.kind = true
  ·have hn : zcr r.to = true := by simp [zgw, ht] at h5; exact h5.1
   have : ¬ bs r.to = [] := by intro e; simp [zcr, zf2, e] at hn
   rw [if_neg this, if_pos ht]
  ·have : bs r.to = [] := by simp [zfb, ht] at h4; exact h4.1.1.2
   rw [if_pos this, if_neg ht]
 have e1 : za2 r = (((r.rules.flatMap (·.split)).filter fun w => decide (0 < w.w)).map toKey).foldl putK (zjr r) := by
  rw [za2, if_pos h, zmq]
 have h0 : Asc (zjr r) := by unfold zjr; split <;> simp [Asc]
 obtain ⟨h1, h2⟩ := zdx (((r.rules.flatMap (fun x : Rule => x.split)).filter fun w : Weight => decide (0 < w.w)).map toKey) h0
 rw [e1]
 refine zsq h1 fun k => ?_
 rw [h2, outP, e0, List.take_length, List.mem_append]
def noR (l : List Res) (k : Key) : Bool := !(getR l k).isSome
def zjw (l all : List Res) : List Key := (l.flatMap za2).filter (noR all)
def zmc (l : List Res) : List Key := (zjw l l).foldl putK []
end Go.G
namespace Go.G
theorem zq9 (r : Res) : outP r 0 = if bs r.to = [] then [] else [⟨r.kind + 1, r.to⟩] := by simp [outP]
theorem zzv {r : Res} {k : Nat} {x : Rule} (h : r.rules.take (k + 1) = r.rules.take k ++ [x]) : outP r (k + 1) = outP r k ++ (x.split.filter fun w => decide (0 < w.w)).map toKey := by
 simp [outP, h, List.flatMap_append, List.filter_append]
theorem zvh {r : Res} (k : Nat) (h1 : r.rules.length ≤ 8) (h : ∀ x ∈ r.rules, x.split.length ≤ 4) : (outP r k).length ≤ 33 := by
 have h4 := zph (l := r.rules.take k) (fun x hx => h x (List.mem_of_mem_take hx))
 have h5 : (r.rules.take k).length ≤ 8 := Nat.le_trans (by simp; omega) h1
 have h6 := List.length_filter_le (fun w : Weight => decide (0 < w.w)) ((r.rules.take k).flatMap (·.split))
 simp only [outP, List.length_append, List.length_map]
 split <;> simp <;> omega
structure CompSt (l : List Key) (j i : Nat) (cur : List Key) : Prop where
 len : cur.length = l.length
 lt : i < j
 le : j ≤ l.length
 pre : cur.take i = zex (l.take j)
 suf : cur.drop (j - 1) = l.drop (j - 1)
theorem zxq {l : List Key} {j : Nat} {q : Key} (h0 : 0 < j) (hq : l[j - 1]? = some q) : zub none (l.take j) = some q := by
 unfold zub
 have hj : j - 1 < l.length := (List.getElem?_eq_some_iff.1 hq).1
 have : (l.take j).getLast? = some q := by
  rw [List.getLast?_eq_getElem?, List.length_take, List.getElem?_take]
  rw [if_pos (by omega), show min j l.length - 1 = j - 1 by omega]; exact hq
 rw [this]
theorem zjf {l : List Key} {j : Nat} {v q : Key} (h0 : 0 < j) (hq : l[j - 1]? = some q) (hv : l[j]? = some v) : zex (l.take (j + 1)) = zex (l.take j) ++ (if q = v then [] else [v]) := by
 rw [List.take_add_one, hv]
 show zgd none (l.take j ++ [v]) = _
 rw [zn4, zxq h0 hq]
 simp [zex]
theorem CompSt.get {l : List Key} {j i : Nat} {cur : List Key} (h : CompSt l j i cur) {v : Key} (hv : l[j]? = some v) : cur[j]? = some v := by
 have h1 : (cur.drop (j - 1))[1]? = (l.drop (j - 1))[1]? := by rw [h.suf]
 have := h.lt
 rw [List.getElem?_drop, List.getElem?_drop, show j - 1 + 1 = j by omega] at h1
 rw [h1, hv]
theorem CompSt.get' {l : List Key} {j i : Nat} {cur : List Key} (h : CompSt l j i cur) {v : Key} (hv : l[j - 1]? = some v) : cur[j - 1]? = some v := by
 have h1 : (cur.drop (j - 1))[0]? = (l.drop (j - 1))[0]? := by rw [h.suf]
 rw [List.getElem?_drop, List.getElem?_drop] at h1
 simpa [hv] using h1
theorem CompSt.start {l : List Key} {j : Nat} {q : Key} (h0 : 0 < j) (hp : zex (l.take j) = l.take j) (h1 : l[j - 1]? = some q) (h2 : l[j]? = some q) : CompSt l (j + 1) j l :=
 ⟨rfl, by omega, by have := (List.getElem?_eq_some_iff.1 h2).1; omega, by rw [zjf h0 h1 h2, hp]; simp, rfl⟩
theorem CompSt.same {l : List Key} {j i : Nat} {cur : List Key} (h : CompSt l j i cur) {v : Key} (hv : l[j]? = some v) (hq : l[j - 1]? = some v) : CompSt l (j + 1) i cur := by
 have hj : j < l.length := (List.getElem?_eq_some_iff.1 hv).1
 have := h.lt
 refine ⟨h.len, by omega, by omega, by rw [zjf (by omega) hq hv, h.pre]; simp, ?_⟩
 have := congrArg (List.drop 1) h.suf
 rw [List.drop_drop, List.drop_drop, show j - 1 + 1 = j by omega] at this
 simpa using this
theorem CompSt.keep {l : List Key} {j i : Nat} {cur : List Key} (h : CompSt l j i cur) {v q : Key} (hv : l[j]? = some v) (hq : l[j - 1]? = some q) (hne : ¬ q = v) : CompSt l (j + 1) (i + 1) (cur.set i v) := by
 have hj : j < l.length := (List.getElem?_eq_some_iff.1 hv).1
 have hlt := h.lt
 have hlen := h.len
 refine ⟨by simp [hlen], by omega, by omega, ?_, ?_⟩
 ·rw [zjf (by omega) hq hv, if_neg hne, ← h.pre]
  have h1 : (cur.set i v)[i]? = some v := by simp [show i < cur.length by omega]
  rw [List.take_add_one, h1, List.take_set_of_le (Nat.le_refl i)]
  rfl
 ·rw [List.drop_set_of_lt (by omega)]
  have := congrArg (List.drop 1) h.suf
  rw [List.drop_drop, List.drop_drop, show j - 1 + 1 = j by omega] at this
  simpa using this
theorem CompSt.done {l : List Key} {i : Nat} {cur : List Key} (h : CompSt l l.length i cur) : cur.take i = zex l := by
 rw [h.pre, List.take_length]
end Go.G
namespace Go.G
theorem zx3 (l : List Key) : zex (l.take (0 + 1)) = l.take (0 + 1) := by cases l <;> simp [zex, zgd]
theorem zx2 {l : List Key} (h : (l.length : Int) < 2) : zex l = l := by
 match l, h with
 | [], _ => rfl
 | [_], _ => rfl
 | _ :: _ :: _, h => simp at h; omega
end Go.G
namespace Go.G
theorem qcd {r : Res} (h : zfb r = true) (ht : ¬ bs r.to = []) : r.rules = [] := by
 simp only [zfb, Bool.and_eq_true, Bool.or_eq_true, decide_eq_true_eq] at h
 have h2 := h.1.1.2.resolve_left ht
 simp only [mayT, Bool.or_eq_true, decide_eq_true_eq] at h2
 rcases h.1.2 with h3 | h3
 ·exact List.eq_nil_of_length_eq_zero h3
 ·simp only [mayR, decide_eq_true_eq] at h3; omega
end Go.G
end
section
namespace Go.G
theorem za3 {l : List Res} {k : Key} {r : Res} (h : getR l k = some r) : r.key = k := by
 have := List.find?_some h; simpa using this
theorem zap {l : List Res} {k : Key} {r : Res} (h : getR l k = some r) : r ∈ l := List.mem_of_find?_eq_some h
theorem zid (a b : List Res) (k : Key) : getR (a ++ b) k = match getR a k with | some r => some r | none => getR b k := by
 unfold getR
 rw [List.find?_append]
 cases a.find? _ <;> rfl
theorem zsh (l : List Res) {k q : Key} {c : Int} (h : cmpK k q = c) : getR (zhn l q c) k = getR l k := by
 induction l with
 | nil => rfl
 | cons a l ih =>
   unfold getR zhn at *
   by_cases h1 : a.key = k
   ·have h2 : cmpK a.key q = c := by rw [h1]; exact h
    simp [h1, h]
   ·by_cases h2 : cmpK a.key q = c
    ·simp only [List.filter_cons, h2, decide_true, if_true, List.find?_cons, h1, decide_false]; exact ih
    ·simp only [List.filter_cons, h2, decide_false, List.find?_cons, h1]; exact ih
theorem zj3 (l : List Res) {k q : Key} {c : Int} (h : ¬ cmpK k q = c) : getR (zhn l q c) k = none := by
 unfold getR zhn
 rw [List.find?_eq_none]
 intro x hx
 simp only [List.mem_filter, decide_eq_true_eq] at hx ⊢
 intro e; rw [e] at hx; exact h hx.2
theorem qa8 (l : List Res) (r : Res) (k : Key) : getR (zej l r) k = if r.key = k then some r else getR l k := by
 unfold zej
 rw [zid, zid]
 rcases zdl k r.key with h | h | h
 ·have hne : ¬ r.key = k := by intro e; rw [← e, zdb] at h; omega
  rw [zsh l h, zj3 l (c := 1) (by omega), if_neg hne]
  have : getR [r] k = none := by simp [getR, hne]
  rw [this]
  cases getR l k <;> rfl
 ·have e := cmpK_zero.1 h
  subst e
  rw [zj3 l (c := -1) (by omega), if_pos rfl]
  simp [getR]
 ·have hne : ¬ r.key = k := by intro e; rw [← e, zdb] at h; omega
  rw [zj3 l (c := -1) (by omega), zsh l h, if_neg hne]
  have : getR [r] k = none := by simp [getR, hne]
  rw [this]
theorem zsf (l : List Res) (q k : Key) : getR (zbx l q) k = if q = k then none else getR l k := by
 induction l with
 | nil => simp [getR]
 | cons a l ih =>
   unfold getR zbx at *
   by_cases h : q = k
   ·rw [if_pos h] at ih ⊢
    by_cases h1 : a.key = q
    ·simpa [List.filter_cons, h1] using ih
    ·simp only [List.filter_cons, h1, decide_false, Bool.not_false, if_true, List.find?_cons]
     have : ¬ a.key = k := by rw [← h]; exact h1
     simpa [this] using ih
   ·rw [if_neg h] at ih ⊢
    by_cases h1 : a.key = q
    ·have : ¬ a.key = k := by rw [h1]; exact h
     simp [List.filter_cons, h1, List.find?_cons, h] at ih ⊢
     exact ih
    ·by_cases h2 : a.key = k
     ·simp [List.filter_cons, h1, h2, Ne.symm h, List.find?_cons]
     ·simp only [List.filter_cons, h1, decide_false, Bool.not_false, if_true, List.find?_cons, h2]; exact ih
def AscR (l : List Res) : Prop := Asc (l.map Res.key)
theorem zau {l : List Res} (h : AscR l) {r : Res} (hr : r ∈ l) : getR l r.key = some r := by
 induction l with
 | nil => simp at hr
 | cons a l ih =>
   obtain ⟨h1, h2⟩ := List.pairwise_cons.1 h
   rcases List.mem_cons.1 hr with e | e
   ·subst e; simp [getR]
   ·have hne : ¬ a.key = r.key := by
     intro e'
     have := h1 r.key (List.mem_map.2 ⟨r, e, rfl⟩)
     rw [e', zdb] at this; omega
    have := ih h2 e
    unfold getR at *
    simp [List.find?_cons, hne, this]
theorem zys {l : List Res} {r : Res} (h : ∀ x ∈ l, cmpK x.key r.key = -1) : zej l r = l ++ [r] := by
 unfold zej zhn
 have e1 : (l.filter fun x => decide (cmpK x.key r.key = -1)) = l := List.filter_eq_self.2 (by simpa using h)
 have e2 : (l.filter fun x => decide (cmpK x.key r.key = 1)) = [] := List.filter_eq_nil_iff.2 (by intro x hx; have := h x hx; simp; omega)
 rw [e1, e2]; simp
theorem zi9 : ∀ (c l : List Res), AscR (l ++ c) → c.foldl zej l = l ++ c
 | [], l, _ => by simp
 | r :: c, l, h => by
   have h1 : ∀ x ∈ l, cmpK x.key r.key = -1 := by
    intro x hx
    unfold AscR Asc at h
    rw [List.map_append, List.pairwise_append] at h
    exact h.2.2 _ (List.mem_map.2 ⟨x, hx, rfl⟩) _ (by simp)
   rw [List.foldl_cons, zys h1, zi9 c (l ++ [r]) (by simpa using h)]
   simp
theorem zs3 {l : List Key} (h : Asc l) : l.Nodup := by
 unfold Asc at h
 refine h.imp ?_
 intro a b hab e
 rw [e, zdb] at hab; omega
theorem zf8 : ∀ {a b : List Key}, a.Nodup → (∀ x ∈ a, x ∈ b) → a.length ≤ b.length
 | [], b, _, _ => by simp
 | x :: a, b, hn, hs => by
   obtain ⟨h1, h2⟩ := List.nodup_cons.1 hn
   have hx : x ∈ b := hs x (by simp)
   have := zf8 (a := a) (b := b.erase x) h2 (fun y hy => by
    refine (List.mem_erase_of_ne ?_).2 (hs y (by simp [hy]))
    rintro rfl; exact h1 hy)
   rw [List.length_erase_of_mem hx] at this
   have : 0 < b.length := List.length_pos_of_mem hx
   simp; omega
theorem mem_missR {l : List Res} {k : Key} : k ∈ zmc l ↔ (∃ r ∈ l, k ∈ za2 r) ∧ (getR l k).isSome = false := by
 unfold zmc
 rw [(zdx _ (by simp [Asc])).2, zjw]
 simp [List.mem_filter, List.mem_flatMap, noR]
end Go.G
end
section
namespace Go.G
open Go.AI
structure Store where
 cap : Int
 hist : List (List Res)
 deriving DecidableEq
@[simp] def rsC (l : List Res) : List D := [lD (l.map resC)]
@[simp] def za5 (s : Store) : List D := [iD s.cap, lD (s.hist.map rsC)]
@[simp] theorem lenAll_rs (l : List (List Res)) : zbt (l.map rsC) 1 = True := zbj (f := rsC) (n := 1) (fun _ => rfl) l
structure OkStore (s : Store) : Prop where
 len : s.hist.length ≤ 9223372036854775807
 all : ∀ l ∈ s.hist, OkRs l
def capN (n : Int) : Int := max 0 (min n 64)
def newS (n : Int) : Store := ⟨capN n, [[]]⟩
def zam (s : Store) : List Res := s.hist.getLastD []
def zaw (s : Store) : Store := if s.hist = [] then newS s.cap else ⟨capN s.cap, s.hist⟩
def atS (s : Store) (i : Int) : Option (List Res) := if 0 ≤ i then (zaw s).hist[i.toNat]? else none
def zk1 (s : Store) (k : Key) (v : Int) : Option Res := match getR ((atS s v).getD []) k with
 | some r => if r.ver = v then some r else none
 | none => none
def qen (m : Mark) : Res := ⟨m.k.kind, m.k.name, m.ver, 0, ⟨#[]⟩, [], []⟩
def ofM (s : Store) (m : Mark) : Res := (zk1 s m.k m.ver).getD (qen m)
def zci (s : Store) (l : List Mark) : List Res := (l.map (ofM s)).foldl zej []
def zch (l : List Res) : List Mark := l.map fun r => ⟨r.key, r.ver⟩
@[simp] theorem marksV_nil : zch [] = [] := rfl
theorem zo5 (a b : List Res) : zch (a ++ b) = zch a ++ zch b := by simp [zch]
@[simp] theorem marksV_one (r : Res) : zch [r] = [⟨r.key, r.ver⟩] := rfl
@[simp] theorem marksV_length (l : List Res) : (zch l).length = l.length := by simp [zch]
def zbg (now next : List Res) (v : Int) : List Res := next.map fun r => { r with ver := match getR now r.key with
 | some o => if za0 o r then o.ver else v
 | none => v }
def zb9 (l : List Res) : Int := match l.find? fun r => !decide (zbl r = 0) with
 | some r => zbl r
 | none => 0
def ascB : List Res → Bool
 | [] => true
 | [_] => true
 | a :: b :: l => decide (cmpK a.key b.key = -1) && ascB (b :: l)
def ze3 (l : List Res) : List Int := (l.filter fun r => decide (r.kind = 0)).map Res.port
def tabE (l : List Res) : Int := if 64 < l.length then 3 else if zb9 l = 0 then (if ascB l = false then 2 else if (ze3 l).Nodup then 0 else 13) else zb9 l
def zca (a b : List Res) : List Res := b.filter fun r => !decide (getR a r.key = some r)
def zda (a b : List Res) : List Key := (a.map Res.key).filter fun k => !(getR b k).isSome
theorem zs5 {v : View} {f : Frame} (h1 : v.open_ = true) (h2 : fitF v f = true) : ansV v f = zc1 ⟨if f.err = 0 then zac v.have_ v.push.adds v.push.gone else v.have_, v.held, v.turn, zFrame, false⟩ f.turn f.held := by
 unfold ansV zc1
 rw [h1, h2]
 by_cases h : v.turn < f.turn <;> by_cases h3 : f.err = 0 <;> simp [h, h3]
theorem qd7 {v : View} {f : Frame} (h : f.type = 2) : (!decide (f.epoch = v.push.epoch) || (!decide (f.kind = v.push.kind) || !decide (f.nonce = v.push.nonce))) = !fitF v f := by
 simp only [fitF, h, decide_true, Bool.true_and, Bool.not_and, Bool.or_assoc]
theorem qg6 (s : Store) (m : Mark) : (ofM s m).key = m.k := by
 unfold ofM zk1
 split
 ·rename_i r h
  split
  ·simp [za3 h]
  ·rfl
 ·rfl
theorem qg5 (s : Store) (m : Mark) : (ofM s m).ver = m.ver := by
 unfold ofM zk1
 split
 ·rename_i r h
  split
  ·rename_i e; simpa using e
  ·rfl
 ·rfl
theorem zmi (s : Store) (l : List Mark) : (zci s l).length ≤ l.length := by
 have := zef (l.map (ofM s)) []
 simpa [zci] using this
def qhg (l : List Mark) (k : Key) : Option Mark := l.reverse.find? fun m => decide (m.k = k)
theorem zlf : ∀ (l : List Res), ascB l = true ↔ AscR l
 | [] => by simp [ascB, AscR, Asc]
 | [_] => by simp [ascB, AscR, Asc]
 | a :: b :: l => by
   have ih := zlf (b :: l)
   simp only [ascB, Bool.and_eq_true, decide_eq_true_eq, ih]
   unfold AscR Asc
   constructor
   ·rintro ⟨h1, h2⟩
    refine List.pairwise_cons.2 ⟨fun x hx => ?_, h2⟩
    obtain ⟨h3, _⟩ := List.pairwise_cons.1 h2
    rcases List.mem_cons.1 hx with e | e
    ·rw [e]; exact h1
    ·exact zce h1 (h3 x e)
   ·intro h
    obtain ⟨h1, h2⟩ := List.pairwise_cons.1 h
    exact ⟨h1 _ (by simp), h2⟩
theorem zai {l : List Res} (h : tabE l = 0) : AscR l := by
 unfold tabE at h
 rw [← zlf]
 split at h
 ·simp at h
 ·split at h
  ·split at h
   ·simp at h
   ·rename_i h3; simpa using h3
  ·rename_i h2; exact absurd h h2
end Go.G
end
section
namespace Go.G
theorem zpm {l : List Res} (h : fewL l = true) : l.length ≤ 80 := by
 simp only [fewL, Bool.and_eq_true, decide_eq_true_eq] at h; exact h.2
theorem qaf {l : List Res} {r x : Res} (h : x ∈ zej l r) : x = r ∨ x ∈ l := by
 simp only [zej, zhn, List.mem_append, List.mem_filter, List.mem_singleton] at h
 rcases h with (h | h) | h
 ·exact .inr h.1
 ·exact .inl h
 ·exact .inr h.1
theorem zf6 : ∀ {a l : List Res} {x : Res}, x ∈ a.foldl zej l → x ∈ l ∨ x ∈ a
 | [], l, x, h => .inl h
 | r :: a, l, x, h => by
   rcases zf6 (a := a) h with h | h
   ·rcases qaf h with h | h
    ·exact .inr (by simp [h])
    ·exact .inl h
   ·exact .inr (by simp [h])
theorem zgi : ∀ {g : List Key} {l : List Res} {x : Res}, x ∈ g.foldl zbx l → x ∈ l
 | [], l, x, h => h
 | k :: g, l, x, h => (List.mem_filter.1 (zgi (g := g) h)).1
theorem zmd {l a : List Res} {g : List Key} {x : Res} (h : x ∈ zac l a g) : x ∈ l ∨ x ∈ a := by
 rcases zf6 h with h | h
 ·exact .inl (zgi h)
 ·exact .inr h
theorem zq8 (l a : List Res) (g : List Key) : (zac l a g).length ≤ l.length + a.length := by
 have h1 := zef a (g.foldl zbx l)
 have h2 := zcu g l
 unfold zac; omega
theorem zo1 {l a : List Res} {g : List Key} (h1 : OkRs l) (h2 : OkRs a) (h : l.length + a.length ≤ 1000000) : OkRs (zac l a g) :=
 ⟨by have := zq8 l a g; omega, fun r hr => (zmd hr).elim (h1.all r) (h2.all r)⟩
end Go.G
namespace Go.G
theorem zut {v : View} {f : Frame} (h : v.open_ = false) : ansV v f = v := by simp [ansV, h]
theorem zyk {v : View} {f : Frame} (h : fitF v f = false) : ansV v f = v := by by_cases h1 : v.open_ = true <;> simp [ansV, h1, h]
theorem qer (v : View) (f : Frame) : (ansV v f).push = v.push ∨ (ansV v f).push = zFrame := by
 by_cases h1 : v.open_ = true
 ·by_cases h2 : fitF v f = true
  ·rw [zs5 h1 h2]; simp
  ·have h2 : fitF v f = false := by simpa using h2
   rw [zyk h2]; simp
 ·have h1 : v.open_ = false := by simpa using h1
  rw [zut h1]; simp
end Go.G
namespace Go.G
end Go.G
end
