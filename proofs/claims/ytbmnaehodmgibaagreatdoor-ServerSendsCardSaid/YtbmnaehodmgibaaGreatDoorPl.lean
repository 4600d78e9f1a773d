/-
  LAYERS 1 to 14: the plain functions that the code computes, how their data lies in cells, and plain laws of them.
-/
import Derived.Test.YtbmnaehodmgibaaGreatDoorFc
import Derived.Lib.Bytealg
import Derived.Laws.RangeAny
import Derived.Sort.Statements
set_option linter.unusedSimpArgs false
set_option linter.unusedVariables false
section
namespace Go.G
abbrev Str := ByteArray
structure Key where
  kind : Int
  name : Str
  deriving DecidableEq
structure Weight where
  cluster : Str
  w : Int
  deriving DecidableEq
structure Rule where
  host : Str
  pre : Str
  split : List Weight
  deriving DecidableEq
structure Res where
  kind : Int
  name : Str
  ver : Int
  port : Int
  to : Str
  rules : List Rule
  hosts : List Int
  deriving DecidableEq
structure Mark where
  k : Key
  ver : Int
  deriving DecidableEq
structure Frame where
  type : Int
  epoch : Int
  kind : Int
  nonce : Int
  turn : Int
  adds : List Res
  gone : List Key
  err : Int
  have_ : List Mark
  held : List Key
  deriving DecidableEq
structure View where
  have_ : List Res
  held : List Key
  turn : Int
  push : Frame
  open_ : Bool
  deriving DecidableEq
def Res.key (r : Res) : Key := ⟨r.kind, r.name⟩
end Go.G
end
section
namespace Go.G
open Go.AI
abbrev iD (n : Int) : D := .v (.int .i64 n)
abbrev sD (s : Str) : D := .v (.string s)
abbrev bD (b : Bool) : D := .v (.bool b)
abbrev int (n : Int) : AV := .d (iD n)
abbrev str (s : Str) : AV := .d (sD s)
abbrev bool (b : Bool) : AV := .d (bD b)
abbrev lD (es : List (List D)) : D := .ro false es
abbrev lst (es : List (List D)) : AV := .d (lD es)
@[simp] def intC (n : Int) : List D := [iD n]
@[simp] def wC (w : Weight) : List D := [sD w.cluster, iD w.w]
@[simp] def ruleC (r : Rule) : List D := [sD r.host, sD r.pre, lD (r.split.map wC)]
@[simp] def resC (r : Res) : List D := [iD r.kind, sD r.name, iD r.ver, iD r.port, sD r.to, lD (r.rules.map ruleC), lD (r.hosts.map intC)]
@[simp] def keyC (k : Key) : List D := [iD k.kind, sD k.name]
@[simp] def markC (m : Mark) : List D := [iD m.k.kind, sD m.k.name, iD m.ver]
@[simp] def frameC (f : Frame) : List D := [iD f.type, iD f.epoch, iD f.kind, iD f.nonce, iD f.turn, lD (f.adds.map resC), lD (f.gone.map keyC), iD f.err, lD (f.have_.map markC), lD (f.held.map keyC)]
@[simp] def viewC (v : View) : List D := [lD (v.have_.map resC), lD (v.held.map keyC), iD v.turn] ++ frameC v.push ++ [bD v.open_]
@[simp] theorem lenAll_int (l : List Int) : lenAll (l.map intC) 1 = True := lenAll_map (f := intC) (n := 1) (fun _ => rfl) l
@[simp] theorem lenAll_w (l : List Weight) : lenAll (l.map wC) 2 = True := lenAll_map (f := wC) (n := 2) (fun _ => rfl) l
@[simp] theorem lenAll_rule (l : List Rule) : lenAll (l.map ruleC) 3 = True := lenAll_map (f := ruleC) (n := 3) (fun _ => rfl) l
@[simp] theorem lenAll_res (l : List Res) : lenAll (l.map resC) 7 = True := lenAll_map (f := resC) (n := 7) (fun _ => rfl) l
@[simp] theorem lenAll_key (l : List Key) : lenAll (l.map keyC) 2 = True := lenAll_map (f := keyC) (n := 2) (fun _ => rfl) l
@[simp] theorem lenAll_mark (l : List Mark) : lenAll (l.map markC) 3 = True := lenAll_map (f := markC) (n := 3) (fun _ => rfl) l
abbrev st (cs : List D) : AV := .agg (cs.map .d)
/-- Where a body ends that leaves no names. -/
theorem fin0 {mm : Nat → Option Blk} {r res : AV} (h : leA (prA (fun _ => false) mm 8 r) (res.ren (gf []))) (hn : inA (nmF [] []) res = true) : ∃ g, FinOk mm r [] res [] g :=
  ⟨[], by simpa using h, by simp, by simp, by simp, by simp, hn, by simp⟩
end Go.G
end
section
namespace Go.G
open Go.AI
def bs (s : Str) : List UInt8 := s.data.toList
theorem size_bs (s : Str) : s.size = (bs s).length := by show s.data.size = _; rw [bs, Array.length_toList]
theorem get_bs (s : Str) (i : Nat) : s[i]? = (bs s)[i]? := by
  simp only [bs, Array.getElem?_toList]
  by_cases h : i < s.size
  · rw [getElem?_pos s i h, getElem?_pos s.data i h]; rfl
  · rw [getElem?_neg s i h, getElem?_neg s.data i h]
theorem bs_inj {a b : Str} (h : bs a = bs b) : a = b := by
  cases a; cases b; simp [bs] at h; cases h; rfl
theorem bs_extract (s : Str) (i j : Nat) : bs (s.extract i j) = ((bs s).take j).drop i := by
  simp [bs, List.extract_eq_take_drop]
  rw [List.drop_take]
@[simp] theorem bs_mk (l : List UInt8) : bs ⟨l.toArray⟩ = l := rfl
abbrev byte (c : UInt8) : AV := .d (.v (.int .u8 c.toNat))
def lowB (c : UInt8) : Bool := decide ((97 : Int) ≤ c.toNat) && decide ((c.toNat : Int) ≤ 122)
def partB (c : UInt8) : Bool := lowB c || (decide ((48 : Int) ≤ c.toNat) && decide ((c.toNat : Int) ≤ 57)) || decide ((c.toNat : Int) = 45)
def saneL (l : List UInt8) : Bool := decide (1 ≤ l.length) && decide (l.length ≤ 12) && lowB (l.headD 0) && l.all partB
def nameB (s : Str) : Bool := saneL (bs s)
end Go.G
namespace Go.G
open Go.AI
theorem str_eq (a b : Str) : (a = b) = (bs a = bs b) := propext ⟨fun h => by rw [h], bs_inj⟩
def slB (c : UInt8) : Bool := partB c || decide ((c.toNat : Int) = 47)
def pathB (s : Str) : Bool := decide (1 ≤ (bs s).length) && decide ((bs s).length ≤ 40) && decide (((bs s).headD 0).toNat = 47) && (bs s).all slB
def starL (l : List UInt8) : Bool := decide (2 ≤ l.length) && decide (l.take 2 = [42, 46])
def namesG : List UInt8 → List UInt8 → Bool
  | p, [] => saneL p
  | p, c :: r => if c = 46 then saneL p && namesG [] r else namesG (p ++ [c]) r
def hostB (s : Str) : Bool := decide ((bs s).length ≤ 40) && (decide (bs s = [42]) || (starL (bs s) && namesG [] ((bs s).drop 2)) || namesG [] (bs s))
def hostP (s : Str) : Bool := decide ((bs s).length ≤ 40) && (decide (bs s = [42]) || namesG [] (if starL (bs s) then (bs s).drop 2 else bs s))
theorem star_names {l : List UInt8} (h : starL l = true) : namesG [] l = false := by
  match l, h with
  | [], h => simp [starL] at h
  | [_], h => simp [starL] at h
  | a :: b :: r, h =>
    simp [starL] at h
    obtain ⟨rfl, rfl⟩ := h
    simp [namesG, saneL, lowB]
theorem hostP_eq (s : Str) : hostP s = hostB s := by
  unfold hostP hostB
  cases h : starL (bs s)
  · simp
  · simp [star_names h]
def cmpS (a b : Str) : Int := Lib.compareBytes (bs a) (bs b)
end Go.G
namespace Go.G
open Go.AI
theorem at_bs {s : Str} {k : Nat} {c : UInt8} (h : (bs s)[k]? = some c) : ∃ hk : k < s.size, s[k]'hk = c := by
  rw [← get_bs] at h
  by_cases hk : k < s.size
  · rw [getElem?_pos s k hk] at h; cases h; exact ⟨hk, rfl⟩
  · rw [getElem?_neg s k hk] at h; cases h
theorem decode_lo {s : Str} {k : Nat} {c : UInt8} (h : (bs s)[k]? = some c) (hc : c.toNat < 128) : Utf8.decode s k = (c.toNat, 1) := by
  obtain ⟨hk, rfl⟩ := at_bs h
  exact decode_ascii s k hk hc
theorem decode_hi {s : Str} {k : Nat} {c : UInt8} (h : (bs s)[k]? = some c) (hc : 128 ≤ c.toNat) : 128 ≤ (Utf8.decode s k).1 := by
  obtain ⟨hk, rfl⟩ := at_bs h
  exact (decode_high s k hk hc).1
theorem part_lt {c : UInt8} (h : partB c = true) : c.toNat < 128 := by
  simp [partB, lowB] at h; omega
def lowI (c : Int) : Bool := decide (97 ≤ c) && decide (c ≤ 122)
def plainI (c : Int) : Bool := lowI c || (decide (48 ≤ c) && decide (c ≤ 57)) || decide (c = 45)
@[simp] theorem plainI_is (c : UInt8) : plainI c.toNat = partB c := rfl
@[simp] theorem lowI_is (c : UInt8) : lowI c.toNat = lowB c := rfl
theorem plainI_hi {n : Nat} (h : 128 ≤ n) : plainI n = false := by simp [plainI, lowI]; omega
end Go.G
end
section
namespace Go.G
open Go.AI
def rngB (n m : Int) : Bool := decide (0 ≤ n) && decide (n ≤ m)
def splitB (x : Rule) : Bool := decide (x.split.length ≤ 4) && x.split.all fun w => rngB w.w 100
def smallB (r : Res) : Bool := rngB r.ver 2147483647 && rngB r.port 65535 && decide (r.rules.length ≤ 8) && decide (r.hosts.length ≤ 8) && (r.hosts.all fun h => rngB h 2147483647) && r.rules.all splitB
def mayP (k : Int) : Bool := decide (k = 0)
def mayT (k : Int) : Bool := decide (k = 0) || decide (k = 2)
def mayR (k : Int) : Bool := decide (k = 1)
def mayH (k : Int) : Bool := decide (k = 3)
def shapedB (r : Res) : Bool := (decide (r.port = 0) || mayP r.kind) && (decide (bs r.to = []) || mayT r.kind) && (decide (r.rules.length = 0) || mayR r.kind) && (decide (r.hosts.length = 0) || mayH r.kind)
def ruleB (x : Rule) : Bool := hostB x.host && pathB x.pre && x.split.all fun w => nameB w.cluster
def namedB (r : Res) : Bool := (!mayT r.kind || nameB r.to) && r.rules.all ruleB
def weighsB (x : Rule) : Bool := x.split.any fun w => decide (0 < w.w)
def sameR (x y : Rule) : Bool := decide (x.host = y.host) && decide (x.pre = y.pre)
/-- No element is as one ahead of it. -/
def aloneG {α : Type} (q : α → α → Bool) : List α → List α → Bool
  | _, [] => true
  | p, x :: l => !(p.any (q x)) && aloneG q (p ++ [x]) l
def singleB (r : Res) : Bool := r.rules.all weighsB && aloneG sameR [] r.rules && aloneG (fun a b => decide (a = b)) [] r.hosts
def saneE (r : Res) : Int :=
  if rngB r.kind 3 = false then 4 else if nameB r.name = false then 5 else if smallB r = false then 3 else if shapedB r = false then 2 else if namedB r = false then 5 else if singleB r = false then 2 else 0
def idxF {α : Type} (p : α → Bool) (l : List α) : Int := match l.findIdx? p with
  | some i => i
  | none => -1
theorem idxF_none {α : Type} {p : α → Bool} {l : List α} (h : ∀ x ∈ l, p x = false) : idxF p l = -1 := by
  have : l.findIdx? p = none := by rw [List.findIdx?_eq_none_iff]; exact h
  simp [idxF, this]
theorem findIdx_at {α : Type} {p : α → Bool} : ∀ {l : List α} {k : Nat} {x : α}, (l.take k).all (fun x => !p x) = true → l[k]? = some x → p x = true → l.findIdx? p = some k
  | [], k, x, _, h, _ => by simp at h
  | a :: l, 0, x, _, h, hp => by
    simp at h; subst h; simp [List.findIdx?_cons, hp]
  | a :: l, k + 1, x, h1, h2, hp => by
    simp at h1 h2
    have := findIdx_at (l := l) (k := k) (by simpa using h1.2) h2 hp
    simp [List.findIdx?_cons, h1.1, this]
theorem idxF_at {α : Type} {p : α → Bool} {l : List α} {k : Nat} {x : α} (h1 : (l.take k).all (fun x => !p x) = true) (h2 : l[k]? = some x) (hp : p x = true) : idxF p l = k := by
  simp [idxF, findIdx_at h1 h2 hp]
theorem idxF_any {α : Type} (p : α → Bool) (l : List α) : decide (0 ≤ idxF p l) = l.any p := by
  rw [Bool.eq_iff_iff, decide_eq_true_eq]
  unfold idxF
  cases h : l.findIdx? p with
  | none =>
    rw [List.findIdx?_eq_none_iff] at h
    simp only [List.any_eq_true]
    constructor
    · intro h; simp at h
    · rintro ⟨x, hx, hp⟩; rw [h x hx] at hp; cases hp
  | some i =>
    rw [List.findIdx?_eq_some_iff_getElem] at h
    obtain ⟨hi, hp, _⟩ := h
    simp only [List.any_eq_true]
    exact ⟨fun _ => ⟨_, List.getElem_mem hi, hp⟩, fun _ => by simp⟩
end Go.G
end
section
namespace Go.G
open Go.AI
def cmpK (a b : Key) : Int := if a.kind < b.kind then -1 else if b.kind < a.kind then 1 else cmpS a.name b.name
/-- A key put into its place. -/
def putG (k : Key) : Bool → List Key → List Key
  | done, [] => if done then [] else [k]
  | done, x :: l => (if 0 ≤ cmpK x k ∧ done = false then [k] else []) ++ (if cmpK x k = 0 then [] else [x]) ++ putG k (done || decide (0 ≤ cmpK x k)) l
def putK (l : List Key) (k : Key) : List Key := putG k false l
theorem compare_range : ∀ (a b : List UInt8), Lib.compareBytes a b = -1 ∨ Lib.compareBytes a b = 0 ∨ Lib.compareBytes a b = 1
  | [], [] => by simp [Lib.compareBytes]
  | [], _ :: _ => by simp [Lib.compareBytes]
  | _ :: _, [] => by simp [Lib.compareBytes]
  | a :: l, b :: m => by
    simp only [Lib.compareBytes]
    split
    · simp
    · split
      · simp
      · exact compare_range l m
theorem compare_zero : ∀ {a b : List UInt8}, Lib.compareBytes a b = 0 ↔ a = b
  | [], [] => by simp [Lib.compareBytes]
  | [], _ :: _ => by simp [Lib.compareBytes]
  | _ :: _, [] => by simp [Lib.compareBytes]
  | a :: l, b :: m => by
    simp only [Lib.compareBytes, List.cons.injEq]
    split
    · rename_i h; simp; intro e; subst e; exact absurd h (UInt8.lt_irrefl _)
    · split
      · rename_i h; simp; intro e; subst e; exact absurd h (UInt8.lt_irrefl _)
      · rename_i h1 h2
        rw [compare_zero]
        have : a = b := by
          simp only [UInt8.lt_iff_toNat_lt] at h1 h2
          exact UInt8.toNat_inj.1 (by omega)
        simp [this]
theorem cmpS_zero {a b : Str} : cmpS a b = 0 ↔ a = b := by rw [cmpS, compare_zero, ← str_eq]
theorem cmpK_zero {a b : Key} : cmpK a b = 0 ↔ a = b := by
  obtain ⟨x, s⟩ := a; obtain ⟨y, t⟩ := b
  simp only [cmpK, Key.mk.injEq]
  split
  · rename_i h; simp; intro e; omega
  · split
    · rename_i h; simp; intro e; omega
    · rw [cmpS_zero]
      have : x = y := by omega
      simp [this]
theorem cmpK_range (a b : Key) : cmpK a b = -1 ∨ cmpK a b = 0 ∨ cmpK a b = 1 := by
  unfold cmpK
  split
  · simp
  · split
    · simp
    · exact compare_range _ _
end Go.G
namespace Go.G
theorem ite_len {p : Prop} [Decidable p] (y : Key) : (if p then [] else [y]).length ≤ 1 := by split <;> simp
theorem putG_true (k : Key) : ∀ (l : List Key), (putG k true l).length ≤ l.length
  | [] => by simp [putG]
  | y :: l => by
    have h1 := putG_true k l
    have h2 := ite_len (p := cmpK y k = 0) y
    simp only [putG, List.length_append, List.length_cons, Bool.true_or, Bool.true_eq_false, and_false, if_false, List.length_nil]
    omega
theorem putG_length (k : Key) : ∀ (d : Bool) (l : List Key), (putG k d l).length ≤ l.length + 1
  | true, l => Nat.le_succ_of_le (putG_true k l)
  | false, [] => by simp [putG]
  | false, x :: l => by
    have h1 := putG_length k false l
    have h2 := putG_true k l
    have h3 := ite_len (p := cmpK x k = 0) x
    simp only [putG, List.length_append, List.length_cons, Bool.false_or, and_true]
    by_cases hc : 0 ≤ cmpK x k
    · simp only [hc, decide_true, if_true, List.length_cons, List.length_nil]; omega
    · simp only [hc, decide_false, if_false, List.length_nil]; omega
def refsStep (out : List Key) (w : Weight) : List Key := if 0 < w.w then putK out ⟨2, w.cluster⟩ else out
def refs0 (r : Res) : List Key := if mayT r.kind then [⟨r.kind + 1, r.to⟩] else []
def refsK (r : Res) : List Key := if saneE r = 0 then (r.rules.flatMap (·.split)).foldl refsStep (refs0 r) else []
theorem refsStep_length (out : List Key) (w : Weight) : (refsStep out w).length ≤ out.length + 1 := by
  unfold refsStep
  split
  · exact putG_length _ _ _
  · omega
theorem sane_parts {r : Res} (h : saneE r = 0) : rngB r.kind 3 = true ∧ nameB r.name = true ∧ smallB r = true ∧ shapedB r = true ∧ namedB r = true ∧ singleB r = true := by
  unfold saneE at h
  (repeat' split at h) <;> simp_all
end Go.G
namespace Go.G
theorem fold_len : ∀ (l : List Weight) (o : List Key), (l.foldl refsStep o).length ≤ o.length + l.length
  | [], o => by simp
  | w :: l, o => by
    have h1 := fold_len l (refsStep o w)
    have h2 := refsStep_length o w
    simp only [List.foldl_cons, List.length_cons]; omega
theorem flat_len : ∀ {l : List Rule}, (∀ x ∈ l, x.split.length ≤ 4) → (l.flatMap (·.split)).length ≤ 4 * l.length
  | [], _ => by simp
  | x :: l, h => by
    have h1 := flat_len (l := l) (fun y hy => h y (by simp [hy]))
    have h2 := h x (by simp)
    simp only [List.flatMap_cons, List.length_append, List.length_cons]; omega
/-- What has come after so many rules. -/
def refsAt (r : Res) (k : Nat) : List Key := ((r.rules.take k).flatMap (·.split)).foldl refsStep (refs0 r)
theorem refs0_len (r : Res) : (refs0 r).length ≤ 1 := by unfold refs0; split <;> simp
theorem refsAt_len {r : Res} (k : Nat) (h1 : r.rules.length ≤ 8) (h : ∀ x ∈ r.rules, x.split.length ≤ 4) : (refsAt r k).length ≤ 33 := by
  have h2 := fold_len ((r.rules.take k).flatMap (·.split)) (refs0 r)
  have h3 := refs0_len r
  have h4 := flat_len (l := r.rules.take k) (fun x hx => h x (List.mem_of_mem_take hx))
  have h5 : (r.rules.take k).length ≤ 8 := Nat.le_trans (by simp; omega) h1
  unfold refsAt; omega
theorem refsK_at {r : Res} (h : saneE r = 0) : refsK r = refsAt r r.rules.length := by simp [refsK, refsAt, h]
end Go.G
namespace Go.G
def fewRule (x : Rule) : Bool := decide (x.split.length ≤ 20) && decide ((bs x.host).length ≤ 100) && decide ((bs x.pre).length ≤ 100)
def fewRes (r : Res) : Bool := r.rules.all fewRule && decide (r.rules.length ≤ 20) && decide (r.hosts.length ≤ 20) && decide ((bs r.name).length ≤ 100) && decide ((bs r.to).length ≤ 100)
end Go.G
end
section
namespace Go.G
open Go.AI
abbrev nB (s : Str) : Prop := (bs s).length ≤ 9223372036854775807
/-- What is read of a resource is of a size that may be. -/
structure OkRes (r : Res) : Prop where
  name : nB r.name
  to : nB r.to
  rules : r.rules.length ≤ 9223372036854775807
  split : ∀ x ∈ r.rules, x.split.length ≤ 9223372036854775807
  hosts : r.hosts.length ≤ 9223372036854775807
structure OkRs (l : List Res) : Prop where
  len : l.length ≤ 9223372036854775807
  all : ∀ r ∈ l, OkRes r
def zRes : Res := ⟨0, ⟨#[]⟩, 0, 0, ⟨#[]⟩, [], []⟩
def alikeB (a b : Res) : Bool := decide (a.kind = b.kind) && decide (a.name = b.name) && decide (a.port = b.port) && decide (a.to = b.to) && decide (a.hosts = b.hosts) && decide (a.rules = b.rules)
theorem alike_same (a b : Res) : (alikeB a b && decide (a.ver = b.ver)) = decide (a = b) := by
  rw [Bool.eq_iff_iff]
  obtain ⟨a1, a2, a3, a4, a5, a6, a7⟩ := a
  obtain ⟨b1, b2, b3, b4, b5, b6, b7⟩ := b
  simp [alikeB]
  constructor
  · rintro ⟨⟨⟨⟨⟨⟨h1, h2⟩, h3⟩, h4⟩, h5⟩, h6⟩, h7⟩; exact ⟨h1, h2, h7, h3, h4, h6, h5⟩
  · rintro ⟨h1, h2, h7, h3, h4, h6, h5⟩; exact ⟨⟨⟨⟨⟨⟨h1, h2⟩, h3⟩, h4⟩, h5⟩, h6⟩, h7⟩
def fewL (l : List Res) : Bool := l.all fewRes && decide (l.length ≤ 80)
def getR (l : List Res) (k : Key) : Option Res := l.find? fun r => decide (r.key = k)
abbrev getA (l : List Res) (k : Key) : AV := .tup [st (resC ((getR l k).getD zRes)), bool (getR l k).isSome]
abbrev partR (l : List Res) (k : Key) (c : Int) : List Res := l.filter fun r => decide (cmpK r.key k = c)
abbrev withR (l : List Res) (r : Res) : List Res := partR l r.key (-1) ++ [r] ++ partR l r.key 1
abbrev withoutR (l : List Res) (k : Key) : List Res := l.filter fun r => !decide (r.key = k)
def patchR (l adds : List Res) (gone : List Key) : List Res := adds.foldl withR (gone.foldl withoutR l)
abbrev refersR (l : List Res) (k : Key) : List Key := (l.filter fun r => decide (k ∈ refsK r)).map Res.key
theorem key_eq (a b : Key) : (decide (a.kind = b.kind) && decide (a.name = b.name)) = decide (a = b) := by
  obtain ⟨p, q⟩ := a; obtain ⟨u, v⟩ := b
  simp [Key.mk.injEq]
theorem withR_len (l : List Res) (r : Res) : (withR l r).length ≤ l.length + 1 := by
  have h : ∀ l : List Res, (partR l r.key (-1)).length + (partR l r.key 1).length ≤ l.length := by
    intro l
    induction l with
    | nil => simp
    | cons a l ih =>
      simp only [partR, List.filter_cons] at ih ⊢
      by_cases h1 : cmpK a.key r.key = -1
      · have h2 : ¬ cmpK a.key r.key = 1 := by omega
        simp [h1] at ih ⊢; omega
      · by_cases h2 : cmpK a.key r.key = 1
        · simp [h2] at ih ⊢; omega
        · simp [h1, h2] at ih ⊢; omega
  have := h l
  simp only [withR, List.length_append, List.length_cons, List.length_nil]; omega
theorem without_len (l : List Res) (k : Key) : (withoutR l k).length ≤ l.length := List.length_filter_le _ _
theorem fold_without_len : ∀ (g : List Key) (l : List Res), (g.foldl withoutR l).length ≤ l.length
  | [], l => by simp
  | k :: g, l => Nat.le_trans (fold_without_len g _) (without_len l k)
theorem fold_with_len : ∀ (a l : List Res), (a.foldl withR l).length ≤ l.length + a.length
  | [], l => by simp
  | r :: a, l => by
    have h1 := fold_with_len a (withR l r)
    have h2 := withR_len l r
    simp only [List.foldl_cons, List.length_cons]; omega
theorem find_none {α : Type} {p : α → Bool} {l : List α} (h : l.all (fun x => !p x) = true) : l.find? p = none := by
  rw [List.find?_eq_none]; intro x hx; have := List.all_eq_true.1 h x hx; simpa using this
theorem find_at {α : Type} {p : α → Bool} : ∀ {l : List α} {k : Nat} {x : α}, (l.take k).all (fun x => !p x) = true → l[k]? = some x → p x = true → l.find? p = some x
  | [], k, x, _, h, _ => by simp at h
  | a :: l, 0, x, _, h, hp => by simp at h; subst h; simp [List.find?_cons, hp]
  | a :: l, k + 1, x, h1, h2, hp => by
    simp at h1 h2
    have := find_at (l := l) (k := k) (by simpa using h1.2) h2 hp
    simp [List.find?_cons, h1.1, this]
theorem key_ne (a b : Key) : (!decide (a.kind = b.kind) || !decide (a.name = b.name)) = !decide (a = b) := by rw [← key_eq, Bool.not_and]
theorem refs_le33 (r : Res) : (refsK r).length ≤ 33 := by
  by_cases h : saneE r = 0
  · rw [refsK_at h]
    have hs := (sane_parts h).2.2.1
    simp only [smallB, Bool.and_eq_true, decide_eq_true_eq, List.all_eq_true] at hs
    refine refsAt_len _ hs.1.1.1.2 (fun x hx => ?_)
    have := hs.2 x hx
    simp only [splitB, Bool.and_eq_true, decide_eq_true_eq] at this
    exact this.1
  · simp [refsK, h]
theorem refs_le (r : Res) : (refsK r).length ≤ 9223372036854775807 := Nat.le_trans (refs_le33 r) (by omega)
@[simp] theorem lenAll_keyc {α : Type} (g : α → Key) (l : List α) : lenAll (l.map (keyC ∘ g)) 2 = True := lenAll_map (f := keyC ∘ g) (n := 2) (fun _ => rfl) l
@[simp] theorem lenAll_resc {α : Type} (g : α → Res) (l : List α) : lenAll (l.map (resC ∘ g)) 7 = True := lenAll_map (f := resC ∘ g) (n := 7) (fun _ => rfl) l
@[simp] theorem lenAll_markc {α : Type} (g : α → Mark) (l : List α) : lenAll (l.map (markC ∘ g)) 3 = True := lenAll_map (f := markC ∘ g) (n := 3) (fun _ => rfl) l
end Go.G
end
section
namespace Go.G
open Go.AI
structure OkFrame (f : Frame) : Prop where
  adds : OkRs f.adds
  gone : f.gone.length ≤ 9223372036854775807
  have_ : f.have_.length ≤ 9223372036854775807
  held : f.held.length ≤ 9223372036854775807
structure OkView (v : View) : Prop where
  have_ : OkRs v.have_
  held : v.held.length ≤ 9223372036854775807
  push : OkFrame v.push
def zFrame : Frame := ⟨0, 0, 0, 0, 0, [], [], 0, [], []⟩
def fewF (f : Frame) : Bool := (f.have_.all fun m => decide ((bs m.k.name).length ≤ 100)) && fewL f.adds && decide (f.gone.length ≤ 80) && decide (f.have_.length ≤ 80) && decide (f.held.length ≤ 80)
def fewV (v : View) : Bool := fewL v.have_ && decide (v.held.length ≤ 80) && fewF v.push
def sentV (v : View) (f : Frame) : View := { v with push := f, open_ := true }
def drainV (v : View) (t : Int) (h : List Key) : View := if v.turn < t then { v with turn := t, held := h } else v
def fitF (v : View) (f : Frame) : Bool := decide (f.type = 2) && decide (f.epoch = v.push.epoch) && decide (f.kind = v.push.kind) && decide (f.nonce = v.push.nonce)
def ansV (v : View) (f : Frame) : View :=
  if v.open_ = false then v else if fitF v f = false then v
  else { drainV ⟨v.have_, v.held, v.turn, zFrame, false⟩ f.turn f.held with have_ := if f.err = 0 then patchR v.have_ v.push.adds v.push.gone else v.have_ }
def ansE (v : View) (f : Frame) : Int := if v.open_ = false then 15 else if fitF v f = false then 11 else f.err
theorem mark_eq (a b : Mark) : (decide (a.k.kind = b.k.kind) && decide (a.k.name = b.k.name) && decide (a.ver = b.ver)) = decide (a = b) := by
  obtain ⟨⟨p, q⟩, r⟩ := a; obtain ⟨⟨u, v⟩, w⟩ := b
  simp [Mark.mk.injEq, Key.mk.injEq]
@[simp] theorem drain_have (v : View) (t : Int) (h : List Key) : (drainV v t h).have_ = v.have_ := by unfold drainV; split <;> rfl
@[simp] theorem drain_push (v : View) (t : Int) (h : List Key) : (drainV v t h).push = v.push := by unfold drainV; split <;> rfl
@[simp] theorem drain_open (v : View) (t : Int) (h : List Key) : (drainV v t h).open_ = v.open_ := by unfold drainV; split <;> rfl
end Go.G
end
section
namespace Go.G
open Go.AI
theorem find_idx {α : Type} (p : α → Bool) (l : List α) : (idxF p l = -1 ∧ l.find? p = none) ∨ ∃ (i : Nat) (x : α), idxF p l = i ∧ i < l.length ∧ l[i]? = some x ∧ l.find? p = some x := by
  induction l with
  | nil => left; simp [idxF]
  | cons a l ih =>
    by_cases h : p a = true
    · right; exact ⟨0, a, by simp [idxF, List.findIdx?_cons, h], by simp, by simp, by simp [h]⟩
    · have h' : p a = false := by simpa using h
      rcases ih with ⟨h1, h2⟩ | ⟨i, x, h1, h2, h3, h4⟩
      · left
        refine ⟨?_, by simp [h', h2]⟩
        unfold idxF at h1 ⊢
        simp only [List.findIdx?_cons, h']
        cases hf : l.findIdx? p with
        | none => simp
        | some j => rw [hf] at h1; simp at h1 <;> omega
      · right
        refine ⟨i + 1, x, ?_, by simp; omega, by simpa using h3, by simp [h', h4]⟩
        unfold idxF at h1 ⊢
        simp only [List.findIdx?_cons, h']
        cases hf : l.findIdx? p with
        | none => rw [hf] at h1; simp at h1 <;> omega
        | some j => rw [hf] at h1; simp at h1 ⊢; omega
end Go.G
end
section
namespace Go.G
variable {α : Type}
structure DelSt (p : α → Bool) (l : List α) (j i : Nat) (cur : List α) : Prop where
  len : cur.length = l.length
  lt : i < j
  le : j ≤ l.length
  pre : cur.take i = (l.take j).filter fun x => !p x
  suf : cur.drop j = l.drop j
theorem DelSt.start {p : α → Bool} {l : List α} {i : Nat} {x : α} (h : idxF p l = i) (hi : i < l.length) : DelSt p l (i + 1) i l := by
  have key : ∀ (l : List α) (i : Nat), idxF p l = i → i < l.length → l.take i = (l.take (i + 1)).filter fun x => !p x := by
    intro l
    induction l with
    | nil => intro i h hi; simp at hi
    | cons a l ih =>
      intro i h hi
      unfold idxF at h
      by_cases ha : p a = true
      · simp only [List.findIdx?_cons, ha, if_true] at h
        have : i = 0 := by omega
        subst this
        simp [ha]
      · have ha' : p a = false := by simpa using ha
        simp only [List.findIdx?_cons, ha'] at h
        cases hf : l.findIdx? p with
        | none => rw [hf] at h; simp at h <;> omega
        | some q =>
          rw [hf] at h
          have e : i = q + 1 := by simp at h; omega
          subst e
          have := ih q (by simp [idxF, hf]) (by simpa using hi)
          simp [ha', this]
  exact ⟨rfl, by omega, by omega, key l i h hi, rfl⟩
theorem DelSt.get {p : α → Bool} {l : List α} {j i : Nat} {cur : List α} (h : DelSt p l j i cur) {v : α} (hv : l[j]? = some v) : cur[j]? = some v := by
  have h1 : (cur.drop j)[0]? = (l.drop j)[0]? := by rw [h.suf]
  simpa [hv] using h1
theorem DelSt.del {p : α → Bool} {l : List α} {j i : Nat} {cur : List α} (h : DelSt p l j i cur) {v : α} (hv : l[j]? = some v) (hp : p v = true) : DelSt p l (j + 1) i cur := by
  have hj : j < l.length := (List.getElem?_eq_some_iff.1 hv).1
  refine ⟨h.len, by have := h.lt; omega, by omega, ?_, ?_⟩
  · rw [h.pre, List.take_add_one, hv]; simp [hp]
  · have := congrArg (List.drop 1) h.suf
    rwa [List.drop_drop, List.drop_drop] at this
theorem DelSt.keep {p : α → Bool} {l : List α} {j i : Nat} {cur : List α} (h : DelSt p l j i cur) {v : α} (hv : l[j]? = some v) (hp : p v = false) : DelSt p l (j + 1) (i + 1) (cur.set i v) := by
  have hj : j < l.length := (List.getElem?_eq_some_iff.1 hv).1
  have hlt := h.lt
  have hlen := h.len
  refine ⟨by simp [hlen], by omega, by omega, ?_, ?_⟩
  · rw [List.take_add_one (l := l), hv]
    have : (cur.set i v).take (i + 1) = cur.take i ++ [v] := by
      rw [List.take_add_one]
      have h1 : (cur.set i v)[i]? = some v := by simp [show i < cur.length by omega]
      rw [h1, List.take_set_of_le (Nat.le_refl i)]
      rfl
    rw [this, h.pre]; simp [hp]
  · rw [List.drop_set_of_lt (by omega)]
    have := congrArg (List.drop 1) h.suf
    rwa [List.drop_drop, List.drop_drop] at this
theorem DelSt.done {p : α → Bool} {l : List α} {i : Nat} {cur : List α} (h : DelSt p l l.length i cur) : cur.take i = l.filter fun x => !p x := by
  rw [h.pre, List.take_length]
end Go.G
end
section
namespace Go.G
open Go.AI Go.Sort
def ltOf (cf : Key → Key → Int) (x y : Key) : Bool := decide (cf x y < 0)
theorem compare_swap : ∀ (a b : List UInt8), Lib.compareBytes b a = - Lib.compareBytes a b
  | [], [] => by simp [Lib.compareBytes]
  | [], _ :: _ => by simp [Lib.compareBytes]
  | _ :: _, [] => by simp [Lib.compareBytes]
  | a :: l, b :: m => by
    simp only [Lib.compareBytes, UInt8.lt_iff_toNat_lt]
    by_cases h1 : a.toNat < b.toNat
    · have h2 : ¬ b.toNat < a.toNat := by omega
      simp [h1, h2]
    · by_cases h2 : b.toNat < a.toNat
      · simp [h1, h2]
      · simp [h1, h2]; exact compare_swap l m
theorem compare_trans : ∀ {a b c : List UInt8}, Lib.compareBytes a b = -1 → Lib.compareBytes b c = -1 → Lib.compareBytes a c = -1
  | [], [], _, h, _ => by simp [Lib.compareBytes] at h
  | [], _ :: _, [], _, h => by simp [Lib.compareBytes] at h
  | [], _ :: _, _ :: _, _, _ => by simp [Lib.compareBytes]
  | _ :: _, [], _, h, _ => by simp [Lib.compareBytes] at h
  | _ :: _, _ :: _, [], _, h => by simp [Lib.compareBytes] at h
  | a :: l, b :: m, c :: n, h1, h2 => by
    simp only [Lib.compareBytes, UInt8.lt_iff_toNat_lt] at h1 h2 ⊢
    by_cases p1 : a.toNat < b.toNat
    · by_cases p2 : b.toNat < c.toNat
      · simp [show a.toNat < c.toNat by omega]
      · by_cases p3 : c.toNat < b.toNat
        · simp [p2, p3] at h2
        · simp [show a.toNat < c.toNat by omega]
    · by_cases p1' : b.toNat < a.toNat
      · simp [p1, p1'] at h1
      · by_cases p2 : b.toNat < c.toNat
        · simp [show a.toNat < c.toNat by omega]
        · by_cases p3 : c.toNat < b.toNat
          · simp [p2, p3] at h2
          · have q1 : ¬ a.toNat < c.toNat := by omega
            have q2 : ¬ c.toNat < a.toNat := by omega
            simp only [p1, p1', p2, p3, q1, q2, if_false] at h1 h2 ⊢
            exact compare_trans h1 h2
theorem cmpK_swap (a b : Key) : cmpK b a = - cmpK a b := by
  unfold cmpK
  by_cases h1 : a.kind < b.kind
  · have h2 : ¬ b.kind < a.kind := by omega
    simp [h1, h2]
  · by_cases h2 : b.kind < a.kind
    · simp [h1, h2]
    · simp [h1, h2, cmpS]; exact compare_swap _ _
theorem cmpK_trans {a b c : Key} (h1 : cmpK a b = -1) (h2 : cmpK b c = -1) : cmpK a c = -1 := by
  unfold cmpK at *
  by_cases p1 : a.kind < b.kind
  · by_cases p2 : b.kind < c.kind
    · simp [show a.kind < c.kind by omega]
    · by_cases p3 : c.kind < b.kind
      · simp [p2, p3] at h2
      · simp [show a.kind < c.kind by omega]
  · by_cases p1' : b.kind < a.kind
    · simp [p1, p1'] at h1
    · by_cases p2 : b.kind < c.kind
      · simp [show a.kind < c.kind by omega]
      · by_cases p3 : c.kind < b.kind
        · simp [p2, p3] at h2
        · have q1 : ¬ a.kind < c.kind := by omega
          have q2 : ¬ c.kind < a.kind := by omega
          simp only [p1, p1', p2, p3, q1, q2, if_false] at h1 h2 ⊢
          exact compare_trans h1 h2
theorem cmpK_self (a : Key) : cmpK a a = 0 := cmpK_zero.2 rfl
theorem cmpK_neg (a b : Key) : (cmpK a b < 0) ↔ cmpK a b = -1 := by
  have := cmpK_range a b; omega
theorem ltK_is (a b : Key) : ltOf cmpK a b = decide (cmpK a b = -1) := by
  unfold ltOf; rw [Bool.eq_iff_iff]; simp [cmpK_neg]
theorem ltK_tot {a b : Key} (h1 : ltOf cmpK a b = false) (h2 : ltOf cmpK b a = false) : a = b := by
  rw [ltK_is] at h1 h2
  have e := cmpK_swap a b
  have r := cmpK_range a b
  simp at h1 h2
  exact cmpK_zero.1 (by omega)
theorem swoK : SWO (ltOf cmpK) where
  irrefl x := by rw [ltK_is, cmpK_self]; simp
  trans x y z h1 h2 := by
    rw [ltK_is] at *; simp at *; exact cmpK_trans h1 h2
  ntrans x y z h1 h2 := by
    cases h : ltOf cmpK x z
    · rfl
    · exfalso
      rw [ltK_is] at *
      simp at *
      rcases cmpK_range y x with a | a | a
      · have := cmpK_trans a h
        exact h2 this
      · have e := cmpK_zero.1 a; subst e; exact h2 h
      · have := cmpK_swap y x; omega
def sortK (l : List Key) : List Key := l.mergeSort fun x y => !(ltOf cmpK) y x
theorem sortK_length (l : List Key) : (sortK l).length = l.length := List.length_mergeSort l
theorem mem_sortK {l : List Key} {k : Key} : k ∈ sortK l ↔ k ∈ l := List.mem_mergeSort
theorem le_sortK (l : List Key) : (sortK l).Pairwise fun x y => (!(ltOf cmpK) y x) = true := by
  refine List.pairwise_mergeSort (le := fun x y => !(ltOf cmpK) y x) ?_ ?_ l
  · intro a b c h1 h2
    simp only [Bool.not_eq_true'] at *
    exact swoK.ntrans _ _ _ h2 h1
  · intro a b
    cases h : ltOf cmpK b a
    · simp
    · cases h2 : ltOf cmpK a b
      · simp
      · have := swoK.trans _ _ _ h h2
        rw [swoK.irrefl] at this; cases this
/-- In order, each once. -/
def Asc (l : List Key) : Prop := l.Pairwise fun x y => cmpK x y = -1
theorem asc_unique : ∀ {a b : List Key}, Asc a → Asc b → (∀ k, k ∈ a ↔ k ∈ b) → a = b
  | [], [], _, _, _ => rfl
  | [], y :: b, _, _, h => by have := (h y).2 (by simp); simp at this
  | x :: a, [], _, _, h => by have := (h x).1 (by simp); simp at this
  | x :: a, y :: b, ha, hb, h => by
    obtain ⟨hx, ha'⟩ := List.pairwise_cons.1 ha
    obtain ⟨hy, hb'⟩ := List.pairwise_cons.1 hb
    have irr : ∀ z : Key, ¬ cmpK z z = -1 := fun z => by rw [cmpK_self]; decide
    have e : x = y := by
      rcases List.mem_cons.1 ((h x).1 (by simp)) with e | e
      · exact e
      · rcases List.mem_cons.1 ((h y).2 (by simp)) with e' | e'
        · exact e'.symm
        · exact absurd (cmpK_trans (hx y e') (hy x e)) (irr x)
    subst e
    congr 1
    refine asc_unique ha' hb' fun k => ?_
    constructor
    · intro hk
      rcases List.mem_cons.1 ((h k).1 (by simp [hk])) with e | e
      · subst e; exact absurd (hx _ hk) (irr _)
      · exact e
    · intro hk
      rcases List.mem_cons.1 ((h k).2 (by simp [hk])) with e | e
      · subst e; exact absurd (hy _ hk) (irr _)
      · exact e
/-- Each that is not as the one ahead of it. -/
def compG (p : Option Key) : List Key → List Key
  | [] => []
  | x :: l => (if p = some x then [] else [x]) ++ compG (some x) l
def compK (l : List Key) : List Key := compG none l
def lastO (p : Option Key) (l : List Key) : Option Key := match l.getLast? with
  | some x => some x
  | none => p
theorem compG_snoc (x : Key) : ∀ (l : List Key) (p : Option Key), compG p (l ++ [x]) = compG p l ++ (if lastO p l = some x then [] else [x])
  | [], p => by by_cases h : p = some x <;> simp [compG, lastO, h]
  | y :: l, p => by
    simp only [List.cons_append, compG]
    rw [compG_snoc x l (some y)]
    have : lastO (some y) l = lastO p (y :: l) := by
      unfold lastO
      rw [List.getLast?_cons]
      cases l.getLast? <;> simp
    rw [this]; simp
theorem mem_compG {k : Key} : ∀ {l : List Key} {p : Option Key}, k ∈ compG p l → k ∈ l
  | [], p, h => by simp [compG] at h
  | x :: l, p, h => by
    simp only [compG, List.mem_append] at h
    rcases h with h | h
    · split at h <;> simp at h; subst h; simp
    · simp [mem_compG h]
theorem mem_compG' {k : Key} : ∀ {l : List Key} {p : Option Key}, k ∈ l → k ∈ compG p l ∨ p = some k
  | [], p, h => by simp at h
  | x :: l, p, h => by
    simp only [compG, List.mem_append]
    rcases List.mem_cons.1 h with e | e
    · subst e
      by_cases hp : p = some k
      · exact .inr hp
      · simp [hp]
    · rcases mem_compG' (p := some x) e with h | h
      · exact .inl (.inr h)
      · by_cases hp : p = some x
        · exact .inr (by rw [hp, h])
        · have : x = k := Option.some.inj h
          exact .inl (.inl (by rw [this] at hp; simp [hp, this]))
theorem mem_compK {k : Key} {l : List Key} : k ∈ compK l ↔ k ∈ l :=
  ⟨mem_compG, fun h => (mem_compG' (p := none) h).resolve_right (by simp)⟩
theorem asc_compG : ∀ {l : List Key} {p : Option Key}, l.Pairwise (fun x y => (!(ltOf cmpK) y x) = true) → Asc (compG p l) ∧ ∀ q, p = some q → (∀ x ∈ l, (!(ltOf cmpK) x q) = true) → ∀ x ∈ compG p l, cmpK q x = -1
  | [], p, _ => ⟨by simp [compG, Asc], fun q _ _ x h => by simp [compG] at h⟩
  | x :: l, p, h => by
    obtain ⟨hx, hl⟩ := List.pairwise_cons.1 h
    obtain ⟨h1, h2⟩ := asc_compG (p := some x) hl
    have h3 := h2 x rfl hx
    refine ⟨?_, fun q hq hlq y hy => ?_⟩
    · simp only [compG]
      split
      · simpa using h1
      · exact List.pairwise_cons.2 ⟨h3, h1⟩
    · simp only [compG, List.mem_append] at hy
      have lt : ∀ z, (!(ltOf cmpK) z q) = true → z ≠ q → cmpK q z = -1 := fun z hz hne => by
        rw [ltK_is] at hz
        simp at hz
        rcases cmpK_range q z with a | a | a
        · exact a
        · exact absurd (cmpK_zero.1 a).symm hne
        · have := cmpK_swap q z; omega
      rcases hy with hy | hy
      · split at hy
        · simp at hy
        · rename_i hne
          simp at hy; subst hy
          exact lt _ (hlq _ (by simp)) (fun e => hne (by rw [hq, e]))
      · by_cases e : x = q
        · rw [← e]; exact h3 y hy
        · exact cmpK_trans (lt x (hlq x (by simp)) e) (h3 y hy)
theorem asc_comp (l : List Key) : Asc (compK (sortK l)) := (asc_compG (le_sortK l)).1
theorem putG_true_asc (k : Key) : ∀ {l : List Key}, Asc l → (∀ x ∈ l, cmpK k x = -1) → putG k true l = l
  | [], _, _ => by simp [putG]
  | x :: l, h, hk => by
    obtain ⟨_, hl⟩ := List.pairwise_cons.1 h
    have h0 : ¬ cmpK x k = 0 := by
      intro e; have := hk x (by simp); rw [cmpK_zero.1 e, cmpK_self] at this; omega
    have := putG_true_asc k hl (fun y hy => hk y (by simp [hy]))
    simp [putG, h0, this]
theorem putK_spec (k : Key) : ∀ {l : List Key}, Asc l → Asc (putK l k) ∧ ∀ x, x ∈ putK l k ↔ x = k ∨ x ∈ l
  | [], _ => by simp [putK, putG, Asc]
  | x :: l, h => by
    obtain ⟨hx, hl⟩ := List.pairwise_cons.1 h
    obtain ⟨h1, h2⟩ := putK_spec k hl
    rcases cmpK_range x k with a | a | a
    · have e : putK (x :: l) k = x :: putK l k := by simp [putK, putG, a]
      rw [e]
      refine ⟨List.pairwise_cons.2 ⟨fun y hy => ?_, h1⟩, fun y => ?_⟩
      · rcases (h2 y).1 hy with e | e
        · rw [e]; exact a
        · exact hx y e
      · simp only [List.mem_cons, h2]
        constructor
        · rintro (h | h | h) <;> simp [h]
        · rintro (h | h | h) <;> simp [h]
    · have e := cmpK_zero.1 a
      subst e
      have : putG x true l = l := putG_true_asc x hl hx
      have e : putK (x :: l) x = x :: l := by simp [putK, putG, cmpK_self, this]
      rw [e]
      exact ⟨h, fun y => by simp⟩
    · have b : cmpK k x = -1 := by have := cmpK_swap x k; omega
      have : putG k true l = l := putG_true_asc k hl (fun y hy => cmpK_trans b (hx y hy))
      have e : putK (x :: l) k = k :: x :: l := by simp [putK, putG, a, this]
      rw [e]
      refine ⟨List.pairwise_cons.2 ⟨fun y hy => ?_, h⟩, fun y => by simp⟩
      rcases List.mem_cons.1 hy with e | e
      · rw [e]; exact b
      · exact cmpK_trans b (hx y e)
theorem fold_putK : ∀ (l : List Key) {o : List Key}, Asc o → Asc (l.foldl putK o) ∧ ∀ x, x ∈ l.foldl putK o ↔ x ∈ o ∨ x ∈ l
  | [], o, h => ⟨h, fun x => by simp⟩
  | k :: l, o, h => by
    obtain ⟨h1, h2⟩ := putK_spec k h
    obtain ⟨h3, h4⟩ := fold_putK l h1
    refine ⟨h3, fun x => ?_⟩
    rw [List.foldl_cons, h4, h2]
    simp only [List.mem_cons]
    constructor
    · rintro ((h | h) | h) <;> simp [h]
    · rintro (h | h | h) <;> simp [h]
/-- Sorted, and each once: as put one by one. -/
theorem comp_sort (l : List Key) : compK (sortK l) = l.foldl putK [] := by
  obtain ⟨h1, h2⟩ := fold_putK l (o := []) (by simp [Asc])
  refine asc_unique (asc_comp l) h1 fun k => ?_
  rw [mem_compK, mem_sortK, h2]; simp
theorem comp_sort_of {l m : List Key} (hm : Asc m) (h : ∀ k, k ∈ m ↔ k ∈ l) : compK (sortK l) = m :=
  asc_unique (asc_comp l) hm fun k => by rw [mem_compK, mem_sortK, h]
end Go.G
namespace Go.G
abbrev toKey (w : Weight) : Key := ⟨2, w.cluster⟩
theorem fold_refs : ∀ (l : List Weight) (o : List Key), l.foldl refsStep o = ((l.filter fun w => decide (0 < w.w)).map toKey).foldl putK o
  | [], o => rfl
  | w :: l, o => by
    rw [List.foldl_cons, fold_refs l]
    by_cases h : 0 < w.w <;> simp [refsStep, h]
def outP (r : Res) (k : Nat) : List Key := (if bs r.to = [] then [] else [⟨r.kind + 1, r.to⟩]) ++ (((r.rules.take k).flatMap (·.split)).filter fun w => decide (0 < w.w)).map toKey
theorem outP_refs {r : Res} (h : saneE r = 0) : compK (sortK (outP r r.rules.length)) = refsK r := by
  obtain ⟨_, _, _, h4, h5, _⟩ := sane_parts h
  have e0 : (if bs r.to = [] then ([] : List Key) else [⟨r.kind + 1, r.to⟩]) = refs0 r := by
    unfold refs0
    by_cases ht : mayT r.kind = true
    · have hn : nameB r.to = true := by simp [namedB, ht] at h5; exact h5.1
      have : ¬ bs r.to = [] := by intro e; simp [nameB, saneL, e] at hn
      rw [if_neg this, if_pos ht]
    · have : bs r.to = [] := by simp [shapedB, ht] at h4; exact h4.1.1.2
      rw [if_pos this, if_neg ht]
  have e1 : refsK r = (((r.rules.flatMap (·.split)).filter fun w => decide (0 < w.w)).map toKey).foldl putK (refs0 r) := by
    rw [refsK, if_pos h, fold_refs]
  have h0 : Asc (refs0 r) := by unfold refs0; split <;> simp [Asc]
  obtain ⟨h1, h2⟩ := fold_putK (((r.rules.flatMap (fun x : Rule => x.split)).filter fun w : Weight => decide (0 < w.w)).map toKey) h0
  rw [e1]
  refine comp_sort_of h1 fun k => ?_
  rw [h2, outP, e0, List.take_length, List.mem_append]
/-- What is named, and not there. -/
def noR (l : List Res) (k : Key) : Bool := !(getR l k).isSome
def missP (l all : List Res) : List Key := (l.flatMap refsK).filter (noR all)
def missR (l : List Res) : List Key := (missP l l).foldl putK []
end Go.G
namespace Go.G
theorem outP_zero (r : Res) : outP r 0 = if bs r.to = [] then [] else [⟨r.kind + 1, r.to⟩] := by simp [outP]
theorem outP_succ {r : Res} {k : Nat} {x : Rule} (h : r.rules.take (k + 1) = r.rules.take k ++ [x]) : outP r (k + 1) = outP r k ++ (x.split.filter fun w => decide (0 < w.w)).map toKey := by
  simp [outP, h, List.flatMap_append, List.filter_append]
theorem outP_len {r : Res} (k : Nat) (h1 : r.rules.length ≤ 8) (h : ∀ x ∈ r.rules, x.split.length ≤ 4) : (outP r k).length ≤ 33 := by
  have h4 := flat_len (l := r.rules.take k) (fun x hx => h x (List.mem_of_mem_take hx))
  have h5 : (r.rules.take k).length ≤ 8 := Nat.le_trans (by simp; omega) h1
  have h6 := List.length_filter_le (fun w : Weight => decide (0 < w.w)) ((r.rules.take k).flatMap (·.split))
  simp only [outP, List.length_append, List.length_map]
  split <;> simp <;> omega
/-- Where the loops of slices.Compact stand. -/
structure CompSt (l : List Key) (j i : Nat) (cur : List Key) : Prop where
  len : cur.length = l.length
  lt : i < j
  le : j ≤ l.length
  pre : cur.take i = compK (l.take j)
  suf : cur.drop (j - 1) = l.drop (j - 1)
theorem lastO_take {l : List Key} {j : Nat} {q : Key} (h0 : 0 < j) (hq : l[j - 1]? = some q) : lastO none (l.take j) = some q := by
  unfold lastO
  have hj : j - 1 < l.length := (List.getElem?_eq_some_iff.1 hq).1
  have : (l.take j).getLast? = some q := by
    rw [List.getLast?_eq_getElem?, List.length_take, List.getElem?_take]
    rw [if_pos (by omega), show min j l.length - 1 = j - 1 by omega]; exact hq
  rw [this]
theorem comp_step {l : List Key} {j : Nat} {v q : Key} (h0 : 0 < j) (hq : l[j - 1]? = some q) (hv : l[j]? = some v) : compK (l.take (j + 1)) = compK (l.take j) ++ (if q = v then [] else [v]) := by
  rw [List.take_add_one, hv]
  show compG none (l.take j ++ [v]) = _
  rw [compG_snoc, lastO_take h0 hq]
  simp [compK]
theorem CompSt.get {l : List Key} {j i : Nat} {cur : List Key} (h : CompSt l j i cur) {v : Key} (hv : l[j]? = some v) : cur[j]? = some v := by
  have h1 : (cur.drop (j - 1))[1]? = (l.drop (j - 1))[1]? := by rw [h.suf]
  have := h.lt
  rw [List.getElem?_drop, List.getElem?_drop, show j - 1 + 1 = j by omega] at h1
  rw [h1, hv]
theorem CompSt.get' {l : List Key} {j i : Nat} {cur : List Key} (h : CompSt l j i cur) {v : Key} (hv : l[j - 1]? = some v) : cur[j - 1]? = some v := by
  have h1 : (cur.drop (j - 1))[0]? = (l.drop (j - 1))[0]? := by rw [h.suf]
  rw [List.getElem?_drop, List.getElem?_drop] at h1
  simpa [hv] using h1
theorem CompSt.start {l : List Key} {j : Nat} {q : Key} (h0 : 0 < j) (hp : compK (l.take j) = l.take j) (h1 : l[j - 1]? = some q) (h2 : l[j]? = some q) : CompSt l (j + 1) j l :=
  ⟨rfl, by omega, by have := (List.getElem?_eq_some_iff.1 h2).1; omega, by rw [comp_step h0 h1 h2, hp]; simp, rfl⟩
theorem CompSt.same {l : List Key} {j i : Nat} {cur : List Key} (h : CompSt l j i cur) {v : Key} (hv : l[j]? = some v) (hq : l[j - 1]? = some v) : CompSt l (j + 1) i cur := by
  have hj : j < l.length := (List.getElem?_eq_some_iff.1 hv).1
  have := h.lt
  refine ⟨h.len, by omega, by omega, by rw [comp_step (by omega) hq hv, h.pre]; simp, ?_⟩
  have := congrArg (List.drop 1) h.suf
  rw [List.drop_drop, List.drop_drop, show j - 1 + 1 = j by omega] at this
  simpa using this
theorem CompSt.keep {l : List Key} {j i : Nat} {cur : List Key} (h : CompSt l j i cur) {v q : Key} (hv : l[j]? = some v) (hq : l[j - 1]? = some q) (hne : ¬ q = v) : CompSt l (j + 1) (i + 1) (cur.set i v) := by
  have hj : j < l.length := (List.getElem?_eq_some_iff.1 hv).1
  have hlt := h.lt
  have hlen := h.len
  refine ⟨by simp [hlen], by omega, by omega, ?_, ?_⟩
  · rw [comp_step (by omega) hq hv, if_neg hne, ← h.pre]
    have h1 : (cur.set i v)[i]? = some v := by simp [show i < cur.length by omega]
    rw [List.take_add_one, h1, List.take_set_of_le (Nat.le_refl i)]
    rfl
  · rw [List.drop_set_of_lt (by omega)]
    have := congrArg (List.drop 1) h.suf
    rw [List.drop_drop, List.drop_drop, show j - 1 + 1 = j by omega] at this
    simpa using this
theorem CompSt.done {l : List Key} {i : Nat} {cur : List Key} (h : CompSt l l.length i cur) : cur.take i = compK l := by
  rw [h.pre, List.take_length]
end Go.G
namespace Go.G
theorem comp_first (l : List Key) : compK (l.take (0 + 1)) = l.take (0 + 1) := by cases l <;> simp [compK, compG]
theorem comp_short {l : List Key} (h : (l.length : Int) < 2) : compK l = l := by
  match l, h with
  | [], _ => rfl
  | [_], _ => rfl
  | _ :: _ :: _, h => simp at h; omega
end Go.G
namespace Go.G
theorem to_rules {r : Res} (h : shapedB r = true) (ht : ¬ bs r.to = []) : r.rules = [] := by
  simp only [shapedB, Bool.and_eq_true, Bool.or_eq_true, decide_eq_true_eq] at h
  have h2 := h.1.1.2.resolve_left ht
  simp only [mayT, Bool.or_eq_true, decide_eq_true_eq] at h2
  rcases h.1.2 with h3 | h3
  · exact List.eq_nil_of_length_eq_zero h3
  · simp only [mayR, decide_eq_true_eq] at h3; omega
end Go.G
end
section
namespace Go.G
theorem getR_key {l : List Res} {k : Key} {r : Res} (h : getR l k = some r) : r.key = k := by
  have := List.find?_some h; simpa using this
theorem getR_mem {l : List Res} {k : Key} {r : Res} (h : getR l k = some r) : r ∈ l := List.mem_of_find?_eq_some h
theorem getR_append (a b : List Res) (k : Key) : getR (a ++ b) k = match getR a k with | some r => some r | none => getR b k := by
  unfold getR
  rw [List.find?_append]
  cases a.find? _ <;> rfl
theorem getR_part (l : List Res) {k q : Key} {c : Int} (h : cmpK k q = c) : getR (partR l q c) k = getR l k := by
  induction l with
  | nil => rfl
  | cons a l ih =>
    unfold getR partR at *
    by_cases h1 : a.key = k
    · have h2 : cmpK a.key q = c := by rw [h1]; exact h
      simp [h1, h]
    · by_cases h2 : cmpK a.key q = c
      · simp only [List.filter_cons, h2, decide_true, if_true, List.find?_cons, h1, decide_false]; exact ih
      · simp only [List.filter_cons, h2, decide_false, List.find?_cons, h1]; exact ih
theorem getR_part' (l : List Res) {k q : Key} {c : Int} (h : ¬ cmpK k q = c) : getR (partR l q c) k = none := by
  unfold getR partR
  rw [List.find?_eq_none]
  intro x hx
  simp only [List.mem_filter, decide_eq_true_eq] at hx ⊢
  intro e; rw [e] at hx; exact h hx.2
theorem getR_with (l : List Res) (r : Res) (k : Key) : getR (withR l r) k = if r.key = k then some r else getR l k := by
  unfold withR
  rw [getR_append, getR_append]
  rcases cmpK_range k r.key with h | h | h
  · have hne : ¬ r.key = k := by intro e; rw [← e, cmpK_self] at h; omega
    rw [getR_part l h, getR_part' l (c := 1) (by omega), if_neg hne]
    have : getR [r] k = none := by simp [getR, hne]
    rw [this]
    cases getR l k <;> rfl
  · have e := cmpK_zero.1 h
    subst e
    rw [getR_part' l (c := -1) (by omega), if_pos rfl]
    simp [getR]
  · have hne : ¬ r.key = k := by intro e; rw [← e, cmpK_self] at h; omega
    rw [getR_part' l (c := -1) (by omega), getR_part l h, if_neg hne]
    have : getR [r] k = none := by simp [getR, hne]
    rw [this]
theorem getR_without (l : List Res) (q k : Key) : getR (withoutR l q) k = if q = k then none else getR l k := by
  induction l with
  | nil => simp [getR]
  | cons a l ih =>
    unfold getR withoutR at *
    by_cases h : q = k
    · rw [if_pos h] at ih ⊢
      by_cases h1 : a.key = q
      · simpa [List.filter_cons, h1] using ih
      · simp only [List.filter_cons, h1, decide_false, Bool.not_false, if_true, List.find?_cons]
        have : ¬ a.key = k := by rw [← h]; exact h1
        simpa [this] using ih
    · rw [if_neg h] at ih ⊢
      by_cases h1 : a.key = q
      · have : ¬ a.key = k := by rw [h1]; exact h
        simp [List.filter_cons, h1, List.find?_cons, h] at ih ⊢
        exact ih
      · by_cases h2 : a.key = k
        · simp [List.filter_cons, h1, h2, Ne.symm h, List.find?_cons]
        · simp only [List.filter_cons, h1, decide_false, Bool.not_false, if_true, List.find?_cons, h2]; exact ih
/-- In order of their keys, each once. -/
def AscR (l : List Res) : Prop := Asc (l.map Res.key)
theorem ascR_get {l : List Res} (h : AscR l) {r : Res} (hr : r ∈ l) : getR l r.key = some r := by
  induction l with
  | nil => simp at hr
  | cons a l ih =>
    obtain ⟨h1, h2⟩ := List.pairwise_cons.1 h
    rcases List.mem_cons.1 hr with e | e
    · subst e; simp [getR]
    · have hne : ¬ a.key = r.key := by
        intro e'
        have := h1 r.key (List.mem_map.2 ⟨r, e, rfl⟩)
        rw [e', cmpK_self] at this; omega
      have := ih h2 e
      unfold getR at *
      simp [List.find?_cons, hne, this]
end Go.G
end
section
namespace Go.G
open Go.AI
structure Store where
  cap : Int
  hist : List (List Res)
  deriving DecidableEq
@[simp] def rsC (l : List Res) : List D := [lD (l.map resC)]
@[simp] def storeC (s : Store) : List D := [iD s.cap, lD (s.hist.map rsC)]
@[simp] theorem lenAll_rs (l : List (List Res)) : lenAll (l.map rsC) 1 = True := lenAll_map (f := rsC) (n := 1) (fun _ => rfl) l
structure OkStore (s : Store) : Prop where
  len : s.hist.length ≤ 9223372036854775807
  all : ∀ l ∈ s.hist, OkRs l
def capN (n : Int) : Int := max 0 (min n 64)
def newS (n : Int) : Store := ⟨capN n, [[]]⟩
def lastS (s : Store) : List Res := s.hist.getLastD []
def takenS (s : Store) : Store := if s.hist = [] then newS s.cap else ⟨capN s.cap, s.hist⟩
def atS (s : Store) (i : Int) : Option (List Res) := if 0 ≤ i then (takenS s).hist[i.toNat]? else none
def findS (s : Store) (k : Key) (v : Int) : Option Res := match getR ((atS s v).getD []) k with
  | some r => if r.ver = v then some r else none
  | none => none
def bareR (m : Mark) : Res := ⟨m.k.kind, m.k.name, m.ver, 0, ⟨#[]⟩, [], []⟩
def ofM (s : Store) (m : Mark) : Res := (findS s m.k m.ver).getD (bareR m)
def knownV (s : Store) (l : List Mark) : List Res := (l.map (ofM s)).foldl withR []
def marksV (l : List Res) : List Mark := l.map fun r => ⟨r.key, r.ver⟩
@[simp] theorem marksV_nil : marksV [] = [] := rfl
theorem marksV_append (a b : List Res) : marksV (a ++ b) = marksV a ++ marksV b := by simp [marksV]
@[simp] theorem marksV_one (r : Res) : marksV [r] = [⟨r.key, r.ver⟩] := rfl
@[simp] theorem marksV_length (l : List Res) : (marksV l).length = l.length := by simp [marksV]
def stampR (now next : List Res) (v : Int) : List Res := next.map fun r => { r with ver := match getR now r.key with
  | some o => if alikeB o r then o.ver else v
  | none => v }
def firstE (l : List Res) : Int := match l.find? fun r => !decide (saneE r = 0) with
  | some r => saneE r
  | none => 0
def ascB : List Res → Bool
  | [] => true
  | [_] => true
  | a :: b :: l => decide (cmpK a.key b.key = -1) && ascB (b :: l)
def portsR (l : List Res) : List Int := (l.filter fun r => decide (r.kind = 0)).map Res.port
def tabE (l : List Res) : Int := if 64 < l.length then 3 else if firstE l = 0 then (if ascB l = false then 2 else if (portsR l).Nodup then 0 else 13) else firstE l
def diffA (a b : List Res) : List Res := b.filter fun r => !decide (getR a r.key = some r)
def diffG (a b : List Res) : List Key := (a.map Res.key).filter fun k => !(getR b k).isSome
theorem ansV_open {v : View} {f : Frame} (h1 : v.open_ = true) (h2 : fitF v f = true) : ansV v f = drainV ⟨if f.err = 0 then patchR v.have_ v.push.adds v.push.gone else v.have_, v.held, v.turn, zFrame, false⟩ f.turn f.held := by
  unfold ansV drainV
  rw [h1, h2]
  by_cases h : v.turn < f.turn <;> by_cases h3 : f.err = 0 <;> simp [h, h3]
theorem fitF_not {v : View} {f : Frame} (h : f.type = 2) : (!decide (f.epoch = v.push.epoch) || (!decide (f.kind = v.push.kind) || !decide (f.nonce = v.push.nonce))) = !fitF v f := by
  simp only [fitF, h, decide_true, Bool.true_and, Bool.not_and, Bool.or_assoc]
theorem known_len (s : Store) (l : List Mark) : (knownV s l).length ≤ l.length := by
  have := fold_with_len (l.map (ofM s)) []
  simpa [knownV] using this
theorem ascB_iff : ∀ (l : List Res), ascB l = true ↔ AscR l
  | [] => by simp [ascB, AscR, Asc]
  | [_] => by simp [ascB, AscR, Asc]
  | a :: b :: l => by
    have ih := ascB_iff (b :: l)
    simp only [ascB, Bool.and_eq_true, decide_eq_true_eq, ih]
    unfold AscR Asc
    constructor
    · rintro ⟨h1, h2⟩
      refine List.pairwise_cons.2 ⟨fun x hx => ?_, h2⟩
      obtain ⟨h3, _⟩ := List.pairwise_cons.1 h2
      rcases List.mem_cons.1 hx with e | e
      · rw [e]; exact h1
      · exact cmpK_trans h1 (h3 x e)
    · intro h
      obtain ⟨h1, h2⟩ := List.pairwise_cons.1 h
      exact ⟨h1 _ (by simp), h2⟩
theorem tabE_asc {l : List Res} (h : tabE l = 0) : AscR l := by
  unfold tabE at h
  rw [← ascB_iff]
  split at h
  · simp at h
  · split at h
    · split at h
      · simp at h
      · rename_i h3; simpa using h3
    · rename_i h2; exact absurd h h2
end Go.G
end
section
namespace Go.G
structure FewF (f : Frame) : Prop where
  adds : f.adds.length ≤ 80
  gone : f.gone.length ≤ 80
  have_ : f.have_.length ≤ 80
  held : f.held.length ≤ 80
structure FewV (v : View) : Prop where
  have_ : v.have_.length ≤ 80
  held : v.held.length ≤ 80
  push : FewF v.push
theorem fewL_len {l : List Res} (h : fewL l = true) : l.length ≤ 80 := by
  simp only [fewL, Bool.and_eq_true, decide_eq_true_eq] at h; exact h.2
theorem fewF_b {f : Frame} (h : fewF f = true) : FewF f := by
  simp only [fewF, Bool.and_eq_true, decide_eq_true_eq] at h
  exact ⟨fewL_len h.1.1.1.2, h.1.1.2, h.1.2, h.2⟩
theorem fewV_b {v : View} (h : fewV v = true) : FewV v := by
  simp only [fewV, Bool.and_eq_true, decide_eq_true_eq] at h
  exact ⟨fewL_len h.1.1, h.1.2, fewF_b h.2⟩
theorem mem_withR {l : List Res} {r x : Res} (h : x ∈ withR l r) : x = r ∨ x ∈ l := by
  simp only [withR, partR, List.mem_append, List.mem_filter, List.mem_singleton] at h
  rcases h with (h | h) | h
  · exact .inr h.1
  · exact .inl h
  · exact .inr h.1
theorem mem_fold_with : ∀ {a l : List Res} {x : Res}, x ∈ a.foldl withR l → x ∈ l ∨ x ∈ a
  | [], l, x, h => .inl h
  | r :: a, l, x, h => by
    rcases mem_fold_with (a := a) h with h | h
    · rcases mem_withR h with h | h
      · exact .inr (by simp [h])
      · exact .inl h
    · exact .inr (by simp [h])
theorem mem_fold_without : ∀ {g : List Key} {l : List Res} {x : Res}, x ∈ g.foldl withoutR l → x ∈ l
  | [], l, x, h => h
  | k :: g, l, x, h => (List.mem_filter.1 (mem_fold_without (g := g) h)).1
theorem mem_patch {l a : List Res} {g : List Key} {x : Res} (h : x ∈ patchR l a g) : x ∈ l ∨ x ∈ a := by
  rcases mem_fold_with h with h | h
  · exact .inl (mem_fold_without h)
  · exact .inr h
theorem patch_len (l a : List Res) (g : List Key) : (patchR l a g).length ≤ l.length + a.length := by
  have h1 := fold_with_len a (g.foldl withoutR l)
  have h2 := fold_without_len g l
  unfold patchR; omega
theorem ok_patch {l a : List Res} {g : List Key} (h1 : OkRs l) (h2 : OkRs a) (h : l.length + a.length ≤ 1000000) : OkRs (patchR l a g) :=
  ⟨by have := patch_len l a g; omega, fun r hr => (mem_patch hr).elim (h1.all r) (h2.all r)⟩
end Go.G
namespace Go.G
end Go.G
namespace Go.G
end Go.G
end
