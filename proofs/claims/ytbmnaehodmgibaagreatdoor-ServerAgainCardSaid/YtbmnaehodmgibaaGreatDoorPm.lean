/-
  LAYERS 5, 6, 9: maps as sets, stores, what listeners reach, histories, plainly.
-/
import Derived.Test.YtbmnaehodmgibaaGreatDoorPl
set_option linter.unusedSimpArgs false
set_option linter.unusedVariables false
section
namespace Go.G
open Go.AI
def zfo (k : Key) : List Value := [.int .i64 k.kind, .string k.name]
theorem zmj {a b : Key} (h : zfo a = zfo b) : a = b := by
 obtain ⟨x, s⟩ := a; obtain ⟨y, t⟩ := b
 simp [zfo] at h; rw [h.1, h.2]
noncomputable def zer (S : List Key) : List Value → Option (List D) := fun v => open Classical in if ∃ k, k ∈ S ∧ v = zfo k then some [bD true] else none
theorem zgx (S : List Key) (k : Key) : zer S (zfo k) = if k ∈ S then some [bD true] else none := by
 unfold zer
 by_cases h : k ∈ S
 ·rw [if_pos ⟨k, h, rfl⟩, if_pos h]
 ·rw [if_neg, if_neg h]
  rintro ⟨k', h1, h2⟩
  rw [zmj h2] at h; exact h h1
@[simp] theorem lookS_v (S : List Key) (a : Int) (s : Str) : zo7 false [D.v (Value.bool false)] (zer S [.int .i64 a, .string s]) = .d (bD (decide ((⟨a, s⟩ : Key) ∈ S))) := by
  have := zgx S ⟨a, s⟩
  simp only [zfo] at this
  rw [this]
  by_cases h : (⟨a, s⟩ : Key) ∈ S <;> simp [h, zo7, vA]
@[simp] theorem lookS_some (S : List Key) (a : Int) (s : Str) : (zer S [.int .i64 a, .string s]).isSome = decide ((⟨a, s⟩ : Key) ∈ S) := by
  have := zgx S ⟨a, s⟩
  simp only [zfo] at this
  rw [this]
  by_cases h : (⟨a, s⟩ : Key) ∈ S <;> simp [h]
theorem zfl : (fun _ => none) = zer [] := by
 funext v; simp [zer]
theorem zwu (S : List Key) (k : Key) : updL (zer S) (zfo k) [bD true] = zer (S ++ [k]) := by
 funext v
 unfold updL
 by_cases h : v = zfo k
 ·subst h
  rw [if_pos rfl, zgx, if_pos (by simp)]
 ·rw [if_neg h]
  unfold zer
  by_cases h2 : ∃ q, q ∈ S ∧ v = zfo q
  ·obtain ⟨q, h3, h4⟩ := h2
   rw [if_pos ⟨q, h3, h4⟩, if_pos ⟨q, by simp [h3], h4⟩]
  ·rw [if_neg h2, if_neg]
   rintro ⟨q, h3, h4⟩
   rcases List.mem_append.1 h3 with h5 | h5
   ·exact h2 ⟨q, h5, h4⟩
   ·simp at h5; subst h5; exact h h4
@[simp] theorem updL_lookS' (S : List Key) (a : Int) (s : Str) : updL (zer S) [.int .i64 a, .string s] [D.v (Value.bool true)] = zer (S ++ [⟨a, s⟩]) := zwu S ⟨a, s⟩
theorem zh8 {S : List Key} {k : Key} (h : k ∈ S) : zer S [.int .i64 k.kind, .string k.name] = some [bD true] := by
 have := zgx S k; rwa [if_pos h] at this
theorem zhf {S : List Key} {k : Key} (h : k ∉ S) : zer S [.int .i64 k.kind, .string k.name] = none := by
 have := zgx S k; rwa [if_neg h] at this
@[simp] theorem take_len_map {α β : Type} (f : α → β) (l : List α) : List.take l.length (List.map f l) = List.map f l := by rw [← List.map_take, List.take_length]
noncomputable def zmf (S : List Int) : List Value → Option (List D) := fun v => open Classical in if ∃ n, n ∈ S ∧ v = [.int .i64 n] then some [bD true] else none
theorem ziy (S : List Int) (n : Int) : zmf S [.int .i64 n] = if n ∈ S then some [bD true] else none := by
 unfold zmf
 by_cases h : n ∈ S
 ·rw [if_pos ⟨n, h, rfl⟩, if_pos h]
 ·rw [if_neg, if_neg h]
  rintro ⟨k', h1, h2⟩
  simp at h2; rw [h2] at h; exact h h1
@[simp] theorem lookP_v (S : List Int) (n : Int) : zo7 false [D.v (Value.bool false)] (zmf S [.int .i64 n]) = .d (bD (decide (n ∈ S))) := by
  rw [ziy]
  by_cases h : n ∈ S <;> simp [h, zo7, vA]
theorem zry : (fun _ => none) = zmf [] := by
 funext v; simp [zmf]
@[simp] theorem updL_lookP (S : List Int) (n : Int) : updL (zmf S) [.int .i64 n] [D.v (Value.bool true)] = zmf (S ++ [n]) := by
  funext v
  unfold updL
  by_cases h : v = [.int .i64 n]
  ·subst h
   rw [if_pos rfl, ziy, if_pos (by simp)]
  ·rw [if_neg h]
   unfold zmf
   by_cases h2 : ∃ q, q ∈ S ∧ v = [Value.int .i64 q]
   ·obtain ⟨q, h3, h4⟩ := h2
    rw [if_pos ⟨q, h3, h4⟩, if_pos ⟨q, by simp [h3], h4⟩]
   ·rw [if_neg h2, if_neg]
    rintro ⟨q, h3, h4⟩
    rcases List.mem_append.1 h3 with h5 | h5
    ·exact h2 ⟨q, h5, h4⟩
    ·simp at h5; subst h5; exact h h4
theorem mem_keys {l : List Res} {k : Key} : k ∈ l.map Res.key ↔ (getR l k).isSome = true := by
 unfold getR
 rw [List.find?_isSome]
 simp
@[simp] theorem missP_nil (l : List Res) : zjw [] l = [] := rfl
theorem zxm (a : List Res) (x : Res) (l : List Res) : zjw (a ++ [x]) l = zjw a l ++ (za2 x).filter (noR l) := by
 simp [zjw, List.flatMap_append, List.filter_append]
theorem ziv : ∀ (a l : List Res), (zjw a l).length ≤ 33 * a.length
 | [], l => by simp
 | r :: a, l => by
   have h1 := ziv a l
   have h2 := zfi r
   have h3 := List.length_filter_le (noR l) (za2 r)
   simp only [zjw, List.flatMap_cons, List.filter_append, List.length_append, List.length_cons] at *
   omega
theorem zxl (l : List Res) : zex (zii (zjw l l)) = zmc l := zsr _
theorem zpi {l : List Res} {k : Nat} {x : Res} (h : (l.take k).all (fun r => decide (zbl r = 0)) = true) (hr : l[k]? = some x) (hx : ¬ zbl x = 0) : zb9 l = zbl x := by
 unfold zb9
 rw [zpj (k := k) (x := x) (by simpa using h) hr (by simpa using hx)]
theorem zn1 {l : List Res} (h : l.all (fun r => decide (zbl r = 0)) = true) : zb9 l = 0 := by
 unfold zb9
 rw [zms (by simpa using h)]
theorem qep (a : List Res) (x : Res) (h : AscR a) (hl : ∀ y, a.getLast? = some y → cmpK y.key x.key = -1) : AscR (a ++ [x]) := by
 unfold AscR Asc at *
 rw [List.map_append, List.pairwise_append]
 refine ⟨h, by simp, fun y hy z hz => ?_⟩
 simp at hz; subst hz
 rcases List.eq_nil_or_concat a with e | ⟨b, w, e⟩
 ·subst e; simp at hy
 ·subst e
  have hw := hl w (by simp)
  simp only [List.concat_eq_append, List.map_append, List.map_cons, List.map_nil, List.mem_append, List.mem_singleton] at hy h
  rcases hy with hy | hy
  ·have := (List.pairwise_append.1 h).2.2 y hy w.key (by simp)
   exact zce this hw
  ·rw [hy]; exact hw
theorem qkk {l : List Res} {m : Nat} {y x : Res} (h : AscR l) (hy : l[m]? = some y) (hx : l[m + 1]? = some x) : cmpK y.key x.key = -1 := by
 unfold AscR Asc at h
 rw [List.pairwise_iff_getElem] at h
 obtain ⟨h1, e1⟩ := List.getElem?_eq_some_iff.1 hy
 obtain ⟨h2, e2⟩ := List.getElem?_eq_some_iff.1 hx
 have := h m (m + 1) (by simpa using h1) (by simpa using h2) (by omega)
 simpa [e1, e2] using this
theorem zyx {l : List Res} (h : ¬ 64 < l.length) (h2 : ¬ zb9 l = 0) : tabE l = zb9 l := by simp [tabE, h, h2]
theorem zyy {l : List Res} (h : ¬ 64 < l.length) (h2 : zb9 l = 0) (h3 : ¬ AscR l) : tabE l = 2 := by
 have : ascB l = false := by
  cases hb : ascB l
  ·rfl
  ·exact absurd ((zlf l).1 hb) h3
 simp [tabE, h, h2, this]
theorem zjn {l : List Res} (h : ¬ 64 < l.length) (h2 : zb9 l = 0) (h3 : AscR l) : tabE l = if (ze3 l).Nodup then 0 else 13 := by
 simp [tabE, h, h2, (zlf l).2 h3]
theorem znp {α : Type} {a : List α} {x : α} : (a ++ [x]).Nodup ↔ a.Nodup ∧ x ∉ a := by
 rw [List.nodup_append]
 simp
 intro _
 exact ⟨fun h hx => h x hx rfl, fun h y hy e => h (e ▸ hy)⟩
@[simp] theorem ascR_nil : AscR [] = True := eq_true (by simp [AscR, Asc])
theorem zr4 {α : Type} {l : List α} {m : Nat} {y : α} (h : l[m]? = some y) : (l.take (m + 1)).getLast? = some y := by
 have hj := (List.getElem?_eq_some_iff.1 h).1
 rw [List.getLast?_eq_getElem?, List.length_take, List.getElem?_take, if_pos (by omega), show min (m + 1) l.length - 1 = m by omega]; exact h
theorem qgv {S : List Int} {n : Int} (h : n ∈ S) : zmf S [.int .i64 n] = some [bD true] := by rw [ziy, if_pos h]
theorem qcu {S : List Int} {n : Int} (h : n ∉ S) : zmf S [.int .i64 n] = none := by rw [ziy, if_neg h]
end Go.G
end
section
namespace Go.G
open Go.AI
theorem zji (n : Int) : capN (capN n) = capN n := by unfold capN; omega
theorem zwc (n : Int) : (if 0 < (if 64 < n then 64 else n) then (if 64 < n then (64 : Int) else n) else 0) = capN n := by
 unfold capN
 by_cases h : 64 < n
 ·simp [h]; omega
 ·by_cases h2 : 0 < n
  ·simp [h, h2]; omega
  ·simp [h, h2]; omega
theorem zyv {s : Store} (h : s.hist = []) : zaw s = newS s.cap := by simp [zaw, h]
theorem zg8 {s : Store} (h : ¬ s.hist = []) : zaw s = ⟨capN s.cap, s.hist⟩ := by simp [zaw, h]
abbrev atA (s : Store) (i : Int) : AV := .tup [lst (((atS s i).getD []).map resC), bool (atS s i).isSome]
abbrev xab (s : Store) (k : Key) (v : Int) : AV := .tup [st (resC ((zk1 s k v).getD zRes)), bool (zk1 s k v).isSome]
theorem qkf {s : Store} {i : Int} (h : i < 0) : atS s i = none := by simp [atS]; omega
theorem qkj {s : Store} {i : Int} (h : ((zaw s).hist.length : Int) ≤ i) : atS s i = none := by
 unfold atS
 split
 ·exact List.getElem?_eq_none (by omega)
 ·rfl
theorem qkh {s : Store} {i : Int} (h0 : ¬ i < 0) (h : ¬ ((zaw s).hist.length : Int) ≤ i) : ∃ l, (∃ hh : i.toNat < (zaw s).hist.length, (zaw s).hist[i.toNat] = l) ∧ (zaw s).hist[i.toNat]? = some l ∧ atS s i = some l := by
 refine ⟨(zaw s).hist[i.toNat]'(by omega), ⟨by omega, rfl⟩, List.getElem?_eq_getElem _, ?_⟩
 unfold atS
 rw [if_pos (by omega)]
 exact List.getElem?_eq_getElem _
theorem qcz {s : Store} (h : OkStore s) : OkStore (zaw s) := by
 unfold zaw
 split
 ·exact ⟨by simp [newS], fun l hl => by simp [newS] at hl; subst hl; exact ⟨by simp, by simp⟩⟩
 ·exact ⟨h.len, h.all⟩
theorem qz1 {s : Store} (h : OkStore s) (i : Int) : OkRs ((atS s i).getD []) := by
 unfold atS
 split
 ·cases hg : (zaw s).hist[i.toNat]? with
  | none => exact ⟨by simp, by simp⟩
  | some l => exact (qcz h).all l (List.mem_of_getElem? hg)
 ·exact ⟨by simp, by simp⟩
theorem zx0 {s : Store} {k : Key} {v : Int} (h : getR ((atS s v).getD []) k = none) : zk1 s k v = none := by simp [zk1, h]
theorem zxz {s : Store} {k : Key} {v : Int} {r : Res} (h : getR ((atS s v).getD []) k = some r) : zk1 s k v = if r.ver = v then some r else none := by simp [zk1, h]
theorem zr8 (s : Store) : zci s [] = [] := rfl
theorem zxr (s : Store) (l : List Mark) (m : Mark) : zci s (l ++ [m]) = zej (zci s l) (ofM s m) := by simp [zci, List.foldl_append]
def fewS (n : Nat) (s : Store) : Bool := s.hist.all fewL && decide (s.hist.length ≤ n)
theorem qj4 {n : Nat} {s : Store} (h : fewS n s = true) : (∀ l ∈ s.hist, l.length ≤ 80) ∧ s.hist.length ≤ n := by
 simp only [fewS, Bool.and_eq_true, List.all_eq_true, decide_eq_true_eq] at h
 exact ⟨fun l hl => zpm (h.1 l hl), h.2⟩
theorem qkg {n : Nat} {s : Store} (h : fewS n s = true) (i : Int) : ((atS s i).getD []).length ≤ 80 := by
 have hb := (qj4 h).1
 unfold atS
 split
 ·cases hg : (zaw s).hist[i.toNat]? with
  | none => simp
  | some l =>
    have hm := List.mem_of_getElem? hg
    unfold zaw at hm
    split at hm
    ·simp [newS] at hm; subst hm; simp
    ·exact hb l hm
 ·simp
end Go.G
end
section
namespace Go.G
open Go.AI
noncomputable def lookN (S : List Res) : List Value → Option (List D) := fun v => open Classical in if h : ∃ k, v = zfo k then (getR S h.choose).map fun r => [lD ((za2 r).map keyC)] else none
theorem ziz (S : List Res) (k : Key) : lookN S (zfo k) = (getR S k).map fun r => [lD ((za2 r).map keyC)] := by
 unfold lookN
 have h : ∃ q, zfo k = zfo q := ⟨k, rfl⟩
 rw [dif_pos h, ← zmj h.choose_spec]
theorem zvq {S : List Res} {k : Key} {r : Res} (h : getR S k = some r) : lookN S [.int .i64 k.kind, .string k.name] = some [lD ((za2 r).map keyC)] := by
 have := ziz S k; rw [h] at this; exact this
theorem qal {S : List Res} {k : Key} (h : getR S k = none) : lookN S [.int .i64 k.kind, .string k.name] = none := by
 have := ziz S k; rw [h] at this; exact this
theorem zrz : (fun _ => none) = lookN [] := by
 funext v
 unfold lookN
 split <;> simp [getR]
theorem zsg (S : List Res) (x : Res) (k : Key) : getR (S ++ [x]) k = match getR S k with | some r => some r | none => if x.key = k then some x else none := by
 rw [zid]
 cases getR S k with
 | some r => rfl
 | none => by_cases h : x.key = k <;> simp [getR, h]
theorem zww {S : List Res} {x : Res} (h : getR S x.key = none) : updL (lookN S) [.int .i64 x.key.kind, .string x.key.name] [lD ((za2 x).map keyC)] = lookN (S ++ [x]) := by
 funext v
 unfold updL
 by_cases hv : v = [.int .i64 x.key.kind, .string x.key.name]
 ·subst hv
  rw [if_pos rfl]
  have : getR (S ++ [x]) x.key = some x := by rw [zsg, h]; simp
  rw [zvq this]
 ·rw [if_neg hv]
  by_cases hk : ∃ k, v = zfo k
  ·obtain ⟨k, rfl⟩ := hk
   rw [ziz, ziz, zsg]
   cases hg : getR S k with
   | some r => rfl
   | none =>
     have : ¬ x.key = k := by rintro rfl; exact hv rfl
     simp [this]
  ·unfold lookN
   rw [dif_neg hk, dif_neg hk]
theorem qid {l : List Res} {k : Nat} {x : Res} (h : AscR l) (hr : l[k]? = some x) : getR (l.take k) x.key = none := by
 unfold getR
 rw [List.find?_eq_none]
 intro y hy
 simp only [decide_eq_true_eq]
 intro e
 obtain ⟨i, hi⟩ := List.getElem?_of_mem hy
 have hik : i < k := by
  have := (List.getElem?_eq_some_iff.1 hi).1
  simp at this; omega
 rw [List.getElem?_take, if_pos hik] at hi
 unfold AscR Asc at h
 rw [List.pairwise_iff_getElem] at h
 obtain ⟨h1, e1⟩ := List.getElem?_eq_some_iff.1 hi
 obtain ⟨h2, e2⟩ := List.getElem?_eq_some_iff.1 hr
 have := h i k (by simpa using h1) (by simpa using h2) hik
 simp only [List.getElem_map, e1, e2, e, zdb] at this
 omega
def zay (l : List Res) : Nat → List Key → Key → List Key
 | 0, out, _ => out
 | n + 1, out, k => match getR l k with
   | none => out
   | some r => if k ∈ out then out else (za2 r).foldl (zay l n) (out ++ [k])
def zia (l : List Res) (out : List Key) : Nat := ((l.map Res.key).filter fun k => decide (k ∉ out)).length
theorem zhg {f : List Key → Key → List Key} (h : ∀ o k x, x ∈ o → x ∈ f o k) : ∀ (l : List Key) (o : List Key) (x : Key), x ∈ o → x ∈ l.foldl f o
 | [], _, _, hx => hx
 | k :: l, o, x, hx => zhg h l _ x (h o k x hx)
theorem zek (l : List Res) : ∀ (n : Nat) (out : List Key) (k x : Key), x ∈ out → x ∈ zay l n out k
 | 0, _, _, _, h => h
 | n + 1, out, k, x, h => by
   unfold zay
   split
   ·exact h
   ·split
    ·exact h
    ·exact zhg (zek l n) _ _ _ (by simp [h])
theorem zt9 {l : List Res} {a b : List Key} (h : ∀ x, x ∈ a → x ∈ b) : zia l b ≤ zia l a := by
 unfold zia
 induction l with
 | nil => simp
 | cons r l ih =>
   simp only [List.map_cons, List.filter_cons]
   by_cases hb : r.key ∈ b
   ·by_cases ha : r.key ∈ a
    ·simpa [ha, hb] using ih
    ·simp only [hb, ha, not_true, not_false_iff, decide_true, decide_false, if_true, List.length_cons]
     simp only [Bool.false_eq_true, if_false]; omega
   ·have ha : r.key ∉ a := fun h' => hb (h _ h')
    simpa [ha, hb] using ih
theorem qan {l : List Res} {out : List Key} {k : Key} (hk : k ∈ l.map Res.key) (ho : k ∉ out) : zia l (out ++ [k]) < zia l out := by
 unfold zia
 induction l with
 | nil => simp at hk
 | cons r l ih =>
   have hle := zt9 (l := l) (a := out) (b := out ++ [k]) (fun x hx => by simp [hx])
   unfold zia at hle
   simp only [List.map_cons, List.filter_cons]
   by_cases hr : r.key = k
   ·have h1 : r.key ∈ out ++ [k] := by simp [hr]
    have h2 : r.key ∉ out := by rw [hr]; exact ho
    simp only [h1, h2, not_true, not_false_iff, decide_true, decide_false, if_true, List.length_cons]
    simp only [Bool.false_eq_true, if_false]; omega
   ·have hk' : k ∈ l.map Res.key := by
     simp only [List.map_cons, List.mem_cons] at hk
     exact hk.resolve_left (fun e => hr e.symm)
    have := ih hk'
    by_cases h2 : r.key ∈ out
    ·have h1 : r.key ∈ out ++ [k] := by simp [h2]
     simpa [h1, h2] using this
    ·have h1 : r.key ∉ out ++ [k] := by simp [h2, hr]
     simpa [h1, h2] using this
theorem zvs (l : List Res) (out : List Key) : zia l out ≤ l.length := by
 have := List.length_filter_le (fun k => decide (k ∉ out)) (l.map Res.key)
 simpa [zia] using this
def zhu (l : List Res) : List Key := (l.filter fun r => decide (r.kind = 0)).map Res.key
def zc9 (l : List Res) : List Key := (zhu l).foldl (zay l (l.length + 1)) []
def zal (l : List Res) : List Res := l.filter fun r => decide (r.key ∈ zc9 l)
def zd6 (r : Res) : Bool := decide (r.kind = 3) && decide (r.hosts.length = 0)
def zaq (l : List Res) : Int := if (zal l).any fun r => (za2 r).any (noR l) then 6 else if (zal l).any zd6 then 7 else 0
theorem zl1 (a : List Res) (x : Res) : zhu (a ++ [x]) = zhu a ++ (if x.kind = 0 then [x.key] else []) := by
 by_cases h : x.kind = 0 <;> simp [zhu, List.filter_append, h]
end Go.G
end
section
namespace Go.G
open Go.AI
def zb1 (cap : Int) (n : Nat) (now next : List Res) : Int :=
 if tabE next = 0 then (if cap < next.length then 8 else if ¬ (zmc next).length = 0 then 6 else if ¬ zaq next = 0 then 7 else if now = next then 9 else if 100000 ≤ n then 8 else 0) else tabE next
def zgl (s : Store) (adds : List Res) (gone : List Key) : List Res := zbg (zam s) (zac (zam s) adds gone) s.hist.length
def zh7 (s : Store) (adds : List Res) (gone : List Key) : Int := zb1 s.cap s.hist.length (zam s) (zgl s adds gone)
def zir (s : Store) (adds : List Res) (gone : List Key) : Store := if zh7 s adds gone = 0 then ⟨s.cap, s.hist ++ [zgl s adds gone]⟩ else s
def zc6 : Store → List (List Res) → Bool
 | _, [] => true
 | t, l :: r => decide (zh7 t (zca (zam t) l) (zda (zam t) l) = 0) && decide (zgl t (zca (zam t) l) (zda (zam t) l) = l) && zc6 ⟨t.cap, t.hist ++ [l]⟩ r
def sanS (s : Store) : Bool := decide (s.cap = capN s.cap) && decide (1 ≤ s.hist.length) && decide (s.hist.length ≤ 100000) && decide (s.hist.headD [] = []) && zc6 (newS s.cap) (s.hist.drop 1)
structure Chain (h : List (List Res)) : Prop where
 asc : ∀ l ∈ h, AscR l
 ver : ∀ l ∈ h, ∀ r ∈ l, ∃ (j : Nat) (m : List Res), r.ver = j ∧ h[j]? = some m ∧ getR m r.key = some r
theorem zmy {cap : Int} {n : Nat} {now next : List Res} (h : zb1 cap n now next = 0) : tabE next = 0 := by
 unfold zb1 at h
 split at h
 ·assumption
 ·exact h
theorem zwj {o r : Res} (h : za0 o r = true) : { r with ver := o.ver } = o := by
 obtain ⟨a1, a2, a3, a4, a5, a6, a7⟩ := o
 obtain ⟨b1, b2, b3, b4, b5, b6, b7⟩ := r
 simp [za0] at h
 obtain ⟨⟨⟨⟨⟨h1, h2⟩, h3⟩, h4⟩, h5⟩, h6⟩ := h
 subst h1 h2 h3 h4 h5 h6
 rfl
theorem qag {now next : List Res} {v : Int} {r : Res} (h : r ∈ zbg now next v) : r.ver = v ∨ r ∈ now := by
 simp only [zbg, List.mem_map] at h
 obtain ⟨q, _, rfl⟩ := h
 split
 ·rename_i o ho
  split
  ·rename_i ha
   right
   rw [zwj ha]; exact zap ho
  ·exact .inl rfl
 ·exact .inl rfl
theorem zx8 {h : List (List Res)} (hc : Chain h) {now next : List Res} (hnow : now = [] ∨ now ∈ h) (ht : tabE (zbg now next h.length) = 0) : Chain (h ++ [zbg now next h.length]) := by
 have ha := zai ht
 refine ⟨fun l hl => ?_, fun l hl r hr => ?_⟩
 ·rcases List.mem_append.1 hl with h1 | h1
  ·exact hc.asc l h1
  ·simp at h1; rw [h1]; exact ha
 ·have old : ∀ l ∈ h, ∀ r ∈ l, ∃ (j : Nat) (m : List Res), r.ver = j ∧ (h ++ [zbg now next h.length])[j]? = some m ∧ getR m r.key = some r := by
   intro l hl r hr
   obtain ⟨j, m, h1, h2, h3⟩ := hc.ver l hl r hr
   exact ⟨j, m, h1, by rw [List.getElem?_append_left (List.getElem?_eq_some_iff.1 h2).1]; exact h2, h3⟩
  rcases List.mem_append.1 hl with h1 | h1
  ·exact old l h1 r hr
  ·simp at h1; subst h1
   rcases qag hr with h2 | h2
   ·exact ⟨h.length, _, h2, by simp, zau ha hr⟩
   ·rcases hnow with e | e
    ·rw [e] at h2; simp at h2
    ·exact old now e r h2
theorem zlb {s : Store} : zam s = [] ∨ zam s ∈ s.hist := by
 unfold zam
 rw [List.getLastD_eq_getLast?]
 cases h : s.hist.getLast? with
 | none => exact .inl rfl
 | some l => exact .inr (List.mem_of_getLast? h)
theorem zkf : ∀ (r : List (List Res)) (t : Store), Chain t.hist → zc6 t r = true → Chain (t.hist ++ r)
 | [], t, hc, _ => by simpa using hc
 | l :: r, t, hc, h => by
   simp only [zc6, Bool.and_eq_true, decide_eq_true_eq] at h
   obtain ⟨⟨h1, h2⟩, h3⟩ := h
   have hn : Chain (t.hist ++ [l]) := by
    have := zx8 hc (next := zac (zam t) (zca (zam t) l) (zda (zam t) l)) zlb (zmy h1)
    rwa [show zbg (zam t) (zac (zam t) (zca (zam t) l) (zda (zam t) l)) t.hist.length = l from h2] at this
   have := zkf r ⟨t.cap, t.hist ++ [l]⟩ hn h3
   simpa using this
theorem zw9 {s : Store} (h : sanS s = true) : Chain s.hist ∧ ¬ s.hist = [] := by
 simp only [sanS, Bool.and_eq_true, decide_eq_true_eq] at h
 obtain ⟨⟨⟨⟨_, h1⟩, _⟩, h2⟩, h3⟩ := h
 cases hh : s.hist with
 | nil => rw [hh] at h1; simp at h1
 | cons a t =>
   rw [hh] at h2 h3
   simp only [List.headD_cons] at h2
   subst h2
   refine ⟨?_, by simp⟩
   have h0 : Chain (newS s.cap).hist := ⟨fun l hl => by simp [newS] at hl; subst hl; simp, fun l hl r hr => by simp [newS] at hl; subst hl; simp at hr⟩
   have := zkf _ _ h0 h3
   simpa [newS] using this
theorem zn6 {s : Store} (h : sanS s = true) {i : Int} {c : List Res} (hc : atS s i = some c) : zci s (zch c) = c := by
 obtain ⟨hch, hne⟩ := zw9 h
 have hat : ∀ (j : Nat), atS s j = s.hist[j]? := by
  intro j
  unfold atS
  rw [if_pos (by omega), zg8 hne]; simp
 have hmem : c ∈ s.hist := by
  unfold atS at hc
  split at hc
  ·rw [zg8 hne] at hc; exact List.mem_of_getElem? hc
  ·cases hc
 have hof : ∀ r ∈ c, ofM s ⟨r.key, r.ver⟩ = r := by
  intro r hr
  obtain ⟨j, m, h1, h2, h3⟩ := hch.ver c hmem r hr
  have : zk1 s r.key r.ver = some r := by
   unfold zk1
   rw [h1, hat j, h2]
   simp only [Option.getD_some, h3, h1, if_true]
  simp [ofM, this]
 have hm : (zch c).map (ofM s) = c := by
  unfold zch
  rw [List.map_map]
  conv => rhs; rw [← List.map_id c]
  exact List.map_congr_left fun r hr => hof r hr
 unfold zci
 rw [hm, zi9 c [] (by simpa using hch.asc c hmem)]
 rfl
theorem qds {l : List Mark} {a : Nat} {x : Mark} {k : Key} (h : l[a]? = some x) (hk : x.k = k) (hn : ∀ y ∈ l.drop (a + 1), ¬ y.k = k) : qhg l k = some x := by
 unfold qhg
 have ha : a < l.length := (List.getElem?_eq_some_iff.1 h).1
 have e : l = l.take a ++ x :: l.drop (a + 1) := by
  have := List.drop_eq_getElem_cons ha
  rw [(List.getElem?_eq_some_iff.1 h).2] at this
  rw [← this, List.take_append_drop]
 rw [e, List.reverse_append, List.reverse_cons, List.find?_append]
 have : ((l.drop (a + 1)).reverse ++ [x]).find? (fun m => decide (m.k = k)) = some x := by
  rw [List.find?_append]
  have : (l.drop (a + 1)).reverse.find? (fun m => decide (m.k = k)) = none := by
   rw [List.find?_eq_none]; intro y hy; simpa using hn y (by simpa using hy)
  rw [this]; simp [hk]
 rw [this]; rfl
end Go.G
end
section
namespace Go.G
open Go.AI
noncomputable def zhp (S : List Res) : List Value → Option (List D) := fun v => open Classical in if h : ∃ k, v = zfo k then (getR S h.choose).map resC else none
theorem zix (S : List Res) (k : Key) : zhp S (zfo k) = (getR S k).map resC := by
 unfold zhp
 have h : ∃ q, zfo k = zfo q := ⟨k, rfl⟩
 rw [dif_pos h, ← zmj h.choose_spec]
theorem zo8 {S : List Res} {k : Key} {r : Res} (h : getR S k = some r) : zhp S [.int .i64 k.kind, .string k.name] = some (resC r) := by
 have := zix S k; rw [h] at this; exact this
theorem zrw {S : List Res} {k : Key} (h : getR S k = none) : zhp S [.int .i64 k.kind, .string k.name] = none := by
 have := zix S k; rw [h] at this; exact this
theorem zrx : (fun _ => none) = zhp [] := by
 funext v
 unfold zhp
 split <;> simp [getR]
theorem zny (x : Res) (S : List Res) (k : Key) : getR (x :: S) k = if x.key = k then some x else getR S k := by
 by_cases h : x.key = k <;> simp [getR, h]
theorem zwv (S : List Res) (x : Res) : updL (zhp S) [.int .i64 x.key.kind, .string x.key.name] (resC x) = zhp (x :: S) := by
 funext v
 unfold updL
 by_cases hv : v = [.int .i64 x.key.kind, .string x.key.name]
 ·subst hv
  rw [if_pos rfl]
  have : getR (x :: S) x.key = some x := by rw [zny]; simp
  rw [zo8 this]
 ·rw [if_neg hv]
  by_cases hk : ∃ k, v = zfo k
  ·obtain ⟨k, rfl⟩ := hk
   have : ¬ x.key = k := by rintro rfl; exact hv rfl
   rw [zix, zix, zny, if_neg this]
  ·unfold zhp
   rw [dif_neg hk, dif_neg hk]
noncomputable abbrev idxD (S : List Res) : D := .mp true [.int, .str] true (zhp S)
end Go.G
end
