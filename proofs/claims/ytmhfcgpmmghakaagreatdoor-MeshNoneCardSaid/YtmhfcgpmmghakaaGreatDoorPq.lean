/-
  LAYERS 10 to 12, 18 to 24: records, links, snapshots, requests, and a mesh, plainly.
-/
import Derived.Test.YtmhfcgpmmghakaaGreatDoorPs
set_option linter.unusedSimpArgs false
set_option linter.unusedVariables false
namespace Go.G
open Go.AI
variable {m : Nat} {q : List UInt8} {α : Type}
def numF : Nat → Nat → List UInt8
 | 0, _ => []
 | f + 1, n => if n < 128 then [UInt8.ofNat n] else UInt8.ofNat (n % 128 + 128) :: numF f (n / 128)
def bndN (n : Int) : Int := max 0 (min n 2147483647)
def numB (n : Int) : List UInt8 := numF 5 (bndN n).toNat
def zb9 (s : Str) : List UInt8 := numB (bs s).length ++ bs s
def zal {α : Type} (l : List α) (lay : α → List UInt8) : List UInt8 := numB l.length ++ l.flatMap lay
def zbe (w : Weight) : List UInt8 := zb9 w.cluster ++ numB w.w
def ruleBy (r : Rule) : List UInt8 := zb9 r.host ++ zb9 r.pre ++ zal r.split zbe
def zgb (r : Res) : List UInt8 :=
 if r.kind = 0 then numB r.port ++ zb9 r.to else if r.kind = 1 then zal r.rules ruleBy else if r.kind = 2 then zb9 r.to else zal r.hosts numB
def resB (r : Res) : List UInt8 := numB r.kind ++ zb9 r.name ++ numB r.ver ++ zgb r
def zbn (k : Key) : List UInt8 := numB k.kind ++ zb9 k.name
def zfc (m : Mark) : List UInt8 := zbn m.k ++ numB m.ver
def zhd (f : Frame) : List UInt8 :=
 if f.type = 0 then zal f.have_ zfc
 else if f.type = 1 then numB f.kind ++ numB f.nonce ++ zal f.adds resB ++ zal f.gone zbn
 else if f.type = 2 then numB f.kind ++ numB f.nonce ++ numB f.err ++ numB f.turn ++ zal f.held zbn
 else numB f.turn ++ zal f.held zbn
def putB (f : Frame) : List UInt8 := numB f.type ++ numB f.epoch ++ zhd f
def zmc (l : List UInt8) : List UInt8 := numB l.length ++ l
def zhw (f : Frame) : List UInt8 := zmc (putB f)
theorem zxn : ∀ (f n : Nat), (numF f n).length ≤ f
 | 0, _ => Nat.le_refl _
 | f + 1, n => by
   unfold numF
   split
   ·simp
   ·have := zxn f (n / 128); simp; omega
theorem zad (n : Int) : (numB n).length ≤ 5 := zxn _ _
theorem zm5 (f n : Nat) (h : n < 128) : numF (f + 1) n = [UInt8.ofNat n] := by simp [numF, h]
theorem zs3 (f n : Nat) (h : ¬ n < 128) : numF (f + 1) n = UInt8.ofNat (n % 128 + 128) :: numF f (n / 128) := by simp [numF, h]
theorem zwq (n : Nat) (h : n < 256) : ((UInt8.ofNat n).toNat : Int) = n := by
 simp [UInt8.toNat_ofNat]; omega
theorem qa1 (n : Int) : IntKind.wrap .u8 n = n % 256 := rfl
theorem qqa (n : Nat) (h : n < 2 ^ 64) : (BitVec.ofInt 64 (n : Int)).toNat = n := by
 rw [BitVec.ofInt_natCast, BitVec.toNat_ofNat, Nat.mod_eq_of_lt h]
theorem or64 (a b : Nat) (ha : a < 2 ^ 62) (hb : b < 2 ^ 62) : orK .i64 (a : Int) (b : Int) = ((a ||| b : Nat) : Int) := by
 have h1 : a ||| b < 2 ^ 62 := Nat.or_lt_two_pow ha hb
 unfold orK
 show IntKind.wrap .i64 ((BitVec.ofInt 64 (a : Int) ||| BitVec.ofInt 64 (b : Int)).toNat : Int) = _
 rw [BitVec.toNat_or, qqa _ (by omega), qqa _ (by omega)]
 exact zaa (by omega) (by omega)
theorem qpn (m : Nat) (h : m < 256) : m ||| 128 = m % 128 + 128 := by
 have : ∀ m : Fin 256, m.val ||| 128 = m.val % 128 + 128 := by decide +kernel
 exact this ⟨m, h⟩
theorem zxl (n : Nat) (h : n ≤ 34359738368) : IntKind.wrap .u8 (orK .i64 (n : Int) 128) = ((UInt8.ofNat (n % 128 + 128)).toNat : Int) := by
 have e := or64 n 128 (by omega) (by omega)
 rw [show ((128 : Nat) : Int) = 128 from rfl] at e
 rw [e, zwq _ (by omega), qa1]
 have : (n ||| 128) % 256 = n % 128 + 128 := by
  have h2 := Nat.or_mod_two_pow (a := n) (b := 128) (n := 8)
  rw [show (2 : Nat) ^ 8 = 256 from rfl] at h2
  rw [h2, show 128 % 256 = 128 from rfl, qpn _ (Nat.mod_lt _ (by omega))]
  omega
 omega
theorem zxm (n : Nat) (h : n < 128) : IntKind.wrap .u8 (n : Int) = ((UInt8.ofNat n).toNat : Int) := by
 rw [zwq _ (by omega), qa1]; omega
theorem qdc (n : Nat) : (n : Int).fdiv (2 ^ 7) = ((n / 128 : Nat) : Int) := by
 rw [show (2 : Int) ^ 7 = 128 from rfl, Int.fdiv_eq_ediv_of_nonneg _ (by omega)]
 omega
theorem zxp (n : Nat) (h : n < 256) : zkv .u8 (n : Int) 128 = ((n % 128 : Nat) : Int) := by
 have : ∀ m : Fin 256, zkv .u8 (m.val : Int) 128 = ((m.val % 128 : Nat) : Int) := by decide +kernel
 exact this ⟨n, h⟩
theorem qpo (i x y : Nat) (hx : x < 2 ^ i) (hs : x + 2 ^ i * y < 2 ^ 62) : orK .i64 (x : Int) ((y : Int) * 2 ^ i) = ((x + 2 ^ i * y : Nat) : Int) := by
 have e : (y : Int) * 2 ^ i = ((2 ^ i * y : Nat) : Int) := by push_cast; exact Int.mul_comm _ _
 rw [e, or64 _ _ (by omega) (by omega)]
 congr 1
 rw [Nat.or_comm, ← Nat.two_pow_add_eq_or_of_lt hx]
 omega
theorem qit (n : Int) : (if 0 < (if 2147483647 < n then 2147483647 else n) then (if 2147483647 < n then (2147483647 : Int) else n) else 0) = bndN n := by
 unfold bndN; omega
theorem zl9 (n : Int) : ∃ m : Nat, bndN n = m ∧ m ≤ 2147483647 ∧ numB n = numF 5 m := ⟨(bndN n).toNat, by unfold bndN; omega, by unfold bndN; omega, rfl⟩
theorem zwh {n : Int} (h0 : 0 ≤ n) (h : n ≤ 2147483647) : bndN n = n := by unfold bndN; omega
theorem zu2 (s : Str) : zdr s = (bs s).map byteC := by simp [zdr, zex, bs, byteC]
structure NumI (m : Nat) (q : List UInt8) (n f : Nat) : Prop where
 e : q ++ numF f n = numF 5 m
 f1 : 1 ≤ f
 n1 : n < 128 ^ f
 l : q.length + f = 5
theorem NumI.start (h : m ≤ 2147483647) : NumI m [] m 5 := ⟨rfl, by omega, by omega, rfl⟩
theorem NumI.step {m n f : Nat} (h : NumI m q n f) (h1 : ¬ n < 128) : NumI m (q ++ [UInt8.ofNat (n % 128 + 128)]) (n / 128) (f - 1) := by
 obtain ⟨f, rfl⟩ : ∃ g, f = g + 1 := ⟨f - 1, by have := h.f1; omega⟩
 have e := h.e
 have l := h.l
 have n1 := h.n1
 have f2 : 1 ≤ f := by
  rcases Nat.eq_zero_or_pos f with e | e
  ·subst e; omega
  ·exact e
 rw [zs3 _ _ h1] at e
 refine ⟨by simpa using e, by simpa using f2, ?_, by simp; omega⟩
 simp only [Nat.add_sub_cancel]
 rw [Nat.pow_succ] at n1
 exact Nat.div_lt_of_lt_mul (by rw [Nat.mul_comm]; exact n1)
theorem NumI.last {m n f : Nat} (h : NumI m q n f) (h1 : n < 128) : q ++ [UInt8.ofNat n] = numF 5 m := by
 obtain ⟨f, rfl⟩ : ∃ g, f = g + 1 := ⟨f - 1, by have := h.f1; omega⟩
 have e := h.e
 rwa [zm5 _ _ h1] at e
theorem NumI.small {m n f : Nat} (h : NumI m q n f) : n ≤ 34359738368 := by
 have h1 := h.n1
 have h2 := h.l
 have : 128 ^ f ≤ 128 ^ 5 := Nat.pow_le_pow_right (by omega) (by omega)
 omega
theorem qqx (a b : Nat) (h : a ≤ 5) : ∃ M : Nat, (if 5 < (a : Int) + b then (5 : Int) else a + b) = M ∧ a ≤ M ∧ M ≤ 5 ∧ min M (a + b) = M := by
 refine ⟨min 5 (a + b), ?_, ?_, ?_, ?_⟩
 ·split <;> omega
 all_goals omega
structure ParI (m : Nat) (q : List UInt8) (k n0 r : Nat) : Prop where
 e : q.drop k = numF (5 - k) r
 k4 : k ≤ 4
 m : m = n0 + 2 ^ (7 * k) * r
 n0 : n0 < 2 ^ (7 * k)
 pos : 0 < k → 0 < r
 r : r < 128 ^ (5 - k)
theorem ParI.start (h : m ≤ 2147483647) : ParI m (numF 5 m) 0 0 m := ⟨rfl, by omega, by simp, by simp, by omega, by show m < 128 ^ 5; omega⟩
theorem ParI.small {m k n0 r : Nat} (h : ParI m q k n0 r) (hm : m ≤ 2147483647) : n0 ≤ 2147483647 := by have := h.m; omega
theorem ParI.last {m k n0 r : Nat} (h : ParI m q k n0 r) (hr : r < 128) : q[k]? = some (UInt8.ofNat r) ∧ q.length = k + 1 := by
 have e := h.e
 have hk := h.k4
 obtain ⟨f, hf⟩ : ∃ f, 5 - k = f + 1 := ⟨4 - k, by omega⟩
 rw [hf, zm5 _ _ hr] at e
 have e1 : (q.drop k)[0]? = q[k]? := by simp
 have e2 := congrArg List.length e
 simp at e2
 rw [e] at e1
 exact ⟨by simpa using e1.symm, by omega⟩
theorem ParI.more {m k n0 r : Nat} (h : ParI m q k n0 r) (hr : ¬ r < 128) :
  q[k]? = some (UInt8.ofNat (r % 128 + 128)) ∧ k + 1 < q.length ∧ ParI m q (k + 1) (n0 + 2 ^ (7 * k) * (r % 128)) (r / 128) := by
 have e := h.e
 have hk := h.k4
 obtain ⟨f, hf⟩ : ∃ f, 5 - k = f + 1 := ⟨4 - k, by omega⟩
 have hr2 := h.r
 rw [hf] at hr2
 have f0 : 1 ≤ f := by
  rcases Nat.eq_zero_or_pos f with e | e
  ·subst e; omega
  ·exact e
 have e1 : (q.drop k)[0]? = q[k]? := by simp
 rw [hf, zs3 _ _ hr] at e
 have e3 : q.drop (k + 1) = numF f (r / 128) := by
  have := congrArg (List.drop 1) e
  rw [List.drop_drop] at this
  simpa using this
 have hl : 0 < (numF f (r / 128)).length := by
  obtain ⟨g, rfl⟩ : ∃ g, f = g + 1 := ⟨f - 1, by omega⟩
  unfold numF; split <;> simp
 have e2 := congrArg List.length e3
 simp at e2
 rw [e] at e1
 have p : 2 ^ (7 * (k + 1)) = 2 ^ (7 * k) * 128 := by rw [show 7 * (k + 1) = 7 * k + 7 by omega, Nat.pow_add]
 refine ⟨by simpa using e1.symm, by omega, ⟨by rw [e3, show 5 - (k + 1) = f by omega], by omega, ?_, ?_, fun _ => by omega, ?_⟩⟩
 ·rw [h.m, p, Nat.mul_assoc, Nat.add_assoc, ← Nat.mul_add]
  congr 2; omega
 ·rw [p]
  have := h.n0
  have h2 : r % 128 < 128 := Nat.mod_lt _ (by omega)
  have h3 : 2 ^ (7 * k) * (r % 128) ≤ 2 ^ (7 * k) * 127 := Nat.mul_le_mul_left _ (by omega)
  omega
 ·rw [show 5 - (k + 1) = f by omega]
  rw [Nat.pow_succ] at hr2
  exact Nat.div_lt_of_lt_mul (by rw [Nat.mul_comm]; exact hr2)
theorem qjh {k n0 c : Nat} (hk : k ≤ 4) (h0 : n0 < 2 ^ (7 * k)) (hc : c < 128) :
  IntKind.wrap .i64 ((c : Int) * 2 ^ (7 * k)) = (c : Int) * 2 ^ (7 * k) ∧ orK .i64 (n0 : Int) ((c : Int) * 2 ^ (7 * k)) = ((n0 + 2 ^ (7 * k) * c : Nat) : Int) := by
 have h1 : 2 ^ (7 * k) ≤ 2 ^ 28 := Nat.pow_le_pow_right (by omega) (by omega)
 have h2 : 2 ^ (7 * k) * c ≤ 2 ^ 28 * 127 := Nat.mul_le_mul h1 (by omega)
 refine ⟨?_, qpo _ _ _ h0 (by omega)⟩
 have e : (c : Int) * 2 ^ (7 * k) = ((2 ^ (7 * k) * c : Nat) : Int) := by push_cast; exact Int.mul_comm _ _
 rw [e]
 exact zaa (by omega) (by omega)
theorem zt3 (x t : List UInt8) : List.drop x.length (List.take ((x.length : Int) + t.length).toNat (List.map byteC x ++ List.map byteC t)) = List.map byteC t := by
 rw [show ((x.length : Int) + t.length).toNat = x.length + t.length by omega, List.take_of_length_le (by simp), List.drop_append_of_le_length (by simp)]; simp
theorem qj9 (s : Str) : (⟨(unB ((bs s).map byteC)).toArray⟩ : Str) = s := by
 have e : unB ((bs s).map byteC) = bs s := by simp [unB, Function.comp_def]
 rw [e]; exact zpm rfl
theorem zcl {lay : α → List UInt8} : ∀ (l : List α), (∀ y ∈ l, (lay y).length ≤ m) → (l.flatMap lay).length ≤ l.length * m
 | [], _ => by simp
 | x :: l, h => by
   have h1 := h x (by simp)
   have h2 := zcl l fun y hy => h y (by simp [hy])
   simp only [List.flatMap_cons, List.length_append, List.length_cons, Nat.add_mul]
   omega
theorem zfl {lay : α → List UInt8} (l : List α) (k : Nat) (h : ∀ y ∈ l, (lay y).length ≤ m) : ((l.take k).flatMap lay).length ≤ l.length * m :=
 Nat.le_trans (zcl _ fun y hy => h y (List.mem_of_mem_take hy)) (Nat.mul_le_mul_right _ (by simp; omega))
theorem za8 {lay : α → List UInt8} {l : List α} (h : ∀ y ∈ l, (lay y).length ≤ m) : (zal l lay).length ≤ 5 + l.length * m := by
 have h1 := zad l.length
 have h2 := zcl l h
 simp only [zal, List.length_append]
 omega
theorem qfz (l : List α) : l.take (if 64 < (l.length : Int) then (64 : Int) else l.length).toNat = l.take 64 := by
 split
 ·rfl
 ·rw [List.take_of_length_le (by omega), List.take_of_length_le (by omega)]
theorem zry {α β : Type} (f : α → β) (l : List α) : (l.map f).take (if 64 < (l.length : Int) then (64 : Int) else l.length).toNat = (l.map f).take 64 := by
 have := qfz (l.map f)
 rwa [List.length_map] at this
theorem qpz (k : Key) : okK k = (decide (0 ≤ k.kind) && decide (k.kind < 4) && zc5 k.name) := by
 simp only [okK, rngB]
 congr 2
 exact decide_eq_decide.2 (by omega)
theorem za5 {n m : Int} (h : n ≤ m) (h0 : 0 ≤ m) (hm : m ≤ 2147483647) : n ≤ bndN m := by rw [zwh h0 hm]; exact h
theorem zfk {lay : α → List UInt8} (l : List α) (k : Nat) (h : ∀ y ∈ l, (lay y).length ≤ m) : ((l.drop k).flatMap lay).length ≤ l.length * m :=
 Nat.le_trans (zcl _ fun y hy => h y (List.mem_of_mem_drop hy)) (Nat.mul_le_mul_right _ (by simp))
end Go.G
namespace Go.G
open Go.AI
variable {s : Str} {r : Res}
theorem zjg (h : zc5 s = true) : (bs s).length ≤ 12 := by
 simp only [zc5, zij, Bool.and_eq_true, decide_eq_true_eq] at h
 exact h.1.1.2
theorem qkn (h : bs s = []) : s = ⟨#[]⟩ := zpm h
structure WIn (w : Weight) : Prop where
 c : (bs w.cluster).length ≤ 12
 w0 : 0 ≤ w.w
 w1 : w.w ≤ 100
structure RuleIn (r : Rule) : Prop where
 host : (bs r.host).length ≤ 40
 pre : (bs r.pre).length ≤ 40
 split : r.split.length ≤ 4
 each : ∀ w ∈ r.split, WIn w
structure ResIn (r : Res) : Prop where
 k0 : 0 ≤ r.kind
 k3 : r.kind ≤ 3
 name : (bs r.name).length ≤ 12
 v0 : 0 ≤ r.ver
 v1 : r.ver ≤ 2147483647
 p0 : 0 ≤ r.port
 p1 : r.port ≤ 65535
 to : (bs r.to).length ≤ 12
 rules : r.rules.length ≤ 8
 rule : ∀ x ∈ r.rules, RuleIn x
 hosts : r.hosts.length ≤ 8
 host : ∀ h ∈ r.hosts, 0 ≤ h ∧ h ≤ 2147483647
 noP : r.kind ≠ 0 → r.port = 0
 noT : r.kind ≠ 0 → r.kind ≠ 2 → r.to = ⟨#[]⟩
 noR : r.kind ≠ 1 → r.rules = []
 noH : r.kind ≠ 3 → r.hosts = []
theorem zk8 (h : zaw r = 0) : ResIn r := by
 obtain ⟨h1, h2, h3, h4, h5, -⟩ := ze9 h
 obtain ⟨k0, k3⟩ := rngB_iff.1 h1
 simp only [zcg, Bool.and_eq_true, decide_eq_true_eq, List.all_eq_true, zf4] at h3
 obtain ⟨⟨⟨⟨⟨s1, s2⟩, s3⟩, s4⟩, s5⟩, s6⟩ := h3
 simp only [ze0, Bool.and_eq_true, Bool.or_eq_true, decide_eq_true_eq, mayP, mayT, mayR, mayH] at h4
 obtain ⟨⟨⟨p1, p2⟩, p3⟩, p4⟩ := h4
 simp only [zgz, Bool.and_eq_true, Bool.or_eq_true, Bool.not_eq_true', mayT, List.all_eq_true, zp7] at h5
 obtain ⟨n1, n2⟩ := h5
 have v := rngB_iff.1 s1
 have p := rngB_iff.1 s2
 refine ⟨k0, k3, zjg h2, v.1, v.2, p.1, p.2, ?_, s3, fun x hx => ?_, s4, fun y hy => rngB_iff.1 (s5 y hy), fun hk => ?_, fun ha hb => ?_, fun hk => ?_, fun hk => ?_⟩
 ·rcases p2 with q | q
  ·rw [q]; simp
  ·rcases n1 with g | g
   ·simp at g; omega
   ·exact zjg g
 ·obtain ⟨⟨a1, a2⟩, a3⟩ := n2 x hx
  obtain ⟨b1, b2⟩ := s6 x hx
  simp only [zni, Bool.and_eq_true, decide_eq_true_eq] at a1
  simp only [zln, Bool.and_eq_true, decide_eq_true_eq] at a2
  refine ⟨a1.1, a2.1.1.2, b1, fun w hw => ?_⟩
  have := rngB_iff.1 (b2 w hw)
  exact ⟨zjg (a3 w hw), this.1, this.2⟩
 ·rcases p1 with q | q <;> omega
 ·rcases p2 with q | q
  ·exact qkn q
  ·rcases q with q | q <;> omega
 ·rcases p3 with q | q
  ·exact List.eq_nil_of_length_eq_zero q
  ·omega
 ·rcases p4 with q | q
  ·exact List.eq_nil_of_length_eq_zero q
  ·omega
theorem za2 {n : Nat} (h : (bs s).length ≤ n) : (zb9 s).length ≤ 5 + n := by
 have := zad (bs s).length
 simp only [zb9, List.length_append]; omega
theorem zfp {w : Weight} (h : WIn w) : (zbe w).length ≤ 22 := by
 have h1 := za2 h.c
 have h2 := zad w.w
 simp only [zbe, List.length_append]; omega
theorem zkg {r : Rule} (h : RuleIn r) : (ruleBy r).length ≤ 183 := by
 have h1 := za2 h.host
 have h2 := za2 h.pre
 have h3 := za8 (l := r.split) (lay := zbe) (m := 22) fun w hw => zfp (h.each w hw)
 have h4 := h.split
 simp only [ruleBy, List.length_append]; omega
theorem zr0 (h : ResIn r) : (zgb r).length ≤ 1469 := by
 have h1 := za2 h.to
 have h2 := zad r.port
 have h3 := za8 (l := r.rules) (lay := ruleBy) (m := 183) fun w hw => zkg (h.rule w hw)
 have h4 := h.rules
 have h5 := za8 (l := r.hosts) (lay := numB) (m := 5) fun w _ => zad w
 have h6 := h.hosts
 unfold zgb
 repeat' split
 all_goals (try simp only [List.length_append]); omega
theorem zja (h : ResIn r) : (resB r).length ≤ 1496 := by
 have h1 := zr0 h
 have h2 := zad r.kind
 have h3 := za2 h.name
 have h4 := zad r.ver
 simp only [resB, List.length_append]; omega
theorem zxu {k : Key} (h : okK k = true) : 0 ≤ k.kind ∧ k.kind ≤ 3 ∧ (bs k.name).length ≤ 12 := by
 simp only [okK, Bool.and_eq_true] at h
 have := rngB_iff.1 h.1
 exact ⟨this.1, this.2, zjg h.2⟩
theorem zdb {k : Key} (h : okK k = true) : (zbn k).length ≤ 22 := by
 have h1 := zad k.kind
 have h2 := za2 (zxu h).2.2
 simp only [zbn, List.length_append]; omega
theorem zjj {m : Mark} (h : okK m.k = true) : (zfc m).length ≤ 27 := by
 have h1 := zdb h
 have h2 := zad m.ver
 simp only [zfc, List.length_append]; omega
theorem zl2 {f : Frame} (h : OkF f) : (putB f).length ≤ 99000 := by
 obtain ⟨a1, a2, a3, a4, -⟩ := zbl h.small
 have hn := h.named
 simp only [zb0, Bool.and_eq_true, List.all_eq_true] at hn
 have b1 := za8 (l := f.adds) (lay := resB) (m := 1496) fun r hr => zja (zk8 (h.adds r hr))
 have b2 := za8 (l := f.gone) (lay := zbn) (m := 22) fun r hr => zdb (hn.1.1 r hr)
 have b3 := za8 (l := f.held) (lay := zbn) (m := 22) fun r hr => zdb (hn.1.2 r hr)
 have b4 := za8 (l := f.have_) (lay := zfc) (m := 27) fun r hr => zjj (hn.2 r hr)
 have c1 := zad f.type
 have c2 := zad f.epoch
 have c3 := zad f.kind
 have c4 := zad f.nonce
 have c5 := zad f.err
 have c6 := zad f.turn
 unfold putB zhd
 simp only [List.length_append]
 repeat' split
 all_goals (try simp only [List.length_append]); omega
theorem zzp {n : Int} (h0 : 0 ≤ n) (h : n < 128) : numB n = [UInt8.ofNat n.toNat] := by
 obtain ⟨m, e0, e1, e2⟩ := zl9 n
 rw [zwh h0 (by omega)] at e0
 subst e0
 rw [e2, zm5 _ _ (by omega)]; rfl
structure FrIn (f : Frame) : Prop where
 ty : f.type = 0 ∨ f.type = 1 ∨ f.type = 2 ∨ f.type = 3
 k0 : 0 ≤ f.kind
 k3 : f.kind ≤ 3
 e0 : 0 ≤ f.epoch
 e1 : f.epoch ≤ 2147483647
 n0 : 0 ≤ f.nonce
 n1 : f.nonce ≤ 2147483647
 t0 : 0 ≤ f.turn
 t1 : f.turn ≤ 2147483647
 r0 : 0 ≤ f.err
 r1 : f.err ≤ 15
 la : f.adds.length ≤ 64
 lg : f.gone.length ≤ 64
 lh : f.have_.length ≤ 64
 ld : f.held.length ≤ 64
 gone : ∀ k ∈ f.gone, okK k = true
 held : ∀ k ∈ f.held, okK k = true
 have_ : ∀ m ∈ f.have_, okK m.k = true ∧ 0 ≤ m.ver ∧ m.ver ≤ 2147483647
 adds : ∀ r ∈ f.adds, zaw r = 0
 s0 : f.type = 0 → f.kind = 0 ∧ f.nonce = 0 ∧ f.turn = 0 ∧ f.adds = [] ∧ f.gone = [] ∧ f.err = 0 ∧ f.held = []
 s1 : f.type = 1 → f.turn = 0 ∧ f.err = 0 ∧ f.have_ = [] ∧ f.held = []
 s2 : f.type = 2 → f.adds = [] ∧ f.gone = [] ∧ f.have_ = []
 s3 : f.type = 3 → f.kind = 0 ∧ f.nonce = 0 ∧ f.adds = [] ∧ f.gone = [] ∧ f.err = 0 ∧ f.have_ = []
theorem qqw {f : Frame} (h : OkF f) : FrIn f := by
 obtain ⟨a1, a2, a3, a4, a5, a6, a7, a8, a9⟩ := zbl h.small
 have hn := h.named
 simp only [zb0, Bool.and_eq_true, List.all_eq_true] at hn
 have hk := rngB_iff.1 h.kind
 have b6 := rngB_iff.1 a6
 have b7 := rngB_iff.1 a7
 have b8 := rngB_iff.1 a8
 have b9 := rngB_iff.1 a9
 have hs := of_decide_eq_true h.shaped
 obtain ⟨ty, ep, k, n, t, ad, go, er, hv, hd⟩ := f
 refine ⟨rng3 h.type, hk.1, hk.2, b6.1, b6.2, b7.1, b7.2, b8.1, b8.2, b9.1, b9.2, a1, a2, a3, a4, hn.1.1, hn.1.2, fun m hm => ⟨hn.2 m hm, rngB_iff.1 (a5 m hm)⟩, h.adds, ?_, ?_, ?_, ?_⟩
 all_goals
  intro h0
  simp only at h0
  subst h0
  simp [zh4, zFrame] at hs
  simp [hs]
end Go.G
namespace Go.G
open Go.AI
structure RLk where
 epoch : Int
 q : List (List UInt8)
@[simp] def txC (b : List UInt8) : List D := [lD (b.map byteC)]
@[simp] theorem lenAll_tx (l : List (List UInt8)) : zax (l.map txC) 1 = True := zav (f := txC) (n := 1) (fun _ => rfl) l
@[simp] def rlkC (l : RLk) : List D := [iD l.epoch, lD (l.q.map txC)]
def zmr (l : RLk) : Bool := rngB l.epoch 2147483647 && decide (l.q.length ≤ 32)
def zcf (l : RLk) : RLk := if zmr l then l else ⟨0, []⟩
def qbw (l : RLk) (b : List UInt8) : RLk × Int := if 32 ≤ l.q.length then (l, 8) else (⟨l.epoch, l.q ++ [b]⟩, 0)
def qbx (l : RLk) (b : List UInt8) : RLk × Int := qbw (zcf l) b
def placeK (l : RLk) (i : Int) : Nat := ((max 0 i).tmod l.q.length).toNat
def zoo (l : RLk) (i : Int) : RLk × List UInt8 × Int := if l.q = [] then (l, [], 10) else (⟨l.epoch, l.q.take (placeK l i) ++ l.q.drop (placeK l i + 1)⟩, l.q.getD (placeK l i) [], 0)
def zy0 (l : RLk) (i : Int) : RLk × List UInt8 × Int := zoo (zcf l) i
def zw7 (l : RLk) : RLk × Int := if (zcf l).epoch = 2147483647 then (zcf l, 14) else (⟨(zcf l).epoch + 1, []⟩, 0)
structure OkLk (l : RLk) : Prop where
 len : l.q.length ≤ 1000000
 q : ∀ b ∈ l.q, b ≠ [] ∧ b.length ≤ 200000
theorem OkLk.sound {l : RLk} (h : OkLk l) : OkLk (zcf l) := by
 unfold zcf; split
 ·exact h
 ·exact ⟨by simp, by simp⟩
theorem zoq (l : RLk) : (zcf l).q.length ≤ 32 := by
 unfold zcf; split
 ·rename_i h; simp only [zmr, Bool.and_eq_true, decide_eq_true_eq] at h; exact h.2
 ·simp
theorem zy9 (l : RLk) : 0 ≤ (zcf l).epoch ∧ (zcf l).epoch ≤ 2147483647 := by
 unfold zcf; split
 ·rename_i h; simp only [zmr, Bool.and_eq_true] at h; exact rngB_iff.1 h.1
 ·simp
theorem saneK_iff {l : RLk} : zmr l = true ↔ (0 ≤ l.epoch ∧ l.epoch ≤ 2147483647) ∧ l.q.length ≤ 32 := by simp [zmr, rngB_iff]
theorem zss {l : RLk} (i : Int) (h : l.q ≠ []) : placeK l i < l.q.length := by
 have h1 : 0 < l.q.length := List.length_pos_iff.2 h
 unfold placeK
 have := Int.tmod_lt_of_pos (max 0 i) (b := (l.q.length : Int)) (by omega)
 have h3 := Int.tmod_nonneg (a := max 0 i) (l.q.length : Int) (by omega)
 omega
theorem qcx {l : RLk} (i : Int) (h : l.q ≠ []) : (max 0 i).tmod (l.q.length : Int) = (placeK l i : Int) := by
 have h1 : 0 < l.q.length := List.length_pos_iff.2 h
 unfold placeK
 have h3 := Int.tmod_nonneg (a := max 0 i) (l.q.length : Int) (by omega)
 omega
theorem qb4 (l : RLk) : zmr l = (decide (0 ≤ l.epoch) && decide (l.epoch ≤ 2147483647) && decide ((l.q.length : Int) ≤ 32)) := by
 simp only [zmr, rngB]
 congr 1
 exact decide_eq_decide.2 (by omega)
theorem qgi {l : RLk} (h : zmr l = false) : zcf l = ⟨0, []⟩ := by simp [zcf, h]
theorem zsc {l : RLk} (h : zmr l = true) : zcf l = l := by simp [zcf, h]
theorem zou {l : RLk} {b : List UInt8} (h : 32 ≤ l.q.length) : qbw l b = (l, 8) := if_pos h
theorem zot {l : RLk} {b : List UInt8} (h : ¬ 32 ≤ l.q.length) : qbw l b = (⟨l.epoch, l.q ++ [b]⟩, 0) := if_neg h
theorem qcw {l : RLk} (i : Int) (h : l.q ≠ []) : (if 0 < i then i else 0).tmod (l.q.length : Int) = (placeK l i : Int) := by
 rw [show (if 0 < i then i else 0) = max 0 i by omega]; exact qcx i h
theorem zyz {e i : Int} : zoo ⟨e, []⟩ i = (⟨e, []⟩, [], 10) := if_pos rfl
theorem zyy {l : RLk} {i : Int} (h : l.q ≠ []) : zoo l i = (⟨l.epoch, l.q.take (placeK l i) ++ l.q.drop (placeK l i + 1)⟩, l.q.getD (placeK l i) [], 0) := if_neg h
theorem OkLk.getD {l : RLk} (h : OkLk l) {k : Nat} (hk : k < l.q.length) : l.q.getD k [] ≠ [] ∧ (l.q.getD k []).length ≤ 200000 := by
 have : l.q.getD k [] = l.q[k] := by simp [hk]
 rw [this]; exact h.q _ (List.getElem_mem hk)
theorem OkLk.take {l : RLk} (h : OkLk l) (i : Int) : OkLk (zoo l i).1 := by
 unfold zoo; split
 ·exact h
 ·refine ⟨?_, fun b hb => ?_⟩
  ·have := h.len; simp; omega
  ·rcases List.mem_append.1 hb with g | g
   ·exact h.q b (List.mem_of_mem_take g)
   ·exact h.q b (List.mem_of_mem_drop g)
def pfx (s p : Str) : Bool := decide ((bs p).length ≤ (bs s).length) && decide ((bs s).take (bs p).length = bs p)
def sfx (s p : Str) : Bool := decide ((bs p).length ≤ (bs s).length) && decide ((bs s).drop ((bs s).length - (bs p).length) = bs p)
def cutS (s p : Str) : Str := if pfx s p then s.extract (bs p).length (bs s).length else s
def zlc (p h : Str) : Bool :=
 if (!zni p || !zni h || pfx h ⟨#[42]⟩) = true then false else if (decide (p = ⟨#[42]⟩) || decide (p = h)) = true then true
 else pfx p ⟨#[42]⟩ && decide ((bs (cutS p ⟨#[42]⟩)).length < (bs h).length) && sfx h (cutS p ⟨#[42]⟩)
def zmf (p s : Str) : Bool :=
 if (!pfx s p || !zln p || !zln s) = true then false else decide (cutS s p = ⟨#[]⟩) || sfx p ⟨#[47]⟩ || pfx (cutS s p) ⟨#[47]⟩
def zoj (s : Str) : Int := if s = ⟨#[42]⟩ then 0 else if pfx s ⟨#[42, 46]⟩ = true then (bs s).length else 9223372036854775807
def cmpI (a b : Int) : Int := if a < b then -1 else if b < a then 1 else 0
def zkk (a b : Str) : Int := cmpI (zoj a) (zoj b)
def zyg (a b : Rule) : Bool := if 0 < zkk a.host b.host then true else if zkk a.host b.host < 0 then false else decide ((bs b.pre).length < (bs a.pre).length)
def zRule : Rule := ⟨⟨#[]⟩, ⟨#[]⟩, []⟩
def za0 (may : Rule → Bool) (z : Rule × Bool) (x : Rule) : Rule × Bool := if may x && (!z.2 || zyg x z.1) then (x, true) else z
def zp6 (l : List Rule) (host path : Str) : Rule × Bool := l.foldl (za0 fun r => zlc r.host host && zmf r.pre path) (zRule, false)
def za9 (w : Weight) : Int := max 0 (min w.w 100)
def ze3 (l : List Weight) : Int := l.foldl (fun n w => n + za9 w) 0
def zhc : List Weight → Int → Str × Bool
 | [], _ => (⟨#[]⟩, false)
 | w :: l, left => if left - za9 w < 0 then (w.cluster, true) else zhc l (left - za9 w)
def zl7 (l : List Weight) (draw : Int) : Str × Bool := if ze3 l = 0 then (⟨#[]⟩, false) else zhc l ((max 0 draw).tmod (ze3 l))
def znh (l : List Int) (draw : Int) : Int × Bool := if l = [] then (0, false) else (l.getD ((max 0 draw).tmod l.length).toNat 0, true)
def zkl (l : List Res) (port : Int) : Option Res := l.find? fun r => decide (r.kind = 0) && decide (r.port = port)
theorem zv6 (s : Str) (n : Nat) : bs (s.extract n (bs s).length) = (bs s).drop n := by rw [zeb, List.take_length]
theorem bndW (n : Int) : (if 0 < (if 100 < n then 100 else n) then (if 100 < n then (100 : Int) else n) else 0) = max 0 (min n 100) := by omega
theorem zol (l : List Weight) : 0 ≤ ze3 l ∧ ze3 l ≤ 100 * l.length := by
 have : ∀ (l : List Weight) (n : Int), 0 ≤ n → n ≤ l.foldl (fun n w => n + za9 w) n ∧ l.foldl (fun n w => n + za9 w) n ≤ n + 100 * l.length := by
  intro l
  induction l with
  | nil => intro n h; simp
  | cons w l ih =>
    intro n h
    have hw : 0 ≤ za9 w ∧ za9 w ≤ 100 := by unfold za9; omega
    have := ih (n + za9 w) (by omega)
    simp only [List.foldl_cons, List.length_cons]
    omega
 have := this l 0 (by omega)
 unfold ze3
 omega
@[simp] theorem zRule_h : zRule.host = ⟨#[]⟩ := rfl
@[simp] theorem zRule_p : zRule.pre = ⟨#[]⟩ := rfl
@[simp] theorem zRule_s : zRule.split = [] := rfl
theorem zib (w : Weight) : 0 ≤ za9 w ∧ za9 w ≤ 100 := by unfold za9; omega
structure ChI (l : List Weight) (n0 : Int) (k : Nat) (left : Int) : Prop where
 e : zhc l n0 = zhc (l.drop k) left
 l0 : 0 ≤ left
 l1 : left ≤ n0
theorem qef {l : List Int} (i : Int) (h : l ≠ []) : ∃ k : Nat, (if 0 < i then i else 0).tmod (l.length : Int) = (k : Int) ∧ k < l.length ∧ znh l i = (l.getD k 0, true) := by
 have h1 : 0 < l.length := List.length_pos_iff.2 h
 rw [show (if 0 < i then i else 0) = max 0 i by omega]
 have h2 := Int.tmod_lt_of_pos (max 0 i) (b := (l.length : Int)) (by omega)
 have h3 := Int.tmod_nonneg (a := max 0 i) (l.length : Int) (by omega)
 refine ⟨((max 0 i).tmod l.length).toNat, by omega, by omega, ?_⟩
 unfold znh
 rw [if_neg h]
theorem zok : ze3 [] = 0 := rfl
theorem zyw (l : List Weight) (w : Weight) : ze3 (l ++ [w]) = ze3 l + za9 w := by simp [ze3]
theorem ChI.step {l : List Weight} {n0 left : Int} {k : Nat} {w : Weight} (h : ChI l n0 k left) (hd : l.drop k = w :: l.drop (k + 1)) :
  (left - za9 w < 0 → zhc l n0 = (w.cluster, true)) ∧ (¬ left - za9 w < 0 → ChI l n0 (k + 1) (left - za9 w)) := by
 have e := h.e
 have hb := zib w
 have l1 := h.l1
 rw [hd] at e
 refine ⟨fun h1 => ?_, fun h1 => ⟨?_, by omega, by omega⟩⟩
 ·rw [e]; simp [zhc, h1]
 ·rw [e]; simp [zhc, h1]
theorem ChI.last {l : List Weight} {n0 left : Int} (h : ChI l n0 l.length left) : zhc l n0 = (⟨#[]⟩, false) := by
 have := h.e
 rw [List.drop_length] at this
 exact this
def zcv (l : List Snap) (id : Int) : Nat → Int
 | 0 => -1
 | k + 1 => match l[k]? with
   | some s => if s.id = id then k else zcv l id k
   | none => zcv l id k
def zby (p : Pins) (id : Int) : Int := zcv p.snaps id p.snaps.length
def pinQ (p : Pins) : Pins × Int × Int := match p.snaps.getLast? with
 | none => (p, 0, 10)
 | some s => if s.pins = 10000 then (p, 0, 14) else (⟨p.next, p.snaps.dropLast ++ [{ s with pins := s.pins + 1 }]⟩, s.id, 0)
def pinP (p : Pins) : Pins × Int × Int := pinQ (zat p)
def relQ (p : Pins) (id : Int) : Pins × Int :=
 if zby p id < 0 then (p, 10) else
  match p.snaps[(zby p id).toNat]? with
  | none => (p, 10)
  | some s => if s.pins = 0 then (p, 15) else
    if ¬ zby p id = (p.snaps.length : Int) - 1 ∧ s.pins - 1 = 0 then (⟨p.next, p.snaps.eraseIdx (zby p id).toNat⟩, 0)
    else (⟨p.next, p.snaps.set (zby p id).toNat { s with pins := s.pins - 1 }⟩, 0)
def relP (p : Pins) (id : Int) : Pins × Int := relQ (zat p) id
def getQ (p : Pins) (id : Int) : Option (List Res) := if zby p id < 0 then none else (p.snaps[(zby p id).toNat]?).map Snap.l
def getP (p : Pins) (id : Int) : Option (List Res) := getQ (zat p) id
theorem zio (l : List Snap) (id : Int) : ∀ k, -1 ≤ zcv l id k ∧ zcv l id k < k
 | 0 => by simp [zcv]
 | k + 1 => by
   have := zio l id k
   unfold zcv
   cases l[k]? with
   | none => simp only; omega
   | some s => simp only; split <;> omega
theorem qpr {p : Pins} (h : OkPins p) : OkPins (pinP p).1 := by
 unfold pinP
 have h' := h.sound
 generalize zat p = q at *
 unfold pinQ
 split
 ·exact h'
 ·rename_i s hs
  split
  ·exact h'
  ·have hl : q.snaps ≠ [] := by intro e; rw [e] at hs; simp at hs
   have hmem : s ∈ q.snaps := List.mem_of_getLast? hs
   refine ⟨fun x hx => ?_, h'.next, ?_⟩
   ·rcases List.mem_append.1 hx with g | g
    ·exact h'.snaps x (List.dropLast_subset _ g)
    ·simp at g; subst g; exact h'.snaps s hmem
   ·have := h'.sl
    have := List.length_pos_iff.2 hl
    simp; omega
theorem qc4 {p : Pins} (id : Int) (h : OkPins p) : OkPins (relP p id).1 := by
 unfold relP
 have h' := h.sound
 generalize zat p = q at *
 unfold relQ
 split
 ·exact h'
 ·split
  ·exact h'
  ·rename_i s hs
   have hmem : s ∈ q.snaps := List.mem_of_getElem? hs
   split
   ·exact h'
   ·split
    ·refine ⟨fun x hx => h'.snaps x (List.mem_of_mem_eraseIdx hx), h'.next, ?_⟩
     have := h'.sl
     have := List.length_eraseIdx_le q.snaps (zby q id).toNat
     simp only at *; omega
    ·refine ⟨fun x hx => ?_, h'.next, by simpa using h'.sl⟩
     rcases List.mem_or_eq_of_mem_set hx with g | g
     ·exact h'.snaps x g
     ·subst g; exact h'.snaps s hmem
theorem zkd {n : Int} : ∀ {l : List Snap} {a : Int}, zbm n a l = true → ∀ s ∈ l, 0 ≤ s.pins
 | [], _, _, s, hs => by cases hs
 | x :: l, a, h, s, hs => by
   simp only [zbm, Bool.and_eq_true, decide_eq_true_eq] at h
   rcases List.mem_cons.1 hs with e | e
   ·subst e
    have := h.1.1.2
    split at this <;> omega
   ·exact zkd h.2 s e
theorem zxy {α β : Type} (l : List α) (f : α → β) (c : β) : (l.map f ++ [c])[l.length]? = some c := by simp
theorem qgf {α β : Type} (l : List α) (f : α → β) (c d : β) : (l.map f ++ [c]).set l.length d = l.map f ++ [d] := by
 rw [List.set_append_right _ _ (by simp)]; simp
theorem zg9 {α β : Type} (f : α → β) : ∀ (l : List α) (k : Nat), (l.map f).eraseIdx k = (l.eraseIdx k).map f
 | [], _ => by simp
 | _ :: _, 0 => by simp
 | _ :: l, k + 1 => by simp [zg9 f l k]
def zf8 (s : Side) : Side × Int × Int := ({ soundX s with p := (pinP (soundX s).p).1 }, (pinP (soundX s).p).2.1, (pinP (soundX s).p).2.2)
def endQ (x : Side) (id : Int) : Side × List Frame × Int :=
 let q := relP x.p id
 let y : Side := { x with p := q.1 }
 if (decide (zd6 q.1 = zd6 x.p) || !y.up || zv4 y) = true then (y, [], q.2) else (zrv y, [⟨3, y.epoch, 0, 0, y.turn + 1, [], [], 0, [], zd6 y.p⟩], q.2)
def endX (s : Side) (id : Int) : Side × List Frame × Int := endQ (soundX s) id
structure Ask where
 port : Int
 host : Str
 path : Str
 first : Int
 other : Int
 deriving DecidableEq
structure Ans where
 what : Int
 cluster : Str
 host : Int
 deriving DecidableEq
structure Req where
 a : Ask
 stage : Int
 id : Int
 route : Str
 cluster : Str
 out : Ans
 deriving DecidableEq
def zAns : Ans := ⟨0, ⟨#[]⟩, 0⟩
def zAsk : Ask := ⟨0, ⟨#[]⟩, ⟨#[]⟩, 0, 0⟩
@[simp] def askC (a : Ask) : List D := [iD a.port, sD a.host, sD a.path, iD a.first, iD a.other]
@[simp] def ansC (a : Ans) : List D := [iD a.what, sD a.cluster, iD a.host]
@[simp] def reqC (r : Req) : List D := [iD r.a.port, sD r.a.host, sD r.a.path, iD r.a.first, iD r.a.other, iD r.stage, iD r.id, sD r.route, sD r.cluster, iD r.out.what, sD r.out.cluster, iD r.out.host]
def newR (a : Ask) : Req := ⟨a, 0, 0, ⟨#[]⟩, ⟨#[]⟩, zAns⟩
def zgp (r : Req) : Bool := !(decide (r.stage < 0) || decide (5 < r.stage) || decide (r.id < 0)) && (decide (0 < r.id) || decide (r.stage = 0) || decide (r.stage = 5))
def zec (r : Req) : Req := if zgp r then r else newR r.a
def zhy (r : Req) : Bool := !decide ((zec r).stage = 5)
structure Work where
 r : Req
 s : Side
 told : List Frame
def zgc (w : Work) (a : Ans) : Work :=
 if w.r.stage = 0 then { w with r := { w.r with stage := 5, out := a } } else ⟨{ w.r with stage := 5, out := a }, (endX w.s w.r.id).1, (endX w.s w.r.id).2.1⟩
def zn3 (w : Work) : List Res := (getP w.s.p w.r.id).getD []
def getW (w : Work) (k : Int) (n : Str) : Option Res := getR (zn3 w) ⟨k, n⟩
def zj6 (w : Work) : Work :=
 if ¬ (zf8 w.s).2.2 = 0 then zgc w ⟨0, ⟨#[]⟩, 0⟩ else { w with s := (zf8 w.s).1, r := { w.r with id := (zf8 w.s).2.1, stage := 1 } }
def zfw (w : Work) : Work := match zkl (zn3 w) w.r.a.port with
 | none => zgc w ⟨1, ⟨#[]⟩, 0⟩
 | some x => { w with r := { w.r with route := x.to, stage := 2 } }
def zoy (w : Work) : Work :=
 let x := getW w 1 w.r.route
 let u := zp6 (x.getD zRes).rules w.r.a.host w.r.a.path
 if (!x.isSome || !u.2) = true then zgc w ⟨2, ⟨#[]⟩, 0⟩ else
 let c := zl7 u.1.split w.r.a.first
 if c.2 = false then zgc w ⟨0, ⟨#[]⟩, 0⟩ else { w with r := { w.r with cluster := c.1, stage := 3 } }
def zkr (w : Work) : Work :=
 let c := getW w 2 w.r.cluster
 let e := getW w 3 (c.getD zRes).to
 let h := znh (e.getD zRes).hosts w.r.a.other
 if (!c.isSome || !e.isSome || !h.2) = true then zgc w ⟨0, ⟨#[]⟩, 0⟩ else { w with r := { w.r with out := ⟨3, w.r.cluster, h.1⟩, stage := 4 } }
def stepQ (w : Work) : Work :=
 if w.r.stage = 0 then zj6 w else if w.r.stage = 1 then zfw w else if w.r.stage = 2 then zoy w else if w.r.stage = 3 then zkr w else if w.r.stage = 4 then zgc w w.r.out else w
def zgi (r : Req) (s : Side) : Work := stepQ ⟨zec r, soundX s, []⟩
structure Task where
 n : Int
 r : Req
 deriving DecidableEq
@[simp] def zdi (t : Task) : List D := iD t.n :: reqC t.r
structure Pool where
 next : Int
 tasks : List Task
 done : List Task
@[simp] def zn9 (p : Pool) : List D := [iD p.next, lD (p.tasks.map zdi), lD (p.done.map zdi)]
structure OkPool (p : Pool) : Prop where
 n0 : 0 ≤ p.next
 n1 : p.next ≤ 100000
 lt : p.tasks.length ≤ 64
 ld : p.done.length ≤ 1000
 up : p.tasks.Pairwise (fun a b => a.n < b.n)
 nd : (p.done.map Task.n).Nodup
 ap : ∀ t ∈ p.tasks, ∀ d ∈ p.done, t.n ≠ d.n
 rt : ∀ t ∈ p.tasks, 1 ≤ t.n ∧ t.n ≤ p.next
 rd : ∀ t ∈ p.done, 1 ≤ t.n ∧ t.n ≤ p.next
 run : ∀ t ∈ p.tasks, zgp t.r = true ∧ zhy t.r = true
 over : ∀ t ∈ p.done, zhy t.r = false
def zgj (p : Pool) (a : Ask) : Pool × Int × Int :=
 if 64 ≤ p.tasks.length ∨ p.next = 100000 then (p, 0, 8) else (⟨p.next + 1, p.tasks ++ [⟨p.next + 1, newR a⟩], p.done⟩, p.next + 1, 0)
def zvi (l : List Task) (t : Task) : List Task := l.drop (l.length - 999) ++ [t]
def pickAt (p : Pool) (draw : Int) : Nat := ((max 0 draw).tmod p.tasks.length).toNat
def zgw (p : Pool) (s : Side) (draw : Int) : Pool × Side × List Frame × Int :=
 match p.tasks[pickAt p draw]? with
 | none => (p, s, [], 10)
 | some t =>
   let w := zgi t.r s
   if zhy w.r then (⟨p.next, p.tasks.set (pickAt p draw) ⟨t.n, w.r⟩, p.done⟩, w.s, w.told, 0)
   else (⟨p.next, p.tasks.eraseIdx (pickAt p draw), zvi p.done ⟨t.n, w.r⟩⟩, w.s, w.told, 0)
theorem OkX.withP {s : Side} (h : OkX s) {p : Pins} (hp : OkPins p) : OkX { s with p := p } := ⟨h.c, h.cl, h.shown, hp.snaps, hp.next, hp.sl⟩
theorem OkX.begin {s : Side} (h : OkX s) : OkX (zf8 s).1 := h.sound.withP (qpr h.sound.pins)
theorem OkX.end {s : Side} (id : Int) (h : OkX s) : OkX (endX s id).1 := by
 unfold endX
 have h' := h.sound
 generalize soundX s = x at *
 have h2 := h'.withP (qc4 id h'.pins)
 unfold endQ
 dsimp only
 split
 ·exact h2
 ·exact ⟨h2.c, h2.cl, h2.shown, h2.snaps, h2.next, h2.sl⟩
theorem OkX.done {w : Work} (a : Ans) (h : OkX w.s) : OkX (zgc w a).s := by
 unfold zgc; split
 ·exact h
 ·exact h.end _
theorem OkX.stepQ {w : Work} (h : OkX w.s) : OkX (stepQ w).s := by
 unfold Go.G.stepQ zj6 zfw zoy zkr
 dsimp only
 repeat' split
 all_goals first
  | exact h
  | exact h.done _
  | exact h.begin
theorem OkX.stepR {s : Side} (r : Req) (h : OkX s) : OkX (zgi r s).s := OkX.stepQ (w := ⟨zec r, soundX s, []⟩) h.sound
def SnP (p : Pins) : Prop := ∀ q ∈ p.snaps, ∀ r ∈ q.l, zaw r = 0
structure FitR (r : Res) : Prop where
 rules : r.rules.length ≤ 1000000
 each : ∀ x ∈ r.rules, (bs x.host).length ≤ 1000000 ∧ (bs x.pre).length ≤ 1000000
 split : ∀ x ∈ r.rules, x.split.length ≤ 1000000
 hosts : r.hosts.length ≤ 1000000
theorem FitR.zero : FitR zRes := ⟨by simp [zRes], by simp [zRes], by simp [zRes], by simp [zRes]⟩
theorem FitR.of {r : Res} (h : zaw r = 0) : FitR r := by
 have h := zk8 h
 exact ⟨by have := h.rules; omega, fun x hx => by have := h.rule x hx; have := this.host; have := (h.rule x hx).pre; omega, fun x hx => by have := (h.rule x hx).split; omega, by have := h.hosts; omega⟩
theorem SnP.sound {p : Pins} (h : SnP p) : SnP (zat p) := by
 unfold zat; split
 ·exact h
 ·intro q hq; cases hq
theorem SnP.get {p : Pins} (h : SnP p) (id : Int) : ∀ r ∈ (getP p id).getD [], zaw r = 0 := by
 have h' := h.sound
 unfold getP getQ
 generalize zat p = q at h' ⊢
 split
 ·intro r hr; cases hr
 ·cases e : q.snaps[(zby q id).toNat]? with
  | none => intro r hr; cases hr
  | some s => exact h' s (List.mem_of_getElem? e)
theorem zx1 {p : Pins} (h : OkPins p) (id : Int) : ((getP p id).getD []).length ≤ 64 := by
 have h' := h.sound.snaps
 unfold getP getQ
 generalize zat p = q at h' ⊢
 split
 ·simp
 ·cases e : q.snaps[(zby q id).toNat]? with
  | none => simp
  | some s => exact (h' s (List.mem_of_getElem? e)).2
theorem zx0 {l : List Res} (h : ∀ r ∈ l, zaw r = 0) (k : Key) : FitR ((getR l k).getD zRes) := by
 cases e : getR l k with
 | none => exact .zero
 | some x => exact .of (h x (zho e))
theorem qcc (l : List Rule) (h s : Str) : (zp6 l h s).1 = zRule ∨ (zp6 l h s).1 ∈ l := by
 unfold zp6
 have : ∀ (m : List Rule) (z : Rule × Bool), (z.1 = zRule ∨ z.1 ∈ l) → (∀ x ∈ m, x ∈ l) → ((m.foldl (za0 fun r => zlc r.host h && zmf r.pre s) z).1 = zRule ∨ (m.foldl (za0 fun r => zlc r.host h && zmf r.pre s) z).1 ∈ l) := by
  intro m
  induction m with
  | nil => intro z hz _; exact hz
  | cons x m ih =>
    intro z hz hm
    rw [List.foldl_cons]
    refine ih _ ?_ (fun y hy => hm y (List.mem_cons_of_mem _ hy))
    unfold za0
    split
    ·exact .inr (hm x List.mem_cons_self)
    ·exact hz
 exact this l _ (.inl rfl) fun _ h => h
theorem qcd {r : Res} (hr : FitR r) (h s : Str) : (zp6 r.rules h s).1.split.length ≤ 1000000 := by
 rcases qcc r.rules h s with e | e
 ·rw [e]; simp
 ·exact hr.split _ e
@[simp] def qon (w : Work) : List D := reqC w.r ++ zcc w.s ++ [lD (w.told.map zaj)]
theorem SnP.soundX {s : Side} (h : SnP s.p) : SnP (Go.G.soundX s).p := by
 unfold Go.G.soundX; split
 ·exact h
 ·intro q hq; simp [newX] at hq
theorem zwy (r : Req) : (zec r).a = r.a := by unfold zec newR; split <;> rfl
theorem qh3 {S : List Int} {l : List Task} {k : Nat} {x : Task} (h : (S ++ l.map Task.n).Nodup) (hr : l[k]? = some x) : x.n ∉ S ++ (l.take k).map Task.n := by
 intro hm
 obtain ⟨hS, hl, hd⟩ := List.nodup_append.1 h
 have hxm : x.n ∈ l.map Task.n := List.mem_map.2 ⟨x, List.mem_of_getElem? hr, rfl⟩
 rcases List.mem_append.1 hm with g | g
 ·exact hd _ g _ hxm rfl
 ·have hk := (List.getElem?_eq_some_iff.1 hr).1
  have e : l.map Task.n = (l.take k).map Task.n ++ x.n :: (l.drop (k + 1)).map Task.n := by
   conv => lhs; rw [← List.take_append_drop k l, List.map_append]
   rw [List.drop_eq_getElem_cons hk]
   have : l[k] = x := by rw [List.getElem?_eq_getElem hk] at hr; exact Option.some.inj hr
   rw [this]; rfl
  rw [e] at hl
  exact (List.nodup_append.1 hl).2.2 _ g _ List.mem_cons_self rfl
theorem zqg {l : List Task} (h : l.Pairwise fun a b => a.n < b.n) : (l.map Task.n).Nodup := by
 rw [List.nodup_iff_pairwise_ne, List.pairwise_map]
 exact h.imp fun h => by omega
theorem qdg {p : Pool} (h : OkPool p) : (p.tasks.map Task.n ++ p.done.map Task.n).Nodup := by
 rw [List.nodup_append]
 refine ⟨zqg h.up, h.nd, ?_⟩
 intro a ha b hb e
 obtain ⟨t, ht, rfl⟩ := List.mem_map.1 ha
 obtain ⟨d, hd, rfl⟩ := List.mem_map.1 hb
 exact h.ap t ht d hd e
@[simp] theorem lenAll_task (l : List Task) : zax (l.map zdi) 13 = True := zav (f := zdi) (n := 13) (fun _ => rfl) l
theorem qcz (p : Pool) (draw : Int) (h : 0 < p.tasks.length) : (if 0 < draw then draw else 0).tmod (p.tasks.length : Int) = (pickAt p draw : Nat) ∧ pickAt p draw < p.tasks.length := by
 rw [show (if 0 < draw then draw else 0) = max 0 draw by omega]
 have h2 := Int.tmod_lt_of_pos (max 0 draw) (b := (p.tasks.length : Int)) (by omega)
 have h3 := Int.tmod_nonneg (a := max 0 draw) (p.tasks.length : Int) (by omega)
 unfold pickAt
 omega
variable {s : Side} {p : Store}
theorem zlb : ∀ (L : List Res) (l : List Res) {r : Res}, r ∈ L.foldl zey l → r ∈ L ∨ r ∈ l
 | [], l, r, h => .inr h
 | x :: L, l, r, h => by
   rcases zlb L _ h with g | g
   ·exact .inl (List.mem_cons_of_mem _ g)
   ·rcases zta g with g | g
    ·exact .inl (g ▸ List.mem_cons_self)
    ·exact .inr g
theorem qhz (hp : sanS p = true) {l : List Res} (hl : l ∈ p.hist) {r : Res} (hr : r ∈ l) : zaw r = 0 := by
 obtain ⟨i, hi⟩ := List.mem_iff_getElem?.1 hl
 have hh := ((zb3 p).1 hp)
 have hc : 0 ≤ p.cap := by rw [hh.1]; exact (zl8 _).1
 exact zpw (hh.2.2.acc hc hi).tab hr
theorem qp2 (hp : sanS p = true) {m : Mark} (hm : okK m.k = true) : OkRes (ofM p m) := by
 have hb : OkRes (zrd m) := by
  have h := (zxu hm).2.2
  exact ⟨by simp only [zrd]; omega, by simp [zrd], by simp [zrd], by simp [zrd], by simp [zrd]⟩
 unfold ofM znn
 cases e : getR ((atS p m.ver).getD []) m.k with
 | none => exact hb
 | some r =>
   simp only
   split
   ·refine zqe ?_
    have hr := zho e
    unfold atS at hr
    rw [ze8 hp] at hr
    split at hr
    ·cases e2 : p.hist[m.ver.toNat]? with
     | none => rw [e2] at hr; cases hr
     | some l => rw [e2] at hr; exact qhz hp (List.mem_of_getElem? e2) hr
    ·cases hr
   ·exact hb
theorem zpc {s : Sess} (f : Frame) (hs : zct s = true) (ho : OkSess s) (hp : sanS p = true) : OkSess (handle s p f).1 := by
 have S := saneS_iff.1 (ziu p f hs)
 refine ⟨⟨⟨by have := S.hl; omega, ?_⟩, by have := S.dl; omega, zzh p f hs ho.v.push⟩⟩
 clear S
 unfold handle
 rw [zgl hs]
 unfold zdm
 split
 ·exact ho.v.have_.all
 rename_i he
 have F := frameE_zero.1 (Decidable.not_not.1 he)
 split
 ·exact ho.v.have_.all
 split
 ·unfold zg6
  split
  ·exact ho.v.have_.all
  ·intro r hr
   rcases zlb _ _ hr with g | g
   ·obtain ⟨m, hm, rfl⟩ := List.mem_map.1 g
    refine qp2 hp ?_
    have := F.named
    simp only [zb0, Bool.and_eq_true, List.all_eq_true] at this
    exact this.2 m hm
   ·cases g
 split
 ·exact ho.v.have_.all
 split
 ·unfold ackH
  repeat' split
  all_goals first
   | exact ho.v.have_.all
   | (intro r hr
      rcases zyl hr with g | g
      ·exact ho.v.have_.all r g
      ·exact ho.v.push.adds.all r g.2)
 ·intro r hr
  refine ho.v.have_.all r ?_
  simp only [zns, zdc] at hr
  split at hr <;> exact hr
theorem zxd {s : Sess} (hs : zct s = true) (ho : OkSess s) (hp : sanS p = true) : zct (pump s p).1 = true ∧ OkSess (pump s p).1 ∧ (∀ f ∈ (pump s p).2.1, zas f = 0 ∧ f.type = 1 ∧ f.epoch = s.epoch) ∧ (pump s p).2.1.length ≤ 1 ∧ (pump s p).1.epoch = s.epoch := by
 rcases zzi hs p with ⟨h1, h2⟩ | ⟨x, h1, h2, h3, h4, h5⟩
 ·rw [h1, h2]
  exact ⟨hs, ho, by simp, by simp, rfl⟩
 ·have := qli hs hp h1 h3 h4
  rw [h5]
  have S := saneS_iff.1 this.tsane
  have l1 := S.hl
  have l2 := S.dl
  refine ⟨this.tsane, ⟨⟨⟨Nat.le_trans l1 (by omega), fun r hr => ho.v.have_.all r (this.tview.1 ▸ hr)⟩, Nat.le_trans l2 (by omega), ?_⟩⟩, ?_, by simp, rfl⟩
  ·rw [this.tpush]; exact zeg this.sane
  ·intro f hf
   simp only [List.mem_singleton] at hf
   subst hf
   exact ⟨this.sane, this.type, this.epoch⟩
end Go.G
namespace Go.G
open Go.AI
variable {s : Side} {p : Store}
theorem SnP.pub {p : Pins} (h : SnP p) {l : List Res} (hl : ∀ r ∈ l, zaw r = 0) : SnP (zcq p l).1 := by
 have h' := h.sound
 unfold zcq
 generalize zat p = q at h' ⊢
 unfold zc9
 split
 ·exact h'
 split
 ·exact h'
 ·intro x hx
  rcases List.mem_append.1 hx with g | g
  ·exact h' x (List.mem_filter.1 g).1
  ·simp only [List.mem_singleton] at g; subst g; exact hl
theorem SnP.pin {p : Pins} (h : SnP p) : SnP (pinP p).1 := by
 have h' := h.sound
 unfold pinP
 generalize zat p = q at h' ⊢
 unfold pinQ
 split
 ·exact h'
 ·rename_i s hs
  split
  ·exact h'
  ·intro x hx
   rcases List.mem_append.1 hx with g | g
   ·exact h' x (List.dropLast_subset _ g)
   ·simp only [List.mem_singleton] at g; subst g; exact h' s (List.mem_of_getLast? hs)
theorem SnP.rel {p : Pins} (id : Int) (h : SnP p) : SnP (relP p id).1 := by
 have h' := h.sound
 unfold relP
 generalize zat p = q at h' ⊢
 unfold relQ
 split
 ·exact h'
 split
 ·exact h'
 rename_i s hs
 have hmem : s ∈ q.snaps := List.mem_of_getElem? hs
 split
 ·exact h'
 split
 ·intro x hx; exact h' x (List.mem_of_mem_eraseIdx hx)
 ·intro x hx
  rcases List.mem_or_eq_of_mem_set hx with g | g
  ·exact h' x g
  ·subst g; exact h' s hmem
theorem zy2 (w : Warm) (a : List Res) (g : List Key) : ∀ r ∈ (zie w a g).1.shown, zaw r = 0 := by
 obtain ⟨h1, h2, _⟩ := saneW_iff.1 (zr1 w a g)
 rw [h2]
 intro r hr
 exact zpw (saneC_iff.1 h1).2.1 (List.mem_filter.1 hr).1
theorem qf4 (h : SnP s.p) (f : Frame) : SnP (zkb s f).1.p := by
 unfold zkb
 dsimp only
 repeat' split
 all_goals first
  | exact h
  | exact h.pub (zy2 _ _ _)
structure OkD (s : Side) : Prop where
 x : OkX s
 n : SnP s.p
theorem OkD.new (l m : Int) : OkD (newX l m) := ⟨.new l m, by intro q hq; simp [newX] at hq⟩
theorem OkD.sound (h : OkD s) : OkD (soundX s) := ⟨h.x.sound, h.n.soundX⟩
theorem zq0 {p : Pins} (h : OkPins p) (a b c d t e : Int) : OkFrame ⟨a, b, c, d, t, [], [], e, [], zd6 p⟩ := ⟨⟨by simp, by simp⟩, by simp, by simp, by have := zqx h; simp only; omega⟩
theorem OkD.side (h : OkD s) (f : Frame) : OkD (zmo s f).1 ∧ (∀ g ∈ (zmo s f).2.1, OkFrame g) ∧ (zmo s f).2.1.length ≤ 1 := by
 unfold zmo
 have h' := h.sound
 generalize soundX s = x at h' ⊢
 unfold zmn
 by_cases h0 : zbd x f = 0
 ·have F := frameE_zero.1 (zgs h0)
  have ha := zeg (zgs h0)
  have hst := h'.x.step ha.adds (show f.adds.length ≤ 1000 by have := (zbl F.small).1; omega)
  have hsn := qf4 h'.n f
  dsimp only
  repeat' split
  all_goals first
   | exact ⟨h', by simp, by simp⟩
   | (refine ⟨⟨⟨hst.c, hst.cl, hst.shown, hst.snaps, hst.next, hst.sl⟩, hsn⟩, ?_, by simp [ackX]⟩
      intro g hg
      simp only [ackX, List.mem_singleton] at hg
      subst hg
      exact zq0 hst.pins ..)
   | (refine ⟨⟨⟨h'.x.c, h'.x.cl, h'.x.shown, h'.x.snaps, h'.x.next, h'.x.sl⟩, h'.n⟩, ?_, by simp [ackX]⟩
      intro g hg
      simp only [ackX, List.mem_singleton] at hg
      subst hg
      exact zq0 h'.x.pins ..)
 ·rw [if_pos h0]; exact ⟨h', by simp, by simp⟩
theorem OkD.connect (h : OkD s) (ep : Int) : OkD (zbk s ep).1 ∧ (∀ g ∈ (zbk s ep).2.1, OkFrame g) ∧ (zbk s ep).2.1.length ≤ 2 := by
 unfold zbk
 have h' := h.sound
 generalize soundX s = x at h' ⊢
 unfold zfy
 split
 ·exact ⟨h', by simp, by simp⟩
 split
 ·exact ⟨h', by simp, by simp⟩
 ·refine ⟨⟨⟨h'.x.c, h'.x.cl, h'.x.shown, h'.x.snaps, h'.x.next, h'.x.sl⟩, h'.n⟩, ?_, by simp⟩
  intro g hg
  simp only [List.mem_cons, List.not_mem_nil, or_false] at hg
  rcases hg with rfl | rfl
  ·exact ⟨⟨by simp [znj], by simp [znj]⟩, by simp [znj], by have := h'.x.cl; simp [znj, zrv]; omega, by simp [znj]⟩
  ·exact zq0 (p := x.p) h'.x.pins ..
theorem OkD.begin (h : OkD s) : OkD (zf8 s).1 := ⟨h.x.begin, h.sound.n.pin⟩
theorem OkD.end (h : OkD s) (id : Int) : OkD (endX s id).1 ∧ (∀ g ∈ (endX s id).2.1, OkFrame g) ∧ (endX s id).2.1.length ≤ 1 := by
 refine ⟨⟨h.x.end id, ?_⟩, ?_⟩
 ·unfold endX
  have h' := h.sound.n.rel id
  generalize soundX s = x at h' ⊢
  unfold endQ
  dsimp only
  split <;> exact h'
 ·unfold endX
  have h' := qc4 id h.sound.x.pins
  generalize soundX s = x at h' ⊢
  unfold endQ
  dsimp only
  split
  ·exact ⟨by simp, by simp⟩
  ·refine ⟨?_, by simp⟩
   intro g hg
   simp only [List.mem_singleton] at hg
   subst hg
   exact zq0 h' ..
structure OkWk (w : Work) : Prop where
 s : OkD w.s
 t : ∀ g ∈ w.told, OkFrame g
 l : w.told.length ≤ 1
theorem OkWk.done {w : Work} (a : Ans) (h : OkWk w) : OkWk (zgc w a) := by
 unfold zgc
 split
 ·exact ⟨h.s, h.t, h.l⟩
 ·have := h.s.end w.r.id
  exact ⟨this.1, this.2.1, this.2.2⟩
theorem OkWk.stepQ {w : Work} (h : OkWk w) : OkWk (stepQ w) := by
 unfold Go.G.stepQ zj6 zfw zoy zkr
 dsimp only
 repeat' split
 all_goals first
  | exact h
  | exact h.done _
  | exact ⟨h.s, h.t, h.l⟩
  | exact ⟨h.s.begin, h.t, h.l⟩
theorem OkWk.stepR (r : Req) (h : OkD s) : OkWk (zgi r s) := OkWk.stepQ (w := ⟨zec r, soundX s, []⟩) ⟨h.sound, by simp, by simp⟩
end Go.G
namespace Go.G
open Go.AI
structure OkPl (q : Pool) : Prop where
 p : OkPool q
 a : ∀ t ∈ q.tasks, (bs t.r.a.host).length ≤ 1000000 ∧ (bs t.r.a.path).length ≤ 1000000
def zPool : Pool := ⟨0, [], []⟩
theorem OkPl.zero : OkPl zPool := ⟨⟨by simp [zPool], by simp [zPool], by simp [zPool], by simp [zPool], by simp [zPool], by simp [zPool], by simp [zPool], by simp [zPool], by simp [zPool], by simp [zPool], by simp [zPool]⟩, by simp [zPool]⟩
theorem zsb (a : Ask) : zgp (newR a) = true ∧ zhy (newR a) = true := by
 have : zgp (newR a) = true := by simp [zgp, newR]
 refine ⟨this, ?_⟩
 unfold zhy zec
 rw [if_pos this]
 simp [newR]
theorem OkPl.start {p : Pool} (h : OkPl p) {a : Ask} (ha : (bs a.host).length ≤ 1000000 ∧ (bs a.path).length ≤ 1000000) : OkPl (zgj p a).1 := by
 unfold zgj
 split
 ·exact h
 ·rename_i hn
  have hp := h.p
  have n0 := hp.n0
  have n1 := hp.n1
  refine ⟨⟨by simp only; omega, by simp only; omega, by simp; omega, hp.ld, ?_, hp.nd, ?_, ?_, ?_, ?_, hp.over⟩, ?_⟩
  ·refine List.pairwise_append.2 ⟨hp.up, by simp, ?_⟩
   intro x hx y hy
   simp only [List.mem_singleton] at hy
   subst hy
   have := hp.rt x hx
   simp only; omega
  ·intro t ht d hd
   rcases List.mem_append.1 ht with g | g
   ·exact hp.ap t g d hd
   ·simp only [List.mem_singleton] at g
    subst g
    have := hp.rd d hd
    simp only; omega
  ·intro t ht
   rcases List.mem_append.1 ht with g | g
   ·have := hp.rt t g; simp only; omega
   ·simp only [List.mem_singleton] at g
    subst g
    simp only; omega
  ·intro t ht
   have := hp.rd t ht; simp only; omega
  ·intro t ht
   rcases List.mem_append.1 ht with g | g
   ·exact hp.run t g
   ·simp only [List.mem_singleton] at g
    subst g
    exact zsb a
  ·intro t ht
   rcases List.mem_append.1 ht with g | g
   ·exact h.a t g
   ·simp only [List.mem_singleton] at g
    subst g
    exact ha
theorem qiu {s : Side} (h : (zf8 s).2.2 = 0) : 1 ≤ (zf8 s).2.1 := by
 unfold zf8 at h ⊢
 simp only at h ⊢
 unfold pinP at h ⊢
 have hs := (saneP_iff.1 (zbx (soundX s).p)).1
 generalize zat (soundX s).p = q at h hs ⊢
 unfold pinQ at h ⊢
 split at h
 ·simp at h
 ·rename_i x hx
  split at h
  ·simp at h
  ·rename_i hn
   simp only [if_neg hn]
   have := (zhh hs x (List.mem_of_getLast? hx)).2.2
   omega
theorem saneQ_iff {r : Req} : zgp r = true ↔ (0 ≤ r.stage ∧ r.stage ≤ 5 ∧ 0 ≤ r.id) ∧ (0 < r.id ∨ r.stage = 0 ∨ r.stage = 5) := by
 simp [zgp]; omega
theorem zt6 {w : Work} (a : Ans) (h : 0 ≤ w.r.id) : zgp (zgc w a).r = true ∧ (zgc w a).r.a = w.r.a := by
 unfold zgc
 split <;> exact ⟨saneQ_iff.2 ⟨⟨by simp, by simp, h⟩, .inr (.inr rfl)⟩, rfl⟩
theorem qku {w : Work} (h : zgp w.r = true) : zgp (stepQ w).r = true ∧ (stepQ w).r.a = w.r.a := by
 have hq := saneQ_iff.1 h
 unfold stepQ
 by_cases h0 : w.r.stage = 0
 ·rw [if_pos h0]
  unfold zj6
  split
  ·exact zt6 _ hq.1.2.2
  ·rename_i he
   have := qiu (Decidable.not_not.1 he)
   exact ⟨saneQ_iff.2 ⟨⟨by simp, by simp, by simp only; omega⟩, .inl (by simp only; omega)⟩, rfl⟩
 rw [if_neg h0]
 by_cases h1 : w.r.stage = 1
 ·rw [if_pos h1]
  unfold zfw
  split
  ·exact zt6 _ hq.1.2.2
  ·exact ⟨saneQ_iff.2 ⟨⟨by simp, by simp, hq.1.2.2⟩, .inl (by simp only; omega)⟩, rfl⟩
 rw [if_neg h1]
 by_cases h2 : w.r.stage = 2
 ·rw [if_pos h2]
  unfold zoy
  dsimp only
  repeat' split
  all_goals first
   | exact zt6 _ hq.1.2.2
   | exact ⟨saneQ_iff.2 ⟨⟨by simp, by simp, hq.1.2.2⟩, .inl (by simp only; omega)⟩, rfl⟩
 rw [if_neg h2]
 by_cases h3 : w.r.stage = 3
 ·rw [if_pos h3]
  unfold zkr
  dsimp only
  repeat' split
  all_goals first
   | exact zt6 _ hq.1.2.2
   | exact ⟨saneQ_iff.2 ⟨⟨by simp, by simp, hq.1.2.2⟩, .inl (by simp only; omega)⟩, rfl⟩
 rw [if_neg h3]
 split
 ·exact zt6 _ hq.1.2.2
 ·exact ⟨h, rfl⟩
theorem qks (r : Req) (s : Side) : zgp (zgi r s).r = true ∧ (zgi r s).r.a = r.a := by
 have := qku (w := ⟨zec r, soundX s, []⟩) (by
  unfold zec
  split
  ·assumption
  ·exact (zsb r.a).1)
 exact ⟨this.1, this.2.trans (zwy r)⟩
theorem qrt {l : List Task} {k : Nat} {t : Task} (hk : l[k]? = some t) (r : Req) : (l.set k ⟨t.n, r⟩).map Task.n = l.map Task.n := by
 apply List.ext_getElem?
 intro j
 rw [List.getElem?_map, List.getElem?_map, List.getElem?_set]
 split
 ·rename_i e
  subst e
  have hl := (List.getElem?_eq_some_iff.1 hk).1
  rw [if_pos hl, hk]; rfl
 ·rfl
theorem up_map {l : List Task} : (l.Pairwise fun a b => a.n < b.n) ↔ (l.map Task.n).Pairwise (· < ·) := List.pairwise_map.symm
theorem OkPl.pick {p : Pool} (h : OkPl p) {s : Side} (hs : OkD s) (draw : Int) : OkPl (zgw p s draw).1 ∧ OkD (zgw p s draw).2.1 ∧ (∀ g ∈ (zgw p s draw).2.2.1, OkFrame g) ∧ (zgw p s draw).2.2.1.length ≤ 1 := by
 unfold zgw
 split
 ·exact ⟨h, hs, by simp, by simp⟩
 rename_i t ht
 have hm : t ∈ p.tasks := List.mem_of_getElem? ht
 have hp := h.p
 obtain ⟨r1, r2⟩ := qks t.r s
 have hw := OkWk.stepR t.r hs
 have hn := hp.rt t hm
 have hat := h.a t hm
 dsimp only
 generalize zgi t.r s = w at *
 split
 ·rename_i hr
  have e := qrt ht w.r
  have hmem : ∀ x ∈ p.tasks.set (pickAt p draw) ⟨t.n, w.r⟩, x ∈ p.tasks ∨ x = ⟨t.n, w.r⟩ := fun x hx => List.mem_or_eq_of_mem_set hx
  refine ⟨⟨⟨hp.n0, hp.n1, by simpa using hp.lt, hp.ld, ?_, hp.nd, ?_, ?_, hp.rd, ?_, hp.over⟩, ?_⟩, hw.s, hw.t, hw.l⟩
  ·rw [up_map]; simp only; rw [e]; exact up_map.1 hp.up
  ·intro x hx d hd
   rcases hmem x hx with g | g
   ·exact hp.ap x g d hd
   ·subst g; exact hp.ap t hm d hd
  ·intro x hx
   rcases hmem x hx with g | g
   ·exact hp.rt x g
   ·subst g; exact hn
  ·intro x hx
   rcases hmem x hx with g | g
   ·exact hp.run x g
   ·subst g; exact ⟨r1, hr⟩
  ·intro x hx
   rcases hmem x hx with g | g
   ·exact h.a x g
   ·subst g; simp only [r2]; exact hat
 ·rename_i hr
  have hsub : (p.tasks.eraseIdx (pickAt p draw)).Sublist p.tasks := List.eraseIdx_sublist ..
  have hin : ∀ x ∈ p.tasks.eraseIdx (pickAt p draw), x ∈ p.tasks := fun x hx => hsub.subset hx
  have hne : ∀ x ∈ p.tasks.eraseIdx (pickAt p draw), x.n ≠ t.n := by
   intro x hx e
   obtain ⟨j, hj, hj2⟩ := List.mem_eraseIdx_iff_getElem?.1 hx
   have hnd := zqg hp.up
   have a1 : (p.tasks.map Task.n)[j]? = some t.n := by rw [List.getElem?_map, hj2]; simp [e]
   have a2 : (p.tasks.map Task.n)[pickAt p draw]? = some t.n := by rw [List.getElem?_map, ht]; rfl
   have hj3 := (List.getElem?_eq_some_iff.1 a1).1
   exact hj ((List.getElem?_inj hj3 hnd).1 (a1.trans a2.symm))
  have hdm : ∀ x ∈ zvi p.done ⟨t.n, w.r⟩, x ∈ p.done ∨ x = ⟨t.n, w.r⟩ := by
   intro x hx
   rcases List.mem_append.1 hx with g | g
   ·exact .inl (List.mem_of_mem_drop g)
   ·exact .inr (by simpa using g)
  refine ⟨⟨⟨hp.n0, hp.n1, Nat.le_trans hsub.length_le hp.lt, ?_, hp.up.sublist hsub, ?_, ?_, fun x hx => hp.rt x (hin x hx), ?_, fun x hx => hp.run x (hin x hx), ?_⟩, fun x hx => h.a x (hin x hx)⟩, hw.s, hw.t, hw.l⟩
  ·simp only [zvi, List.length_append, List.length_drop, List.length_singleton]; omega
  ·simp only [zvi, List.map_append, List.map_cons, List.map_nil, List.map_drop]
   rw [List.nodup_append]
   refine ⟨hp.nd.sublist (List.drop_sublist _ _), by simp, ?_⟩
   intro a ha b hb e
   simp only [List.mem_singleton] at hb
   subst hb
   subst e
   obtain ⟨d, hd, hd2⟩ := List.mem_map.1 (List.mem_of_mem_drop ha)
   exact hp.ap t hm d hd hd2.symm
  ·intro x hx d hd
   rcases hdm d hd with g | g
   ·exact hp.ap x (hin x hx) d g
   ·subst g; exact hne x hx
  ·intro x hx
   rcases hdm x hx with g | g
   ·exact hp.rd x g
   ·subst g; exact hn
  ·intro x hx
   rcases hdm x hx with g | g
   ·exact hp.over x g
   ·subst g; simpa using hr
structure FLk where
 epoch : Int
 q : List Frame
def rlk (l : FLk) : RLk := ⟨l.epoch, l.q.map zhw⟩
structure OkL (l : FLk) : Prop where
 e0 : 0 ≤ l.epoch
 e1 : l.epoch ≤ 2147483647
 len : l.q.length ≤ 32
 q : ∀ f ∈ l.q, zas f = 0
theorem qdd (n : Int) : numB n ≠ [] := by
 unfold numB numF; split <;> simp
theorem zrw {f : Frame} (h : zas f = 0) : (zhw f).length ≤ 99100 := by
 have h1 := zl2 (frameE_zero.1 h)
 have h2 := zad (putB f).length
 unfold zhw zmc
 simp only [List.length_append]
 omega
theorem qls (f : Frame) : putB f ≠ [] := by
 unfold putB
 intro e
 simp only [List.append_eq_nil_iff] at e
 exact qdd _ e.1.1
theorem zwr (f : Frame) : zhw f ≠ [] := by
 unfold zhw zmc
 intro e
 simp only [List.append_eq_nil_iff] at e
 exact qdd _ e.1
theorem OkL.lk {l : FLk} (h : OkL l) : OkLk (rlk l) := ⟨by have := h.len; simp [rlk]; omega, by
 intro b hb
 obtain ⟨f, hf, rfl⟩ := List.mem_map.1 hb
 exact ⟨zwr f, by have := zrw (h.q f hf); omega⟩⟩
theorem OkL.sound {l : FLk} (h : OkL l) : zcf (rlk l) = rlk l := zsc (saneK_iff.2 ⟨⟨h.e0, h.e1⟩, by simpa [rlk] using h.len⟩)
def zgn (l : FLk) (f : Frame) : FLk × Int := if ¬ zas f = 0 then (l, zas f) else if 32 ≤ l.q.length then (l, 8) else (⟨l.epoch, l.q ++ [f]⟩, 0)
def zap (z : FLk × Int) (f : Frame) : FLk × Int := if (zgn z.1 f).2 = 0 then ((zgn z.1 f).1, z.2) else (z.1, z.2 + 1)
def zee (l : FLk) (lost : Int) (fs : List Frame) : FLk × Int := fs.foldl zap (l, lost)
theorem OkL.sent {l : FLk} (h : OkL l) (f : Frame) : OkL (zgn l f).1 := by
 unfold zgn
 split
 ·exact h
 rename_i he
 split
 ·exact h
 ·rename_i hl
  refine ⟨h.e0, h.e1, by simp; omega, ?_⟩
  intro g hg
  rcases List.mem_append.1 hg with g' | g'
  ·exact h.q g g'
  ·simp only [List.mem_singleton] at g'; subst g'; exact Decidable.not_not.1 he
theorem OkL.step {z : FLk × Int} (h : OkL z.1) (f : Frame) : OkL (zap z f).1 := by
 unfold zap; split
 ·exact h.sent f
 ·exact h
theorem zmp : ∀ (fs : List Frame) {z : FLk × Int}, OkL z.1 → OkL (fs.foldl zap z).1 ∧ z.2 ≤ (fs.foldl zap z).2 ∧ (fs.foldl zap z).2 ≤ z.2 + fs.length
 | [], z, h => ⟨h, Int.le_refl _, by simp⟩
 | f :: fs, z, h => by
   have := zmp fs (h.step f)
   have h2 : z.2 ≤ (zap z f).2 ∧ (zap z f).2 ≤ z.2 + 1 := by unfold zap; split <;> simp <;> omega
   refine ⟨this.1, ?_, ?_⟩
   ·exact Int.le_trans h2.1 this.2.1
   ·have := this.2.2; simp only [List.foldl_cons, List.length_cons]; omega
theorem OkL.send {l : FLk} (h : OkL l) (lost : Int) (fs : List Frame) : OkL (zee l lost fs).1 := (zmp fs (z := (l, lost)) h).1
theorem zfd {l : FLk} (h : OkL l) (lost : Int) (fs : List Frame) : lost ≤ (zee l lost fs).2 ∧ (zee l lost fs).2 ≤ lost + fs.length := (zmp fs (z := (l, lost)) h).2
def zgu (l : FLk) (i : Int) : Nat := ((max 0 i).tmod l.q.length).toNat
def zcs (l : FLk) (i : Int) : FLk × Frame × Int := if l.q = [] then (l, zFrame, 10) else (⟨l.epoch, l.q.take (zgu l i) ++ l.q.drop (zgu l i + 1)⟩, l.q.getD (zgu l i) zFrame, 0)
def qq7 (l : FLk) (i : Int) : FLk × Int := ((zcs l i).1, (zcs l i).2.2)
def qfl (l : FLk) (i : Int) : FLk × Int := if l.q = [] then (l, 10) else if 32 ≤ l.q.length then (l, 8) else (⟨l.epoch, l.q ++ [l.q.getD (zgu l i) zFrame]⟩, 0)
def qmv (l : FLk) (i : Int) : FLk × Int := if l.q = [] then (l, 10) else (⟨l.epoch, (zcs l i).1.q ++ [(zcs l i).2.1]⟩, 0)
theorem zsr (l : FLk) (i : Int) : placeK (rlk l) i = zgu l i := by simp [placeK, zgu, rlk]
theorem zjc {l : FLk} (i : Int) (h : l.q ≠ []) : zgu l i < l.q.length := by
 rw [← zsr]
 have := zss (l := rlk l) i (by simpa [rlk] using h)
 simpa [rlk] using this
theorem rlk_nil {l : FLk} : (rlk l).q = [] ↔ l.q = [] := by simp [rlk]
theorem qeo (l : List Frame) (k : Nat) (h : k < l.length) : (l.map zhw).getD k [] = zhw (l.getD k zFrame) := by
 simp [List.getD, h]
theorem qa8 {l : FLk} (h : OkL l) (i : Int) : zy0 (rlk l) i = (rlk (zcs l i).1, if l.q = [] then [] else zhw (zcs l i).2.1, (zcs l i).2.2) := by
 unfold zy0
 rw [h.sound]
 unfold zoo zcs
 by_cases hq : l.q = []
 ·rw [if_pos (rlk_nil.2 hq), if_pos hq, if_pos hq]
 ·rw [if_neg (fun e => hq (rlk_nil.1 e)), if_neg hq, if_neg hq, zsr]
  simp only [rlk]
  rw [qeo _ _ (zjc i hq)]
  simp
theorem OkL.take {l : FLk} (h : OkL l) (i : Int) : OkL (zcs l i).1 ∧ ((zcs l i).2.2 = 0 → zas (zcs l i).2.1 = 0) := by
 unfold zcs
 by_cases hq : l.q = []
 ·rw [if_pos hq]; exact ⟨h, by simp⟩
 ·rw [if_neg hq]
  have hk := zjc i hq
  refine ⟨⟨h.e0, h.e1, by have := h.len; simp; omega, ?_⟩, fun _ => ?_⟩
  ·intro f hf
   rcases List.mem_append.1 hf with g | g
   ·exact h.q f (List.mem_of_mem_take g)
   ·exact h.q f (List.mem_of_mem_drop g)
  ·have : l.q.getD (zgu l i) zFrame = l.q[zgu l i] := by simp [hk]
   simp only
   rw [this]; exact h.q _ (List.getElem_mem hk)
theorem qf0 {l : FLk} (i : Int) (hq : l.q ≠ []) : (zcs l i).1.q.length + 1 = l.q.length := by
 have hk := zjc i hq
 unfold zcs
 rw [if_neg hq]
 simp; omega
theorem OkL.drop {l : FLk} (h : OkL l) (i : Int) : OkL (qq7 l i).1 := (h.take i).1
theorem OkL.again {l : FLk} (h : OkL l) (i : Int) : OkL (qfl l i).1 := by
 unfold qfl
 split
 ·exact h
 rename_i hq
 split
 ·exact h
 ·have hk := zjc i hq
  refine ⟨h.e0, h.e1, by simp; omega, ?_⟩
  intro f hf
  rcases List.mem_append.1 hf with g | g
  ·exact h.q f g
  ·simp only [List.mem_singleton] at g; subst g
   have : l.q.getD (zgu l i) zFrame = l.q[zgu l i] := by simp [hk]
   rw [this]; exact h.q _ (List.getElem_mem hk)
theorem OkL.late {l : FLk} (h : OkL l) (i : Int) : OkL (qmv l i).1 := by
 unfold qmv
 split
 ·exact h
 rename_i hq
 have ht := h.take i
 have hl := qf0 i hq
 have hh := h.len
 refine ⟨h.e0, h.e1, by simp; omega, ?_⟩
 intro f hf
 rcases List.mem_append.1 hf with g | g
 ·exact ht.1.q f g
 ·simp only [List.mem_singleton] at g; subst g
  exact ht.2 (by unfold zcs; rw [if_neg hq])
theorem OkL.fresh {l : FLk} (h : OkL l) (hm : ¬ l.epoch = 2147483647) : OkL ⟨l.epoch + 1, []⟩ := ⟨by have := h.e0; simp only; omega, by have := h.e1; simp only; omega, by simp, by simp⟩
variable {n : Node} {p : Store}
def txtC (f : Frame) : List D := txC (zhw f)
@[simp] theorem lenAll_txt (l : List Frame) : zax (l.map txtC) 1 = True := zav (f := txtC) (n := 1) (fun _ => rfl) l
@[simp] def flkC (l : FLk) : List D := [iD l.epoch, lD (l.q.map txtC)]
theorem zkh (l : FLk) : rlkC (rlk l) = flkC l := by simp [rlk, txtC, Function.comp_def]
structure Node where
 side : Side
 sess : Sess
 up : FLk
 dn : FLk
 pool : Pool
@[simp] def qdh (n : Node) : List D := zcc n.side ++ zed n.sess ++ flkC n.up ++ flkC n.dn ++ zn9 n.pool
structure Cfg where
 sides : Int
 cap : Int
 limit : Int
 max : Int
@[simp] def cfgC (c : Cfg) : List D := [iD c.sides, iD c.cap, iD c.limit, iD c.max]
structure MStep where
 kind : Int
 side : Int
 way : Int
 n : Int
 adds : List Res
 gone : List Key
 a : Ask
@[simp] def zbv (s : MStep) : List D := [iD s.kind, iD s.side, iD s.way, iD s.n, lD (s.adds.map resC), lD (s.gone.map keyC)] ++ askC s.a
structure MOut where
 e : Int
 n : Int
 ans : Ans
 l : List Int
 keys : List Key
@[simp] def zen (o : MOut) : List D := [iD o.e, iD o.n] ++ ansC o.ans ++ [lD (o.l.map intC), lD (o.keys.map keyC)]
def outE (e : Int) : MOut := ⟨e, 0, zAns, [], []⟩
def outN (n : Int) : MOut := ⟨0, n, zAns, [], []⟩
structure OkN (n : Node) : Prop where
 d : OkD n.side
 ss : zct n.sess = true
 so : OkSess n.sess
 up : OkL n.up
 dn : OkL n.dn
 pl : OkPl n.pool
def zb7 (mx lost : Int) (n : Node) : Node × Int × Int :=
 if n.up.epoch = 2147483647 ∨ n.dn.epoch = 2147483647 then (n, lost, 14) else
 let c := zbk n.side (n.up.epoch + 1)
 let u := zee ⟨n.up.epoch + 1, []⟩ lost c.2.1
 (⟨c.1, zbz (n.up.epoch + 1) mx, u.1, ⟨n.dn.epoch + 1, []⟩, n.pool⟩, u.2, c.2.2)
def zgt (mx : Int) (p : Store) (lost : Int) (n : Node) : Node × Int × Int :=
 let s := pump n.sess p
 let d := zee n.dn lost s.2.1
 let m : Node := { n with sess := s.1, dn := d.1 }
 if s.2.2 = 0 then (m, d.2, 0) else ((zb7 mx d.2 m).1, (zb7 mx d.2 m).2.1, s.2.2)
theorem OkSess.new (e m : Int) : OkSess (zbz e m) := ⟨zwo⟩
theorem OkN.renew (h : OkN n) (mx lost : Int) : OkN (zb7 mx lost n).1 ∧ lost ≤ (zb7 mx lost n).2.1 ∧ (zb7 mx lost n).2.1 ≤ lost + 2 := by
 unfold zb7
 split
 ·exact ⟨h, by simp, by simp only; omega⟩
 ·rename_i he
  have c := h.d.connect (n.up.epoch + 1)
  have u := h.up.fresh (by omega)
  dsimp only
  have l := zfd u lost (zbk n.side (n.up.epoch + 1)).2.1
  exact ⟨⟨c.1, zgo _ _, .new _ _, u.send _ _, h.dn.fresh (by omega), h.pl⟩, l.1, by have := c.2.2; omega⟩
theorem OkN.pump (h : OkN n) (mx : Int) (hp : sanS p = true) (lost : Int) : OkN (zgt mx p lost n).1 ∧ lost ≤ (zgt mx p lost n).2.1 ∧ (zgt mx p lost n).2.1 ≤ lost + 3 := by
 obtain ⟨p1, p2, p3, p4, _⟩ := zxd h.ss h.so hp
 have l := zfd h.dn lost (Go.G.pump n.sess p).2.1
 have hm : OkN { n with sess := (Go.G.pump n.sess p).1, dn := (zee n.dn lost (Go.G.pump n.sess p).2.1).1 } := ⟨h.d, p1, p2, h.up, h.dn.send _ _, h.pl⟩
 unfold zgt
 dsimp only
 split
 ·exact ⟨hm, l.1, by simp only; omega⟩
 ·have r := hm.renew mx (zee n.dn lost (Go.G.pump n.sess p).2.1).2
  exact ⟨r.1, by simp only; omega, by simp only; omega⟩
def wayN (n : Node) (w : Int) : FLk := if w = 0 then n.up else n.dn
def setW (n : Node) (w : Int) (l : FLk) : Node := if w = 0 then { n with up := l } else { n with dn := l }
theorem OkN.way (h : OkN n) (w : Int) : OkL (wayN n w) := by unfold wayN; split; exact h.up; exact h.dn
theorem OkN.set (h : OkN n) (w : Int) {l : FLk} (hl : OkL l) : OkN (setW n w l) := by
 unfold setW; split
 ·exact ⟨h.d, h.ss, h.so, hl, h.dn, h.pl⟩
 ·exact ⟨h.d, h.ss, h.so, h.up, hl, h.pl⟩
abbrev NR := Node × Int × MOut
def zc2 (mx : Int) (p : Store) (lost : Int) (n : Node) (s : MStep) : NR :=
 let t := zcs (wayN n s.way) s.n
 let m := setW n s.way t.1
 if ¬ t.2.2 = 0 then (m, lost, outE t.2.2) else
 if s.way = 1 then
  let r := zmo m.side t.2.1
  let u := zee m.up lost r.2.1
  ({ m with side := r.1, up := u.1 }, u.2, outE r.2.2)
 else
  let r := handle m.sess p t.2.1
  let k : Node := { m with sess := r.1 }
  if ¬ r.2 = 0 then (k, lost, outE r.2) else ((zgt mx p lost k).1, (zgt mx p lost k).2.1, outE (zgt mx p lost k).2.2)
def zqy (f : FLk → Int → FLk × Int) (lost : Int) (n : Node) (s : MStep) : NR := (setW n s.way (f (wayN n s.way) s.n).1, lost, outE (f (wayN n s.way) s.n).2)
def zf9 (lost : Int) (n : Node) (s : MStep) : NR := ({ n with pool := (zgj n.pool s.a).1 }, lost, ⟨(zgj n.pool s.a).2.2, (zgj n.pool s.a).2.1, zAns, [], []⟩)
def zoc (lost : Int) (n : Node) (s : MStep) : NR :=
 let r := zgw n.pool n.side s.n
 let u := zee n.up lost r.2.2.1
 ({ n with pool := r.1, side := r.2.1, up := u.1 }, u.2,
   if ¬ r.2.2.2 = 0 ∨ r.1.tasks.length = n.pool.tasks.length then outE r.2.2.2 else match r.1.done.getLast? with
    | some x => ⟨0, x.n, x.r.out, [], []⟩
    | none => outE 0)
def yesI (b : Bool) : Int := if b then 1 else 0
def qki (p : Store) (lost : Int) (n : Node) : NR :=
 (n, lost, ⟨0, 0, zAns, [nowI p, n.side.epoch, yesI (qjd n.side).isSome, n.pool.tasks.length, n.pool.done.length, yesI (zi5 n.sess p), n.up.q.length, n.dn.q.length, lost], (((qjd n.side).map (·.l)).getD []).map Res.key⟩)
def zcb (mx : Int) (p : Store) (lost : Int) (n : Node) (s : MStep) : NR :=
 if s.kind = 1 then zc2 mx p lost n s else if s.kind = 2 then zqy qq7 lost n s else if s.kind = 3 then zqy qfl lost n s else if s.kind = 4 then zqy qmv lost n s
 else if s.kind = 5 then ((zb7 mx lost n).1, (zb7 mx lost n).2.1, outE (zb7 mx lost n).2.2) else if s.kind = 7 then zf9 lost n s else if s.kind = 8 then zoc lost n s else qki p lost n
theorem OkN.bring (h : OkN n) (mx : Int) (hp : sanS p = true) (lost : Int) (s : MStep) : OkN (zc2 mx p lost n s).1 ∧ lost ≤ (zc2 mx p lost n s).2.1 ∧ (zc2 mx p lost n s).2.1 ≤ lost + 3 := by
 have t := (h.way s.way).take s.n
 have m := h.set s.way t.1
 unfold zc2
 dsimp only
 split
 ·exact ⟨m, by simp, by simp only; omega⟩
 split
 ·have r := m.d.side (zcs (wayN n s.way) s.n).2.1
  have l := zfd m.up lost (zmo (setW n s.way (zcs (wayN n s.way) s.n).1).side (zcs (wayN n s.way) s.n).2.1).2.1
  exact ⟨⟨r.1, m.ss, m.so, m.up.send _ _, m.dn, m.pl⟩, l.1, by have := r.2.2; simp only; omega⟩
 ·have k : OkN { (setW n s.way (zcs (wayN n s.way) s.n).1) with sess := (handle (setW n s.way (zcs (wayN n s.way) s.n).1).sess p (zcs (wayN n s.way) s.n).2.1).1 } := ⟨m.d, ziu p _ m.ss, zpc _ m.ss m.so hp, m.up, m.dn, m.pl⟩
  split
  ·exact ⟨k, by simp, by simp only; omega⟩
  ·exact k.pump mx hp lost
theorem OkN.single (h : OkN n) (mx : Int) (hp : sanS p = true) (lost : Int) {s : MStep} (ha : (bs s.a.host).length ≤ 1000000 ∧ (bs s.a.path).length ≤ 1000000) : OkN (zcb mx p lost n s).1 ∧ lost ≤ (zcb mx p lost n s).2.1 ∧ (zcb mx p lost n s).2.1 ≤ lost + 3 := by
 unfold zcb
 split
 ·exact h.bring mx hp lost s
 split
 ·exact ⟨h.set _ ((h.way _).drop _), by simp [zqy], by simp only [zqy]; omega⟩
 split
 ·exact ⟨h.set _ ((h.way _).again _), by simp [zqy], by simp only [zqy]; omega⟩
 split
 ·exact ⟨h.set _ ((h.way _).late _), by simp [zqy], by simp only [zqy]; omega⟩
 split
 ·have r := h.renew mx lost; exact ⟨r.1, by simp only; omega, by simp only; omega⟩
 split
 ·exact ⟨⟨h.d, h.ss, h.so, h.up, h.dn, h.pl.start ha⟩, by simp [zf9], by simp only [zf9]; omega⟩
 split
 ·obtain ⟨k1, k2, k3, k4⟩ := h.pl.pick h.d s.n
  have l := zfd h.up lost (zgw n.pool n.side s.n).2.2.1
  exact ⟨⟨k2, h.ss, h.so, h.up.send _ _, h.dn, k1⟩, l.1, by simp only [zoc]; omega⟩
 ·exact ⟨h, by simp [qki], by simp only [qki]; omega⟩
end Go.G
namespace Go.G
open Go.AI
theorem ok_store {p : Store} (hp : sanS p = true) : OkStore p := by
 have hh := (zb3 p).1 hp
 refine ⟨by have := hh.2.1; omega, fun l hl => ?_⟩
 obtain ⟨i, hi⟩ := List.mem_iff_getElem?.1 hl
 have hc : 0 ≤ p.cap := by rw [hh.1]; exact (zl8 _).1
 exact qjj (hh.2.2.acc hc hi).tab
theorem qa9 {l : FLk} {i : Int} (h : (zcs l i).2.2 = 0) : l.q ≠ [] := by
 intro e
 unfold zcs at h
 rw [if_pos e] at h
 exact absurd h (by simp)
theorem qcy {p : Pool} {s : Side} {draw : Int} (h : ¬ (zgw p s draw).1.tasks.length = p.tasks.length) : ∃ i x, (zgw p s draw).1.done = i ++ [x] := by
 unfold zgw at h ⊢
 split at h
 ·exact absurd rfl h
 ·rename_i t ht
  dsimp only at h ⊢
  split at h
  ·exact absurd (by simp) h
  ·rename_i hr
   rw [if_neg hr]
   exact ⟨_, _, rfl⟩
structure Mesh where
 c : Cfg
 p : Store
 ns : List Node
 lost : Int
def zda (c : Cfg) : Node := ⟨newX c.limit c.max, zbz 0 c.max, ⟨0, []⟩, ⟨0, []⟩, zPool⟩
def qbt (c : Cfg) : Nat := (max 1 (min c.sides 4)).toNat
def newM (c : Cfg) : Mesh := ⟨c, newS c.cap, List.replicate (qbt c) (zda c), 0⟩
def zcd (mx : Int) (p : Store) : List Node → Int → Int → List Node × Int × Int
 | [], lost, e => ([], lost, e)
 | n :: l, lost, e =>
   let r := zgt mx p lost n
   let q := zcd mx p l r.2.1 (if e = 0 then r.2.2 else e)
   (r.1 :: q.1, q.2)
def zic (M : Mesh) (s : MStep) : Mesh × MOut :=
 let p := zqa M.p s.adds s.gone
 let e := zh0 M.p s.adds s.gone
 if ¬ e = 0 then (⟨M.c, p, M.ns, M.lost⟩, outE e) else
 let q := zcd M.c.max p M.ns M.lost 0
 (⟨M.c, p, q.1, q.2.1⟩, ⟨q.2.2, nowI p, zAns, [], []⟩)
def zc6 : List Node → Int → Int → List Node × Int × Int
 | [], lost, k => ([], lost, k)
 | n :: l, lost, k =>
   let d := zee n.dn lost (zgr n.sess)
   let q := zc6 l d.2 (k + (zgr n.sess).length)
   ({ n with dn := d.1 } :: q.1, q.2)
def qa6 (M : Mesh) : Mesh × MOut :=
 let q := zc6 M.ns M.lost 0
 (⟨M.c, M.p, q.1, q.2.1⟩, outN q.2.2)
def zxo (l : List Node) (i : Int) : Option Node := if 0 ≤ i then l[i.toNat]? else none
def zc7 (M : Mesh) (s : MStep) : Mesh × MOut :=
 if M.ns = [] then (M, outE 15) else if ¬ (0 ≤ s.kind ∧ s.kind ≤ 9) then (M, outE 4) else
 if s.kind = 0 then zic M s else if s.kind = 6 then qa6 M else
 match zxo M.ns s.side with
 | none => (M, outE 10)
 | some n =>
   if s.kind ≤ 4 ∧ (s.way < 0 ∨ 2 ≤ s.way) then (M, outE 10) else
   let r := zcb M.c.max M.p M.lost n s
   (⟨M.c, M.p, M.ns.set s.side.toNat r.1, r.2.1⟩, r.2.2)
def qm7 (n : Node) : Bool := decide (n.up.q.length + n.dn.q.length + n.pool.tasks.length = 0)
def zp2 (M : Mesh) : Bool := !decide (M.ns = []) && M.ns.all fun n => qm7 n && zi5 n.sess M.p
structure OkSt (s : MStep) : Prop where
 a : (bs s.a.host).length ≤ 1000000 ∧ (bs s.a.path).length ≤ 1000000
 adds : s.adds.length ≤ 1000
 gone : s.gone.length ≤ 1000
structure OkM (M : Mesh) (B : Int) : Prop where
 n1 : 1 ≤ M.ns.length
 n4 : M.ns.length ≤ 4
 ok : ∀ n ∈ M.ns, OkN n
 p : sanS M.p = true
 l0 : 0 ≤ M.lost
 l1 : M.lost ≤ B
theorem OkN.new (c : Cfg) : OkN (zda c) := ⟨.new _ _, zgo _ _, .new _ _, ⟨by simp [zda], by simp [zda], by simp [zda], by simp [zda]⟩, ⟨by simp [zda], by simp [zda], by simp [zda], by simp [zda]⟩, .zero⟩
theorem OkM.new (c : Cfg) : OkM (newM c) 0 := by
 refine ⟨by simp [newM, qbt]; omega, by simp [newM, qbt]; omega, ?_, qgg _, by simp [newM], by simp [newM]⟩
 intro n hn
 have := List.eq_of_mem_replicate hn
 subst this
 exact .new c
theorem zoz (mx : Int) {p : Store} (hp : sanS p = true) : ∀ (l : List Node) (lost e : Int), (∀ n ∈ l, OkN n) → (∀ n ∈ (zcd mx p l lost e).1, OkN n) ∧ (zcd mx p l lost e).1.length = l.length ∧ lost ≤ (zcd mx p l lost e).2.1 ∧ (zcd mx p l lost e).2.1 ≤ lost + 3 * l.length
 | [], lost, e, _ => ⟨by simp [zcd], rfl, by simp [zcd], by simp [zcd]⟩
 | n :: l, lost, e, h => by
   have r := (h n List.mem_cons_self).pump mx hp lost
   have q := zoz mx hp l (zgt mx p lost n).2.1 (if e = 0 then (zgt mx p lost n).2.2 else e) (fun x hx => h x (List.mem_cons_of_mem _ hx))
   refine ⟨?_, ?_, ?_, ?_⟩
   ·intro x hx
    rcases List.mem_cons.1 hx with g | g
    ·subst g; exact r.1
    ·exact q.1 x g
   ·simp only [zcd, List.length_cons]; rw [q.2.1]
   ·simp only [zcd]; omega
   ·simp only [zcd, List.length_cons]; omega
theorem qch {n : Node} (h : OkN n) : (∀ f ∈ zgr n.sess, OkFrame f) ∧ (zgr n.sess).length ≤ 1 := by
 unfold zgr
 rw [zgl h.ss]
 split
 ·exact ⟨fun f hf => by simp only [List.mem_singleton] at hf; subst hf; exact h.so.v.push, by simp⟩
 ·exact ⟨by simp, by simp⟩
theorem zom : ∀ (l : List Node) (lost k : Int), (∀ n ∈ l, OkN n) → (∀ n ∈ (zc6 l lost k).1, OkN n) ∧ (zc6 l lost k).1.length = l.length ∧ lost ≤ (zc6 l lost k).2.1 ∧ (zc6 l lost k).2.1 ≤ lost + l.length
 | [], lost, k, _ => ⟨by simp [zc6], rfl, by simp [zc6], by simp [zc6]⟩
 | n :: l, lost, k, h => by
   have hn := h n List.mem_cons_self
   have f := qch hn
   have d := zfd hn.dn lost (zgr n.sess)
   have q := zom l (zee n.dn lost (zgr n.sess)).2 (k + (zgr n.sess).length) (fun x hx => h x (List.mem_cons_of_mem _ hx))
   refine ⟨?_, ?_, ?_, ?_⟩
   ·intro x hx
    rcases List.mem_cons.1 hx with g | g
    ·subst g; exact ⟨hn.d, hn.ss, hn.so, hn.up, hn.dn.send _ _, hn.pl⟩
    ·exact q.1 x g
   ·simp only [zc6, List.length_cons]; rw [q.2.1]
   ·simp only [zc6]; omega
   ·simp only [zc6, List.length_cons]; omega
theorem zzq {l : List Node} {i : Int} {n : Node} (h : zxo l i = some n) : n ∈ l ∧ 0 ≤ i ∧ i.toNat < l.length ∧ l[i.toNat]? = some n := by
 unfold zxo at h
 split at h
 ·exact ⟨List.mem_of_getElem? h, ‹_›, (List.getElem?_eq_some_iff.1 h).1, h⟩
 ·cases h
theorem OkM.step {M : Mesh} {B : Int} (h : OkM M B) {s : MStep} (hs : OkSt s) : OkM (zc7 M s).1 (B + 12) := by
 have h4 := h.n4
 have l0 := h.l0
 have l1 := h.l1
 have same : OkM M (B + 12) := ⟨h.n1, h.n4, h.ok, h.p, h.l0, by omega⟩
 unfold zc7
 split
 ·exact same
 split
 ·exact same
 split
 ·have hp := zr7 h.p s.adds s.gone
  unfold zic
  dsimp only
  split
  ·exact ⟨h.n1, h.n4, h.ok, hp, h.l0, by simp only; omega⟩
  ·have q := zoz M.c.max hp M.ns M.lost 0 h.ok
   exact ⟨by simp only; rw [q.2.1]; exact h.n1, by simp only; rw [q.2.1]; exact h.n4, q.1, hp, by simp only; omega, by simp only; omega⟩
 split
 ·have q := zom M.ns M.lost 0 h.ok
  exact ⟨by simp only [qa6]; rw [q.2.1]; exact h.n1, by simp only [qa6]; rw [q.2.1]; exact h.n4, q.1, h.p, by simp only [qa6]; omega, by simp only [qa6]; omega⟩
 split
 ·exact same
 ·rename_i n hn
  have hm := zzq hn
  split
  ·exact same
  ·have r := (h.ok n hm.1).single M.c.max h.p M.lost hs.a
   dsimp only
   refine ⟨by simpa using h.n1, by simpa using h.n4, ?_, h.p, by simp only; omega, by simp only; omega⟩
   intro x hx
   rcases List.mem_or_eq_of_mem_set hx with g | g
   ·exact h.ok x g
   ·subst g; exact r.1
def qol : Node := zda ⟨0, 0, 0, 0⟩
def nth (M : Mesh) (i : Nat) : Node := M.ns.getD i qol
theorem zm6 {M : Mesh} {B : Int} (h : OkM M B) {i : Nat} (hi : i < M.ns.length) : OkN (nth M i) := by
 have : nth M i = M.ns[i] := by simp [nth, hi]
 rw [this]; exact h.ok _ (List.getElem_mem hi)
theorem qr8 {α : Type} {l : List α} (z : α) (h : l.length = 1) : l = [l.getD 0 z] := by
 match l, h with
 | [a], _ => rfl
theorem ns1 {M : Mesh} (h : M.ns.length = 1) : M.ns = [nth M 0] := qr8 qol h
@[simp] theorem nth0 (c : Cfg) (p : Store) (a : Node) (l : List Node) (n : Int) : nth ⟨c, p, a :: l, n⟩ 0 = a := rfl
@[simp] theorem nth1 (c : Cfg) (p : Store) (a b : Node) (l : List Node) (n : Int) : nth ⟨c, p, a :: b :: l, n⟩ 1 = b := rfl
@[simp] theorem nth2 (c : Cfg) (p : Store) (a b d : Node) (l : List Node) (n : Int) : nth ⟨c, p, a :: b :: d :: l, n⟩ 2 = d := rfl
@[simp] theorem nth3 (c : Cfg) (p : Store) (a b d e : Node) (l : List Node) (n : Int) : nth ⟨c, p, a :: b :: d :: e :: l, n⟩ 3 = e := rfl
theorem qkp {M : Mesh} {s : MStep} (hn : M.ns ≠ []) (hk : s.kind = 0) : zc7 M s = zic M s := by
 unfold zc7
 rw [if_neg hn, if_neg (by omega), if_pos hk]
theorem zi3 {M : Mesh} {s : MStep} (hk : M.ns.length = 1) (h1 : 1 ≤ s.kind) (h9 : s.kind ≤ 9) (h6 : s.kind ≠ 6) (hs : s.side = 0) (hw : s.kind ≤ 4 → s.way = 0 ∨ s.way = 1) :
  zc7 M s = (⟨M.c, M.p, [(zcb M.c.max M.p M.lost (nth M 0) s).1], (zcb M.c.max M.p M.lost (nth M 0) s).2.1⟩, (zcb M.c.max M.p M.lost (nth M 0) s).2.2) := by
 unfold zc7
 rw [ns1 hk, if_neg (by simp), if_neg (by omega), if_neg (by omega), if_neg h6]
 have e : zxo [nth M 0] s.side = some (nth M 0) := by rw [hs]; rfl
 rw [e]
 simp only
 rw [if_neg (by omega), hs]
 rfl
variable {M : Mesh} {B : Int}
def zc1 (w : Int) : MStep := ⟨1, 0, w, 0, [], [], zAsk⟩
def zcp (M : Mesh) (w : Int) : Nat → Mesh
 | 0 => M
 | k + 1 => (zc7 (zcp M w k) (zc1 w)).1
def znx (M : Mesh) (w : Int) : Mesh := zcp M w (wayN (nth M 0) w).q.length
def qfe (M : Mesh) : Mesh := znx (znx M 0) 1
def zde (M : Mesh) : Nat → Mesh
 | 0 => M
 | n + 1 => qfe (zde M n)
theorem qdb (w : Int) : OkSt (zc1 w) := ⟨by simp [zc1, zAsk], by simp [zc1], by simp [zc1]⟩
theorem zj5 (hk : M.ns.length = 1) (hM : OkM M B) {w : Int} (hw : w = 0 ∨ w = 1) : ∀ k : Nat, (zcp M w k).ns.length = 1 ∧ OkM (zcp M w k) (B + 12 * k)
 | 0 => ⟨hk, by simpa [zcp] using hM⟩
 | k + 1 => by
   have := zj5 hk hM hw k
   refine ⟨?_, ?_⟩
   ·simp only [zcp]
    rw [zi3 this.1 (by simp [zc1]) (by simp [zc1]) (by simp [zc1]) rfl (fun _ => hw)]
    rfl
   ·have h2 := this.2.step (qdb w)
    simp only [zcp]
    have e : B + 12 * ((k + 1 : Nat) : Int) = B + 12 * (k : Int) + 12 := by omega
    rw [e]; exact h2
theorem zux (hk : M.ns.length = 1) (hM : OkM M B) (w : Int) : (wayN (nth M 0) w).q.length ≤ 32 := ((zm6 hM (i := 0) (by omega)).way w).len
theorem OkM.up {B C : Int} (h : OkM M B) (hBC : B ≤ C) : OkM M C := ⟨h.n1, h.n4, h.ok, h.p, h.l0, by have := h.l1; omega⟩
theorem zj4 (hk : M.ns.length = 1) (hM : OkM M B) {w : Int} (hw : w = 0 ∨ w = 1) : (znx M w).ns.length = 1 ∧ OkM (znx M w) (B + 384) := by
 have h := zj5 hk hM hw (wayN (nth M 0) w).q.length
 have hl := zux hk hM w
 exact ⟨h.1, h.2.up (by omega)⟩
theorem qfd (hk : M.ns.length = 1) (hM : OkM M B) : (qfe M).ns.length = 1 ∧ OkM (qfe M) (B + 768) := by
 have h := zj4 hk hM (.inl rfl)
 have h2 := zj4 h.1 h.2 (.inr rfl)
 exact ⟨h2.1, h2.2.up (by omega)⟩
theorem zhr (hk : M.ns.length = 1) (hM : OkM M B) : ∀ n : Nat, (zde M n).ns.length = 1 ∧ OkM (zde M n) (B + 768 * n)
 | 0 => ⟨hk, by simpa [zde] using hM⟩
 | n + 1 => by
   have h := zhr hk hM n
   have h2 := qfd h.1 h.2
   exact ⟨h2.1, h2.2.up (by omega)⟩
end Go.G
namespace Go.G
open Go.AI
theorem zm2 (mx : Int) (p : Store) : ∀ (l : List Node) (lost e : Int), (zcd mx p l lost e).1.length = l.length
 | [], _, _ => rfl
 | _ :: l, _, _ => by simp only [zcd, List.length_cons]; rw [zm2]
theorem zmh : ∀ (l : List Node) (lost k : Int), (zc6 l lost k).1.length = l.length
 | [], _, _ => rfl
 | _ :: l, _, _ => by simp only [zc6, List.length_cons]; rw [zmh]
theorem zlx (M : Mesh) (s : MStep) : (zc7 M s).1.ns.length = M.ns.length := by
 unfold zc7
 split
 ·rfl
 split
 ·rfl
 split
 ·unfold zic
  dsimp only
  split
  ·rfl
  ·exact zm2 _ _ _ _ _
 split
 ·exact zmh _ _ _
 split
 ·rfl
 split
 ·rfl
 ·simp
def smallL : List Res :=
 [⟨0, ⟨#[108]⟩, 0, 80, ⟨#[114]⟩, [], []⟩, ⟨1, ⟨#[114]⟩, 0, 0, ⟨#[]⟩, [⟨⟨#[42]⟩, ⟨#[47]⟩, [⟨⟨#[99]⟩, 1⟩]⟩], []⟩, ⟨2, ⟨#[99]⟩, 0, 0, ⟨#[101]⟩, [], []⟩, ⟨3, ⟨#[101]⟩, 0, 0, ⟨#[]⟩, [], [7]⟩]
def sRen : MStep := ⟨5, 0, 0, 0, [], [], zAsk⟩
def sUpd : MStep := ⟨0, 0, 0, 0, smallL, [], zAsk⟩
def sBeg : MStep := ⟨7, 0, 0, 0, [], [], ⟨80, ⟨#[104]⟩, ⟨#[47]⟩, 0, 0⟩⟩
def sGo : MStep := ⟨8, 0, 0, 0, [], [], zAsk⟩
def aM0 : Mesh := newM ⟨1, 9, 9, 99⟩
def aM1 : Mesh := (zc7 aM0 sRen).1
def aM2 : Mesh := (zc7 aM1 sUpd).1
def aM3 : Mesh := zde aM2 8
def aM4 : Mesh := (zc7 aM3 sBeg).1
def aG : Nat → Mesh
 | 0 => aM4
 | k + 1 => (zc7 (aG k) sGo).1
def aO : Nat → MOut
 | 0 => outE 0
 | k + 1 => (zc7 (aG k) sGo).2
theorem qpq : OkSt sRen := ⟨by simp [sRen, zAsk], by simp [sRen], by simp [sRen]⟩
theorem qji : OkSt sUpd := ⟨by simp [sUpd, zAsk], by simp [sUpd, smallL], by simp [sUpd]⟩
theorem qpx : OkSt sBeg := ⟨by decide +kernel, by simp [sBeg], by simp [sBeg]⟩
theorem qr4 : OkSt sGo := ⟨by simp [sGo, zAsk], by simp [sGo], by simp [sGo]⟩
theorem len0 : aM0.ns.length = 1 := rfl
theorem okA0 : OkM aM0 0 := .new _
theorem len1 : aM1.ns.length = 1 := (zlx _ _).trans len0
theorem okA1 : OkM aM1 12 := (okA0.step qpq).up (by omega)
theorem len2 : aM2.ns.length = 1 := (zlx _ _).trans len1
theorem okA2 : OkM aM2 24 := (okA1.step qji).up (by omega)
theorem len3 : aM3.ns.length = 1 := (zhr len2 okA2 8).1
theorem okA3 : OkM aM3 10000 := (zhr len2 okA2 8).2.up (by omega)
theorem len4 : aM4.ns.length = 1 := (zlx _ _).trans len3
theorem okA4 : OkM aM4 10012 := (okA3.step qpx).up (by omega)
theorem lenG : ∀ k, (aG k).ns.length = 1
 | 0 => len4
 | k + 1 => (zlx _ _).trans (lenG k)
theorem okG : ∀ k : Nat, OkM (aG k) (10012 + 12 * k)
 | 0 => okA4.up (by omega)
 | k + 1 => ((okG k).step qr4).up (by omega)
theorem aw2 : (zc7 aM1 sUpd).2.n = 1 := by decide +kernel
theorem aw4 : (zc7 aM3 sBeg).2.n = 1 := by decide +kernel
theorem aw5 : (aO 5).n = 1 ∧ (aO 5).ans = ⟨3, ⟨#[99]⟩, 7⟩ := by decide +kernel
theorem aw6 : zp2 (aG 5) = true := by decide +kernel
def zoh : Side := ⟨0, 0, false, ⟨0, 0, 0, 0, 0⟩, ⟨0, 0, 0, 0⟩, ⟨⟨0, []⟩, false, []⟩, ⟨0, []⟩⟩
def zoi : Sess := ⟨0, false, ⟨0, 0, 0, 0, false, false, false, false, 0⟩, zView, 0, 0⟩
def zjx (s : MStep) : Bool := fewL s.adds && decide (s.gone.length ≤ 80) && decide ((bs s.a.host).length ≤ 100) && decide ((bs s.a.path).length ≤ 100)
def aO2 : MOut := (zc7 aM1 sUpd).2
def aO4 : MOut := (zc7 aM3 sBeg).2
theorem qsr : aO2.n = 1 := aw2
theorem qsq : aO4.n = 1 := aw4
structure OkMA (s : MStep) : Prop where
 adds : OkRs s.adds
 gone : s.gone.length ≤ 9223372036854775807
 host : nB s.a.host
 path : nB s.a.path
end Go.G
