/-
  LAYER 13: the plain functions of pushes, answers, and what is taken, with their bounds.
-/
set_option linter.unusedSimpArgs false
set_option linter.unusedVariables false
/-
  The plain functions of layer 13, numbers of pushes: what the program and the reference compute.
-/
namespace Go.Nonce

structure Ou where
  (l0 l1 l2 l3 : Int) (o0 o1 o2 o3 : Bool) (m : Int)
  deriving DecidableEq

structure Nn where
  (l0 l1 l2 l3 m : Int)
  deriving DecidableEq

def bnd (n : Int) : Int := max 1 (min n 2147483647)

def startO (n : Int) : Ou := ⟨0, 0, 0, 0, false, false, false, false, bnd n⟩
def startI (n : Int) : Nn := ⟨0, 0, 0, 0, bnd n⟩

def soundB (i : Nn) : Bool :=
  decide (0 ≤ i.l0) && decide (i.l0 ≤ i.m) && decide (0 ≤ i.l1) && decide (i.l1 ≤ i.m) && decide (0 ≤ i.l2) && decide (i.l2 ≤ i.m) && decide (0 ≤ i.l3) && decide (i.l3 ≤ i.m) && decide (1 ≤ i.m) && decide (i.m ≤ 2147483647)

def Ou.toI (o : Ou) : Nn := ⟨o.l0, o.l1, o.l2, o.l3, o.m⟩

def goodB (o : Ou) : Bool :=
  !(o.o0 && decide (o.l0 = 0)) && !(o.o1 && decide (o.l1 = 0)) && !(o.o2 && decide (o.l2 = 0)) && !(o.o3 && decide (o.l3 = 0)) && soundB o.toI

def outF (o : Ou) : Ou := if goodB o then o else startO o.m
def inF (i : Nn) : Nn := if soundB i then i else startI i.m

def kindB (k : Int) : Bool := decide (0 ≤ k) && decide (k < 4)

def Ou.last (o : Ou) (k : Int) : Int := if k = 0 then o.l0 else if k = 1 then o.l1 else if k = 2 then o.l2 else o.l3
def Ou.open' (o : Ou) (k : Int) : Bool := if k = 0 then o.o0 else if k = 1 then o.o1 else if k = 2 then o.o2 else o.o3
def Ou.set (o : Ou) (k l : Int) (b : Bool) : Ou :=
  if k = 0 then { o with l0 := l, o0 := b } else if k = 1 then { o with l1 := l, o1 := b } else if k = 2 then { o with l2 := l, o2 := b } else { o with l3 := l, o3 := b }
def Nn.last (o : Nn) (k : Int) : Int := if k = 0 then o.l0 else if k = 1 then o.l1 else if k = 2 then o.l2 else o.l3
def Nn.set (o : Nn) (k l : Int) : Nn :=
  if k = 0 then { o with l0 := l } else if k = 1 then { o with l1 := l } else if k = 2 then { o with l2 := l } else { o with l3 := l }

/-- A push at a state that is in order: the state behind it, the number, the error. -/
def pushQ (o : Ou) (k : Int) : Ou × Int × Int :=
  if kindB k = false then (o, 0, 4)
  else if o.open' k then (o, 0, 15)
  else if o.last k = o.m then (o, 0, 14)
  else (o.set k (o.last k + 1) true, o.last k + 1, 0)
def push (o : Ou) (k : Int) : Ou × Int × Int := pushQ (outF o) k

def doneQ (o : Ou) (k n : Int) : Ou × Int :=
  if kindB k = false then (o, 4)
  else if o.open' k = false ∨ n ≠ o.last k then (o, 11)
  else (o.set k (o.last k) false, 0)
def done (o : Ou) (k n : Int) : Ou × Int := doneQ (outF o) k n

def takeQ (i : Nn) (k n : Int) : Nn × Int :=
  if kindB k = false then (i, 4)
  else if n ≠ 0 ∧ n = i.last k then (i, 9)
  else if n ≠ i.last k + 1 ∨ i.m < n then (i, 11)
  else (i.set k n, 0)
def take (i : Nn) (k n : Int) : Nn × Int := takeQ (inF i) k n

theorem soundB_mk (a b c d m : Int) : (soundB ⟨a, b, c, d, m⟩ = true) = (0 ≤ a ∧ a ≤ m ∧ 0 ≤ b ∧ b ≤ m ∧ 0 ≤ c ∧ c ≤ m ∧ 0 ≤ d ∧ d ≤ m ∧ 1 ≤ m ∧ m ≤ 2147483647) := by
  simp [soundB, and_assoc]

theorem bnd_ok (n : Int) : 1 ≤ bnd n ∧ bnd n ≤ 2147483647 := by simp only [bnd]; omega

def Ou.ok (o : Ou) : Prop := (0 ≤ o.l0 ∧ o.l0 ≤ o.m ∧ 0 ≤ o.l1 ∧ o.l1 ≤ o.m ∧ 0 ≤ o.l2 ∧ o.l2 ≤ o.m ∧ 0 ≤ o.l3 ∧ o.l3 ≤ o.m ∧ 1 ≤ o.m ∧ o.m ≤ 2147483647)
def Nn.ok (o : Nn) : Prop := (0 ≤ o.l0 ∧ o.l0 ≤ o.m ∧ 0 ≤ o.l1 ∧ o.l1 ≤ o.m ∧ 0 ≤ o.l2 ∧ o.l2 ≤ o.m ∧ 0 ≤ o.l3 ∧ o.l3 ≤ o.m ∧ 1 ≤ o.m ∧ o.m ≤ 2147483647)

theorem outF_ok (o : Ou) : (outF o).ok := by
  obtain ⟨a, b, c, d, x, y, z, t, m⟩ := o
  simp only [outF]
  by_cases h : goodB ⟨a, b, c, d, x, y, z, t, m⟩ = true
  · rw [if_pos h]
    simp only [goodB, Ou.toI, Bool.and_eq_true, soundB_mk] at h
    exact h.2
  · rw [if_neg h]
    have := bnd_ok m
    simp only [Ou.ok, startO]; omega

theorem inF_ok (o : Nn) : (inF o).ok := by
  obtain ⟨a, b, c, d, m⟩ := o
  simp only [inF]
  by_cases h : soundB ⟨a, b, c, d, m⟩ = true
  · rw [if_pos h]
    rw [soundB_mk] at h
    exact h
  · rw [if_neg h]
    have := bnd_ok m
    simp only [Nn.ok, startI]; omega

theorem kindB_is {k : Int} (h : kindB k = true) : k = 0 ∨ k = 1 ∨ k = 2 ∨ k = 3 := by
  simp only [kindB, Bool.and_eq_true, decide_eq_true_iff] at h; omega

theorem pushQ_keep (o : Ou) (k : Int) : (pushQ o k).1.m = o.m ∧ (k ≠ 0 → (pushQ o k).1.l0 = o.l0 ∧ (pushQ o k).1.o0 = o.o0) ∧ (k ≠ 1 → (pushQ o k).1.l1 = o.l1 ∧ (pushQ o k).1.o1 = o.o1)
    ∧ (k ≠ 2 → (pushQ o k).1.l2 = o.l2 ∧ (pushQ o k).1.o2 = o.o2) ∧ (kindB k = true → k ≠ 3 → (pushQ o k).1.l3 = o.l3 ∧ (pushQ o k).1.o3 = o.o3) := by
  simp only [pushQ]
  by_cases hk : kindB k = true
  · rcases kindB_is hk with rfl | rfl | rfl | rfl <;> simp only [hk, Ou.open', Ou.last, Ou.set] <;> (repeat' split) <;> simp_all
  · simp [hk]

theorem doneQ_keep (o : Ou) (k n : Int) : (doneQ o k n).1.l0 = o.l0 ∧ (doneQ o k n).1.l1 = o.l1 ∧ (doneQ o k n).1.l2 = o.l2 ∧ (doneQ o k n).1.l3 = o.l3 ∧ (doneQ o k n).1.m = o.m ∧ (k ≠ 0 → (doneQ o k n).1.o0 = o.o0)
    ∧ (k ≠ 1 → (doneQ o k n).1.o1 = o.o1) ∧ (k ≠ 2 → (doneQ o k n).1.o2 = o.o2) ∧ (kindB k = true → k ≠ 3 → (doneQ o k n).1.o3 = o.o3) := by
  simp only [doneQ]
  by_cases hk : kindB k = true
  · rcases kindB_is hk with rfl | rfl | rfl | rfl <;> simp only [hk, Ou.open', Ou.last, Ou.set] <;> (repeat' split) <;> simp_all
  · simp [hk]

theorem takeQ_keep (o : Nn) (k n : Int) : (takeQ o k n).1.m = o.m ∧ (k ≠ 0 → (takeQ o k n).1.l0 = o.l0) ∧ (k ≠ 1 → (takeQ o k n).1.l1 = o.l1)
    ∧ (k ≠ 2 → (takeQ o k n).1.l2 = o.l2) ∧ (kindB k = true → k ≠ 3 → (takeQ o k n).1.l3 = o.l3) := by
  simp only [takeQ]
  by_cases hk : kindB k = true
  · rcases kindB_is hk with rfl | rfl | rfl | rfl <;> simp only [hk, Nn.last, Nn.set] <;> (repeat' split) <;> simp_all
  · simp [hk]

end Go.Nonce
