/- Plain: what a line is read as: the event, or the byte where it cannot go on. -/
import Derived.Test.YtdhonbahpcmmnaaDoorLineD
namespace Go.Proofs.YtdhonbahpcmmnaaDoor.Line
open Go Go.RowKit Go.Proofs.YtdhonbahpcmmnaaDoor Go.Proofs.YtdhonbahpcmmnaaDoor.Eng Go.Proofs.YtdhonbahpcmmnaaDoorW.PrintWords
def isAt (s : L) (p : Nat) (c : Nat) : Prop := p < s.length ∧ (gB s p).toNat = c
instance (s : L) (p c : Nat) : Decidable (isAt s p c) := inferInstanceAs (Decidable (_ ∧ _))
def part (s : L) (p : Nat) : L := (s.take (runE inW s p)).drop p
def tagsP (s : L) : Nat → Nat → List (L × L) → Sum (List (L × L) × Nat) Nat
 | k, p, acc =>
  if isAt s p 44 then
   match k with
   | 0 => .inr p
   | k + 1 =>
    if isWord (part s (p + 1)) = false then .inr (p + 1)
    else if ¬ isAt s (runE inW s (p + 1)) 61 then .inr (runE inW s (p + 1))
    else if isWord (part s (runE inW s (p + 1) + 1)) = false then .inr (runE inW s (p + 1) + 1)
    else tagsP s k (runE inW s (runE inW s (p + 1) + 1)) (acc ++ [(part s (p + 1), part s (runE inW s (p + 1) + 1))])
  else .inl (acc, p)
def kindP (c : UInt8) : Int := if c.toNat = 99 then 1 else if c.toNat = 103 then 2 else if c.toNat = 104 then 3 else 0
def timeP (s : L) (ts : List (L × L)) (k v : Int) (p : Nat) : Option Int → Sum Ev Nat
 | none => .inr p
 | some t => if numE s p < s.length then .inr (numE s p) else .inl { name := part s 0, tags := ts, kind := k, value := v, time := t }
def valP (s : L) (ts : List (L × L)) (k : Int) (p : Nat) : Option Int → Sum Ev Nat
 | none => .inr p
 | some v => if ¬ isAt s (numE s p) 32 then .inr (numE s p) else timeP s ts k v (numE s p + 1) (numP s (numE s p + 1) 0 1099511627776)
def restP (s : L) (ts : List (L × L)) (p : Nat) : Sum Ev Nat :=
 if ¬ isAt s p 32 then .inr p
 else if s.length ≤ p + 1 then .inr (p + 1)
 else if kindP (gB s (p + 1)) = 0 then .inr (p + 1)
 else if ¬ isAt s (p + 2) 32 then .inr (p + 2)
 else valP s ts (kindP (gB s (p + 1))) (p + 3) (numP s (p + 3) (-9223372036854775808) 9223372036854775807)
def afterP (s : L) : Sum (List (L × L) × Nat) Nat → Sum Ev Nat
 | .inr p => .inr p
 | .inl x => restP s x.1 x.2
def parseP (s : L) : Sum Ev Nat :=
 if isWord (part s 0) = false then .inr 0
 else afterP s (tagsP s 6 (runE inW s 0) [])
variable {s : L} {ts : List (L × L)} {p : Nat} {k v t : Int}
theorem pp_name (h : isWord (part s 0) = false) : parseP s = .inr 0 := if_pos h
theorem pp_tags (h : isWord (part s 0) = true) : parseP s = afterP s (tagsP s 6 (runE inW s 0) []) := if_neg (by rw [h]; simp)
theorem rp_1 (h : ¬ isAt s p 32) : restP s ts p = .inr p := if_pos h
theorem rp_2 (h : isAt s p 32) (h1 : s.length ≤ p + 1) : restP s ts p = .inr (p + 1) := by
 unfold restP
 rw [if_neg (fun c => c h), if_pos h1]
theorem rp_3 (h : isAt s p 32) (h1 : ¬ s.length ≤ p + 1) (h2 : kindP (gB s (p + 1)) = 0) : restP s ts p = .inr (p + 1) := by
 unfold restP
 rw [if_neg (fun c => c h), if_neg h1, if_pos h2]
theorem rp_4 (h : isAt s p 32) (h1 : ¬ s.length ≤ p + 1) (h2 : kindP (gB s (p + 1)) ≠ 0) (h3 : ¬ isAt s (p + 2) 32) : restP s ts p = .inr (p + 2) := by
 unfold restP
 rw [if_neg (fun c => c h), if_neg h1, if_neg h2, if_pos h3]
theorem rp_5 (h : isAt s p 32) (h1 : ¬ s.length ≤ p + 1) (h2 : kindP (gB s (p + 1)) ≠ 0) (h3 : isAt s (p + 2) 32) : restP s ts p = valP s ts (kindP (gB s (p + 1))) (p + 3) (numP s (p + 3) (-9223372036854775808) 9223372036854775807) := by
 unfold restP
 rw [if_neg (fun c => c h), if_neg h1, if_neg h2, if_neg (fun c => c h3)]
theorem vp_1 (h : ¬ isAt s (numE s p) 32) : valP s ts k p (some v) = .inr (numE s p) := if_pos h
theorem vp_2 (h : isAt s (numE s p) 32) : valP s ts k p (some v) = timeP s ts k v (numE s p + 1) (numP s (numE s p + 1) 0 1099511627776) := if_neg (fun c => c h)
theorem tp_1 (h : numE s p < s.length) : timeP s ts k v p (some t) = .inr (numE s p) := if_pos h
theorem tp_2 (h : ¬ numE s p < s.length) : timeP s ts k v p (some t) = .inl { name := part s 0, tags := ts, kind := k, value := v, time := t } := if_neg h
end Go.Proofs.YtdhonbahpcmmnaaDoor.Line
