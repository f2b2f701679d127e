/-
  Plain laws: the statements' own times.
-/
import Derived.Test.YtgmdpmhoedjcoaaP
namespace Go.Proofs.Ytgmdpmhoedjcoaa.Pl
/- The statements' own times: rising by small steps. -/
def T (l : List Int) : Nat → Int
  | 0 => 0
  | k + 1 => T l k + l.getD k 0 % 6
theorem T_bound (l : List Int) : ∀ k, 0 ≤ T l k ∧ T l k ≤ 5 * k
  | 0 => by simp [T]
  | k + 1 => by
    have := T_bound l k
    have h1 := Int.emod_nonneg (l.getD k 0) (show (6 : Int) ≠ 0 by omega)
    have h2 := Int.emod_lt_of_pos (l.getD k 0) (show (0 : Int) < 6 by omega)
    simp only [T]; omega
def tms (l : List Int) (k : Nat) : List Int := (List.range k).map fun i => T l (i + 1)
theorem tms_succ (l : List Int) (k : Nat) : tms l (k + 1) = tms l k ++ [T l (k + 1)] := by simp [tms, List.range_succ]
theorem tms_length (l : List Int) (k : Nat) : (tms l k).length = k := by simp [tms]
theorem tms_getD {l : List Int} {k i : Nat} (h : i < k) : (tms l k).getD i 0 = T l (i + 1) := by simp [tms, h]
theorem tms_ok (l : List Int) (k : Nat) (hk : k ≤ 40) : okUpto (tms l k) k = true := by
  unfold okUpto
  rw [List.all_eq_true]
  intro i hi
  have hi : i < k := by simpa using hi
  unfold okAt
  rw [tms_getD hi]
  have hb := T_bound l (i + 1)
  rw [decide_eq_true (by omega), decide_eq_true (by omega)]
  by_cases h0 : i = 0
  · simp [h0]
  · rw [tms_getD (by omega), show i - 1 + 1 = i by omega]
    have h1 := Int.emod_nonneg (l.getD i 0) (show (6 : Int) ≠ 0 by omega)
    rw [decide_eq_true (by simp only [T]; omega)]; simp
def oddOf (n : Int) : Int := if n = 0 then -1 else if n = 1 then 1073741824 else 1073741825
def times (l : List Int) (odd : Int) : List Int :=
  if odd % 8 < 3 ∧ 0 < min l.length 40 then (tms l (min l.length 40)).set (min l.length 40 - 1) (oddOf (odd % 8)) else tms l (min l.length 40)
theorem times_length (l : List Int) (odd : Int) : (times l odd).length = min l.length 40 := by
  unfold times
  split
  · rw [List.length_set, tms_length]
  · rw [tms_length]
theorem times_seven (l : List Int) : times l 7 = tms l (min l.length 40) := by
  unfold times
  rw [if_neg (by omega)]
theorem seven_code (l : List Int) {most wait : Int} (h1 : 1 ≤ most) (h2 : most ≤ 300) (h3 : 0 ≤ wait) (h4 : wait ≤ 1073741824) : code (times l 7) most wait = 0 := by
  unfold code okRules
  rw [times_seven, tms_length, tms_ok l _ (by omega)]
  simp [h1, h2, h3, h4]
  omega
/- A group's facts. -/
structure Fine (ts : List Int) (most : Nat) (wait : Int) (fr : Nat) (g : Grp) : Prop where
  at_ : g.fr = fr
  lt : fr < g.to
  le : g.to ≤ ts.length
  few : g.to - fr ≤ most
  early : ∀ i, fr ≤ i → i < g.to → ts.getD i 0 ≤ g.time
  late : ∀ i, fr ≤ i → i < g.to → g.time ≤ ts.getD i 0 + wait
  part : g.to - fr < most → g.time = ts.getD fr 0 + wait
  next : g.to - fr < most → g.to < ts.length → g.time < ts.getD g.to 0
  bound : 0 ≤ g.time ∧ g.time ≤ 1073741824 + wait
theorem grp_fine {ts : List Int} {most : Nat} {wait : Int} {fr : Nat} (hok : okUpto ts ts.length = true) (h : fr < ts.length) (hm : 1 ≤ most) (hw : 0 ≤ wait) : Fine ts most wait fr (grp ts most wait fr) := by
  obtain ⟨f1, f2, f3, f4, f5⟩ := endOf_facts (wait := wait) h hm
  have hin : ∀ i, fr ≤ i → i < endOf ts most wait fr → ts.getD i 0 ≤ ts.getD fr 0 + wait := fun i h1 h2 => by
    by_cases he : i = fr
    · subst he; omega
    · exact f4 i (by omega) h2
  have hb := ok_bounds hok h
  by_cases hfull : endOf ts most wait fr - fr = most
  · have ht : timeOf ts most wait fr (endOf ts most wait fr) = ts.getD (endOf ts most wait fr - 1) 0 := by unfold timeOf; rw [if_pos hfull]
    have hb2 := ok_bounds hok (show endOf ts most wait fr - 1 < ts.length by omega)
    constructor
    · rfl
    · exact f1
    · exact f2
    · exact f3
    · intro i h1 h2
      show _ ≤ timeOf ts most wait fr (endOf ts most wait fr)
      rw [ht]
      exact ok_mono hok (by simp only [grp] at h2; omega) (by omega)
    · intro i h1 h2
      show timeOf ts most wait fr (endOf ts most wait fr) ≤ _
      rw [ht]
      have a1 := hin (endOf ts most wait fr - 1) (by omega) (by omega)
      have a2 := ok_mono hok h1 (by simp only [grp] at h2; omega)
      omega
    · intro hlt
      simp only [grp] at hlt
      omega
    · intro hlt
      simp only [grp] at hlt
      omega
    · show 0 ≤ timeOf ts most wait fr (endOf ts most wait fr) ∧ timeOf ts most wait fr (endOf ts most wait fr) ≤ _
      rw [ht]; omega
  · have ht : timeOf ts most wait fr (endOf ts most wait fr) = ts.getD fr 0 + wait := by unfold timeOf; rw [if_neg hfull]
    constructor
    · rfl
    · exact f1
    · exact f2
    · exact f3
    · intro i h1 h2
      show _ ≤ timeOf ts most wait fr (endOf ts most wait fr)
      rw [ht]
      exact hin i h1 h2
    · intro i h1 h2
      show timeOf ts most wait fr (endOf ts most wait fr) ≤ _
      rw [ht]
      have a2 := ok_mono hok h1 (by simp only [grp] at h2; omega)
      omega
    · intro _
      exact ht
    · intro _ h2
      show timeOf ts most wait fr (endOf ts most wait fr) < ts.getD (endOf ts most wait fr) 0
      simp only [grp] at h2
      rw [ht]; omega
    · show 0 ≤ timeOf ts most wait fr (endOf ts most wait fr) ∧ timeOf ts most wait fr (endOf ts most wait fr) ≤ _
      rw [ht]; omega
end Go.Proofs.Ytgmdpmhoedjcoaa.Pl
