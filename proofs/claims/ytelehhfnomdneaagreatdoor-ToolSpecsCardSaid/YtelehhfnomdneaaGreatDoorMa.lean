/-
  ToolSpecs: the words that the law makes, and what reading them gives: closed runs.
  And: ToolSpecs: a word's key and text: strings.Cut at '='; the plain Cut and strings.Split at a comma. ToolSpecs: the law's words. ToolSpecs: kinds, choices, pick. ToolSpecs: maps from words, as lists. ToolSpecs: what the words say; the values that tool.take keeps. ToolSpecs: tool.take, walked: words that are refused at once.
-/
import Derived.Test.YtelehhfnomdneaaGreatDoorE7
import Derived.Laws.AppendOwn
import Derived.Below
import Derived.Laws.OwnMore
import Derived.WalkKit
import Derived.Test.YtelehhfnomdneaaGreatDoorTl
import Derived.Test.YtelehhfnomdneaaGreatDoorPi
import Derived.Test.YtelehhfnomdneaaGreatDoorShelf
import Derived.Test.YtelehhfnomdneaaGreatDoorUt
import Derived.Lib.IndexMore
import Derived.Maps.OwnOps
import Derived.Deep.RegionHeld3
namespace Go.Proofs.YtelehhfnomdneaaGreatDoor.Sp
open Go Go.RowKit CX

def NG : Nat := 8
abbrev Wd := List UInt8
def keysL : List Wd := [[104, 111, 119], [97, 120, 101, 115], [99, 111, 117, 110, 116], [115, 101, 101, 100], [98, 101, 110, 100], [98, 105, 116, 115], [100, 101, 101, 112], [108, 101, 97, 115, 116], [116, 114, 101, 101, 115], [115, 111, 109, 101], [114, 111, 117, 110, 100, 115], [108, 111, 115, 115], [115, 116, 101, 112, 115], [98, 97, 116, 99, 104], [98, 121], [115, 112, 97, 110], [103, 97, 105, 110], [114, 97, 116, 101], [107, 101, 101, 112], [97, 116], [115, 105, 122, 101, 115], [110, 111, 110, 101], []]
def valsL : List Wd := [[49], [48], [50], [112, 108, 97, 105, 110], [114, 97, 110, 103, 101], [115, 112, 114, 101, 97, 100], [49, 47, 50], [48, 46, 50, 53], [45, 49], [48, 49], [115, 113, 117, 97, 114, 101, 115], [116, 105, 108, 116], [114, 97, 109, 112], [98, 101, 110, 100], [50, 44, 51], [50, 44], [49, 50, 51, 52, 53, 54, 55, 56, 57, 48], [], [61, 49], [115, 116, 114, 97, 105, 103, 104, 116]]
def kindsL : List Wd := [[116, 114, 101, 101], [102, 111, 114, 101, 115, 116], [98, 111, 111, 115, 116], [108, 105, 110, 101], [109, 101, 97, 110], [110, 101, 97, 114], [98, 97, 121, 101, 115], [110, 101, 116], [115, 116, 114, 101, 101, 116], [116, 114, 101, 101], [119, 111, 111, 100]]
def namesL : List Wd := [[121], [120], [97, 95, 120], [49], [], [120, 44, 121], [120, 44, 44, 121]]
/- The texts that are read: values, and the parts of one. -/
def textsL : List Wd := valsL ++ [[51]]
def sv (l : Wd) : Value := .string ⟨⟨l⟩⟩
/- A fraction's cells. -/
def qv (neg : Bool) (n d : Int) : List Value := [.bool neg, .int .u64 n, .string ⟨⟨[]⟩⟩, .int .u64 d, .string ⟨⟨[]⟩⟩]
def qz : List Value := qv false 0 0
def numT (t : Wd) : Option Nat := if t = [49] then some 1 else if t = [48] then some 0 else if t = [50] then some 2 else if t = [51] then some 3 else none
def fracT (t : Wd) : Option (Bool × Nat × Nat) := if t = [49] then some (false, 1, 0) else if t = [48] then some (false, 0, 0) else if t = [50] then some (false, 2, 0) else if t = [51] then some (false, 3, 0) else if t = [49, 47, 50] then some (false, 1, 2) else if t = [48, 46, 50, 53] then some (false, 1, 4) else if t = [45, 49] then some (true, 1, 0) else if t = [49, 50, 51, 52, 53, 54, 55, 56, 57, 48] then some (false, 1234567890, 0) else none
def qOf (q : Bool × Nat × Nat) : List Value := qv q.1 q.2.1 q.2.2
def numR (t : Wd) : Value := .tuple ⟨[.int .i64 ((numT t).getD 0 : Nat), .bool (numT t).isSome]⟩
def snumR (t : Wd) : Value := .tuple ⟨[.int .i64 ((if t = [49, 50, 51, 52, 53, 54, 55, 56, 57, 48] then some 1234567890 else numT t).getD 0 : Nat), .bool (numT t).isSome]⟩
def fracR (t : Wd) : Value := .tuple ⟨[.agg ⟨qOf ((fracT t).getD (false, 0, 0))⟩, .bool (fracT t).isSome]⟩
def isNm (t : Wd) : Bool := decide (t ∈ [[121], [120], [97, 95, 120]])
noncomputable def xo (s : Nat → Value) : X := X.mk' Tryz.prog 10 10 NG s noFacts noOrc
theorem xo_ok (s : Nat → Value) : (xo s).Ok := X.mk'_ok _ _ _ _ _ _ _ (noFacts_ok _) (noOrc_ok _ _) (by kernel_rfl)
noncomputable def gets (x : X) (k : Nat) (av : List Value) (h : Hp) (v : Value) : Bool := Option.rec (motive := fun _ => Bool) false (fun p => tupV p.1 v) (fcall x 100000 k av h)
noncomputable def numB (s : Nat → Value) (t : Wd) : Bool := gets (xo s) 29 [sv t] (Hp.zero NG) (numR t)
noncomputable def snumB (s : Nat → Value) (t : Wd) : Bool := gets (xo s) 19 [sv t] (Hp.zero NG) (snumR t)
noncomputable def fracB (s : Nat → Value) (t : Wd) : Bool := gets (xo s) 20 [sv t] (Hp.zero NG) (fracR t)
noncomputable def nameB (s : Nat → Value) (t : Wd) : Bool := gets (xo s) 10 [sv t] (Hp.zero NG) (.bool (isNm t))
noncomputable def snameB (s : Nat → Value) (t : Wd) : Bool := gets (xo s) 18 [sv t] (Hp.zero NG) (.bool (isNm t))
def qs : List (List Value) := qz :: (textsL.filterMap fracT).map qOf
noncomputable def cmpB (s : Nat → Value) (q : List Value) : Bool := gets (xo s) 23 [.agg ⟨q⟩, .agg ⟨q⟩] (Hp.zero NG) (.int .i64 0)
theorem num1 (s : Nat → Value) : textsL.all (numB s) = true := by kernel_rfl
theorem snum1 (s : Nat → Value) : textsL.all (snumB s) = true := by kernel_rfl
theorem frac1 (s : Nat → Value) : textsL.all (fracB s) = true := by kernel_rfl
theorem name1 (s : Nat → Value) : namesL.all (nameB s) = true := by kernel_rfl
theorem sname1 (s : Nat → Value) : namesL.all (snameB s) = true := by kernel_rfl
theorem cmp1 (s : Nat → Value) : qs.all (cmpB s) = true := by kernel_rfl

def sN : Nat → Value := fun _ => .bool false
theorem sN_one (n : Nat) : (sN n).oneCell' = true := rfl
theorem gets_run {s : Nat → Value} {k : Nat} {av : List Value} {h : Hp} {v : Value} (hg : gets (xo s) k av h v = true) (hv : plain2 v = true) (ht : ∀ p, tupV p v = true → p = v) {E : En} {w : World} {av' : List Value} (H : HR E h w) (hk : GOk ⟨NG, s⟩ E) (ha : LR E av av') (hi : ∀ k, ¬ Img E h k) :
    Calls Tryz.prog k ⟨av'⟩ w fun e w' => e = .returned v ∧ Below w.heap.size w w' := by
  unfold gets at hg
  cases hf : fcall (xo s) 100000 k av h with
  | none => rw [hf] at hg; cases hg
  | some p =>
    obtain ⟨u, h'⟩ := p
    rw [hf] at hg
    have := ht u hg; subst this
    rw [fcall_eq] at hf
    refine (xcall_sound (xo_ok s) hf H hk ha).mono ?_
    rintro e w' ⟨E', u', rfl, st, hu⟩
    rw [VR.plain2_eq hv hu]
    exact ⟨rfl, st.below (Nat.le_refl _) fun k _ => hi k⟩
theorem zero_img {n : Nat} {E : En} (k : Nat) : ¬ Img E (Hp.zero n) k := by
  rintro ⟨i, o, e, h, _⟩
  rw [Hp.zero_ob] at h; cases h
theorem number_any (w : World) {t : Wd} (ht : t ∈ textsL) : Calls Tryz.prog 29 #[.string ⟨⟨t⟩⟩] w fun e w' => e = .returned (numR t) ∧ Below w.heap.size w w' :=
  gets_run (List.all_eq_true.1 (num1 sN) t ht) rfl (fun _p hp => tupV_eq hp) (HR.zero NG _ sN_one w) (GOk.zero NG _ sN_one) (.cons (.plain rfl) .nil) zero_img
theorem snumber_any (w : World) {t : Wd} (ht : t ∈ textsL) : Calls Tryz.prog 19 #[.string ⟨⟨t⟩⟩] w fun e w' => e = .returned (snumR t) ∧ Below w.heap.size w w' :=
  gets_run (List.all_eq_true.1 (snum1 sN) t ht) rfl (fun _p hp => tupV_eq hp) (HR.zero NG _ sN_one w) (GOk.zero NG _ sN_one) (.cons (.plain rfl) .nil) zero_img
theorem frac_any (w : World) {t : Wd} (ht : t ∈ textsL) : Calls Tryz.prog 20 #[.string ⟨⟨t⟩⟩] w fun e w' => e = .returned (fracR t) ∧ Below w.heap.size w w' :=
  gets_run (List.all_eq_true.1 (frac1 sN) t ht) rfl (fun _p hp => tupV_eq hp) (HR.zero NG _ sN_one w) (GOk.zero NG _ sN_one) (.cons (.plain rfl) .nil) zero_img
theorem named_any (w : World) {t : Wd} (ht : t ∈ namesL) : Calls Tryz.prog 10 #[.string ⟨⟨t⟩⟩] w fun e w' => e = .returned (.bool (isNm t)) ∧ Below w.heap.size w w' :=
  gets_run (List.all_eq_true.1 (name1 sN) t ht) rfl (fun _p hp => tupV_eq hp) (HR.zero NG _ sN_one w) (GOk.zero NG _ sN_one) (.cons (.plain rfl) .nil) zero_img
theorem isname_any (w : World) {t : Wd} (ht : t ∈ namesL) : Calls Tryz.prog 18 #[.string ⟨⟨t⟩⟩] w fun e w' => e = .returned (.bool (isNm t)) ∧ Below w.heap.size w w' :=
  gets_run (List.all_eq_true.1 (sname1 sN) t ht) rfl (fun _p hp => tupV_eq hp) (HR.zero NG _ sN_one w) (GOk.zero NG _ sN_one) (.cons (.plain rfl) .nil) zero_img
theorem qs_form {q : List Value} (h : q ∈ qs) : ∃ b n d, q = qv b n d := by
  unfold qs at h
  rcases List.mem_cons.1 h with rfl | h
  · exact ⟨false, 0, 0, rfl⟩
  · obtain ⟨x, _, rfl⟩ := List.mem_map.1 h
    exact ⟨x.1, x.2.1, x.2.2, rfl⟩
theorem cmp_any (w : World) {q : List Value} (hq : q ∈ qs) : Calls Tryz.prog 23 #[.agg ⟨q⟩, .agg ⟨q⟩] w fun e w' => e = .returned (.int .i64 0) ∧ Below w.heap.size w w' := by
  refine gets_run (List.all_eq_true.1 (cmp1 sN) q hq) rfl (fun p hp => tupV_eq hp) (HR.zero NG _ sN_one w) (GOk.zero NG _ sN_one) ?_ zero_img
  have hp : plain (.agg ⟨q⟩) = true := by
    obtain ⟨b, n, d, rfl⟩ := qs_form hq
    rfl
  exact .cons (VR.of_plain hp) (.cons (VR.of_plain hp) .nil)
end Go.Proofs.YtelehhfnomdneaaGreatDoor.Sp
namespace Go.Proofs.YtelehhfnomdneaaGreatDoor.Sp
open Go Go.RowKit Ut Tc

def NoE (t : Wd) : Prop := ∀ b ∈ t, b ≠ 61
theorem occ61 (s : List UInt8) (i : Nat) : Lib.occAt s [61] i = (s[i]? == some 61) := by
  unfold Lib.occAt
  rcases h : s[i]? with _ | b
  · rw [List.drop_eq_nil_of_le (by simpa using h)]; rfl
  · obtain ⟨hl, hb⟩ := List.getElem?_eq_some_iff.1 h
    rw [List.drop_eq_getElem_cons hl, hb]
    show ((61 : UInt8) == b && [].isPrefixOf _) = _
    simp [List.isPrefixOf]
    exact BEq.comm
theorem index61 (t rest : List UInt8) (h : NoE t) : Lib.index (t ++ 61 :: rest) [61] = t.length := by
  refine Lib.index_hit (fun j hj => ?_) (by simp) ?_
  · rw [occ61, List.getElem?_append_left hj, List.getElem?_eq_getElem hj]
    have := h _ (List.getElem_mem hj)
    simpa using this
  · rw [occ61, List.getElem?_append_right (Nat.le_refl _)]
    simp
theorem index61_none (t : List UInt8) (h : NoE t) : Lib.index t [61] = -1 := by
  refine Lib.index_past (i := t.length) (by simp) (fun j hj => ?_) (by simp)
  rw [occ61]
  have hj : j < t.length := hj
  rw [List.getElem?_eq_getElem hj]
  have := h _ (List.getElem_mem hj)
  simpa using this
theorem cut61 (t rest : List UInt8) (h : NoE t) : Lib.cut (t ++ 61 :: rest) [61] = (t, rest, true) := by
  unfold Lib.cut
  rw [index61 t rest h, if_pos (by omega)]
  have e : ((t.length : Int).toNat + [61].length : Nat) = t.length + 1 := by simp
  rw [show ((t.length : Int).toNat) = t.length from rfl, List.take_append_of_le_length (Nat.le_refl _), List.take_length]
  congr 2
  show List.drop (t.length + 1) _ = _
  rw [List.drop_append, List.drop_eq_nil_of_le (by omega), show t.length + 1 - t.length = 1 by omega]
  rfl
theorem cut61_none (t : List UInt8) (h : NoE t) : Lib.cut t [61] = (t, [], false) := by
  unfold Lib.cut
  rw [index61_none t h]
  rfl
/- A word: a key, '=', a text; or no '=' at all. -/
def IsWord (b : ByteArray) : Option (Wd × Wd) → Prop
  | some p => b.data.toList = p.1 ++ 61 :: p.2 ∧ p.1 ∈ keysL ∧ p.2 ∈ valsL
  | none => NoE b.data.toList ∧ b.size ≤ 100
theorem keys_noE : ∀ k ∈ keysL, ∀ b ∈ k, b ≠ 61 := by decide
theorem keys_short : ∀ k ∈ keysL, k.length ≤ 6 := by decide
theorem vals_short : ∀ k ∈ valsL, k.length ≤ 10 := by decide
theorem IsWord.size {b : ByteArray} {o : Option (Wd × Wd)} (h : IsWord b o) : b.size ≤ 100 := by
  cases o with
  | none => exact h.2
  | some p =>
    obtain ⟨h1, h2, h3⟩ := h
    have := keys_short _ h2
    have := vals_short _ h3
    have e : b.data.toList.length = b.size := rfl
    rw [h1] at e
    simp at e
    omega
def cutR (b : ByteArray) : Option (Wd × Wd) → Value
  | some p => .tuple #[.string ⟨⟨p.1⟩⟩, .string ⟨⟨p.2⟩⟩, .bool true]
  | none => .tuple #[.string b, .string ⟨⟨[]⟩⟩, .bool false]
def MaxAt (w : World) : Prop := ∃ m, w.cell? ⟨0, 0, none⟩ = some (.int .i64 m)
theorem cut61_any {b : ByteArray} {o : Option (Wd × Wd)} (h : IsWord b o) (w : World) (hm : MaxAt w) :
    Calls Tryz.prog 27 #[.string b, .string ⟨#[61]⟩] w fun e w' => e = .returned (cutR b o) ∧ Below w.heap.size w w' := by
  obtain ⟨m, hm⟩ := hm
  have hs := h.size
  refine (Tryz.strings_Cut b ⟨#[61]⟩ m w (by omega) hm).mono ?_
  rintro e w' ⟨rfl, n, rfl⟩
  refine ⟨?_, ⟨rfl, rfl, rfl, Nat.le_refl _, fun _ _ => rfl⟩⟩
  have e61 : (⟨#[61]⟩ : ByteArray).data.toList = [61] := rfl
  cases o with
  | none => rw [e61, cut61_none _ h.1]; rfl
  | some p => rw [e61, h.1, cut61 _ _ (keys_noE _ h.2.1)]; rfl
theorem infoStr : (Tryz.prog.info? 9).map (fun i => (i.zero, i.size, i.bytes)) = some (some (.string ⟨#[]⟩), 1, 16) := by kernel_rfl
set_option maxHeartbeats 1000000 in
set_option maxRecDepth 100000 in
theorem cut_any (s : ByteArray) (w : World) (hs : s.size ≤ 1000000) :
    Calls Tryz.prog 17 #[.string s, .int .u8 44] w fun e w' => ∃ (v : Value) (bs : List ByteArray), e = .returned v ∧ w'.ownsRow w.heap.size 9 1 v bs.length (bs.map Value.string) ∧ bs.map (·.data.toList) = cuts [] s.data.toList ∧ Below w.heap.size w w' := by
  obtain ⟨i0, hi0, hz0, hz1, hz2⟩ := info_parts infoStr
  have HI := Lib.hid hi0
  have HZ0 := Lib.hid hz0
  have HZ1 := Lib.hid hz1
  have HZ2 := Lib.hid hz2
  clear hi0 hz0 hz1 hz2
  have hlen : s.data.toList.length = s.size := rfl
  have HL := Lib.hid hlen
  clear hlen
  go_enter Tryz.func17, Tryz.ntmps17
  go_wp2
  go_loopw [5, 6, 7] (fun v fr i wr => ∃ (k f : Nat) (bs : List ByteArray), k ≤ s.size ∧ f ≤ k ∧ bs.length ≤ k ∧ i = .int .i64 k ∧ fr = .int .i64 f ∧ Hid (bs.map (·.data.toList) ++ cuts ((s.data.toList.take k).drop f) (s.data.toList.drop k) = cuts [] s.data.toList) ∧ Hid (wr.ownsRow w.heap.size 9 1 v bs.length (bs.map Value.string)) ∧ Below w.heap.size w wr) (fun _ _ i _ => s.size - (intOf i).toNat)
  case atStart => exact ⟨0, 0, [], Nat.zero_le _, Nat.le_refl _, Nat.zero_le _, rfl, rfl, rfl, World.ownsRow_nil _ _ _ _, Below.refl _ _⟩
  case round =>
    obtain ⟨k, f, bs, hk, hf, hbl, rfl, rfl, hcut, hown, hbel⟩ := hrel
    by_cases hgo : k < s.size
    · have hkL : k < s.data.toList.length := by rw [HL.out]; exact hgo
      have HG : Hid (s.data.toList[k] = s[k]) := by show _ = _; simp; rfl
      have hsz := hbel.size
      go_wp2_with (at_builtin; refine wpList_append_own _ rfl _ _ 23 rfl w.heap.size 9 i0 _ 1 16 Tryz.underlying23 HI.out HZ0.out HZ1.out HZ2.out rfl (by decide) _ bs.length _ rfl (hown.out.alloc _) ⟨wr.heap.size, 0, none⟩ 1 1 [.string (s.extract f k)] rfl rfl (new_read _ _ _) (all_one rfl) (by unfold maxLen; omega) (by omega) (by simp; omega) ?_; intro v' w1 hown' hgrow _hn)
      · have h44 : s.data.toList[k] = 44 := by
          have h : ((s[k].toNat : Int) == 44) = true := by assumption
          have h := beq_iff_eq.1 h
          rw [HG.out]
          exact UInt8.toNat_inj.1 (by simpa using (by omega : s[k].toNat = 44))
        have hb1 : Below w.heap.size w w1 := (hbel.alloc hsz _).grown hgrow (by simp; omega) (fun j hj => (own_base hown.out hj).1)
        refine ⟨⟨k + 1, k + 1, bs ++ [s.extract f k], by omega, Nat.le_refl _, by simp; omega, by go_num, by go_num, ?_, ?_, hb1⟩, by simp [intOf]; omega⟩
        · show _ = _
          rw [List.map_append, List.map_cons, List.map_nil, ext_data]
          exact cut_hit hkL h44 hcut.out
        · show World.ownsRow _ _ _ _ _ _ _
          rw [List.length_append, List.map_append]
          exact hown'
      · have h44 : ¬ s.data.toList[k] = 44 := by
          have h : ((s[k].toNat : Int) == 44) = false := by assumption
          rw [HG.out]
          intro e
          rw [e] at h
          exact absurd h (by decide)
        refine ⟨⟨k + 1, f, bs, by omega, by omega, by omega, by go_num, rfl, cut_go hf hkL h44 hcut.out, hown, hbel⟩, by simp [intOf]; omega⟩
    · have hsz := hbel.size
      go_wp2_with (at_builtin; refine wpList_append_own _ rfl _ _ 23 rfl w.heap.size 9 i0 _ 1 16 Tryz.underlying23 HI.out HZ0.out HZ1.out HZ2.out rfl (by decide) _ bs.length _ rfl (hown.out.alloc _) ⟨wr.heap.size, 0, none⟩ 1 1 [.string (s.extract f s.size)] rfl rfl (new_read _ _ _) (all_one rfl) (by unfold maxLen; omega) (by omega) (by simp; omega) ?_; intro v' w1 hown' hgrow _hn)
      have hb1 : Below w.heap.size w w1 := (hbel.alloc hsz _).grown hgrow (by simp; omega) (fun j hj => (own_base hown.out hj).1)
      go_ret
      refine ⟨v', bs ++ [s.extract f s.size], rfl, ?_, ?_, hb1⟩
      · rw [List.length_append, List.map_append]
        exact hown'
      · rw [List.map_append, List.map_cons, List.map_nil, ext_data, ← HL.out, List.take_of_length_le (Nat.le_refl _)]
        exact cut_end (by rw [HL.out]; omega) hcut.out

theorem split_any {ts : List (List UInt8)} (hn : ts ≠ []) (h : ∀ t ∈ ts, NoC t) {s : ByteArray} (hs : s.data.toList = join ts) (hl : s.size ≤ 1000000) (w : World) (hm : MaxAt w) :
    Calls Tryz.prog 13 #[.string s, .string ⟨⟨[44]⟩⟩] w fun e w' => ∃ (v : Value) (bs : List ByteArray), e = .returned v ∧ w'.ownsRow w.heap.size 9 1 v bs.length (bs.map Value.string) ∧ bs.map (·.data.toList) = ts ∧ Below w.heap.size w w' := by
  obtain ⟨m, hm⟩ := hm
  obtain ⟨h1, h2⟩ := split_join hn h hs (sep := ⟨⟨[44]⟩⟩) rfl
  refine (Tryz.strings_Split s ⟨⟨[44]⟩⟩ m w (by omega) hm (by decide)).mono ?_
  rintro e w' ⟨rfl, rfl⟩
  have hlen : (Lib.splitB ⟨⟨[44]⟩⟩ 0 (Lib.countB s ⟨⟨[44]⟩⟩) s).length = ts.length := by rw [← h1, List.length_map]
  refine ⟨_, _, rfl, ?_, h1, (Below.refl _ _).alloc (Nat.le_refl _) _⟩
  have hc : Lib.countB s ⟨⟨[44]⟩⟩ + 1 = (Lib.splitB ⟨⟨[44]⟩⟩ 0 (Lib.countB s ⟨⟨[44]⟩⟩) s).length := by omega
  rw [hc]
  generalize Lib.splitB ⟨⟨[44]⟩⟩ 0 (Lib.countB s ⟨⟨[44]⟩⟩) s = bs at hlen ⊢
  refine ⟨by simp, .inr ⟨w.heap.size, bs.length, (bs.map Value.string).toArray, rfl, Nat.le_refl _, heap_alloc_new w _, Nat.le_refl _, ?_, by simp, by rw [Nat.mul_one]; exact List.take_of_length_le (by simp)⟩⟩
  have := Lib.countB_le ⟨⟨[44]⟩⟩ (by decide) s.size s (Nat.le_refl _)
  unfold maxLen; omega

theorem parts_ok : ∀ t ∈ namesL ++ valsL, join (cuts [] t) = t ∧ cuts [] t ≠ [] ∧ (∀ x ∈ cuts [] t, ∀ b ∈ x, b ≠ 44) ∧ t.length ≤ 10 := by decide
theorem parts_names : ∀ t ∈ namesL, ∀ x ∈ cuts [] t, x ∈ namesL := by decide
theorem parts_vals : ∀ t ∈ valsL, ∀ x ∈ cuts [] t, x ∈ textsL := by decide
theorem parts_len : ∀ t ∈ namesL ++ valsL, (cuts [] t).length ≤ 3 := by decide
theorem of_data {a : ByteArray} {l : List UInt8} (h : a.data.toList = l) : a = ⟨⟨l⟩⟩ := by
  subst h; rfl
/- The parts of a name or value, by either cutter. -/
theorem parts_any (w : World) {t : Wd} (ht : t ∈ namesL ++ valsL) :
    Calls Tryz.prog 17 #[.string ⟨⟨t⟩⟩, .int .u8 44] w fun e w' => ∃ v, e = .returned v ∧ w'.ownsRow w.heap.size 9 1 v (cuts [] t).length ((cuts [] t).map sv) ∧ Below w.heap.size w w' := by
  obtain ⟨_, _, _, hl⟩ := parts_ok t ht
  refine (cut_any ⟨⟨t⟩⟩ w (by show t.length ≤ _; omega)).mono ?_
  rintro e w' ⟨v, bs, rfl, h1, h2, hb⟩
  refine ⟨v, rfl, ?_, hb⟩
  have h2 : bs.map (·.data.toList) = cuts [] t := h2
  have e1 : bs.length = (cuts [] t).length := by rw [← h2, List.length_map]
  have e2 : bs.map Value.string = (cuts [] t).map sv := by
    rw [← h2, List.map_map]
    exact List.map_congr_left fun b _ => rfl
  rw [← e1, ← e2]
  exact h1
theorem split_names (w : World) (hm : MaxAt w) {t : Wd} (ht : t ∈ namesL ++ valsL) :
    Calls Tryz.prog 13 #[.string ⟨⟨t⟩⟩, .string ⟨⟨[44]⟩⟩] w fun e w' => ∃ v, e = .returned v ∧ w'.ownsRow w.heap.size 9 1 v (cuts [] t).length ((cuts [] t).map sv) ∧ Below w.heap.size w w' := by
  obtain ⟨hj, hn, hc, hl⟩ := parts_ok t ht
  refine (split_any hn hc (s := ⟨⟨t⟩⟩) hj.symm (by show t.length ≤ _; omega) w hm).mono ?_
  rintro e w' ⟨v, bs, rfl, h1, h2, hb⟩
  refine ⟨v, rfl, ?_, hb⟩
  have e1 : bs.length = (cuts [] t).length := by rw [← h2, List.length_map]
  have e2 : bs.map Value.string = (cuts [] t).map sv := by
    rw [← h2, List.map_map]
    exact List.map_congr_left fun b _ => rfl
  rw [← e1, ← e2]
  exact h1
end Go.Proofs.YtelehhfnomdneaaGreatDoor.Sp
namespace Go.Proofs.YtelehhfnomdneaaGreatDoor.Sp
open Go Go.RowKit Ut Tc

theorem pick_some (n m : Int) (w : World) (h0 : 0 < m) (h1 : m ≤ 4294967296) : Calls Tryz.prog 5 #[.int .i64 n, .int .i64 m] w fun e w' => ∃ r : Nat, (r : Int) < m ∧ e = .returned (.int .i64 (r : Int)) ∧ w = w' := by
  refine (pick_any n m w h0 h1).mono ?_
  rintro e w' ⟨rfl, rfl⟩
  have h2 := Int.emod_nonneg n (by omega : m ≠ 0)
  have h3 := Int.emod_lt_of_pos n h0
  exact ⟨(n % m).toNat, by omega, by rw [Int.toNat_of_nonneg h2], rfl⟩
def WordAt (i : Nat) (b : ByteArray) : Prop := if i = 0 then ∃ t ∈ kindsL, b = ⟨⟨t⟩⟩ else if i ≤ 2 then ∃ t ∈ namesL, b = ⟨⟨t⟩⟩ else ∃ o, IsWord b o
def WordsOk (bs : List ByteArray) : Prop := bs.length ≤ 9 ∧ ∀ (i : Nat) (h : i < bs.length), WordAt i bs[i]
theorem WordsOk.snoc {bs : List ByteArray} {b : ByteArray} (h : WordsOk bs) (h9 : bs.length < 9) (hb : WordAt bs.length b) : WordsOk (bs ++ [b]) := by
  refine ⟨by simp; omega, fun i hi => ?_⟩
  by_cases e : i < bs.length
  · rw [List.getElem_append_left e]; exact h.2 i e
  · have : i = bs.length := by simp at hi; omega
    subst this
    rw [List.getElem_append_right (Nat.le_refl _)]
    simpa using hb
def litC (l : List Wd) : Array Value := ⟨l.map sv⟩
theorem lit_at {W : World} {g : Nat} {l : List Wd} (h : Blk W g 9 (litC l)) {j : Nat} (hj : j < l.length) : ∃ t, t ∈ l ∧ W.cell? ⟨g, j, none⟩ = some (.string ⟨⟨t⟩⟩) := by
  refine ⟨l[j], List.getElem_mem hj, ?_⟩
  rw [h.cell]
  show (l.map sv).toArray[j]? = _
  rw [List.getElem?_toArray, List.getElem?_map, List.getElem?_eq_getElem hj]; rfl
theorem word_eq {k v : Wd} (hk : k ∈ keysL) (hv : v ∈ valsL) : ∃ o, IsWord ((⟨⟨k⟩⟩ : ByteArray) ++ ⟨#[61]⟩ ++ ⟨⟨v⟩⟩) o := ⟨some (k, v), by simp, hk, hv⟩
theorem noE_append {a b : Wd} (ha : NoE a) (hb : NoE b) : NoE (a ++ b) := fun x hx => by
  rcases List.mem_append.1 hx with h | h
  · exact ha x h
  · exact hb x h
theorem vals_noE : ∀ v ∈ valsL, v = [61, 49] ∨ ∀ b ∈ v, b ≠ 61 := by decide
theorem word_plain {k v : Wd} (hk : k ∈ keysL) (hv : v ∈ valsL) : ∃ o, IsWord ((⟨⟨k⟩⟩ : ByteArray) ++ ⟨⟨v⟩⟩) o := by
  have h1 := keys_short k hk
  have h2 := vals_short v hv
  rcases vals_noE v hv with rfl | h
  · exact ⟨some (k, [49]), by simp, hk, show ([49] : Wd) ∈ valsL by decide⟩
  · refine ⟨none, ?_, ?_⟩
    · have e : ((⟨⟨k⟩⟩ : ByteArray) ++ ⟨⟨v⟩⟩).data.toList = k ++ v := by simp
      show NoE _
      rw [e]
      exact noE_append (keys_noE k hk) h
    · have e : ((⟨⟨k⟩⟩ : ByteArray) ++ ⟨⟨v⟩⟩).data.toList.length = k.length + v.length := by simp
      have : ((⟨⟨k⟩⟩ : ByteArray) ++ ⟨⟨v⟩⟩).size = k.length + v.length := e
      omega
structure WR (w wr : World) (v : Value) (bs : List ByteArray) : Prop where
  ok : WordsOk bs
  own : wr.ownsRow (w.heap.size + 4) 9 1 v bs.length (bs.map Value.string)
  k0 : Blk wr w.heap.size 9 (litC kindsL)
  k1 : Blk wr (w.heap.size + 1) 9 (litC namesL)
  k2 : Blk wr (w.heap.size + 2) 9 (litC keysL)
  k3 : Blk wr (w.heap.size + 3) 9 (litC valsL)
  bel : Below w.heap.size w wr
  sz : w.heap.size + 4 ≤ wr.heap.size
theorem WR.snoc {w wr w1 : World} {v v' : Value} {bs : List ByteArray} {b : ByteArray} {o : Obj} (h : WR w wr v bs) (h9 : bs.length < 9) (hb : WordAt bs.length b) (hown : w1.ownsRow (w.heap.size + 4) 9 1 v' (bs.length + 1) (bs.map Value.string ++ [.string b])) (hgrow : (wr.alloc o).grownBy w1 v.ownBlock) : WR w w1 v' (bs ++ [b]) := by
  have hne : ∀ g, g < w.heap.size + 4 → some g ≠ v.ownBlock := fun g hg e => by
    have := (own_base h.own e.symm).1
    omega
  have hz := h.sz
  refine ⟨h.ok.snoc h9 hb, ?_, (h.k0.alloc _).grown hgrow (hne _ (by omega)), (h.k1.alloc _).grown hgrow (hne _ (by omega)), (h.k2.alloc _).grown hgrow (hne _ (by omega)), (h.k3.alloc _).grown hgrow (hne _ (by omega)), ?_, ?_⟩
  · rw [List.length_append, List.map_append]
    exact hown
  · exact (h.bel.alloc (by omega) _).grown hgrow (by simp; omega) (fun j hj => by have := (own_base h.own hj).1; omega)
  · have := hgrow.size
    rw [World.size_alloc] at this
    omega
set_option maxHeartbeats 4000000 in
set_option maxRecDepth 100000 in
theorem words_any (A : Option Addr) (c : Nat) (xs : List Int) (n : Nat) (w : World) (hx : IntsIn w w.heap.size A xs) (_hl : xs.length ≤ 9223372036854775807) (hn : n ≤ 9) :
    Calls Tryz.prog 4 #[.slice A xs.length c, .int .i64 (n : Int)] w fun e w' => ∃ v bs, e = .returned v ∧ w'.ownsRow (w.heap.size + 4) 9 1 v bs.length (bs.map Value.string) ∧ WordsOk bs ∧ Below w.heap.size w w' := by
  obtain ⟨i0, hi0, hz0, hz1, hz2⟩ := info_parts infoStr
  have HI := Lib.hid hi0
  have HZ0 := Lib.hid hz0
  have HZ1 := Lib.hid hz1
  have HZ2 := Lib.hid hz2
  clear hi0 hz0 hz1 hz2
  have HX := Lib.hid hx
  clear hx
  go_enter Tryz.func4, Tryz.ntmps4
  go_wp2
  go_loopw [9, 10] (fun v iv wr => ∃ (j : Nat) (bs : List ByteArray), j ≤ 9 ∧ iv = .int .i64 (j : Int) ∧ Hid (bs.length = j) ∧ Hid (WR w wr v bs)) (fun _ iv _ => 9 - (intOf iv).toNat)
  case atStart =>
    refine ⟨0, [], Nat.zero_le _, rfl, rfl, ⟨⟨Nat.zero_le _, fun i hi => absurd hi (Nat.not_lt_zero _)⟩, World.ownsRow_nil _ _ _ _, ?_, ?_, ?_, ?_, ?_, by simp⟩⟩
    · exact (((Blk.new w _ _).alloc _).alloc _).alloc _
    · have := (((Blk.new (w.alloc (.cells (litC kindsL) 9)) 9 (litC namesL)).alloc (.cells (litC keysL) 9)).alloc (.cells (litC valsL) 9))
      rw [World.size_alloc] at this
      exact this
    · have := ((Blk.new ((w.alloc (.cells (litC kindsL) 9)).alloc (.cells (litC namesL) 9)) 9 (litC keysL)).alloc (.cells (litC valsL) 9))
      rw [World.size_alloc, World.size_alloc] at this
      exact this
    · have := Blk.new (((w.alloc (.cells (litC kindsL) 9)).alloc (.cells (litC namesL) 9)).alloc (.cells (litC keysL) 9)) 9 (litC valsL)
      rw [World.size_alloc, World.size_alloc, World.size_alloc] at this
      exact this
    · exact ((((Below.refl _ _).alloc (Nat.le_refl _) _).alloc (by simp) _).alloc (by simp; omega) _).alloc (by simp; omega) _
  case round =>
    obtain ⟨j, bs, hb9, rfl, HJ, HW⟩ := hrel
    have hsz := HW.out.sz
    have hbel := Lib.hid HW.out.bel
    by_cases hgo : j < xs.length
    · by_cases hgn : j < n
      · have e1 : (j : Int) < (xs.length : Int) := by omega
        have e2 : (j : Int) < (n : Int) := by omega
        have hb9' : j < 9 := by omega
        obtain ⟨ad, rfl, had, hc⟩ := (show IntsIn wr w.heap.size A xs from HX.out.below hbel.out).at_ hgo
        generalize xs[j] = x at *
        by_cases h0 : j = 0
        · have d0 : ((j : Int) == 0) = true := by simp [h0]
          have H0 := Lib.hid h0
          clear h0
          go_wp2_with (first
            | (go_at_call 5; refine (pick_some _ 11 _ (by omega) (by omega)).mono ?_; rintro e w' ⟨r11, hr11, rfl, rfl⟩; obtain ⟨t11, ht11, hc11⟩ := lit_at HW.out.k0 (j := r11) (by show r11 < 11; omega))
            | (at_builtin; refine wpList_append_own _ rfl _ _ 23 rfl (w.heap.size + 4) 9 i0 _ 1 16 Tryz.underlying23 HI.out HZ0.out HZ1.out HZ2.out rfl (by decide) _ j _ rfl ((HJ.out ▸ HW.out.own).alloc _) ⟨wr.heap.size, 0, none⟩ 1 1 [.string (⟨⟨t11⟩⟩)] rfl rfl (new_read _ _ _) (all_one rfl) (by unfold maxLen; omega) (by omega) (by simp; omega) ?_; intro v' w1 hown' hgrow _hn))
          exact ⟨⟨j + 1, bs ++ [⟨⟨t11⟩⟩], by omega, by go_num, by show _ = _; rw [List.length_append, HJ.out]; rfl, HW.out.snoc (by rw [HJ.out]; exact hb9') (by rw [HJ.out]; unfold WordAt; rw [if_pos H0.out]; exact ⟨t11, ht11, rfl⟩) (by rw [HJ.out]; exact hown') hgrow⟩, by simp [intOf]; omega⟩
        · by_cases h1 : j = 1
          · clear h0
            have d0 : ((j : Int) == 0) = false := by simp [h1]
            have d1 : ((j : Int) == 1) = true := by simp [h1]
            have HK := Lib.hid (show ¬ j = 0 ∧ j ≤ 2 by omega)
            clear h1
            go_wp2_with (first
              | (go_at_call 5; refine (pick_some _ 7 _ (by omega) (by omega)).mono ?_; rintro e w' ⟨r7, hr7, rfl, rfl⟩; obtain ⟨t7, ht7, hc7⟩ := lit_at HW.out.k1 (j := r7) (by show r7 < 7; omega))
              | (at_builtin; refine wpList_append_own _ rfl _ _ 23 rfl (w.heap.size + 4) 9 i0 _ 1 16 Tryz.underlying23 HI.out HZ0.out HZ1.out HZ2.out rfl (by decide) _ j _ rfl ((HJ.out ▸ HW.out.own).alloc _) ⟨wr.heap.size, 0, none⟩ 1 1 [.string (⟨⟨t7⟩⟩)] rfl rfl (new_read _ _ _) (all_one rfl) (by unfold maxLen; omega) (by omega) (by simp; omega) ?_; intro v' w1 hown' hgrow _hn))
            exact ⟨⟨j + 1, bs ++ [⟨⟨t7⟩⟩], by omega, by go_num, by show _ = _; rw [List.length_append, HJ.out]; rfl, HW.out.snoc (by rw [HJ.out]; exact hb9') (by rw [HJ.out]; unfold WordAt; rw [if_neg HK.out.1, if_pos HK.out.2]; exact ⟨t7, ht7, rfl⟩) (by rw [HJ.out]; exact hown') hgrow⟩, by simp [intOf]; omega⟩
          · by_cases h2 : j = 2
            · clear h0 h1
              have d0 : ((j : Int) == 0) = false := by simp [h2]
              have d1 : ((j : Int) == 1) = false := by simp [h2]
              have d2 : ((j : Int) == 2) = true := by simp [h2]
              have HK := Lib.hid (show ¬ j = 0 ∧ j ≤ 2 by omega)
              clear h2
              go_wp2_with (first
                | (go_at_call 5; refine (pick_some _ 7 _ (by omega) (by omega)).mono ?_; rintro e w' ⟨r7, hr7, rfl, rfl⟩; obtain ⟨t7, ht7, hc7⟩ := lit_at HW.out.k1 (j := r7) (by show r7 < 7; omega))
                | (at_builtin; refine wpList_append_own _ rfl _ _ 23 rfl (w.heap.size + 4) 9 i0 _ 1 16 Tryz.underlying23 HI.out HZ0.out HZ1.out HZ2.out rfl (by decide) _ j _ rfl ((HJ.out ▸ HW.out.own).alloc _) ⟨wr.heap.size, 0, none⟩ 1 1 [.string (⟨⟨t7⟩⟩)] rfl rfl (new_read _ _ _) (all_one rfl) (by unfold maxLen; omega) (by omega) (by simp; omega) ?_; intro v' w1 hown' hgrow _hn))
              exact ⟨⟨j + 1, bs ++ [⟨⟨t7⟩⟩], by omega, by go_num, by show _ = _; rw [List.length_append, HJ.out]; rfl, HW.out.snoc (by rw [HJ.out]; exact hb9') (by rw [HJ.out]; unfold WordAt; rw [if_neg HK.out.1, if_pos HK.out.2]; exact ⟨t7, ht7, rfl⟩) (by rw [HJ.out]; exact hown') hgrow⟩, by simp [intOf]; omega⟩
            · have d0 : ((j : Int) == 0) = false := by simp; omega
              have d1 : ((j : Int) == 1) = false := by simp; omega
              have d2 : ((j : Int) == 2) = false := by simp; omega
              have HK := Lib.hid (show ¬ j = 0 ∧ ¬ j ≤ 2 by omega)
              clear h0 h1 h2
              go_wp2_with (first
                | (go_at_call 5; refine (pick_some _ _ _ (by omega) (by omega)).mono ?_; rintro e w' ⟨r, hr, rfl, rfl⟩; first
                    | (have hr23 : (r : Int) < 23 := hr; obtain ⟨t23, ht23, hc23⟩ := lit_at HW.out.k2 (j := r) (by show r < 23; omega); have hs23 := keys_short t23 ht23)
                    | (have hr20 : (r : Int) < 20 := hr; obtain ⟨t20, ht20, hc20⟩ := lit_at HW.out.k3 (j := r) (by show r < 20; omega); have hs20 := vals_short t20 ht20)
                    | (have l1 : ¬ 9223372036854775807 < t23.length + t20.length := (by omega); have l2 : ¬ 9223372036854775807 < t23.length + 1 := (by omega); have l3 : ¬ 9223372036854775807 < t23.length + 1 + t20.length := (by omega)))
                | (at_builtin; refine wpList_append_own _ rfl _ _ 23 rfl (w.heap.size + 4) 9 i0 _ 1 16 Tryz.underlying23 HI.out HZ0.out HZ1.out HZ2.out rfl (by decide) _ j _ rfl ((HJ.out ▸ HW.out.own).alloc _) ⟨wr.heap.size, 0, none⟩ 1 1 [.string (_)] rfl rfl (new_read _ _ _) (all_one rfl) (by unfold maxLen; omega) (by omega) (by simp; omega) ?_; intro v' w1 hown' hgrow _hn))
              · exact ⟨⟨j + 1, bs ++ [(⟨⟨t23⟩⟩ : ByteArray) ++ ⟨⟨t20⟩⟩], by omega, by go_num, by show _ = _; rw [List.length_append, HJ.out]; rfl, HW.out.snoc (by rw [HJ.out]; exact hb9') (by rw [HJ.out]; unfold WordAt; rw [if_neg HK.out.1, if_neg HK.out.2]; exact word_plain ht23 ht20) (by rw [HJ.out]; exact hown') hgrow⟩, by simp [intOf]; omega⟩
              · exact ⟨⟨j + 1, bs ++ [(⟨⟨t23⟩⟩ : ByteArray) ++ ⟨#[61]⟩ ++ ⟨⟨t20⟩⟩], by omega, by go_num, by show _ = _; rw [List.length_append, HJ.out]; rfl, HW.out.snoc (by rw [HJ.out]; exact hb9') (by rw [HJ.out]; unfold WordAt; rw [if_neg HK.out.1, if_neg HK.out.2]; exact word_eq ht23 ht20) (by rw [HJ.out]; exact hown') hgrow⟩, by simp [intOf]; omega⟩
      · have e1 : (j : Int) < (xs.length : Int) := by omega
        have e2 : ¬ (j : Int) < (n : Int) := by omega
        go_wp2
        go_ret
        exact ⟨_, rfl, bs, HW.out.own, HW.out.ok, HW.out.bel⟩
    · have e1 : ¬ (j : Int) < (xs.length : Int) := by omega
      go_wp2
      go_ret
      exact ⟨_, rfl, bs, HW.out.own, HW.out.ok, HW.out.bel⟩
end Go.Proofs.YtelehhfnomdneaaGreatDoor.Sp
namespace Go.Proofs.YtelehhfnomdneaaGreatDoor.Sp
open Go Go.RowKit Ut Tc

abbrev Ch := List (Wd × Nat)
def pickP (t : Wd) : Ch → Option Nat
  | [] => none
  | c :: l => if c.1 = t then some c.2 else pickP t l
def chC (l : Ch) : Array Value := ⟨l.flatMap fun c => [sv c.1, .int .i64 (c.2 : Int)]⟩
theorem ch_at : ∀ (l : Ch) (i : Nat) (h : i < l.length) (j : Nat), j < 2 → (l.flatMap fun c => [sv c.1, Value.int .i64 (c.2 : Int)])[i * 2 + j]? = [sv l[i].1, Value.int .i64 (l[i].2 : Int)][j]?
  | [], _, h, _, _ => absurd h (Nat.not_lt_zero _)
  | c :: l, 0, _, j, hj => by
    rw [List.flatMap_cons, Nat.zero_mul, Nat.zero_add, List.getElem?_append_left (by simpa using hj)]; rfl
  | c :: l, i + 1, h, j, hj => by
    have := ch_at l i (by simpa using h) j hj
    rw [List.flatMap_cons, List.getElem?_append_right (by simp; omega)]
    simpa [show (i + 1) * 2 + j - 2 = i * 2 + j by omega] using this
theorem ch_cell {W : World} {g : Nat} {l : Ch} (h : Blk W g 76 (chC l)) {i : Nat} (hi : i < l.length) : W.cell? ⟨g, i * 2, none⟩ = some (.string ⟨⟨l[i].1⟩⟩) ∧ W.cell? ⟨g, i * 2 + 1, none⟩ = some (.int .i64 (l[i].2 : Int)) := by
  rw [h.cell, h.cell]
  exact ⟨(List.getElem?_toArray ..).trans (ch_at l i hi 0 (by omega)), (List.getElem?_toArray ..).trans (ch_at l i hi 1 (by omega))⟩
set_option maxHeartbeats 1000000 in
set_option maxRecDepth 100000 in
theorem tpick_any {g n c : Nat} {l : Ch} {w : World} (h : Blk w g 76 (chC l)) (hn : l.length = n) (h9 : n ≤ 9) (t : Wd) :
    Calls Tryz.prog 11 #[.slice (some ⟨g, 0, none⟩) n c, .string ⟨⟨t⟩⟩] w fun e w' => e = .returned (.tuple #[.int .i64 ((pickP t l).getD 0 : Nat), .bool (pickP t l).isSome]) ∧ Below w.heap.size w w' := by
  have HB := Lib.hid h
  have HN := Lib.hid hn
  have hg := h.lt
  clear h hn
  obtain ⟨P, HP⟩ : ∃ P, Hid (pickP t l = P) := ⟨_, Lib.hid rfl⟩
  rw [HP.out]
  go_enter Tryz.func11, Tryz.ntmps11
  go_wp2
  go_loopw [10] (fun iv wr => ∃ j : Nat, j ≤ n ∧ iv = .int .i64 (j : Int) ∧ Hid (pickP t (l.drop j) = P) ∧ Hid (Below w.heap.size w wr)) (fun iv _ => n - (intOf iv).toNat)
  case atStart => exact ⟨0, Nat.zero_le _, rfl, HP.out, Below.refl _ _⟩
  case round =>
    obtain ⟨j, hj, rfl, hp, hbel⟩ := hrel
    by_cases hgo : j < n
    · have hjl : j < l.length := by rw [HN.out]; exact hgo
      obtain ⟨c0, c1⟩ := ch_cell (show Blk wr g 76 (chC l) from (hbel.out.block g hg).trans HB.out) hjl
      have hpd : Hid (pickP t (l.drop j) = if l[j].1 = t then some l[j].2 else pickP t (l.drop (j + 1))) := by
        show _ = _
        rw [List.drop_eq_getElem_cons hjl]; rfl
      generalize l[j] = p at *
      obtain ⟨x, m⟩ := p
      by_cases hx : x = t
      · have hxx : (x == t) = true := by simp [hx]
        have hP : P = some m := hp.out.symm.trans (hpd.out.trans (if_pos hx))
        clear hx HP hp
        subst hP
        go_wp2
        go_ret2
        exact ⟨rfl, hbel.out.alloc hbel.out.size _⟩
      · have hxx : (x == t) = false := by simpa using hx
        have hp2 := Lib.hid (hpd.out.symm.trans hp.out |>.symm.trans (if_neg hx) |>.symm)
        clear hx hpd
        go_wp2
        exact ⟨⟨j + 1, by omega, by go_num, hp2.out, hbel.out.alloc hbel.out.size _⟩, by simp [intOf]; omega⟩
    · have hjn : j = n := by omega
      subst hjn
      have hP : P = none := by
        rw [← hp.out, List.drop_eq_nil_of_le (by rw [HN.out]; exact Nat.le_refl _)]; rfl
      clear HP hp
      subst hP
      go_wp2
      go_ret2
      exact ⟨rfl, hbel.out⟩
def kindsCh : Ch := [([116, 114, 101, 101], 1), ([102, 111, 114, 101, 115, 116], 2), ([98, 111, 111, 115, 116], 3), ([108, 105, 110, 101], 4), ([109, 101, 97, 110], 5), ([110, 101, 97, 114], 6), ([98, 97, 121, 101, 115], 7), ([110, 101, 116], 8), ([115, 116, 114, 101, 101, 116], 9)]
def howCh : Ch := [([112, 108, 97, 105, 110], 0), ([114, 97, 110, 103, 101], 1), ([115, 112, 114, 101, 97, 100], 2)]
def bendCh : Ch := [([115, 116, 114, 97, 105, 103, 104, 116], 1), ([114, 97, 109, 112], 2), ([98, 101, 110, 100], 3)]
def lossCh : Ch := [([115, 113, 117, 97, 114, 101, 115], 1), ([116, 105, 108, 116], 2)]
theorem kinds_any (w : World) : Calls Tryz.prog 12 #[] w fun e w' => e = .returned (.slice (some ⟨w.heap.size, 0, none⟩) 9 9) ∧ Blk w' w.heap.size 76 (chC kindsCh) ∧ Below w.heap.size w w' := by
  go_enter Tryz.func12, Tryz.ntmps12
  go_wp2
  go_ret
  exact ⟨rfl, Blk.new _ _ _, (Below.refl _ _).alloc (Nat.le_refl _) _⟩
def chOf (k : Wd) : Option Ch := if k = [104, 111, 119] then some howCh else if k = [98, 101, 110, 100] then some bendCh else if k = [108, 111, 115, 115] then some lossCh else none
def ChOut (o : Option Ch) (w : World) (e : Ending) (w' : World) : Prop := match o with
  | some l => e = .returned (.tuple #[.slice (some ⟨w.heap.size, 0, none⟩) l.length l.length, .bool true]) ∧ Blk w' w.heap.size 76 (chC l) ∧ Below w.heap.size w w'
  | none => e = .returned (.tuple #[.slice none 0 0, .bool false]) ∧ Below w.heap.size w w'
theorem choices_any (k : Wd) (w : World) : Calls Tryz.prog 28 #[.string ⟨⟨k⟩⟩] w fun e w' => ChOut (chOf k) w e w' := by
  by_cases h1 : k = [104, 111, 119]
  · subst h1
    show Calls _ _ _ _ fun e w' => ChOut (some howCh) w e w'
    go_enter Tryz.func28, Tryz.ntmps28
    go_wp2
    go_ret2
    exact ⟨rfl, Blk.new _ _ _, (Below.refl _ _).alloc (Nat.le_refl _) _⟩
  · by_cases h2 : k = [98, 101, 110, 100]
    · subst h2
      show Calls _ _ _ _ fun e w' => ChOut (some bendCh) w e w'
      go_enter Tryz.func28, Tryz.ntmps28
      go_wp2
      go_ret2
      exact ⟨rfl, Blk.new _ _ _, (Below.refl _ _).alloc (Nat.le_refl _) _⟩
    · by_cases h3 : k = [108, 111, 115, 115]
      · subst h3
        show Calls _ _ _ _ fun e w' => ChOut (some lossCh) w e w'
        go_enter Tryz.func28, Tryz.ntmps28
        go_wp2
        go_ret2
        exact ⟨rfl, Blk.new _ _ _, (Below.refl _ _).alloc (Nat.le_refl _) _⟩
      · have e : chOf k = none := by unfold chOf; rw [if_neg h1, if_neg h2, if_neg h3]
        rw [e]
        have d1 : (k == [104, 111, 119]) = false := by simpa using h1
        have d2 : (k == [98, 101, 110, 100]) = false := by simpa using h2
        have d3 : (k == [108, 111, 115, 115]) = false := by simpa using h3
        clear h1 h2 h3 e
        show Calls _ _ _ _ fun e w' => e = .returned (.tuple #[.slice none 0 0, .bool false]) ∧ Below w.heap.size w w'
        go_enter Tryz.func28, Tryz.ntmps28
        go_wp2
        go_ret2
        exact ⟨rfl, Below.refl _ _⟩
end Go.Proofs.YtelehhfnomdneaaGreatDoor.Sp
namespace Go.Proofs.YtelehhfnomdneaaGreatDoor.Sp
open Go Go.RowKit Ut Tc

/- Blocks that do not fit are as they were. -/
structure Alt (w w' : World) (p : Nat → Prop) : Prop where
  os : w'.os = w.os
  tape : w'.tape = w.tape
  output : w'.output = w.output
  size : w.heap.size ≤ w'.heap.size
  block : ∀ k, k < w.heap.size → ¬ p k → w'.heap[k]? = w.heap[k]?
section
variable {w w' w'' : World} {p q : Nat → Prop}
theorem Alt.refl (w : World) (p : Nat → Prop) : Alt w w p := ⟨rfl, rfl, rfl, Nat.le_refl _, fun _ _ _ => rfl⟩
theorem Alt.mono (h : Alt w w' p) (hp : ∀ k, p k → q k) : Alt w w' q := ⟨h.os, h.tape, h.output, h.size, fun k hk hq => h.block k hk fun h => hq (hp k h)⟩
theorem Alt.trans (h : Alt w w' p) (h' : Alt w' w'' q) (hp : ∀ k, k < w.heap.size → q k → p k) : Alt w w'' p :=
  ⟨h'.os.trans h.os, h'.tape.trans h.tape, h'.output.trans h.output, Nat.le_trans h.size h'.size, fun k hk hk' => (h'.block k (Nat.lt_of_lt_of_le hk h.size) fun hq => hk' (hp k hk hq)).trans (h.block k hk hk')⟩
theorem Alt.drewN (h : Alt w w' p) (n : Nat) : Alt w (w'.drewN n) p := ⟨h.os, h.tape, h.output, h.size, h.block⟩
theorem Alt.set_ (h : Alt w w' p) {a : Addr} (hp : p a.block) (v : Value) : Alt w (w'.setCell a v) p :=
  ⟨h.os, h.tape, h.output, by simpa using h.size, fun k hk hk' => (Below.heap_setCell w' a v k (fun e => hk' (by rw [e]; exact hp))).trans (h.block k hk hk')⟩
theorem Alt.alloc (h : Alt w w' p) (o : Obj) : Alt w (w'.alloc o) p :=
  ⟨h.os, h.tape, h.output, by have := h.size; simp; omega, fun k hk hk' => (Below.heap_alloc w' o k (Nat.lt_of_lt_of_le hk h.size)).trans (h.block k hk hk')⟩
theorem Alt.grown {row : Option Nat} (h : Alt w w' p) (hg : w'.grownBy w'' row) (hr : ∀ g, row = some g → g < w.heap.size → p g) : Alt w w'' p :=
  ⟨hg.os.trans h.os, hg.tape.trans h.tape, hg.output.trans h.output, Nat.le_trans h.size hg.size, fun k hk hk' =>
    (hg.block k (Nat.lt_of_lt_of_le hk h.size) (fun e => hk' (hr k e.symm hk))).trans (h.block k hk hk')⟩
theorem Alt.below {B : Nat} (h : Alt w w' p) (hp : ∀ k, p k → B ≤ k) (hB : B ≤ w.heap.size) : Below B w w' := ⟨h.os, h.tape, h.output, h.size, fun k hk => h.block k (by omega) fun hpk => by have := hp k hpk; omega⟩
end
theorem Alt.then_below {w w' w'' : World} {p : Nat → Prop} (h : Alt w w' p) (hb : Below w'.heap.size w' w'') : Alt w w'' p :=
  ⟨hb.os.trans h.os, hb.tape.trans h.tape, hb.output.trans h.output, Nat.le_trans h.size hb.size, fun k hk hp => (hb.block k (Nat.lt_of_lt_of_le hk h.size)).trans (h.block k hk hp)⟩
abbrev Mp := List (Wd × Value)
def lk (m : Mp) (s : Wd) : Option Value := match m with
  | [] => none
  | p :: l => if p.1 = s then some p.2 else lk l s
theorem lk_append (m n : Mp) (s : Wd) : lk (m ++ n) s = (lk m s).or (lk n s) := by
  induction m with
  | nil => rfl
  | cons p l ih =>
    show (if p.1 = s then some p.2 else lk (l ++ n) s) = (if p.1 = s then some p.2 else lk l s).or _
    split
    · rfl
    · exact ih
def MapIs (w : World) (b : Nat) (m : Mp) : Prop := ∃ (es : Array MapEntry) (clock : Nat), w.heap[b]? = some (.map es clock) ∧ es.toList.map (fun e => (e.key, e.val)) = m.map (fun p => (sv p.1, p.2))
theorem MapIs.lt {w : World} {b : Nat} {m : Mp} (h : MapIs w b m) : b < w.heap.size := by
  obtain ⟨es, c, hb, _⟩ := h
  exact (Array.getElem?_eq_some_iff.1 hb).1
theorem MapIs.keep {w w' : World} {b : Nat} {m : Mp} (h : MapIs w b m) (hk : w'.heap[b]? = w.heap[b]?) : MapIs w' b m := by
  obtain ⟨es, c, hb, he⟩ := h
  exact ⟨es, c, hk.trans hb, he⟩
theorem MapIs.below {w w' : World} {b : Nat} {m : Mp} (h : MapIs w b m) (hb : Below w.heap.size w w') : MapIs w' b m := h.keep (hb.block b h.lt)
theorem MapIs.alt {w w' : World} {b : Nat} {m : Mp} {p : Nat → Prop} (h : MapIs w b m) (ha : Alt w w' p) (hp : ¬ p b) : MapIs w' b m := h.keep (ha.block b h.lt hp)
theorem MapIs.new (w : World) : MapIs (w.alloc (.map #[] 0)) w.heap.size [] := ⟨#[], 0, (MapKept.heap_alloc w _).1, rfl⟩
theorem sv_inj {a b : Wd} (h : sv a = sv b) : a = b := by
  unfold sv at h
  injection h with h
  injection h with h
  injection h
theorem find_is {s : Wd} : ∀ (l : List MapEntry) (m : Mp) (i : Nat), l.map (fun e => (e.key, e.val)) = m.map (fun p => (sv p.1, p.2)) →
    (lk m s = none ∧ Instr.findNow .string (sv s) l i = some none) ∨ ∃ v j, lk m s = some v ∧ Instr.findNow .string (sv s) l i = some (some (j, v))
  | [], [], i, _ => .inl ⟨rfl, rfl⟩
  | [], _ :: _, _, h => by cases h
  | _ :: _, [], _, h => by cases h
  | e :: l, p :: m, i, h => by
    rw [List.map_cons, List.map_cons] at h
    injection h with h1 h2
    injection h1 with h1 h3
    by_cases hp : p.1 = s
    · refine .inr ⟨p.2, i, if_pos hp, ?_⟩
      have e1 : Instr.sameNow .string (sv s) e.key = some true := by
        rw [h1, hp]
        show some ((⟨⟨s⟩⟩ : ByteArray) == ⟨⟨s⟩⟩) = some true
        rw [(MapKept.bytes_beq _ _).2 rfl]
      unfold Instr.findNow
      rw [e1, h3]
    · have e1 : Instr.sameNow .string (sv s) e.key = some false := by
        rw [h1]
        show some ((⟨⟨s⟩⟩ : ByteArray) == ⟨⟨p.1⟩⟩) = some false
        have : ¬ ((⟨⟨s⟩⟩ : ByteArray) == ⟨⟨p.1⟩⟩) = true := fun h => by
          have := (MapKept.bytes_beq _ _).1 h
          injection this with this
          injection this with this
          exact hp this.symm
        simpa using this
      have e2 : lk (p :: m) s = lk m s := if_neg hp
      rw [e2]
      have e3 : Instr.findNow .string (sv s) (e :: l) i = Instr.findNow .string (sv s) l (i + 1) := by
        rw [Instr.findNow]
        rw [e1]
      rw [e3]
      exact find_is l m (i + 1) h2
section
variable {P : Program} {t k e : TypeId} {w : World} {b : Nat} {m : Mp}
theorem run_lk (ht : P.underlying t = some (.map k e)) (hk : P.underlying k = some .string) {z : Value} (hz : (zeroValue e).run P w = .ok z w) (h : MapIs w b m) (s : Wd) :
    (Instr.lookup t (.map (some b)) (.string ⟨⟨s⟩⟩) false).run P w = .ok ((lk m s).getD z) w := by
  obtain ⟨es, c, hb, he⟩ := h
  have hc : (Instr.checkKey es.isEmpty 10000 k (sv s)).run P w = .ok () w := MapKept.run_checkKey (k := sv s) hk (by simp [MapKept.IsKey, sv]) _ 9999
  rcases find_is (s := s) es.toList m 0 he with ⟨h1, h2⟩ | ⟨v, j, h1, h2⟩
  · have hf := MapKept.run_findKey (P := P) (w := w) hk h2
    unfold sv at hc hf
    simp [Instr.lookup, run_underlying ht, MapKept.run_getObj_map hb, hc, hf, Result.andThen, hz, h1]
  · have hf := MapKept.run_findKey (P := P) (w := w) hk h2
    unfold sv at hc hf
    simp [Instr.lookup, run_underlying ht, MapKept.run_getObj_map hb, hc, hf, Result.andThen, h1]
theorem run_up (ht : P.underlying t = some (.map k e)) (hk : P.underlying k = some .string) (h : MapIs w b m) (s : Wd) (v : Value) (hn : lk m s = none) :
    ∃ w', (Instr.mapUpdate t (.map (some b)) (.string ⟨⟨s⟩⟩) v).run P w = .ok () w' ∧ MapIs w' b (m ++ [(s, v)]) ∧ Alt w w' (fun x => x = b) ∧ w'.heap.size = w.heap.size := by
  have hlt := h.lt
  obtain ⟨es, c, hb, he⟩ := h
  have hc : (Instr.checkKey false 10000 k (sv s)).run P w = .ok () w := MapKept.run_checkKey (k := sv s) hk (by simp [MapKept.IsKey, sv]) _ 9999
  rcases find_is (s := s) es.toList m 0 he with ⟨h1, h2⟩ | ⟨v, j, h1, h2⟩
  · have hf := MapKept.run_findKey (P := P) (w := w) hk h2
    unfold sv at hc hf
    refine ⟨{ w with heap := w.heap.setIfInBounds b (.map (es.push { key := .string ⟨⟨s⟩⟩, val := v, born := c }) (c + 1)) }, ?_, ⟨_, _, (MapKept.heap_set hb).1, ?_⟩, ⟨rfl, rfl, rfl, by simp, fun x _ hx => (MapKept.heap_set hb).2 x hx⟩, by simp⟩
    · simp [Instr.mapUpdate, run_underlying ht, MapKept.run_getObj_map hb, hc, hf, MapKept.run_setObj_map _ hb, Result.andThen]
    · rw [Array.toList_push, List.map_append, List.map_append, he]; rfl
  · rw [hn] at h1; cases h1
end
end Go.Proofs.YtelehhfnomdneaaGreatDoor.Sp
namespace Go.Proofs.YtelehhfnomdneaaGreatDoor.Sp
open Go Go.RowKit Ut Tc

def numKeys : List Wd := [[97, 120, 101, 115], [99, 111, 117, 110, 116], [115, 101, 101, 100], [98, 105, 116, 115], [100, 101, 101, 112], [108, 101, 97, 115, 116], [116, 114, 101, 101, 115], [115, 111, 109, 101], [114, 111, 117, 110, 100, 115], [115, 116, 101, 112, 115], [98, 97, 116, 99, 104]]
def fracKeys : List Wd := [[98, 121], [115, 112, 97, 110], [103, 97, 105, 110], [114, 97, 116, 101], [107, 101, 101, 112], [97, 116]]
def sizesK : Wd := [115, 105, 122, 101, 115]
def numOf (k t : Wd) : Option Nat := match chOf k with
  | some l => pickP t l
  | none => if k ∈ numKeys then numT t else none
def fracOf (k t : Wd) : Option (Bool × Nat × Nat) := if k ∈ fracKeys then fracT t else none
def numsT : List Wd → Option (List Nat)
  | [] => some []
  | t :: l => match numT t with
    | some n => (numsT l).map (n :: ·)
    | none => none
def sizesOf (k t : Wd) : Option (List Nat) := if k = sizesK then numsT (cuts [] t) else none
def fine (k t : Wd) : Bool := (numOf k t).isSome || (fracOf k t).isSome || (sizesOf k t).isSome
abbrev Acc := List (Wd × Wd)
def keysOf (acc : Acc) : List Wd := acc.map (·.1)
def seenM (acc : Acc) : Mp := acc.map fun p => (p.1, .bool true)
def numsM (acc : Acc) : Mp := acc.filterMap fun p => (numOf p.1 p.2).map fun (n : Nat) => (p.1, .int .i64 (n : Int))
def fracsM (acc : Acc) : Mp := acc.filterMap fun p => (fracOf p.1 p.2).map fun q => (p.1, .agg ⟨qOf q⟩)
def sizesP (acc : Acc) : List Nat := acc.flatMap fun p => (sizesOf p.1 p.2).getD []
theorem lk_seen (acc : Acc) (k : Wd) : lk (seenM acc) k = if k ∈ keysOf acc then some (.bool true) else none := by
  induction acc with
  | nil => rfl
  | cons p l ih =>
    show (if p.1 = k then some (Value.bool true) else lk (seenM l) k) = _
    rw [ih]
    show _ = if k ∈ p.1 :: keysOf l then _ else _
    by_cases h : p.1 = k
    · rw [if_pos h, if_pos (by rw [h]; exact List.mem_cons_self)]
    · rw [if_neg h]
      by_cases h2 : k ∈ keysOf l
      · rw [if_pos h2, if_pos (List.mem_cons_of_mem _ h2)]
      · rw [if_neg h2, if_neg (fun hm => by
          rcases List.mem_cons.1 hm with e | e
          · exact h e.symm
          · exact h2 e)]
theorem lk_none {m : Mp} {k : Wd} (h : ∀ p ∈ m, p.1 ≠ k) : lk m k = none := by
  induction m with
  | nil => rfl
  | cons p l ih =>
    show (if p.1 = k then some p.2 else lk l k) = none
    rw [if_neg (h p List.mem_cons_self)]
    exact ih fun q hq => h q (List.mem_cons_of_mem _ hq)
theorem lk_nums {acc : Acc} {k : Wd} (h : k ∉ keysOf acc) : lk (numsM acc) k = none := lk_none fun p hp e => by
  obtain ⟨q, hq, hpq⟩ := List.mem_filterMap.1 hp
  obtain ⟨n, _, rfl⟩ := Option.map_eq_some_iff.1 hpq
  exact h (by rw [← e]; exact List.mem_map_of_mem (f := (·.1)) hq)
theorem lk_fracs {acc : Acc} {k : Wd} (h : k ∉ keysOf acc) : lk (fracsM acc) k = none := lk_none fun p hp e => by
  obtain ⟨q, hq, hpq⟩ := List.mem_filterMap.1 hp
  obtain ⟨n, _, rfl⟩ := Option.map_eq_some_iff.1 hpq
  exact h (by rw [← e]; exact List.mem_map_of_mem (f := (·.1)) hq)
theorem seenM_snoc (acc : Acc) (k t : Wd) : seenM (acc ++ [(k, t)]) = seenM acc ++ [(k, .bool true)] := by unfold seenM; simp
theorem numsM_snoc (acc : Acc) (k t : Wd) : numsM (acc ++ [(k, t)]) = numsM acc ++ (match numOf k t with | some n => [(k, .int .i64 (n : Int))] | none => []) := by
  unfold numsM
  rw [List.filterMap_append]
  cases h : numOf k t <;> simp [h]
theorem fracsM_snoc (acc : Acc) (k t : Wd) : fracsM (acc ++ [(k, t)]) = fracsM acc ++ (match fracOf k t with | some q => [(k, .agg ⟨qOf q⟩)] | none => []) := by
  unfold fracsM
  rw [List.filterMap_append]
  cases h : fracOf k t <;> simp [h]
theorem sizesP_snoc (acc : Acc) (k t : Wd) : sizesP (acc ++ [(k, t)]) = sizesP acc ++ (sizesOf k t).getD [] := by unfold sizesP; simp
theorem own_belowS {w w' : World} {base n size : Nat} {e : TypeId} {v : Value} {xs : List Value} (h : w.ownsRow base e size v n xs) (hb : Below w.heap.size w w') : w'.ownsRow base e size v n xs := by
  refine ⟨h.1, ?_⟩
  rcases h.2 with h2 | ⟨g, cap, cur, rfl, h3, h4, h5⟩
  · exact .inl h2
  · exact .inr ⟨g, cap, cur, rfl, h3, (hb.block g (lt_of_block h4)).trans h4, h5⟩
theorem own_alt {w w' : World} {base n size : Nat} {e : TypeId} {v : Value} {xs : List Value} {p : Nat → Prop} (h : w.ownsRow base e size v n xs) (ha : Alt w w' p) (hp : ∀ g, base ≤ g → ¬ p g) : w'.ownsRow base e size v n xs := by
  refine ⟨h.1, ?_⟩
  rcases h.2 with h2 | ⟨g, cap, cur, rfl, h3, h4, h5⟩
  · exact .inl h2
  · exact .inr ⟨g, cap, cur, rfl, h3, (ha.block g (lt_of_block h4) (hp g h3)).trans h4, h5⟩
def nat64 (l : List Nat) : List Value := l.map fun (n : Nat) => Value.int .i64 (n : Int)
/- The values in memory: three maps and a list of sizes. -/
structure VRaw (w : World) (B0 vb b1 b2 b3 S0 : Nat) (sz : Value) (m1 m2 m3 : Mp) (zs : List Nat) : Prop where
  blk : Blk w vb 61 #[.map (some b1), .map (some b2), .map (some b3), sz]
  m1 : MapIs w b1 m1
  m2 : MapIs w b2 m2
  m3 : MapIs w b3 m3
  own : w.ownsRow S0 3 1 sz zs.length (nat64 zs)
  lo : B0 ≤ vb ∧ B0 ≤ b1 ∧ B0 ≤ b2 ∧ B0 ≤ b3
  hi : vb < S0 ∧ b1 < S0 ∧ b2 < S0 ∧ b3 < S0
  ne : vb ≠ b1 ∧ vb ≠ b2 ∧ vb ≠ b3 ∧ b1 ≠ b2 ∧ b1 ≠ b3 ∧ b2 ≠ b3
  sz_ : S0 ≤ w.heap.size
def VAt (w : World) (B0 vb b1 b2 b3 S0 : Nat) (sz : Value) (acc : Acc) : Prop := VRaw w B0 vb b1 b2 b3 S0 sz (seenM acc) (numsM acc) (fracsM acc) (sizesP acc)
section
variable {w w' : World} {B0 vb b1 b2 b3 S0 : Nat} {sz : Value} {m1 m2 m3 : Mp} {zs : List Nat}
theorem VRaw.below (h : VRaw w B0 vb b1 b2 b3 S0 sz m1 m2 m3 zs) (hb : Below w.heap.size w w') : VRaw w' B0 vb b1 b2 b3 S0 sz m1 m2 m3 zs :=
  ⟨(hb.block vb h.blk.lt).trans h.blk, h.m1.below hb, h.m2.below hb, h.m3.below hb, own_belowS h.own hb, h.lo, h.hi, h.ne, Nat.le_trans h.sz_ hb.size⟩
theorem VRaw.cells (h : VRaw w B0 vb b1 b2 b3 S0 sz m1 m2 m3 zs) : w.cell? ⟨vb, 0, none⟩ = some (.map (some b1)) ∧ w.cell? ⟨vb, 1, none⟩ = some (.map (some b2)) ∧ w.cell? ⟨vb, 2, none⟩ = some (.map (some b3)) ∧ w.cell? ⟨vb, 3, none⟩ = some sz :=
  ⟨h.blk.cell 0, h.blk.cell 1, h.blk.cell 2, h.blk.cell 3⟩
theorem VRaw.up1 (h : VRaw w B0 vb b1 b2 b3 S0 sz m1 m2 m3 zs) (k : Wd) (v : Value) (hn : lk m1 k = none) : ∃ w', (Instr.mapUpdate 57 (.map (some b1)) (.string ⟨⟨k⟩⟩) v).run Tryz.prog w = .ok () w' ∧ VRaw w' B0 vb b1 b2 b3 S0 sz (m1 ++ [(k, v)]) m2 m3 zs ∧ Below B0 w w' ∧ w'.heap.size = w.heap.size := by
  obtain ⟨w', hr, hm, ha, hs⟩ := run_up (P := Tryz.prog) Tryz.underlying57 Tryz.underlying9 h.m1 k v hn
  obtain ⟨n1, n2, n3, n4, n5, n6⟩ := h.ne
  obtain ⟨l0, l1, l2, l3⟩ := h.lo
  obtain ⟨i0, i1, i2, i3⟩ := h.hi
  exact ⟨w', hr, ⟨(ha.block vb h.blk.lt n1).trans h.blk, hm, h.m2.alt ha (Ne.symm n4), h.m3.alt ha (Ne.symm n5), own_alt h.own ha (fun g hg e => by omega), h.lo, h.hi, h.ne, by have := h.sz_; omega⟩, ha.below (fun x hx => by omega) (by have := h.sz_; omega), hs⟩
theorem VRaw.up2 (h : VRaw w B0 vb b1 b2 b3 S0 sz m1 m2 m3 zs) (k : Wd) (v : Value) (hn : lk m2 k = none) : ∃ w', (Instr.mapUpdate 58 (.map (some b2)) (.string ⟨⟨k⟩⟩) v).run Tryz.prog w = .ok () w' ∧ VRaw w' B0 vb b1 b2 b3 S0 sz m1 (m2 ++ [(k, v)]) m3 zs ∧ Below B0 w w' ∧ w'.heap.size = w.heap.size := by
  obtain ⟨w', hr, hm, ha, hs⟩ := run_up (P := Tryz.prog) Tryz.underlying58 Tryz.underlying9 h.m2 k v hn
  obtain ⟨n1, n2, n3, n4, n5, n6⟩ := h.ne
  obtain ⟨l0, l1, l2, l3⟩ := h.lo
  obtain ⟨i0, i1, i2, i3⟩ := h.hi
  exact ⟨w', hr, ⟨(ha.block vb h.blk.lt n2).trans h.blk, h.m1.alt ha n4, hm, h.m3.alt ha (Ne.symm n6), own_alt h.own ha (fun g hg e => by omega), h.lo, h.hi, h.ne, by have := h.sz_; omega⟩, ha.below (fun x hx => by omega) (by have := h.sz_; omega), hs⟩
theorem VRaw.up3 (h : VRaw w B0 vb b1 b2 b3 S0 sz m1 m2 m3 zs) (k : Wd) (v : Value) (hn : lk m3 k = none) : ∃ w', (Instr.mapUpdate 59 (.map (some b3)) (.string ⟨⟨k⟩⟩) v).run Tryz.prog w = .ok () w' ∧ VRaw w' B0 vb b1 b2 b3 S0 sz m1 m2 (m3 ++ [(k, v)]) zs ∧ Below B0 w w' ∧ w'.heap.size = w.heap.size := by
  obtain ⟨w', hr, hm, ha, hs⟩ := run_up (P := Tryz.prog) Tryz.underlying59 Tryz.underlying9 h.m3 k v hn
  obtain ⟨n1, n2, n3, n4, n5, n6⟩ := h.ne
  obtain ⟨l0, l1, l2, l3⟩ := h.lo
  obtain ⟨i0, i1, i2, i3⟩ := h.hi
  exact ⟨w', hr, ⟨(ha.block vb h.blk.lt n3).trans h.blk, h.m1.alt ha n5, h.m2.alt ha n6, hm, own_alt h.own ha (fun g hg e => by omega), h.lo, h.hi, h.ne, by have := h.sz_; omega⟩, ha.below (fun x hx => by omega) (by have := h.sz_; omega), hs⟩
end
end Go.Proofs.YtelehhfnomdneaaGreatDoor.Sp
namespace Go.Proofs.YtelehhfnomdneaaGreatDoor.Sp
open Go Go.RowKit Ut Tc

theorem zB (w : World) : (zeroValue 4).run Tryz.prog w = .ok (.bool false) w := by kernel_rfl
theorem zI (w : World) : (zeroValue 3).run Tryz.prog w = .ok (.int .i64 0) w := by kernel_rfl
theorem zQ (w : World) : (zeroValue 32).run Tryz.prog w = .ok (.agg ⟨qz⟩) w := by kernel_rfl
theorem cut_some {b : ByteArray} {k t : Wd} (h : IsWord b (some (k, t))) (w : World) (hm : MaxAt w) :
    Calls Tryz.prog 27 #[.string b, .string ⟨#[61]⟩] w fun e w' => e = .returned (.tuple #[.string ⟨⟨k⟩⟩, .string ⟨⟨t⟩⟩, .bool true]) ∧ Below w.heap.size w w' := cut61_any h w hm
theorem cut_none {b : ByteArray} (h : IsWord b none) (w : World) (hm : MaxAt w) :
    Calls Tryz.prog 27 #[.string b, .string ⟨#[61]⟩] w fun e w' => e = .returned (.tuple #[.string b, .string ⟨⟨[]⟩⟩, .bool false]) ∧ Below w.heap.size w w' := cut61_any h w hm
def TakeOut (w : World) (B0 vb b1 b2 b3 S0 : Nat) (_acc : Acc) (ok : Bool) (acc' : Acc) (e : Ending) (w' : World) : Prop :=
  e = .returned (.bool ok) ∧ Below B0 w w' ∧ (ok = true → ∃ sz, VAt w' B0 vb b1 b2 b3 S0 sz acc')
section
variable {w : World} {B0 vb b1 b2 b3 S0 : Nat} {sz : Value} {acc : Acc} {b : ByteArray} {k t : Wd}
theorem take_none (_hv : VAt w B0 vb b1 b2 b3 S0 sz acc) (hm : MaxAt w) (h : IsWord b none) (hB : B0 ≤ w.heap.size) :
    Calls Tryz.prog 14 #[.pointer (some ⟨vb, 0, none⟩), .string b] w fun e w' => TakeOut w B0 vb b1 b2 b3 S0 acc false acc e w' := by
  have HC : Hid (Calls Tryz.prog _ _ w _) := Lib.hid (cut_none h w hm)
  clear h hm _hv
  go_enter Tryz.func14, Tryz.ntmps14
  go_wp2_with (go_at_call 27; refine HC.out.mono ?_; rintro e w2 ⟨rfl, hb2⟩)
  go_ret
  exact ⟨rfl, hb2.mono hB, fun h => by cases h⟩
theorem take_seen (hv : VAt w B0 vb b1 b2 b3 S0 sz acc) (hm : MaxAt w) (h : IsWord b (some (k, t))) (hB : B0 ≤ w.heap.size) (hk : k ∈ keysOf acc) :
    Calls Tryz.prog 14 #[.pointer (some ⟨vb, 0, none⟩), .string b] w fun e w' => TakeOut w B0 vb b1 b2 b3 S0 acc false acc e w' := by
  have HC : Hid (Calls Tryz.prog _ _ w _) := Lib.hid (cut_some h w hm)
  have HV := Lib.hid hv
  have HL : Hid (lk (seenM acc) k = some (.bool true)) := (lk_seen acc k).trans (if_pos hk)
  clear h hm hv hk
  go_enter Tryz.func14, Tryz.ntmps14
  go_wp2_with (go_at_call 27; refine HC.out.mono ?_; rintro e w2 ⟨rfl, hb2⟩; obtain ⟨c0, c1, c2, c3⟩ := (HV.out.below hb2).cells; have hrun := run_lk (P := Tryz.prog) Tryz.underlying57 Tryz.underlying9 (zB w2) (HV.out.below hb2).m1 k; rw [HL.out] at hrun; simp only [Option.getD_some] at hrun)
  go_ret
  exact ⟨rfl, hb2.mono hB, fun h => by cases h⟩
end
end Go.Proofs.YtelehhfnomdneaaGreatDoor.Sp
