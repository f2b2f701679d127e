/-
  The text cut at commas: the plain Cut, strings.Split.
-/
import Derived.Test.YtmkkkeehkobadaaGreatDoorTc1
import Derived.Test.YtmkkkeehkobadaaGreatDoorTl
import Derived.Test.YtmkkkeehkobadaaGreatDoorPi
import Derived.Test.YtmkkkeehkobadaaGreatDoorShelf
import Derived.Test.YtmkkkeehkobadaaGreatDoorUt
namespace Go.Proofs.YtmkkkeehkobadaaGreatDoor.Tc
open Go Go.RowKit Ut

theorem infoStr : (Tryz.prog.info? 9).map (fun i => (i.zero, i.size, i.bytes)) = some (some (.string ⟨#[]⟩), 1, 16) := by kernel_rfl
set_option maxHeartbeats 1000000 in
set_option maxRecDepth 100000 in
theorem cut_any (s : ByteArray) (w : World) (hs : s.size ≤ 1000000) :
    Calls Tryz.prog 13 #[.string s, .int .u8 44] w fun e w' => ∃ (v : Value) (bs : List ByteArray), e = .returned v ∧ w'.ownsRow w.heap.size 9 1 v bs.length (bs.map Value.string) ∧ bs.map (·.data.toList) = cuts [] s.data.toList ∧ Below w.heap.size w w' := by
  obtain ⟨i0, hi0, hz0, hz1, hz2⟩ := info_parts infoStr
  have HI := Lib.hid hi0
  have HZ0 := Lib.hid hz0
  have HZ1 := Lib.hid hz1
  have HZ2 := Lib.hid hz2
  clear hi0 hz0 hz1 hz2
  have hlen : s.data.toList.length = s.size := rfl
  have HL := Lib.hid hlen
  clear hlen
  go_enter Tryz.func13, Tryz.ntmps13
  go_wp2
  go_loopw [5, 6, 7] (fun v fr i wr => ∃ (k f : Nat) (bs : List ByteArray), k ≤ s.size ∧ f ≤ k ∧ bs.length ≤ k ∧ i = .int .i64 k ∧ fr = .int .i64 f ∧ Hid (bs.map (·.data.toList) ++ cuts ((s.data.toList.take k).drop f) (s.data.toList.drop k) = cuts [] s.data.toList) ∧ Hid (wr.ownsRow w.heap.size 9 1 v bs.length (bs.map Value.string)) ∧ Below w.heap.size w wr) (fun _ _ i _ => s.size - (intOf i).toNat)
  case atStart => exact ⟨0, 0, [], Nat.zero_le _, Nat.le_refl _, Nat.zero_le _, rfl, rfl, rfl, World.ownsRow_nil _ _ _ _, Below.refl _ _⟩
  case round =>
    obtain ⟨k, f, bs, hk, hf, hbl, rfl, rfl, hcut, hown, hbel⟩ := hrel
    by_cases hgo : k < s.size
    · have hkL : k < s.data.toList.length := by rw [HL.out]; exact hgo
      have HG : Hid (s.data.toList[k] = s[k]) := by show _ = _; simp; rfl
      have hsz := hbel.size
      go_wp2_with (at_builtin; refine wpList_append_own _ rfl _ _ 29 rfl w.heap.size 9 i0 _ 1 16 Tryz.underlying29 HI.out HZ0.out HZ1.out HZ2.out rfl (by decide) _ bs.length _ rfl (hown.out.alloc _) ⟨wr.heap.size, 0, none⟩ 1 1 [.string (s.extract f k)] rfl rfl (new_read _ _ _) (all_one rfl) (by unfold maxLen; omega) (by omega) (by simp; omega) ?_; intro v' w1 hown' hgrow _hn)
      · have h44 : s.data.toList[k] = 44 := by
          have h : ((s[k].toNat : Int) == 44) = true := by assumption
          have h := beq_iff_eq.1 h
          rw [HG.out]
          exact UInt8.toNat_inj.1 (by simpa using (by omega : s[k].toNat = 44))
        have hb1 : Below w.heap.size w w1 := (hbel.alloc hsz _).grown hgrow (by simp; omega) (fun j hj => (own_base hown.out hj).1)
        refine ⟨⟨k + 1, k + 1, bs ++ [s.extract f k], by omega, Nat.le_refl _, by simp; omega, by go_num, by go_num, ?_, ?_, hb1⟩, by simp [intOf]; omega⟩
        · show _ = _
          rw [List.map_append, List.map_cons, List.map_nil, ext_data]
          exact cut_hit hkL h44 hcut.out
        · show World.ownsRow _ _ _ _ _ _ _
          rw [List.length_append, List.map_append]
          exact hown'
      · have h44 : ¬ s.data.toList[k] = 44 := by
          have h : ((s[k].toNat : Int) == 44) = false := by assumption
          rw [HG.out]
          intro e
          rw [e] at h
          exact absurd h (by decide)
        refine ⟨⟨k + 1, f, bs, by omega, by omega, by omega, by go_num, rfl, cut_go hf hkL h44 hcut.out, hown, hbel⟩, by simp [intOf]; omega⟩
    · have hsz := hbel.size
      go_wp2_with (at_builtin; refine wpList_append_own _ rfl _ _ 29 rfl w.heap.size 9 i0 _ 1 16 Tryz.underlying29 HI.out HZ0.out HZ1.out HZ2.out rfl (by decide) _ bs.length _ rfl (hown.out.alloc _) ⟨wr.heap.size, 0, none⟩ 1 1 [.string (s.extract f s.size)] rfl rfl (new_read _ _ _) (all_one rfl) (by unfold maxLen; omega) (by omega) (by simp; omega) ?_; intro v' w1 hown' hgrow _hn)
      have hb1 : Below w.heap.size w w1 := (hbel.alloc hsz _).grown hgrow (by simp; omega) (fun j hj => (own_base hown.out hj).1)
      go_ret
      refine ⟨v', bs ++ [s.extract f s.size], rfl, ?_, ?_, hb1⟩
      · rw [List.length_append, List.map_append]
        exact hown'
      · rw [List.map_append, List.map_cons, List.map_nil, ext_data, ← HL.out, List.take_of_length_le (Nat.le_refl _)]
        exact cut_end (by rw [HL.out]; omega) hcut.out

/- strings.Split at a comma, of texts joined by commas. -/
def MaxAt (w : World) : Prop := ∃ m, w.cell? ⟨0, 0, none⟩ = some (.int .i64 m)
theorem split_any {ts : List (List UInt8)} (hn : ts ≠ []) (h : ∀ t ∈ ts, NoC t) {s : ByteArray} (hs : s.data.toList = join ts) (hl : s.size ≤ 1000000) (w : World) (hm : MaxAt w) :
    Calls Tryz.prog 11 #[.string s, .string ⟨⟨[44]⟩⟩] w fun e w' => ∃ (v : Value) (bs : List ByteArray), e = .returned v ∧ w'.ownsRow w.heap.size 9 1 v bs.length (bs.map Value.string) ∧ bs.map (·.data.toList) = ts ∧ Below w.heap.size w w' := by
  obtain ⟨m, hm⟩ := hm
  obtain ⟨h1, h2⟩ := split_join hn h hs (sep := ⟨⟨[44]⟩⟩) rfl
  refine (Any.strings_Split { Tryz.laysM146 with } Tryz.laysM146.i9 s ⟨⟨[44]⟩⟩ m w (by omega) hm (by decide)).mono ?_
  rintro e w' ⟨rfl, rfl⟩
  have hlen : (Lib.splitB ⟨⟨[44]⟩⟩ 0 (Lib.countB s ⟨⟨[44]⟩⟩) s).length = ts.length := by rw [← h1, List.length_map]
  refine ⟨_, _, rfl, ?_, h1, (Below.refl _ _).alloc (Nat.le_refl _) _⟩
  have hc : Lib.countB s ⟨⟨[44]⟩⟩ + 1 = (Lib.splitB ⟨⟨[44]⟩⟩ 0 (Lib.countB s ⟨⟨[44]⟩⟩) s).length := by omega
  rw [hc]
  generalize Lib.splitB ⟨⟨[44]⟩⟩ 0 (Lib.countB s ⟨⟨[44]⟩⟩) s = bs at hlen ⊢
  refine ⟨by simp, .inr ⟨w.heap.size, bs.length, (bs.map Value.string).toArray, rfl, Nat.le_refl _, heap_alloc_new w _, Nat.le_refl _, ?_, by simp, by rw [Nat.mul_one]; exact List.take_of_length_le (by simp)⟩⟩
  have := Lib.countB_le ⟨⟨[44]⟩⟩ (by decide) s.size s (Nat.le_refl _)
  unfold maxLen; omega
end Go.Proofs.YtmkkkeehkobadaaGreatDoor.Tc
