/-
  The columns that are made: the plain ones, with their names.
-/
import Derived.Test.YtdlggegdlknkeaaGreatDoorGp0
namespace Go.Proofs.YtdlggegdlknkeaaGreatDoor.Gp
open Go Go.RowKit Ut

/- The names of column k. -/
def namesAt (k : Nat) : List ByteArray := (if k = 0 then [⟨#[97]⟩] else []) ++ [({ data := #[97, 98, 99, 100, 101, 102] } : ByteArray).extract k (k + 1) ++ ⟨#[95]⟩ ++ ({ data := #[120, 121, 122] } : ByteArray).extract 0 3, ({ data := #[97, 98, 99, 100, 101, 102] } : ByteArray).extract k (k + 1) ++ ⟨#[95]⟩ ++ ({ data := #[120, 121, 122] } : ByteArray).extract 1 3, ({ data := #[97, 98, 99, 100, 101, 102] } : ByteArray).extract k (k + 1) ++ ⟨#[95]⟩ ++ ({ data := #[120, 121, 122] } : ByteArray).extract 2 3]
def nOk (rs : List (ByteArray × Nat)) : Prop := ∀ (i : Nat) (h : i < rs.length), rs[i].1 ∈ namesAt i
theorem nOk_snoc {rs : List (ByteArray × Nat)} {r : ByteArray × Nat} (h : nOk rs) {k : Nat} (hk : rs.length = k) (hr : r.1 ∈ namesAt k) : nOk (rs ++ [r]) := fun i hi => by
  by_cases hl : i < rs.length
  · rw [List.getElem_append_left hl]; exact h i hl
  · have e : i = rs.length := by simp at hi; omega
    subst e
    rw [List.getElem_append_right (Nat.le_refl _)]
    simp only [Nat.sub_self, List.getElem_cons_zero]
    rw [hk]; exact hr
set_option maxHeartbeats 4000000 in
set_option maxRecDepth 100000 in
theorem mcols_any (A : Option Addr) (c : Nat) (xs : List Int) (w : World) (hx : IntsIn w w.heap.size A xs) (hl : xs.length ≤ 9223372036854775807) :
    Calls Tryz.prog 14 #[.slice A xs.length c] w fun e w' => ∃ (v : Value) (rs : List (ByteArray × Nat)), e = .returned v ∧ RColsAt w' w.heap.size v w.heap.size rs ∧ Blk w' w.heap.size 9 wordsC ∧ rOk rs ∧ nOk rs ∧ 1 ≤ rs.length ∧ rs.length ≤ 6 ∧ Below w.heap.size w w' := by
  have HX := Lib.hid hx
  obtain ⟨i0, hi0, hz0, hz1, hz2⟩ := info_parts infoRCol
  have HI := Lib.hid hi0
  have HZ0 := Lib.hid hz0
  have HZ1 := Lib.hid hz1
  have HZ2 := Lib.hid hz2
  clear hi0 hz0 hz1 hz2 hx
  go_enter Tryz.func14, Tryz.ntmps14
  go_wp2
  go_loopw [3, 5] (fun v i wr => ∃ (k : Nat) (rs : List (ByteArray × Nat)), k ≤ xs.length ∧ k ≤ 6 ∧ rs.length = k ∧ i = .int .i64 k ∧ Hid (rOk rs) ∧ Hid (nOk rs) ∧ Hid (RColsAt wr (w.heap.size + 1) v w.heap.size rs) ∧ Hid (Blk wr w.heap.size 9 wordsC) ∧ Below w.heap.size w wr ∧ w.heap.size + 1 ≤ wr.heap.size) (fun _ i _ => xs.length - (intOf i).toNat)
  case atStart => exact ⟨0, [], Nat.zero_le _, Nat.zero_le _, rfl, rfl, (fun q hq => by cases hq), (fun i hi => absurd hi (Nat.not_lt_zero _)), (World.ownsRow_nil _ _ _ _), (Blk.new _ _ _), (Below.refl _ _).alloc (Nat.le_refl _) _, by simp⟩
  case round =>
    obtain ⟨k, rs, hk, hk6, hrl, rfl, hok, hnok, hown, hblk, hbel, hsz⟩ := hrel
    by_cases hgo : k < xs.length ∧ k < 6
    · obtain ⟨hlt, hlt6⟩ := hgo
      obtain ⟨ad, rfl, had, hc⟩ := IntsIn.at_ (Reads.below HX.out hbel) hlt
      have h3 := Int.emod_nonneg xs[k] (show (3 : Int) ≠ 0 by omega)
      have h3' := Int.emod_lt_of_pos xs[k] (show (0 : Int) < 3 by omega)
      obtain ⟨p, HP⟩ : ∃ p, Hid (xs[k] % 3 = p) := ⟨_, Lib.hid rfl⟩
      rw [HP.out] at h3 h3'
      have HPK := Lib.hid (fun W => by have := pick_any xs[k] 3 W (by omega) (by omega); rw [HP.out] at this; exact this)
      have HB := Lib.hid hbel
      clear hbel
      have hk1 : ((k : Int) + 1).toNat = k + 1 := by omega
      have hw1 : IntKind.i64.wrap ((k : Int) + 1) = (k : Int) + 1 := by rw [IntKind.wrap_i64]; omega
      have hw2 : (0 : Int) ≤ (k : Int) + 1 := by omega
      have hw3 : (k : Int) + 1 ≤ 6 := by omega
      have hw4 : (k : Int) ≤ (k : Int) + 1 := by omega
      have hS : ∀ (W : World) (i : Nat) (v : Value), (W.setCell ⟨wr.heap.size, i, none⟩ v).cell? (ad.add k) = W.cell? (ad.add k) := fun W i v => World.cell?_setCell_other W _ _ v (fun e => by have h := congrArg Addr.block e; simp [block_of_add] at h; omega)
      have hmin : min (k + 1) 6 - k = 1 := by omega
      have hsb := HB.out.size
      have hcA : ∀ o, (wr.alloc o).cell? (ad.add k) = some (.int .i64 xs[k]) := fun o => (World.cell?_alloc_lt wr o _ (by rw [block_of_add]; omega)).trans hc
      have hp3 : p = 0 ∨ p = 1 ∨ p = 2 := by omega
      clear h3 h3'
      rcases hp3 with rfl | rfl | rfl
      all_goals go_wp2
      all_goals go_region_held3 (fun w' => w'.cell? (ad.add k) = some (.int .i64 xs[k])) (simp [*]) (first | (go_at_call 6; refine (HPK.out _).mono ?_; rintro e w' ⟨rfl, rfl⟩))
      all_goals
        generalize hnm : (({ data := #[97, 98, 99, 100, 101, 102] } : ByteArray).extract k (k + 1) ++ { data := #[95] } ++ _ : ByteArray) = nm
        have hin : nm ∈ namesAt k := by
          rw [← hnm]
          refine List.mem_append_right _ ?_
          first | exact List.Mem.head _ | exact List.Mem.tail _ (List.Mem.head _) | exact List.Mem.tail _ (List.Mem.tail _ (List.Mem.head _))
        clear hnm
        replace hin := Lib.hid hin
        clear hmin hw1 hw2 hw3 hw4 hk1
        have hown2 : Hid (wr.ownsRow (w.heap.size + 1) 62 3 u3 k (rflat w.heap.size rs)) := by
          have := hown.out
          unfold RColsAt at this
          rw [hrl] at this
          exact this
        have hblk0 := Blk.new wr 62 #[.string nm, .int .i64 1, .slice none 0 0]
        have c0 := hblk0.cell 0
        have c1 := hblk0.cell 1
        have c2 := hblk0.cell 2
        have f1 := hblk0.frozen 1
        have f2 := hblk0.frozen 2
        simp only [List.getElem?_toArray, List.getElem?_cons_zero, List.getElem?_cons_succ] at c0 c1 c2
        go_wp2_with (first
          | (go_at_call 6; refine (pick_some _ _ _ (by omega) (by omega)).mono ?_; rintro e w' ⟨r, hr, rfl, rfl⟩)
          | (at_builtin; refine wpList_append_own _ rfl _ _ 30 rfl (w.heap.size + 1) 62 i0 _ 3 48 Tryz.underlying30 HI.out HZ0.out HZ1.out HZ2.out rfl (by decide) _ k _ rfl (own_below hown2.out ((((Below.refl _ _).alloc (Nat.le_refl _) _).alloc (by simp) _).drew)) ⟨wr.heap.size + 1, 0, none⟩ 1 1 ([.string nm, .int .i64 2, .slice (some ⟨w.heap.size, 0, none⟩) (1 + r) 5]) rfl rfl (fun j u hu => new_read2 wr _ _ _ j u hu) (all_one rfl) (by unfold maxLen; omega) (by omega) (by simp; omega) ?_; intro v' w4 hown4 hgrow _hn)
          | (at_builtin; refine wpList_append_own _ rfl _ _ 30 rfl (w.heap.size + 1) 62 i0 _ 3 48 Tryz.underlying30 HI.out HZ0.out HZ1.out HZ2.out rfl (by decide) _ k _ rfl (own_below hown2.out ((((Below.refl _ _).alloc (Nat.le_refl _) _).alloc (by simp) _).drew)) ⟨wr.heap.size + 1, 0, none⟩ 1 1 ([.string nm, .int .i64 1, .slice none 0 0]) rfl rfl (fun j u hu => new_read2 wr _ _ _ j u hu) (all_one rfl) (by unfold maxLen; omega) (by omega) (by simp; omega) ?_; intro v' w4 hown4 hgrow _hn))
        all_goals
          have hs4 := hgrow.size
          simp only [World.size_drew, World.size_alloc] at hs4
          have hb4 : Below w.heap.size w w4 := (((HB.out.alloc hsb _).alloc (by simp; omega) _).drew).grown hgrow (by simp; omega) (fun j hj => by have := (own_base hown2.out hj).1; omega)
          have hb5 : Below (w.heap.size + 1) wr w4 := ((((Below.refl (w.heap.size + 1) wr).alloc hsz _).alloc (by simp; omega) _).drew).grown hgrow (by simp; omega) (fun j hj => (own_base hown2.out hj).1)
          have hk4 : Blk w4 w.heap.size 9 wordsC := (hb5.block _ (by omega)).trans hblk.out
          first
            | (refine ⟨⟨k + 1, rs ++ [(nm, 1 + r)], by omega, by omega, by simp [hrl], by go_num, rOk_snoc hok.out (by show 1 + r ≤ 5; omega), nOk_snoc hnok.out hrl hin.out, ?_, hk4, hb4, by omega⟩, by simp [intOf]; omega⟩
               show World.ownsRow _ _ _ _ _ _ _
               rw [rflat_snoc, List.length_append, hrl]
               have e : rcCells w.heap.size (nm, 1 + r) = [.string nm, .int .i64 2, .slice (some ⟨w.heap.size, 0, none⟩) (1 + r) 5] := by
                 unfold rcCells kindOf
                 rw [if_neg (by show ¬ 1 + r = 0; omega), if_neg (by show ¬ 1 + r = 0; omega)]
               rw [e]
               exact hown4)
            | (refine ⟨⟨k + 1, rs ++ [(nm, 0)], by omega, by omega, by simp [hrl], by go_num, rOk_snoc hok.out (by show 0 ≤ 5; omega), nOk_snoc hnok.out hrl hin.out, ?_, hk4, hb4, by omega⟩, by simp [intOf]; omega⟩
               show World.ownsRow _ _ _ _ _ _ _
               rw [rflat_snoc, List.length_append, hrl]
               exact hown4)
    · have hown2 : Hid (wr.ownsRow (w.heap.size + 1) 62 3 u3 k (rflat w.heap.size rs)) := by
        have := hown.out
        unfold RColsAt at this
        rw [hrl] at this
        exact this
      obtain ⟨A3, c3, hA3, _⟩ := own_slice hown2.out
      subst hA3
      have HB := Lib.hid hbel
      clear hbel
      have hcond : k = xs.length ∨ k = 6 := by omega
      by_cases hk0 : k = 0
      · subst hk0
        have hx0 : xs.length = 0 := by omega
        go_wp2
        go_ret
        refine ⟨_, [(⟨#[97]⟩, 0)], rfl, ?_, (hblk.out.alloc _), (fun q hq => by rw [List.mem_singleton.1 hq]; exact Nat.zero_le _), (fun i hi => by cases i with | zero => exact List.mem_append_left _ (List.Mem.head _) | succ i => exact absurd hi (by simp)), Nat.le_refl _, by decide, HB.out.alloc HB.out.size _⟩
        refine ⟨rfl, .inr ⟨wr.heap.size, 1, #[.string ⟨#[97]⟩, .int .i64 1, .slice none 0 0], rfl, HB.out.size, heap_alloc_new _ _, Nat.le_refl _, by unfold maxLen; omega, rfl, rfl⟩⟩
      · go_wp2
        all_goals
          go_ret
          exact ⟨_, rs, rfl, (by unfold RColsAt; rw [hrl]; exact own_less hown2.out (by omega)), hblk.out, hok.out, hnok.out, by omega, by omega, HB.out⟩
end Go.Proofs.YtdlggegdlknkeaaGreatDoor.Gp
