/-
  The columns that are made: the plain ones.
-/
import Derived.Test.YtmkkkeehkobadaaGreatDoorTc4
import Derived.Deep.RegionHeld3
namespace Go.Proofs.YtmkkkeehkobadaaGreatDoor.Tc
open Go Go.RowKit Ut

theorem infoRCol : (Tryz.prog.info? 49).map (fun i => (i.zero, i.size, i.bytes)) = some (some (.agg #[.string ⟨#[]⟩, .int .i64 0, .slice none 0 0]), 3, 48) := by kernel_rfl
def rcCells (g : Nat) (r : ByteArray × Nat) : List Value := [.string r.1, .int .i64 (kindOf r.2), if r.2 = 0 then .slice none 0 0 else .slice (some ⟨g, 0, none⟩) r.2 5]
def rflat (g : Nat) (rs : List (ByteArray × Nat)) : List Value := rs.flatMap (rcCells g)
def RColsAt (w : World) (base : Nat) (v : Value) (g : Nat) (rs : List (ByteArray × Nat)) : Prop := w.ownsRow base 49 3 v rs.length (rflat g rs)
def rOk (rs : List (ByteArray × Nat)) : Prop := ∀ r ∈ rs, r.2 ≤ 5
theorem rflat_snoc (g : Nat) (rs : List (ByteArray × Nat)) (r : ByteArray × Nat) : rflat g (rs ++ [r]) = rflat g rs ++ rcCells g r := by unfold rflat; simp
theorem rOk_snoc {rs : List (ByteArray × Nat)} {r : ByteArray × Nat} (h : rOk rs) (hr : r.2 ≤ 5) : rOk (rs ++ [r]) := fun x hx => by
  rcases List.mem_append.1 hx with hx | hx
  · exact h x hx
  · rw [List.mem_singleton.1 hx]; exact hr
def wordsC : Array Value := ⟨wds.map sv⟩

theorem pick_some (n m : Int) (w : World) (h0 : 0 < m) (h1 : m ≤ 4294967296) : Calls Tryz.prog 6 #[.int .i64 n, .int .i64 m] w fun e w' => ∃ r : Nat, (r : Int) < m ∧ e = .returned (.int .i64 (r : Int)) ∧ w = w' := by
  refine (pick_any n m w h0 h1).mono ?_
  rintro e w' ⟨rfl, rfl⟩
  have h2 := Int.emod_nonneg n (by omega : m ≠ 0)
  have h3 := Int.emod_lt_of_pos n h0
  exact ⟨(n % m).toNat, by omega, by rw [Int.toNat_of_nonneg h2], rfl⟩

set_option maxHeartbeats 4000000 in
set_option maxRecDepth 100000 in
theorem mcols_any (A : Option Addr) (c : Nat) (xs : List Int) (w : World) (hx : IntsIn w w.heap.size A xs) (hl : xs.length ≤ 9223372036854775807) :
    Calls Tryz.prog 5 #[.slice A xs.length c] w fun e w' => ∃ (v : Value) (rs : List (ByteArray × Nat)), e = .returned v ∧ RColsAt w' w.heap.size v w.heap.size rs ∧ Blk w' w.heap.size 9 wordsC ∧ rOk rs ∧ 1 ≤ rs.length ∧ rs.length ≤ 6 ∧ Below w.heap.size w w' := by
  have HX := Lib.hid hx
  obtain ⟨i0, hi0, hz0, hz1, hz2⟩ := info_parts infoRCol
  have HI := Lib.hid hi0
  have HZ0 := Lib.hid hz0
  have HZ1 := Lib.hid hz1
  have HZ2 := Lib.hid hz2
  clear hi0 hz0 hz1 hz2 hx
  go_enter Tryz.func5, Tryz.ntmps5
  go_wp2
  go_loopw [3, 5] (fun v i wr => ∃ (k : Nat) (rs : List (ByteArray × Nat)), k ≤ xs.length ∧ k ≤ 6 ∧ rs.length = k ∧ i = .int .i64 k ∧ Hid (rOk rs) ∧ Hid (RColsAt wr (w.heap.size + 1) v w.heap.size rs) ∧ Hid (Blk wr w.heap.size 9 wordsC) ∧ Below w.heap.size w wr ∧ w.heap.size + 1 ≤ wr.heap.size) (fun _ i _ => xs.length - (intOf i).toNat)
  case atStart => exact ⟨0, [], Nat.zero_le _, Nat.zero_le _, rfl, rfl, (fun q hq => by cases hq), (World.ownsRow_nil _ _ _ _), (Blk.new _ _ _), (Below.refl _ _).alloc (Nat.le_refl _) _, by simp⟩
  case round =>
    obtain ⟨k, rs, hk, hk6, hrl, rfl, hok, hown, hblk, hbel, hsz⟩ := hrel
    by_cases hgo : k < xs.length ∧ k < 6
    · obtain ⟨hlt, hlt6⟩ := hgo
      obtain ⟨ad, rfl, had, hc⟩ := IntsIn.at_ (Reads.below HX.out hbel) hlt
      have h3 := Int.emod_nonneg xs[k] (show (3 : Int) ≠ 0 by omega)
      have h3' := Int.emod_lt_of_pos xs[k] (show (0 : Int) < 3 by omega)
      obtain ⟨p, HP⟩ : ∃ p, Hid (xs[k] % 3 = p) := ⟨_, Lib.hid rfl⟩
      rw [HP.out] at h3 h3'
      have HPK := Lib.hid (fun W => by have := pick_any xs[k] 3 W (by omega) (by omega); rw [HP.out] at this; exact this)
      have HB := Lib.hid hbel
      clear hbel
      have hk1 : ((k : Int) + 1).toNat = k + 1 := by omega
      have hw1 : IntKind.i64.wrap ((k : Int) + 1) = (k : Int) + 1 := by rw [IntKind.wrap_i64]; omega
      have hw2 : (0 : Int) ≤ (k : Int) + 1 := by omega
      have hw3 : (k : Int) + 1 ≤ 6 := by omega
      have hw4 : (k : Int) ≤ (k : Int) + 1 := by omega
      have hS : ∀ (W : World) (i : Nat) (v : Value), (W.setCell ⟨wr.heap.size, i, none⟩ v).cell? (ad.add k) = W.cell? (ad.add k) := fun W i v => World.cell?_setCell_other W _ _ v (fun e => by have h := congrArg Addr.block e; simp [block_of_add] at h; omega)
      have hmin : min (k + 1) 6 - k = 1 := by omega
      have hsb := HB.out.size
      have hcA : ∀ o, (wr.alloc o).cell? (ad.add k) = some (.int .i64 xs[k]) := fun o => (World.cell?_alloc_lt wr o _ (by rw [block_of_add]; omega)).trans hc
      have hp3 : p = 0 ∨ p = 1 ∨ p = 2 := by omega
      clear h3 h3'
      rcases hp3 with rfl | rfl | rfl
      all_goals go_wp2
      all_goals go_region_held3 (fun w' => w'.cell? (ad.add k) = some (.int .i64 xs[k])) (simp [*]) (first | (go_at_call 6; refine (HPK.out _).mono ?_; rintro e w' ⟨rfl, rfl⟩))
      all_goals
        generalize (({ data := #[97, 98, 99, 100, 101, 102] } : ByteArray).extract k (k + 1) ++ { data := #[95] } ++ _ : ByteArray) = nm
        clear hmin hw1 hw2 hw3 hw4 hk1
        have hown2 : Hid (wr.ownsRow (w.heap.size + 1) 49 3 u3 k (rflat w.heap.size rs)) := by
          have := hown.out
          unfold RColsAt at this
          rw [hrl] at this
          exact this
        have hblk0 := Blk.new wr 49 #[.string nm, .int .i64 1, .slice none 0 0]
        have c0 := hblk0.cell 0
        have c1 := hblk0.cell 1
        have c2 := hblk0.cell 2
        have f1 := hblk0.frozen 1
        have f2 := hblk0.frozen 2
        simp only [List.getElem?_toArray, List.getElem?_cons_zero, List.getElem?_cons_succ] at c0 c1 c2
        go_wp2_with (first
          | (go_at_call 6; refine (pick_some _ _ _ (by omega) (by omega)).mono ?_; rintro e w' ⟨r, hr, rfl, rfl⟩)
          | (at_builtin; refine wpList_append_own _ rfl _ _ 27 rfl (w.heap.size + 1) 49 i0 _ 3 48 Tryz.underlying27 HI.out HZ0.out HZ1.out HZ2.out rfl (by decide) _ k _ rfl (own_below hown2.out ((((Below.refl _ _).alloc (Nat.le_refl _) _).alloc (by simp) _).drew)) ⟨wr.heap.size + 1, 0, none⟩ 1 1 ([.string nm, .int .i64 2, .slice (some ⟨w.heap.size, 0, none⟩) (1 + r) 5]) rfl rfl (fun j u hu => new_read2 wr _ _ _ j u hu) (all_one rfl) (by unfold maxLen; omega) (by omega) (by simp; omega) ?_; intro v' w4 hown4 hgrow _hn)
          | (at_builtin; refine wpList_append_own _ rfl _ _ 27 rfl (w.heap.size + 1) 49 i0 _ 3 48 Tryz.underlying27 HI.out HZ0.out HZ1.out HZ2.out rfl (by decide) _ k _ rfl (own_below hown2.out ((((Below.refl _ _).alloc (Nat.le_refl _) _).alloc (by simp) _).drew)) ⟨wr.heap.size + 1, 0, none⟩ 1 1 ([.string nm, .int .i64 1, .slice none 0 0]) rfl rfl (fun j u hu => new_read2 wr _ _ _ j u hu) (all_one rfl) (by unfold maxLen; omega) (by omega) (by simp; omega) ?_; intro v' w4 hown4 hgrow _hn))
        all_goals
          have hs4 := hgrow.size
          simp only [World.size_drew, World.size_alloc] at hs4
          have hb4 : Below w.heap.size w w4 := (((HB.out.alloc hsb _).alloc (by simp; omega) _).drew).grown hgrow (by simp; omega) (fun j hj => by have := (own_base hown2.out hj).1; omega)
          have hb5 : Below (w.heap.size + 1) wr w4 := ((((Below.refl (w.heap.size + 1) wr).alloc hsz _).alloc (by simp; omega) _).drew).grown hgrow (by simp; omega) (fun j hj => (own_base hown2.out hj).1)
          have hk4 : Blk w4 w.heap.size 9 wordsC := (hb5.block _ (by omega)).trans hblk.out
          first
            | (refine ⟨⟨k + 1, rs ++ [(nm, 1 + r)], by omega, by omega, by simp [hrl], by go_num, rOk_snoc hok.out (by show 1 + r ≤ 5; omega), ?_, hk4, hb4, by omega⟩, by simp [intOf]; omega⟩
               show World.ownsRow _ _ _ _ _ _ _
               rw [rflat_snoc, List.length_append, hrl]
               have e : rcCells w.heap.size (nm, 1 + r) = [.string nm, .int .i64 2, .slice (some ⟨w.heap.size, 0, none⟩) (1 + r) 5] := by
                 unfold rcCells kindOf
                 rw [if_neg (by show ¬ 1 + r = 0; omega), if_neg (by show ¬ 1 + r = 0; omega)]
               rw [e]
               exact hown4)
            | (refine ⟨⟨k + 1, rs ++ [(nm, 0)], by omega, by omega, by simp [hrl], by go_num, rOk_snoc hok.out (by show 0 ≤ 5; omega), ?_, hk4, hb4, by omega⟩, by simp [intOf]; omega⟩
               show World.ownsRow _ _ _ _ _ _ _
               rw [rflat_snoc, List.length_append, hrl]
               exact hown4)
    · have hown2 : Hid (wr.ownsRow (w.heap.size + 1) 49 3 u3 k (rflat w.heap.size rs)) := by
        have := hown.out
        unfold RColsAt at this
        rw [hrl] at this
        exact this
      obtain ⟨A3, c3, hA3, _⟩ := own_slice hown2.out
      subst hA3
      have HB := Lib.hid hbel
      clear hbel
      have hcond : k = xs.length ∨ k = 6 := by omega
      by_cases hk0 : k = 0
      · subst hk0
        have hx0 : xs.length = 0 := by omega
        go_wp2
        go_ret
        refine ⟨_, [(⟨#[97]⟩, 0)], rfl, ?_, (hblk.out.alloc _), (fun q hq => by rw [List.mem_singleton.1 hq]; exact Nat.zero_le _), Nat.le_refl _, by decide, HB.out.alloc HB.out.size _⟩
        refine ⟨rfl, .inr ⟨wr.heap.size, 1, #[.string ⟨#[97]⟩, .int .i64 1, .slice none 0 0], rfl, HB.out.size, heap_alloc_new _ _, Nat.le_refl _, by unfold maxLen; omega, rfl, rfl⟩⟩
      · go_wp2
        all_goals
          go_ret
          exact ⟨_, rs, rfl, (by unfold RColsAt; rw [hrl]; exact own_less hown2.out (by omega)), hblk.out, hok.out, by omega, by omega, HB.out⟩
end Go.Proofs.YtmkkkeehkobadaaGreatDoor.Tc
