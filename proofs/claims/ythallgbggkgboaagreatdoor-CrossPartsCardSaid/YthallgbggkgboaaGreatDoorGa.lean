/-
  Columns in memory. The columns that are made: the plain ones, with their names. The columns that are made: as the program's. A cell that is made: the plain one. Rows of cells in memory: what stays, and what a row holds.
-/
import Derived.Test.YthallgbggkgboaaGreatDoorGq3
import Derived.Deep.RegionHeld3
namespace Go.Proofs.YthallgbggkgboaaGreatDoor.Gp
open Go Go.RowKit Ut

def wds : List (List UInt8) := [[114, 101, 100], [103, 114, 101, 101, 110], [98, 108, 117, 101], [119, 95, 49], [88, 57]]
def sv (l : List UInt8) : Value := .string ⟨⟨l⟩⟩
def kindOf (kd : Nat) : Int := if kd = 0 then 1 else 2
theorem infoStr : (Tryz.prog.info? 9).map (fun i => (i.zero, i.size, i.bytes)) = some (some (.string ⟨#[]⟩), 1, 16) := by kernel_rfl
/- The words of a column lie in a row of one's own. -/
def WordsAt (w : World) (kd : Nat) (v : Value) : Prop := ∃ base, w.ownsRow base 9 1 v kd ((wds.take kd).map sv)
theorem WordsAt.below {w w' : World} {kd : Nat} {v : Value} (h : WordsAt w kd v) (hb : Below w.heap.size w w') : WordsAt w' kd v := by
  obtain ⟨base, h1, h2⟩ := h
  refine ⟨base, h1, ?_⟩
  rcases h2 with h2 | ⟨g, cap, cur, rfl, h3, h4, h5⟩
  · exact .inl h2
  · exact .inr ⟨g, cap, cur, rfl, h3, (hb.block g (lt_of_block h4)).trans h4, h5⟩
def ofKind (kd : Nat) (w : World) (wd : Value) : Prop := if kd = 0 then ∃ A c, wd = .slice A 0 c else WordsAt w kd wd
/- A column: its name, its kind (0: numbers; else so many words), where its words lie. -/
structure CI where
  nm : ByteArray
  kd : Nat
  wd : Value
def CI.cells (c : CI) : List Value := [.string c.nm, .int .i64 (kindOf c.kd), c.wd]
def flat (cs : List CI) : List Value := cs.flatMap CI.cells
theorem flat_length : ∀ (cs : List CI), (flat cs).length = cs.length * 3
  | [] => rfl
  | c :: cs => by
    show (CI.cells c ++ flat cs).length = _
    rw [List.length_append, flat_length cs, List.length_cons]; show 3 + _ = _; omega
theorem flat_at : ∀ (cs : List CI) (i : Nat) (h : i < cs.length) (j : Nat), j < 3 → (flat cs)[i * 3 + j]? = (CI.cells cs[i])[j]?
  | [], i, h, _, _ => by simp at h
  | c :: cs, i, h, j, hj => by
    show (CI.cells c ++ flat cs)[i * 3 + j]? = _
    cases i with
    | zero => rw [Nat.zero_mul, Nat.zero_add, List.getElem?_append_left hj]; rfl
    | succ i =>
      rw [List.getElem?_append_right (by show 3 ≤ _; omega), List.getElem_cons_succ, ← flat_at cs i (by simpa using h) j hj]
      congr 1
      show _ - 3 = _; omega
theorem ofKind.below {kd : Nat} {w w' : World} {v : Value} (h : ofKind kd w v) (hb : Below w.heap.size w w') : ofKind kd w' v := by
  unfold ofKind at h ⊢
  by_cases h0 : kd = 0
  · rw [if_pos h0] at h ⊢; exact h
  · rw [if_neg h0] at h ⊢; exact WordsAt.below h hb
theorem own_below {w w' : World} {base n size : Nat} {e : TypeId} {v : Value} {xs : List Value} (h : w.ownsRow base e size v n xs) (hb : Below w.heap.size w w') : w'.ownsRow base e size v n xs := by
  refine ⟨h.1, ?_⟩
  rcases h.2 with h2 | ⟨g, cap, cur, rfl, h3, h4, h5⟩
  · exact .inl h2
  · exact .inr ⟨g, cap, cur, rfl, h3, (hb.block g (lt_of_block h4)).trans h4, h5⟩
def ColsAt (w : World) (v : Value) (cs : List CI) : Prop := (∃ base, w.ownsRow base 39 3 v cs.length (flat cs)) ∧ ∀ c ∈ cs, c.kd ≤ 5 ∧ ofKind c.kd w c.wd
theorem ColsAt.below {w w' : World} {v : Value} {cs : List CI} (h : ColsAt w v cs) (hb : Below w.heap.size w w') : ColsAt w' v cs := by
  obtain ⟨⟨base, h1⟩, h2⟩ := h
  exact ⟨⟨base, own_below h1 hb⟩, fun c hc => ⟨(h2 c hc).1, (h2 c hc).2.below hb⟩⟩
theorem own_slice {w : World} {base n size : Nat} {e : TypeId} {v : Value} {xs : List Value} (h : w.ownsRow base e size v n xs) : ∃ A c, v = .slice A n c ∧ n ≤ c := by
  rcases h.2 with ⟨rfl, hn⟩ | ⟨g, cap, cur, rfl, _, _, h5, _⟩
  · exact ⟨none, 0, by rw [hn], by omega⟩
  · exact ⟨_, _, rfl, h5⟩
theorem own_cell {w : World} {base n size : Nat} {e : TypeId} {A : Option Addr} {c : Nat} {xs : List Value} (h : w.ownsRow base e size (.slice A n c) n xs) (hn : 0 < n) :
    ∃ g, A = some ⟨g, 0, none⟩ ∧ base ≤ g ∧ g < w.heap.size ∧ ∀ (j : Nat) u, xs[j]? = some u → w.cell? ⟨g, j, none⟩ = some u := by
  rcases h.2 with ⟨_, h0⟩ | ⟨g, cap, cur, hv, hb, h4, h5, h6, h7, h8⟩
  · omega
  · injection hv with hA
    subst hA
    refine ⟨g, rfl, hb, lt_of_block h4, fun j u hu => ?_⟩
    unfold World.cell?
    simp only [h4]
    rw [← h8, List.getElem?_take] at hu
    split at hu
    · simpa using hu
    · cases hu
theorem ColsAt.at_ {w : World} {A : Option Addr} {n c : Nat} {cs : List CI} (h : ColsAt w (.slice A n c) cs) {i : Nat} (hi : i < cs.length) :
    ∃ g, A = some ⟨g, 0, none⟩ ∧ g < w.heap.size ∧ w.cell? ⟨g, i * 3, none⟩ = some (.string cs[i].nm) ∧ w.cell? ⟨g, i * 3 + 1, none⟩ = some (.int .i64 (kindOf cs[i].kd)) ∧ w.cell? ⟨g, i * 3 + 2, none⟩ = some cs[i].wd := by
  obtain ⟨⟨base, h1⟩, h2⟩ := h
  obtain ⟨A', c', e, _⟩ := own_slice h1
  injection e with e1 e2 e3
  subst e1; subst e2; subst e3
  obtain ⟨g, rfl, _, hg, hc⟩ := own_cell h1 (by omega)
  have at' : ∀ j, j < 3 → ∀ u, (CI.cells cs[i])[j]? = some u → w.cell? ⟨g, i * 3 + j, none⟩ = some u := fun j hj u hu => hc _ _ ((flat_at cs i hi j hj).trans hu)
  exact ⟨g, rfl, hg, at' 0 (by omega) _ rfl, at' 1 (by omega) _ rfl, at' 2 (by omega) _ rfl⟩
theorem ColsAt.len {w : World} {v : Value} {cs : List CI} (h : ColsAt w v cs) : ∃ A c, v = .slice A cs.length c := by
  obtain ⟨⟨base, h1⟩, _⟩ := h
  obtain ⟨A, c, e, _⟩ := own_slice h1
  exact ⟨A, c, e⟩
theorem new_read2 (w : World) (o : Obj) (t : TypeId) (us : List Value) : ∀ j u, us[j]? = some u → ((w.alloc o).alloc (.cells ⟨us⟩ t)).cell? ((⟨w.heap.size + 1, 0, none⟩ : Addr).add j) = some u := by
  have h := new_read (w.alloc o) t us
  rw [show (w.alloc o).heap.size = w.heap.size + 1 by simp] at h
  exact h
theorem infoRCol : (Tryz.prog.info? 61).map (fun i => (i.zero, i.size, i.bytes)) = some (some (.agg #[.string ⟨#[]⟩, .int .i64 0, .slice none 0 0]), 3, 48) := by kernel_rfl
def rcCells (g : Nat) (r : ByteArray × Nat) : List Value := [.string r.1, .int .i64 (kindOf r.2), if r.2 = 0 then .slice none 0 0 else .slice (some ⟨g, 0, none⟩) r.2 5]
def rflat (g : Nat) (rs : List (ByteArray × Nat)) : List Value := rs.flatMap (rcCells g)
def RColsAt (w : World) (base : Nat) (v : Value) (g : Nat) (rs : List (ByteArray × Nat)) : Prop := w.ownsRow base 61 3 v rs.length (rflat g rs)
def rOk (rs : List (ByteArray × Nat)) : Prop := ∀ r ∈ rs, r.2 ≤ 5
theorem rflat_snoc (g : Nat) (rs : List (ByteArray × Nat)) (r : ByteArray × Nat) : rflat g (rs ++ [r]) = rflat g rs ++ rcCells g r := by unfold rflat; simp
theorem rOk_snoc {rs : List (ByteArray × Nat)} {r : ByteArray × Nat} (h : rOk rs) (hr : r.2 ≤ 5) : rOk (rs ++ [r]) := fun x hx => by
  rcases List.mem_append.1 hx with hx | hx
  · exact h x hx
  · rw [List.mem_singleton.1 hx]; exact hr
def wordsC : Array Value := ⟨wds.map sv⟩

theorem infoCol : (Tryz.prog.info? 39).map (fun i => (i.zero, i.size, i.bytes)) = some (some (.agg #[.string ⟨#[]⟩, .int .i64 0, .slice none 0 0]), 3, 48) := by kernel_rfl
theorem rflat_length (g : Nat) : ∀ (rs : List (ByteArray × Nat)), (rflat g rs).length = rs.length * 3
  | [] => rfl
  | r :: rs => by
    show (rcCells g r ++ rflat g rs).length = _
    rw [List.length_append, rflat_length g rs, List.length_cons]; show 3 + _ = _; omega
theorem rflat_at (g : Nat) : ∀ (rs : List (ByteArray × Nat)) (i : Nat) (h : i < rs.length) (j : Nat), j < 3 → (rflat g rs)[i * 3 + j]? = (rcCells g rs[i])[j]?
  | [], i, h, _, _ => by simp at h
  | r :: rs, i, h, j, hj => by
    show (rcCells g r ++ rflat g rs)[i * 3 + j]? = _
    cases i with
    | zero => rw [Nat.zero_mul, Nat.zero_add, List.getElem?_append_left hj]; rfl
    | succ i =>
      rw [List.getElem?_append_right (by show 3 ≤ _; omega), List.getElem_cons_succ, ← rflat_at g rs i (by simpa using h) j hj]
      congr 1
      show _ - 3 = _; omega
/- Words stay where a row of columns is written. -/
theorem WordsAt.grown {w w' : World} {kd : Nat} {v : Value} {row : Option Nat} (h : WordsAt w kd v) (hg : w.grownBy w' row) (hr : ∀ g, row = some g → g < w.heap.size → ∃ cs fr, w.heap[g]? = some (.cells cs 39 fr)) : WordsAt w' kd v := by
  obtain ⟨base, h1, h2⟩ := h
  refine ⟨base, h1, ?_⟩
  rcases h2 with h2 | ⟨g, cap, cur, rfl, h3, h4, h5⟩
  · exact .inl h2
  · refine .inr ⟨g, cap, cur, rfl, h3, (hg.block g (lt_of_block h4) (fun e => ?_)).trans h4, h5⟩
    obtain ⟨cs, fr, hc⟩ := hr g e.symm (lt_of_block h4)
    rw [h4] at hc
    injection hc with hc
    injection hc with _ ht
    exact absurd ht (by decide)
theorem ofKind.grown {w w' : World} {kd : Nat} {v : Value} {row : Option Nat} (h : ofKind kd w v) (hg : w.grownBy w' row) (hr : ∀ g, row = some g → g < w.heap.size → ∃ cs fr, w.heap[g]? = some (.cells cs 39 fr)) : ofKind kd w' v := by
  unfold ofKind at h ⊢
  by_cases h0 : kd = 0
  · rw [if_pos h0] at h ⊢; exact h
  · rw [if_neg h0] at h ⊢; exact WordsAt.grown h hg hr
theorem own_type {w : World} {base n size : Nat} {e : TypeId} {v : Value} {xs : List Value} (h : w.ownsRow base e size v n xs) : ∀ g, v.ownBlock = some g → g < w.heap.size → ∃ cs fr, w.heap[g]? = some (.cells cs e fr) := by
  intro g hg _
  rcases h.2 with ⟨rfl, _⟩ | ⟨g', cap, cur, rfl, h1, h2, _⟩
  · cases hg
  · injection hg with hg
    subst hg
    exact ⟨_, _, h2⟩
theorem flat_snoc (cs : List CI) (c : CI) : flat (cs ++ [c]) = flat cs ++ c.cells := by unfold flat; simp
theorem own_nil0 (w : World) (t : TypeId) : (w.alloc (.cells #[] t)).ownsRow w.heap.size t 1 (.slice (some ⟨w.heap.size, 0, none⟩) 0 0) 0 [] :=
  World.ownsRow_made w #[] 0 (Nat.le_refl _) (by unfold maxLen; omega) rfl

theorem words_length {kd : Nat} (h : kd ≤ 5) : ((wds.take kd).map sv).length = kd * 1 := by
  rw [List.length_map, List.length_take, Nat.mul_one]
  exact Nat.min_eq_left h
theorem words_one (kd : Nat) : ∀ u ∈ (wds.take kd).map sv, u.oneCell' = true := by
  intro u hu
  obtain ⟨x, _, rfl⟩ := List.mem_map.1 hu
  rfl
theorem words_read {W : World} {g kd : Nat} (h : W.heap[g]? = some (.cells wordsC 9 (0, 0))) : ∀ (j : Nat) u, ((wds.take kd).map sv)[j]? = some u → W.cell? ((⟨g, 0, none⟩ : Addr).add j) = some u := by
  intro j u hu
  rw [show (⟨g, 0, none⟩ : Addr).add j = ⟨g, j, none⟩ by unfold Addr.add; by_cases hj : j = 0 <;> simp [hj], Blk.cell h]
  show (wds.map sv).toArray[j]? = some u
  rw [List.getElem?_toArray]
  rw [List.map_take, List.getElem?_take] at hu
  split at hu
  · exact hu
  · cases hu

end Go.Proofs.YthallgbggkgboaaGreatDoor.Gp
namespace Go.Proofs.YthallgbggkgboaaGreatDoor.Gp
open Go Go.RowKit Ut

/- The names of column k. -/
def namesAt (k : Nat) : List ByteArray := (if k = 0 then [⟨#[97]⟩] else []) ++ [({ data := #[97, 98, 99, 100, 101, 102] } : ByteArray).extract k (k + 1) ++ ⟨#[95]⟩ ++ ({ data := #[120, 121, 122] } : ByteArray).extract 0 3, ({ data := #[97, 98, 99, 100, 101, 102] } : ByteArray).extract k (k + 1) ++ ⟨#[95]⟩ ++ ({ data := #[120, 121, 122] } : ByteArray).extract 1 3, ({ data := #[97, 98, 99, 100, 101, 102] } : ByteArray).extract k (k + 1) ++ ⟨#[95]⟩ ++ ({ data := #[120, 121, 122] } : ByteArray).extract 2 3]
def nOk (rs : List (ByteArray × Nat)) : Prop := ∀ (i : Nat) (h : i < rs.length), rs[i].1 ∈ namesAt i
theorem nOk_snoc {rs : List (ByteArray × Nat)} {r : ByteArray × Nat} (h : nOk rs) {k : Nat} (hk : rs.length = k) (hr : r.1 ∈ namesAt k) : nOk (rs ++ [r]) := fun i hi => by
  by_cases hl : i < rs.length
  · rw [List.getElem_append_left hl]; exact h i hl
  · have e : i = rs.length := by simp at hi; omega
    subst e
    rw [List.getElem_append_right (Nat.le_refl _)]
    simp only [Nat.sub_self, List.getElem_cons_zero]
    rw [hk]; exact hr
set_option maxHeartbeats 4000000 in
set_option maxRecDepth 100000 in
theorem mcols_any (A : Option Addr) (c : Nat) (xs : List Int) (w : World) (hx : IntsIn w w.heap.size A xs) (hl : xs.length ≤ 9223372036854775807) :
    Calls Tryz.prog 13 #[.slice A xs.length c] w fun e w' => ∃ (v : Value) (rs : List (ByteArray × Nat)), e = .returned v ∧ RColsAt w' w.heap.size v w.heap.size rs ∧ Blk w' w.heap.size 9 wordsC ∧ rOk rs ∧ nOk rs ∧ 1 ≤ rs.length ∧ rs.length ≤ 6 ∧ Below w.heap.size w w' := by
  have HX := Lib.hid hx
  obtain ⟨i0, hi0, hz0, hz1, hz2⟩ := info_parts infoRCol
  have HI := Lib.hid hi0
  have HZ0 := Lib.hid hz0
  have HZ1 := Lib.hid hz1
  have HZ2 := Lib.hid hz2
  clear hi0 hz0 hz1 hz2 hx
  go_enter Tryz.func13, Tryz.ntmps13
  go_wp2
  go_loopw [3, 5] (fun v i wr => ∃ (k : Nat) (rs : List (ByteArray × Nat)), k ≤ xs.length ∧ k ≤ 6 ∧ rs.length = k ∧ i = .int .i64 k ∧ Hid (rOk rs) ∧ Hid (nOk rs) ∧ Hid (RColsAt wr (w.heap.size + 1) v w.heap.size rs) ∧ Hid (Blk wr w.heap.size 9 wordsC) ∧ Below w.heap.size w wr ∧ w.heap.size + 1 ≤ wr.heap.size) (fun _ i _ => xs.length - (intOf i).toNat)
  case atStart => exact ⟨0, [], Nat.zero_le _, Nat.zero_le _, rfl, rfl, (fun q hq => by cases hq), (fun i hi => absurd hi (Nat.not_lt_zero _)), (World.ownsRow_nil _ _ _ _), (Blk.new _ _ _), (Below.refl _ _).alloc (Nat.le_refl _) _, by simp⟩
  case round =>
    obtain ⟨k, rs, hk, hk6, hrl, rfl, hok, hnok, hown, hblk, hbel, hsz⟩ := hrel
    by_cases hgo : k < xs.length ∧ k < 6
    · obtain ⟨hlt, hlt6⟩ := hgo
      obtain ⟨ad, rfl, had, hc⟩ := IntsIn.at_ (Reads.below HX.out hbel) hlt
      have h3 := Int.emod_nonneg xs[k] (show (3 : Int) ≠ 0 by omega)
      have h3' := Int.emod_lt_of_pos xs[k] (show (0 : Int) < 3 by omega)
      obtain ⟨p, HP⟩ : ∃ p, Hid (xs[k] % 3 = p) := ⟨_, Lib.hid rfl⟩
      rw [HP.out] at h3 h3'
      have HPK := Lib.hid (fun W => by have := pick_any xs[k] 3 W (by omega) (by omega); rw [HP.out] at this; exact this)
      have HB := Lib.hid hbel
      clear hbel
      have hk1 : ((k : Int) + 1).toNat = k + 1 := by omega
      have hw1 : IntKind.i64.wrap ((k : Int) + 1) = (k : Int) + 1 := by rw [IntKind.wrap_i64]; omega
      have hw2 : (0 : Int) ≤ (k : Int) + 1 := by omega
      have hw3 : (k : Int) + 1 ≤ 6 := by omega
      have hw4 : (k : Int) ≤ (k : Int) + 1 := by omega
      have hS : ∀ (W : World) (i : Nat) (v : Value), (W.setCell ⟨wr.heap.size, i, none⟩ v).cell? (ad.add k) = W.cell? (ad.add k) := fun W i v => World.cell?_setCell_other W _ _ v (fun e => by have h := congrArg Addr.block e; simp [block_of_add] at h; omega)
      have hmin : min (k + 1) 6 - k = 1 := by omega
      have hsb := HB.out.size
      have hcA : ∀ o, (wr.alloc o).cell? (ad.add k) = some (.int .i64 xs[k]) := fun o => (World.cell?_alloc_lt wr o _ (by rw [block_of_add]; omega)).trans hc
      have hp3 : p = 0 ∨ p = 1 ∨ p = 2 := by omega
      clear h3 h3'
      rcases hp3 with rfl | rfl | rfl
      all_goals go_wp2
      all_goals go_region_held3 (fun w' => w'.cell? (ad.add k) = some (.int .i64 xs[k])) (simp [*]) (first | (go_at_call 6; refine (HPK.out _).mono ?_; rintro e w' ⟨rfl, rfl⟩))
      all_goals
        generalize hnm : (({ data := #[97, 98, 99, 100, 101, 102] } : ByteArray).extract k (k + 1) ++ { data := #[95] } ++ _ : ByteArray) = nm
        have hin : nm ∈ namesAt k := by
          rw [← hnm]
          refine List.mem_append_right _ ?_
          first | exact List.Mem.head _ | exact List.Mem.tail _ (List.Mem.head _) | exact List.Mem.tail _ (List.Mem.tail _ (List.Mem.head _))
        clear hnm
        replace hin := Lib.hid hin
        clear hmin hw1 hw2 hw3 hw4 hk1
        have hown2 : Hid (wr.ownsRow (w.heap.size + 1) 61 3 u3 k (rflat w.heap.size rs)) := by
          have := hown.out
          unfold RColsAt at this
          rw [hrl] at this
          exact this
        have hblk0 := Blk.new wr 61 #[.string nm, .int .i64 1, .slice none 0 0]
        have c0 := hblk0.cell 0
        have c1 := hblk0.cell 1
        have c2 := hblk0.cell 2
        have f1 := hblk0.frozen 1
        have f2 := hblk0.frozen 2
        simp only [List.getElem?_toArray, List.getElem?_cons_zero, List.getElem?_cons_succ] at c0 c1 c2
        go_wp2_with (first
          | (go_at_call 6; refine (pick_some _ _ _ (by omega) (by omega)).mono ?_; rintro e w' ⟨r, hr, rfl, rfl⟩)
          | (at_builtin; refine wpList_append_own _ rfl _ _ 31 rfl (w.heap.size + 1) 61 i0 _ 3 48 Tryz.underlying31 HI.out HZ0.out HZ1.out HZ2.out rfl (by decide) _ k _ rfl (own_below hown2.out ((((Below.refl _ _).alloc (Nat.le_refl _) _).alloc (by simp) _).drew)) ⟨wr.heap.size + 1, 0, none⟩ 1 1 ([.string nm, .int .i64 2, .slice (some ⟨w.heap.size, 0, none⟩) (1 + r) 5]) rfl rfl (fun j u hu => new_read2 wr _ _ _ j u hu) (all_one rfl) (by unfold maxLen; omega) (by omega) (by simp; omega) ?_; intro v' w4 hown4 hgrow _hn)
          | (at_builtin; refine wpList_append_own _ rfl _ _ 31 rfl (w.heap.size + 1) 61 i0 _ 3 48 Tryz.underlying31 HI.out HZ0.out HZ1.out HZ2.out rfl (by decide) _ k _ rfl (own_below hown2.out ((((Below.refl _ _).alloc (Nat.le_refl _) _).alloc (by simp) _).drew)) ⟨wr.heap.size + 1, 0, none⟩ 1 1 ([.string nm, .int .i64 1, .slice none 0 0]) rfl rfl (fun j u hu => new_read2 wr _ _ _ j u hu) (all_one rfl) (by unfold maxLen; omega) (by omega) (by simp; omega) ?_; intro v' w4 hown4 hgrow _hn))
        all_goals
          have hs4 := hgrow.size
          simp only [World.size_drew, World.size_alloc] at hs4
          have hb4 : Below w.heap.size w w4 := (((HB.out.alloc hsb _).alloc (by simp; omega) _).drew).grown hgrow (by simp; omega) (fun j hj => by have := (own_base hown2.out hj).1; omega)
          have hb5 : Below (w.heap.size + 1) wr w4 := ((((Below.refl (w.heap.size + 1) wr).alloc hsz _).alloc (by simp; omega) _).drew).grown hgrow (by simp; omega) (fun j hj => (own_base hown2.out hj).1)
          have hk4 : Blk w4 w.heap.size 9 wordsC := (hb5.block _ (by omega)).trans hblk.out
          first
            | (refine ⟨⟨k + 1, rs ++ [(nm, 1 + r)], by omega, by omega, by simp [hrl], by go_num, rOk_snoc hok.out (by show 1 + r ≤ 5; omega), nOk_snoc hnok.out hrl hin.out, ?_, hk4, hb4, by omega⟩, by simp [intOf]; omega⟩
               show World.ownsRow _ _ _ _ _ _ _
               rw [rflat_snoc, List.length_append, hrl]
               have e : rcCells w.heap.size (nm, 1 + r) = [.string nm, .int .i64 2, .slice (some ⟨w.heap.size, 0, none⟩) (1 + r) 5] := by
                 unfold rcCells kindOf
                 rw [if_neg (by show ¬ 1 + r = 0; omega), if_neg (by show ¬ 1 + r = 0; omega)]
               rw [e]
               exact hown4)
            | (refine ⟨⟨k + 1, rs ++ [(nm, 0)], by omega, by omega, by simp [hrl], by go_num, rOk_snoc hok.out (by show 0 ≤ 5; omega), nOk_snoc hnok.out hrl hin.out, ?_, hk4, hb4, by omega⟩, by simp [intOf]; omega⟩
               show World.ownsRow _ _ _ _ _ _ _
               rw [rflat_snoc, List.length_append, hrl]
               exact hown4)
    · have hown2 : Hid (wr.ownsRow (w.heap.size + 1) 61 3 u3 k (rflat w.heap.size rs)) := by
        have := hown.out
        unfold RColsAt at this
        rw [hrl] at this
        exact this
      obtain ⟨A3, c3, hA3, _⟩ := own_slice hown2.out
      subst hA3
      have HB := Lib.hid hbel
      clear hbel
      have hcond : k = xs.length ∨ k = 6 := by omega
      by_cases hk0 : k = 0
      · subst hk0
        have hx0 : xs.length = 0 := by omega
        go_wp2
        go_ret
        refine ⟨_, [(⟨#[97]⟩, 0)], rfl, ?_, (hblk.out.alloc _), (fun q hq => by rw [List.mem_singleton.1 hq]; exact Nat.zero_le _), (fun i hi => by cases i with | zero => exact List.mem_append_left _ (List.Mem.head _) | succ i => exact absurd hi (by simp)), Nat.le_refl _, by decide, HB.out.alloc HB.out.size _⟩
        refine ⟨rfl, .inr ⟨wr.heap.size, 1, #[.string ⟨#[97]⟩, .int .i64 1, .slice none 0 0], rfl, HB.out.size, heap_alloc_new _ _, Nat.le_refl _, by unfold maxLen; omega, rfl, rfl⟩⟩
      · go_wp2
        all_goals
          go_ret
          exact ⟨_, rs, rfl, (by unfold RColsAt; rw [hrl]; exact own_less hown2.out (by omega)), hblk.out, hok.out, hnok.out, by omega, by omega, HB.out⟩
end Go.Proofs.YthallgbggkgboaaGreatDoor.Gp
namespace Go.Proofs.YthallgbggkgboaaGreatDoor.Gp
open Go Go.RowKit Ut

set_option maxHeartbeats 4000000 in
set_option maxRecDepth 100000 in
theorem incols_any (v : Value) (g base : Nat) (rs : List (ByteArray × Nat)) (w : World) (hv : RColsAt w base v g rs) (hw : Blk w g 9 wordsC) (hok : rOk rs) (h1 : 1 ≤ rs.length) (h6 : rs.length ≤ 6) :
    Calls Tryz.prog 11 #[v] w fun e w' => ∃ (u : Value) (cs : List CI), e = .returned u ∧ ColsAt w' u cs ∧ cs.map CI.kd = rs.map (·.2) ∧ cs.map CI.nm = rs.map (·.1) ∧ Below w.heap.size w w' := by
  obtain ⟨A, c, rfl, _⟩ := own_slice hv
  obtain ⟨g1, rfl, _, hg1, hcl⟩ := own_cell hv (by omega)
  have HV := Lib.hid hcl
  have HW := Lib.hid hw
  have HOK := Lib.hid hok
  obtain ⟨i0, hi0, hz0, hz1, hz2⟩ := info_parts infoCol
  have HI := Lib.hid hi0
  have HZ0 := Lib.hid hz0
  have HZ1 := Lib.hid hz1
  have HZ2 := Lib.hid hz2
  obtain ⟨i1, hi1, hy0, hy1, hy2⟩ := info_parts infoStr
  have HJ := Lib.hid hi1
  have HY0 := Lib.hid hy0
  have HY1 := Lib.hid hy1
  have HY2 := Lib.hid hy2
  clear hi0 hz0 hz1 hz2 hi1 hy0 hy1 hy2 hv hw hok hcl
  go_enter Tryz.func11, Tryz.ntmps11
  go_wp2
  go_loopw [3, 4] (fun v i wr => ∃ (k : Nat) (cs : List CI), k ≤ rs.length ∧ cs.length = k ∧ i = .int .i64 k ∧ Hid (cs.map CI.kd = (rs.map (·.2)).take k) ∧ Hid (cs.map CI.nm = (rs.map (·.1)).take k) ∧ Hid (wr.ownsRow w.heap.size 39 3 v k (flat cs)) ∧ Hid (∀ c ∈ cs, c.kd ≤ 5 ∧ ofKind c.kd wr c.wd) ∧ Below w.heap.size w wr) (fun _ i _ => rs.length - (intOf i).toNat)
  case atStart => exact ⟨0, [], Nat.zero_le _, rfl, rfl, rfl, rfl, (World.ownsRow_nil _ _ _ _), (fun q hq => by cases hq), Below.refl _ _⟩
  case round =>
    obtain ⟨k, cs, hk, hcl, rfl, hkd, hnm, hown, hall, hbel⟩ := hrel
    have hsz := hbel.size
    by_cases hgo : k < rs.length
    · have at' : ∀ j, j < 3 → ∀ u, (rcCells g rs[k])[j]? = some u → wr.cell? ⟨g1, k * 3 + j, none⟩ = some u := fun j hj u hu => (hbel.cell (p := ⟨g1, k * 3 + j, none⟩) hg1).trans (HV.out _ _ ((rflat_at g rs k hgo j hj).trans hu))
      obtain ⟨nm, kd, hrk⟩ : ∃ nm kd, rs[k] = (nm, kd) := ⟨_, _, rfl⟩
      have hkd5 : kd ≤ 5 := by have := HOK.out rs[k] (List.getElem_mem hgo); rw [hrk] at this; exact this
      have HRK := Lib.hid hrk
      rw [hrk] at at'
      have c0 := at' 0 (by omega) _ rfl
      have c1 := at' 1 (by omega) _ rfl
      have c2 := at' 2 (by omega) _ rfl
      rw [Nat.add_zero] at c0
      clear at' hrk
      have HB := Lib.hid hbel
      clear hbel
      have hkd' : Hid ((rs.map (·.2)).take (k + 1) = (rs.map (·.2)).take k ++ [kd]) := by
        show _ = _
        have hl : k < (rs.map (·.2)).length := by simpa using hgo
        rw [List.take_succ_eq_append_getElem hl, List.getElem_map, HRK.out]
      have hnm' : Hid ((rs.map (·.1)).take (k + 1) = (rs.map (·.1)).take k ++ [nm]) := by
        show _ = _
        have hl : k < (rs.map (·.1)).length := by simpa using hgo
        rw [List.take_succ_eq_append_getElem hl, List.getElem_map, HRK.out]
      have hsl : Hid (wr.ownsRow w.heap.size 39 3 u3 k (flat cs)) := hown
      by_cases h0 : kd = 0
      · subst h0
        have c1' : wr.cell? ⟨g1, k * 3 + 1, none⟩ = some (.int .i64 1) := c1
        have c2' : wr.cell? ⟨g1, k * 3 + 2, none⟩ = some (.slice none 0 0) := c2
        clear c1 c2
        have hgw : g1 < wr.heap.size := by omega
        go_wp2
        go_region_held3 (fun w' => w'.cell? ⟨g1, k * 3, none⟩ = some (.string nm) ∧ w'.cell? ⟨g1, k * 3 + 1, none⟩ = some (.int .i64 1) ∧ w'.cell? ⟨g1, k * 3 + 2, none⟩ = some (.slice none 0 0)) (simp [*, World.cell?_alloc_some])
          (first
            | (refine step_own_none _ rfl _ _ 37 rfl wr.heap.size 9 i1 1 Tryz.underlying37 HJ.out _ 0 [] rfl (own_nil0 wr _) rfl ?_)
            | (refine step_own _ rfl _ _ 26 rfl w.heap.size 39 i0 _ 3 48 Tryz.underlying26 HI.out HZ0.out HZ1.out HZ2.out rfl (by decide) _ k _ rfl (own_below hsl.out ((((Below.refl _ _).alloc (Nat.le_refl _) _).alloc (by simp) _).drew)) ⟨wr.heap.size + 1, 0, none⟩ 1 1 [.string nm, .int .i64 1, .slice (some ⟨wr.heap.size, 0, none⟩) 0 0] rfl rfl (fun j u hu => new_read2 wr _ _ _ j u hu) (all_one rfl) (by unfold maxLen; omega) (by omega) (by simp; omega) ?_; intro v' w4 hown4 hgrow; have hb4 : Below w.heap.size w w4 := (((HB.out.alloc hsz _).alloc (by simp; omega) _).drew).grown hgrow (by simp; omega) (fun j hj => (own_base hsl.out hj).1); have x0 : w4.cell? ⟨g1, k * 3, none⟩ = some (.string nm) := (hb4.cell (p := ⟨g1, k * 3, none⟩) hg1).trans ((HB.out.cell (p := ⟨g1, k * 3, none⟩) hg1).symm.trans c0); have x1 : w4.cell? ⟨g1, k * 3 + 1, none⟩ = some (.int .i64 1) := (hb4.cell (p := ⟨g1, k * 3 + 1, none⟩) hg1).trans ((HB.out.cell (p := ⟨g1, k * 3 + 1, none⟩) hg1).symm.trans c1'); have x2 : w4.cell? ⟨g1, k * 3 + 2, none⟩ = some (.slice none 0 0) := (hb4.cell (p := ⟨g1, k * 3 + 2, none⟩) hg1).trans ((HB.out.cell (p := ⟨g1, k * 3 + 2, none⟩) hg1).symm.trans c2'); have HB4 := Lib.hid hb4; have HO4 := Lib.hid hown4; have HG4 := Lib.hid hgrow; clear hb4 hown4 hgrow))
        all_goals go_wp2
        all_goals
          refine ⟨⟨k + 1, cs ++ [⟨nm, 0, .slice (some ⟨wr.heap.size, 0, none⟩) 0 0⟩], by omega, by simp [hcl], by go_num, ?_, ?_, ?_, ?_, HB4.out⟩, by simp [intOf]; omega⟩
          · show _ = _
            rw [List.map_append, hkd.out, hkd'.out]; rfl
          · show _ = _
            rw [List.map_append, hnm.out, hnm'.out]; rfl
          · show World.ownsRow _ _ _ _ _ _ _
            rw [flat_snoc]
            exact HO4.out
          · show ∀ c ∈ _, _
            intro q hq
            rcases List.mem_append.1 hq with hq | hq
            · have hd : Below wr.heap.size wr (((wr.alloc (.cells #[] 9)).alloc (.cells #[.string nm, .int .i64 1, .slice (some ⟨wr.heap.size, 0, none⟩) 0 0] 39)).drew) := ((((Below.refl _ _).alloc (Nat.le_refl _) _).alloc (by simp) _).drew)
              exact ⟨(hall.out q hq).1, ((hall.out q hq).2.below hd).grown HG4.out (own_type (own_below hsl.out hd))⟩
            · rw [List.mem_singleton.1 hq]
              exact ⟨Nat.zero_le _, by unfold ofKind; rw [if_pos rfl]; exact ⟨_, _, rfl⟩⟩
      · have c1' : wr.cell? ⟨g1, k * 3 + 1, none⟩ = some (.int .i64 2) := by
          rw [c1]; unfold kindOf; rw [if_neg h0]
        have c2' : wr.cell? ⟨g1, k * 3 + 2, none⟩ = some (.slice (some ⟨g, 0, none⟩) kd 5) := by
          rw [c2, if_neg h0]
        clear c1 c2
        have hgw : g1 < wr.heap.size := by omega
        have hgl := HW.out.lt
        have hgl2 : g < wr.heap.size := by omega
        have HWr := Lib.hid (show Blk wr g 9 wordsC from (HB.out.block g hgl).trans HW.out)
        go_wp2
        go_region_held3 (fun w' => w'.cell? ⟨g1, k * 3, none⟩ = some (.string nm) ∧ w'.cell? ⟨g1, k * 3 + 1, none⟩ = some (.int .i64 2) ∧ w'.cell? ⟨g1, k * 3 + 2, none⟩ = some (.slice (some ⟨g, 0, none⟩) kd 5)) (simp [*, World.cell?_alloc_some])
          (first
            | (refine step_own _ rfl _ _ 37 rfl wr.heap.size 9 i1 _ 1 16 Tryz.underlying37 HJ.out HY0.out HY1.out HY2.out rfl (by decide) _ 0 [] rfl (own_nil0 wr _) ⟨g, 0, none⟩ kd 5 ((wds.take kd).map sv) rfl (words_length hkd5) (words_read (((((Below.refl wr.heap.size wr).alloc (Nat.le_refl _) _).drew).block g hgl2).trans HWr.out)) (words_one kd) (by unfold maxLen; omega) (by omega) (by simp) ?_; intro v1 w1 hown1 hgrow1; rw [Nat.zero_add, List.nil_append] at hown1; obtain ⟨A1, cx, rfl, _⟩ := own_slice hown1; have hb1 : Below wr.heap.size wr w1 := (((Below.refl _ _).alloc (Nat.le_refl _) _).drew).grown hgrow1 (by simp) (fun j hj => by have hj : some wr.heap.size = some j := hj; injection hj with hj; omega); have x0 : w1.cell? ⟨g1, k * 3, none⟩ = some (.string nm) := (hb1.cell (p := ⟨g1, k * 3, none⟩) hgw).trans c0; have x1 : w1.cell? ⟨g1, k * 3 + 1, none⟩ = some (.int .i64 2) := (hb1.cell (p := ⟨g1, k * 3 + 1, none⟩) hgw).trans c1'; have x2 : w1.cell? ⟨g1, k * 3 + 2, none⟩ = some (.slice (some ⟨g, 0, none⟩) kd 5) := (hb1.cell (p := ⟨g1, k * 3 + 2, none⟩) hgw).trans c2'; have hgw1 : g1 < w1.heap.size := Nat.lt_of_lt_of_le hgw hb1.size; have hs1 := hb1.size; have HB1 := Lib.hid hb1; have HO1 := Lib.hid hown1; clear hb1 hown1 hgrow1)
            | (refine step_own _ rfl _ _ 26 rfl w.heap.size 39 i0 _ 3 48 Tryz.underlying26 HI.out HZ0.out HZ1.out HZ2.out rfl (by decide) _ k _ rfl (own_below hsl.out (HB1.out.alloc HB1.out.size _)) ⟨w1.heap.size, 0, none⟩ 1 1 [.string nm, .int .i64 2, .slice A1 kd cx] rfl rfl (fun j u hu => new_read w1 _ _ j u hu) (all_one rfl) (by unfold maxLen; omega) (by omega) (by simp; omega) ?_; intro v' w4 hown4 hgrow; have hb4 : Below w.heap.size w w4 := ((HB.out.trans (HB1.out.mono hsz)).alloc (by omega) _).grown hgrow (by simp; omega) (fun j hj => (own_base hsl.out hj).1); have y0 : w4.cell? ⟨g1, k * 3, none⟩ = some (.string nm) := (hb4.cell (p := ⟨g1, k * 3, none⟩) hg1).trans ((HB.out.cell (p := ⟨g1, k * 3, none⟩) hg1).symm.trans c0); have y1 : w4.cell? ⟨g1, k * 3 + 1, none⟩ = some (.int .i64 2) := (hb4.cell (p := ⟨g1, k * 3 + 1, none⟩) hg1).trans ((HB.out.cell (p := ⟨g1, k * 3 + 1, none⟩) hg1).symm.trans c1'); have y2 : w4.cell? ⟨g1, k * 3 + 2, none⟩ = some (.slice (some ⟨g, 0, none⟩) kd 5) := (hb4.cell (p := ⟨g1, k * 3 + 2, none⟩) hg1).trans ((HB.out.cell (p := ⟨g1, k * 3 + 2, none⟩) hg1).symm.trans c2'); have HB4 := Lib.hid hb4; have HO4 := Lib.hid hown4; have HG4 := Lib.hid hgrow; clear hb4 hown4 hgrow)
            | (trace_state; fail))
        all_goals go_wp2
        all_goals
          refine ⟨⟨k + 1, cs ++ [⟨nm, kd, .slice A1 kd cx⟩], by omega, by simp [hcl], by go_num, ?_, ?_, ?_, ?_, HB4.out⟩, by simp [intOf]; omega⟩
          · show _ = _
            rw [List.map_append, hkd.out, hkd'.out]; rfl
          · show _ = _
            rw [List.map_append, hnm.out, hnm'.out]; rfl
          · show World.ownsRow _ _ _ _ _ _ _
            rw [flat_snoc]
            have e : CI.cells ⟨nm, kd, .slice A1 kd cx⟩ = [.string nm, .int .i64 2, .slice A1 kd cx] := by
              unfold CI.cells kindOf
              rw [if_neg (by show ¬ kd = 0; exact h0)]
            rw [e]
            exact HO4.out
          · show ∀ c ∈ _, _
            intro q hq
            have hd := HB1.out.alloc HB1.out.size (.cells #[.string nm, .int .i64 2, .slice A1 kd cx] 39)
            rcases List.mem_append.1 hq with hq | hq
            · exact ⟨(hall.out q hq).1, ((hall.out q hq).2.below hd).grown HG4.out (own_type (own_below hsl.out hd))⟩
            · rw [List.mem_singleton.1 hq]
              refine ⟨hkd5, ?_⟩
              have hwa : WordsAt w1 kd (.slice A1 kd cx) := ⟨wr.heap.size, HO1.out⟩
              have hwb : ofKind kd w1 (.slice A1 kd cx) := by unfold ofKind; rw [if_neg h0]; exact hwa
              exact (hwb.below ((Below.refl _ _).alloc (Nat.le_refl _) _)).grown HG4.out (own_type (own_below hsl.out hd))
    · obtain ⟨A3, c3, hA3, _⟩ := own_slice hown.out
      subst hA3
      have hkn : k = rs.length := by omega
      have HB := Lib.hid hbel
      clear hbel
      go_wp2
      go_ret
      refine ⟨_, cs, rfl, ⟨⟨w.heap.size, by rw [hcl]; exact hown.out⟩, hall.out⟩, ?_, ?_, HB.out⟩
      · rw [hkd.out, List.take_of_length_le (by rw [List.length_map]; omega)]
      · rw [hnm.out, List.take_of_length_le (by rw [List.length_map]; omega)]
end Go.Proofs.YthallgbggkgboaaGreatDoor.Gp
namespace Go.Proofs.YthallgbggkgboaaGreatDoor.Gp
open Go Go.RowKit Ut

/- A cell: does it lack, its fraction, its word. -/
structure RC where
  lk : Bool
  t : Pt
  wd : Nat
def RCellAt (w : World) (r : RC) (v : Value) : Prop := ∃ sA sD, v = .agg ⟨[.bool r.lk, .bool r.t.neg, sA, sD, .int .i64 r.wd]⟩ ∧ FracAt w r.t (.agg ⟨[.bool r.t.neg, sA, sD]⟩)
def rcOk (kd : Nat) (r : RC) : Prop := (r.lk = true ∧ r.t = patZ ∧ r.wd = 0) ∨ (r.lk = false ∧ kd = 0 ∧ isPat r.t = true ∧ r.wd = 0) ∨ (r.lk = false ∧ kd ≠ 0 ∧ r.t = patZ ∧ r.wd < kd)
theorem infoRCell : (Tryz.prog.info? 59).map (·.size) = some 5 := by kernel_rfl
def wdOf (g kd : Nat) : Value := if kd = 0 then .slice none 0 0 else .slice (some ⟨g, 0, none⟩) kd 5
theorem Blk.keep {w w' : World} {g : Nat} {t : TypeId} {cs : Array Value} (h : Blk w g t cs) (hb : Below w.heap.size w w') : Blk w' g t cs := (hb.block g h.lt).trans h
theorem blk5 {w : World} {g : Nat} {T : TypeId} {a b c d e : Value} (h : Blk w g T #[a, b, c, d, e]) : (w.cell? ⟨g, 0, none⟩ = some a ∧ w.cell? ⟨g, 1, none⟩ = some b ∧ w.cell? ⟨g, 2, none⟩ = some c ∧ w.cell? ⟨g, 3, none⟩ = some d ∧ w.cell? ⟨g, 4, none⟩ = some e) ∧ (∀ i, w.frozen? ⟨g, i, none⟩ = false) :=
  ⟨⟨h.cell 0, h.cell 1, h.cell 2, h.cell 3, h.cell 4⟩, h.frozen⟩
def set5 (w : World) (g : Nat) (a b c d e : Value) : World := ((((w.setCell ⟨g, 0, none⟩ a).setCell ⟨g, 1, none⟩ b).setCell ⟨g, 2, none⟩ c).setCell ⟨g, 3, none⟩ d).setCell ⟨g, 4, none⟩ e
theorem set5_blk {w : World} {g : Nat} {T : TypeId} {a b c d e a' b' c' d' e' : Value} (h : Blk w g T #[a', b', c', d', e']) : Blk (set5 w g a b c d e) g T #[a, b, c, d, e] := ((((h.set_ 0 a).set_ 1 b).set_ 2 c).set_ 3 d).set_ 4 e
theorem set5_digs {w : World} {g : Nat} {T : TypeId} {a b c d e a' b' c' d' e' : Value} (h : Blk w g T #[a', b', c', d', e']) (hT : T ≠ 195) : Digs w (set5 w g a b c d e) :=
  ((((Digs.setCell h hT a).trans (Digs.setCell (h.set_ 0 a) hT b)).trans (Digs.setCell ((h.set_ 0 a).set_ 1 b) hT c)).trans (Digs.setCell (((h.set_ 0 a).set_ 1 b).set_ 2 c) hT d)).trans (Digs.setCell ((((h.set_ 0 a).set_ 1 b).set_ 2 c).set_ 3 d) hT e)
theorem set5_below {w w' : World} {B g : Nat} {a b c d e : Value} (h : Below B w w') (hg : B ≤ g) : Below B w (set5 w' g a b c d e) := ((((h.setCell hg a).setCell hg b).setCell hg c).setCell hg d).setCell hg e
def zc : Array Value := #[.bool false, .bool false, .slice none 0 0, .slice none 0 0, .int .i64 0]
theorem Blk.new2 (w : World) (o : Obj) (t : TypeId) (cs : Array Value) : Blk ((w.alloc o).alloc (.cells cs t)) (w.heap.size + 1) t cs := by
  have := Blk.new (w.alloc o) t cs
  rwa [show (w.alloc o).heap.size = w.heap.size + 1 by simp] at this
/- The end of a made cell. -/
theorem cell_end {w w2 : World} {g kd : Nat} {lk : Bool} {t : Pt} {sA sD : Value} {wd : Nat} (hk : Blk w2 g 59 zc) (hg : w.heap.size ≤ g) (hb : Below w.heap.size w w2) (hu : FracAt w2 t (.agg #[.bool t.neg, sA, sD])) (hok : rcOk kd ⟨lk, t, wd⟩) {a : Act} (hp : a.tmps.getD 4 undef = .pointer (some ⟨g, 0, none⟩)) (hd : a.defers = []) :
    bodyPost Tryz.prog Tryz.f14 (fun e w' => ∃ (r : RC) (v : Value), e = .returned v ∧ rcOk kd r ∧ RCellAt w' r v ∧ Below w.heap.size w w') .ret a (set5 w2 g (.bool lk) (.bool t.neg) sA sD (.int .i64 wd)) := by
  refine bodyPost_ret (results_row rfl _ _ g _ _ _ hp (set5_blk hk) Tryz.underlying59 rfl infoRCell) hd ⟨⟨lk, t, wd⟩, _, rfl, hok, ⟨sA, sD, rfl, hu.keep (set5_digs hk (by decide))⟩, set5_below hb hg⟩
set_option maxHeartbeats 4000000 in
set_option maxRecDepth 100000 in
theorem mcell_any (nm : ByteArray) (g kd : Nat) (n : Int) (w : World) (hkd : kd ≤ 5) :
    Calls Tryz.prog 14 #[.agg #[.string nm, .int .i64 (kindOf kd), wdOf g kd], .int .i64 n] w fun e w' => ∃ (r : RC) (v : Value), e = .returned v ∧ rcOk kd r ∧ RCellAt w' r v ∧ Below w.heap.size w w' := by
  by_cases h0 : kd = 0
  · subst h0
    have e1 : kindOf 0 = 1 := rfl
    have e2 : wdOf g 0 = .slice none 0 0 := rfl
    rw [e1, e2]
    go_enter Tryz.func14, Tryz.ntmps14
    go_wp2_with (first
      | (go_at_call 6; refine (pick_some _ _ _ (by omega) (by omega)).mono ?_; rintro e w1 ⟨r, hr, rfl, rfl⟩)
      | (go_at_call 27; refine (of_any _).mono ?_; rintro e w2 ⟨u, rfl, hu, hb⟩; obtain ⟨A, nA, cA, A', nA', cA', rfl⟩ := hu.form; have hk : Blk w2 (w.heap.size + 1) 59 zc := Blk.keep (Blk.new2 _ _ _ _) hb; obtain ⟨⟨c0, c1, c2, c3, c4⟩, fz⟩ := blk5 hk; have hbw : Below w.heap.size w w2 := (((Below.refl _ _).alloc (Nat.le_refl _) _).alloc (by simp) _).trans (hb.mono (by simp; omega)))
      | (go_at_call 28; refine (r_any _ _).mono ?_; rintro e w2 ⟨t, u, rfl, ht, hu, hb⟩; obtain ⟨A, nA, cA, A', nA', cA', rfl⟩ := hu.form; have hk : Blk w2 (w.heap.size + 1) 59 zc := Blk.keep (Blk.new2 _ _ _ _) hb; obtain ⟨⟨c0, c1, c2, c3, c4⟩, fz⟩ := blk5 hk; have hbw : Below w.heap.size w w2 := (((Below.refl _ _).alloc (Nat.le_refl _) _).alloc (by simp) _).trans (hb.mono (by simp; omega))))
    · exact cell_end hk (by omega) hbw hu (.inl ⟨rfl, rfl, rfl⟩) rfl rfl
    · exact cell_end hk (by omega) hbw hu (.inr (.inl ⟨rfl, rfl, ht, rfl⟩)) rfl rfl
  · have e1 : kindOf kd = 2 := if_neg h0
    have e2 : wdOf g kd = .slice (some ⟨g, 0, none⟩) kd 5 := if_neg h0
    rw [e1, e2]
    go_enter Tryz.func14, Tryz.ntmps14
    go_wp2_with (first
      | (go_at_call 6; refine (pick_some _ _ _ (by omega) (by omega)).mono ?_; rintro e w1 ⟨r, hr, rfl, rfl⟩)
      | (go_at_call 27; refine (of_any _).mono ?_; rintro e w2 ⟨u, rfl, hu, hb⟩; obtain ⟨A, nA, cA, A', nA', cA', rfl⟩ := hu.form; have hk : Blk w2 (w.heap.size + 1) 59 zc := Blk.keep (Blk.new2 _ _ _ _) hb; obtain ⟨⟨c0, c1, c2, c3, c4⟩, fz⟩ := blk5 hk; have hbw : Below w.heap.size w w2 := (((Below.refl _ _).alloc (Nat.le_refl _) _).alloc (by simp) _).trans (hb.mono (by simp; omega))))
    · exact cell_end hk (by omega) hbw hu (.inl ⟨rfl, rfl, rfl⟩) rfl rfl
    · have hS : ∀ (W : World) (i : Nat) (v : Value), (W.setCell ⟨w.heap.size + 1, i, none⟩ v).cell? ⟨w.heap.size, 2, none⟩ = W.cell? ⟨w.heap.size, 2, none⟩ := fun W i v => World.cell?_setCell_other W _ _ v (fun e => by have h := congrArg Addr.block e; simp at h; try omega)
      go_region_held3 (fun w' => w'.cell? ⟨w.heap.size, 2, none⟩ = some (.slice (some ⟨g, 0, none⟩) kd 5)) (simp [*]) (first
        | (go_at_call 6; refine (pick_some _ _ _ (by omega) (by omega)).mono ?_; rintro e w1 ⟨r', hr', rfl, rfl⟩)
        | (go_at_call 27; refine (of_any _).mono ?_; rintro e w2 ⟨u, rfl, hu, hb⟩; obtain ⟨A, nA, cA, A', nA', cA', rfl⟩ := hu.form; have hk : Blk w2 (w.heap.size + 1) 59 zc := (hb.block (w.heap.size + 1) (by simp [World.size_drew])).trans (Blk.new2 w _ _ _); obtain ⟨⟨c0, c1, c2, c3, c4⟩, fz⟩ := blk5 hk; have hbw : Below w.heap.size w w2 := (((Below.refl _ _).alloc (Nat.le_refl _) _).alloc (by simp) _).drew.trans (hb.mono (by simp [World.size_drew]; omega)); have x0 : w2.cell? ⟨w.heap.size, 2, none⟩ = some (.slice (some ⟨g, 0, none⟩) kd 5) := (hb.cell (p := ⟨w.heap.size, 2, none⟩) (by simp [World.size_drew]; omega)).trans (by simp [*])))
      all_goals go_wp2
      all_goals exact cell_end hk (by omega) hbw hu (.inr (.inr ⟨rfl, h0, rfl, by show r' < kd; omega⟩)) rfl rfl
end Go.Proofs.YthallgbggkgboaaGreatDoor.Gp
namespace Go.Proofs.YthallgbggkgboaaGreatDoor.Gp
open Go Go.RowKit Ut

/- Blocks of a type stay. -/
def KeepT (t : TypeId) (w w' : World) : Prop := ∀ (g : Nat) cs fr, w.heap[g]? = some (.cells cs t fr) → w'.heap[g]? = w.heap[g]?
section
variable {t : TypeId} {w w' w'' : World}
theorem KeepT.refl : KeepT t w w := fun _ _ _ _ => rfl
theorem KeepT.trans (h : KeepT t w w') (h' : KeepT t w' w'') : KeepT t w w'' := fun g cs fr hg => (h' g cs fr ((h g cs fr hg).trans hg)).trans (h g cs fr hg)
theorem KeepT.of_below (h : Below w.heap.size w w') : KeepT t w w' := fun g _ _ hg => h.block g (lt_of_block hg)
theorem KeepT.setCell {g i : Nat} {t' : TypeId} {cs : Array Value} {fr : Nat × Nat} (h : w.heap[g]? = some (.cells cs t' fr)) (ht : t' ≠ t) (u : Value) : KeepT t w (w.setCell ⟨g, i, none⟩ u) := fun g' cs' fr' hg => by
  refine Below.heap_setCell w _ u g' (fun e => ht ?_)
  subst e
  rw [h] at hg
  injection hg with hg
  injection hg with _ e _
theorem KeepT.grown {row : Option Nat} {t' : TypeId} (hg : w.grownBy w' row) (hr : ∀ g, row = some g → g < w.heap.size → ∃ cs fr, w.heap[g]? = some (.cells cs t' fr)) (ht : t' ≠ t) : KeepT t w w' := fun g cs fr h => by
  refine hg.block g (lt_of_block h) fun e => ?_
  obtain ⟨cs', fr', hc⟩ := hr g e.symm (lt_of_block h)
  rw [h] at hc
  injection hc with hc
  injection hc with _ e' _
  exact ht e'.symm
end
theorem own_keepT {w w' : World} {base n size : Nat} {e : TypeId} {v : Value} {xs : List Value} (h : w.ownsRow base e size v n xs) (hk : KeepT e w w') : w'.ownsRow base e size v n xs := by
  refine ⟨h.1, ?_⟩
  rcases h.2 with h2 | ⟨g, cap, cur, rfl, h3, h4, h5⟩
  · exact .inl h2
  · exact .inr ⟨g, cap, cur, rfl, h3, (hk g _ _ h4).trans h4, h5⟩
/- A made cell's five cells. -/
def RCell5 (w : World) (r : RC) (l : List Value) : Prop := ∃ sA sD, l = [.bool r.lk, .bool r.t.neg, sA, sD, .int .i64 r.wd] ∧ FracAt w r.t (.agg ⟨[.bool r.t.neg, sA, sD]⟩)
theorem RCell5.keep {w w' : World} {r : RC} {l : List Value} (h : RCell5 w r l) (hd : KeepT 195 w w') : RCell5 w' r l := by
  obtain ⟨sA, sD, h1, h2⟩ := h
  exact ⟨sA, sD, h1, h2.keep hd⟩
def RRow (w : World) (v : Value) (rs : List RC) : Prop := ∃ (base : Nat) (ps : List (RC × List Value)), ps.map (·.1) = rs ∧ w.ownsRow base 59 5 v ps.length (ps.map (·.2)).flatten ∧ ∀ p ∈ ps, RCell5 w p.1 p.2
theorem RRow.keep {w w' : World} {v : Value} {rs : List RC} (h : RRow w v rs) (hd : KeepT 195 w w') (hc : KeepT 59 w w') : RRow w' v rs := by
  obtain ⟨base, ps, h1, h2, h3⟩ := h
  exact ⟨base, ps, h1, own_keepT h2 hc, fun p hp => (h3 p hp).keep hd⟩
def RRows (w : World) (base : Nat) (v : Value) (qs : List (List RC × Value)) : Prop := w.ownsRow base 50 1 v qs.length (qs.map (·.2)) ∧ ∀ q ∈ qs, RRow w q.2 q.1
theorem RRows.keep {w w' : World} {base : Nat} {v : Value} {qs : List (List RC × Value)} (h : RRows w base v qs) (hd : KeepT 195 w w') (hc : KeepT 59 w w') (hr : KeepT 50 w w') : RRows w' base v qs :=
  ⟨own_keepT h.1 hr, fun q hq => (h.2 q hq).keep hd hc⟩
/- A row fits its columns. -/
def rowFits (ks : List Nat) (rs : List RC) : Prop := rs.length = ks.length ∧ ∀ (i : Nat) (h : i < rs.length) (h' : i < ks.length), rcOk ks[i] rs[i]
def rfit (ks : List Nat) (rs : List RC) : Prop := ∀ (i : Nat) (h : i < rs.length) (h' : i < ks.length), rcOk ks[i] rs[i]
theorem rfit_snoc {ks : List Nat} {rs : List RC} {r : RC} (h : rfit ks rs) {k : Nat} (hk : rs.length = k) (hl : k < ks.length) (hr : rcOk ks[k] r) : rfit ks (rs ++ [r]) := fun i hi hi' => by
  by_cases hl : i < rs.length
  · rw [List.getElem_append_left hl]; exact h i hl hi'
  · have e : i = rs.length := by simp at hi; omega
    subst e
    rw [List.getElem_append_right (Nat.le_refl _)]
    simp only [Nat.sub_self, List.getElem_cons_zero]
    subst hk; exact hr
theorem infoRC : (Tryz.prog.info? 59).map (fun i => (i.zero, i.size, i.bytes)) = some (some (.agg zc), 5, 72) := by kernel_rfl
theorem infoRRow : (Tryz.prog.info? 50).map (fun i => (i.zero, i.size, i.bytes)) = some (some (.slice none 0 0), 1, 24) := by kernel_rfl
theorem flat5_snoc (ps : List (RC × List Value)) (p : RC × List Value) : ((ps ++ [p]).map (·.2)).flatten = (ps.map (·.2)).flatten ++ p.2 := by simp
theorem set2_blk {w : World} {g : Nat} {T : TypeId} {a b a' b' : Value} (h : Blk w g T #[a', b']) : Blk ((w.setCell ⟨g, 0, none⟩ a).setCell ⟨g, 1, none⟩ b) g T #[a, b] := (h.set_ 0 a).set_ 1 b
end Go.Proofs.YthallgbggkgboaaGreatDoor.Gp
