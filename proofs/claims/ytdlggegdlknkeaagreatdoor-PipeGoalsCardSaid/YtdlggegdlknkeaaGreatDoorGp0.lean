/-
  Columns in memory.
-/
import Derived.Test.YtdlggegdlknkeaaGreatDoorGq3
import Derived.Deep.RegionHeld3
namespace Go.Proofs.YtdlggegdlknkeaaGreatDoor.Gp
open Go Go.RowKit Ut

def wds : List (List UInt8) := [[114, 101, 100], [103, 114, 101, 101, 110], [98, 108, 117, 101], [119, 95, 49], [88, 57]]
def sv (l : List UInt8) : Value := .string ⟨⟨l⟩⟩
def kindOf (kd : Nat) : Int := if kd = 0 then 1 else 2
theorem infoStr : (Tryz.prog.info? 9).map (fun i => (i.zero, i.size, i.bytes)) = some (some (.string ⟨#[]⟩), 1, 16) := by kernel_rfl
/- The words of a column lie in a row of one's own. -/
def WordsAt (w : World) (kd : Nat) (v : Value) : Prop := ∃ base, w.ownsRow base 9 1 v kd ((wds.take kd).map sv)
theorem WordsAt.below {w w' : World} {kd : Nat} {v : Value} (h : WordsAt w kd v) (hb : Below w.heap.size w w') : WordsAt w' kd v := by
  obtain ⟨base, h1, h2⟩ := h
  refine ⟨base, h1, ?_⟩
  rcases h2 with h2 | ⟨g, cap, cur, rfl, h3, h4, h5⟩
  · exact .inl h2
  · exact .inr ⟨g, cap, cur, rfl, h3, (hb.block g (lt_of_block h4)).trans h4, h5⟩
def ofKind (kd : Nat) (w : World) (wd : Value) : Prop := if kd = 0 then ∃ A c, wd = .slice A 0 c else WordsAt w kd wd
/- A column: its name, its kind (0: numbers; else so many words), where its words lie. -/
structure CI where
  nm : ByteArray
  kd : Nat
  wd : Value
def CI.cells (c : CI) : List Value := [.string c.nm, .int .i64 (kindOf c.kd), c.wd]
def flat (cs : List CI) : List Value := cs.flatMap CI.cells
theorem flat_length : ∀ (cs : List CI), (flat cs).length = cs.length * 3
  | [] => rfl
  | c :: cs => by
    show (CI.cells c ++ flat cs).length = _
    rw [List.length_append, flat_length cs, List.length_cons]; show 3 + _ = _; omega
theorem flat_at : ∀ (cs : List CI) (i : Nat) (h : i < cs.length) (j : Nat), j < 3 → (flat cs)[i * 3 + j]? = (CI.cells cs[i])[j]?
  | [], i, h, _, _ => by simp at h
  | c :: cs, i, h, j, hj => by
    show (CI.cells c ++ flat cs)[i * 3 + j]? = _
    cases i with
    | zero => rw [Nat.zero_mul, Nat.zero_add, List.getElem?_append_left hj]; rfl
    | succ i =>
      rw [List.getElem?_append_right (by show 3 ≤ _; omega), List.getElem_cons_succ, ← flat_at cs i (by simpa using h) j hj]
      congr 1
      show _ - 3 = _; omega
theorem ofKind.below {kd : Nat} {w w' : World} {v : Value} (h : ofKind kd w v) (hb : Below w.heap.size w w') : ofKind kd w' v := by
  unfold ofKind at h ⊢
  by_cases h0 : kd = 0
  · rw [if_pos h0] at h ⊢; exact h
  · rw [if_neg h0] at h ⊢; exact WordsAt.below h hb
theorem own_below {w w' : World} {base n size : Nat} {e : TypeId} {v : Value} {xs : List Value} (h : w.ownsRow base e size v n xs) (hb : Below w.heap.size w w') : w'.ownsRow base e size v n xs := by
  refine ⟨h.1, ?_⟩
  rcases h.2 with h2 | ⟨g, cap, cur, rfl, h3, h4, h5⟩
  · exact .inl h2
  · exact .inr ⟨g, cap, cur, rfl, h3, (hb.block g (lt_of_block h4)).trans h4, h5⟩
def ColsAt (w : World) (v : Value) (cs : List CI) : Prop := (∃ base, w.ownsRow base 64 3 v cs.length (flat cs)) ∧ ∀ c ∈ cs, c.kd ≤ 5 ∧ ofKind c.kd w c.wd
theorem ColsAt.below {w w' : World} {v : Value} {cs : List CI} (h : ColsAt w v cs) (hb : Below w.heap.size w w') : ColsAt w' v cs := by
  obtain ⟨⟨base, h1⟩, h2⟩ := h
  exact ⟨⟨base, own_below h1 hb⟩, fun c hc => ⟨(h2 c hc).1, (h2 c hc).2.below hb⟩⟩
theorem own_slice {w : World} {base n size : Nat} {e : TypeId} {v : Value} {xs : List Value} (h : w.ownsRow base e size v n xs) : ∃ A c, v = .slice A n c ∧ n ≤ c := by
  rcases h.2 with ⟨rfl, hn⟩ | ⟨g, cap, cur, rfl, _, _, h5, _⟩
  · exact ⟨none, 0, by rw [hn], by omega⟩
  · exact ⟨_, _, rfl, h5⟩
theorem own_cell {w : World} {base n size : Nat} {e : TypeId} {A : Option Addr} {c : Nat} {xs : List Value} (h : w.ownsRow base e size (.slice A n c) n xs) (hn : 0 < n) :
    ∃ g, A = some ⟨g, 0, none⟩ ∧ base ≤ g ∧ g < w.heap.size ∧ ∀ (j : Nat) u, xs[j]? = some u → w.cell? ⟨g, j, none⟩ = some u := by
  rcases h.2 with ⟨_, h0⟩ | ⟨g, cap, cur, hv, hb, h4, h5, h6, h7, h8⟩
  · omega
  · injection hv with hA
    subst hA
    refine ⟨g, rfl, hb, lt_of_block h4, fun j u hu => ?_⟩
    unfold World.cell?
    simp only [h4]
    rw [← h8, List.getElem?_take] at hu
    split at hu
    · simpa using hu
    · cases hu
theorem ColsAt.at_ {w : World} {A : Option Addr} {n c : Nat} {cs : List CI} (h : ColsAt w (.slice A n c) cs) {i : Nat} (hi : i < cs.length) :
    ∃ g, A = some ⟨g, 0, none⟩ ∧ g < w.heap.size ∧ w.cell? ⟨g, i * 3, none⟩ = some (.string cs[i].nm) ∧ w.cell? ⟨g, i * 3 + 1, none⟩ = some (.int .i64 (kindOf cs[i].kd)) ∧ w.cell? ⟨g, i * 3 + 2, none⟩ = some cs[i].wd := by
  obtain ⟨⟨base, h1⟩, h2⟩ := h
  obtain ⟨A', c', e, _⟩ := own_slice h1
  injection e with e1 e2 e3
  subst e1; subst e2; subst e3
  obtain ⟨g, rfl, _, hg, hc⟩ := own_cell h1 (by omega)
  have at' : ∀ j, j < 3 → ∀ u, (CI.cells cs[i])[j]? = some u → w.cell? ⟨g, i * 3 + j, none⟩ = some u := fun j hj u hu => hc _ _ ((flat_at cs i hi j hj).trans hu)
  exact ⟨g, rfl, hg, at' 0 (by omega) _ rfl, at' 1 (by omega) _ rfl, at' 2 (by omega) _ rfl⟩
theorem ColsAt.len {w : World} {v : Value} {cs : List CI} (h : ColsAt w v cs) : ∃ A c, v = .slice A cs.length c := by
  obtain ⟨⟨base, h1⟩, _⟩ := h
  obtain ⟨A, c, e, _⟩ := own_slice h1
  exact ⟨A, c, e⟩
theorem new_read2 (w : World) (o : Obj) (t : TypeId) (us : List Value) : ∀ j u, us[j]? = some u → ((w.alloc o).alloc (.cells ⟨us⟩ t)).cell? ((⟨w.heap.size + 1, 0, none⟩ : Addr).add j) = some u := by
  have h := new_read (w.alloc o) t us
  rw [show (w.alloc o).heap.size = w.heap.size + 1 by simp] at h
  exact h
theorem infoRCol : (Tryz.prog.info? 62).map (fun i => (i.zero, i.size, i.bytes)) = some (some (.agg #[.string ⟨#[]⟩, .int .i64 0, .slice none 0 0]), 3, 48) := by kernel_rfl
def rcCells (g : Nat) (r : ByteArray × Nat) : List Value := [.string r.1, .int .i64 (kindOf r.2), if r.2 = 0 then .slice none 0 0 else .slice (some ⟨g, 0, none⟩) r.2 5]
def rflat (g : Nat) (rs : List (ByteArray × Nat)) : List Value := rs.flatMap (rcCells g)
def RColsAt (w : World) (base : Nat) (v : Value) (g : Nat) (rs : List (ByteArray × Nat)) : Prop := w.ownsRow base 62 3 v rs.length (rflat g rs)
def rOk (rs : List (ByteArray × Nat)) : Prop := ∀ r ∈ rs, r.2 ≤ 5
theorem rflat_snoc (g : Nat) (rs : List (ByteArray × Nat)) (r : ByteArray × Nat) : rflat g (rs ++ [r]) = rflat g rs ++ rcCells g r := by unfold rflat; simp
theorem rOk_snoc {rs : List (ByteArray × Nat)} {r : ByteArray × Nat} (h : rOk rs) (hr : r.2 ≤ 5) : rOk (rs ++ [r]) := fun x hx => by
  rcases List.mem_append.1 hx with hx | hx
  · exact h x hx
  · rw [List.mem_singleton.1 hx]; exact hr
def wordsC : Array Value := ⟨wds.map sv⟩

theorem infoCol : (Tryz.prog.info? 64).map (fun i => (i.zero, i.size, i.bytes)) = some (some (.agg #[.string ⟨#[]⟩, .int .i64 0, .slice none 0 0]), 3, 48) := by kernel_rfl
theorem rflat_length (g : Nat) : ∀ (rs : List (ByteArray × Nat)), (rflat g rs).length = rs.length * 3
  | [] => rfl
  | r :: rs => by
    show (rcCells g r ++ rflat g rs).length = _
    rw [List.length_append, rflat_length g rs, List.length_cons]; show 3 + _ = _; omega
theorem rflat_at (g : Nat) : ∀ (rs : List (ByteArray × Nat)) (i : Nat) (h : i < rs.length) (j : Nat), j < 3 → (rflat g rs)[i * 3 + j]? = (rcCells g rs[i])[j]?
  | [], i, h, _, _ => by simp at h
  | r :: rs, i, h, j, hj => by
    show (rcCells g r ++ rflat g rs)[i * 3 + j]? = _
    cases i with
    | zero => rw [Nat.zero_mul, Nat.zero_add, List.getElem?_append_left hj]; rfl
    | succ i =>
      rw [List.getElem?_append_right (by show 3 ≤ _; omega), List.getElem_cons_succ, ← rflat_at g rs i (by simpa using h) j hj]
      congr 1
      show _ - 3 = _; omega
/- Words stay where a row of columns is written. -/
theorem WordsAt.grown {w w' : World} {kd : Nat} {v : Value} {row : Option Nat} (h : WordsAt w kd v) (hg : w.grownBy w' row) (hr : ∀ g, row = some g → g < w.heap.size → ∃ cs fr, w.heap[g]? = some (.cells cs 64 fr)) : WordsAt w' kd v := by
  obtain ⟨base, h1, h2⟩ := h
  refine ⟨base, h1, ?_⟩
  rcases h2 with h2 | ⟨g, cap, cur, rfl, h3, h4, h5⟩
  · exact .inl h2
  · refine .inr ⟨g, cap, cur, rfl, h3, (hg.block g (lt_of_block h4) (fun e => ?_)).trans h4, h5⟩
    obtain ⟨cs, fr, hc⟩ := hr g e.symm (lt_of_block h4)
    rw [h4] at hc
    injection hc with hc
    injection hc with _ ht
    exact absurd ht (by decide)
theorem ofKind.grown {w w' : World} {kd : Nat} {v : Value} {row : Option Nat} (h : ofKind kd w v) (hg : w.grownBy w' row) (hr : ∀ g, row = some g → g < w.heap.size → ∃ cs fr, w.heap[g]? = some (.cells cs 64 fr)) : ofKind kd w' v := by
  unfold ofKind at h ⊢
  by_cases h0 : kd = 0
  · rw [if_pos h0] at h ⊢; exact h
  · rw [if_neg h0] at h ⊢; exact WordsAt.grown h hg hr
theorem own_type {w : World} {base n size : Nat} {e : TypeId} {v : Value} {xs : List Value} (h : w.ownsRow base e size v n xs) : ∀ g, v.ownBlock = some g → g < w.heap.size → ∃ cs fr, w.heap[g]? = some (.cells cs e fr) := by
  intro g hg _
  rcases h.2 with ⟨rfl, _⟩ | ⟨g', cap, cur, rfl, h1, h2, _⟩
  · cases hg
  · injection hg with hg
    subst hg
    exact ⟨_, _, h2⟩
theorem flat_snoc (cs : List CI) (c : CI) : flat (cs ++ [c]) = flat cs ++ c.cells := by unfold flat; simp
theorem own_nil0 (w : World) (t : TypeId) : (w.alloc (.cells #[] t)).ownsRow w.heap.size t 1 (.slice (some ⟨w.heap.size, 0, none⟩) 0 0) 0 [] :=
  World.ownsRow_made w #[] 0 (Nat.le_refl _) (by unfold maxLen; omega) rfl

theorem words_length {kd : Nat} (h : kd ≤ 5) : ((wds.take kd).map sv).length = kd * 1 := by
  rw [List.length_map, List.length_take, Nat.mul_one]
  exact Nat.min_eq_left h
theorem words_one (kd : Nat) : ∀ u ∈ (wds.take kd).map sv, u.oneCell' = true := by
  intro u hu
  obtain ⟨x, _, rfl⟩ := List.mem_map.1 hu
  rfl
theorem words_read {W : World} {g kd : Nat} (h : W.heap[g]? = some (.cells wordsC 9 (0, 0))) : ∀ (j : Nat) u, ((wds.take kd).map sv)[j]? = some u → W.cell? ((⟨g, 0, none⟩ : Addr).add j) = some u := by
  intro j u hu
  rw [show (⟨g, 0, none⟩ : Addr).add j = ⟨g, j, none⟩ by unfold Addr.add; by_cases hj : j = 0 <;> simp [hj], Blk.cell h]
  show (wds.map sv).toArray[j]? = some u
  rw [List.getElem?_toArray]
  rw [List.map_take, List.getElem?_take] at hu
  split at hu
  · exact hu
  · cases hu

end Go.Proofs.YtdlggegdlknkeaaGreatDoor.Gp
