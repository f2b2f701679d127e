/-
  The columns in memory; the cells of a text, pure.
-/
import Derived.Test.YtmkkkeehkobadaaGreatDoorTc2
namespace Go.Proofs.YtmkkkeehkobadaaGreatDoor.Tc
open Go Go.RowKit Ut

/- The cells of a text, or the first error. -/
def runP : List (Nat × List UInt8) → List (List Value) × Int
  | [] => ([], 0)
  | p :: l => if (cellP p.1 p.2).2 = 0 then (if (runP l).2 = 0 then ((cellP p.1 p.2).1 :: (runP l).1, 0) else ([], (runP l).2)) else ([], (cellP p.1 p.2).2)
theorem runP_ok : ∀ (l : List (Nat × List UInt8)), (∀ p ∈ l, (cellP p.1 p.2).2 = 0) → runP l = (l.map fun p => (cellP p.1 p.2).1, 0)
  | [], _ => rfl
  | p :: l, h => by
    unfold runP
    rw [runP_ok l (fun q hq => h q (by simp [hq])), if_pos (h p (by simp)), if_pos rfl]; rfl
theorem runP_err : ∀ (l : List (Nat × List UInt8)) (k : Nat) (p : Nat × List UInt8), l[k]? = some p → (∀ q ∈ l.take k, (cellP q.1 q.2).2 = 0) → ¬ (cellP p.1 p.2).2 = 0 → runP l = ([], (cellP p.1 p.2).2)
  | [], k, p, h, _, _ => by simp at h
  | a :: l, 0, p, h, _, hp => by
    simp at h; subst h
    unfold runP
    rw [if_neg hp]
  | a :: l, k + 1, p, h, hq, hp => by
    simp at h
    have ih := runP_err l k p h (fun q hq' => hq q (by simp [hq'])) hp
    unfold runP
    rw [ih, if_pos (hq a (by simp)), if_neg hp]
theorem cz_length (b : Bool) {q : List Value} (hq : q ∈ qs) (n : Nat) : (cz b q n).length = 7 := by
  simp only [qs, List.mem_cons, List.not_mem_nil, or_false] at hq
  rcases hq with rfl | rfl | rfl | rfl <;> rfl
theorem cellP_length (kd : Nat) (t : List UInt8) : (cellP kd t).1.length = 7 := by
  obtain ⟨b, q, n, h, hq⟩ := cellP_form kd t
  rw [h]; exact cz_length b hq n
/- A cell's parts, by name. -/
theorem cellP_parts (kd : Nat) (t : List UInt8) : ∃ (b c : Bool) (n d : Int) (i : Nat), (cellP kd t).1 = [.bool b, .bool c, .int .u64 n, .string ⟨⟨[]⟩⟩, .int .u64 d, .string ⟨⟨[]⟩⟩, .int .i64 i] ∧ qv c n d ∈ qs := by
  obtain ⟨b, q, i, h, hq⟩ := cellP_form kd t
  rw [h]
  have hq' := hq
  simp only [qs, List.mem_cons, List.not_mem_nil, or_false] at hq'
  rcases hq' with rfl | rfl | rfl | rfl
  · exact ⟨b, _, _, _, i, rfl, hq⟩
  · exact ⟨b, _, _, _, i, rfl, hq⟩
  · exact ⟨b, _, _, _, i, rfl, hq⟩
  · exact ⟨b, _, _, _, i, rfl, hq⟩
theorem cellP_err (kd : Nat) (t : List UInt8) : (cellP kd t).2 = 0 ∨ (cellP kd t).2 = 2 ∨ (cellP kd t).2 = 11 := by
  unfold cellP
  repeat' split
  all_goals simp

/- A column: its name, its kind (0: numbers; else so many words), where its words lie. -/
structure CI where
  nm : ByteArray
  kd : Nat
  wd : Value
def CI.cells (c : CI) : List Value := [.string c.nm, .int .i64 (kindOf c.kd), c.wd]
def flat (cs : List CI) : List Value := cs.flatMap CI.cells
theorem flat_length : ∀ (cs : List CI), (flat cs).length = cs.length * 3
  | [] => rfl
  | c :: cs => by
    show (CI.cells c ++ flat cs).length = _
    rw [List.length_append, flat_length cs, List.length_cons]; show 3 + _ = _; omega
theorem flat_at : ∀ (cs : List CI) (i : Nat) (h : i < cs.length) (j : Nat), j < 3 → (flat cs)[i * 3 + j]? = (CI.cells cs[i])[j]?
  | [], i, h, _, _ => by simp at h
  | c :: cs, i, h, j, hj => by
    show (CI.cells c ++ flat cs)[i * 3 + j]? = _
    cases i with
    | zero => rw [Nat.zero_mul, Nat.zero_add, List.getElem?_append_left hj]; rfl
    | succ i =>
      rw [List.getElem?_append_right (by show 3 ≤ _; omega), List.getElem_cons_succ, ← flat_at cs i (by simpa using h) j hj]
      congr 1
      show _ - 3 = _; omega
theorem ofKind.below {kd : Nat} {w w' : World} {v : Value} (h : ofKind kd w v) (hb : Below w.heap.size w w') : ofKind kd w' v := by
  unfold ofKind at h ⊢
  by_cases h0 : kd = 0
  · rw [if_pos h0] at h ⊢; exact h
  · rw [if_neg h0] at h ⊢; exact WordsAt.below h hb
theorem own_below {w w' : World} {base n size : Nat} {e : TypeId} {v : Value} {xs : List Value} (h : w.ownsRow base e size v n xs) (hb : Below w.heap.size w w') : w'.ownsRow base e size v n xs := by
  refine ⟨h.1, ?_⟩
  rcases h.2 with h2 | ⟨g, cap, cur, rfl, h3, h4, h5⟩
  · exact .inl h2
  · exact .inr ⟨g, cap, cur, rfl, h3, (hb.block g (lt_of_block h4)).trans h4, h5⟩
def ColsAt (w : World) (v : Value) (cs : List CI) : Prop := (∃ base, w.ownsRow base 31 3 v cs.length (flat cs)) ∧ ∀ c ∈ cs, c.kd ≤ 5 ∧ ofKind c.kd w c.wd
theorem ColsAt.below {w w' : World} {v : Value} {cs : List CI} (h : ColsAt w v cs) (hb : Below w.heap.size w w') : ColsAt w' v cs := by
  obtain ⟨⟨base, h1⟩, h2⟩ := h
  exact ⟨⟨base, own_below h1 hb⟩, fun c hc => ⟨(h2 c hc).1, (h2 c hc).2.below hb⟩⟩
theorem own_slice {w : World} {base n size : Nat} {e : TypeId} {v : Value} {xs : List Value} (h : w.ownsRow base e size v n xs) : ∃ A c, v = .slice A n c ∧ n ≤ c := by
  rcases h.2 with ⟨rfl, hn⟩ | ⟨g, cap, cur, rfl, _, _, h5, _⟩
  · exact ⟨none, 0, by rw [hn], by omega⟩
  · exact ⟨_, _, rfl, h5⟩
theorem own_cell {w : World} {base n size : Nat} {e : TypeId} {A : Option Addr} {c : Nat} {xs : List Value} (h : w.ownsRow base e size (.slice A n c) n xs) (hn : 0 < n) :
    ∃ g, A = some ⟨g, 0, none⟩ ∧ base ≤ g ∧ g < w.heap.size ∧ ∀ (j : Nat) u, xs[j]? = some u → w.cell? ⟨g, j, none⟩ = some u := by
  rcases h.2 with ⟨_, h0⟩ | ⟨g, cap, cur, hv, hb, h4, h5, h6, h7, h8⟩
  · omega
  · injection hv with hA
    subst hA
    refine ⟨g, rfl, hb, lt_of_block h4, fun j u hu => ?_⟩
    unfold World.cell?
    simp only [h4]
    rw [← h8, List.getElem?_take] at hu
    split at hu
    · simpa using hu
    · cases hu
theorem ColsAt.at_ {w : World} {A : Option Addr} {n c : Nat} {cs : List CI} (h : ColsAt w (.slice A n c) cs) {i : Nat} (hi : i < cs.length) :
    ∃ g, A = some ⟨g, 0, none⟩ ∧ g < w.heap.size ∧ w.cell? ⟨g, i * 3, none⟩ = some (.string cs[i].nm) ∧ w.cell? ⟨g, i * 3 + 1, none⟩ = some (.int .i64 (kindOf cs[i].kd)) ∧ w.cell? ⟨g, i * 3 + 2, none⟩ = some cs[i].wd := by
  obtain ⟨⟨base, h1⟩, h2⟩ := h
  obtain ⟨A', c', e, _⟩ := own_slice h1
  injection e with e1 e2 e3
  subst e1; subst e2; subst e3
  obtain ⟨g, rfl, _, hg, hc⟩ := own_cell h1 (by omega)
  have at' : ∀ j, j < 3 → ∀ u, (CI.cells cs[i])[j]? = some u → w.cell? ⟨g, i * 3 + j, none⟩ = some u := fun j hj u hu => hc _ _ ((flat_at cs i hi j hj).trans hu)
  exact ⟨g, rfl, hg, at' 0 (by omega) _ rfl, at' 1 (by omega) _ rfl, at' 2 (by omega) _ rfl⟩
theorem ColsAt.len {w : World} {v : Value} {cs : List CI} (h : ColsAt w v cs) : ∃ A c, v = .slice A cs.length c := by
  obtain ⟨⟨base, h1⟩, _⟩ := h
  obtain ⟨A, c, e, _⟩ := own_slice h1
  exact ⟨A, c, e⟩
theorem flat7_length : ∀ (l : List (List Value)), (∀ x ∈ l, x.length = 7) → l.flatten.length = l.length * 7
  | [], _ => rfl
  | x :: l, h => by
    rw [List.flatten_cons, List.length_append, flat7_length l (fun y hy => h y (by simp [hy])), h x (by simp), List.length_cons]; omega
theorem flat7_at : ∀ (l : List (List Value)), (∀ x ∈ l, x.length = 7) → ∀ (i : Nat) (h : i < l.length) (j : Nat), j < 7 → l.flatten[i * 7 + j]? = l[i][j]?
  | [], _, i, h, _, _ => by simp at h
  | x :: l, hx, i, h, j, hj => by
    rw [List.flatten_cons]
    have h7 := hx x (by simp)
    cases i with
    | zero => rw [Nat.zero_mul, Nat.zero_add, List.getElem?_append_left (by omega)]; rfl
    | succ i =>
      rw [List.getElem?_append_right (by omega), List.getElem_cons_succ, ← flat7_at l (fun y hy => hx y (by simp [hy])) i (by simpa using h) j hj]
      congr 1
      omega
end Go.Proofs.YtmkkkeehkobadaaGreatDoor.Tc
