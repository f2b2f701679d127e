/-
  Plain law: texts joined by commas are what is cut at them (no program in sight).
-/
import Derived.Lib.SplitLaws
import Derived.Lib.IndexLaws
namespace Go.Proofs.YtelehhfnomdneaaGreatDoor.Tc
open Go

def join : List (List UInt8) → List UInt8
  | [] => []
  | [t] => t
  | t :: u :: l => t ++ 44 :: join (u :: l)
def cuts : List UInt8 → List UInt8 → List (List UInt8)
  | acc, [] => [acc]
  | acc, b :: l => if b = 44 then acc :: cuts [] l else cuts (acc ++ [b]) l
def NoC (t : List UInt8) : Prop := ∀ b ∈ t, b ≠ 44
theorem cuts_free : ∀ (t acc rest : List UInt8), NoC t → cuts acc (t ++ rest) = cuts (acc ++ t) rest
  | [], acc, rest, _ => by simp
  | b :: t, acc, rest, h => by
    have hb : b ≠ 44 := h b (by simp)
    rw [List.cons_append, cuts, if_neg hb, cuts_free t _ rest (fun x hx => h x (by simp [hx])), List.append_assoc, List.singleton_append]
theorem cuts_join : ∀ (ts : List (List UInt8)), ts ≠ [] → (∀ t ∈ ts, NoC t) → cuts [] (join ts) = ts
  | [], h, _ => absurd rfl h
  | [t], _, h => by
    have := cuts_free t [] [] (h t (by simp))
    rw [List.append_nil, List.nil_append] at this
    show cuts [] t = [t]
    rw [this]; rfl
  | t :: u :: l, _, h => by
    show cuts [] (t ++ 44 :: join (u :: l)) = _
    rw [cuts_free t [] _ (h t (by simp)), List.nil_append, cuts, if_pos rfl, cuts_join (u :: l) (by simp) (fun x hx => h x (by simp [hx]))]
theorem count_free {t : List UInt8} (h : NoC t) : t.count 44 = 0 := List.count_eq_zero.2 fun hm => h _ hm rfl
theorem count_join : ∀ (ts : List (List UInt8)), ts ≠ [] → (∀ t ∈ ts, NoC t) → (join ts).count 44 + 1 = ts.length
  | [], h, _ => absurd rfl h
  | [t], _, h => by show t.count 44 + 1 = 1; rw [count_free (h t (by simp))]
  | t :: u :: l, _, h => by
    show (t ++ 44 :: join (u :: l)).count 44 + 1 = _
    have := count_join (u :: l) (by simp) (fun x hx => h x (by simp [hx]))
    rw [List.count_append, count_free (h t (by simp)), List.count_cons_self, List.length_cons, ← this]; omega
theorem occAt_one (s : List UInt8) (i : Nat) : Lib.occAt s [44] i = (s[i]? == some 44) := by
  unfold Lib.occAt
  rcases h : s[i]? with _ | b
  · rw [List.drop_eq_nil_of_le (by simpa using h)]; rfl
  · obtain ⟨hl, hb⟩ := List.getElem?_eq_some_iff.1 h
    rw [List.drop_eq_getElem_cons hl, hb]
    show ((44 : UInt8) == b && [].isPrefixOf _) = _
    simp [List.isPrefixOf]
    exact BEq.comm
theorem index_join (t rest : List UInt8) (h : NoC t) : Lib.index (t ++ 44 :: rest) [44] = t.length := by
  refine Lib.index_hit (fun j hj => ?_) (by simp) ?_
  · rw [occAt_one, List.getElem?_append_left hj, List.getElem?_eq_getElem hj]
    have := h _ (List.getElem_mem hj)
    simpa using this
  · rw [occAt_one, List.getElem?_append_right (Nat.le_refl _)]
    simp
theorem splitK_join : ∀ (ts : List (List UInt8)), ts ≠ [] → (∀ t ∈ ts, NoC t) → Lib.splitK [44] 0 (ts.length - 1) (join ts) = ts
  | [], h, _ => absurd rfl h
  | [t], _, h => rfl
  | t :: u :: l, _, h => by
    show Lib.splitK [44] 0 (l.length + 1) (t ++ 44 :: join (u :: l)) = _
    unfold Lib.splitK
    rw [index_join t _ (h t (by simp))]
    have hne : ¬ ((t.length : Int) == -1) = true := by
      intro e; have := beq_iff_eq.1 e; omega
    rw [if_neg hne]
    have ih := splitK_join (u :: l) (by simp) (fun x hx => h x (by simp [hx]))
    have e1 : ((t.length : Int)).toNat = t.length := by omega
    rw [e1, Nat.add_zero, List.take_left' rfl]
    show t :: Lib.splitK [44] 0 l.length ((t ++ 44 :: join (u :: l)).drop (t.length + 1)) = _
    have e2 : (t ++ 44 :: join (u :: l)).drop (t.length + 1) = join (u :: l) := by
      rw [← List.drop_drop, List.drop_left' rfl]; rfl
    rw [e2]
    exact congrArg _ ih
theorem split_join {ts : List (List UInt8)} (hn : ts ≠ []) (h : ∀ t ∈ ts, NoC t) {s sep : ByteArray} (hs : s.data.toList = join ts) (hp : sep.data.toList = [44]) :
    (Lib.splitB sep 0 (Lib.countB s sep) s).map (·.data.toList) = ts ∧ Lib.countB s sep + 1 = ts.length := by
  have hc : Lib.countB s sep = (join ts).count 44 := by
    show Lib.count s.data.toList sep.data.toList = _
    rw [hs, hp, Lib.count_one]
  have hj := count_join ts hn h
  refine ⟨?_, by rw [hc]; exact hj⟩
  rw [Lib.splitB_data, hc, hs, hp]
  have : (join ts).count 44 = ts.length - 1 := by omega
  rw [this]
  exact splitK_join ts hn h
/- The cut goes on: one more byte. -/
theorem cut_hit {L : List UInt8} {O X : List (List UInt8)} {k f : Nat} (hk : k < L.length) (h : L[k] = 44) (he : O ++ cuts ((L.take k).drop f) (L.drop k) = X) :
    (O ++ [(L.take k).drop f]) ++ cuts ((L.take (k + 1)).drop (k + 1)) (L.drop (k + 1)) = X := by
  rw [List.drop_eq_getElem_cons hk, cuts, if_pos h] at he
  have e : (L.take (k + 1)).drop (k + 1) = [] := List.drop_eq_nil_of_le (by rw [List.length_take]; omega)
  rw [e, ← he]
  simp
theorem cut_go {L : List UInt8} {O X : List (List UInt8)} {k f : Nat} (hf : f ≤ k) (hk : k < L.length) (h : ¬ L[k] = 44) (he : O ++ cuts ((L.take k).drop f) (L.drop k) = X) :
    O ++ cuts ((L.take (k + 1)).drop f) (L.drop (k + 1)) = X := by
  rw [List.drop_eq_getElem_cons hk, cuts, if_neg h] at he
  rw [List.take_succ_eq_append_getElem hk, List.drop_append_of_le_length (by simp; omega), he]
theorem cut_end {L : List UInt8} {O X : List (List UInt8)} {k f : Nat} (hk : L.length ≤ k) (he : O ++ cuts ((L.take k).drop f) (L.drop k) = X) : O ++ [L.drop f] = X := by
  rw [List.drop_eq_nil_of_le hk, List.take_of_length_le hk] at he
  exact he
theorem ext_data (s : ByteArray) (f k : Nat) : (s.extract f k).data.toList = (s.data.toList.take k).drop f := by
  rw [Lib.extract_data, List.drop_take]
/- One more text. -/
theorem join_snoc : ∀ (ts : List (List UInt8)) (t : List UInt8), join (ts ++ [t]) = if ts = [] then t else join ts ++ 44 :: t
  | [], t => rfl
  | [u], t => rfl
  | u :: v :: l, t => by
    show u ++ 44 :: join ((v :: l) ++ [t]) = _
    rw [join_snoc (v :: l) t, if_neg (by simp), if_neg (by simp)]
    show u ++ 44 :: (join (v :: l) ++ 44 :: t) = (u ++ 44 :: join (v :: l)) ++ 44 :: t
    simp
end Go.Proofs.YtelehhfnomdneaaGreatDoor.Tc
