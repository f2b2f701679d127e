/-
  ToolCells: the law's walk.
-/
import Derived.Test.YtmkkkeehkobadaaGreatDoorTc5
import Derived.Test.YtmkkkeehkobadaaGreatDoorTc7
namespace Go.Proofs.YtmkkkeehkobadaaGreatDoor.Tc
open Go Go.RowKit Ut

theorem texts_free : ∀ t ∈ texts, NoC t := by
  intro t ht b hb
  simp only [texts, List.mem_cons, List.not_mem_nil, or_false] at ht
  rcases ht with rfl | rfl | rfl | rfl | rfl | rfl | rfl | rfl | rfl | rfl | rfl <;> simp at hb <;> (try omega) <;> (rcases hb with rfl | rfl | rfl | rfl | rfl) <;> decide
theorem texts_short : ∀ t ∈ texts, t.length ≤ 5 := by decide
theorem wds_texts : ∀ t ∈ wds, t ∈ texts := by decide
theorem app_data (a b : ByteArray) : (a ++ b).data.toList = a.data.toList ++ b.data.toList := by simp
def oneCell (x : List Value) : Prop := ∃ b c n d ix, x = cl7 b c n d ix ∧ qv c n d ∈ qs
theorem toolP_parts (cs : List CI) (ts : List (List UInt8)) : ∀ x ∈ (toolP cs ts).1, oneCell x := by
  have h : ∀ (l : List (Nat × List UInt8)), ∀ x ∈ (runP l).1, oneCell x := by
    intro l
    induction l with
    | nil => intro x hx; cases hx
    | cons p l ih =>
      intro x hx
      unfold runP at hx
      split at hx
      · split at hx
        · rcases List.mem_cons.1 hx with rfl | hx
          · obtain ⟨b, c, n, d, i, h1, h2⟩ := cellP_parts p.1 p.2
            exact ⟨b, c, n, d, i, h1, h2⟩
          · exact ih x hx
        · cases hx
      · cases hx
  unfold toolP
  split
  · exact h _
  · intro x hx; cases hx
def someC : Array Value := ⟨texts.map sv⟩
theorem some_at {W : World} {g : Nat} (h : Blk W g 9 someC) {j : Nat} (hj : j < 11) : ∃ t, t ∈ texts ∧ W.cell? ⟨g, j, none⟩ = some (.string ⟨⟨t⟩⟩) := by
  have hl : j < texts.length := hj
  refine ⟨texts[j], List.getElem_mem hl, ?_⟩
  rw [h.cell]
  show (texts.map sv).toArray[j]? = _
  rw [List.getElem?_toArray, List.getElem?_map, List.getElem?_eq_getElem hl]; rfl
theorem words_at {W : World} {kd : Nat} {v : Value} (h : WordsAt W kd v) (h0 : 0 < kd) (h5 : kd ≤ 5) : ∃ g c, v = .slice (some ⟨g, 0, none⟩) kd c ∧ ∀ j, j < kd → ∃ t, t ∈ texts ∧ W.cell? ⟨g, j, none⟩ = some (.string ⟨⟨t⟩⟩) := by
  obtain ⟨base, h⟩ := h
  obtain ⟨A, c, rfl, _⟩ := own_slice h
  obtain ⟨g, rfl, _, _, hc⟩ := own_cell h h0
  refine ⟨g, c, rfl, fun j hj => ?_⟩
  have hl : j < wds.length := Nat.lt_of_lt_of_le hj h5
  refine ⟨wds[j], wds_texts _ (List.getElem_mem hl), hc j _ ?_⟩
  rw [List.getElem?_map, List.getElem?_take, if_pos hj, List.getElem?_eq_getElem hl]; rfl

theorem next_pos {ts : List (List UInt8)} {sb : ByteArray} (hsb : sb.data.toList = join ts) (hn : 0 < ts.length) (t : List UInt8) : (sb ++ ⟨#[44]⟩ ++ ⟨⟨t⟩⟩ : ByteArray).data.toList = join (ts ++ [t]) := by
  rw [app_data, app_data, hsb, join_snoc, if_neg (fun e => by rw [e] at hn; simp at hn)]
  simp
theorem next_zero {ts : List (List UInt8)} {sb : ByteArray} (hsb : sb.data.toList = join ts) (hn : ¬ 0 < ts.length) (t : List UInt8) : (sb ++ ⟨⟨t⟩⟩ : ByteArray).data.toList = join (ts ++ [t]) := by
  obtain rfl : ts = [] := List.eq_nil_of_length_eq_zero (by omega)
  rw [app_data, hsb]; rfl
theorem snoc_texts {ts : List (List UInt8)} {t : List UInt8} (h : ∀ t ∈ ts, t ∈ texts) (ht : t ∈ texts) : ∀ u ∈ ts ++ [t], u ∈ texts := fun u hu => by
  rcases List.mem_append.1 hu with hu | hu
  · exact h u hu
  · rw [List.mem_singleton.1 hu]; exact ht
theorem size_pos {sb : ByteArray} {t : List UInt8} {k : Nat} (h : sb.size ≤ 6 * k) (ht : t.length ≤ 5) : (sb ++ ⟨#[44]⟩ ++ ⟨⟨t⟩⟩ : ByteArray).size ≤ 6 * (k + 1) := by
  have e : (sb ++ ⟨#[44]⟩ ++ ⟨⟨t⟩⟩ : ByteArray).size = (sb ++ ⟨#[44]⟩ ++ ⟨⟨t⟩⟩ : ByteArray).data.toList.length := rfl
  have e2 : sb.size = sb.data.toList.length := rfl
  rw [e, app_data, app_data, List.length_append, List.length_append]
  show sb.data.toList.length + 1 + t.length ≤ _
  omega
theorem size_zero {sb : ByteArray} {t : List UInt8} {k : Nat} (h : sb.size ≤ 6 * k) (ht : t.length ≤ 5) : (sb ++ ⟨⟨t⟩⟩ : ByteArray).size ≤ 6 * (k + 1) := by
  have e : (sb ++ ⟨⟨t⟩⟩ : ByteArray).size = (sb ++ ⟨⟨t⟩⟩ : ByteArray).data.toList.length := rfl
  have e2 : sb.size = sb.data.toList.length := rfl
  rw [e, app_data, List.length_append]
  show sb.data.toList.length + t.length ≤ _
  omega

theorem runP_length : ∀ (l : List (Nat × List UInt8)), (runP l).1.length ≤ l.length
  | [] => Nat.le_refl _
  | p :: l => by
    have := runP_length l
    unfold runP
    split
    · split
      · simp; exact this
      · simp
    · simp
theorem toolP_length (cs : List CI) (ts : List (List UInt8)) : (toolP cs ts).1.length ≤ cs.length := by
  unfold toolP
  split
  · refine Nat.le_trans (runP_length _) ?_
    unfold pairs
    rw [List.length_zip, List.length_map]
    exact Nat.min_le_left _ _
  · exact Nat.zero_le _
theorem both {v : Value} {cs : List CI} {ts : List (List UInt8)} {s : ByteArray} (hn : ts ≠ []) (ht : ∀ t ∈ ts, t ∈ texts) (hs : s.data.toList = join ts) (hl : s.size ≤ 1000) (hk : ts.length ≤ 100) (hk2 : cs.length ≤ 6) :
    ∃ R : List (List Value) × Int, (∀ x ∈ R.1, oneCell x) ∧ R.1.length ≤ 6 ∧
      (∀ W, ColsAt W v cs → MaxAt W → Calls Tryz.prog 7 #[v, .string s] W fun e w' => ∃ (u : Value), e = .returned (.tuple #[u, .int .i64 R.2]) ∧ CellsOf w' W.heap.size u R.1 ∧ Below W.heap.size W w') ∧
      (∀ W, ColsAt W v cs → Calls Tryz.prog 8 #[v, .string s] W fun e w' => ∃ (u : Value), e = .returned (.tuple #[u, .int .i64 R.2]) ∧ CellsOf w' W.heap.size u R.1 ∧ Below W.heap.size W w') :=
  ⟨toolP cs ts, toolP_parts cs ts, Nat.le_trans (toolP_length cs ts) hk2,
    fun W hc hm => cells_any v cs ts s W hc hn (fun t h => texts_free t (ht t h)) ht hs (by omega) hm (by omega) (by omega),
    fun W hc => scells_any v cs ts s W hc hn (fun t h => texts_free t (ht t h)) ht hs (by omega) (by omega) (by omega)⟩
theorem max_below {w w' : World} (h : MaxAt w) (hb : Below w.heap.size w w') (hg : 0 < w.heap.size) : MaxAt w' := by
  obtain ⟨m, hm⟩ := h
  exact ⟨m, (hb.cell (p := ⟨0, 0, none⟩) hg).trans hm⟩
theorem cell7_at {w : World} {base c : Nat} {A : Option Addr} {l : List (List Value)} (h : CellsOf w base (.slice A l.length c) l) (hl : ∀ x ∈ l, oneCell x) {k : Nat} (hk : k < l.length) :
    ∃ g b c' n d ix, A = some ⟨g, 0, none⟩ ∧ g < w.heap.size ∧ l[k] = cl7 b c' n d ix ∧ qv c' n d ∈ qs ∧ ∀ j u, j < 7 → (cl7 b c' n d ix)[j]? = some u → w.cell? ⟨g, k * 7 + j, none⟩ = some u := by
  obtain ⟨g, rfl, _, hg, hc⟩ := own_cell h (by omega)
  obtain ⟨b, c', n, d, ix, hx, hq⟩ := hl l[k] (List.getElem_mem hk)
  refine ⟨g, b, c', n, d, ix, rfl, hg, hx, hq, fun j u hj hu => hc _ _ ?_⟩
  rw [flat7_at l (fun x hx => by obtain ⟨_, _, _, _, _, rfl, _⟩ := hl x hx; rfl) k hk j hj, hx]
  exact hu

set_option maxHeartbeats 8000000 in
set_option maxRecDepth 100000 in
theorem law_any (A A2 : Option Addr) (c n3 c3 c2 : Nat) (B3 : Option Addr) (rows odd : Int) (xs ys : List Int) (w : World) (hx : IntsIn w w.heap.size A xs) (hy : IntsIn w w.heap.size A2 ys) (hl : xs.length ≤ 9223372036854775807) (hl2 : ys.length ≤ 9223372036854775807)
    (hm : MaxAt w) (hmg : 0 < w.heap.size) (hk : ∀ W, Calls Tryz.prog 9 #[] W fun e w' => e = .returned (.bool true) ∧ Below W.heap.size W w') :
    Calls Tryz.prog 3 #[.agg #[.slice A xs.length c, .slice B3 n3 c3, .int .i64 rows], .slice A2 ys.length c2, .int .i64 odd] w fun e w' => e = .returned (.bool true) ∧ Below w.heap.size w w' := by
  have HX := Lib.hid hx
  have HY := Lib.hid hy
  have HM := Lib.hid hm
  have HK := Lib.hid hk
  clear hx hy hm hk
  go_enter Tryz.func3, Tryz.ntmps3
  go_wp2_with (first
    | (go_at_call 5; refine (mcols_any A c xs _ (Reads.more (HX.out.alloc (Nat.le_refl _) _) (by simp)) hl).mono ?_; rintro e w1 ⟨v1, rs, rfl, hr1, hb1, hr2, hr3, hr4, hbl1⟩)
    | (go_at_call 4; refine (incols_any v1 _ _ rs _ hr1 hb1 hr2 hr3 hr4).mono ?_; rintro e w2 ⟨v2, cs, rfl, hcols, hcs, hbl2⟩; clear hr1 hb1; obtain ⟨A4, c4, rfl⟩ := hcols.len))
  have hcl : cs.length = rs.length := by
    have := congrArg List.length hcs
    simpa using this
  have hbw2 : Below w.heap.size w w2 := (((Below.refl _ _).alloc (Nat.le_refl _) _).trans (hbl1.mono (by simp))).trans (hbl2.mono (by have := hbl1.size; simp at this; omega))
  have HW2 := Lib.hid hbw2
  have HC := Lib.hid hcols
  have hcs1 : 1 ≤ cs.length := by omega
  have hcs6 : cs.length ≤ 6 := by omega
  have hsz2 := hbw2.size
  clear hbl1 hbl2 hcs hr2 hr3 hr4 hcols hcl hbw2
  go_loopw [9, 10] (fun s i wr => ∃ (k : Nat) (ts : List (List UInt8)) (sb : ByteArray), k ≤ cs.length ∧ ts.length = k ∧ i = .int .i64 k ∧ s = .string sb ∧ Hid (∀ t ∈ ts, t ∈ texts) ∧ Hid (sb.data.toList = join ts) ∧ sb.size ≤ 6 * k ∧ Below (w2.heap.size + 1) (w2.alloc (.cells someC 9)) wr) (fun _ i _ => cs.length - (intOf i).toNat)
  case atStart => exact ⟨0, [], ⟨#[]⟩, Nat.zero_le _, rfl, rfl, rfl, (fun q hq => by cases hq), rfl, Nat.le_refl _, Below.refl _ _⟩
  case round =>
    obtain ⟨k, ts, sb, hk, htl, rfl, rfl, hts, hsb, hsz, hbel⟩ := hrel
    have hbw : Below w2.heap.size w2 wr := ((Below.refl _ _).alloc (Nat.le_refl _) _).trans (hbel.mono (by simp))
    by_cases hgo : k < cs.length
    · obtain ⟨g, hA, hg, c0, c1, c2⟩ := (HC.out.below hbw).at_ hgo
      subst hA
      have HOF := Lib.hid ((HC.out.below hbw).2 cs[k] (List.getElem_mem hgo))
      have HSO := Lib.hid (show Blk wr w2.heap.size 9 someC from (hbel.block _ (by omega)).trans (Blk.new w2 _ _))
      have HYW := Lib.hid (show k < ys.length → ∃ ad, A2 = some ad ∧ ad.block < w.heap.size ∧ wr.cell? (ad.add k) = some (.int .i64 (ys.getD k 0)) from fun h => by
        have hb : Below w.heap.size w wr := HW2.out.trans (hbw.mono hsz2)
        obtain ⟨ad, e1, e2, e3⟩ := IntsIn.at_ (Reads.below HY.out hb) h
        exact ⟨ad, e1, e2, by rw [e3]; simp [h]⟩)
      have HB := Lib.hid hbel
      clear hbel hbw
      generalize cs[k].wd = wd at *
      generalize cs[k].nm = nm at *
      generalize cs[k].kd = kd at *
      by_cases h0 : kd = 0
      · have hkk : kindOf kd = 1 := if_pos h0
        rw [hkk] at c1
        by_cases hlt : k < ys.length
        · obtain ⟨ad, rfl, had, hc⟩ := HYW.out hlt
          go_wp2_with (go_at_call 6; refine (pick_some _ _ _ (by omega) (by omega)).mono ?_; rintro e w' ⟨r, hr, rfl, rfl⟩; obtain ⟨t, ht, hct⟩ := some_at HSO.out (j := r) (by omega); have ht5 := texts_short t ht)
          all_goals first
            | (have hk0 : 0 < k := by assumption
               exact ⟨⟨k + 1, ts ++ [t], sb ++ ⟨#[44]⟩ ++ ⟨⟨t⟩⟩, by omega, by simp [htl], by go_num, rfl, Lib.hid (snoc_texts hts.out ht), Lib.hid (next_pos hsb.out (by omega) t), size_pos hsz ht5, (by first | exact HB.out | exact HB.out.drew)⟩, by simp [intOf]; omega⟩)
            | (have hk0 : ¬ 0 < k := by assumption
               exact ⟨⟨k + 1, ts ++ [t], sb ++ ⟨⟨t⟩⟩, by omega, by simp [htl], by go_num, rfl, Lib.hid (snoc_texts hts.out ht), Lib.hid (next_zero hsb.out (by omega) t), size_zero hsz ht5, (by first | exact HB.out | exact HB.out.drew)⟩, by simp [intOf]; omega⟩)
        · clear HYW
          go_wp2_with (go_at_call 6; refine (pick_some _ _ _ (by omega) (by omega)).mono ?_; rintro e w' ⟨r, hr, rfl, rfl⟩; obtain ⟨t, ht, hct⟩ := some_at HSO.out (j := r) (by omega); have ht5 := texts_short t ht)
          all_goals first
            | (have hk0 : 0 < k := by assumption
               exact ⟨⟨k + 1, ts ++ [t], sb ++ ⟨#[44]⟩ ++ ⟨⟨t⟩⟩, by omega, by simp [htl], by go_num, rfl, Lib.hid (snoc_texts hts.out ht), Lib.hid (next_pos hsb.out (by omega) t), size_pos hsz ht5, (by first | exact HB.out | exact HB.out.drew)⟩, by simp [intOf]; omega⟩)
            | (have hk0 : ¬ 0 < k := by assumption
               exact ⟨⟨k + 1, ts ++ [t], sb ++ ⟨⟨t⟩⟩, by omega, by simp [htl], by go_num, rfl, Lib.hid (snoc_texts hts.out ht), Lib.hid (next_zero hsb.out (by omega) t), size_zero hsz ht5, (by first | exact HB.out | exact HB.out.drew)⟩, by simp [intOf]; omega⟩)
      · have hkk : kindOf kd = 2 := if_neg h0
        rw [hkk] at c1
        have HK5 := HOF.out.1
        have hww : WordsAt wr kd wd := by
          have := HOF.out.2
          unfold ofKind at this
          rwa [if_neg h0] at this
        obtain ⟨g2, cw, rfl, hwd⟩ := words_at hww (by omega) HK5
        have HWD := Lib.hid hwd
        have hkp : (0 : Int) < (kd : Int) := by omega
        clear hwd hww
        by_cases hlt : k < ys.length
        · obtain ⟨ad, rfl, had, hc⟩ := HYW.out hlt
          go_wp2_with (go_at_call 6; refine (pick_some _ _ _ (by omega) (by omega)).mono ?_; rintro e w' ⟨r, hr, rfl, rfl⟩; obtain ⟨t, ht, hct⟩ := some_at HSO.out (j := r) (by omega); have ht5 := texts_short t ht)
          all_goals try go_region_with (go_at_call 6; refine (pick_some _ _ _ (by omega) (by omega)).mono ?_; rintro e w' ⟨r, hr, rfl, rfl⟩; obtain ⟨t, ht, hct⟩ := HWD.out r (by omega); have ht5 := texts_short t ht; have hr2 : r < kd := (by omega); have hl1 : ¬ 9223372036854775807 < sb.size + t.length := (by omega); have hl2 : ¬ 9223372036854775807 < sb.size + 1 + t.length := (by omega))
          all_goals try go_wp2
          all_goals first
            | (have hk0 : 0 < k := by assumption
               exact ⟨⟨k + 1, ts ++ [t], sb ++ ⟨#[44]⟩ ++ ⟨⟨t⟩⟩, by omega, by simp [htl], by go_num, rfl, Lib.hid (snoc_texts hts.out ht), Lib.hid (next_pos hsb.out (by omega) t), size_pos hsz ht5, (by first | exact HB.out | exact HB.out.drew)⟩, by simp [intOf]; omega⟩)
            | (have hk0 : ¬ 0 < k := by assumption
               exact ⟨⟨k + 1, ts ++ [t], sb ++ ⟨⟨t⟩⟩, by omega, by simp [htl], by go_num, rfl, Lib.hid (snoc_texts hts.out ht), Lib.hid (next_zero hsb.out (by omega) t), size_zero hsz ht5, (by first | exact HB.out | exact HB.out.drew)⟩, by simp [intOf]; omega⟩)
        · clear HYW
          go_wp2_with (go_at_call 6; refine (pick_some _ _ _ (by omega) (by omega)).mono ?_; rintro e w' ⟨r, hr, rfl, rfl⟩; obtain ⟨t, ht, hct⟩ := some_at HSO.out (j := r) (by omega); have ht5 := texts_short t ht)
          all_goals try go_region_with (go_at_call 6; refine (pick_some _ _ _ (by omega) (by omega)).mono ?_; rintro e w' ⟨r, hr, rfl, rfl⟩; obtain ⟨t, ht, hct⟩ := HWD.out r (by omega); have ht5 := texts_short t ht; have hr2 : r < kd := (by omega); have hl1 : ¬ 9223372036854775807 < sb.size + t.length := (by omega); have hl2 : ¬ 9223372036854775807 < sb.size + 1 + t.length := (by omega))
          all_goals try go_wp2
          all_goals first
            | (have hk0 : 0 < k := by assumption
               exact ⟨⟨k + 1, ts ++ [t], sb ++ ⟨#[44]⟩ ++ ⟨⟨t⟩⟩, by omega, by simp [htl], by go_num, rfl, Lib.hid (snoc_texts hts.out ht), Lib.hid (next_pos hsb.out (by omega) t), size_pos hsz ht5, (by first | exact HB.out | exact HB.out.drew)⟩, by simp [intOf]; omega⟩)
            | (have hk0 : ¬ 0 < k := by assumption
               exact ⟨⟨k + 1, ts ++ [t], sb ++ ⟨⟨t⟩⟩, by omega, by simp [htl], by go_num, rfl, Lib.hid (snoc_texts hts.out ht), Lib.hid (next_zero hsb.out (by omega) t), size_zero hsz ht5, (by first | exact HB.out | exact HB.out.drew)⟩, by simp [intOf]; omega⟩)
    · have hkn : k = cs.length := by omega
      subst hkn
      have hbw : Below w2.heap.size w2 wr := ((Below.refl _ _).alloc (Nat.le_refl _) _).trans (hbel.mono (by simp))
      have HBW := Lib.hid (HW2.out.trans (hbw.mono hsz2))
      have HCW := Lib.hid (HC.out.below hbw)
      have HMW := Lib.hid (max_below HM.out HBW.out hmg)
      have hne : ts ≠ [] := fun e => by rw [e] at htl; simp at htl; omega
      have hsb6 : sb.size ≤ 36 := by omega
      clear hbw hbel HX HY HC HM
      have HPK := Lib.hid (fun W => pick_any odd 7 W (by omega) (by omega))
      go_upto_if 81 with (go_at_call 6; refine (HPK.out _).mono ?_; rintro e w' ⟨rfl, rfl⟩)
      clear HPK
      go_cut [9, 80, 81] from 82 to 83 (fun u _ _ wx => ∃ (ts' : List (List UInt8)) (sb' : ByteArray), u = .string sb' ∧ Hid (ts' ≠ [] ∧ (∀ t ∈ ts', t ∈ texts) ∧ sb'.data.toList = join ts' ∧ sb'.size ≤ 1000 ∧ ts'.length ≤ 100) ∧ wx = wr)
      case first =>
        by_cases h6 : odd % 7 = 6
        · have hjoin : (sb ++ ⟨#[44]⟩ : ByteArray).data.toList = join (ts ++ [[]]) := by
            rw [app_data, hsb.out, join_snoc, if_neg hne]
          have hsz7 : (sb ++ ⟨#[44]⟩ : ByteArray).size ≤ 1000 := by
            have e : (sb ++ ⟨#[44]⟩ : ByteArray).size = (sb ++ ⟨#[44]⟩ : ByteArray).data.toList.length := rfl
            have e2 : sb.size = sb.data.toList.length := rfl
            rw [e, app_data, List.length_append]
            show sb.data.toList.length + 1 ≤ _
            omega
          have HF := Lib.hid (show (ts ++ [[]] ≠ []) ∧ (∀ t ∈ ts ++ [[]], t ∈ texts) ∧ (sb ++ ⟨#[44]⟩ : ByteArray).data.toList = join (ts ++ [[]]) ∧ (sb ++ ⟨#[44]⟩ : ByteArray).size ≤ 1000 ∧ (ts ++ [[]]).length ≤ 100 from ⟨by simp, snoc_texts hts.out (by decide), hjoin, hsz7, by simp; omega⟩)
          clear hjoin hsz7
          have hcl : ¬ 9223372036854775807 < sb.size + 1 := by omega
          simp only [h6]
          go_wp2_with fail
          go_meet
          exact ⟨ts ++ [[]], sb ++ ⟨#[44]⟩, rfl, HF, rfl⟩
        · have hp1 : (odd % 7 == 6) = false := by simpa using h6
          have HF := Lib.hid (show (ts ≠ []) ∧ (∀ t ∈ ts, t ∈ texts) ∧ sb.data.toList = join ts ∧ sb.size ≤ 1000 ∧ ts.length ≤ 100 from ⟨hne, hts.out, hsb.out, by omega, by omega⟩)
          simp only [hp1]
          go_wp2_with fail
          go_meet
          exact ⟨ts, sb, rfl, HF, rfl⟩
      case rest =>
        obtain ⟨ts', sb', rfl, hh, hw⟩ := hcut
        have hw2 := hw.symm
        clear hw
        subst hw2
        obtain ⟨q1, q2, q3, q4, q5⟩ := hh.out
        obtain ⟨R, hr1, hr6, hce, hsc⟩ := both (v := .slice A4 cs.length c4) (cs := cs) q1 q2 q3 q4 q5 hcs6
        have HCE := Lib.hid hce
        have HSC := Lib.hid hsc
        have HR1 := Lib.hid hr1
        clear hce hsc hr1 q1 q2 q3 q4 q5 hh
        go_wp2_with (first
          | (go_at_call 7; refine (HCE.out _ HCW.out HMW.out).mono ?_; rintro e w5 ⟨u5, rfl, hu5, hb5⟩; obtain ⟨A5, c5, rfl, _⟩ := own_slice hu5; have HCW5 := Lib.hid (HCW.out.below hb5); have HB5 := Lib.hid hb5; have HU5 := Lib.hid hu5; clear hb5 hu5)
          | (go_at_call 8; refine (HSC.out _ HCW5.out).mono ?_; rintro e w6 ⟨u6, rfl, hu6, hb6⟩; obtain ⟨A6, c6, rfl, _⟩ := own_slice hu6; have HB6 := Lib.hid hb6; have HU6 := Lib.hid hu6; clear hb6 hu6)
          | (go_at_call 9; refine (HK.out _).mono ?_; rintro e w7 ⟨rfl, hb7⟩; have HB7 := Lib.hid hb7; clear hb7))
        clear HCE HSC HCW HMW HCW5 HK
        have HBE := Lib.hid (show Below w.heap.size w w7 from ((HBW.out.trans (HB5.out.mono HBW.out.size)).trans (HB6.out.mono (HBW.out.trans (HB5.out.mono HBW.out.size)).size)).trans (HB7.out.mono ((HBW.out.trans (HB5.out.mono HBW.out.size)).trans (HB6.out.mono (HBW.out.trans (HB5.out.mono HBW.out.size)).size)).size))
        go_loopw [16] (fun i wx => ∃ k : Nat, k ≤ R.1.length ∧ i = .int .i64 k ∧ Below w7.heap.size w7 wx) (fun i _ => R.1.length - (intOf i).toNat)
        case atStart => exact ⟨0, Nat.zero_le _, rfl, Below.refl _ _⟩
        case round =>
          obtain ⟨j, hj, rfl, hbx⟩ := hrel
          have hu5x := own_below (own_below (own_below HU5.out HB6.out) HB7.out) hbx
          have hu6x := own_below (own_below HU6.out HB7.out) hbx
          by_cases hjo : j < R.1.length
          · obtain ⟨g5, b, c', n, d, ix, rfl, hg5, hx, hq, at5⟩ := cell7_at hu5x HR1.out hjo
            obtain ⟨g6, b', c'', n', d', ix', rfl, hg6, hx', hq', at6⟩ := cell7_at hu6x HR1.out hjo
            have e := hx.symm.trans hx'
            simp only [cl7, List.cons.injEq, Value.bool.injEq, Value.int.injEq, true_and, and_true, Int.natCast_inj] at e
            obtain ⟨rfl, rfl, rfl, rfl, rfl⟩ := e
            have a0 := at5 0 _ (by omega) rfl
            have a1 := at5 1 _ (by omega) rfl
            have a2 := at5 2 _ (by omega) rfl
            have a3 := at5 3 _ (by omega) rfl
            have a4 := at5 4 _ (by omega) rfl
            have a5 := at5 5 _ (by omega) rfl
            have a6 := at5 6 _ (by omega) rfl
            have d0 := at6 0 _ (by omega) rfl
            have d1 := at6 1 _ (by omega) rfl
            have d2 := at6 2 _ (by omega) rfl
            have d3 := at6 3 _ (by omega) rfl
            have d4 := at6 4 _ (by omega) rfl
            have d5 := at6 5 _ (by omega) rfl
            have d6 := at6 6 _ (by omega) rfl
            rw [Nat.add_zero] at a0 d0
            have HQ := Lib.hid (fun W => cmp_any W hq)
            have HBX := Lib.hid hbx
            clear at5 at6 hx hx' hq hq' hu5x hu6x hbx
            go_wp2
            refine wp_region_held_drew (S := fun w' => w'.cell? ⟨g5, j * 7, none⟩ = some (.bool b) ∧ w'.cell? ⟨g5, j * 7 + 1, none⟩ = some (.bool c') ∧ w'.cell? ⟨g5, j * 7 + 2, none⟩ = some (.int .u64 n) ∧ w'.cell? ⟨g5, j * 7 + 3, none⟩ = some (.string ⟨⟨[]⟩⟩) ∧ w'.cell? ⟨g5, j * 7 + 4, none⟩ = some (.int .u64 d) ∧ w'.cell? ⟨g5, j * 7 + 5, none⟩ = some (.string ⟨⟨[]⟩⟩) ∧ w'.cell? ⟨g5, j * 7 + 6, none⟩ = some (.int .i64 (ix : Int)) ∧ w'.cell? ⟨g6, j * 7, none⟩ = some (.bool b) ∧ w'.cell? ⟨g6, j * 7 + 1, none⟩ = some (.bool c') ∧ w'.cell? ⟨g6, j * 7 + 2, none⟩ = some (.int .u64 n) ∧ w'.cell? ⟨g6, j * 7 + 3, none⟩ = some (.string ⟨⟨[]⟩⟩) ∧ w'.cell? ⟨g6, j * 7 + 4, none⟩ = some (.int .u64 d) ∧ w'.cell? ⟨g6, j * 7 + 5, none⟩ = some (.string ⟨⟨[]⟩⟩) ∧ w'.cell? ⟨g6, j * 7 + 6, none⟩ = some (.int .i64 (ix : Int))) (by kernel_rfl) ?_ (fun hHeld => ?_)
            · (try dsimp only); simp [*]
            refine wpAnyH_take (i := 0) (oi := _) (v := ?v0) rfl (by kernel_rfl) (by kernel_rfl) (by kernel_rfl) (fun _ _ _ h => h) (Or.inl ⟨by rfl, ?y0⟩) (by assumption) ?r0
            case y0 => (intro w hSw; (try dsimp only at hSw); (try simp only [List.getElem_toArray, List.getElem_cons_zero]); go_simp; try (with_reducible rfl))
            try simp only [Act.put, List.setIfInBounds_toArray, List.set_cons_zero, List.set_cons_succ, List.getElem_toArray, List.getElem_cons_zero]
            refine wpAnyH_take (i := 1) (oi := _) (v := ?v1) rfl (by kernel_rfl) (by kernel_rfl) (by kernel_rfl) (fun _ _ _ h => h) (Or.inl ⟨by rfl, ?y1⟩) (by assumption) ?r1
            case y1 => (intro w hSw; (try dsimp only at hSw); (try simp only [List.getElem_toArray, List.getElem_cons_zero, List.getElem_cons_succ]); go_simp; try (with_reducible rfl))
            try simp only [Act.put, List.setIfInBounds_toArray, List.set_cons_zero, List.set_cons_succ, List.getElem_toArray, List.getElem_cons_zero, List.getElem_cons_succ]
            refine wpAnyH_take (i := 2) (oi := _) (v := ?v2) rfl (by kernel_rfl) (by kernel_rfl) (by kernel_rfl) (fun _ _ _ h => h) (Or.inl ⟨by rfl, ?y2⟩) (by assumption) ?r2
            case y2 => (intro w hSw; (try dsimp only at hSw); (try simp only [List.getElem_toArray, List.getElem_cons_zero, List.getElem_cons_succ]); go_simp; try (with_reducible rfl))
            try simp only [Act.put, List.setIfInBounds_toArray, List.set_cons_zero, List.set_cons_succ, List.getElem_toArray, List.getElem_cons_zero, List.getElem_cons_succ]
            refine wpAnyH_take (i := 3) (oi := _) (v := ?v3) rfl (by kernel_rfl) (by kernel_rfl) (by kernel_rfl) (fun _ _ _ h => h) (Or.inl ⟨by rfl, ?y3⟩) (by assumption) ?r3
            case y3 => (intro w hSw; (try dsimp only at hSw); (try simp only [List.getElem_toArray, List.getElem_cons_zero, List.getElem_cons_succ]); go_simp; try (with_reducible rfl))
            try simp only [Act.put, List.setIfInBounds_toArray, List.set_cons_zero, List.set_cons_succ, List.getElem_toArray, List.getElem_cons_zero, List.getElem_cons_succ]
            refine wpAnyH_take (i := 4) (oi := _) (v := ?v4) rfl (by kernel_rfl) (by kernel_rfl) (by kernel_rfl) (fun _ _ _ h => h) (Or.inl ⟨by rfl, ?y4⟩) (by assumption) ?r4
            case y4 => (intro w hSw; (try dsimp only at hSw); (try simp only [List.getElem_toArray, List.getElem_cons_zero, List.getElem_cons_succ]); go_simp; try (with_reducible rfl))
            try simp only [Act.put, List.setIfInBounds_toArray, List.set_cons_zero, List.set_cons_succ, List.getElem_toArray, List.getElem_cons_zero, List.getElem_cons_succ]
            refine wpAnyH_take (i := 5) (oi := _) (v := ?v5) rfl (by kernel_rfl) (by kernel_rfl) (by kernel_rfl) (fun _ _ _ h => h) (Or.inl ⟨by rfl, ?y5⟩) (by assumption) ?r5
            case y5 => (intro w hSw; (try dsimp only at hSw); (try simp only [List.getElem_toArray, List.getElem_cons_zero, List.getElem_cons_succ]); go_simp; try (with_reducible rfl))
            try simp only [Act.put, List.setIfInBounds_toArray, List.set_cons_zero, List.set_cons_succ, List.getElem_toArray, List.getElem_cons_zero, List.getElem_cons_succ]
            refine wpAnyH_take (i := 6) (oi := _) (v := ?v6) rfl (by kernel_rfl) (by kernel_rfl) (by kernel_rfl) (fun _ _ _ h => h) (Or.inl ⟨by rfl, ?y6⟩) (by assumption) ?r6
            case y6 => (intro w hSw; (try dsimp only at hSw); (try simp only [List.getElem_toArray, List.getElem_cons_zero, List.getElem_cons_succ]); go_simp; try (with_reducible rfl))
            try simp only [Act.put, List.setIfInBounds_toArray, List.set_cons_zero, List.set_cons_succ, List.getElem_toArray, List.getElem_cons_zero, List.getElem_cons_succ]
            refine wpAnyH_take (i := 7) (oi := _) (v := ?v7) rfl (by kernel_rfl) (by kernel_rfl) (by kernel_rfl) (fun _ _ _ h => h) (Or.inl ⟨by rfl, ?y7⟩) (by assumption) ?r7
            case y7 => (intro w hSw; (try dsimp only at hSw); (try simp only [List.getElem_toArray, List.getElem_cons_zero, List.getElem_cons_succ]); go_simp; try (with_reducible rfl))
            try simp only [Act.put, List.setIfInBounds_toArray, List.set_cons_zero, List.set_cons_succ, List.getElem_toArray, List.getElem_cons_zero, List.getElem_cons_succ]
            refine wpAnyH_take (i := 8) (oi := _) (v := ?v8) rfl (by kernel_rfl) (by kernel_rfl) (by kernel_rfl) (fun _ _ _ h => h) (Or.inl ⟨by rfl, ?y8⟩) (by assumption) ?r8
            case y8 => (intro w hSw; (try dsimp only at hSw); (try simp only [List.getElem_toArray, List.getElem_cons_zero, List.getElem_cons_succ]); go_simp; try (with_reducible rfl))
            try simp only [Act.put, List.setIfInBounds_toArray, List.set_cons_zero, List.set_cons_succ, List.getElem_toArray, List.getElem_cons_zero, List.getElem_cons_succ]
            refine wpAnyH_take (i := 9) (oi := _) (v := ?v9) rfl (by kernel_rfl) (by kernel_rfl) (by kernel_rfl) (fun _ _ _ h => h) (Or.inl ⟨by rfl, ?y9⟩) (by assumption) ?r9
            case y9 => (intro w hSw; (try dsimp only at hSw); (try simp only [List.getElem_toArray, List.getElem_cons_zero, List.getElem_cons_succ]); go_simp; try (with_reducible rfl))
            try simp only [Act.put, List.setIfInBounds_toArray, List.set_cons_zero, List.set_cons_succ, List.getElem_toArray, List.getElem_cons_zero, List.getElem_cons_succ]
            refine wpAnyH_take (i := 10) (oi := _) (v := ?v10) rfl (by kernel_rfl) (by kernel_rfl) (by kernel_rfl) (fun _ _ _ h => h) (Or.inl ⟨by rfl, ?y10⟩) (by assumption) ?r10
            case y10 => (intro w hSw; (try dsimp only at hSw); (try simp only [List.getElem_toArray, List.getElem_cons_zero, List.getElem_cons_succ]); go_simp; try (with_reducible rfl))
            try simp only [Act.put, List.setIfInBounds_toArray, List.set_cons_zero, List.set_cons_succ, List.getElem_toArray, List.getElem_cons_zero, List.getElem_cons_succ]
            refine wpAnyH_take (i := 11) (oi := _) (v := ?v11) rfl (by kernel_rfl) (by kernel_rfl) (by kernel_rfl) (fun _ _ _ h => h) (Or.inl ⟨by rfl, ?y11⟩) (by assumption) ?r11
            case y11 => (intro w hSw; (try dsimp only at hSw); (try simp only [List.getElem_toArray, List.getElem_cons_zero, List.getElem_cons_succ]); go_simp; try (with_reducible rfl))
            try simp only [Act.put, List.setIfInBounds_toArray, List.set_cons_zero, List.set_cons_succ, List.getElem_toArray, List.getElem_cons_zero, List.getElem_cons_succ]
            refine wpAnyH_take (i := 12) (oi := _) (v := ?v12) rfl (by kernel_rfl) (by kernel_rfl) (by kernel_rfl) (fun _ _ _ h => h) (Or.inl ⟨by rfl, ?y12⟩) (by assumption) ?r12
            case y12 => (intro w hSw; (try dsimp only at hSw); (try simp only [List.getElem_toArray, List.getElem_cons_zero, List.getElem_cons_succ]); go_simp; try (with_reducible rfl))
            try simp only [Act.put, List.setIfInBounds_toArray, List.set_cons_zero, List.set_cons_succ, List.getElem_toArray, List.getElem_cons_zero, List.getElem_cons_succ]
            refine wpAnyH_take (i := 13) (oi := _) (v := ?v13) rfl (by kernel_rfl) (by kernel_rfl) (by kernel_rfl) (fun _ _ _ h => h) (Or.inl ⟨by rfl, ?y13⟩) (by assumption) ?r13
            case y13 => (intro w hSw; (try dsimp only at hSw); (try simp only [List.getElem_toArray, List.getElem_cons_zero, List.getElem_cons_succ]); go_simp; try (with_reducible rfl))
            try simp only [Act.put, List.setIfInBounds_toArray, List.set_cons_zero, List.set_cons_succ, List.getElem_toArray, List.getElem_cons_zero, List.getElem_cons_succ]
            refine wpAnyH_take (i := 14) (oi := _) (v := ?v14) rfl (by kernel_rfl) (by kernel_rfl) (by kernel_rfl) (fun _ _ _ h => h) (Or.inl ⟨by rfl, ?y14⟩) (by assumption) ?r14
            case y14 => (intro w hSw; (try dsimp only at hSw); (try simp only [List.getElem_toArray, List.getElem_cons_zero, List.getElem_cons_succ]); go_simp; try (with_reducible rfl))
            try simp only [Act.put, List.setIfInBounds_toArray, List.set_cons_zero, List.set_cons_succ, List.getElem_toArray, List.getElem_cons_zero, List.getElem_cons_succ]
            refine wpAnyH_take (i := 15) (oi := _) (v := ?v15) rfl (by kernel_rfl) (by kernel_rfl) (by kernel_rfl) (fun _ _ _ h => h) (Or.inl ⟨by rfl, ?y15⟩) (by assumption) ?r15
            case y15 => (intro w hSw; (try dsimp only at hSw); (try simp only [List.getElem_toArray, List.getElem_cons_zero, List.getElem_cons_succ]); go_simp; try (with_reducible rfl))
            try simp only [Act.put, List.setIfInBounds_toArray, List.set_cons_zero, List.set_cons_succ, List.getElem_toArray, List.getElem_cons_zero, List.getElem_cons_succ]
            refine wpAnyH_take (i := 16) (oi := _) (v := ?v16) rfl (by kernel_rfl) (by kernel_rfl) (by kernel_rfl) (fun _ _ _ h => h) (Or.inl ⟨by rfl, ?y16⟩) (by assumption) ?r16
            case y16 => (intro w hSw; (try dsimp only at hSw); (try simp only [List.getElem_toArray, List.getElem_cons_zero, List.getElem_cons_succ]); go_simp; try (with_reducible rfl))
            try simp only [Act.put, List.setIfInBounds_toArray, List.set_cons_zero, List.set_cons_succ, List.getElem_toArray, List.getElem_cons_zero, List.getElem_cons_succ]
            refine wpAnyH_take (i := 17) (oi := _) (v := ?v17) rfl (by kernel_rfl) (by kernel_rfl) (by kernel_rfl) (fun _ _ _ h => h) (Or.inl ⟨by rfl, ?y17⟩) (by assumption) ?r17
            case y17 => (intro w hSw; (try dsimp only at hSw); (try simp only [List.getElem_toArray, List.getElem_cons_zero, List.getElem_cons_succ]); go_simp; try (with_reducible rfl))
            try simp only [Act.put, List.setIfInBounds_toArray, List.set_cons_zero, List.set_cons_succ, List.getElem_toArray, List.getElem_cons_zero, List.getElem_cons_succ]
            refine wpAnyH_take (i := 18) (oi := _) (v := ?v18) rfl (by kernel_rfl) (by kernel_rfl) (by kernel_rfl) (fun _ _ _ h => h) (Or.inl ⟨by rfl, ?y18⟩) (by assumption) ?r18
            case y18 => (intro w hSw; (try dsimp only at hSw); (try simp only [List.getElem_toArray, List.getElem_cons_zero, List.getElem_cons_succ]); go_simp; try (with_reducible rfl))
            try simp only [Act.put, List.setIfInBounds_toArray, List.set_cons_zero, List.set_cons_succ, List.getElem_toArray, List.getElem_cons_zero, List.getElem_cons_succ]
            refine wpAnyH_take (i := 19) (oi := _) (v := ?v19) rfl (by kernel_rfl) (by kernel_rfl) (by kernel_rfl) (fun _ _ _ h => h) (Or.inl ⟨by rfl, ?y19⟩) (by assumption) ?r19
            case y19 => (intro w hSw; (try dsimp only at hSw); (try simp only [List.getElem_toArray, List.getElem_cons_zero, List.getElem_cons_succ]); go_simp; try (with_reducible rfl))
            try simp only [Act.put, List.setIfInBounds_toArray, List.set_cons_zero, List.set_cons_succ, List.getElem_toArray, List.getElem_cons_zero, List.getElem_cons_succ]
            refine wpAnyH_take (i := 20) (oi := _) (v := ?v20) rfl (by kernel_rfl) (by kernel_rfl) (by kernel_rfl) (fun _ _ _ h => h) (Or.inl ⟨by rfl, ?y20⟩) (by assumption) ?r20
            case y20 => (intro w hSw; (try dsimp only at hSw); (try simp only [List.getElem_toArray, List.getElem_cons_zero, List.getElem_cons_succ]); go_simp; try (with_reducible rfl))
            try simp only [Act.put, List.setIfInBounds_toArray, List.set_cons_zero, List.set_cons_succ, List.getElem_toArray, List.getElem_cons_zero, List.getElem_cons_succ]
            refine wpAnyH_take (i := 21) (oi := _) (v := ?v21) rfl (by kernel_rfl) (by kernel_rfl) (by kernel_rfl) (fun _ _ _ h => h) (Or.inl ⟨by rfl, ?y21⟩) (by assumption) ?r21
            case y21 => (intro w hSw; (try dsimp only at hSw); (try simp only [List.getElem_toArray, List.getElem_cons_zero, List.getElem_cons_succ]); go_simp; try (with_reducible rfl))
            try simp only [Act.put, List.setIfInBounds_toArray, List.set_cons_zero, List.set_cons_succ, List.getElem_toArray, List.getElem_cons_zero, List.getElem_cons_succ]
            refine wpAnyH_take (i := 22) (oi := _) (v := ?v22) rfl (by kernel_rfl) (by kernel_rfl) (by kernel_rfl) (fun _ _ _ h => h) (Or.inl ⟨by rfl, ?y22⟩) (by assumption) ?r22
            case y22 => (intro w hSw; (try dsimp only at hSw); (try simp only [List.getElem_toArray, List.getElem_cons_zero, List.getElem_cons_succ]); go_simp; try (with_reducible rfl))
            try simp only [Act.put, List.setIfInBounds_toArray, List.set_cons_zero, List.set_cons_succ, List.getElem_toArray, List.getElem_cons_zero, List.getElem_cons_succ]
            refine wpAnyH_take (i := 23) (oi := _) (v := ?v23) rfl (by kernel_rfl) (by kernel_rfl) (by kernel_rfl) (fun _ _ _ h => h) (Or.inl ⟨by rfl, ?y23⟩) (by assumption) ?r23
            case y23 => (intro w hSw; (try dsimp only at hSw); (try simp only [List.getElem_toArray, List.getElem_cons_zero, List.getElem_cons_succ]); go_simp; try (with_reducible rfl))
            try simp only [Act.put, List.setIfInBounds_toArray, List.set_cons_zero, List.set_cons_succ, List.getElem_toArray, List.getElem_cons_zero, List.getElem_cons_succ]
            refine wpAnyH_take (i := 24) (oi := _) (v := ?v24) rfl (by kernel_rfl) (by kernel_rfl) (by kernel_rfl) (fun _ _ _ h => h) (Or.inl ⟨by rfl, ?y24⟩) (by assumption) ?r24
            case y24 => (intro w hSw; (try dsimp only at hSw); (try simp only [List.getElem_toArray, List.getElem_cons_zero, List.getElem_cons_succ]); go_simp; try (with_reducible rfl))
            try simp only [Act.put, List.setIfInBounds_toArray, List.set_cons_zero, List.set_cons_succ, List.getElem_toArray, List.getElem_cons_zero, List.getElem_cons_succ]
            refine wpAnyH_take (i := 25) (oi := _) (v := ?v25) rfl (by kernel_rfl) (by kernel_rfl) (by kernel_rfl) (fun _ _ _ h => h) (Or.inl ⟨by rfl, ?y25⟩) (by assumption) ?r25
            case y25 => (intro w hSw; (try dsimp only at hSw); (try simp only [List.getElem_toArray, List.getElem_cons_zero, List.getElem_cons_succ]); go_simp; try (with_reducible rfl))
            try simp only [Act.put, List.setIfInBounds_toArray, List.set_cons_zero, List.set_cons_succ, List.getElem_toArray, List.getElem_cons_zero, List.getElem_cons_succ]
            refine wpAnyH_take (i := 26) (oi := _) (v := ?v26) rfl (by kernel_rfl) (by kernel_rfl) (by kernel_rfl) (fun _ _ _ h => h) (Or.inl ⟨by rfl, ?y26⟩) (by assumption) ?r26
            case y26 => (intro w hSw; (try dsimp only at hSw); (try simp only [List.getElem_toArray, List.getElem_cons_zero, List.getElem_cons_succ]); go_simp; try (with_reducible rfl))
            try simp only [Act.put, List.setIfInBounds_toArray, List.set_cons_zero, List.set_cons_succ, List.getElem_toArray, List.getElem_cons_zero, List.getElem_cons_succ]
            refine wpAnyH_take (i := 27) (oi := _) (v := ?v27) rfl (by kernel_rfl) (by kernel_rfl) (by kernel_rfl) (fun _ _ _ h => h) (Or.inl ⟨by rfl, ?y27⟩) (by assumption) ?r27
            case y27 => (intro w hSw; (try dsimp only at hSw); (try simp only [List.getElem_toArray, List.getElem_cons_zero, List.getElem_cons_succ]); go_simp; try (with_reducible rfl))
            try simp only [Act.put, List.setIfInBounds_toArray, List.set_cons_zero, List.set_cons_succ, List.getElem_toArray, List.getElem_cons_zero, List.getElem_cons_succ]
            refine wpAnyH_take (i := 28) (oi := _) (v := ?v28) rfl (by kernel_rfl) (by kernel_rfl) (by kernel_rfl) (fun _ _ _ h => h) (Or.inl ⟨by rfl, ?y28⟩) (by assumption) ?r28
            case y28 => (intro w hSw; (try dsimp only at hSw); (try simp only [List.getElem_toArray, List.getElem_cons_zero, List.getElem_cons_succ]); go_simp; try (with_reducible rfl))
            try simp only [Act.put, List.setIfInBounds_toArray, List.set_cons_zero, List.set_cons_succ, List.getElem_toArray, List.getElem_cons_zero, List.getElem_cons_succ]
            refine wpAnyH_take (i := 29) (oi := _) (v := ?v29) rfl (by kernel_rfl) (by kernel_rfl) (by kernel_rfl) (fun _ _ _ h => h) (Or.inl ⟨by rfl, ?y29⟩) (by assumption) ?r29
            case y29 => (intro w hSw; (try dsimp only at hSw); (try simp only [List.getElem_toArray, List.getElem_cons_zero, List.getElem_cons_succ]); go_simp; try (with_reducible rfl))
            try simp only [Act.put, List.setIfInBounds_toArray, List.set_cons_zero, List.set_cons_succ, List.getElem_toArray, List.getElem_cons_zero, List.getElem_cons_succ]
            refine wpAnyH_take (i := 30) (oi := _) (v := ?v30) rfl (by kernel_rfl) (by kernel_rfl) (by kernel_rfl) (fun _ _ _ h => h) (Or.inl ⟨by rfl, ?y30⟩) (by assumption) ?r30
            case y30 => (intro w hSw; (try dsimp only at hSw); (try simp only [List.getElem_toArray, List.getElem_cons_zero, List.getElem_cons_succ]); go_simp; try (with_reducible rfl))
            try simp only [Act.put, List.setIfInBounds_toArray, List.set_cons_zero, List.set_cons_succ, List.getElem_toArray, List.getElem_cons_zero, List.getElem_cons_succ]
            refine wpAnyH_take (i := 31) (oi := _) (v := ?v31) rfl (by kernel_rfl) (by kernel_rfl) (by kernel_rfl) (fun _ _ _ h => h) (Or.inl ⟨by rfl, ?y31⟩) (by assumption) ?r31
            case y31 => (intro w hSw; (try dsimp only at hSw); (try simp only [List.getElem_toArray, List.getElem_cons_zero, List.getElem_cons_succ]); go_simp; try (with_reducible rfl))
            try simp only [Act.put, List.setIfInBounds_toArray, List.set_cons_zero, List.set_cons_succ, List.getElem_toArray, List.getElem_cons_zero, List.getElem_cons_succ]
            refine wpAnyH_take (i := 32) (oi := _) (v := ?v32) rfl (by kernel_rfl) (by kernel_rfl) (by kernel_rfl) (fun _ _ _ h => h) (Or.inl ⟨by rfl, ?y32⟩) (by assumption) ?r32
            case y32 => (intro w hSw; (try dsimp only at hSw); (try simp only [List.getElem_toArray, List.getElem_cons_zero, List.getElem_cons_succ]); go_simp; try (with_reducible rfl))
            try simp only [Act.put, List.setIfInBounds_toArray, List.set_cons_zero, List.set_cons_succ, List.getElem_toArray, List.getElem_cons_zero, List.getElem_cons_succ]
            refine wpAnyH_take (i := 33) (oi := _) (v := ?v33) rfl (by kernel_rfl) (by kernel_rfl) (by kernel_rfl) (fun _ _ _ h => h) (Or.inl ⟨by rfl, ?y33⟩) (by assumption) ?r33
            case y33 => (intro w hSw; (try dsimp only at hSw); (try simp only [List.getElem_toArray, List.getElem_cons_zero, List.getElem_cons_succ]); go_simp; try (with_reducible rfl))
            try simp only [Act.put, List.setIfInBounds_toArray, List.set_cons_zero, List.set_cons_succ, List.getElem_toArray, List.getElem_cons_zero, List.getElem_cons_succ]
            refine wpAnyH_take (i := 34) (oi := _) (v := ?v34) rfl (by kernel_rfl) (by kernel_rfl) (by kernel_rfl) (fun _ _ _ h => h) (Or.inl ⟨by rfl, ?y34⟩) (by assumption) ?r34
            case y34 => (intro w hSw; (try dsimp only at hSw); (try simp only [List.getElem_toArray, List.getElem_cons_zero, List.getElem_cons_succ]); go_simp; try (with_reducible rfl))
            try simp only [Act.put, List.setIfInBounds_toArray, List.set_cons_zero, List.set_cons_succ, List.getElem_toArray, List.getElem_cons_zero, List.getElem_cons_succ]
            refine wpAnyH_ready (rs := [35]) (by kernel_rfl) (by simp) ?_
            refine AllReadyH.cons rfl (fun K hK => ?_) AllReadyH.nil
            try simp only [List.getElem_toArray, List.getElem_cons_zero, List.getElem_cons_succ]
            go_simp
            go_at_call 10
            refine (HQ.out _).mono ?_
            rintro e w8 ⟨rfl, hb8⟩
            have ya0 := (hb8.cell (p := ⟨g5, j * 7, none⟩) (by first | exact hg5 | (simp; exact hg5))).trans a0
            have ya1 := (hb8.cell (p := ⟨g5, j * 7 + 1, none⟩) (by first | exact hg5 | (simp; exact hg5))).trans a1
            have ya2 := (hb8.cell (p := ⟨g5, j * 7 + 2, none⟩) (by first | exact hg5 | (simp; exact hg5))).trans a2
            have ya3 := (hb8.cell (p := ⟨g5, j * 7 + 3, none⟩) (by first | exact hg5 | (simp; exact hg5))).trans a3
            have ya4 := (hb8.cell (p := ⟨g5, j * 7 + 4, none⟩) (by first | exact hg5 | (simp; exact hg5))).trans a4
            have ya5 := (hb8.cell (p := ⟨g5, j * 7 + 5, none⟩) (by first | exact hg5 | (simp; exact hg5))).trans a5
            have ya6 := (hb8.cell (p := ⟨g5, j * 7 + 6, none⟩) (by first | exact hg5 | (simp; exact hg5))).trans a6
            have yd0 := (hb8.cell (p := ⟨g6, j * 7, none⟩) (by first | exact hg6 | (simp; exact hg6))).trans d0
            have yd1 := (hb8.cell (p := ⟨g6, j * 7 + 1, none⟩) (by first | exact hg6 | (simp; exact hg6))).trans d1
            have yd2 := (hb8.cell (p := ⟨g6, j * 7 + 2, none⟩) (by first | exact hg6 | (simp; exact hg6))).trans d2
            have yd3 := (hb8.cell (p := ⟨g6, j * 7 + 3, none⟩) (by first | exact hg6 | (simp; exact hg6))).trans d3
            have yd4 := (hb8.cell (p := ⟨g6, j * 7 + 4, none⟩) (by first | exact hg6 | (simp; exact hg6))).trans d4
            have yd5 := (hb8.cell (p := ⟨g6, j * 7 + 5, none⟩) (by first | exact hg6 | (simp; exact hg6))).trans d5
            have yd6 := (hb8.cell (p := ⟨g6, j * 7 + 6, none⟩) (by first | exact hg6 | (simp; exact hg6))).trans d6
            have HB8 := Lib.hid hb8
            clear hb8
            refine hK.out _ _ ?_ (fun hHeld => ?_)
            · (try dsimp only); simp [*]
            clear hK K
            try simp only [Act.put, List.setIfInBounds_toArray, List.set_cons_zero, List.set_cons_succ, List.getElem_toArray, List.getElem_cons_zero, List.getElem_cons_succ]
            refine wpAnyH_take (i := 36) (oi := _) (v := ?v36) rfl (by kernel_rfl) (by kernel_rfl) (by kernel_rfl) (fun _ _ _ h => h) (Or.inl ⟨by rfl, ?y36⟩) (by assumption) ?r36
            case y36 => (intro w hSw; (try dsimp only at hSw); (try simp only [List.getElem_toArray, List.getElem_cons_zero, List.getElem_cons_succ]); go_simp; try (with_reducible rfl))
            try simp only [Act.put, List.setIfInBounds_toArray, List.set_cons_zero, List.set_cons_succ, List.getElem_toArray, List.getElem_cons_zero, List.getElem_cons_succ]
            refine wpAnyH_take (i := 37) (oi := _) (v := ?v37) rfl (by kernel_rfl) (by kernel_rfl) (by kernel_rfl) (fun _ _ _ h => h) (Or.inl ⟨by rfl, ?y37⟩) (by assumption) ?r37
            case y37 => (intro w hSw; (try dsimp only at hSw); (try simp only [List.getElem_toArray, List.getElem_cons_zero, List.getElem_cons_succ]); go_simp; try (with_reducible rfl))
            try simp only [Act.put, List.setIfInBounds_toArray, List.set_cons_zero, List.set_cons_succ, List.getElem_toArray, List.getElem_cons_zero, List.getElem_cons_succ]
            refine wpAnyH_done (by kernel_rfl) ?_ _
            have HB := Lib.hid (HBX.out.drew.trans (HB8.out.mono HBX.out.size))
            clear HBX HB8
            go_wp2_with fail
            exact ⟨⟨j + 1, by omega, by go_num, HB.out⟩, by simp [intOf]; omega⟩
          · have hjn : j = R.1.length := by omega
            subst hjn
            have HB := Lib.hid (HBE.out.trans (hbx.mono HBE.out.size))
            clear hu5x hu6x hbx
            go_wp2_with fail
            go_ret
            all_goals first | rfl | exact HB.out | exact ⟨rfl, HB.out⟩
end Go.Proofs.YtmkkkeehkobadaaGreatDoor.Tc
