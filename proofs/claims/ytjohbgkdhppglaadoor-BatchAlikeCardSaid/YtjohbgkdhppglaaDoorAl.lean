/-
  BatchAlike: the law.
-/
import Derived.Test.YtjohbgkdhppglaaDoorR2
import Derived.Test.YtjohbgkdhppglaaDoorM6
import Derived.Test.YtjohbgkdhppglaaDoorC
namespace Go.Proofs.YtjohbgkdhppglaaDoor
open Go.RowKit

theorem blk4 {w w2 : World} {A B C D : Array Value} {t : TypeId} (h : Below ((((w.alloc (.cells A t)).alloc (.cells B t)).alloc (.cells C t)).alloc (.cells D t)).heap.size ((((w.alloc (.cells A t)).alloc (.cells B t)).alloc (.cells C t)).alloc (.cells D t)) w2) :
    Blk w2 w.heap.size t A ∧ Blk w2 (w.heap.size + 1) t B ∧ Blk w2 (w.heap.size + 1 + 1) t C ∧ Blk w2 (w.heap.size + 1 + 1 + 1) t D := by
  have a1 : Blk (w.alloc (.cells A t)) w.heap.size t A := Blk.new w t A
  have b1 : Blk ((w.alloc (.cells A t)).alloc (.cells B t)) (w.heap.size + 1) t B := by have := Blk.new (w.alloc (.cells A t)) t B; simpa using this
  have c1 : Blk (((w.alloc (.cells A t)).alloc (.cells B t)).alloc (.cells C t)) (w.heap.size + 1 + 1) t C := by have := Blk.new ((w.alloc (.cells A t)).alloc (.cells B t)) t C; simpa using this
  have d1 : Blk ((((w.alloc (.cells A t)).alloc (.cells B t)).alloc (.cells C t)).alloc (.cells D t)) (w.heap.size + 1 + 1 + 1) t D := by have := Blk.new (((w.alloc (.cells A t)).alloc (.cells B t)).alloc (.cells C t)) t D; simpa using this
  have a4 := ((a1.alloc (.cells B t)).alloc (.cells C t)).alloc (.cells D t)
  have b4 := (b1.alloc (.cells C t)).alloc (.cells D t)
  have c4 := c1.alloc (.cells D t)
  exact ⟨a4.below h a4.lt, b4.below h b4.lt, c4.below h c4.lt, d1.below h d1.lt⟩
set_option maxHeartbeats 4000000 in
set_option maxRecDepth 100000 in
theorem al_tz (a b x y u c : Int) (yb xb : Bool) (yn yd xn xd : Nat) (w : World) (hu0 : 0 ≤ u) (hu1 : u < 3) (hc0 : 0 ≤ c) (hc1 : c < 3) (HU : Hid (x % 3 = u)) (HC : Hid (y % 3 = c))
    (HQy : Hid (∀ W, Calls Tryd.prog 5 #[.int .i64 y] W fun e w' => e = .returned (.agg #[.bool yb, .int .u64 (yn : Int), .string ⟨#[]⟩, .int .u64 (yd : Int), .string ⟨#[]⟩]) ∧ Below W.heap.size W w'))
    (HQx : Hid (∀ W, Calls Tryd.prog 5 #[.int .i64 x] W fun e w' => e = .returned (.agg #[.bool xb, .int .u64 (xn : Int), .string ⟨#[]⟩, .int .u64 (xd : Int), .string ⟨#[]⟩]) ∧ Below W.heap.size W w'))
    (H1 : Hid (∀ W, Calls Tryd.prog 7 #[.agg #[.int .i64 a, .int .i64 b, .int .i64 u, .int .i64 c, .bool yb, .int .u64 (yn : Int), .string ⟨#[]⟩, .int .u64 (yd : Int), .string ⟨#[]⟩], .agg #[.int .i64 b, .int .i64 a, .int .i64 u, .int .i64 c, .bool yb, .int .u64 (yn : Int), .string ⟨#[]⟩, .int .u64 (yd : Int), .string ⟨#[]⟩]] W fun e w' => e = .returned (.bool true) ∧ Below W.heap.size W w'))
    (H2 : Hid (∀ W, Calls Tryd.prog 7 #[.agg #[.int .i64 a, .int .i64 b, .int .i64 u, .int .i64 c, .bool yb, .int .u64 (yn : Int), .string ⟨#[]⟩, .int .u64 (yd : Int), .string ⟨#[]⟩], .agg #[.int .i64 a, .int .i64 b, .int .i64 (u + 1), .int .i64 c, .bool yb, .int .u64 (yn : Int), .string ⟨#[]⟩, .int .u64 (yd : Int), .string ⟨#[]⟩]] W fun e w' => e = .returned (.bool false) ∧ Below W.heap.size W w'))
    (H3 : Hid (∀ W, Calls Tryd.prog 7 #[.agg #[.int .i64 a, .int .i64 b, .int .i64 u, .int .i64 c, .bool yb, .int .u64 (yn : Int), .string ⟨#[]⟩, .int .u64 (yd : Int), .string ⟨#[]⟩], .agg #[.int .i64 a, .int .i64 b, .int .i64 u, .int .i64 c, .bool xb, .int .u64 (xn : Int), .string ⟨#[]⟩, .int .u64 (xd : Int), .string ⟨#[]⟩]] W fun e w' => e = .returned (.bool true) ∧ Below W.heap.size W w'))
    (H4 : Hid (∀ W, Calls Tryd.prog 8 #[.agg #[.bool xb, .int .u64 (xn : Int), .string ⟨#[]⟩, .int .u64 (xd : Int), .string ⟨#[]⟩], .agg #[.bool yb, .int .u64 (yn : Int), .string ⟨#[]⟩, .int .u64 (yd : Int), .string ⟨#[]⟩]] W fun e w' => e = .returned (.int .i64 0) ∧ Below W.heap.size W w')) :
    Calls Tryd.prog 3 #[.int .i64 a, .int .i64 b, .int .i64 x, .int .i64 y, .bool true] w fun e w' => e = .returned (.bool true) ∧ Below w.heap.size w w' := by
  go_enter Tryd.func3, Tryd.ntmps3
  go_wp2_with (go_at_call 4; refine (pick_any _ _ _ (by decide) (by decide)).mono ?_; rintro e w2 ⟨rfl, rfl⟩; first | rw [HU.out] | rw [HC.out])
  refine (HQy.out _).mono ?_
  rintro e w1 ⟨rfl, hb1⟩
  have HB1 := Lib.hid hb1
  clear hb1
  go_wp2_with fail
  refine (HQx.out _).mono ?_
  rintro e w2 ⟨rfl, hb2⟩
  obtain ⟨KA2, KB2, KC2, KD2⟩ := blk4 hb2
  have HB2 := Lib.hid hb2
  replace KA2 := Lib.hid KA2
  replace KB2 := Lib.hid KB2
  replace KC2 := Lib.hid KC2
  replace KD2 := Lib.hid KD2
  clear hb2
  have d0 := KD2.out.cell 0; have d1 := KD2.out.cell 1; have d2 := KD2.out.cell 2; have d3 := KD2.out.cell 3; have d4 := KD2.out.cell 4; have d5 := KD2.out.cell 5; have d6 := KD2.out.cell 6; have d7 := KD2.out.cell 7; have d8 := KD2.out.cell 8
  simp only [List.getElem?_toArray, List.getElem?_cons_zero, List.getElem?_cons_succ] at d0 d1 d2 d3 d4 d5 d6 d7 d8
  have f4 := KD2.out.frozen 4; have f5 := KD2.out.frozen 5; have f6 := KD2.out.frozen 6; have f7 := KD2.out.frozen 7; have f8 := KD2.out.frozen 8
  go_wp2_with fail
  refine (known_any _).mono ?_
  rintro e w3 ⟨rfl, hb3⟩
  have KA3 : Hid (Blk w3 w1.heap.size 35 #[.int .i64 a, .int .i64 b, .int .i64 u, .int .i64 c, .bool yb, .int .u64 (yn : Int), .string ⟨#[]⟩, .int .u64 (yd : Int), .string ⟨#[]⟩]) := Blk.below (((((KA2.out.far (by simp <;> omega) _).far (by simp <;> omega) _).far (by simp <;> omega) _).far (by simp <;> omega) _).far (by simp <;> omega) _) hb3 (by have := KA2.out.lt; simpa using this)
  have KB3 : Hid (Blk w3 (w1.heap.size + 1) 35 #[.int .i64 b, .int .i64 a, .int .i64 u, .int .i64 c, .bool yb, .int .u64 (yn : Int), .string ⟨#[]⟩, .int .u64 (yd : Int), .string ⟨#[]⟩]) := Blk.below (((((KB2.out.far (by simp <;> omega) _).far (by simp <;> omega) _).far (by simp <;> omega) _).far (by simp <;> omega) _).far (by simp <;> omega) _) hb3 (by have := KB2.out.lt; simpa using this)
  have KC3 : Hid (Blk w3 (w1.heap.size + 1 + 1) 35 #[.int .i64 a, .int .i64 b, .int .i64 (u + 1), .int .i64 c, .bool yb, .int .u64 (yn : Int), .string ⟨#[]⟩, .int .u64 (yd : Int), .string ⟨#[]⟩]) := Blk.below (((((KC2.out.far (by simp <;> omega) _).far (by simp <;> omega) _).far (by simp <;> omega) _).far (by simp <;> omega) _).far (by simp <;> omega) _) hb3 (by have := KC2.out.lt; simpa using this)
  have KD3 : Hid (Blk w3 (w1.heap.size + 1 + 1 + 1) 35 #[.int .i64 a, .int .i64 b, .int .i64 u, .int .i64 c, .bool xb, .int .u64 (xn : Int), .string ⟨#[]⟩, .int .u64 (xd : Int), .string ⟨#[]⟩]) := Blk.below (((((KD2.out.set_ 4 _).set_ 5 _).set_ 6 _).set_ 7 _).set_ 8 _) hb3 (by have := KD2.out.lt; simpa using this)
  have HB3 := Lib.hid hb3
  clear d0 d1 d2 d3 d4 d5 d6 d7 d8 f4 f5 f6 f7 f8
  clear hb3
  have p0 := KA3.out.cell 0; have p1 := KA3.out.cell 1; have p2 := KA3.out.cell 2; have p3 := KA3.out.cell 3; have p4 := KA3.out.cell 4; have p5 := KA3.out.cell 5; have p6 := KA3.out.cell 6; have p7 := KA3.out.cell 7; have p8 := KA3.out.cell 8
  simp only [List.getElem?_toArray, List.getElem?_cons_zero, List.getElem?_cons_succ] at p0 p1 p2 p3 p4 p5 p6 p7 p8
  have q0 := KB3.out.cell 0; have q1 := KB3.out.cell 1; have q2 := KB3.out.cell 2; have q3 := KB3.out.cell 3; have q4 := KB3.out.cell 4; have q5 := KB3.out.cell 5; have q6 := KB3.out.cell 6; have q7 := KB3.out.cell 7; have q8 := KB3.out.cell 8
  simp only [List.getElem?_toArray, List.getElem?_cons_zero, List.getElem?_cons_succ] at q0 q1 q2 q3 q4 q5 q6 q7 q8
  go_wp2_with fail
  refine (H1.out _).mono ?_
  rintro e w4 ⟨rfl, hb4⟩
  have KA4 := Lib.hid (KA3.out.below hb4 KA3.out.lt)
  have KC4 := Lib.hid (KC3.out.below hb4 KC3.out.lt)
  have KD4 := Lib.hid (KD3.out.below hb4 KD3.out.lt)
  have HB4 := Lib.hid hb4
  clear hb4
  clear p0 p1 p2 p3 p4 p5 p6 p7 p8 q0 q1 q2 q3 q4 q5 q6 q7 q8
  have p0 := KA4.out.cell 0; have p1 := KA4.out.cell 1; have p2 := KA4.out.cell 2; have p3 := KA4.out.cell 3; have p4 := KA4.out.cell 4; have p5 := KA4.out.cell 5; have p6 := KA4.out.cell 6; have p7 := KA4.out.cell 7; have p8 := KA4.out.cell 8
  simp only [List.getElem?_toArray, List.getElem?_cons_zero, List.getElem?_cons_succ] at p0 p1 p2 p3 p4 p5 p6 p7 p8
  have q0 := KC4.out.cell 0; have q1 := KC4.out.cell 1; have q2 := KC4.out.cell 2; have q3 := KC4.out.cell 3; have q4 := KC4.out.cell 4; have q5 := KC4.out.cell 5; have q6 := KC4.out.cell 6; have q7 := KC4.out.cell 7; have q8 := KC4.out.cell 8
  simp only [List.getElem?_toArray, List.getElem?_cons_zero, List.getElem?_cons_succ] at q0 q1 q2 q3 q4 q5 q6 q7 q8
  go_wp2_with fail
  refine (H2.out _).mono ?_
  rintro e w5 ⟨rfl, hb5⟩
  have KA5 := Lib.hid (KA4.out.below hb5 KA4.out.lt)
  have KC5 := Lib.hid (KC4.out.below hb5 KC4.out.lt)
  have KD5 := Lib.hid (KD4.out.below hb5 KD4.out.lt)
  have HB5 := Lib.hid hb5
  clear hb5
  clear p0 p1 p2 p3 p4 p5 p6 p7 p8 q0 q1 q2 q3 q4 q5 q6 q7 q8
  have p0 := KA5.out.cell 0; have p1 := KA5.out.cell 1; have p2 := KA5.out.cell 2; have p3 := KA5.out.cell 3; have p4 := KA5.out.cell 4; have p5 := KA5.out.cell 5; have p6 := KA5.out.cell 6; have p7 := KA5.out.cell 7; have p8 := KA5.out.cell 8
  simp only [List.getElem?_toArray, List.getElem?_cons_zero, List.getElem?_cons_succ] at p0 p1 p2 p3 p4 p5 p6 p7 p8
  have q0 := KD5.out.cell 0; have q1 := KD5.out.cell 1; have q2 := KD5.out.cell 2; have q3 := KD5.out.cell 3; have q4 := KD5.out.cell 4; have q5 := KD5.out.cell 5; have q6 := KD5.out.cell 6; have q7 := KD5.out.cell 7; have q8 := KD5.out.cell 8
  simp only [List.getElem?_toArray, List.getElem?_cons_zero, List.getElem?_cons_succ] at q0 q1 q2 q3 q4 q5 q6 q7 q8
  go_wp2_with fail
  refine (H3.out _).mono ?_
  rintro e w6 ⟨rfl, hb6⟩
  have HB6 := Lib.hid hb6
  clear hb6
  clear p0 p1 p2 p3 p4 p5 p6 p7 p8 q0 q1 q2 q3 q4 q5 q6 q7 q8
  go_wp2_with fail
  refine (HQx.out _).mono ?_
  rintro e w7 ⟨rfl, hb7⟩
  have HB7 := Lib.hid hb7
  clear hb7
  go_wp2_with fail
  refine (HQy.out _).mono ?_
  rintro e w8 ⟨rfl, hb8⟩
  have HB8 := Lib.hid hb8
  clear hb8
  go_wp2_with fail
  refine (H4.out _).mono ?_
  rintro e w9 ⟨rfl, hb9⟩
  have HB9 := Lib.hid hb9
  clear hb9
  go_wp2_with fail
  go_ret
  refine ⟨rfl, ?_⟩
  have k1 := HB1.out
  have k2 := ((((k1.alloc k1.size _).alloc (by have := k1.size; simp <;> omega) _).alloc (by have := k1.size; simp <;> omega) _).alloc (by have := k1.size; simp <;> omega) _).trans (HB2.out.mono (by have := k1.size; simp <;> omega))
  have hs : w.heap.size ≤ w1.heap.size + 1 + 1 + 1 := by have := k1.size; omega
  have k3 := (((((k2.setCell hs _).setCell hs _).setCell hs _).setCell hs _).setCell hs _).trans (HB3.out.mono (by have := k2.size; simpa using this))
  have k4 := k3.trans (HB4.out.mono k3.size)
  have k5 := k4.trans (HB5.out.mono k4.size)
  have k6 := k5.trans (HB6.out.mono k5.size)
  have k7 := k6.trans (HB7.out.mono k6.size)
  have k8 := k7.trans (HB8.out.mono k7.size)
  exact k8.trans (HB9.out.mono k8.size)
set_option maxHeartbeats 4000000 in
set_option maxRecDepth 100000 in
theorem al_tn (a b x y u c : Int) (yb xb : Bool) (yn yd xn xd : Nat) (k : Int) (hk : (k == 0) = false) (w : World) (hu0 : 0 ≤ u) (hu1 : u < 3) (hc0 : 0 ≤ c) (hc1 : c < 3) (HU : Hid (x % 3 = u)) (HC : Hid (y % 3 = c))
    (HQy : Hid (∀ W, Calls Tryd.prog 5 #[.int .i64 y] W fun e w' => e = .returned (.agg #[.bool yb, .int .u64 (yn : Int), .string ⟨#[]⟩, .int .u64 (yd : Int), .string ⟨#[]⟩]) ∧ Below W.heap.size W w'))
    (HQx : Hid (∀ W, Calls Tryd.prog 5 #[.int .i64 x] W fun e w' => e = .returned (.agg #[.bool xb, .int .u64 (xn : Int), .string ⟨#[]⟩, .int .u64 (xd : Int), .string ⟨#[]⟩]) ∧ Below W.heap.size W w'))
    (H1 : Hid (∀ W, Calls Tryd.prog 7 #[.agg #[.int .i64 a, .int .i64 b, .int .i64 u, .int .i64 c, .bool yb, .int .u64 (yn : Int), .string ⟨#[]⟩, .int .u64 (yd : Int), .string ⟨#[]⟩], .agg #[.int .i64 b, .int .i64 a, .int .i64 u, .int .i64 c, .bool yb, .int .u64 (yn : Int), .string ⟨#[]⟩, .int .u64 (yd : Int), .string ⟨#[]⟩]] W fun e w' => e = .returned (.bool true) ∧ Below W.heap.size W w'))
    (H2 : Hid (∀ W, Calls Tryd.prog 7 #[.agg #[.int .i64 a, .int .i64 b, .int .i64 u, .int .i64 c, .bool yb, .int .u64 (yn : Int), .string ⟨#[]⟩, .int .u64 (yd : Int), .string ⟨#[]⟩], .agg #[.int .i64 a, .int .i64 b, .int .i64 (u + 1), .int .i64 c, .bool yb, .int .u64 (yn : Int), .string ⟨#[]⟩, .int .u64 (yd : Int), .string ⟨#[]⟩]] W fun e w' => e = .returned (.bool false) ∧ Below W.heap.size W w'))
    (H3 : Hid (∀ W, Calls Tryd.prog 7 #[.agg #[.int .i64 a, .int .i64 b, .int .i64 u, .int .i64 c, .bool yb, .int .u64 (yn : Int), .string ⟨#[]⟩, .int .u64 (yd : Int), .string ⟨#[]⟩], .agg #[.int .i64 a, .int .i64 b, .int .i64 u, .int .i64 c, .bool xb, .int .u64 (xn : Int), .string ⟨#[]⟩, .int .u64 (xd : Int), .string ⟨#[]⟩]] W fun e w' => e = .returned (.bool false) ∧ Below W.heap.size W w'))
    (H4 : Hid (∀ W, Calls Tryd.prog 8 #[.agg #[.bool xb, .int .u64 (xn : Int), .string ⟨#[]⟩, .int .u64 (xd : Int), .string ⟨#[]⟩], .agg #[.bool yb, .int .u64 (yn : Int), .string ⟨#[]⟩, .int .u64 (yd : Int), .string ⟨#[]⟩]] W fun e w' => e = .returned (.int .i64 k) ∧ Below W.heap.size W w')) :
    Calls Tryd.prog 3 #[.int .i64 a, .int .i64 b, .int .i64 x, .int .i64 y, .bool true] w fun e w' => e = .returned (.bool true) ∧ Below w.heap.size w w' := by
  go_enter Tryd.func3, Tryd.ntmps3
  go_wp2_with (go_at_call 4; refine (pick_any _ _ _ (by decide) (by decide)).mono ?_; rintro e w2 ⟨rfl, rfl⟩; first | rw [HU.out] | rw [HC.out])
  refine (HQy.out _).mono ?_
  rintro e w1 ⟨rfl, hb1⟩
  have HB1 := Lib.hid hb1
  clear hb1
  go_wp2_with fail
  refine (HQx.out _).mono ?_
  rintro e w2 ⟨rfl, hb2⟩
  obtain ⟨KA2, KB2, KC2, KD2⟩ := blk4 hb2
  have HB2 := Lib.hid hb2
  replace KA2 := Lib.hid KA2
  replace KB2 := Lib.hid KB2
  replace KC2 := Lib.hid KC2
  replace KD2 := Lib.hid KD2
  clear hb2
  have d0 := KD2.out.cell 0; have d1 := KD2.out.cell 1; have d2 := KD2.out.cell 2; have d3 := KD2.out.cell 3; have d4 := KD2.out.cell 4; have d5 := KD2.out.cell 5; have d6 := KD2.out.cell 6; have d7 := KD2.out.cell 7; have d8 := KD2.out.cell 8
  simp only [List.getElem?_toArray, List.getElem?_cons_zero, List.getElem?_cons_succ] at d0 d1 d2 d3 d4 d5 d6 d7 d8
  have f4 := KD2.out.frozen 4; have f5 := KD2.out.frozen 5; have f6 := KD2.out.frozen 6; have f7 := KD2.out.frozen 7; have f8 := KD2.out.frozen 8
  go_wp2_with fail
  refine (known_any _).mono ?_
  rintro e w3 ⟨rfl, hb3⟩
  have KA3 : Hid (Blk w3 w1.heap.size 35 #[.int .i64 a, .int .i64 b, .int .i64 u, .int .i64 c, .bool yb, .int .u64 (yn : Int), .string ⟨#[]⟩, .int .u64 (yd : Int), .string ⟨#[]⟩]) := Blk.below (((((KA2.out.far (by simp <;> omega) _).far (by simp <;> omega) _).far (by simp <;> omega) _).far (by simp <;> omega) _).far (by simp <;> omega) _) hb3 (by have := KA2.out.lt; simpa using this)
  have KB3 : Hid (Blk w3 (w1.heap.size + 1) 35 #[.int .i64 b, .int .i64 a, .int .i64 u, .int .i64 c, .bool yb, .int .u64 (yn : Int), .string ⟨#[]⟩, .int .u64 (yd : Int), .string ⟨#[]⟩]) := Blk.below (((((KB2.out.far (by simp <;> omega) _).far (by simp <;> omega) _).far (by simp <;> omega) _).far (by simp <;> omega) _).far (by simp <;> omega) _) hb3 (by have := KB2.out.lt; simpa using this)
  have KC3 : Hid (Blk w3 (w1.heap.size + 1 + 1) 35 #[.int .i64 a, .int .i64 b, .int .i64 (u + 1), .int .i64 c, .bool yb, .int .u64 (yn : Int), .string ⟨#[]⟩, .int .u64 (yd : Int), .string ⟨#[]⟩]) := Blk.below (((((KC2.out.far (by simp <;> omega) _).far (by simp <;> omega) _).far (by simp <;> omega) _).far (by simp <;> omega) _).far (by simp <;> omega) _) hb3 (by have := KC2.out.lt; simpa using this)
  have KD3 : Hid (Blk w3 (w1.heap.size + 1 + 1 + 1) 35 #[.int .i64 a, .int .i64 b, .int .i64 u, .int .i64 c, .bool xb, .int .u64 (xn : Int), .string ⟨#[]⟩, .int .u64 (xd : Int), .string ⟨#[]⟩]) := Blk.below (((((KD2.out.set_ 4 _).set_ 5 _).set_ 6 _).set_ 7 _).set_ 8 _) hb3 (by have := KD2.out.lt; simpa using this)
  have HB3 := Lib.hid hb3
  clear d0 d1 d2 d3 d4 d5 d6 d7 d8 f4 f5 f6 f7 f8
  clear hb3
  have p0 := KA3.out.cell 0; have p1 := KA3.out.cell 1; have p2 := KA3.out.cell 2; have p3 := KA3.out.cell 3; have p4 := KA3.out.cell 4; have p5 := KA3.out.cell 5; have p6 := KA3.out.cell 6; have p7 := KA3.out.cell 7; have p8 := KA3.out.cell 8
  simp only [List.getElem?_toArray, List.getElem?_cons_zero, List.getElem?_cons_succ] at p0 p1 p2 p3 p4 p5 p6 p7 p8
  have q0 := KB3.out.cell 0; have q1 := KB3.out.cell 1; have q2 := KB3.out.cell 2; have q3 := KB3.out.cell 3; have q4 := KB3.out.cell 4; have q5 := KB3.out.cell 5; have q6 := KB3.out.cell 6; have q7 := KB3.out.cell 7; have q8 := KB3.out.cell 8
  simp only [List.getElem?_toArray, List.getElem?_cons_zero, List.getElem?_cons_succ] at q0 q1 q2 q3 q4 q5 q6 q7 q8
  go_wp2_with fail
  refine (H1.out _).mono ?_
  rintro e w4 ⟨rfl, hb4⟩
  have KA4 := Lib.hid (KA3.out.below hb4 KA3.out.lt)
  have KC4 := Lib.hid (KC3.out.below hb4 KC3.out.lt)
  have KD4 := Lib.hid (KD3.out.below hb4 KD3.out.lt)
  have HB4 := Lib.hid hb4
  clear hb4
  clear p0 p1 p2 p3 p4 p5 p6 p7 p8 q0 q1 q2 q3 q4 q5 q6 q7 q8
  have p0 := KA4.out.cell 0; have p1 := KA4.out.cell 1; have p2 := KA4.out.cell 2; have p3 := KA4.out.cell 3; have p4 := KA4.out.cell 4; have p5 := KA4.out.cell 5; have p6 := KA4.out.cell 6; have p7 := KA4.out.cell 7; have p8 := KA4.out.cell 8
  simp only [List.getElem?_toArray, List.getElem?_cons_zero, List.getElem?_cons_succ] at p0 p1 p2 p3 p4 p5 p6 p7 p8
  have q0 := KC4.out.cell 0; have q1 := KC4.out.cell 1; have q2 := KC4.out.cell 2; have q3 := KC4.out.cell 3; have q4 := KC4.out.cell 4; have q5 := KC4.out.cell 5; have q6 := KC4.out.cell 6; have q7 := KC4.out.cell 7; have q8 := KC4.out.cell 8
  simp only [List.getElem?_toArray, List.getElem?_cons_zero, List.getElem?_cons_succ] at q0 q1 q2 q3 q4 q5 q6 q7 q8
  go_wp2_with fail
  refine (H2.out _).mono ?_
  rintro e w5 ⟨rfl, hb5⟩
  have KA5 := Lib.hid (KA4.out.below hb5 KA4.out.lt)
  have KC5 := Lib.hid (KC4.out.below hb5 KC4.out.lt)
  have KD5 := Lib.hid (KD4.out.below hb5 KD4.out.lt)
  have HB5 := Lib.hid hb5
  clear hb5
  clear p0 p1 p2 p3 p4 p5 p6 p7 p8 q0 q1 q2 q3 q4 q5 q6 q7 q8
  have p0 := KA5.out.cell 0; have p1 := KA5.out.cell 1; have p2 := KA5.out.cell 2; have p3 := KA5.out.cell 3; have p4 := KA5.out.cell 4; have p5 := KA5.out.cell 5; have p6 := KA5.out.cell 6; have p7 := KA5.out.cell 7; have p8 := KA5.out.cell 8
  simp only [List.getElem?_toArray, List.getElem?_cons_zero, List.getElem?_cons_succ] at p0 p1 p2 p3 p4 p5 p6 p7 p8
  have q0 := KD5.out.cell 0; have q1 := KD5.out.cell 1; have q2 := KD5.out.cell 2; have q3 := KD5.out.cell 3; have q4 := KD5.out.cell 4; have q5 := KD5.out.cell 5; have q6 := KD5.out.cell 6; have q7 := KD5.out.cell 7; have q8 := KD5.out.cell 8
  simp only [List.getElem?_toArray, List.getElem?_cons_zero, List.getElem?_cons_succ] at q0 q1 q2 q3 q4 q5 q6 q7 q8
  go_wp2_with fail
  refine (H3.out _).mono ?_
  rintro e w6 ⟨rfl, hb6⟩
  have HB6 := Lib.hid hb6
  clear hb6
  clear p0 p1 p2 p3 p4 p5 p6 p7 p8 q0 q1 q2 q3 q4 q5 q6 q7 q8
  go_wp2_with fail
  refine (HQx.out _).mono ?_
  rintro e w7 ⟨rfl, hb7⟩
  have HB7 := Lib.hid hb7
  clear hb7
  go_wp2_with fail
  refine (HQy.out _).mono ?_
  rintro e w8 ⟨rfl, hb8⟩
  have HB8 := Lib.hid hb8
  clear hb8
  go_wp2_with fail
  refine (H4.out _).mono ?_
  rintro e w9 ⟨rfl, hb9⟩
  have HB9 := Lib.hid hb9
  clear hb9
  go_wp2_with fail
  go_ret
  refine ⟨rfl, ?_⟩
  have k1 := HB1.out
  have k2 := ((((k1.alloc k1.size _).alloc (by have := k1.size; simp <;> omega) _).alloc (by have := k1.size; simp <;> omega) _).alloc (by have := k1.size; simp <;> omega) _).trans (HB2.out.mono (by have := k1.size; simp <;> omega))
  have hs : w.heap.size ≤ w1.heap.size + 1 + 1 + 1 := by have := k1.size; omega
  have k3 := (((((k2.setCell hs _).setCell hs _).setCell hs _).setCell hs _).setCell hs _).trans (HB3.out.mono (by have := k2.size; simpa using this))
  have k4 := k3.trans (HB4.out.mono k3.size)
  have k5 := k4.trans (HB5.out.mono k4.size)
  have k6 := k5.trans (HB6.out.mono k5.size)
  have k7 := k6.trans (HB7.out.mono k6.size)
  have k8 := k7.trans (HB8.out.mono k7.size)
  exact k8.trans (HB9.out.mono k8.size)
set_option maxHeartbeats 4000000 in
set_option maxRecDepth 100000 in
theorem al_fz (a b x y u c : Int) (yb xb : Bool) (yn yd xn xd : Nat) (w : World) (hu0 : 0 ≤ u) (hu1 : u < 3) (hc0 : 0 ≤ c) (hc1 : c < 3) (HU : Hid (x % 3 = u)) (HC : Hid (y % 3 = c))
    (HQy : Hid (∀ W, Calls Tryd.prog 5 #[.int .i64 y] W fun e w' => e = .returned (.agg #[.bool yb, .int .u64 (yn : Int), .string ⟨#[]⟩, .int .u64 (yd : Int), .string ⟨#[]⟩]) ∧ Below W.heap.size W w'))
    (HQx : Hid (∀ W, Calls Tryd.prog 5 #[.int .i64 x] W fun e w' => e = .returned (.agg #[.bool xb, .int .u64 (xn : Int), .string ⟨#[]⟩, .int .u64 (xd : Int), .string ⟨#[]⟩]) ∧ Below W.heap.size W w'))
    (H1 : Hid (∀ W, Calls Tryd.prog 7 #[.agg #[.int .i64 a, .int .i64 b, .int .i64 u, .int .i64 c, .bool yb, .int .u64 (yn : Int), .string ⟨#[]⟩, .int .u64 (yd : Int), .string ⟨#[]⟩], .agg #[.int .i64 b, .int .i64 a, .int .i64 u, .int .i64 c, .bool yb, .int .u64 (yn : Int), .string ⟨#[]⟩, .int .u64 (yd : Int), .string ⟨#[]⟩]] W fun e w' => e = .returned (.bool true) ∧ Below W.heap.size W w'))
    (H2 : Hid (∀ W, Calls Tryd.prog 7 #[.agg #[.int .i64 a, .int .i64 b, .int .i64 u, .int .i64 c, .bool yb, .int .u64 (yn : Int), .string ⟨#[]⟩, .int .u64 (yd : Int), .string ⟨#[]⟩], .agg #[.int .i64 a, .int .i64 b, .int .i64 u, .int .i64 (c + 1), .bool yb, .int .u64 (yn : Int), .string ⟨#[]⟩, .int .u64 (yd : Int), .string ⟨#[]⟩]] W fun e w' => e = .returned (.bool false) ∧ Below W.heap.size W w'))
    (H3 : Hid (∀ W, Calls Tryd.prog 7 #[.agg #[.int .i64 a, .int .i64 b, .int .i64 u, .int .i64 c, .bool yb, .int .u64 (yn : Int), .string ⟨#[]⟩, .int .u64 (yd : Int), .string ⟨#[]⟩], .agg #[.int .i64 a, .int .i64 b, .int .i64 u, .int .i64 c, .bool xb, .int .u64 (xn : Int), .string ⟨#[]⟩, .int .u64 (xd : Int), .string ⟨#[]⟩]] W fun e w' => e = .returned (.bool true) ∧ Below W.heap.size W w'))
    (H4 : Hid (∀ W, Calls Tryd.prog 8 #[.agg #[.bool xb, .int .u64 (xn : Int), .string ⟨#[]⟩, .int .u64 (xd : Int), .string ⟨#[]⟩], .agg #[.bool yb, .int .u64 (yn : Int), .string ⟨#[]⟩, .int .u64 (yd : Int), .string ⟨#[]⟩]] W fun e w' => e = .returned (.int .i64 0) ∧ Below W.heap.size W w')) :
    Calls Tryd.prog 3 #[.int .i64 a, .int .i64 b, .int .i64 x, .int .i64 y, .bool false] w fun e w' => e = .returned (.bool true) ∧ Below w.heap.size w w' := by
  go_enter Tryd.func3, Tryd.ntmps3
  go_wp2_with (go_at_call 4; refine (pick_any _ _ _ (by decide) (by decide)).mono ?_; rintro e w2 ⟨rfl, rfl⟩; first | rw [HU.out] | rw [HC.out])
  refine (HQy.out _).mono ?_
  rintro e w1 ⟨rfl, hb1⟩
  have HB1 := Lib.hid hb1
  clear hb1
  go_wp2_with fail
  refine (HQx.out _).mono ?_
  rintro e w2 ⟨rfl, hb2⟩
  obtain ⟨KA2, KB2, KC2, KD2⟩ := blk4 hb2
  have HB2 := Lib.hid hb2
  replace KA2 := Lib.hid KA2
  replace KB2 := Lib.hid KB2
  replace KC2 := Lib.hid KC2
  replace KD2 := Lib.hid KD2
  clear hb2
  have d0 := KD2.out.cell 0; have d1 := KD2.out.cell 1; have d2 := KD2.out.cell 2; have d3 := KD2.out.cell 3; have d4 := KD2.out.cell 4; have d5 := KD2.out.cell 5; have d6 := KD2.out.cell 6; have d7 := KD2.out.cell 7; have d8 := KD2.out.cell 8
  simp only [List.getElem?_toArray, List.getElem?_cons_zero, List.getElem?_cons_succ] at d0 d1 d2 d3 d4 d5 d6 d7 d8
  have f4 := KD2.out.frozen 4; have f5 := KD2.out.frozen 5; have f6 := KD2.out.frozen 6; have f7 := KD2.out.frozen 7; have f8 := KD2.out.frozen 8
  go_wp2_with fail
  refine (known_any _).mono ?_
  rintro e w3 ⟨rfl, hb3⟩
  have KA3 : Hid (Blk w3 w1.heap.size 35 #[.int .i64 a, .int .i64 b, .int .i64 u, .int .i64 c, .bool yb, .int .u64 (yn : Int), .string ⟨#[]⟩, .int .u64 (yd : Int), .string ⟨#[]⟩]) := Blk.below (((((KA2.out.far (by simp <;> omega) _).far (by simp <;> omega) _).far (by simp <;> omega) _).far (by simp <;> omega) _).far (by simp <;> omega) _) hb3 (by have := KA2.out.lt; simpa using this)
  have KB3 : Hid (Blk w3 (w1.heap.size + 1) 35 #[.int .i64 b, .int .i64 a, .int .i64 u, .int .i64 c, .bool yb, .int .u64 (yn : Int), .string ⟨#[]⟩, .int .u64 (yd : Int), .string ⟨#[]⟩]) := Blk.below (((((KB2.out.far (by simp <;> omega) _).far (by simp <;> omega) _).far (by simp <;> omega) _).far (by simp <;> omega) _).far (by simp <;> omega) _) hb3 (by have := KB2.out.lt; simpa using this)
  have KC3 : Hid (Blk w3 (w1.heap.size + 1 + 1) 35 #[.int .i64 a, .int .i64 b, .int .i64 u, .int .i64 (c + 1), .bool yb, .int .u64 (yn : Int), .string ⟨#[]⟩, .int .u64 (yd : Int), .string ⟨#[]⟩]) := Blk.below (((((KC2.out.far (by simp <;> omega) _).far (by simp <;> omega) _).far (by simp <;> omega) _).far (by simp <;> omega) _).far (by simp <;> omega) _) hb3 (by have := KC2.out.lt; simpa using this)
  have KD3 : Hid (Blk w3 (w1.heap.size + 1 + 1 + 1) 35 #[.int .i64 a, .int .i64 b, .int .i64 u, .int .i64 c, .bool xb, .int .u64 (xn : Int), .string ⟨#[]⟩, .int .u64 (xd : Int), .string ⟨#[]⟩]) := Blk.below (((((KD2.out.set_ 4 _).set_ 5 _).set_ 6 _).set_ 7 _).set_ 8 _) hb3 (by have := KD2.out.lt; simpa using this)
  have HB3 := Lib.hid hb3
  clear d0 d1 d2 d3 d4 d5 d6 d7 d8 f4 f5 f6 f7 f8
  clear hb3
  have p0 := KA3.out.cell 0; have p1 := KA3.out.cell 1; have p2 := KA3.out.cell 2; have p3 := KA3.out.cell 3; have p4 := KA3.out.cell 4; have p5 := KA3.out.cell 5; have p6 := KA3.out.cell 6; have p7 := KA3.out.cell 7; have p8 := KA3.out.cell 8
  simp only [List.getElem?_toArray, List.getElem?_cons_zero, List.getElem?_cons_succ] at p0 p1 p2 p3 p4 p5 p6 p7 p8
  have q0 := KB3.out.cell 0; have q1 := KB3.out.cell 1; have q2 := KB3.out.cell 2; have q3 := KB3.out.cell 3; have q4 := KB3.out.cell 4; have q5 := KB3.out.cell 5; have q6 := KB3.out.cell 6; have q7 := KB3.out.cell 7; have q8 := KB3.out.cell 8
  simp only [List.getElem?_toArray, List.getElem?_cons_zero, List.getElem?_cons_succ] at q0 q1 q2 q3 q4 q5 q6 q7 q8
  go_wp2_with fail
  refine (H1.out _).mono ?_
  rintro e w4 ⟨rfl, hb4⟩
  have KA4 := Lib.hid (KA3.out.below hb4 KA3.out.lt)
  have KC4 := Lib.hid (KC3.out.below hb4 KC3.out.lt)
  have KD4 := Lib.hid (KD3.out.below hb4 KD3.out.lt)
  have HB4 := Lib.hid hb4
  clear hb4
  clear p0 p1 p2 p3 p4 p5 p6 p7 p8 q0 q1 q2 q3 q4 q5 q6 q7 q8
  have p0 := KA4.out.cell 0; have p1 := KA4.out.cell 1; have p2 := KA4.out.cell 2; have p3 := KA4.out.cell 3; have p4 := KA4.out.cell 4; have p5 := KA4.out.cell 5; have p6 := KA4.out.cell 6; have p7 := KA4.out.cell 7; have p8 := KA4.out.cell 8
  simp only [List.getElem?_toArray, List.getElem?_cons_zero, List.getElem?_cons_succ] at p0 p1 p2 p3 p4 p5 p6 p7 p8
  have q0 := KC4.out.cell 0; have q1 := KC4.out.cell 1; have q2 := KC4.out.cell 2; have q3 := KC4.out.cell 3; have q4 := KC4.out.cell 4; have q5 := KC4.out.cell 5; have q6 := KC4.out.cell 6; have q7 := KC4.out.cell 7; have q8 := KC4.out.cell 8
  simp only [List.getElem?_toArray, List.getElem?_cons_zero, List.getElem?_cons_succ] at q0 q1 q2 q3 q4 q5 q6 q7 q8
  go_wp2_with fail
  refine (H2.out _).mono ?_
  rintro e w5 ⟨rfl, hb5⟩
  have KA5 := Lib.hid (KA4.out.below hb5 KA4.out.lt)
  have KC5 := Lib.hid (KC4.out.below hb5 KC4.out.lt)
  have KD5 := Lib.hid (KD4.out.below hb5 KD4.out.lt)
  have HB5 := Lib.hid hb5
  clear hb5
  clear p0 p1 p2 p3 p4 p5 p6 p7 p8 q0 q1 q2 q3 q4 q5 q6 q7 q8
  have p0 := KA5.out.cell 0; have p1 := KA5.out.cell 1; have p2 := KA5.out.cell 2; have p3 := KA5.out.cell 3; have p4 := KA5.out.cell 4; have p5 := KA5.out.cell 5; have p6 := KA5.out.cell 6; have p7 := KA5.out.cell 7; have p8 := KA5.out.cell 8
  simp only [List.getElem?_toArray, List.getElem?_cons_zero, List.getElem?_cons_succ] at p0 p1 p2 p3 p4 p5 p6 p7 p8
  have q0 := KD5.out.cell 0; have q1 := KD5.out.cell 1; have q2 := KD5.out.cell 2; have q3 := KD5.out.cell 3; have q4 := KD5.out.cell 4; have q5 := KD5.out.cell 5; have q6 := KD5.out.cell 6; have q7 := KD5.out.cell 7; have q8 := KD5.out.cell 8
  simp only [List.getElem?_toArray, List.getElem?_cons_zero, List.getElem?_cons_succ] at q0 q1 q2 q3 q4 q5 q6 q7 q8
  go_wp2_with fail
  refine (H3.out _).mono ?_
  rintro e w6 ⟨rfl, hb6⟩
  have HB6 := Lib.hid hb6
  clear hb6
  clear p0 p1 p2 p3 p4 p5 p6 p7 p8 q0 q1 q2 q3 q4 q5 q6 q7 q8
  go_wp2_with fail
  refine (HQx.out _).mono ?_
  rintro e w7 ⟨rfl, hb7⟩
  have HB7 := Lib.hid hb7
  clear hb7
  go_wp2_with fail
  refine (HQy.out _).mono ?_
  rintro e w8 ⟨rfl, hb8⟩
  have HB8 := Lib.hid hb8
  clear hb8
  go_wp2_with fail
  refine (H4.out _).mono ?_
  rintro e w9 ⟨rfl, hb9⟩
  have HB9 := Lib.hid hb9
  clear hb9
  go_wp2_with fail
  go_ret
  refine ⟨rfl, ?_⟩
  have k1 := HB1.out
  have k2 := ((((k1.alloc k1.size _).alloc (by have := k1.size; simp <;> omega) _).alloc (by have := k1.size; simp <;> omega) _).alloc (by have := k1.size; simp <;> omega) _).trans (HB2.out.mono (by have := k1.size; simp <;> omega))
  have hs : w.heap.size ≤ w1.heap.size + 1 + 1 + 1 := by have := k1.size; omega
  have k3 := (((((k2.setCell hs _).setCell hs _).setCell hs _).setCell hs _).setCell hs _).trans (HB3.out.mono (by have := k2.size; simpa using this))
  have k4 := k3.trans (HB4.out.mono k3.size)
  have k5 := k4.trans (HB5.out.mono k4.size)
  have k6 := k5.trans (HB6.out.mono k5.size)
  have k7 := k6.trans (HB7.out.mono k6.size)
  have k8 := k7.trans (HB8.out.mono k7.size)
  exact k8.trans (HB9.out.mono k8.size)
set_option maxHeartbeats 4000000 in
set_option maxRecDepth 100000 in
theorem al_fn (a b x y u c : Int) (yb xb : Bool) (yn yd xn xd : Nat) (k : Int) (hk : (k == 0) = false) (w : World) (hu0 : 0 ≤ u) (hu1 : u < 3) (hc0 : 0 ≤ c) (hc1 : c < 3) (HU : Hid (x % 3 = u)) (HC : Hid (y % 3 = c))
    (HQy : Hid (∀ W, Calls Tryd.prog 5 #[.int .i64 y] W fun e w' => e = .returned (.agg #[.bool yb, .int .u64 (yn : Int), .string ⟨#[]⟩, .int .u64 (yd : Int), .string ⟨#[]⟩]) ∧ Below W.heap.size W w'))
    (HQx : Hid (∀ W, Calls Tryd.prog 5 #[.int .i64 x] W fun e w' => e = .returned (.agg #[.bool xb, .int .u64 (xn : Int), .string ⟨#[]⟩, .int .u64 (xd : Int), .string ⟨#[]⟩]) ∧ Below W.heap.size W w'))
    (H1 : Hid (∀ W, Calls Tryd.prog 7 #[.agg #[.int .i64 a, .int .i64 b, .int .i64 u, .int .i64 c, .bool yb, .int .u64 (yn : Int), .string ⟨#[]⟩, .int .u64 (yd : Int), .string ⟨#[]⟩], .agg #[.int .i64 b, .int .i64 a, .int .i64 u, .int .i64 c, .bool yb, .int .u64 (yn : Int), .string ⟨#[]⟩, .int .u64 (yd : Int), .string ⟨#[]⟩]] W fun e w' => e = .returned (.bool true) ∧ Below W.heap.size W w'))
    (H2 : Hid (∀ W, Calls Tryd.prog 7 #[.agg #[.int .i64 a, .int .i64 b, .int .i64 u, .int .i64 c, .bool yb, .int .u64 (yn : Int), .string ⟨#[]⟩, .int .u64 (yd : Int), .string ⟨#[]⟩], .agg #[.int .i64 a, .int .i64 b, .int .i64 u, .int .i64 (c + 1), .bool yb, .int .u64 (yn : Int), .string ⟨#[]⟩, .int .u64 (yd : Int), .string ⟨#[]⟩]] W fun e w' => e = .returned (.bool false) ∧ Below W.heap.size W w'))
    (H3 : Hid (∀ W, Calls Tryd.prog 7 #[.agg #[.int .i64 a, .int .i64 b, .int .i64 u, .int .i64 c, .bool yb, .int .u64 (yn : Int), .string ⟨#[]⟩, .int .u64 (yd : Int), .string ⟨#[]⟩], .agg #[.int .i64 a, .int .i64 b, .int .i64 u, .int .i64 c, .bool xb, .int .u64 (xn : Int), .string ⟨#[]⟩, .int .u64 (xd : Int), .string ⟨#[]⟩]] W fun e w' => e = .returned (.bool false) ∧ Below W.heap.size W w'))
    (H4 : Hid (∀ W, Calls Tryd.prog 8 #[.agg #[.bool xb, .int .u64 (xn : Int), .string ⟨#[]⟩, .int .u64 (xd : Int), .string ⟨#[]⟩], .agg #[.bool yb, .int .u64 (yn : Int), .string ⟨#[]⟩, .int .u64 (yd : Int), .string ⟨#[]⟩]] W fun e w' => e = .returned (.int .i64 k) ∧ Below W.heap.size W w')) :
    Calls Tryd.prog 3 #[.int .i64 a, .int .i64 b, .int .i64 x, .int .i64 y, .bool false] w fun e w' => e = .returned (.bool true) ∧ Below w.heap.size w w' := by
  go_enter Tryd.func3, Tryd.ntmps3
  go_wp2_with (go_at_call 4; refine (pick_any _ _ _ (by decide) (by decide)).mono ?_; rintro e w2 ⟨rfl, rfl⟩; first | rw [HU.out] | rw [HC.out])
  refine (HQy.out _).mono ?_
  rintro e w1 ⟨rfl, hb1⟩
  have HB1 := Lib.hid hb1
  clear hb1
  go_wp2_with fail
  refine (HQx.out _).mono ?_
  rintro e w2 ⟨rfl, hb2⟩
  obtain ⟨KA2, KB2, KC2, KD2⟩ := blk4 hb2
  have HB2 := Lib.hid hb2
  replace KA2 := Lib.hid KA2
  replace KB2 := Lib.hid KB2
  replace KC2 := Lib.hid KC2
  replace KD2 := Lib.hid KD2
  clear hb2
  have d0 := KD2.out.cell 0; have d1 := KD2.out.cell 1; have d2 := KD2.out.cell 2; have d3 := KD2.out.cell 3; have d4 := KD2.out.cell 4; have d5 := KD2.out.cell 5; have d6 := KD2.out.cell 6; have d7 := KD2.out.cell 7; have d8 := KD2.out.cell 8
  simp only [List.getElem?_toArray, List.getElem?_cons_zero, List.getElem?_cons_succ] at d0 d1 d2 d3 d4 d5 d6 d7 d8
  have f4 := KD2.out.frozen 4; have f5 := KD2.out.frozen 5; have f6 := KD2.out.frozen 6; have f7 := KD2.out.frozen 7; have f8 := KD2.out.frozen 8
  go_wp2_with fail
  refine (known_any _).mono ?_
  rintro e w3 ⟨rfl, hb3⟩
  have KA3 : Hid (Blk w3 w1.heap.size 35 #[.int .i64 a, .int .i64 b, .int .i64 u, .int .i64 c, .bool yb, .int .u64 (yn : Int), .string ⟨#[]⟩, .int .u64 (yd : Int), .string ⟨#[]⟩]) := Blk.below (((((KA2.out.far (by simp <;> omega) _).far (by simp <;> omega) _).far (by simp <;> omega) _).far (by simp <;> omega) _).far (by simp <;> omega) _) hb3 (by have := KA2.out.lt; simpa using this)
  have KB3 : Hid (Blk w3 (w1.heap.size + 1) 35 #[.int .i64 b, .int .i64 a, .int .i64 u, .int .i64 c, .bool yb, .int .u64 (yn : Int), .string ⟨#[]⟩, .int .u64 (yd : Int), .string ⟨#[]⟩]) := Blk.below (((((KB2.out.far (by simp <;> omega) _).far (by simp <;> omega) _).far (by simp <;> omega) _).far (by simp <;> omega) _).far (by simp <;> omega) _) hb3 (by have := KB2.out.lt; simpa using this)
  have KC3 : Hid (Blk w3 (w1.heap.size + 1 + 1) 35 #[.int .i64 a, .int .i64 b, .int .i64 u, .int .i64 (c + 1), .bool yb, .int .u64 (yn : Int), .string ⟨#[]⟩, .int .u64 (yd : Int), .string ⟨#[]⟩]) := Blk.below (((((KC2.out.far (by simp <;> omega) _).far (by simp <;> omega) _).far (by simp <;> omega) _).far (by simp <;> omega) _).far (by simp <;> omega) _) hb3 (by have := KC2.out.lt; simpa using this)
  have KD3 : Hid (Blk w3 (w1.heap.size + 1 + 1 + 1) 35 #[.int .i64 a, .int .i64 b, .int .i64 u, .int .i64 c, .bool xb, .int .u64 (xn : Int), .string ⟨#[]⟩, .int .u64 (xd : Int), .string ⟨#[]⟩]) := Blk.below (((((KD2.out.set_ 4 _).set_ 5 _).set_ 6 _).set_ 7 _).set_ 8 _) hb3 (by have := KD2.out.lt; simpa using this)
  have HB3 := Lib.hid hb3
  clear d0 d1 d2 d3 d4 d5 d6 d7 d8 f4 f5 f6 f7 f8
  clear hb3
  have p0 := KA3.out.cell 0; have p1 := KA3.out.cell 1; have p2 := KA3.out.cell 2; have p3 := KA3.out.cell 3; have p4 := KA3.out.cell 4; have p5 := KA3.out.cell 5; have p6 := KA3.out.cell 6; have p7 := KA3.out.cell 7; have p8 := KA3.out.cell 8
  simp only [List.getElem?_toArray, List.getElem?_cons_zero, List.getElem?_cons_succ] at p0 p1 p2 p3 p4 p5 p6 p7 p8
  have q0 := KB3.out.cell 0; have q1 := KB3.out.cell 1; have q2 := KB3.out.cell 2; have q3 := KB3.out.cell 3; have q4 := KB3.out.cell 4; have q5 := KB3.out.cell 5; have q6 := KB3.out.cell 6; have q7 := KB3.out.cell 7; have q8 := KB3.out.cell 8
  simp only [List.getElem?_toArray, List.getElem?_cons_zero, List.getElem?_cons_succ] at q0 q1 q2 q3 q4 q5 q6 q7 q8
  go_wp2_with fail
  refine (H1.out _).mono ?_
  rintro e w4 ⟨rfl, hb4⟩
  have KA4 := Lib.hid (KA3.out.below hb4 KA3.out.lt)
  have KC4 := Lib.hid (KC3.out.below hb4 KC3.out.lt)
  have KD4 := Lib.hid (KD3.out.below hb4 KD3.out.lt)
  have HB4 := Lib.hid hb4
  clear hb4
  clear p0 p1 p2 p3 p4 p5 p6 p7 p8 q0 q1 q2 q3 q4 q5 q6 q7 q8
  have p0 := KA4.out.cell 0; have p1 := KA4.out.cell 1; have p2 := KA4.out.cell 2; have p3 := KA4.out.cell 3; have p4 := KA4.out.cell 4; have p5 := KA4.out.cell 5; have p6 := KA4.out.cell 6; have p7 := KA4.out.cell 7; have p8 := KA4.out.cell 8
  simp only [List.getElem?_toArray, List.getElem?_cons_zero, List.getElem?_cons_succ] at p0 p1 p2 p3 p4 p5 p6 p7 p8
  have q0 := KC4.out.cell 0; have q1 := KC4.out.cell 1; have q2 := KC4.out.cell 2; have q3 := KC4.out.cell 3; have q4 := KC4.out.cell 4; have q5 := KC4.out.cell 5; have q6 := KC4.out.cell 6; have q7 := KC4.out.cell 7; have q8 := KC4.out.cell 8
  simp only [List.getElem?_toArray, List.getElem?_cons_zero, List.getElem?_cons_succ] at q0 q1 q2 q3 q4 q5 q6 q7 q8
  go_wp2_with fail
  refine (H2.out _).mono ?_
  rintro e w5 ⟨rfl, hb5⟩
  have KA5 := Lib.hid (KA4.out.below hb5 KA4.out.lt)
  have KC5 := Lib.hid (KC4.out.below hb5 KC4.out.lt)
  have KD5 := Lib.hid (KD4.out.below hb5 KD4.out.lt)
  have HB5 := Lib.hid hb5
  clear hb5
  clear p0 p1 p2 p3 p4 p5 p6 p7 p8 q0 q1 q2 q3 q4 q5 q6 q7 q8
  have p0 := KA5.out.cell 0; have p1 := KA5.out.cell 1; have p2 := KA5.out.cell 2; have p3 := KA5.out.cell 3; have p4 := KA5.out.cell 4; have p5 := KA5.out.cell 5; have p6 := KA5.out.cell 6; have p7 := KA5.out.cell 7; have p8 := KA5.out.cell 8
  simp only [List.getElem?_toArray, List.getElem?_cons_zero, List.getElem?_cons_succ] at p0 p1 p2 p3 p4 p5 p6 p7 p8
  have q0 := KD5.out.cell 0; have q1 := KD5.out.cell 1; have q2 := KD5.out.cell 2; have q3 := KD5.out.cell 3; have q4 := KD5.out.cell 4; have q5 := KD5.out.cell 5; have q6 := KD5.out.cell 6; have q7 := KD5.out.cell 7; have q8 := KD5.out.cell 8
  simp only [List.getElem?_toArray, List.getElem?_cons_zero, List.getElem?_cons_succ] at q0 q1 q2 q3 q4 q5 q6 q7 q8
  go_wp2_with fail
  refine (H3.out _).mono ?_
  rintro e w6 ⟨rfl, hb6⟩
  have HB6 := Lib.hid hb6
  clear hb6
  clear p0 p1 p2 p3 p4 p5 p6 p7 p8 q0 q1 q2 q3 q4 q5 q6 q7 q8
  go_wp2_with fail
  refine (HQx.out _).mono ?_
  rintro e w7 ⟨rfl, hb7⟩
  have HB7 := Lib.hid hb7
  clear hb7
  go_wp2_with fail
  refine (HQy.out _).mono ?_
  rintro e w8 ⟨rfl, hb8⟩
  have HB8 := Lib.hid hb8
  clear hb8
  go_wp2_with fail
  refine (H4.out _).mono ?_
  rintro e w9 ⟨rfl, hb9⟩
  have HB9 := Lib.hid hb9
  clear hb9
  go_wp2_with fail
  go_ret
  refine ⟨rfl, ?_⟩
  have k1 := HB1.out
  have k2 := ((((k1.alloc k1.size _).alloc (by have := k1.size; simp <;> omega) _).alloc (by have := k1.size; simp <;> omega) _).alloc (by have := k1.size; simp <;> omega) _).trans (HB2.out.mono (by have := k1.size; simp <;> omega))
  have hs : w.heap.size ≤ w1.heap.size + 1 + 1 + 1 := by have := k1.size; omega
  have k3 := (((((k2.setCell hs _).setCell hs _).setCell hs _).setCell hs _).setCell hs _).trans (HB3.out.mono (by have := k2.size; simpa using this))
  have k4 := k3.trans (HB4.out.mono k3.size)
  have k5 := k4.trans (HB5.out.mono k4.size)
  have k6 := k5.trans (HB6.out.mono k5.size)
  have k7 := k6.trans (HB7.out.mono k6.size)
  have k8 := k7.trans (HB8.out.mono k7.size)
  exact k8.trans (HB9.out.mono k8.size)
end Go.Proofs.YtjohbgkdhppglaaDoor
