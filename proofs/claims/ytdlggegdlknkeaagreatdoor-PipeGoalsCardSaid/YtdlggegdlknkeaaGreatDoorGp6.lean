/-
  A row's cells, as the program's.
-/
import Derived.Test.YtdlggegdlknkeaaGreatDoorGp5
namespace Go.Proofs.YtdlggegdlknkeaaGreatDoor.Gp
open Go Go.RowKit Ut

/- A cell of the program: does it lack, its fraction, its word. -/
structure PC where
  lk : Bool
  neg : Bool
  n : Int
  s : ByteArray
  d : Int
  s' : ByteArray
  wd : Nat
def PC.q (c : PC) : Value := .agg #[.bool c.neg, .int .u64 c.n, .string c.s, .int .u64 c.d, .string c.s']
def PC.cells (c : PC) : List Value := [.bool c.lk, .bool c.neg, .int .u64 c.n, .string c.s, .int .u64 c.d, .string c.s', .int .i64 c.wd]
def pcOk (kd : Nat) (c : PC) : Prop := QOk c.q ∧ ((c.lk = true ∧ c.q = qzV ∧ c.wd = 0) ∨ (c.lk = false ∧ kd = 0 ∧ c.wd = 0) ∨ (c.lk = false ∧ kd ≠ 0 ∧ c.q = qzV ∧ c.wd < kd))
def pflat (cs : List PC) : List Value := cs.flatMap PC.cells
def PRow (w : World) (base : Nat) (v : Value) (cs : List PC) : Prop := w.ownsRow base 127 7 v cs.length (pflat cs)
def pfit (ks : List Nat) (cs : List PC) : Prop := ∀ (i : Nat) (h : i < cs.length) (h' : i < ks.length), pcOk ks[i] cs[i]
def pFits (ks : List Nat) (cs : List PC) : Prop := cs.length = ks.length ∧ pfit ks cs
theorem pfit_snoc {ks : List Nat} {rs : List PC} {r : PC} (h : pfit ks rs) {k : Nat} (hk : rs.length = k) (hl : k < ks.length) (hr : pcOk ks[k] r) : pfit ks (rs ++ [r]) := fun i hi hi' => by
  by_cases hl : i < rs.length
  · rw [List.getElem_append_left hl]; exact h i hl hi'
  · have e : i = rs.length := by simp at hi; omega
    subst e
    rw [List.getElem_append_right (Nat.le_refl _)]
    simp only [Nat.sub_self, List.getElem_cons_zero]
    subst hk; exact hr
theorem pflat_snoc (cs : List PC) (c : PC) : pflat (cs ++ [c]) = pflat cs ++ c.cells := by unfold pflat; simp
theorem infoPC : (Tryz.prog.info? 127).map (fun i => (i.zero, i.size, i.bytes)) = some (some (.agg #[.bool false, .bool false, .int .u64 0, .string ⟨#[]⟩, .int .u64 0, .string ⟨#[]⟩, .int .i64 0]), 7, 72) := by kernel_rfl
theorem q_form {f : Value} (h : QOk f) (lk : Bool) (wd : Nat) : ∃ c : PC, f = c.q ∧ c.lk = lk ∧ c.wd = wd := by
  obtain ⟨h1, _⟩ := h
  have key : ∀ v : Value, isQ v = true → ∃ a b c d e, v = .agg #[.bool a, .int .u64 b, .string c, .int .u64 d, .string e] := fun v hv => by
    unfold isQ at hv
    split at hv
    · exact ⟨_, _, _, _, _, rfl⟩
    · cases hv
  obtain ⟨a, b, c, d, e, rfl⟩ := key f h1
  exact ⟨⟨lk, a, b, c, d, e, wd⟩, rfl, rfl, rfl⟩
theorem in_rc {kd : Nat} {r : RC} {v : Value} (w : World) (hok : rcOk kd r) (h : FracAt w r.t v) : Calls Tryz.prog 29 #[v] w fun e w' => ∃ c : PC, e = .returned (.agg #[.bool c.neg, .int .u64 c.n, .string c.s, .int .u64 c.d, .string c.s']) ∧ c.lk = r.lk ∧ c.wd = r.wd ∧ pcOk kd c ∧ Below w.heap.size w w' := by
  have z : r.t = patZ → Calls Tryz.prog 29 #[v] w fun e w' => ∃ c : PC, e = .returned c.q ∧ c.q = qzV ∧ c.lk = r.lk ∧ c.wd = r.wd ∧ QOk c.q ∧ Below w.heap.size w w' := fun e => by
    rw [e] at h
    refine (inz_any w h).mono ?_
    rintro e w' ⟨rfl, hb⟩
    obtain ⟨c, h1, h2, h3⟩ := q_form qz_ok r.lk r.wd
    exact ⟨c, by rw [h1], h1.symm, h2, h3, by rw [← h1]; exact qz_ok, hb⟩
  rcases hok with ⟨h1, h2, h3⟩ | ⟨h1, h2, h3, h4⟩ | ⟨h1, h2, h3, h4⟩
  · refine (z h2).mono ?_
    rintro e w' ⟨c, rfl, hq, e1, e2, hk, hb⟩
    exact ⟨c, rfl, e1, e2, ⟨hk, .inl ⟨e1.trans h1, hq, e2.trans h3⟩⟩, hb⟩
  · refine (in_any w h h3).mono ?_
    rintro e w' ⟨f, rfl, hk, hb⟩
    obtain ⟨c, rfl, e1, e2⟩ := q_form hk r.lk r.wd
    exact ⟨c, rfl, e1, e2, ⟨hk, .inr (.inl ⟨e1.trans h1, h2, e2.trans h4⟩)⟩, hb⟩
  · refine (z h3).mono ?_
    rintro e w' ⟨c, rfl, hq, e1, e2, hk, hb⟩
    exact ⟨c, rfl, e1, e2, ⟨hk, .inr (.inr ⟨e1.trans h1, h2, hq, by rw [e2]; exact h4⟩)⟩, hb⟩
theorem flatten_at {n : Nat} : ∀ (l : List (List Value)), (∀ x ∈ l, x.length = n) → ∀ (i : Nat) (h : i < l.length) (j : Nat), j < n → l.flatten[i * n + j]? = l[i][j]?
  | [], _, i, h, _, _ => by simp at h
  | x :: l, hx, i, h, j, hj => by
    rw [List.flatten_cons]
    have h7 := hx x (by simp)
    cases i with
    | zero => rw [Nat.zero_mul, Nat.zero_add, List.getElem?_append_left (by omega)]; rfl
    | succ i =>
      rw [List.getElem?_append_right (by rw [Nat.succ_mul]; omega), List.getElem_cons_succ, ← flatten_at l (fun y hy => hx y (by simp [hy])) i (by simpa using h) j hj]
      congr 1
      rw [Nat.succ_mul]
      omega

set_option maxHeartbeats 4000000 in
set_option maxRecDepth 100000 in
theorem incells_any (v : Value) (rs : List RC) (ks : List Nat) (w : World) (hv : RRow w v rs) (hf : rowFits ks rs) (h6 : ks.length ≤ 6) :
    Calls Tryz.prog 13 #[v] w fun e w' => ∃ (u : Value) (cs : List PC), e = .returned u ∧ PRow w' w.heap.size u cs ∧ pFits ks cs ∧ Below w.heap.size w w' := by
  obtain ⟨base, ps, rfl, hown, hps⟩ := hv
  obtain ⟨hlen, hfit⟩ := hf
  rw [List.length_map] at hlen
  obtain ⟨A, c, rfl, hcap⟩ := own_slice hown
  have hxs : ∀ x ∈ ps.map (·.2), x.length = 5 := fun x hx => by
    obtain ⟨p, hp, rfl⟩ := List.mem_map.1 hx
    obtain ⟨sA, sD, e, _⟩ := hps p hp
    rw [e]; rfl
  obtain ⟨i0, hi0, hz0, hz1, hz2⟩ := info_parts infoPC
  have HI := Lib.hid hi0
  have HZ0 := Lib.hid hz0
  have HZ1 := Lib.hid hz1
  have HZ2 := Lib.hid hz2
  have HO := Lib.hid hown
  have HP := Lib.hid hps
  have HF := Lib.hid hfit
  have HX := Lib.hid hxs
  have HL := Lib.hid hlen
  clear hi0 hz0 hz1 hz2 hown hps hfit hxs hlen
  go_enter Tryz.func13, Tryz.ntmps13
  go_wp2
  go_loopw [3, 4] (fun v i wr => ∃ (k : Nat) (cs : List PC), k ≤ ps.length ∧ cs.length = k ∧ i = .int .i64 k ∧ Hid (wr.ownsRow w.heap.size 127 7 v k (pflat cs)) ∧ Hid (pfit ks cs) ∧ Hid (Below w.heap.size w wr)) (fun _ i _ => ps.length - (intOf i).toNat)
  case atStart => exact ⟨0, [], Nat.zero_le _, rfl, rfl, World.ownsRow_nil _ _ _ _, (fun i hi => absurd hi (Nat.not_lt_zero _)), Below.refl _ _⟩
  case round =>
    obtain ⟨k, cs, hk, hcl, rfl, hown, hpf, hbel⟩ := hrel
    have h6' : k ≤ 6 := Nat.le_trans hk (HL.out ▸ h6)
    by_cases hgo : k < ps.length
    · obtain ⟨g, rfl, _, hg, hcl'⟩ := own_cell HO.out (by omega)
      obtain ⟨⟨r, l⟩, hpk⟩ : ∃ p, ps[k] = p := ⟨_, rfl⟩
      have hmem : (r, l) ∈ ps := hpk ▸ List.getElem_mem hgo
      obtain ⟨sA, sD, hl, hfr⟩ := HP.out _ hmem
      have hl : l = [.bool r.lk, .bool r.t.neg, sA, sD, .int .i64 r.wd] := hl
      subst hl
      have hfr : FracAt w r.t (.agg #[.bool r.t.neg, sA, sD]) := hfr
      obtain ⟨B1, B2, B3, B4, B5, B6, he⟩ := hfr.form
      obtain ⟨rfl, rfl⟩ : sA = .slice B1 B2 B3 ∧ sD = .slice B4 B5 B6 := by simpa using he
      have hat : ∀ j, j < 5 → ∀ u, ([.bool r.lk, .bool r.t.neg, .slice B1 B2 B3, .slice B4 B5 B6, .int .i64 r.wd] : List Value)[j]? = some u → wr.cell? ⟨g, k * 5 + j, none⟩ = some u := fun j hj u hu => (hbel.out.cell (p := ⟨g, k * 5 + j, none⟩) hg).trans (hcl' _ _ ((flatten_at _ HX.out k (by simpa using hgo) j hj).trans (by rw [List.getElem_map, hpk]; exact hu)))
      have q0 := hat 0 (by omega) _ rfl
      have q1 := hat 1 (by omega) _ rfl
      have q2 := hat 2 (by omega) _ rfl
      have q3 := hat 3 (by omega) _ rfl
      have q4 := hat 4 (by omega) _ rfl
      rw [Nat.add_zero] at q0
      have hks : k < ks.length := HL.out ▸ hgo
      have hok : rcOk ks[k] r := by have := HF.out k (by simpa using hgo) hks; rw [List.getElem_map, hpk] at this; exact this
      have HIN := Lib.hid (fun (W : World) (h : FracAt W r.t (.agg #[.bool r.t.neg, .slice B1 B2 B3, .slice B4 B5 B6])) => in_rc (kd := ks[k]) W hok h)
      have HFR : Hid (FracAt wr.drew r.t (.agg #[.bool r.t.neg, .slice B1 B2 B3, .slice B4 B5 B6])) := hfr.keep (KeepT.of_below hbel.out.drew)
      have hszw := hbel.out.size
      have hgw : g < wr.heap.size := by omega
      clear hat hcl' hfr he hmem
      go_wp2
      go_region_held3 (fun w' => w'.cell? ⟨g, k * 5, none⟩ = some (.bool r.lk) ∧ w'.cell? ⟨g, k * 5 + 1, none⟩ = some (.bool r.t.neg) ∧ w'.cell? ⟨g, k * 5 + 2, none⟩ = some (.slice B1 B2 B3) ∧ w'.cell? ⟨g, k * 5 + 3, none⟩ = some (.slice B4 B5 B6) ∧ w'.cell? ⟨g, k * 5 + 4, none⟩ = some (.int .i64 r.wd)) (simp [*, World.cell?_alloc_some])
        (first
          | (go_at_call 29; refine (HIN.out _ HFR.out).mono ?_; rintro e w1 ⟨c, rfl, hc1, hc2, hcok, hb1⟩; have HB1 : Below wr.heap.size wr w1 := (Below.refl _ _).drew.trans hb1; have hs1 := HB1.size; have x0 : w1.cell? ⟨g, k * 5, none⟩ = some (.bool r.lk) := (HB1.cell (p := ⟨g, k * 5, none⟩) hgw).trans q0; have x1 : w1.cell? ⟨g, k * 5 + 1, none⟩ = some (.bool r.t.neg) := (HB1.cell (p := ⟨g, k * 5 + 1, none⟩) hgw).trans q1; have x2 : w1.cell? ⟨g, k * 5 + 2, none⟩ = some (.slice B1 B2 B3) := (HB1.cell (p := ⟨g, k * 5 + 2, none⟩) hgw).trans q2; have x3 : w1.cell? ⟨g, k * 5 + 3, none⟩ = some (.slice B4 B5 B6) := (HB1.cell (p := ⟨g, k * 5 + 3, none⟩) hgw).trans q3; have x4 : w1.cell? ⟨g, k * 5 + 4, none⟩ = some (.int .i64 r.wd) := (HB1.cell (p := ⟨g, k * 5 + 4, none⟩) hgw).trans q4)
          | (refine step_own _ rfl _ _ 47 rfl w.heap.size 127 i0 _ 7 72 Tryz.underlying47 HI.out HZ0.out HZ1.out HZ2.out rfl (by decide) _ k _ rfl (own_below hown.out (HB1.alloc hs1 _)) ⟨w1.heap.size, 0, none⟩ 1 1 [.bool r.lk, .bool c.neg, .int .u64 c.n, .string c.s, .int .u64 c.d, .string c.s', .int .i64 r.wd] rfl rfl (new_read w1 _ _) (all_one rfl) (by unfold maxLen; omega) (by omega) (by simp; omega) ?_; intro v' w4 hown4 hgrow; have HB4 : Below w.heap.size w w4 := ((hbel.out.trans (HB1.mono hszw)).alloc (by omega) _).grown hgrow (by simp; omega) (fun j hj => (own_base hown.out hj).1); have HB5 : Below w.heap.size wr w4 := ((HB1.mono hszw).alloc (by omega) _).grown hgrow (by simp; omega) (fun j hj => (own_base hown.out hj).1); have y0 : w4.cell? ⟨g, k * 5, none⟩ = some (.bool r.lk) := (HB5.cell (p := ⟨g, k * 5, none⟩) hg).trans q0; have y1 : w4.cell? ⟨g, k * 5 + 1, none⟩ = some (.bool r.t.neg) := (HB5.cell (p := ⟨g, k * 5 + 1, none⟩) hg).trans q1; have y2 : w4.cell? ⟨g, k * 5 + 2, none⟩ = some (.slice B1 B2 B3) := (HB5.cell (p := ⟨g, k * 5 + 2, none⟩) hg).trans q2; have y3 : w4.cell? ⟨g, k * 5 + 3, none⟩ = some (.slice B4 B5 B6) := (HB5.cell (p := ⟨g, k * 5 + 3, none⟩) hg).trans q3; have y4 : w4.cell? ⟨g, k * 5 + 4, none⟩ = some (.int .i64 r.wd) := (HB5.cell (p := ⟨g, k * 5 + 4, none⟩) hg).trans q4))
      all_goals go_wp2
      all_goals
        have e : ([.bool r.lk, .bool c.neg, .int .u64 c.n, .string c.s, .int .u64 c.d, .string c.s', .int .i64 r.wd] : List Value) = c.cells := by unfold PC.cells; rw [hc1, hc2]
        refine ⟨⟨k + 1, cs ++ [c], by omega, by simp [hcl], by go_num, ?_, ?_, HB4⟩, by simp [intOf]; omega⟩
        · show World.ownsRow _ _ _ _ _ _ _
          rw [pflat_snoc, ← e]
          exact hown4
        · exact pfit_snoc hpf.out hcl hks hcok
    · obtain ⟨A3, c3, hA3, _⟩ := own_slice hown.out
      subst hA3
      have hkn : k = ps.length := by omega
      go_wp2
      go_ret
      exact ⟨_, cs, rfl, by unfold PRow; rw [hcl]; exact hown.out, ⟨by rw [hcl, hkn]; exact HL.out, hpf.out⟩, hbel.out⟩
end Go.Proofs.YtdlggegdlknkeaaGreatDoor.Gp
