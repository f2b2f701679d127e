/-
  BookDisks: the walk.
-/
import Derived.Test.YthfmallebojjpaaGreatDoorDk9
import Derived.Deep.DeepCutAuto
import Derived.Deep.CutRange
import Derived.Deep.CutBlock
namespace Go.Proofs.YthfmallebojjpaaGreatDoor.Dk
open Go Go.RowKit

/- What came in: acts of four numbers. -/
def Acts (w : World) (L : Option Addr) (n : Nat) : Prop := 0 < n → ∃ ad, L = some ad ∧ ad.block < w.heap.size ∧ ∀ k, k < n → ∃ a b c d : Int, w.cell? (ad.add (k * 4)) = some (.int .i64 a) ∧ w.cell? (ad.add (k * 4 + 1)) = some (.int .i64 b) ∧ w.cell? (ad.add (k * 4 + 2)) = some (.int .i64 c) ∧ w.cell? (ad.add (k * 4 + 3)) = some (.int .i64 d)

def Know : Prop := ∀ w : World, Calls Tryz.prog 20 #[] w fun e w' => e = .returned (.bool true) ∧ Below w.heap.size w w'

theorem add_field (ad : Addr) (k j : Nat) (hj : 0 < j) : (⟨(ad.add k).block, (ad.add k).off + j, none⟩ : Addr) = ad.add (k + j) := by
  unfold Addr.add
  by_cases hk : k = 0
  · subst hk
    simp [show ¬ j = 0 by omega]
  · simp [hk, Nat.add_assoc]

theorem Rb.keep' {w w' : World} {A : Option Addr} {ys : List Int} (h : Rb w A ys) (hb : Below w.heap.size w w') : Rb w' A ys := fun hn => by
  obtain ⟨ad, e, hl, hc⟩ := h hn
  exact ⟨ad, e, Nat.lt_of_lt_of_le hl hb.size, fun j u hu => (hb.cell (p := ad.add j) (by rw [block_of_add]; exact hl)).trans (hc j u hu)⟩

theorem sy_same {S T : St} {q : Int} (h : sy S = (q, T)) : T.xs = S.xs ∧ T.fuse = S.fuse ∧ T.dead = S.dead := by
  unfold sy at h
  split at h
  · injection h with _ h; subst h; exact ⟨rfl, rfl, rfl⟩
  · injection h with _ h; subst h; exact ⟨rfl, rfl, rfl⟩
theorem sync_both {w0 w w1 w2 : World} {p r : Nat} {S T : St} {A B : Option Addr} {c d : Nat} {f h : Int} (I : Inv w0 w p r S A c f B d h) (hT : T.xs = S.xs ∧ T.fuse = S.fuse ∧ T.dead = S.dead) (ok : Ok T)
    (b1 : Blk w1 p 44 (pc (.slice A S.xs.length c) T f) ∧ Alt w w1 (fun k => k = p)) (a1 : Alt w w1 (fun k => k = p ∨ (Value.slice A S.xs.length c).ownBlock = some k))
    (b2 : Blk w2 r 39 (rc (.slice B S.xs.length d) T h) ∧ Alt w1 w2 (fun k => k = r)) : Inv w0 w2 p r T A c f B d h := by
  obtain ⟨e1, e2, e3⟩ := hT
  have O := I.other a1
  refine I.both (T := T) ok (A' := A) (c' := c) (by rw [e1]; exact b1.1) (by rw [e2]; exact I.pf) ?_ a1 (.inl (by rw [e1])) (B' := B) (d' := d) (by rw [e1]; exact b2.1) ?_ ?_ (b2.2.mono fun k h => .inl h) (.inl (by rw [e1]))
  · rw [e1]
    exact I.po.keep b1.2 (fun k hk e => I.po.ne I.pb (by decide) (by rw [hk, e]))
  · unfold RF
    rw [e2, e3]
    exact I.rf
  · rw [e1]
    exact O.2.keep b2.2 (fun k hk e => O.2.ne O.1 (by decide) (by rw [hk, e]))
theorem fuse_both {w0 w w1 : World} {p r n : Nat} {S : St} {A B : Option Addr} {c d : Nat} {f h : Int} (I : Inv w0 w p r S A c f B d h)
    (b1 : Blk w1 p 44 (pc (.slice A S.xs.length c) (fu S n) n) ∧ Alt w w1 (fun k => k = p)) (a1 : Alt w w1 (fun k => k = p ∨ (Value.slice A S.xs.length c).ownBlock = some k)) {m : Int} (hm : m = n) (hn : n ≤ 1000000) :
    Inv w0 (w1.setCell ⟨r, 3, none⟩ (.int .i64 m)) p r (fu S n) A c n B d m := by
  subst hm
  have O := I.other a1
  refine I.both (T := fu S n) (fu_ok I.ok hn) (A' := A) (c' := c) b1.1 ?_ ?_ a1 (.inl rfl) (B' := B) (d' := d) (Blk.to (O.1.set_ 3 _) (by simp [rc, fu])) ?_ ?_ ((Alt.refl w1 _).set_ (.inl rfl) _) (.inl rfl)
  · intro k hk
    have e : n = k := by simpa [fu] using hk
    rw [e]
  · exact I.po.keep b1.2 (fun k hk e => I.po.ne I.pb (by decide) (by rw [hk, e]))
  · refine fun _ => ⟨fun h => by simp [fu] at h, fun k hk => ?_⟩
    have e : n = k := by simpa [fu] using hk
    rw [e]
  · exact O.2.keep ((Alt.refl w1 (fun k => k = r)).set_ rfl _) (fun k hk e => O.2.ne O.1 (by decide) (by rw [hk, e]))

theorem Inv.drew1 {w0 w : World} {p r : Nat} {S : St} {A B : Option Addr} {c d : Nat} {f h : Int} (I : Inv w0 w p r S A c f B d h) : Inv w0 w.drew p r S A c f B d h :=
  ⟨I.pb, I.pf, I.po, I.rb, I.rf, I.ro, I.ap, I.ok, ⟨I.be.os, I.be.tape, I.be.output, I.be.size, I.be.block⟩, I.pn, I.rn, I.sz⟩

theorem few_as (A : Option Addr) (c : Nat) (ys : List Int) (n : Nat) (m : Int) (w : World) (hy : Rb w A ys) (hl : ys.length ≤ 9223372036854775807) (hc : ys.length ≤ c) (hn : n ≤ 1000) (hm : m = n) (hA : A = none → ys.length = 0 ∧ c = 0) :
    Calls Tryz.prog 7 #[.slice A ys.length c, .int .i64 m] w fun e w' => ∃ A' c', e = .returned (.slice A' (ys.take n).length c') ∧ Own w' w.heap.size (.slice A' (ys.take n).length c') (ys.take n) ∧ Alt w w' (fun _ => False) := by
  subst hm
  exact few_any A c ys n w hy hl hc hn hA

theorem few_zero (A : Option Addr) (c : Nat) (ys : List Int) (w : World) (hy : Rb w A ys) (hl : ys.length ≤ 9223372036854775807) (hc : ys.length ≤ c) (hA : A = none → ys.length = 0 ∧ c = 0) :
    Calls Tryz.prog 7 #[.slice A ys.length c, .int .i64 0] w fun e w' => ∃ A' c', e = .returned (.slice A' (ys.take 0).length c') ∧ Own w' w.heap.size (.slice A' (ys.take 0).length c') (ys.take 0) ∧ Alt w w' (fun _ => False) :=
  few_any A c ys 0 w hy hl hc (by omega) hA

theorem Alt.cell {w w' : World} (h : Alt w w' (fun _ => False)) {p : Addr} (hp : p.block < w.heap.size) : w'.cell? p = w.cell? p := World.cell?_of_block (h.block p.block hp (fun h => h))

theorem inv_start (w : World) (rm : Nat) (hr : rm ≤ 1000) :
    Inv w ((w.alloc (.cells (pc (.slice none 0 0) ⟨[], rm, 0, none, false⟩ 0) 44)).alloc (.cells (rc (.slice none 0 0) ⟨[], rm, 0, none, false⟩ (-1)) 39)) w.heap.size (w.heap.size + 1) ⟨[], rm, 0, none, false⟩ none 0 0 none 0 (-1) := by
  refine ⟨(Blk.new w _ _).alloc _, fun k h => by simp at h, World.ownsRow_nil _ _ _ _, ?_, fun _ => ⟨fun _ => by omega, fun k h => by simp at h⟩, World.ownsRow_nil _ _ _ _, fun k h => by simp [Value.ownBlock] at h, ⟨Nat.zero_le _, by show rm ≤ _; omega, Nat.le_refl _, fun k h => by simp at h⟩, ?_, Nat.le_refl _, by omega, by simp⟩
  · have := Blk.new (w.alloc (.cells (pc (.slice none 0 0) ⟨[], rm, 0, none, false⟩ 0) 44)) 39 (rc (.slice none 0 0) ⟨[], rm, 0, none, false⟩ (-1))
    simpa using this
  · exact ((Below.refl _ _).alloc (Nat.le_refl _) _).alloc (by simp) _

set_option maxHeartbeats 4000000 in
set_option maxRecDepth 100000 in
theorem walk (hknow : Know) (room : Int) (L : Option Addr) (n cl : Nat) (J : Option Addr) (cj : Nat) (js : List Int) (w : World) (hL : Acts w L n) (hn : n ≤ cl) (hn2 : n ≤ 9223372036854775807) (hj : Rb w J js) (hj2 : js.length ≤ cj) (hj3 : js.length ≤ 9223372036854775807) (hJ : J = none → js.length = 0 ∧ cj = 0) (hLn : L = none → n = 0) :
    Calls Tryz.prog 3 #[.int .i64 room, .slice L n cl, .slice J js.length cj] w fun e w' => e = .returned (.bool true) ∧ Below w.heap.size w w' := by
  have HL := Lib.hid hL
  have HJ := Lib.hid hj
  have HJN := Lib.hid hJ
  clear hL hj hJ
  have hr0 := Int.emod_nonneg room (show (40 : Int) ≠ 0 by omega)
  have hr1 := Int.emod_lt_of_pos room (show (0 : Int) < 40 by omega)
  obtain ⟨rm, HR⟩ : ∃ rm, Hid (room % 40 = rm) := ⟨_, rfl⟩
  rw [HR.out] at hr0 hr1
  go_enter Tryz.func3, Tryz.ntmps3
  go_upto_if 16 with fail
  go_cut [1] from 17 to 18 (fun u wx => ∃ m : Nat, m ≤ 60 ∧ m ≤ n ∧ u = .slice L m cl ∧ wx = w)
  case first =>
    rcases (show 60 < n ∨ n ≤ 60 by omega) with p1 | p1
    · have hcl : 60 ≤ cl := by omega
      obtain ⟨ad0, rfl, _, _⟩ := HL.out (by omega)
      go_wp2
      go_meet
      exact ⟨60, by omega, by omega, rfl, rfl⟩
    · go_wp2
      go_meet
      exact ⟨n, by omega, by omega, rfl, rfl⟩
  case rest =>
    obtain ⟨m, hm1, hm2, rfl, hw⟩ := hcut
    have hw2 := hw.symm
    clear hw
    subst hw2
    go_wp2_with (first
      | (go_at_call 4; refine (pick_any _ _ _ (by omega) (by omega)).mono ?_; rintro e w' ⟨rfl, rfl⟩; rw [HR.out])
      | (go_at_call 5; refine (pnew_any _ _ (by omega) (by omega)).mono ?_; rintro e w' ⟨rfl, rfl⟩)
      | (go_at_call 6; refine (rnew_any _ _ (by omega) (by omega)).mono ?_; rintro e w' ⟨rfl, rfl⟩))
    go_loopw [9] (fun i wz => ∃ (k : Nat) (S : St) (A : Option Addr) (c : Nat) (f : Int) (B : Option Addr) (d : Nat) (h : Int), k ≤ m ∧ i = .int .i64 k ∧ Hid (Inv w wz w.heap.size (w.heap.size + 1) S A c f B d h)) (fun i _ => m - (intOf i).toNat)
    case atStart =>
      refine ⟨0, ⟨[], (rm - 2).toNat, 0, Option.none, false⟩, none, 0, 0, none, 0, -1, Nat.zero_le _, rfl, ?_⟩
      have := inv_start w (rm - 2).toNat (by omega)
      exact this
    case round =>
      obtain ⟨k, S, A, c, f, B, d, h, hk, rfl, hI⟩ := hrel
      by_cases hlt : k < m
      · obtain ⟨ad, rfl, hab, hc⟩ := HL.out (by omega)
        obtain ⟨aK, aN, aV, aM, h0, _, _, h3⟩ := hc k (by omega)
        have g0 := (hI.out.be.cell (p := ad.add (k * 4)) (by rw [block_of_add]; exact hab)).trans h0
        have g3 := (hI.out.be.cell (p := ad.add (k * 4 + 3)) (by rw [block_of_add]; exact hab)).trans h3
        rw [← add_field ad (k * 4) 3 (by omega)] at g3
        clear hc h0 h3
        have hab2 : ad.block < wr.heap.size := Nat.lt_of_lt_of_le hab hI.out.be.size
        have hn0 := Int.emod_nonneg aM (show (12 : Int) ≠ 0 by omega)
        have hn1 := Int.emod_lt_of_pos aM (show (0 : Int) < 12 by omega)
        obtain ⟨nn, HN⟩ : ∃ nn, Hid (aM % 12 = nn) := ⟨_, rfl⟩
        rw [HN.out] at hn0 hn1
        have hk0 := Int.emod_nonneg aK (show (6 : Int) ≠ 0 by omega)
        have hk1 := Int.emod_lt_of_pos aK (show (0 : Int) < 6 by omega)
        obtain ⟨kk, HK⟩ : ∃ kk, Hid (aK % 6 = kk) := ⟨_, rfl⟩
        rw [HK.out] at hk0 hk1
        obtain ⟨nb, hnb⟩ : ∃ nb, nb = (nn - 2).toNat := ⟨_, rfl⟩
        obtain ⟨ys, hys⟩ : ∃ ys, ys = js.take nb := ⟨_, rfl⟩
        have HNB := Lib.hid hnb
        have HYS := Lib.hid hys
        have hyl : ys.length ≤ 9 := by rw [hys]; simp; omega
        clear hnb hys
        obtain ⟨ok1, ok2, ok3, ok4⟩ := hI.out.ok
        go_upto_region 11 with (go_at_call 4; refine (pick_any _ _ _ (by omega) (by omega)).mono ?_; rintro e w' ⟨rfl, rfl⟩; rw [HN.out])
        go_cut [11] from 28 to 121 (fun u wx => ∃ (A1 : Option Addr) (c1 : Nat), u = .slice A1 ys.length c1 ∧ Hid (Own wx wr.heap.size (.slice A1 ys.length c1) ys ∧ Alt wr wx (fun _ => False)))
        case first =>
          rcases (show nn ≤ 2 ∨ 2 < nn by omega) with q1 | q1
          all_goals
            go_wp2_with (first
              | (go_at_call 7; refine (few_as J cj js nb _ _ (HJ.out.keep' hI.out.be) hj3 hj2 (by have := HNB.out; omega) (by have := HNB.out; omega) HJN.out).mono ?_; rw [← HYS.out]; rintro e w1 ⟨A1, c1, rfl, hown, halt⟩; have OB := Lib.hid hown; have HT := Lib.hid halt; clear hown halt)
              | fail)
            go_meet
            exact ⟨A1, c1, rfl, OB.out, HT.out⟩
        case rest =>
          obtain ⟨A1, c1, rfl, hot⟩ := hcut
          have OB := Lib.hid hot.out.1
          have HT := Lib.hid hot.out.2
          have I1 := Lib.hid (hI.out.more HT.out)
          have g4 := (HT.out.cell (p := ad.add (k * 4)) (by rw [block_of_add]; exact hab2)).trans g0
          clear hot
          go_upto_block 2 with (go_at_call 4; refine (pick_any _ _ _ (by omega) (by omega)).mono ?_; rintro e w' ⟨rfl, rfl⟩; rw [HK.out])
          have hne1 : w.heap.size ≠ w.heap.size + 1 := by omega
          go_cut [12, 13] from 28 to 121 (fun u v wx => ∃ (q : Int) (T : St) (A' : Option Addr) (c' : Nat) (f' : Int) (B' : Option Addr) (d' : Nat) (h' : Int), u = .int .i64 q ∧ v = .int .i64 q ∧ Hid (Inv w wx w.heap.size (w.heap.size + 1) T A' c' f' B' d' h'))
          case first =>
            have J1 := Lib.hid (show ∀ ad, A1 = some ad → wr.heap.size ≤ ad.block from fun ad e => by subst e; exact (OB.out.base rfl).1)
            have K1 := Lib.hid (show wr.heap.size = wr.heap.size from rfl)
            have hc1 := (own_cap OB.out).2
            have hbn : A1 = none → ys.length = 0 ∧ c1 = 0 := fun e => by subst e; exact OB.out.none_
            have hBp : ∀ ad, A1 = some ad → ¬ ad.block = w.heap.size := fun ad e h => by have := J1.out ad e; have := hI.out.sz; omega
            have hBr : ∀ ad, A1 = some ad → ¬ ad.block = w.heap.size + 1 := fun ad e h => by have := J1.out ad e; have := hI.out.sz; omega
            have hBf : ∀ ad, A1 = some ad → ¬ (ad.block = w.heap.size ∨ (Value.slice A S.xs.length c).ownBlock = some ad.block) := fun ad e h => by
              have h1 := J1.out ad e
              have h2 := hI.out.sz
              rcases h with h | h
              · omega
              · have := (hI.out.po.base h).2; omega
            replace hBp := Lib.hid hBp
            replace hBr := Lib.hid hBr
            replace hBf := Lib.hid hBf
            replace hbn := Lib.hid hbn
            rcases (show kk = 0 ∨ kk = 1 ∨ kk = 2 ∨ kk = 3 ∨ kk = 4 ∨ kk = 5 by omega) with rfl | rfl | rfl | rfl | rfl | rfl
            · obtain ⟨q, T, hqT⟩ : ∃ q T, Dk.wr S ys = (q, T) := ⟨_, _, rfl⟩
              have HQ := Lib.hid hqT
              have hTok := Lib.hid (show Ok T from by have := wr_ok hI.out.ok ys; rw [hqT] at this; exact this)
              clear hqT
              go_wp2_with (first
                | (go_at_call 8; refine (pwrite_any w.heap.size A A1 c c1 (w.heap.size + 2) S f ys wc I1.out.pb I1.out.pf I1.out.po I1.out.ok (Rb.of_own OB.out) hbn.out (by omega) hc1 hBp.out I1.out.sz).mono ?_; rw [HQ.out]; rintro e w2 ⟨rfl, A', c', f', hp⟩; have P1 := Lib.hid hp; have O2 := Lib.hid (I1.out.other hp.2.2.2.1); have R2 : Hid (Rb w2 A1 ys) := (Rb.of_own OB.out).keep hp.2.2.2.1 hBf.out; clear hp)
                | (go_at_call 9; refine (rwrite_any (w.heap.size + 1) B A1 d c1 (w.heap.size + 2) S h ys w2 O2.out.1 I1.out.rf O2.out.2 I1.out.ok R2.out (by omega) hc1 hBr.out (Nat.le_trans I1.out.sz P1.out.2.2.2.1.size)).mono ?_; rw [HQ.out]; rintro e w3 ⟨rfl, B', d', h', hp⟩; have I3 := Lib.hid (I1.out.both hTok.out P1.out.1 P1.out.2.1 P1.out.2.2.1 P1.out.2.2.2.1 P1.out.2.2.2.2 hp.1 hp.2.1 hp.2.2.1 hp.2.2.2.1 hp.2.2.2.2); clear hp)
                | fail)
              go_meet
              exact ⟨q, T, A', c', f', B', d', h', rfl, rfl, I3⟩
            · obtain ⟨q, T, hqT⟩ : ∃ q T, Dk.wr S ys = (q, T) := ⟨_, _, rfl⟩
              have HQ := Lib.hid hqT
              have hTok := Lib.hid (show Ok T from by have := wr_ok hI.out.ok ys; rw [hqT] at this; exact this)
              clear hqT
              go_wp2_with (first
                | (go_at_call 8; refine (pwrite_any w.heap.size A A1 c c1 (w.heap.size + 2) S f ys wc I1.out.pb I1.out.pf I1.out.po I1.out.ok (Rb.of_own OB.out) hbn.out (by omega) hc1 hBp.out I1.out.sz).mono ?_; rw [HQ.out]; rintro e w2 ⟨rfl, A', c', f', hp⟩; have P1 := Lib.hid hp; have O2 := Lib.hid (I1.out.other hp.2.2.2.1); have R2 : Hid (Rb w2 A1 ys) := (Rb.of_own OB.out).keep hp.2.2.2.1 hBf.out; clear hp)
                | (go_at_call 9; refine (rwrite_any (w.heap.size + 1) B A1 d c1 (w.heap.size + 2) S h ys w2 O2.out.1 I1.out.rf O2.out.2 I1.out.ok R2.out (by omega) hc1 hBr.out (Nat.le_trans I1.out.sz P1.out.2.2.2.1.size)).mono ?_; rw [HQ.out]; rintro e w3 ⟨rfl, B', d', h', hp⟩; have I3 := Lib.hid (I1.out.both hTok.out P1.out.1 P1.out.2.1 P1.out.2.2.1 P1.out.2.2.2.1 P1.out.2.2.2.2 hp.1 hp.2.1 hp.2.2.1 hp.2.2.2.1 hp.2.2.2.2); clear hp)
                | fail)
              go_meet
              exact ⟨q, T, A', c', f', B', d', h', rfl, rfl, I3⟩
            · obtain ⟨q, T, hqT⟩ : ∃ q T, Dk.sy S = (q, T) := ⟨_, _, rfl⟩
              have HQ := Lib.hid hqT
              have HTX := Lib.hid (sy_same hqT)
              have hTok := Lib.hid (show Ok T from by have := sy_ok hI.out.ok; rw [hqT] at this; exact this)
              clear hqT
              go_wp2_with (first
                | (go_at_call 10; refine (psync_any w.heap.size A c S f wc I1.out.pb).mono ?_; rw [HQ.out]; rintro e w2 ⟨rfl, hp⟩; have P1 := Lib.hid hp; have PA := Lib.hid (hp.2.mono (q := fun k => k = w.heap.size ∨ (Value.slice A S.xs.length c).ownBlock = some k) (fun k h => .inl h)); have O2 := Lib.hid (I1.out.other PA.out); clear hp)
                | (go_at_call 11; refine (rsync_any (w.heap.size + 1) B d S h w2 O2.out.1).mono ?_; rw [HQ.out]; rintro e w3 ⟨rfl, hp⟩; have I3 : Hid (Inv w w3 w.heap.size (w.heap.size + 1) T A c f B d h) := sync_both I1.out HTX.out hTok.out P1.out PA.out hp; clear hp)
                | fail)
              go_meet
              exact ⟨q, T, A, c, f, B, d, h, rfl, rfl, I3⟩
            · obtain ⟨q, T, hqT⟩ : ∃ q T, Dk.sw S ys = (q, T) := ⟨_, _, rfl⟩
              have HQ := Lib.hid hqT
              have hTok := Lib.hid (show Ok T from by have := sw_ok hI.out.ok ys; rw [hqT] at this; exact this)
              clear hqT
              go_wp2_with (first
                | (go_at_call 12; refine (pswap_any w.heap.size A A1 c c1 (w.heap.size + 2) S f ys wc I1.out.pb I1.out.pf I1.out.po I1.out.ok (Rb.of_own OB.out) hbn.out (by omega) hBp.out I1.out.sz).mono ?_; rw [HQ.out]; rintro e w2 ⟨rfl, A', c', f', hp⟩; have P1 := Lib.hid hp; have O2 := Lib.hid (I1.out.other hp.2.2.2.1); have R2 : Hid (Rb w2 A1 ys) := (Rb.of_own OB.out).keep hp.2.2.2.1 hBf.out; clear hp)
                | (go_at_call 13; refine (rswap_any (w.heap.size + 1) B A1 d c1 (w.heap.size + 2) S h ys w2 O2.out.1 I1.out.rf O2.out.2 I1.out.ok R2.out (by omega) hc1 hBr.out (Nat.le_trans I1.out.sz P1.out.2.2.2.1.size)).mono ?_; rw [HQ.out]; rintro e w3 ⟨rfl, B', d', h', hp⟩; have I3 := Lib.hid (I1.out.both hTok.out P1.out.1 P1.out.2.1 P1.out.2.2.1 P1.out.2.2.2.1 P1.out.2.2.2.2 hp.1 hp.2.1 hp.2.2.1 hp.2.2.2.1 hp.2.2.2.2); clear hp)
                | fail)
              go_meet
              exact ⟨q, T, A', c', f', B', d', h', rfl, rfl, I3⟩
            · have HNN := Lib.hid (show nn - 2 ≤ 1000 ∧ -10 ≤ nn - 2 by omega)
              rcases (show nn ≤ 2 ∨ 2 < nn by omega) with q1 | q1
              all_goals
               go_wp2_with (first
                | (go_at_call 14; refine (pfuse_any w.heap.size (.slice A S.xs.length c) S f (nn - 2) wc I1.out.pb HNN.out.2 HNN.out.1).mono ?_; rintro e w2 ⟨rfl, hp⟩; have P1 := Lib.hid hp; have PA := Lib.hid (hp.2.mono (q := fun k => k = w.heap.size ∨ (Value.slice A S.xs.length c).ownBlock = some k) (fun k h => .inl h)); have O2 := Lib.hid (I1.out.other PA.out); have cz3 : w2.cell? ⟨w.heap.size + 1, 3, none⟩ = some (.int .i64 h) := O2.out.1.cell 3; have fz3 := O2.out.1.frozen 3; clear hp)
                | fail)
               go_meet
               exact ⟨0, fu S (nn - 2).toNat, A, c, (nn - 2).toNat, B, d, _, rfl, rfl, fuse_both I1.out P1.out PA.out (by omega) (by omega)⟩
            · have HNN := Lib.hid (show nn - 2 ≤ 1000 ∧ -10 ≤ nn - 2 by omega)
              go_wp2_with (first
                | (go_at_call 15; refine (pcrash_any w.heap.size A c (w.heap.size + 2) S f (nn - 2) wc I1.out.pb I1.out.po I1.out.ok HNN.out.2 HNN.out.1).mono ?_; rintro e w2 ⟨rfl, A', c', hp⟩; have P1 := Lib.hid hp; have PA := Lib.hid (hp.2.2.1.mono (q := fun k => k = w.heap.size ∨ (Value.slice A S.xs.length c).ownBlock = some k) (fun k h => .inl h)); have O2 := Lib.hid (I1.out.other PA.out); clear hp)
                | (go_at_call 16; refine (rcrash_any (w.heap.size + 1) B d (w.heap.size + 2) S h (nn - 2) w2 O2.out.1 O2.out.2 I1.out.ok HNN.out.2 HNN.out.1).mono ?_; rintro e w3 ⟨rfl, B', d', hp⟩; have I3 := Lib.hid (I1.out.both (cr_ok I1.out.ok _) P1.out.1 (fun k hk => by simp [cr] at hk) P1.out.2.1 PA.out (.inl P1.out.2.2.2) hp.1 (fun _ => ⟨fun _ => by decide, fun k hk => by simp [cr] at hk⟩) hp.2.1 (hp.2.2.1.mono (fun k h => .inl h)) (.inl hp.2.2.2)); clear hp)
                | fail)
              go_meet
              exact ⟨0, cr S (nn - 2).toNat, A', c', 0, B', d', -1, rfl, rfl, I3⟩
          case rest =>
            obtain ⟨q, T, A', c', f', B', d', h', rfl, rfl, I3⟩ := hcut
            obtain ⟨⟨r0, r1, r2, r3, r4⟩, rz⟩ := cells5 I3.out.rb
            have hlT : T.xs.length ≤ 4194304 := by have := I3.out.ok; obtain ⟨a1, a2, _⟩ := this; omega
            have hBn : B' = none → T.xs.length = 0 := fun e => by subst e; exact I3.out.ro.none_.1
            have v0 : ∀ n, (convert 23 9 (.slice B' T.xs.length d')).run Tryz.prog (wc.drewN n) = .ok (.string (strOf T.xs)) (wc.drewN n) := fun n => conv_run (w := wc.drewN n) (by exact Rb.of_own I3.out.ro) hBn
            have v1 : (convert 23 9 (.slice B' T.xs.length d')).run Tryz.prog wc.drew = .ok (.string (strOf T.xs)) wc.drew := conv_run (w := wc.drew) (by exact Rb.of_own I3.out.ro) hBn
            clear r2 r3
            go_wp2_with fail
            go_cut [121] from 90 to 121 (fun u wx => u = .bool false ∧ Hid (Inv w wx w.heap.size (w.heap.size + 1) T A' c' f' B' d' h'))
            case first =>
              clear g3 g4 ok1 ok2 ok3 ok4 HL HJ HJN HYS HNB OB HT I1 hlt hyl hab hab2 hknow
              refine wp_region_held_drew (S := fun w' => w'.cell? ⟨w.heap.size + 1, 0, none⟩ = some (.slice B' T.xs.length d') ∧ w'.cell? ⟨w.heap.size + 1, 1, none⟩ = some (.int .i64 T.safe) ∧ w'.cell? ⟨w.heap.size + 1, 4, none⟩ = some (.bool T.dead) ∧ (convert 23 9 (.slice B' T.xs.length d')).run Tryz.prog w' = .ok (.string (strOf T.xs)) w') (by kernel_rfl) ?_ (fun hHeld => ?_)
              · (try dsimp only); simp [*]
              refine wpAnyH_take (i := 0) (oi := _) (v := ?v0) rfl (by kernel_rfl) (by kernel_rfl) (by kernel_rfl) (fun _ _ _ h => h) (Or.inl ⟨by rfl, ?y0⟩) (by assumption) ?r0
              case y0 => (intro w hSw; (try dsimp only at hSw); (try simp only [List.getElem_toArray, List.getElem_cons_zero]); go_simp; try (with_reducible rfl))
              try simp only [Act.put, List.setIfInBounds_toArray, List.set_cons_zero, List.set_cons_succ, List.getElem_toArray, List.getElem_cons_zero]
              refine wpAnyH_take (i := 1) (oi := _) (v := ?v1) rfl (by kernel_rfl) (by kernel_rfl) (by kernel_rfl) (fun _ _ _ h => h) (Or.inl ⟨by rfl, ?y1⟩) (by assumption) ?r1
              case y1 => (intro w hSw; (try dsimp only at hSw); (try simp only [List.getElem_toArray, List.getElem_cons_zero, List.getElem_cons_succ]); go_simp; try (with_reducible rfl))
              try simp only [Act.put, List.setIfInBounds_toArray, List.set_cons_zero, List.set_cons_succ, List.getElem_toArray, List.getElem_cons_zero, List.getElem_cons_succ]
              refine wpAnyH_take (i := 2) (oi := _) (v := ?v2) rfl (by kernel_rfl) (by kernel_rfl) (by kernel_rfl) (fun _ _ _ h => h) (Or.inl ⟨by rfl, ?y2⟩) (by assumption) ?r2
              case y2 => (intro w hSw; (try dsimp only at hSw); (try simp only [List.getElem_toArray, List.getElem_cons_zero, List.getElem_cons_succ]); go_simp; try (with_reducible rfl))
              try simp only [Act.put, List.setIfInBounds_toArray, List.set_cons_zero, List.set_cons_succ, List.getElem_toArray, List.getElem_cons_zero, List.getElem_cons_succ]
              refine wpAnyH_take (i := 3) (oi := _) (v := ?v3) rfl (by kernel_rfl) (by kernel_rfl) (by kernel_rfl) (fun _ _ _ h => h) (Or.inl ⟨by rfl, ?y3⟩) (by assumption) ?r3
              case y3 => (intro w hSw; (try dsimp only at hSw); (try simp only [List.getElem_toArray, List.getElem_cons_zero, List.getElem_cons_succ]); go_simp; try (with_reducible rfl))
              try simp only [Act.put, List.setIfInBounds_toArray, List.set_cons_zero, List.set_cons_succ, List.getElem_toArray, List.getElem_cons_zero, List.getElem_cons_succ]
              refine wpAnyH_take (i := 4) (oi := _) (v := ?v4) rfl (by kernel_rfl) (by kernel_rfl) (by kernel_rfl) (fun _ _ _ h => h) (Or.inl ⟨by rfl, ?y4⟩) (by assumption) ?r4
              case y4 => (intro w hSw; (try dsimp only at hSw); (try simp only [List.getElem_toArray, List.getElem_cons_zero, List.getElem_cons_succ]); go_simp; try (with_reducible rfl))
              try simp only [Act.put, List.setIfInBounds_toArray, List.set_cons_zero, List.set_cons_succ, List.getElem_toArray, List.getElem_cons_zero, List.getElem_cons_succ]
              refine wpAnyH_take (i := 7) (oi := _) (v := ?v7) rfl (by kernel_rfl) (by kernel_rfl) (by kernel_rfl) (fun _ _ _ h => h) (Or.inl ⟨by rfl, ?y7⟩) (by assumption) ?r7
              case y7 => (intro w hSw; (try dsimp only at hSw); (try simp only [List.getElem_toArray, List.getElem_cons_zero, List.getElem_cons_succ]); go_simp; try (with_reducible rfl))
              try simp only [Act.put, List.setIfInBounds_toArray, List.set_cons_zero, List.set_cons_succ, List.getElem_toArray, List.getElem_cons_zero, List.getElem_cons_succ]
              refine wpAnyH_take (i := 8) (oi := _) (v := ?v8) rfl (by kernel_rfl) (by kernel_rfl) (by kernel_rfl) (fun _ _ _ h => h) (Or.inl ⟨by rfl, ?y8⟩) (by assumption) ?r8
              case y8 => (intro w hSw; (try dsimp only at hSw); (try simp only [List.getElem_toArray, List.getElem_cons_zero, List.getElem_cons_succ]); go_simp; try (with_reducible rfl))
              try simp only [Act.put, List.setIfInBounds_toArray, List.set_cons_zero, List.set_cons_succ, List.getElem_toArray, List.getElem_cons_zero, List.getElem_cons_succ]
              refine wpAnyH_take (i := 9) (oi := _) (v := ?v9) rfl (by kernel_rfl) (by kernel_rfl) (by kernel_rfl) (fun _ _ _ h => h) (Or.inl ⟨by rfl, ?y9⟩) (by assumption) ?r9
              case y9 => (intro w hSw; (try dsimp only at hSw); (try simp only [List.getElem_toArray, List.getElem_cons_zero, List.getElem_cons_succ]); go_simp; try (with_reducible rfl))
              try simp only [Act.put, List.setIfInBounds_toArray, List.set_cons_zero, List.set_cons_succ, List.getElem_toArray, List.getElem_cons_zero, List.getElem_cons_succ]
              refine wpAnyH_take (i := 10) (oi := _) (v := ?v10) rfl (by kernel_rfl) (by kernel_rfl) (by kernel_rfl) (fun _ _ _ h => h) (Or.inl ⟨by rfl, ?y10⟩) (by assumption) ?r10
              case y10 => (intro w hSw; (try dsimp only at hSw); (try simp only [List.getElem_toArray, List.getElem_cons_zero, List.getElem_cons_succ]); go_simp; try (with_reducible rfl))
              try simp only [Act.put, List.setIfInBounds_toArray, List.set_cons_zero, List.set_cons_succ, List.getElem_toArray, List.getElem_cons_zero, List.getElem_cons_succ]
              refine wpAnyH_take (i := 11) (oi := _) (v := ?v11) rfl (by kernel_rfl) (by kernel_rfl) (by kernel_rfl) (fun _ _ _ h => h) (Or.inl ⟨by rfl, ?y11⟩) (by assumption) ?r11
              case y11 => (intro w hSw; (try dsimp only at hSw); (try simp only [List.getElem_toArray, List.getElem_cons_zero, List.getElem_cons_succ]); go_simp; try (with_reducible rfl))
              try simp only [Act.put, List.setIfInBounds_toArray, List.set_cons_zero, List.set_cons_succ, List.getElem_toArray, List.getElem_cons_zero, List.getElem_cons_succ]
              refine wpAnyH_ready (rs := [5]) (by kernel_rfl) (by simp) ?_
              refine AllReadyH.cons rfl (fun K hK => ?_) AllReadyH.nil
              try simp only [List.getElem_toArray, List.getElem_cons_zero, List.getElem_cons_succ]
              go_simp
              go_at_call 17
              refine (bytes_any w.heap.size A' c' (w.heap.size + 2) T f' _ (by exact I3.out.pb) (by exact I3.out.po) (by omega)).mono ?_
              rintro e w2 ⟨A2, c2, rfl, hown, halt⟩
              have OB2 := Lib.hid hown
              have I4 : Hid (Inv w w2 w.heap.size (w.heap.size + 1) T A' c' f' B' d' h') := by first | exact (Inv.drew1 I3.out).more halt | exact (I3.out.drewN _).more halt | exact I3.out.more halt
              have s0 : w2.cell? ⟨w.heap.size + 1, 0, none⟩ = some (.slice B' T.xs.length d') := I4.out.rb.cell 0
              have s1 : w2.cell? ⟨w.heap.size + 1, 1, none⟩ = some (.int .i64 T.safe) := I4.out.rb.cell 1
              have s4 : w2.cell? ⟨w.heap.size + 1, 4, none⟩ = some (.bool T.dead) := I4.out.rb.cell 4
              have v2 : (convert 23 9 (.slice B' T.xs.length d')).run Tryz.prog w2 = .ok (.string (strOf T.xs)) w2 := conv_run (Rb.of_own I4.out.ro) hBn
              have v3 : (convert 23 9 (.slice A2 T.xs.length c2)).run Tryz.prog w2 = .ok (.string (strOf T.xs)) w2 := conv_run (Rb.of_own OB2.out) (fun e => by subst e; exact OB2.out.none_.1)
              clear hown halt
              refine hK.out _ _ ?_ (fun hHeld => ?_)
              · (try dsimp only); simp [*]
              clear hK K
              try simp only [Act.put, List.setIfInBounds_toArray, List.set_cons_zero, List.set_cons_succ, List.getElem_toArray, List.getElem_cons_zero, List.getElem_cons_succ]
              refine wpAnyH_ready (rs := [6]) (by kernel_rfl) (by simp) ?_
              refine AllReadyH.cons rfl (fun K hK => ?_) AllReadyH.nil
              try simp only [List.getElem_toArray, List.getElem_cons_zero, List.getElem_cons_succ]
              go_simp
              refine hK.out _ _ ?_ (fun hHeld => ?_)
              · (try dsimp only); simp [*]
              clear hK K
              try simp only [Act.put, List.setIfInBounds_toArray, List.set_cons_zero, List.set_cons_succ, List.getElem_toArray, List.getElem_cons_zero, List.getElem_cons_succ]
              refine wpAnyH_take (i := 12) (oi := _) (v := ?v12) rfl (by kernel_rfl) (by kernel_rfl) (by kernel_rfl) (fun _ _ _ h => h) (Or.inl ⟨by rfl, ?y12⟩) (by assumption) ?r12
              case y12 => (intro w hSw; (try dsimp only at hSw); (try simp only [List.getElem_toArray, List.getElem_cons_zero, List.getElem_cons_succ]); go_simp; try (with_reducible rfl))
              try simp only [Act.put, List.setIfInBounds_toArray, List.set_cons_zero, List.set_cons_succ, List.getElem_toArray, List.getElem_cons_zero, List.getElem_cons_succ]
              refine wpAnyH_take (i := 13) (oi := _) (v := ?v13) rfl (by kernel_rfl) (by kernel_rfl) (by kernel_rfl) (fun _ _ _ h => h) (Or.inl ⟨by rfl, ?y13⟩) (by assumption) ?r13
              case y13 => (intro w hSw; (try dsimp only at hSw); (try simp only [List.getElem_toArray, List.getElem_cons_zero, List.getElem_cons_succ]); go_simp; try (with_reducible rfl))
              try simp only [Act.put, List.setIfInBounds_toArray, List.set_cons_zero, List.set_cons_succ, List.getElem_toArray, List.getElem_cons_zero, List.getElem_cons_succ]
              refine wpAnyH_take (i := 14) (oi := _) (v := ?v14) rfl (by kernel_rfl) (by kernel_rfl) (by kernel_rfl) (fun _ _ _ h => h) (Or.inl ⟨by rfl, ?y14⟩) (by assumption) ?r14
              case y14 => (intro w hSw; (try dsimp only at hSw); (try simp only [List.getElem_toArray, List.getElem_cons_zero, List.getElem_cons_succ]); go_simp; try (with_reducible rfl))
              try simp only [Act.put, List.setIfInBounds_toArray, List.set_cons_zero, List.set_cons_succ, List.getElem_toArray, List.getElem_cons_zero, List.getElem_cons_succ]
              refine wpAnyH_take (i := 15) (oi := _) (v := ?v15) rfl (by kernel_rfl) (by kernel_rfl) (by kernel_rfl) (fun _ _ _ h => h) (Or.inl ⟨by rfl, ?y15⟩) (by assumption) ?r15
              case y15 => (intro w hSw; (try dsimp only at hSw); (try simp only [List.getElem_toArray, List.getElem_cons_zero, List.getElem_cons_succ]); go_simp; try (with_reducible rfl))
              try simp only [Act.put, List.setIfInBounds_toArray, List.set_cons_zero, List.set_cons_succ, List.getElem_toArray, List.getElem_cons_zero, List.getElem_cons_succ]
              refine wpAnyH_take (i := 17) (oi := _) (v := ?v17) rfl (by kernel_rfl) (by kernel_rfl) (by kernel_rfl) (fun _ _ _ h => h) (Or.inl ⟨by rfl, ?y17⟩) (by assumption) ?r17
              case y17 => (intro w hSw; (try dsimp only at hSw); (try simp only [List.getElem_toArray, List.getElem_cons_zero, List.getElem_cons_succ]); go_simp; try (with_reducible rfl))
              try simp only [Act.put, List.setIfInBounds_toArray, List.set_cons_zero, List.set_cons_succ, List.getElem_toArray, List.getElem_cons_zero, List.getElem_cons_succ]
              refine wpAnyH_take (i := 18) (oi := _) (v := ?v18) rfl (by kernel_rfl) (by kernel_rfl) (by kernel_rfl) (fun _ _ _ h => h) (Or.inl ⟨by rfl, ?y18⟩) (by assumption) ?r18
              case y18 => (intro w hSw; (try dsimp only at hSw); (try simp only [List.getElem_toArray, List.getElem_cons_zero, List.getElem_cons_succ]); go_simp; try (with_reducible rfl))
              try simp only [Act.put, List.setIfInBounds_toArray, List.set_cons_zero, List.set_cons_succ, List.getElem_toArray, List.getElem_cons_zero, List.getElem_cons_succ]
              refine wpAnyH_take (i := 19) (oi := _) (v := ?v19) rfl (by kernel_rfl) (by kernel_rfl) (by kernel_rfl) (fun _ _ _ h => h) (Or.inl ⟨by rfl, ?y19⟩) (by assumption) ?r19
              case y19 => (intro w hSw; (try dsimp only at hSw); (try simp only [List.getElem_toArray, List.getElem_cons_zero, List.getElem_cons_succ]); go_simp; try (with_reducible rfl))
              try simp only [Act.put, List.setIfInBounds_toArray, List.set_cons_zero, List.set_cons_succ, List.getElem_toArray, List.getElem_cons_zero, List.getElem_cons_succ]
              refine wpAnyH_take (i := 20) (oi := _) (v := ?v20) rfl (by kernel_rfl) (by kernel_rfl) (by kernel_rfl) (fun _ _ _ h => h) (Or.inl ⟨by rfl, ?y20⟩) (by assumption) ?r20
              case y20 => (intro w hSw; (try dsimp only at hSw); (try simp only [List.getElem_toArray, List.getElem_cons_zero, List.getElem_cons_succ]); go_simp; try (with_reducible rfl))
              try simp only [Act.put, List.setIfInBounds_toArray, List.set_cons_zero, List.set_cons_succ, List.getElem_toArray, List.getElem_cons_zero, List.getElem_cons_succ]
              refine wpAnyH_ready (rs := [16]) (by kernel_rfl) (by simp) ?_
              refine AllReadyH.cons rfl (fun K hK => ?_) AllReadyH.nil
              try simp only [List.getElem_toArray, List.getElem_cons_zero, List.getElem_cons_succ]
              go_simp
              go_at_call 18
              refine (psafe_any w.heap.size (.slice A' T.xs.length c') T f' _ (by exact I4.out.pb)).mono ?_
              rintro e w3 ⟨rfl, rfl⟩
              refine hK.out _ _ ?_ (fun hHeld => ?_)
              · (try dsimp only); simp [*]
              clear hK K
              try simp only [Act.put, List.setIfInBounds_toArray, List.set_cons_zero, List.set_cons_succ, List.getElem_toArray, List.getElem_cons_zero, List.getElem_cons_succ]
              refine wpAnyH_take (i := 21) (oi := _) (v := ?v21) rfl (by kernel_rfl) (by kernel_rfl) (by kernel_rfl) (fun _ _ _ h => h) (Or.inl ⟨by rfl, ?y21⟩) (by assumption) ?r21
              case y21 => (intro w hSw; (try dsimp only at hSw); (try simp only [List.getElem_toArray, List.getElem_cons_zero, List.getElem_cons_succ]); go_simp; try (with_reducible rfl))
              try simp only [Act.put, List.setIfInBounds_toArray, List.set_cons_zero, List.set_cons_succ, List.getElem_toArray, List.getElem_cons_zero, List.getElem_cons_succ]
              refine wpAnyH_take (i := 22) (oi := _) (v := ?v22) rfl (by kernel_rfl) (by kernel_rfl) (by kernel_rfl) (fun _ _ _ h => h) (Or.inl ⟨by rfl, ?y22⟩) (by assumption) ?r22
              case y22 => (intro w hSw; (try dsimp only at hSw); (try simp only [List.getElem_toArray, List.getElem_cons_zero, List.getElem_cons_succ]); go_simp; try (with_reducible rfl))
              try simp only [Act.put, List.setIfInBounds_toArray, List.set_cons_zero, List.set_cons_succ, List.getElem_toArray, List.getElem_cons_zero, List.getElem_cons_succ]
              refine wpAnyH_take (i := 23) (oi := _) (v := ?v23) rfl (by kernel_rfl) (by kernel_rfl) (by kernel_rfl) (fun _ _ _ h => h) (Or.inl ⟨by rfl, ?y23⟩) (by assumption) ?r23
              case y23 => (intro w hSw; (try dsimp only at hSw); (try simp only [List.getElem_toArray, List.getElem_cons_zero, List.getElem_cons_succ]); go_simp; try (with_reducible rfl))
              try simp only [Act.put, List.setIfInBounds_toArray, List.set_cons_zero, List.set_cons_succ, List.getElem_toArray, List.getElem_cons_zero, List.getElem_cons_succ]
              refine wpAnyH_take (i := 24) (oi := _) (v := ?v24) rfl (by kernel_rfl) (by kernel_rfl) (by kernel_rfl) (fun _ _ _ h => h) (Or.inl ⟨by rfl, ?y24⟩) (by assumption) ?r24
              case y24 => (intro w hSw; (try dsimp only at hSw); (try simp only [List.getElem_toArray, List.getElem_cons_zero, List.getElem_cons_succ]); go_simp; try (with_reducible rfl))
              try simp only [Act.put, List.setIfInBounds_toArray, List.set_cons_zero, List.set_cons_succ, List.getElem_toArray, List.getElem_cons_zero, List.getElem_cons_succ]
              refine wpAnyH_take (i := 26) (oi := _) (v := ?v26) rfl (by kernel_rfl) (by kernel_rfl) (by kernel_rfl) (fun _ _ _ h => h) (Or.inl ⟨by rfl, ?y26⟩) (by assumption) ?r26
              case y26 => (intro w hSw; (try dsimp only at hSw); (try simp only [List.getElem_toArray, List.getElem_cons_zero, List.getElem_cons_succ]); go_simp; try (with_reducible rfl))
              try simp only [Act.put, List.setIfInBounds_toArray, List.set_cons_zero, List.set_cons_succ, List.getElem_toArray, List.getElem_cons_zero, List.getElem_cons_succ]
              refine wpAnyH_take (i := 27) (oi := _) (v := ?v27) rfl (by kernel_rfl) (by kernel_rfl) (by kernel_rfl) (fun _ _ _ h => h) (Or.inl ⟨by rfl, ?y27⟩) (by assumption) ?r27
              case y27 => (intro w hSw; (try dsimp only at hSw); (try simp only [List.getElem_toArray, List.getElem_cons_zero, List.getElem_cons_succ]); go_simp; try (with_reducible rfl))
              try simp only [Act.put, List.setIfInBounds_toArray, List.set_cons_zero, List.set_cons_succ, List.getElem_toArray, List.getElem_cons_zero, List.getElem_cons_succ]
              refine wpAnyH_take (i := 28) (oi := _) (v := ?v28) rfl (by kernel_rfl) (by kernel_rfl) (by kernel_rfl) (fun _ _ _ h => h) (Or.inl ⟨by rfl, ?y28⟩) (by assumption) ?r28
              case y28 => (intro w hSw; (try dsimp only at hSw); (try simp only [List.getElem_toArray, List.getElem_cons_zero, List.getElem_cons_succ]); go_simp; try (with_reducible rfl))
              try simp only [Act.put, List.setIfInBounds_toArray, List.set_cons_zero, List.set_cons_succ, List.getElem_toArray, List.getElem_cons_zero, List.getElem_cons_succ]
              refine wpAnyH_take (i := 29) (oi := _) (v := ?v29) rfl (by kernel_rfl) (by kernel_rfl) (by kernel_rfl) (fun _ _ _ h => h) (Or.inl ⟨by rfl, ?y29⟩) (by assumption) ?r29
              case y29 => (intro w hSw; (try dsimp only at hSw); (try simp only [List.getElem_toArray, List.getElem_cons_zero, List.getElem_cons_succ]); go_simp; try (with_reducible rfl))
              try simp only [Act.put, List.setIfInBounds_toArray, List.set_cons_zero, List.set_cons_succ, List.getElem_toArray, List.getElem_cons_zero, List.getElem_cons_succ]
              refine wpAnyH_ready (rs := [25]) (by kernel_rfl) (by simp) ?_
              refine AllReadyH.cons rfl (fun K hK => ?_) AllReadyH.nil
              try simp only [List.getElem_toArray, List.getElem_cons_zero, List.getElem_cons_succ]
              go_simp
              go_at_call 19
              refine (pdown_any w.heap.size (.slice A' T.xs.length c') T f' _ (by exact I4.out.pb)).mono ?_
              rintro e w3 ⟨rfl, rfl⟩
              refine hK.out _ _ ?_ (fun hHeld => ?_)
              · (try dsimp only); simp [*]
              clear hK K
              try simp only [Act.put, List.setIfInBounds_toArray, List.set_cons_zero, List.set_cons_succ, List.getElem_toArray, List.getElem_cons_zero, List.getElem_cons_succ]
              refine wpAnyH_take (i := 30) (oi := _) (v := ?v30) rfl (by kernel_rfl) (by kernel_rfl) (by kernel_rfl) (fun _ _ _ h => h) (Or.inl ⟨by rfl, ?y30⟩) (by assumption) ?r30
              case y30 => (intro w hSw; (try dsimp only at hSw); (try simp only [List.getElem_toArray, List.getElem_cons_zero, List.getElem_cons_succ]); go_simp; try (with_reducible rfl))
              try simp only [Act.put, List.setIfInBounds_toArray, List.set_cons_zero, List.set_cons_succ, List.getElem_toArray, List.getElem_cons_zero, List.getElem_cons_succ]
              refine wpAnyH_take (i := 31) (oi := _) (v := ?v31) rfl (by kernel_rfl) (by kernel_rfl) (by kernel_rfl) (fun _ _ _ h => h) (Or.inl ⟨by rfl, ?y31⟩) (by assumption) ?r31
              case y31 => (intro w hSw; (try dsimp only at hSw); (try simp only [List.getElem_toArray, List.getElem_cons_zero, List.getElem_cons_succ]); go_simp; try (with_reducible rfl))
              try simp only [Act.put, List.setIfInBounds_toArray, List.set_cons_zero, List.set_cons_succ, List.getElem_toArray, List.getElem_cons_zero, List.getElem_cons_succ]
              refine wpAnyH_done (by kernel_rfl) ?_ _
              go_wp2_with fail
              go_meet
              first | exact ⟨rfl, I4⟩ | exact ⟨rfl, I4.out.drewN _⟩
            case rest =>
              obtain ⟨rfl, I5⟩ := hcut
              go_wp2
              go_roundw
              case rel => exact ⟨k + 1, T, A', c', f', B', d', h', by omega, by go_num, I5⟩
              case measure => simp [intOf]; omega
      · go_wp2_with fail
        refine (hknow wr).mono ?_
        rintro e w2 ⟨rfl, hb2⟩
        go_wp2
        go_ret
        exact ⟨rfl, hI.out.be.trans (hb2.mono hI.out.be.size)⟩
end Go.Proofs.YthfmallebojjpaaGreatDoor.Dk
