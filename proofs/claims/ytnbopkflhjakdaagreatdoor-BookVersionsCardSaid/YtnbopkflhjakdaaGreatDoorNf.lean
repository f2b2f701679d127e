/-
  A book's write where there is no room; a change (Point, Drop).
  And: A book's change: Point and Drop, refused or done. A book's change that is not refused: done, or no room for it. A whole struct stored and loaded: one step, its cells whatever (turned from the texts of ToolSpecs). A book's Put that is done. A book is opened from a disk that holds a journal.
-/
import Derived.Test.YtnbopkflhjakdaaGreatDoorNe
import Derived.Deep.WholeRow
namespace Go.Proofs.YtnbopkflhjakdaaGreatDoor.Oc
open Go Go.RowKit Dk

set_option maxHeartbeats 4000000 in
set_option maxRecDepth 100000 in
theorem write_space {w : World} {g gd bm b0 c : Nat} {A : Option Addr} {S : St} {f : Int} {L : List Ly} (h : Bw w g gd bm b0 A c S f L) {n : Nt} (hn : NtOk n) (lv : Int) {X : Option Addr} {lx cx : Nat} {far : Nat → Prop} (hx : n.kind = 1 → RowIs w far (.slice X lx cx) n.ms) (hfit : S.room < S.xs.length + (recN n).length) :
    Calls Tryz.prog 23 #[.pointer (some ⟨g, 0, none⟩), .agg (noteV n.kind n.name n.version lv (.slice X lx cx))] w fun e w' => e = .returned (.int .i64 14) ∧ Below w.heap.size w w' := by
  have HBW := Lib.hid h
  have HOK := Lib.hid hn
  have HX := Lib.hid hx
  have HRL := Lib.hid (rec_len hn)
  have HFIT := Lib.hid hfit
  clear h hn hx hfit
  go_enter Tryz.func23, Tryz.ntmps23
  unfold noteV
  go_upto_region 1 with fail
  have HN : Hid (Blk (w.alloc (.cells #[.int .i64 n.kind, .string n.name, .int .i64 (n.version : Int), .int .i64 lv, .slice X lx cx] 93)) w.heap.size 93 (noteV n.kind n.name n.version lv (.slice X lx cx))) := Lib.hid (Blk.new w _ _)
  have HB : Hid (Below w.heap.size w (w.alloc (.cells #[.int .i64 n.kind, .string n.name, .int .i64 (n.version : Int), .int .i64 lv, .slice X lx cx] 93))) := Lib.hid (Below.new1 w _)
  generalize w.alloc (.cells #[.int .i64 n.kind, .string n.name, .int .i64 (n.version : Int), .int .i64 lv, .slice X lx cx] 93) = W1 at HN HB ⊢
  have HBW1 := Lib.hid (bw_below HBW.out HB.out)
  have HX1 : Hid (n.kind = 1 → RowIs W1 far (.slice X lx cx) n.ms) := Lib.hid fun hk => (HX.out hk).alt (alt_of_below (p := fun _ => False) HB.out) (fun _ _ h => h.elim) (fun _ _ h => h)
  obtain ⟨⟨n0, n1, n2, n3, n4⟩, nz⟩ := cells5v HN.out
  obtain ⟨⟨c0, c1, c2⟩, cz⟩ := cells3 HBW1.out.bk.blk
  obtain ⟨⟨d0, d1, d2, d3, d4, d5⟩, dz⟩ := cells6 HBW1.out.dk
  have hup := HBW.out.up
  rw [hup] at d3
  clear hup
  go_upto_region 5 with (go_at_call 49; refine (record_any HOK.out lv HX1.out).mono ?_; rintro e w2 ⟨A2, L2, c2', rfl, ho2, hb2⟩; have HO2 := Lib.hid ho2; have HB2 := Lib.hid hb2; clear ho2 hb2)
  obtain ⟨hL2, hc2⟩ := own_cap HO2.out
  subst hL2
  have HBW2 := Lib.hid (bw_below HBW1.out HB2.out)
  have HL2 : Hid (0 < (recN n).length ∧ (recN n).length ≤ 20000) := Lib.hid ⟨HRL.out.2, HRL.out.1⟩
  obtain ⟨rl, hrl⟩ : ∃ k, k = (recN n).length := ⟨_, rfl⟩
  have HRLE := Lib.hid hrl
  have hfit := HFIT.out
  have hrl1 := HRL.out.1
  have hrl2 := HRL.out.2
  rw [← hrl] at hc2 hfit hrl1 hrl2 ⊢
  clear hrl
  obtain ⟨⟨c0, c1, c2⟩, cz⟩ := cells3 HBW2.out.bk.blk
  obtain ⟨⟨d0, d1, d2, d3, d4, d5⟩, dz⟩ := cells6 HBW2.out.dk
  have hup := HBW.out.up
  rw [hup] at d3
  clear hup
  have hroom := HBW.out.ok.2.1
  have hg : decide (((S.room : Int) - (S.xs.length : Int)) < (rl : Int)) = true := by simp; omega
  go_quiet (fail)
  go_wp2
  go_ret
  exact ⟨rfl, by first | exact below_drewN (HB.out.trans (HB2.out.mono HB.out.size)) _ | exact HB.out.trans (HB2.out.mono HB.out.size)⟩
  exfalso
  rename_i h _ _ _ _
  have hx := HBW.out.ok.1
  unfold wrap64 at h
  omega
end Go.Proofs.YtnbopkflhjakdaaGreatDoor.Oc
namespace Go.Proofs.YtnbopkflhjakdaaGreatDoor.Oc
open Go Go.RowKit Dk

/- A book all of whose blocks are new since a base. -/
structure Bz (w : World) (B g gd bm : Nat) (A : Option Addr) (c : Nat) (S : St) (f : Int) (L : List Ly) : Prop where
  bw : Bw w g gd bm B A c S f L
  hg : B ≤ g ∧ B ≤ gd ∧ B ≤ bm
  hl : ∀ l ∈ L, B ≤ l.g ∧ B ≤ l.bv
theorem Bz.below {w w' : World} {B g gd bm c : Nat} {A : Option Addr} {S : St} {f : Int} {L : List Ly} (h : Bz w B g gd bm A c S f L) (hb : Below w.heap.size w w') : Bz w' B g gd bm A c S f L := ⟨bw_below h.bw hb, h.hg, h.hl⟩
theorem Bz.D {w : World} {B g gd bm c : Nat} {A : Option Addr} {S : St} {f : Int} {L : List Ly} (h : Bz w B g gd bm A c S f L) : ∀ k, (Value.slice A S.xs.length c).ownBlock = some k → B ≤ k ∧ k < w.heap.size := fun _ hk => h.bw.own.base hk
theorem Bz.mt {w : World} {B g gd bm c : Nat} {A : Option Addr} {S : St} {f : Int} {L : List Ly} (h : Bz w B g gd bm A c S f L) {k : Nat} (hk : Mt g gd bm (Value.slice A S.xs.length c).ownBlock L k) : B ≤ k := by
  rcases hk with e | e | e | e | e | e
  · rw [e]; exact h.hg.1
  · rw [e]; exact h.hg.2.1
  · exact (h.D k e.symm).1
  · rw [e]; exact h.hg.2.2
  · obtain ⟨l, hl, rfl⟩ := List.mem_map.1 e
    exact (h.hl l hl).1
  · obtain ⟨l, hl, rfl⟩ := List.mem_map.1 e
    exact (h.hl l hl).2
theorem Alt.toBelow {w w' : World} {B : Nat} {p : Nat → Prop} (h : Alt w w' p) (hp : ∀ k, k < w.heap.size → p k → B ≤ k) (hB : B ≤ w.heap.size) : Below B w w' := ⟨h.os, h.tape, h.output, h.size, fun k hk => h.block k (by omega) fun hpk => by have := hp k (by omega) hpk; omega⟩
theorem Below.low {w w' : World} {B : Nat} (h : Below w.heap.size w w') (hB : B ≤ w.heap.size) : Below B w w' := h.mono hB
/- write, where there is room. -/
theorem write_b {w : World} {B g gd bm c : Nat} {A : Option Addr} {S : St} {f : Int} {L : List Ly} (h : Bz w B g gd bm A c S f L) {n : Nt} (hn : NtOk n) (lv : Int) {X : Option Addr} {lx cx : Nat} (hx : n.kind = 1 → RowIs w (Mt g gd bm (Value.slice A S.xs.length c).ownBlock L) (.slice X lx cx) n.ms) (hfit : S.xs.length + (recN n).length ≤ S.room) :
    Calls Tryz.prog 23 #[.pointer (some ⟨g, 0, none⟩), .agg (noteV n.kind n.name n.version lv (.slice X lx cx))] w fun e w' => e = .returned (.int .i64 0) ∧ ∃ A' c' f', Bz w' B g gd bm A' c' (addS S (recN n)) f' L ∧ Below B w w' ∧ (n.kind = 1 → RowIs w' (Mt g gd bm (Value.slice A' (addS S (recN n)).xs.length c').ownBlock L) (.slice X lx cx) n.ms) ∧ Alt w w' (Mt g gd bm (Value.slice A S.xs.length c).ownBlock L) := by
  refine (write_fits h.bw hn lv hx hfit).mono ?_
  rintro e w' ⟨rfl, A', c', f', hb, ha, hd⟩
  refine ⟨rfl, A', c', f', ⟨hb, h.hg, h.hl⟩, Alt.toBelow ha ?_ h.bw.b0l, fun hk => (hx hk).alt ha ?_ ?_, ha.mono ?_⟩
  · rintro k _ (e | e | e)
    · rw [e]; exact h.hg.1
    · rw [e]; exact h.hg.2.1
    · exact (h.D k e).1
  · rintro k _ (e | e | e)
    · exact .inl e
    · exact .inr (.inl e)
    · exact .inr (.inr (.inl e.symm))
  · rintro k hk (e | e | e | e | e | e)
    · exact .inl e
    · exact .inr (.inl e)
    · rcases hd with h1 | h1
      · exact .inr (.inr (.inl (by rw [← h1]; exact e)))
      · have := h1 k e.symm; omega
    · exact .inr (.inr (.inr (.inl e)))
    · exact .inr (.inr (.inr (.inr (.inl e))))
    · exact .inr (.inr (.inr (.inr (.inr e))))
  · rintro k (e | e | e)
    · exact .inl e
    · exact .inr (.inl e)
    · exact .inr (.inr (.inl e.symm))
theorem Bz.mtlt {w : World} {B g gd bm c : Nat} {A : Option Addr} {S : St} {f : Int} {L : List Ly} (h : Bz w B g gd bm A c S f L) {k : Nat} (hk : Mt g gd bm (Value.slice A S.xs.length c).ownBlock L k) : k < w.heap.size := mt_lt h.bw.bk (fun k hk => (h.D k hk).2) h.bw.dk.lt hk
/- perform, within a book. -/
theorem perform_b {w : World} {B g gd bm c : Nat} {A : Option Addr} {S : St} {f : Int} {L : List Ly} (h : Bz w B g gd bm A c S f L) (hw : WF (L.map Ly.s)) {n : Nt} (hm : mayC (L.map Ly.s) n) (hv : n.version ≤ 100000) (lv : Int) (x : Value) (hx : n.kind = 1 → RowIs w (Mt g gd bm (Value.slice A S.xs.length c).ownBlock L) x n.ms) :
    Calls Tryz.prog 24 #[.pointer (some ⟨g, 0, none⟩), .agg (noteV n.kind n.name n.version lv x)] w fun e w' => e = .returned (.tuple #[]) ∧ ∃ L', Bz w' B g gd bm A c S f L' ∧ L'.map Ly.s = pfC (L.map Ly.s) n ∧ Below B w w' ∧ Alt w w' (Mb bm L) := by
  have hgd : gd < w.heap.size := h.bw.dk.lt
  refine (perform_any h.bw.bk (may_con hw hm) lv x hv hx (stl_con hw).2.2.2 (fun k hk => (h.D k hk).2) hgd).mono ?_
  rintro e w' ⟨rfl, L', hpf, hb, ha, hnw⟩
  have hbl : Below B w w' := Alt.toBelow ha (fun k _ hk => h.mt (Mb.mt hk g gd _)) h.bw.b0l
  have ne1 : ∀ {k : Nat} {t : TypeId} {cs : Array Value}, Blk w k t cs → t ≠ 122 → ¬ Mb bm L k := by
    rintro k t cs hk ht (e | e | e)
    · exact h.bw.bk.map.ne_blk hk e.symm
    · obtain ⟨l, hl, rfl⟩ := List.mem_map.1 e
      exact Blk.ne_ hk (h.bw.bk.sh l hl).1 ht rfl
    · obtain ⟨l, hl, rfl⟩ := List.mem_map.1 e
      exact (h.bw.bk.sh l hl).2.1.ne_blk hk rfl
  refine ⟨rfl, L', ⟨⟨hb, h.bw.dk.kept ha (ne1 h.bw.dk (by decide)), ?_, h.bw.ok, h.bw.fu, h.bw.up, h.bw.sf, Nat.le_trans h.bw.b0l ha.size⟩, h.hg, fun l hl => ?_⟩, pf_con hpf, hbl, ha⟩
  · refine h.bw.own.keep ha fun k hk => ?_
    rcases h.bw.own.2 with ⟨e, _⟩ | ⟨g', cap, cur, e, _, hh, _⟩
    · rw [e] at hk; cases hk
    · have e2 : g' = k := by rw [e] at hk; simpa [Value.ownBlock] using hk
      subst e2
      exact ne1 (show Blk w g' 5 _ from hh) (by decide)
  · rcases hnw l hl with ⟨l0, h0, e1, e2⟩ | ⟨h1, h2⟩
    · rw [← e1, ← e2]; exact h.hl l0 h0
    · exact ⟨Nat.le_trans h.bw.b0l h1, Nat.le_trans h.bw.b0l h2⟩
set_option maxHeartbeats 4000000 in
set_option maxRecDepth 100000 in
theorem change_ref {w : World} {B g gd bm c : Nat} {A : Option Addr} {S : St} {f : Int} {L : List Ly} (h : Bz w B g gd bm A c S f L) (kind : Int) (name : ByteArray) (version : Nat) (hk : kind = 2 ∨ kind = 3) (hv : version ≤ 1000000) {r : Int} (hr : refC (L.map Ly.s) kind name version = r) (hr0 : (r == 0) = false) :
    Calls Tryz.prog 17 #[.pointer (some ⟨g, 0, none⟩), .agg (noteV kind name version 0 (.slice none 0 0))] w fun e w' => e = .returned (.int .i64 r) ∧ Below w.heap.size w w' := by
  have HBW := Lib.hid h
  have HR : Hid (refOf L kind name version = r) := Lib.hid (by rw [← ref_con]; exact hr)
  have HK := Lib.hid hk
  clear h hr hk
  go_enter Tryz.func17, Tryz.ntmps17
  unfold noteV
  go_upto_region 1 with fail
  have HN : Hid (Blk (w.alloc (.cells #[.int .i64 kind, .string name, .int .i64 (version : Int), .int .i64 0, .slice none 0 0] 93)) w.heap.size 93 (noteV kind name version 0 (.slice none 0 0))) := Lib.hid (Blk.new w _ _)
  have HB : Hid (Below w.heap.size w (w.alloc (.cells #[.int .i64 kind, .string name, .int .i64 (version : Int), .int .i64 0, .slice none 0 0] 93))) := Lib.hid (Below.new1 w _)
  generalize w.alloc (.cells #[.int .i64 kind, .string name, .int .i64 (version : Int), .int .i64 0, .slice none 0 0] 93) = W1 at HN HB ⊢
  obtain ⟨⟨n0, n1, n2, n3, n4⟩, nz⟩ := cells5v HN.out
  go_wp2_with (go_at_call 35; refine (refuses_any (bk_below HBW.out.bw.bk HB.out) kind name version 0 (.slice none 0 0) HK.out (by omega) rfl).mono ?_; rintro e w5 ⟨rfl, hb5⟩; rw [HR.out]; have HB5 := Lib.hid hb5; clear hb5)
  go_ret
  exact ⟨rfl, HB.out.trans (HB5.out.mono HB.out.size)⟩
end Go.Proofs.YtnbopkflhjakdaaGreatDoor.Oc
namespace Go.Proofs.YtnbopkflhjakdaaGreatDoor.Oc
open Go Go.RowKit Dk

set_option maxHeartbeats 4000000 in
set_option maxRecDepth 100000 in
theorem change_done {w : World} {B g gd bm c : Nat} {A : Option Addr} {S : St} {f : Int} {L : List Ly} (h : Bz w B g gd bm A c S f L) (hw : WF (L.map Ly.s)) {n : Nt} (hn : NtOk n) (hk : n.kind = 2 ∨ n.kind = 3) (hr : refC (L.map Ly.s) n.kind n.name n.version = 0) (hfit : S.xs.length + (recN n).length ≤ S.room) :
    Calls Tryz.prog 17 #[.pointer (some ⟨g, 0, none⟩), .agg (noteV n.kind n.name n.version 0 (.slice none 0 0))] w fun e w' => e = .returned (.int .i64 0) ∧ ∃ A' c' f' L', Bz w' B g gd bm A' c' (addS S (recN n)) f' L' ∧ L'.map Ly.s = pfC (L.map Ly.s) n ∧ Below B w w' := by
  have HBW := Lib.hid h
  have HR : Hid (refOf L n.kind n.name n.version = 0) := Lib.hid (by rw [← ref_con]; exact hr)
  have HM : Hid (mayC (L.map Ly.s) n) := Lib.hid (.inr ⟨hk, hr⟩)
  have HK := Lib.hid hk
  have HK1 : Hid (∀ (W : World) (far : Nat → Prop) (x : Value), n.kind = 1 → RowIs W far x n.ms) := Lib.hid fun _ _ _ e => by rw [e] at hk; rcases hk with e | e <;> cases e
  have HW := Lib.hid hw
  have HOK := Lib.hid hn
  have HFIT := Lib.hid hfit
  have hver := hn.ver
  clear h hr hk hw hn hfit
  go_enter Tryz.func17, Tryz.ntmps17
  unfold noteV
  go_upto_region 1 with fail
  have HN : Hid (Blk (w.alloc (.cells #[.int .i64 n.kind, .string n.name, .int .i64 (n.version : Int), .int .i64 0, .slice none 0 0] 93)) w.heap.size 93 (noteV n.kind n.name n.version 0 (.slice none 0 0))) := Lib.hid (Blk.new w _ _)
  have HB : Hid (Below w.heap.size w (w.alloc (.cells #[.int .i64 n.kind, .string n.name, .int .i64 (n.version : Int), .int .i64 0, .slice none 0 0] 93))) := Lib.hid (Below.new1 w _)
  generalize w.alloc (.cells #[.int .i64 n.kind, .string n.name, .int .i64 (n.version : Int), .int .i64 0, .slice none 0 0] 93) = W1 at HN HB ⊢
  obtain ⟨⟨n0, n1, n2, n3, n4⟩, nz⟩ := cells5v HN.out
  have HNM : Hid (¬ Mt g gd bm (Value.slice A S.xs.length c).ownBlock L w.heap.size) := Lib.hid fun hm => Nat.lt_irrefl _ (HBW.out.mtlt hm)
  go_wp2_with (first
    | (go_at_call 35; refine (refuses_any (bk_below HBW.out.bw.bk HB.out) n.kind n.name n.version 0 (.slice none 0 0) HK.out (by omega) rfl).mono ?_; rintro e w5 ⟨rfl, hb5⟩; rw [HR.out]; have HB5 := Lib.hid (HB.out.trans (hb5.mono HB.out.size)); obtain ⟨⟨m0, m1, m2, m3, m4⟩, mz⟩ := cells5v (blk_below HN.out hb5); have HN5 := Lib.hid (blk_below HN.out hb5); clear hb5)
    | (go_at_call 23; refine (write_b (HBW.out.below HB5.out) HOK.out 0 (X := none) (lx := 0) (cx := 0) (HK1.out _ _ _) HFIT.out).mono ?_; rintro e w6 ⟨rfl, A', c', f', hz6, hb6, _, ha6⟩; dsimp only; obtain ⟨⟨k0, k1, k2, k3, k4⟩, kz⟩ := cells5v (HN5.out.kept ha6 HNM.out); have HZ6 := Lib.hid hz6; have HB6 := Lib.hid hb6; clear hz6 hb6 ha6)
    | (go_at_call 24; refine (perform_b HZ6.out HW.out HM.out (by omega) 0 (.slice none 0 0) (HK1.out _ _ _)).mono ?_; rintro e w7 ⟨rfl, L', hz7, hc7, hb7, _⟩; have HZ7 := Lib.hid hz7; have HC7 := Lib.hid hc7; have HB7 := Lib.hid hb7; clear hz7 hc7 hb7))
  go_ret
  exact ⟨rfl, A', c', f', L', HZ7.out, HC7.out, (HB5.out.mono HBW.out.bw.b0l).trans (HB6.out.trans HB7.out)⟩
end Go.Proofs.YtnbopkflhjakdaaGreatDoor.Oc
namespace Go.Proofs.YtnbopkflhjakdaaGreatDoor.Oc
open Go Go.RowKit Dk

theorem setRow_alt {w : World} {g : Nat} {old cs : Array Value} {t : TypeId} (hg : w.heap[g]? = some (.cells old t (0, 0))) : Blk (w.setRow g cs) g t cs ∧ Alt w (w.setRow g cs) (fun k => k = g) ∧ (w.setRow g cs).heap.size = w.heap.size := by
  refine ⟨?_, ⟨rfl, rfl, rfl, by simp [World.setRow], fun k _ hk => ?_⟩, by simp [World.setRow]⟩
  · show (w.heap.modify g _)[g]? = _
    rw [Array.getElem?_modify, if_pos rfl, hg]
    rfl
  · show (w.heap.modify g _)[k]? = _
    rw [Array.getElem?_modify, if_neg (fun e => hk e.symm)]
section
variable {ops : Array Oper} {o : Oper} {a : Act} {K : Act → World → Prop} {Q : Exit → Act → World → Prop}
theorem wp_store_row (w : World) (t : TypeId) (p v : Operand) (ho : o.op = .store t p v) (g : Nat) (old cs : Array Value) (t' : TypeId) (hp : a.eval p = .pointer (some ⟨g, 0, none⟩)) (hv : a.eval v = .agg cs)
    (hg : w.heap[g]? = some (.cells old t' (0, 0))) (hi : (Tryz.prog.info? t).map (·.size) = some cs.size) (hs : old.size = cs.size) (h1 : cs.all (·.oneCell') = true)
    (hK : ∀ w', Blk w' g t' cs → Alt w w' (fun k => k = g) → w'.heap.size = w.heap.size → K (a.put o.dst undef) w') : Oper.wp Tryz.prog o a w K Q := by
  have hrun := run_storeVar_row (P := Tryz.prog) w g t' t old cs hg hi hs h1
  obtain ⟨h2, h3, h4⟩ := setRow_alt (cs := cs) hg
  unfold Oper.wp
  simp [execOp, ho, hp, hv, Instr.storeAt, Instr.sureAddr, hrun, Result.andThen]
  exact hK _ h2 h3 h4
theorem wp_load_row (w : World) (t : TypeId) (p : Operand) (ho : o.op = .load t p) (g : Nat) (cs : Array Value) (t' : TypeId) (fr : Nat × Nat) (d : TypeDesc) (hp : a.eval p = .pointer (some ⟨g, 0, none⟩))
    (hg : w.heap[g]? = some (.cells cs t' fr)) (hu : Tryz.prog.underlying t = some d) (hd : (match d with | .struct _ | .array _ _ => true | _ => false) = true) (hi : (Tryz.prog.info? t).map (·.size) = some cs.size)
    (hK : K (a.put o.dst (.agg cs)) w) : Oper.wp Tryz.prog o a w K Q := by
  have hrun := run_loadVar_row (P := Tryz.prog) w g t' t cs fr d hg hu (by cases d <;> first | rfl | cases hd) hi
  unfold Oper.wp
  simp [execOp, ho, hp, Instr.loadAt, Instr.sureAddr, hrun, Result.andThen]
  exact hK
theorem step_store_row {E : Prop} (w : World) (hgd : o.guard = none) (t : TypeId) (p v : Operand) (ho : o.op = .store t p v) (g : Nat) (old cs : Array Value) (t' : TypeId) (hp : a.eval p = .pointer (some ⟨g, 0, none⟩)) (hv : a.eval v = .agg cs)
    (hg : w.heap[g]? = some (.cells old t' (0, 0))) (hi : (Tryz.prog.info? t).map (·.size) = some cs.size) (hs : old.size = cs.size) (h1 : cs.all (·.oneCell') = true)
    (hK : ∀ w', Blk w' g t' cs → Alt w w' (fun k => k = g) → w'.heap.size = w.heap.size → K (a.put o.dst undef) w') : if Region.wanted o (yielded ops a.tmps) = true then Oper.wp Tryz.prog o a w K Q else E := by
  have hw : Region.wanted o (yielded ops a.tmps) = true := by simp [Region.wanted, hgd]
  rw [if_pos hw]
  exact wp_store_row w t p v ho g old cs t' hp hv hg hi hs h1 hK
theorem wpList_store_row {rest : List Oper} (w : World) (hgd : o.guard = none) (t : TypeId) (p v : Operand) (ho : o.op = .store t p v) (g : Nat) (old cs : Array Value) (t' : TypeId) (hp : a.eval p = .pointer (some ⟨g, 0, none⟩)) (hv : a.eval v = .agg cs)
    (hg : w.heap[g]? = some (.cells old t' (0, 0))) (hi : (Tryz.prog.info? t).map (·.size) = some cs.size) (hs : old.size = cs.size) (h1 : cs.all (·.oneCell') = true)
    (hK : ∀ w', Blk w' g t' cs → Alt w w' (fun k => k = g) → w'.heap.size = w.heap.size → wpList Tryz.prog ops Q rest (a.put o.dst undef) w') : wpList Tryz.prog ops Q (o :: rest) a w := by
  refine wpList_plain hgd fun K' hK' => ?_
  exact wp_store_row w t p v ho g old cs t' hp hv hg hi hs h1 fun w' h2 h3 h4 => hK' _ _ (hK w' h2 h3 h4)
theorem wpList_load_row {rest : List Oper} (w : World) (hgd : o.guard = none) (t : TypeId) (p : Operand) (ho : o.op = .load t p) (g : Nat) (cs : Array Value) (t' : TypeId) (fr : Nat × Nat) (d : TypeDesc) (hp : a.eval p = .pointer (some ⟨g, 0, none⟩))
    (hg : w.heap[g]? = some (.cells cs t' fr)) (hu : Tryz.prog.underlying t = some d) (hd : (match d with | .struct _ | .array _ _ => true | _ => false) = true) (hi : (Tryz.prog.info? t).map (·.size) = some cs.size)
    (hK : wpList Tryz.prog ops Q rest (a.put o.dst (.agg cs)) w) : wpList Tryz.prog ops Q (o :: rest) a w := by
  refine wpList_plain hgd fun K' hK' => ?_
  exact wp_load_row w t p ho g cs t' fr d hp hg hu hd hi (hK' _ _ hK)
end
theorem step_load_row {ops : Array Oper} {o : Oper} {a : Act} {K : Act → World → Prop} {Q : Exit → Act → World → Prop} {E : Prop} (w : World) (hgd : o.guard = none) (t : TypeId) (p : Operand) (ho : o.op = .load t p) (g : Nat) (cs : Array Value) (t' : TypeId) (fr : Nat × Nat) (d : TypeDesc) (hp : a.eval p = .pointer (some ⟨g, 0, none⟩))
    (hg : w.heap[g]? = some (.cells cs t' fr)) (hu : Tryz.prog.underlying t = some d) (hd : (match d with | .struct _ | .array _ _ => true | _ => false) = true) (hi : (Tryz.prog.info? t).map (·.size) = some cs.size)
    (hK : K (a.put o.dst (.agg cs)) w) : if Region.wanted o (yielded ops a.tmps) = true then Oper.wp Tryz.prog o a w K Q else E := by
  have hw : Region.wanted o (yielded ops a.tmps) = true := by simp [Region.wanted, hgd]
  rw [if_pos hw]
  exact wp_load_row w t p ho g cs t' fr d hp hg hu hd hi hK
theorem wpList_load_rowG {ops : Array Oper} {o : Oper} {a : Act} {Q : Exit → Act → World → Prop} {rest : List Oper} (w : World) (hgd : Region.wanted o (yielded ops a.tmps) = true) (t : TypeId) (p : Operand) (ho : o.op = .load t p) (g : Nat) (cs : Array Value) (t' : TypeId) (fr : Nat × Nat) (d : TypeDesc) (hp : a.eval p = .pointer (some ⟨g, 0, none⟩))
    (hg : w.heap[g]? = some (.cells cs t' fr)) (hu : Tryz.prog.underlying t = some d) (hd : (match d with | .struct _ | .array _ _ => true | _ => false) = true) (hi : (Tryz.prog.info? t).map (·.size) = some cs.size)
    (hK : wpList Tryz.prog ops Q rest (a.put o.dst (.agg cs)) w) : wpList Tryz.prog ops Q (o :: rest) a w := by
  refine wpList_step fun K' hK' => ?_
  rw [if_pos hgd]
  exact wp_load_row w t p ho g cs t' fr d hp hg hu hd hi (hK' _ _ hK)
end Go.Proofs.YtnbopkflhjakdaaGreatDoor.Oc
namespace Go.Proofs.YtnbopkflhjakdaaGreatDoor.Oc
open Go Go.RowKit Dk

/- A model that may be put: it is checked, and laid as these bytes. -/
structure MOk (w : World) (cs : Array Value) (ms : List Int) : Prop where
  size : cs.size = 59
  check : ∀ w', Below w.heap.size w w' → Calls Tryz.prog 19 #[.agg cs] w' fun e w'' => e = .returned (.int .i64 0) ∧ Below w'.heap.size w' w''
  lay : ∀ w', Below w.heap.size w w' → Calls Tryz.prog 21 #[.agg cs] w' fun e w'' => ∃ ad c, e = .returned (.tuple #[.slice (some ad) ms.length c, .int .i64 0]) ∧ Rb w'' (some ad) ms ∧ w'.heap.size ≤ ad.block ∧ Below w'.heap.size w' w''

set_option maxHeartbeats 4000000 in
set_option maxRecDepth 100000 in
theorem put_done {w : World} {B g gd bm c : Nat} {A : Option Addr} {S : St} {f : Int} {L : List Ly} (h : Bz w B g gd bm A c S f L) (hw : WF (L.map Ly.s)) {name : ByteArray} {v : Nat} {ms : List Int} {cs : Array Value} (hn : NtOk ⟨1, name, v, ms⟩) (hv : v = nextC (L.map Ly.s) name) (hfu : fullC (L.map Ly.s) name = false) (hm : MOk w cs ms)
    (hfit : S.xs.length + (recN ⟨1, name, v, ms⟩).length ≤ S.room) :
    Calls Tryz.prog 11 #[.pointer (some ⟨g, 0, none⟩), .string name, .agg cs] w fun e w' => e = .returned (.tuple #[.int .i64 (v : Int), .int .i64 0]) ∧ ∃ A' c' f' L', Bz w' B g gd bm A' c' (addS S (recN ⟨1, name, v, ms⟩)) f' L' ∧ L'.map Ly.s = pfC (L.map Ly.s) ⟨1, name, v, ms⟩ ∧ Below B w w' := by
  have HBW := Lib.hid h
  have HFU : Hid (fullOf L name = false) := Lib.hid (by rw [← full_con]; exact hfu)
  have HNX : Hid (nextOf L name = v) := Lib.hid (by rw [← next_con]; exact hv.symm)
  have HMAY : Hid (mayC (L.map Ly.s) ⟨1, name, v, ms⟩) := Lib.hid (.inl ⟨rfl, hv, hfu⟩)
  have HW := Lib.hid hw
  have HOK := Lib.hid hn
  have HM := Lib.hid hm
  have HLN : Hid (L.length ≤ 100000) := Lib.hid (stl_con hw).2.2.1
  have HFIT := Lib.hid hfit
  have hver : v ≤ 100000 := hn.ver
  clear h hfu hv hw hn hm hfit
  go_enter Tryz.func11, Tryz.ntmps11
  have HMC : Hid (Blk (w.alloc (.cells cs 77)) w.heap.size 77 cs) := Lib.hid (Blk.new w _ _)
  have HB : Hid (Below w.heap.size w (w.alloc (.cells cs 77))) := Lib.hid (Below.new1 w _)
  have HI : Hid ((Tryz.prog.info? 77).map (·.size) = some cs.size) := Lib.hid (by rw [HM.out.size]; exact infoModel)
  go_upto_region 1 with fail
  generalize w.alloc (.cells cs 77) = W1 at HMC HB ⊢
  go_upto_region 8 with (first
    | (go_at_call 18; refine (HOK.out.is _).mono ?_; rintro e w1 ⟨rfl, hb1⟩; have HB1 := Lib.hid (HB.out.trans (hb1.mono HB.out.size)); have HM1 := Lib.hid (blk_below HMC.out hb1); clear hb1)
    | (go_at_call 19; refine (HM.out.check w1 HB1.out).mono ?_; rintro e w2 ⟨rfl, hb2⟩; have HB2 := Lib.hid (HB1.out.trans (hb2.mono HB1.out.size)); have HM2 := Lib.hid (blk_below HM1.out hb2); clear hb2)
    | (go_at_call 20; refine (full_any (bk_below HBW.out.bw.bk HB2.out) HLN.out name).mono ?_; rintro e w3 ⟨rfl, hb3⟩; rw [HFU.out]; have HB3 := Lib.hid (HB2.out.trans (hb3.mono HB2.out.size)); have HM3 := Lib.hid (blk_below HM2.out hb3); clear hb3)
    | (go_at_call 13; refine (bnext_any (bk_below HBW.out.bw.bk HB3.out) name).mono ?_; rintro e w4 ⟨rfl, hb4⟩; rw [HNX.out]; have HB4 := Lib.hid (HB3.out.trans (hb4.mono HB3.out.size)); have HM4 := Lib.hid (blk_below HM3.out hb4); clear hb4)
    | (refine wpList_load_row _ rfl 77 _ rfl w.heap.size cs 77 (0, 0) _ rfl (by first | exact HM4.out | exact HM3.out | exact HM1.out) Tryz.underlying77 rfl HI.out ?_))
  have HN4 : Hid (Blk (w4.alloc (.cells #[.int .i64 1, .string name, .int .i64 (v : Int), .int .i64 0, .slice none 0 0] 93)) w4.heap.size 93 (noteV 1 name v 0 (.slice none 0 0))) := Lib.hid (Blk.new w4 _ _)
  have HB5 : Hid (Below w.heap.size w (w4.alloc (.cells #[.int .i64 1, .string name, .int .i64 (v : Int), .int .i64 0, .slice none 0 0] 93))) := Lib.hid (HB4.out.alloc HB4.out.size _)
  have HM5 : Hid (Blk (w4.alloc (.cells #[.int .i64 1, .string name, .int .i64 (v : Int), .int .i64 0, .slice none 0 0] 93)) w.heap.size 77 cs) := Lib.hid (HM4.out.alloc _)
  have HW4 : Hid (w.heap.size ≤ w4.heap.size) := Lib.hid HB4.out.size
  generalize w4.alloc (.cells #[.int .i64 1, .string name, .int .i64 (v : Int), .int .i64 0, .slice none 0 0] 93) = W5 at HN4 HB5 HM5 ⊢
  have HS5 : Hid (w4.heap.size < W5.heap.size) := Lib.hid HN4.out.lt
  have HNM : Hid (∀ k, w.heap.size ≤ k → ¬ Mt g gd bm (Value.slice A S.xs.length c).ownBlock L k) := Lib.hid fun k hk hm => by have h1 : k < w.heap.size := HBW.out.mtlt hm; omega
  have HW7F : Hid (∀ (w6 : World) (gm : Addr) (cm : Nat), Blk w6 w4.heap.size 93 (noteV 1 name v 0 (.slice none 0 0)) → Below w.heap.size w w6 → Rb w6 (some gm) ms → W5.heap.size ≤ gm.block → Blk (w6.setCell ⟨w4.heap.size, 4, none⟩ (.slice (some gm) ms.length cm)) w4.heap.size 93 (noteV 1 name v 0 (.slice (some gm) ms.length cm)) ∧
      Below w.heap.size w (w6.setCell ⟨w4.heap.size, 4, none⟩ (.slice (some gm) ms.length cm)) ∧ RowIs (w6.setCell ⟨w4.heap.size, 4, none⟩ (.slice (some gm) ms.length cm)) (Mt g gd bm (Value.slice A S.xs.length c).ownBlock L) (.slice (some gm) ms.length cm) ms) := Lib.hid fun w6 gm cm h1 h2 h3 h4 => by
    have h5 := HW4.out
    have h6 := HS5.out
    refine ⟨h1.set_ 4 _, h2.setCell (p := ⟨w4.heap.size, 4, none⟩) h5 _, ⟨_, cm, rfl, (HOK.out.md rfl).2.1, ?_, HNM.out gm.block (by omega)⟩⟩
    exact h3.keep (p := fun k => k = w4.heap.size) ((Alt.refl w6 (fun k => k = w4.heap.size)).set_ (a := ⟨w4.heap.size, 4, none⟩) rfl _) (fun ad e hh => by injection e with e; subst e; omega)
  go_wp2_with (first
    | (refine wpList_load_row _ rfl 77 _ rfl w.heap.size cs 77 (0, 0) _ rfl (by exact HM5.out) Tryz.underlying77 rfl HI.out ?_)
    | (go_at_call 21; refine (HM.out.lay W5 HB5.out).mono ?_; rintro e w6 ⟨gm, cm, rfl, hr6, hg6, hb6⟩; have HR6 := Lib.hid hr6; have HG6 := Lib.hid hg6; have HB6 := Lib.hid (HB5.out.trans (hb6.mono HB5.out.size)); have HN6 := Lib.hid (blk_below HN4.out hb6); obtain ⟨⟨n0, n1, n2, n3, n4⟩, nz⟩ := cells5v HN6.out; have HW7 := Lib.hid (HW7F.out w6 gm cm HN6.out HB6.out HR6.out HG6.out); clear hr6 hg6 hb6)
    | (go_at_call 23; go_loud (refine (write_b (n := ⟨1, name, v, ms⟩) (HBW.out.below HW7.out.2.1) HOK.out 0 (fun _ => HW7.out.2.2) HFIT.out).mono ?_; rintro e w8 ⟨rfl, A', c', f', hz8, hb8, hx8, ha8⟩; dsimp only; obtain ⟨⟨k0, k1, k2, k3, k4⟩, kz⟩ := cells5v (HW7.out.1.kept ha8 (HNM.out _ HW4.out)); have HZ8 := Lib.hid hz8; have HB8 := Lib.hid hb8; have HX8 := Lib.hid hx8; have HN8 := Lib.hid (HW7.out.1.kept ha8 (HNM.out _ HW4.out)); clear hz8 hb8 hx8 ha8))
    | (go_at_call 24; go_loud (refine (perform_b (n := ⟨1, name, v, ms⟩) HZ8.out HW.out HMAY.out hver 0 _ HX8.out).mono ?_; rintro e w9 ⟨rfl, L', hz9, hc9, hb9, ha9⟩; have j2 := (cells5v (HN8.out.kept ha9 (fun hm => HNM.out _ HW4.out (hm.mt g gd _)))).1.2.2.1; have HZ9 := Lib.hid hz9; have HC9 := Lib.hid hc9; have HB9 := Lib.hid hb9; clear hz9 hc9 hb9 ha9)))
  go_ret2
  exact ⟨rfl, A', c', f', L', HZ9.out, HC9.out, (HW7.out.2.1.mono HBW.out.bw.b0l).trans (HB8.out.trans HB9.out)⟩
end Go.Proofs.YtnbopkflhjakdaaGreatDoor.Oc
namespace Go.Proofs.YtnbopkflhjakdaaGreatDoor.Oc
open Go Go.RowKit Dk

theorem own_max {w : World} {b0 n c : Nat} {A : Option Addr} {xs : List Int} (h : Own w b0 (.slice A n c) xs) : c ≤ 9223372036854775807 := by
  rcases h.2 with ⟨e, _⟩ | ⟨g', cap, cur, e, _, _, _, h4, _⟩
  · injection e with _ _ e3; omega
  · injection e with _ _ e3
    unfold maxLen at h4
    omega
set_option maxHeartbeats 4000000 in
set_option maxRecDepth 100000 in
theorem bopen_any {w : World} {B gd c : Nat} {A : Option Addr} {S : St} {f : Int} (hb : Blk w gd 84 (pc (.slice A S.xs.length c) S f)) (ho : Own w B (.slice A S.xs.length c) S.xs) (hok : Ok S) (hfu : S.fuse = none) (hup : S.dead = false) (hsf : S.safe = S.xs.length) (hB : B ≤ gd ∧ B ≤ w.heap.size)
    (ns : List Nt) (hj : S.xs = jl ns) (hch : Ch [] ns) :
    Calls Tryz.prog 6 #[.pointer (some ⟨gd, 0, none⟩)] w fun e w' => ∃ g bm L, e = .returned (.tuple #[.pointer (some ⟨g, 0, none⟩), .int .i64 0]) ∧ Bz w' B g gd bm A c S f L ∧ L.map Ly.s = ns.foldl pfC [] ∧ Below w.heap.size w w' := by
  obtain ⟨⟨d0, d1, d2, d3, d4, d5⟩, dz⟩ := cells6 hb
  have HD := Lib.hid hb
  have HO := Lib.hid ho
  have HOK := Lib.hid hok
  have HFU := Lib.hid hfu
  have HSF := Lib.hid hsf
  have HB := Lib.hid hB
  have HJ := Lib.hid hj
  have HCH := Lib.hid hch
  have HUP := Lib.hid hup
  rw [hup] at d3
  clear hb ho hok hfu hup hsf hB hj hch
  have hmk : ∀ t W, (Instr.makeMap t none).run Tryz.prog W = .ok (.map (some W.heap.size)) (W.alloc (.map #[] 0)) := fun _ _ => rfl
  go_enter Tryz.func6, Tryz.ntmps6
  go_upto_region 6 with fail
  have HG : Hid (Blk ((w.alloc (.map #[] 0)).alloc (.cells #[.pointer (some ⟨gd, 0, none⟩), .int .i64 0, .map (some w.heap.size)] 87)) (w.heap.size + 1) 87 #[.pointer (some ⟨gd, 0, none⟩), .int .i64 0, .map (some w.heap.size)]) := Lib.hid (by have := Blk.new (w.alloc (.map #[] 0)) 87 #[.pointer (some ⟨gd, 0, none⟩), .int .i64 0, .map (some w.heap.size)]; rw [World.size_alloc] at this; exact this)
  have HMP : Hid (MapIs ((w.alloc (.map #[] 0)).alloc (.cells #[.pointer (some ⟨gd, 0, none⟩), .int .i64 0, .map (some w.heap.size)] 87)) KS w.heap.size []) := Lib.hid ((MapIs.new w KS).below (Below.new1 _ _))
  have HB2 : Hid (Below w.heap.size w ((w.alloc (.map #[] 0)).alloc (.cells #[.pointer (some ⟨gd, 0, none⟩), .int .i64 0, .map (some w.heap.size)] 87))) := Lib.hid ((Below.new1 w _).alloc (by simp) _)
  generalize (w.alloc (.map #[] 0)).alloc (.cells #[.pointer (some ⟨gd, 0, none⟩), .int .i64 0, .map (some w.heap.size)] 87) = W2 at HG HMP HB2 ⊢
  have HD2 := Lib.hid (blk_below HD.out HB2.out)
  have HO2 := Lib.hid (own_below HO.out HB2.out)
  have HSZ : Hid (w.heap.size + 1 < W2.heap.size) := Lib.hid HG.out.lt
  have HLT : Hid (gd < w.heap.size) := Lib.hid HD.out.lt
  obtain ⟨hl1, hl2⟩ := own_cap HO.out
  have hxs : S.xs.length ≤ 4194304 := by have := HOK.out; have := this.1; have := HOK.out.2.1; omega
  have HBK2 : Hid (Bk W2 (w.heap.size + 1) gd w.heap.size (Value.slice A S.xs.length c).ownBlock 0 []) := Lib.hid ⟨HG.out, HMP.out, (fun _ h => by cases h), List.nodup_nil, by simp, by omega, fun _ h => by cases h⟩
  have HNIL : Hid (A = none → S.xs.length = 0) := Lib.hid fun e => by have := HO.out; rw [e] at this; exact this.none_.1
  have HCAP : Hid (c ≤ 9223372036854775807) := Lib.hid (own_max HO.out)
  have HADR : Hid (∀ ad, A = some ad → ad.block < w.heap.size ∧ ad = ⟨ad.block, 0, none⟩) := Lib.hid fun ad e => by
    have h1 := HO.out
    rw [e] at h1
    rcases h1.2 with ⟨e2, _⟩ | ⟨g', cap, cur, e2, _, hh, _⟩
    · cases e2
    · injection e2 with e2
      injection e2 with e2
      subst e2
      exact ⟨(Array.getElem?_eq_some_iff.1 hh).1, rfl⟩
  have HLOAD : Hid (Calls Tryz.prog 15 #[.pointer (some ⟨w.heap.size + 1, 0, none⟩), .slice A S.xs.length c] W2 fun e w' => e = .returned (.tuple #[.int .i64 (S.xs.length : Int), .bool true]) ∧ ∃ L, L.map Ly.s = ns.foldl pfC [] ∧ Bk w' (w.heap.size + 1) gd w.heap.size (Value.slice A S.xs.length c).ownBlock 0 L ∧ Alt W2 w' (fun k => k = w.heap.size) ∧ ∀ l ∈ L, W2.heap.size ≤ l.g ∧ W2.heap.size ≤ l.bv) := Lib.hid (by
    have h0 := HSZ.out
    have h1 := HLT.out
    refine load_any HBK2.out ns HCH.out (by rw [HJ.out]) (by rw [← HJ.out]; exact Rb.of_own HO2.out) HNIL.out hl2 hxs HCAP.out (fun ad e => ?_) (fun k hk => (HO2.out.base hk).2) (by omega)
    obtain ⟨h2, h3⟩ := HADR.out ad e
    exact ⟨by omega, h3⟩)
  obtain ⟨⟨g0, g1, g2⟩, gz⟩ := cells3 HG.out
  obtain ⟨⟨d0, d1, d2, d3, d4, d5⟩, dz⟩ := cells6 HD2.out
  have hne : gd ≠ w.heap.size := by have := HLT.out; omega
  have HNE := Lib.hid hne
  go_wp2_with (first
    | (go_at_call 15; refine HLOAD.out.mono ?_; rintro e w3 ⟨rfl, L, hcon, hbk3, ha3, hnew⟩; have HC3 := Lib.hid hcon; have HBK3 := Lib.hid hbk3; have HA3 := Lib.hid ha3; have HNEW := Lib.hid hnew; have HD3 := Lib.hid (HD2.out.kept ha3 HNE.out); obtain ⟨⟨y0, y1, y2, y3, y4, y5⟩, yz⟩ := cells6 HD3.out; obtain ⟨⟨x0, x1, x2⟩, xz⟩ := cells3 hbk3.blk; clear hcon hbk3 ha3 hnew))
  go_ret2
  have ha : ∀ v, Alt w3 (w3.setCell ⟨w.heap.size + 1, 1, none⟩ v) (fun k => k = w.heap.size + 1) := fun v => (Alt.refl w3 (fun k => k = w.heap.size + 1)).set_ (a := ⟨w.heap.size + 1, 1, none⟩) rfl v
  have ha2 : ∀ v, Alt w (w3.setCell ⟨w.heap.size + 1, 1, none⟩ v) (fun _ => False) := fun v => by
    have h1 : Alt w w3 (fun _ => False) := (alt_of_below (p := fun _ => False) HB2.out).trans HA3.out (fun k hk e => by omega)
    exact h1.trans (ha v) (fun k hk e => by omega)
  have hb : ∀ v, Below w.heap.size w (w3.setCell ⟨w.heap.size + 1, 1, none⟩ v) := fun v => Alt.toBelow (ha2 v) (fun _ _ h => h.elim) (Nat.le_refl _)
  have h0 := HLT.out
  have h5 := HB.out
  refine ⟨w.heap.size + 1, w.heap.size, L, rfl, ⟨⟨bk_size HBK3.out _ hxs, HD.out.kept (ha2 _) (fun h => h), HO.out.keep (ha2 _) (fun _ _ h => h), HOK.out, HFU.out, HUP.out, HSF.out, Nat.le_trans h5.2 (hb (.int .i64 (S.xs.length : Int))).size⟩, ⟨by omega, h5.1, h5.2⟩, fun l hl => ?_⟩, HC3.out, hb _⟩
  have h6 := HNEW.out l hl
  have h7 := HB2.out.size
  omega
end Go.Proofs.YtnbopkflhjakdaaGreatDoor.Oc
