/-
  A model of no kind: what Check, Answer, Alone and Run say of it.
-/
import Derived.Test.YtphllokpeamcoabGreatDoorC
import Derived.Laws.Rows
import Derived.Laws.Tables
import Derived.Laws.ResultCell
import Derived.Laws.CopyOwn
namespace Go.Proofs.YtphllokpeamcoabGreatDoor
open Go.RowKit

set_option maxHeartbeats 400000 in
theorem check_none (cs : Array Value) (w : World) (h0 : cs[0]? = some (.int .i64 0)) :
    Calls Tryz.prog 11 #[.agg cs] w fun e w' => e = .returned (.int .i64 10) ∧ Below w.heap.size w w' := by
  go_enter Tryz.func11, Tryz.ntmps11
  go_wp2_with go_in
  go_ret
  exact ⟨rfl, (Below.refl _ _).alloc (Nat.le_refl _) _⟩

theorem results_row_tmp {P : Program} {fn : Func} {p u : Tmp} {ty : TypeId} (h : fn.results = #[.cell p ty, .tmp u]) (tmps : Array Value) (w : World) (g : Nat) (t : TypeId) (cs : Array Value) (fr : Nat × Nat) (d : TypeDesc)
    (hp : tmps.getD p undef = .pointer (some ⟨g, 0, none⟩)) (hg : w.heap[g]? = some (.cells cs t fr))
    (hu : P.underlying ty = some d) (hd : (match d with | .struct _ | .array _ _ => true | _ => false) = true) (hi : (P.info? ty).map (·.size) = some cs.size) :
    (results fn tmps).run P w = .ok (.tuple #[.agg cs, tmps.getD u undef]) w := by
  rw [results_cell_tmp h, hp]
  simp [asAddr, run_loadVar_row w g t ty cs fr d hg hu hd hi, Result.andThen]

def zeroCells : Array Value := #[.int .i64 0, .bool false, .int .u64 0, .string ⟨#[]⟩, .int .u64 0, .string ⟨#[]⟩]
theorem zero_one : zeroCells.all (fun x => x.oneCell') = true := by simp [zeroCells, Value.oneCell']
theorem Tryz.infoReply : (Tryz.prog.info? 37).map (·.size) = some 6 := by kernel_rfl
set_option maxHeartbeats 400000 in
set_option maxRecDepth 100000 in
theorem answer_none (cs : Array Value) (v : Value) (w : World) (h0 : cs[0]? = some (.int .i64 0)) (hs : (Tryz.prog.info? 73).map (·.size) = some cs.size) :
    Calls Tryz.prog 10 #[.agg cs, v] w fun e w' => e = .returned (.tuple #[.agg zeroCells, .int .i64 1]) ∧ Below w.heap.size w w' := by
  have HS := Lib.hid hs
  have H0 := Lib.hid h0
  clear hs h0
  have hblk : ∀ o : Obj, ((w.alloc (.cells cs 73)).alloc o).heap[w.heap.size]? = some (.cells cs 73 (0, 0)) := fun o => (Blk.new w 73 cs).alloc o
  have HB := Lib.hid hblk
  clear hblk
  go_enter Tryz.func10, Tryz.ntmps10
  go_wp2_with (first
    | (go_at_call 11; refine (check_none cs _ H0.out).mono ?_; rintro e w2 ⟨rfl, hb2⟩; have HB2 : Hid (w2.heap[w.heap.size + 1]? = some (.cells zeroCells 37 (0, 0))) := by { exact (hb2.block _ (by simp)).trans (heap_alloc2_new w _ _) }; have HBE := Lib.hid hb2; clear hb2)
    | (with_reducible refine wpList_load_row rfl 73 (.tmp 2) rfl w.heap.size rfl 73 cs (0, 0) _ (HB.out _) Tryz.underlying73 rfl HS.out ?_)
    | (refine wpList_store_row rfl 37 (.tmp 4) (.tmp 9) rfl (w.heap.size + 1) zeroCells rfl rfl 37 zeroCells HB2.out Tryz.infoReply rfl zero_one ?_))
  refine bodyPost_ret (v := .tuple #[.agg zeroCells, .int .i64 1]) ?_ rfl ⟨rfl, ?_⟩
  · exact results_row_tmp (p := 4) (u := 5) rfl _ _ (w.heap.size + 1) 37 zeroCells (0, 0) _ rfl (setRow_heap _ _ _ _ _ _ HB2.out) Tryz.underlying37 rfl Tryz.infoReply
  have hb := ((Below.refl w.heap.size w).alloc (Nat.le_refl _) (.cells cs 73)).alloc (by simp) (.cells zeroCells 37)
  exact below_setRow (hb.trans (HBE.out.mono (by simp; omega))) (by omega) _

theorem Tryz.infoDone : (Tryz.prog.info? 39).map (·.size) = some 9 := by kernel_rfl
def doneCells (time e : Int) : Array Value := #[.int .i64 time, .int .i64 0, .int .i64 e, .int .i64 0, .bool false, .int .u64 0, .string ⟨#[]⟩, .int .u64 0, .string ⟨#[]⟩]
theorem done_one (a b : Int) : (doneCells a b).all (fun x => x.oneCell') = true := by simp [doneCells, Value.oneCell']
theorem blk2 {w w2 : World} {x z : Obj} {t : TypeId} {cs : Array Value} (h : Below (((w.alloc x).alloc (.cells cs t)).alloc z).heap.size (((w.alloc x).alloc (.cells cs t)).alloc z) w2) : Blk w2 (w.heap.size + 1) t cs := by
  have := ((Blk.new (w.alloc x) t cs).alloc z).below h (by simp)
  simpa using this
theorem blk3 {w w2 : World} {x y : Obj} {t : TypeId} {cs : Array Value} (h : Below (((w.alloc x).alloc y).alloc (.cells cs t)).heap.size (((w.alloc x).alloc y).alloc (.cells cs t)) w2) : Blk w2 (w.heap.size + 1 + 1) t cs := by
  have := (Blk.new ((w.alloc x).alloc y) t cs).below h (by simp)
  simpa using this
set_option maxHeartbeats 400000 in
set_option maxRecDepth 100000 in
theorem alone_none (cs : Array Value) (w : World) (h0 : cs[0]? = some (.int .i64 0)) (hs : (Tryz.prog.info? 73).map (·.size) = some cs.size) :
    Calls Tryz.prog 5 #[.agg cs, .agg #[.int .i64 9, .slice none 0 0]] w fun e w' => e = .returned (.agg (doneCells 9 1)) ∧ Below w.heap.size w w' := by
  have HS := Lib.hid hs
  have H0 := Lib.hid h0
  clear hs h0
  have hblk : ∀ o o' : Obj, (((w.alloc (.cells cs 73)).alloc o).alloc o').heap[w.heap.size]? = some (.cells cs 73 (0, 0)) := fun o o' => ((Blk.new w 73 cs).alloc o).alloc o'
  have HB := Lib.hid hblk
  clear hblk
  go_enter Tryz.func5, Tryz.ntmps5
  go_wp2_with (first
    | (with_reducible refine wpList_load_row rfl 73 (.tmp 2) rfl w.heap.size rfl 73 cs (0, 0) _ (HB.out _ _) Tryz.underlying73 rfl HS.out ?_)
    | (go_at_call 10; refine (answer_none cs _ _ H0.out HS.out).mono ?_; rintro e w2 ⟨rfl, hb2⟩; have HD : Hid (Blk w2 (w.heap.size + 1 + 1) 39 (doneCells 0 0)) := blk3 hb2; have HE : Hid (Blk w2 (w.heap.size + 1) 76 #[.int .i64 9, .slice none 0 0]) := blk2 hb2; have HBE := Lib.hid hb2; clear hb2; have c9 : ∀ o, (w2.alloc o).cell? ⟨w.heap.size + 1, 0, none⟩ = some (.int .i64 9) := fun o => (HE.out.alloc o).cell 0; unfold zeroCells)
    | (refine wpList_store_row rfl 39 (.tmp 4) (.tmp 18) rfl (w.heap.size + 1 + 1) (doneCells 9 1) rfl rfl 39 (doneCells 0 0) (HD.out.alloc _) Tryz.infoDone rfl (done_one _ _) ?_))
  refine bodyPost_ret (v := .agg (doneCells 9 1)) ?_ rfl ⟨rfl, ?_⟩
  · exact results_cell_row (p := 4) rfl _ _ (w.heap.size + 1 + 1) 39 (doneCells 9 1) (0, 0) _ rfl (setRow_heap _ _ _ _ _ _ (HD.out.alloc _)) Tryz.underlying39 rfl Tryz.infoDone
  · have hb := (((Below.refl w.heap.size w).alloc (Nat.le_refl _) (.cells cs 73)).alloc (by simp) (.cells #[.int .i64 9, .slice none 0 0] 76)).alloc (by simp; omega) (.cells (doneCells 0 0) 39)
    have hb2 := hb.trans (HBE.out.mono (by simp; omega))
    exact below_setRow (hb2.alloc hb2.size _) (by omega) _

set_option maxHeartbeats 400000 in
set_option maxRecDepth 100000 in
theorem run_none (cs : Array Value) (w : World) (h0 : cs[0]? = some (.int .i64 0)) (hs : (Tryz.prog.info? 73).map (·.size) = some cs.size) :
    Calls Tryz.prog 6 #[.agg cs, .slice none 0 0, .agg #[.int .i64 1, .int .i64 0]] w fun e w' => e = .returned (.tuple #[.slice none 0 0, .int .i64 1]) ∧ Below w.heap.size w w' := by
  have HS := Lib.hid hs
  have H0 := Lib.hid h0
  clear hs h0
  have hblk : ∀ o : Obj, ((w.alloc (.cells cs 73)).alloc o).heap[w.heap.size]? = some (.cells cs 73 (0, 0)) := fun o => (Blk.new w 73 cs).alloc o
  have HB := Lib.hid hblk
  clear hblk
  go_enter Tryz.func6, Tryz.ntmps6
  go_wp2_with (first
    | (with_reducible refine wpList_load_row rfl 73 (.tmp 3) rfl w.heap.size rfl 73 cs (0, 0) _ (HB.out _) Tryz.underlying73 rfl HS.out ?_)
    | (go_at_call 11; refine (check_none cs _ H0.out).mono ?_; rintro e w2 ⟨rfl, hb2⟩; have HBE := Lib.hid hb2; clear hb2))
  go_ret2
  refine ⟨rfl, ?_⟩
  have hb := ((Below.refl w.heap.size w).alloc (Nat.le_refl _) (.cells cs 73)).alloc (by simp) (.cells #[.int .i64 1, .int .i64 0] 28)
  exact hb.trans (HBE.out.mono (by simp; omega))
end Go.Proofs.YtphllokpeamcoabGreatDoor
