/-
  What holds between the two disks; Pick; bytes as strings.
-/
import Derived.Test.YthfmallebojjpaaGreatDoorDk8
import Derived.Laws.BytesString
namespace Go.Proofs.YthfmallebojjpaaGreatDoor.Dk
open Go Go.RowKit

theorem tmod_fix (n m : Int) (h0 : 0 < m) : (if n.tmod m < 0 then n.tmod m + m else n.tmod m) = n % m := by
  have h1 := Int.emod_nonneg n (by omega : m ≠ 0)
  have h2 := Int.emod_lt_of_pos n h0
  by_cases hn : 0 ≤ n
  · rw [Int.tmod_eq_emod_of_nonneg hn, if_neg (by omega)]
  · have e := Int.tmod_eq_emod (a := n) (b := m)
    by_cases hd : m ∣ n
    · rw [if_pos (.inr hd)] at e
      rw [e, if_neg (by omega)]; omega
    · rw [if_neg (by rintro (h | h) <;> contradiction)] at e
      have : (m.natAbs : Int) = m := by omega
      rw [e, if_pos (by omega)]; omega

set_option maxHeartbeats 400000 in
set_option maxRecDepth 100000 in
theorem pick_any (n m : Int) (w : World) (h0 : 0 < m) (h1 : m ≤ 1000000) :
    Calls Tryz.prog 4 #[.int .i64 n, .int .i64 m] w fun e w' => e = .returned (.int .i64 (n % m)) ∧ w = w' := by
  have hm0 : (m == 0) = false := by simp; omega
  have hf := Lib.hid (tmod_fix n m h0)
  have hb : -m < n.tmod m ∧ n.tmod m < m := by
    have := Int.tmod_lt_of_pos n h0
    have h3 := Int.lt_tmod_of_pos n h0
    omega
  obtain ⟨hb1, hb2⟩ := hb
  go_enter Tryz.func4, Tryz.ntmps4
  go_wp2
  · go_ret
    refine ⟨ret_int ?_, rfl⟩
    rw [← hf.out, if_pos (by assumption)]
    done
  · go_ret
    refine ⟨ret_int ?_, rfl⟩
    rw [← hf.out, if_neg (by omega)]

def strOf (ys : List Int) : ByteArray := ys.foldl (fun r n => r.push (UInt8.ofNat n.toNat)) ByteArray.empty
theorem conv_run {w : World} {A : Option Addr} {c : Nat} {ys : List Int} (hy : Rb w A ys) (hA : A = none → ys.length = 0) :
    (convert 23 9 (.slice A ys.length c)).run Tryz.prog w = .ok (.string (strOf ys)) w := by
  rw [run_convert_bytes_string w 23 9 5 A _ _ Tryz.underlying23 Tryz.underlying5 Tryz.underlying9]
  rcases A with _ | ad
  · have h0 := hA rfl
    obtain rfl : ys = [] := List.eq_nil_of_length_eq_zero h0
    simp [Conv.bytesToString, strOf]
  · refine run_bytesToString w ad ys.length c ys ?_
    by_cases h0 : ys.length = 0
    · obtain rfl : ys = [] := List.eq_nil_of_length_eq_zero h0
      simp [loadCells, loadCellsFrom]
    · obtain ⟨ad', e, _, hc⟩ := hy (by omega)
      cases e
      have := run_loadCells_list (P := Tryz.prog) (w := w) ad (ys.map (Value.int .u8)) hc
      rwa [List.length_map] at this

/- What holds between the two disks. -/
structure Inv (w0 w : World) (p r : Nat) (S : St) (A : Option Addr) (c : Nat) (f : Int) (B : Option Addr) (d : Nat) (h : Int) : Prop where
  pb : Blk w p 44 (pc (.slice A S.xs.length c) S f)
  pf : ∀ k, S.fuse = some k → f = k
  po : Own w (w0.heap.size + 2) (.slice A S.xs.length c) S.xs
  rb : Blk w r 39 (rc (.slice B S.xs.length d) S h)
  rf : RF S h
  ro : Own w (w0.heap.size + 2) (.slice B S.xs.length d) S.xs
  ap : ∀ k, (Value.slice A S.xs.length c).ownBlock = some k → (Value.slice B S.xs.length d).ownBlock ≠ some k
  ok : Ok S
  be : Below w0.heap.size w0 w
  pn : w0.heap.size ≤ p
  rn : w0.heap.size ≤ r
  sz : w0.heap.size + 2 ≤ w.heap.size

theorem Inv.ne {w0 w : World} {p r : Nat} {S : St} {A B : Option Addr} {c d : Nat} {f h : Int} (I : Inv w0 w p r S A c f B d h) : p ≠ r := Blk.ne_ I.pb I.rb (by decide)

theorem Inv.drewN {w0 w : World} {p r : Nat} {S : St} {A B : Option Addr} {c d : Nat} {f h : Int} (I : Inv w0 w p r S A c f B d h) (n : Nat) : Inv w0 (w.drewN n) p r S A c f B d h :=
  ⟨I.pb, I.pf, I.po, I.rb, I.rf, I.ro, I.ap, I.ok, ⟨I.be.os, I.be.tape, I.be.output, I.be.size, I.be.block⟩, I.pn, I.rn, I.sz⟩
theorem Alt.none_ {w w' : World} {p : Nat → Prop} (h : Alt w w' (fun _ => False)) : Alt w w' p := h.mono fun _ h => h.elim
/- New memory alone. -/
theorem Inv.more {w0 w w' : World} {p r : Nat} {S : St} {A B : Option Addr} {c d : Nat} {f h : Int} (I : Inv w0 w p r S A c f B d h) (a : Alt w w' (fun _ => False)) : Inv w0 w' p r S A c f B d h :=
  ⟨I.pb.kept a (fun h => h), I.pf, I.po.keep a (fun _ _ h => h), I.rb.kept a (fun h => h), I.rf, I.ro.keep a (fun _ _ h => h), I.ap, I.ok,
    I.be.trans (a.below (B := w0.heap.size) (fun _ h => h.elim) (Nat.le_trans (by omega) I.sz)), I.pn, I.rn, Nat.le_trans I.sz a.size⟩

/- Behind an act on the one, then on the other. -/
theorem Inv.both {w0 w w1 w2 : World} {p r : Nat} {S T : St} {A B : Option Addr} {c d : Nat} {f h : Int} (I : Inv w0 w p r S A c f B d h) (hT : Ok T)
    {A' : Option Addr} {c' : Nat} {f' : Int} (b1 : Blk w1 p 44 (pc (.slice A' T.xs.length c') T f')) (f1 : ∀ k, T.fuse = some k → f' = k) (o1 : Own w1 (w0.heap.size + 2) (.slice A' T.xs.length c') T.xs)
    (a1 : Alt w w1 (fun k => k = p ∨ (Value.slice A S.xs.length c).ownBlock = some k)) (n1 : (Value.slice A' T.xs.length c').ownBlock = (Value.slice A S.xs.length c).ownBlock ∨ ∀ k, (Value.slice A' T.xs.length c').ownBlock = some k → w.heap.size ≤ k)
    {B' : Option Addr} {d' : Nat} {h' : Int} (b2 : Blk w2 r 39 (rc (.slice B' T.xs.length d') T h')) (f2 : RF T h') (o2 : Own w2 (w0.heap.size + 2) (.slice B' T.xs.length d') T.xs)
    (a2 : Alt w1 w2 (fun k => k = r ∨ (Value.slice B S.xs.length d).ownBlock = some k)) (n2 : (Value.slice B' T.xs.length d').ownBlock = (Value.slice B S.xs.length d).ownBlock ∨ ∀ k, (Value.slice B' T.xs.length d').ownBlock = some k → w1.heap.size ≤ k) :
    Inv w0 w2 p r T A' c' f' B' d' h' := by
  have hne := I.ne
  have far1 : ∀ k, (Value.slice A' T.xs.length c').ownBlock = some k → ¬ (k = r ∨ (Value.slice B S.xs.length d).ownBlock = some k) := by
    intro k hk
    rintro (rfl | hb)
    · rcases n1 with e | e
      · exact I.po.ne I.rb (by decide) (by rw [← e]; exact hk)
      · have := e _ hk; have := I.rb.lt; omega
    · rcases n1 with e | e
      · exact I.ap k (by rw [← e]; exact hk) hb
      · have := e _ hk; have := (I.ro.base hb).2; omega
  refine ⟨b1.kept a2 ?_, f1, o1.keep a2 far1, b2, f2, o2, ?_, hT, ?_, I.pn, I.rn, ?_⟩
  · rintro (e | e)
    · exact hne e
    · exact I.ro.ne I.pb (by decide) e
  · intro k hk hb
    rcases n2 with e | e
    · exact far1 k hk (.inr (by rw [← e]; exact hb))
    · have := e _ hb
      have := (o1.base hk).2
      omega
  · refine I.be.trans (Below.trans (a1.below (B := w0.heap.size) ?_ (by have := I.sz; omega)) (a2.below ?_ (by have := I.sz; have := a1.size; omega)))
    · rintro k (rfl | e)
      · exact I.pn
      · have := (I.po.base e).1; omega
    · rintro k (rfl | e)
      · exact I.rn
      · have := (I.ro.base e).1; omega
  · have := I.sz; have := a1.size; have := a2.size; omega
/- The other one, ahead of its act: as it was. -/
theorem Inv.other {w0 w w1 : World} {p r : Nat} {S : St} {A B : Option Addr} {c d : Nat} {f h : Int} (I : Inv w0 w p r S A c f B d h)
    (a1 : Alt w w1 (fun k => k = p ∨ (Value.slice A S.xs.length c).ownBlock = some k)) : Blk w1 r 39 (rc (.slice B S.xs.length d) S h) ∧ Own w1 (w0.heap.size + 2) (.slice B S.xs.length d) S.xs := by
  have hne := I.ne
  refine ⟨I.rb.kept a1 ?_, I.ro.keep a1 ?_⟩
  · rintro (e | e)
    · exact hne e.symm
    · exact I.po.ne I.rb (by decide) e
  · intro k hk
    rintro (rfl | e)
    · exact I.ro.ne I.pb (by decide) hk
    · exact I.ap k e hk
end Go.Proofs.YthfmallebojjpaaGreatDoor.Dk
