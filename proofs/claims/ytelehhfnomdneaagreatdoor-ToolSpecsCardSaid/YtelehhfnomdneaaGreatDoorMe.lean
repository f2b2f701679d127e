/-
  ToolSpecs: shelf.which; the plain spec's variables in memory.
  And: ToolSpecs: one key's stores into the plain spec's variables. ToolSpecs: the plain Spec's switch, as code of its own.
-/
import Derived.Test.YtelehhfnomdneaaGreatDoorMd
import Derived.Laws.CopyRow
import Derived.Deep.Cut
namespace Go.Proofs.YtelehhfnomdneaaGreatDoor.Sp
open Go Go.RowKit Ut Tc

def StrIn (w : World) (A : Option Addr) (xs : List Wd) : Prop := ∀ (j : Nat) (h : j < xs.length), ∃ g, A = some ⟨g, 0, none⟩ ∧ g < w.heap.size ∧ w.cell? ⟨g, j, none⟩ = some (.string ⟨⟨xs[j]⟩⟩)
theorem StrIn.of_blk {w : World} {g : Nat} {xs : List Wd} (h : Blk w g 9 ⟨xs.map sv⟩) : StrIn w (some ⟨g, 0, none⟩) xs := fun j hj => ⟨g, rfl, h.lt, by
  rw [h.cell]
  show (xs.map sv).toArray[j]? = _
  rw [List.getElem?_toArray, List.getElem?_map, List.getElem?_eq_getElem hj]; rfl⟩
theorem StrIn.of_row {w : World} {B n c : Nat} {A : Option Addr} {xs : List Wd} (h : WRow w B (.slice A n c) xs) : StrIn w A xs := fun j hj => by
  obtain ⟨A', c', e, _⟩ := own_slice h
  injection e with e1 e2 e3
  subst e1 e2 e3
  obtain ⟨g, rfl, _, h2, h3⟩ := h.at_ hj
  exact ⟨g, rfl, h2, h3⟩
def whichP (t : Wd) : List Wd → Option Nat
  | [] => none
  | x :: l => if x = t then some 0 else (whichP t l).map (· + 1)
def whichN (t : Wd) (xs : List Wd) : Nat := match whichP t xs with
  | none => 0
  | some j => j + 1
theorem which_none {t : Wd} {xs : List Wd} : whichP t xs = none ↔ t ∉ xs := by
  induction xs with
  | nil => simp [whichP]
  | cons x l ih =>
    unfold whichP
    by_cases h : x = t
    · rw [if_pos h]; simp [h]
    · rw [if_neg h, Option.map_eq_none_iff, ih]
      simp only [List.mem_cons, not_or]
      exact ⟨fun h2 => ⟨fun e => h e.symm, h2⟩, fun h2 => h2.2⟩
set_option maxHeartbeats 1000000 in
set_option maxRecDepth 100000 in
theorem which_any {A : Option Addr} {n c : Nat} {xs : List Wd} {w : World} (h : StrIn w A xs) (hn : xs.length = n) (h9 : n ≤ 100) (t : Wd) :
    Calls Tryz.prog 16 #[.slice A n c, .string ⟨⟨t⟩⟩] w fun e w' => e = .returned (.int .i64 (whichN t xs : Nat)) ∧ w = w' := by
  have HB := Lib.hid h
  have HN := Lib.hid hn
  clear h hn
  obtain ⟨P, HP⟩ : ∃ P, Hid (whichN t xs = P) := ⟨_, Lib.hid rfl⟩
  rw [HP.out]
  go_enter Tryz.func16, Tryz.ntmps16
  go_wp2
  go_loop [5] (fun iv => ∃ j : Nat, j ≤ n ∧ iv = .int .i64 (j : Int) ∧ Hid (whichP t xs = (whichP t (xs.drop j)).map (· + j))) (fun iv => n - (intOf iv).toNat)
  case atStart => exact ⟨0, Nat.zero_le _, rfl, by show _ = _; simp⟩
  case round =>
    obtain ⟨j, hj, rfl, hp⟩ := hrel
    by_cases hgo : j < n
    · have hjl : j < xs.length := by rw [HN.out]; exact hgo
      obtain ⟨g, rfl, hg, c0⟩ := HB.out j hjl
      have hpd : Hid (whichP t (xs.drop j) = if xs[j] = t then some 0 else (whichP t (xs.drop (j + 1))).map (· + 1)) := by
        show _ = _
        rw [List.drop_eq_getElem_cons hjl]; rfl
      generalize xs[j] = x at *
      by_cases hx : x = t
      · have hxx : (x == t) = true := by simp [hx]
        have hP : P = j + 1 := by
          rw [← HP.out]
          unfold whichN
          rw [hp.out, hpd.out, if_pos hx]
          simp
        clear hx HP hp hpd
        subst hP
        go_wp2
        go_ret
        exact ⟨by go_num, rfl⟩
      · have hxx : (x == t) = false := by simpa using hx
        have hp2 : Hid (whichP t xs = (whichP t (xs.drop (j + 1))).map (· + (j + 1))) := by
          show _ = _
          rw [hp.out, hpd.out, if_neg hx, Option.map_map]
          congr 1
          funext i
          show i + 1 + j = i + (j + 1)
          omega
        clear hx hpd
        go_wp2
        exact ⟨⟨j + 1, by omega, by go_num, hp2.out⟩, by simp [intOf]; omega⟩
    · have hjn : j = n := by omega
      subst hjn
      have hP : P = 0 := by
        rw [← HP.out]
        unfold whichN
        rw [hp.out, List.drop_eq_nil_of_le (by rw [HN.out]; exact Nat.le_refl _)]; rfl
      clear HP hp
      subst hP
      go_wp2
      go_ret
      exact ⟨rfl, rfl⟩
/- The plain spec's five variables. -/
def iv (n : Int) : Value := .int .i64 n
def uv (n : Int) : Value := .int .u64 n
def z7 : List Value := [iv 0, iv 0] ++ qOf (false, 0, 0)
def stR (N : Wd → Int) (Q : Wd → Bool × Nat × Nat) : List Value := [iv (N [100, 101, 101, 112]), iv (N [108, 101, 97, 115, 116])] ++ qOf (Q [103, 97, 105, 110])
def stF (N : Wd → Int) : List Value := [iv (N [116, 114, 101, 101, 115]), iv (N [115, 111, 109, 101]), uv (N [115, 101, 101, 100])] ++ z7
def stB (N : Wd → Int) (Q : Wd → Bool × Nat × Nat) : List Value := [iv (N [108, 111, 115, 115]), iv (N [114, 111, 117, 110, 100, 115])] ++ qOf (Q [114, 97, 116, 101]) ++ qOf (Q [97, 116]) ++ z7
def stD (N : Wd → Int) (Q : Wd → Bool × Nat × Nat) : List Value := qOf (Q [114, 97, 116, 101]) ++ qOf (Q [107, 101, 101, 112]) ++ [iv (N [115, 116, 101, 112, 115]), iv (N [98, 97, 116, 99, 104]), iv (N [98, 105, 116, 115]), uv (N [115, 101, 101, 100])]
def z0 : Wd → Int := fun _ => 0
def q0 : Wd → Bool × Nat × Nat := fun _ => (false, 0, 0)
def stS (kind : Int) (goal cols sizes : Value) (N : Wd → Int) (Q : Wd → Bool × Nat × Nat) : List Value :=
  [iv kind, iv (N [104, 111, 119]), iv (N [97, 120, 101, 115]), iv (N [99, 111, 117, 110, 116]), goal, cols, uv (N [115, 101, 101, 100])] ++ qOf (Q [98, 121]) ++ qOf (Q [115, 112, 97, 110]) ++ z7 ++ stF z0 ++ stB z0 q0 ++ [sizes, iv (N [98, 101, 110, 100]), iv (N [98, 105, 116, 115])] ++ stD z0 q0
def upd {α : Type} (N : Wd → α) (k : Wd) (v : α) : Wd → α := fun k' => if k' = k then v else N k'
/- The five of them in a world, and the two rows that grow. -/
structure SInv (wq wr : World) (gs gr gf gb gd B0 : Nat) (S R F B D : Array Value) (seen szv : Value) (ks : List Wd) (zs : List Int) : Prop where
  alt : Alt wq wr (fun k => k = gs ∨ k = gr ∨ k = gf ∨ k = gb ∨ k = gd)
  bs : Blk wr gs 42 S
  br : Blk wr gr 34 R
  bf : Blk wr gf 36 F
  bb : Blk wr gb 38 B
  bd : Blk wr gd 40 D
  seen : wr.ownsRow B0 9 1 seen ks.length (ks.map sv)
  sz : wr.ownsRow B0 3 1 szv zs.length (zs.map iv)
  lt : gs < gr ∧ gr < gf ∧ gf < gb ∧ gb < gd ∧ gd < B0 ∧ wq.heap.size ≤ B0
section
variable {wq wr w' : World} {gs gr gf gb gd B0 : Nat} {S R F B D : Array Value} {seen szv : Value} {ks : List Wd} {zs : List Int}
theorem SInv.below (h : SInv wq wr gs gr gf gb gd B0 S R F B D seen szv ks zs) (hb : Below wr.heap.size wr w') : SInv wq w' gs gr gf gb gd B0 S R F B D seen szv ks zs :=
  ⟨h.alt.then_below hb, h.bs.keep hb, h.br.keep hb, h.bf.keep hb, h.bb.keep hb, h.bd.keep hb, own_belowS h.seen hb, own_belowS h.sz hb, h.lt⟩
theorem SInv.drewN (h : SInv wq wr gs gr gf gb gd B0 S R F B D seen szv ks zs) (n : Nat) : SInv wq (wr.drewN n) gs gr gf gb gd B0 S R F B D seen szv ks zs :=
  ⟨h.alt.drewN n, h.bs, h.br, h.bf, h.bb, h.bd, h.seen, h.sz, h.lt⟩
theorem SInv.setS (h : SInv wq wr gs gr gf gb gd B0 S R F B D seen szv ks zs) (i : Nat) (v : Value) : SInv wq (wr.setCell ⟨gs, i, none⟩ v) gs gr gf gb gd B0 (S.setIfInBounds i v) R F B D seen szv ks zs := by
  obtain ⟨l1, l2, l3, l4, l5, l6⟩ := h.lt
  have ha : Alt wr (wr.setCell ⟨gs, i, none⟩ v) (fun x => x = gs) := Alt.set_ (p := fun x => x = gs) (a := ⟨gs, i, none⟩) (Alt.refl _ _) rfl v
  refine ⟨h.alt.set_ (a := ⟨gs, i, none⟩) (.inl rfl) v, h.bs.set_ i v, h.br.far (p := ⟨gs, i, none⟩) ?_ v, h.bf.far (p := ⟨gs, i, none⟩) ?_ v, h.bb.far (p := ⟨gs, i, none⟩) ?_ v, h.bd.far (p := ⟨gs, i, none⟩) ?_ v, own_alt h.seen ha (fun g hg e => ?_), own_alt h.sz ha (fun g hg e => ?_), h.lt⟩ <;> (try dsimp only) <;> omega
theorem SInv.setR (h : SInv wq wr gs gr gf gb gd B0 S R F B D seen szv ks zs) (i : Nat) (v : Value) : SInv wq (wr.setCell ⟨gr, i, none⟩ v) gs gr gf gb gd B0 S (R.setIfInBounds i v) F B D seen szv ks zs := by
  obtain ⟨l1, l2, l3, l4, l5, l6⟩ := h.lt
  have ha : Alt wr (wr.setCell ⟨gr, i, none⟩ v) (fun x => x = gr) := Alt.set_ (p := fun x => x = gr) (a := ⟨gr, i, none⟩) (Alt.refl _ _) rfl v
  refine ⟨h.alt.set_ (a := ⟨gr, i, none⟩) (.inr (.inl rfl)) v, h.bs.far (p := ⟨gr, i, none⟩) ?_ v, h.br.set_ i v, h.bf.far (p := ⟨gr, i, none⟩) ?_ v, h.bb.far (p := ⟨gr, i, none⟩) ?_ v, h.bd.far (p := ⟨gr, i, none⟩) ?_ v, own_alt h.seen ha (fun g hg e => ?_), own_alt h.sz ha (fun g hg e => ?_), h.lt⟩ <;> (try dsimp only) <;> omega
theorem SInv.setF (h : SInv wq wr gs gr gf gb gd B0 S R F B D seen szv ks zs) (i : Nat) (v : Value) : SInv wq (wr.setCell ⟨gf, i, none⟩ v) gs gr gf gb gd B0 S R (F.setIfInBounds i v) B D seen szv ks zs := by
  obtain ⟨l1, l2, l3, l4, l5, l6⟩ := h.lt
  have ha : Alt wr (wr.setCell ⟨gf, i, none⟩ v) (fun x => x = gf) := Alt.set_ (p := fun x => x = gf) (a := ⟨gf, i, none⟩) (Alt.refl _ _) rfl v
  refine ⟨h.alt.set_ (a := ⟨gf, i, none⟩) (.inr (.inr (.inl rfl))) v, h.bs.far (p := ⟨gf, i, none⟩) ?_ v, h.br.far (p := ⟨gf, i, none⟩) ?_ v, h.bf.set_ i v, h.bb.far (p := ⟨gf, i, none⟩) ?_ v, h.bd.far (p := ⟨gf, i, none⟩) ?_ v, own_alt h.seen ha (fun g hg e => ?_), own_alt h.sz ha (fun g hg e => ?_), h.lt⟩ <;> (try dsimp only) <;> omega
theorem SInv.setB (h : SInv wq wr gs gr gf gb gd B0 S R F B D seen szv ks zs) (i : Nat) (v : Value) : SInv wq (wr.setCell ⟨gb, i, none⟩ v) gs gr gf gb gd B0 S R F (B.setIfInBounds i v) D seen szv ks zs := by
  obtain ⟨l1, l2, l3, l4, l5, l6⟩ := h.lt
  have ha : Alt wr (wr.setCell ⟨gb, i, none⟩ v) (fun x => x = gb) := Alt.set_ (p := fun x => x = gb) (a := ⟨gb, i, none⟩) (Alt.refl _ _) rfl v
  refine ⟨h.alt.set_ (a := ⟨gb, i, none⟩) (.inr (.inr (.inr (.inl rfl)))) v, h.bs.far (p := ⟨gb, i, none⟩) ?_ v, h.br.far (p := ⟨gb, i, none⟩) ?_ v, h.bf.far (p := ⟨gb, i, none⟩) ?_ v, h.bb.set_ i v, h.bd.far (p := ⟨gb, i, none⟩) ?_ v, own_alt h.seen ha (fun g hg e => ?_), own_alt h.sz ha (fun g hg e => ?_), h.lt⟩ <;> (try dsimp only) <;> omega
theorem SInv.setD (h : SInv wq wr gs gr gf gb gd B0 S R F B D seen szv ks zs) (i : Nat) (v : Value) : SInv wq (wr.setCell ⟨gd, i, none⟩ v) gs gr gf gb gd B0 S R F B (D.setIfInBounds i v) seen szv ks zs := by
  obtain ⟨l1, l2, l3, l4, l5, l6⟩ := h.lt
  have ha : Alt wr (wr.setCell ⟨gd, i, none⟩ v) (fun x => x = gd) := Alt.set_ (p := fun x => x = gd) (a := ⟨gd, i, none⟩) (Alt.refl _ _) rfl v
  refine ⟨h.alt.set_ (a := ⟨gd, i, none⟩) (.inr (.inr (.inr (.inr rfl)))) v, h.bs.far (p := ⟨gd, i, none⟩) ?_ v, h.br.far (p := ⟨gd, i, none⟩) ?_ v, h.bf.far (p := ⟨gd, i, none⟩) ?_ v, h.bb.far (p := ⟨gd, i, none⟩) ?_ v, h.bd.set_ i v, own_alt h.seen ha (fun g hg e => ?_), own_alt h.sz ha (fun g hg e => ?_), h.lt⟩ <;> (try dsimp only) <;> omega
/- One more key seen. -/
theorem SInv.key (h : SInv wq wr gs gr gf gb gd B0 S R F B D seen szv ks zs) {w1 : World} {v' : Value} {k : Wd} {o : Obj} (hg : (wr.alloc o).grownBy w1 seen.ownBlock) (hown : w1.ownsRow B0 9 1 v' (ks.length + 1) (ks.map sv ++ [sv k])) : SInv wq w1 gs gr gf gb gd B0 S R F B D v' szv (ks ++ [k]) zs := by
  obtain ⟨l1, l2, l3, l4, l5, l6⟩ := h.lt
  have hne : ∀ g, g < B0 → some g ≠ seen.ownBlock := fun g hgl e => by
    have := (own_base h.seen e.symm).1
    omega
  refine ⟨(h.alt.alloc o).grown hg (fun g e hl => by have := (own_base h.seen e).1; omega), (h.bs.alloc o).grown hg (hne _ (by omega)), (h.br.alloc o).grown hg (hne _ (by omega)), (h.bf.alloc o).grown hg (hne _ (by omega)), (h.bb.alloc o).grown hg (hne _ (by omega)), (h.bd.alloc o).grown hg (hne _ (by omega)), ?_, ?_, h.lt⟩
  · rw [List.length_append, List.map_append]; exact hown
  · refine (h.sz.alloc o).kept hg ?_
    rcases hv : szv.ownBlock with _ | g
    · exact .inl rfl
    · refine .inr fun e => ?_
      rcases hz : seen.ownBlock with _ | g'
      · rw [hz] at e; cases e
      · rw [hz] at e
        injection e with e
        subst e
        obtain ⟨c1, f1, e1⟩ := own_type h.sz g hv (own_base h.sz hv).2
        obtain ⟨c2, f2, e2⟩ := own_type h.seen g hz (own_base h.sz hv).2
        rw [e1] at e2
        injection e2 with e2
        injection e2 with _ e2
        exact absurd e2 (by decide)
/- One more size, before the store of the row. -/
theorem SInv.size (h : SInv wq wr gs gr gf gb gd B0 S R F B D seen szv ks zs) {w1 : World} {v' : Value} {n : Int} {o : Obj} (hg : (wr.alloc o).grownBy w1 szv.ownBlock) (hown : w1.ownsRow B0 3 1 v' (zs.length + 1) (zs.map iv ++ [iv n])) : SInv wq w1 gs gr gf gb gd B0 S R F B D seen v' ks (zs ++ [n]) := by
  obtain ⟨l1, l2, l3, l4, l5, l6⟩ := h.lt
  have hne : ∀ g, g < B0 → some g ≠ szv.ownBlock := fun g hgl e => by
    have := (own_base h.sz e.symm).1
    omega
  refine ⟨(h.alt.alloc o).grown hg (fun g e hl => by have := (own_base h.sz e).1; omega), (h.bs.alloc o).grown hg (hne _ (by omega)), (h.br.alloc o).grown hg (hne _ (by omega)), (h.bf.alloc o).grown hg (hne _ (by omega)), (h.bb.alloc o).grown hg (hne _ (by omega)), (h.bd.alloc o).grown hg (hne _ (by omega)), ?_, ?_, h.lt⟩
  · refine (h.seen.alloc o).kept hg ?_
    rcases hv : seen.ownBlock with _ | g
    · exact .inl rfl
    · refine .inr fun e => ?_
      rcases hz : szv.ownBlock with _ | g'
      · rw [hz] at e; cases e
      · rw [hz] at e
        injection e with e
        subst e
        obtain ⟨c1, f1, e1⟩ := own_type h.seen g hv (own_base h.seen hv).2
        obtain ⟨c2, f2, e2⟩ := own_type h.sz g hz (own_base h.seen hv).2
        rw [e1] at e2
        injection e2 with e2
        injection e2 with _ e2
        exact absurd e2 (by decide)
  · rw [List.length_append, List.map_append]; exact hown
end
end Go.Proofs.YtelehhfnomdneaaGreatDoor.Sp
namespace Go.Proofs.YtelehhfnomdneaaGreatDoor.Sp
open Go Go.RowKit Ut Tc

def StI (wv wr : World) (gs gr B0 : Nat) (KD : Int) (goal cols szv : Value) (N : Wd → Int) (Q : Wd → Bool × Nat × Nat) (seen : Value) (ks : List Wd) (zs : List Int) : Prop :=
  SInv wv wr gs gr (gr + 1) (gr + 1 + 1) (gr + 1 + 1 + 1) B0 ⟨stS KD goal cols szv N Q⟩ ⟨stR N Q⟩ ⟨stF N⟩ ⟨stB N Q⟩ ⟨stD N Q⟩ seen szv ks zs
def nI (acc : Acc) : Wd → Int := fun k => (nL acc k : Nat)
section
variable {wv wr : World} {gs gr B0 : Nat} {KD : Int} {goal cols szv seen : Value} {N : Wd → Int} {Q : Wd → Bool × Nat × Nat} {ks : List Wd} {zs : List Int}
theorem StI.k_axes (h : StI wv wr gs gr B0 KD goal cols szv N Q seen ks zs) (n : Int) : StI wv (wr.setCell ⟨gs, 2, none⟩ (iv n)) gs gr B0 KD goal cols szv (upd N [97, 120, 101, 115] n) Q seen ks zs := h.setS 2 (iv n)
theorem StI.k_count (h : StI wv wr gs gr B0 KD goal cols szv N Q seen ks zs) (n : Int) : StI wv (wr.setCell ⟨gs, 3, none⟩ (iv n)) gs gr B0 KD goal cols szv (upd N [99, 111, 117, 110, 116] n) Q seen ks zs := h.setS 3 (iv n)
theorem StI.k_how (h : StI wv wr gs gr B0 KD goal cols szv N Q seen ks zs) (n : Int) : StI wv (wr.setCell ⟨gs, 1, none⟩ (iv n)) gs gr B0 KD goal cols szv (upd N [104, 111, 119] n) Q seen ks zs := h.setS 1 (iv n)
theorem StI.k_bend (h : StI wv wr gs gr B0 KD goal cols szv N Q seen ks zs) (n : Int) : StI wv (wr.setCell ⟨gs, 54, none⟩ (iv n)) gs gr B0 KD goal cols szv (upd N [98, 101, 110, 100] n) Q seen ks zs := h.setS 54 (iv n)
theorem StI.k_bits (h : StI wv wr gs gr B0 KD goal cols szv N Q seen ks zs) (n : Int) : StI wv ((wr.setCell ⟨gs, 55, none⟩ (iv n)).setCell ⟨(gr + 1 + 1 + 1), 12, none⟩ (iv n)) gs gr B0 KD goal cols szv (upd N [98, 105, 116, 115] n) Q seen ks zs := (h.setS 55 (iv n)).setD 12 (iv n)
theorem StI.k_seed (h : StI wv wr gs gr B0 KD goal cols szv N Q seen ks zs) (n : Int) : StI wv (((wr.setCell ⟨gs, 6, none⟩ (uv n)).setCell ⟨(gr + 1), 2, none⟩ (uv n)).setCell ⟨(gr + 1 + 1 + 1), 13, none⟩ (uv n)) gs gr B0 KD goal cols szv (upd N [115, 101, 101, 100] n) Q seen ks zs := ((h.setS 6 (uv n)).setF 2 (uv n)).setD 13 (uv n)
theorem StI.k_deep (h : StI wv wr gs gr B0 KD goal cols szv N Q seen ks zs) (n : Int) : StI wv (wr.setCell ⟨gr, 0, none⟩ (iv n)) gs gr B0 KD goal cols szv (upd N [100, 101, 101, 112] n) Q seen ks zs := h.setR 0 (iv n)
theorem StI.k_least (h : StI wv wr gs gr B0 KD goal cols szv N Q seen ks zs) (n : Int) : StI wv (wr.setCell ⟨gr, 1, none⟩ (iv n)) gs gr B0 KD goal cols szv (upd N [108, 101, 97, 115, 116] n) Q seen ks zs := h.setR 1 (iv n)
theorem StI.k_trees (h : StI wv wr gs gr B0 KD goal cols szv N Q seen ks zs) (n : Int) : StI wv (wr.setCell ⟨(gr + 1), 0, none⟩ (iv n)) gs gr B0 KD goal cols szv (upd N [116, 114, 101, 101, 115] n) Q seen ks zs := h.setF 0 (iv n)
theorem StI.k_some (h : StI wv wr gs gr B0 KD goal cols szv N Q seen ks zs) (n : Int) : StI wv (wr.setCell ⟨(gr + 1), 1, none⟩ (iv n)) gs gr B0 KD goal cols szv (upd N [115, 111, 109, 101] n) Q seen ks zs := h.setF 1 (iv n)
theorem StI.k_rounds (h : StI wv wr gs gr B0 KD goal cols szv N Q seen ks zs) (n : Int) : StI wv (wr.setCell ⟨(gr + 1 + 1), 1, none⟩ (iv n)) gs gr B0 KD goal cols szv (upd N [114, 111, 117, 110, 100, 115] n) Q seen ks zs := h.setB 1 (iv n)
theorem StI.k_loss (h : StI wv wr gs gr B0 KD goal cols szv N Q seen ks zs) (n : Int) : StI wv (wr.setCell ⟨(gr + 1 + 1), 0, none⟩ (iv n)) gs gr B0 KD goal cols szv (upd N [108, 111, 115, 115] n) Q seen ks zs := h.setB 0 (iv n)
theorem StI.k_steps (h : StI wv wr gs gr B0 KD goal cols szv N Q seen ks zs) (n : Int) : StI wv (wr.setCell ⟨(gr + 1 + 1 + 1), 10, none⟩ (iv n)) gs gr B0 KD goal cols szv (upd N [115, 116, 101, 112, 115] n) Q seen ks zs := h.setD 10 (iv n)
theorem StI.k_batch (h : StI wv wr gs gr B0 KD goal cols szv N Q seen ks zs) (n : Int) : StI wv (wr.setCell ⟨(gr + 1 + 1 + 1), 11, none⟩ (iv n)) gs gr B0 KD goal cols szv (upd N [98, 97, 116, 99, 104] n) Q seen ks zs := h.setD 11 (iv n)
theorem StI.k_by (h : StI wv wr gs gr B0 KD goal cols szv N Q seen ks zs) (q : Bool × Nat × Nat) : StI wv (((((wr.setCell ⟨gs, 7, none⟩ (.bool q.1)).setCell ⟨gs, 8, none⟩ (.int .u64 (q.2.1 : Int))).setCell ⟨gs, 9, none⟩ (.string ⟨⟨[]⟩⟩)).setCell ⟨gs, 10, none⟩ (.int .u64 (q.2.2 : Int))).setCell ⟨gs, 11, none⟩ (.string ⟨⟨[]⟩⟩)) gs gr B0 KD goal cols szv N (upd Q [98, 121] q) seen ks zs := by
  have e0 : (((((((⟨stS KD goal cols szv N Q⟩ : Array Value).setIfInBounds 7 (.bool q.1)).setIfInBounds 8 (.int .u64 (q.2.1 : Int))).setIfInBounds 9 (.string ⟨⟨[]⟩⟩)).setIfInBounds 10 (.int .u64 (q.2.2 : Int))).setIfInBounds 11 (.string ⟨⟨[]⟩⟩)) : Array Value) = ⟨stS KD goal cols szv N (upd Q [98, 121] q)⟩ := by kernel_rfl
  have h5 := ((((h.setS 7 (.bool q.1)).setS 8 (.int .u64 (q.2.1 : Int))).setS 9 (.string ⟨⟨[]⟩⟩)).setS 10 (.int .u64 (q.2.2 : Int))).setS 11 (.string ⟨⟨[]⟩⟩)
  rw [e0] at h5
  exact h5
theorem StI.k_span (h : StI wv wr gs gr B0 KD goal cols szv N Q seen ks zs) (q : Bool × Nat × Nat) : StI wv (((((wr.setCell ⟨gs, 12, none⟩ (.bool q.1)).setCell ⟨gs, 13, none⟩ (.int .u64 (q.2.1 : Int))).setCell ⟨gs, 14, none⟩ (.string ⟨⟨[]⟩⟩)).setCell ⟨gs, 15, none⟩ (.int .u64 (q.2.2 : Int))).setCell ⟨gs, 16, none⟩ (.string ⟨⟨[]⟩⟩)) gs gr B0 KD goal cols szv N (upd Q [115, 112, 97, 110] q) seen ks zs := by
  have e0 : (((((((⟨stS KD goal cols szv N Q⟩ : Array Value).setIfInBounds 12 (.bool q.1)).setIfInBounds 13 (.int .u64 (q.2.1 : Int))).setIfInBounds 14 (.string ⟨⟨[]⟩⟩)).setIfInBounds 15 (.int .u64 (q.2.2 : Int))).setIfInBounds 16 (.string ⟨⟨[]⟩⟩)) : Array Value) = ⟨stS KD goal cols szv N (upd Q [115, 112, 97, 110] q)⟩ := by kernel_rfl
  have h5 := ((((h.setS 12 (.bool q.1)).setS 13 (.int .u64 (q.2.1 : Int))).setS 14 (.string ⟨⟨[]⟩⟩)).setS 15 (.int .u64 (q.2.2 : Int))).setS 16 (.string ⟨⟨[]⟩⟩)
  rw [e0] at h5
  exact h5
theorem StI.k_gain (h : StI wv wr gs gr B0 KD goal cols szv N Q seen ks zs) (q : Bool × Nat × Nat) : StI wv (((((wr.setCell ⟨gr, 2, none⟩ (.bool q.1)).setCell ⟨gr, 3, none⟩ (.int .u64 (q.2.1 : Int))).setCell ⟨gr, 4, none⟩ (.string ⟨⟨[]⟩⟩)).setCell ⟨gr, 5, none⟩ (.int .u64 (q.2.2 : Int))).setCell ⟨gr, 6, none⟩ (.string ⟨⟨[]⟩⟩)) gs gr B0 KD goal cols szv N (upd Q [103, 97, 105, 110] q) seen ks zs := by
  have e0 : (((((((⟨stR N Q⟩ : Array Value).setIfInBounds 2 (.bool q.1)).setIfInBounds 3 (.int .u64 (q.2.1 : Int))).setIfInBounds 4 (.string ⟨⟨[]⟩⟩)).setIfInBounds 5 (.int .u64 (q.2.2 : Int))).setIfInBounds 6 (.string ⟨⟨[]⟩⟩)) : Array Value) = ⟨stR N (upd Q [103, 97, 105, 110] q)⟩ := by kernel_rfl
  have h5 := ((((h.setR 2 (.bool q.1)).setR 3 (.int .u64 (q.2.1 : Int))).setR 4 (.string ⟨⟨[]⟩⟩)).setR 5 (.int .u64 (q.2.2 : Int))).setR 6 (.string ⟨⟨[]⟩⟩)
  rw [e0] at h5
  exact h5
theorem StI.k_rate (h : StI wv wr gs gr B0 KD goal cols szv N Q seen ks zs) (q : Bool × Nat × Nat) : StI wv ((((((((((wr.setCell ⟨(gr + 1 + 1), 2, none⟩ (.bool q.1)).setCell ⟨(gr + 1 + 1), 3, none⟩ (.int .u64 (q.2.1 : Int))).setCell ⟨(gr + 1 + 1), 4, none⟩ (.string ⟨⟨[]⟩⟩)).setCell ⟨(gr + 1 + 1), 5, none⟩ (.int .u64 (q.2.2 : Int))).setCell ⟨(gr + 1 + 1), 6, none⟩ (.string ⟨⟨[]⟩⟩)).setCell ⟨(gr + 1 + 1 + 1), 0, none⟩ (.bool q.1)).setCell ⟨(gr + 1 + 1 + 1), 1, none⟩ (.int .u64 (q.2.1 : Int))).setCell ⟨(gr + 1 + 1 + 1), 2, none⟩ (.string ⟨⟨[]⟩⟩)).setCell ⟨(gr + 1 + 1 + 1), 3, none⟩ (.int .u64 (q.2.2 : Int))).setCell ⟨(gr + 1 + 1 + 1), 4, none⟩ (.string ⟨⟨[]⟩⟩)) gs gr B0 KD goal cols szv N (upd Q [114, 97, 116, 101] q) seen ks zs := by
  have e0 : (((((((⟨stB N Q⟩ : Array Value).setIfInBounds 2 (.bool q.1)).setIfInBounds 3 (.int .u64 (q.2.1 : Int))).setIfInBounds 4 (.string ⟨⟨[]⟩⟩)).setIfInBounds 5 (.int .u64 (q.2.2 : Int))).setIfInBounds 6 (.string ⟨⟨[]⟩⟩)) : Array Value) = ⟨stB N (upd Q [114, 97, 116, 101] q)⟩ := by kernel_rfl
  have e1 : (((((((⟨stD N Q⟩ : Array Value).setIfInBounds 0 (.bool q.1)).setIfInBounds 1 (.int .u64 (q.2.1 : Int))).setIfInBounds 2 (.string ⟨⟨[]⟩⟩)).setIfInBounds 3 (.int .u64 (q.2.2 : Int))).setIfInBounds 4 (.string ⟨⟨[]⟩⟩)) : Array Value) = ⟨stD N (upd Q [114, 97, 116, 101] q)⟩ := by kernel_rfl
  have h5 := (((((((((h.setB 2 (.bool q.1)).setB 3 (.int .u64 (q.2.1 : Int))).setB 4 (.string ⟨⟨[]⟩⟩)).setB 5 (.int .u64 (q.2.2 : Int))).setB 6 (.string ⟨⟨[]⟩⟩)).setD 0 (.bool q.1)).setD 1 (.int .u64 (q.2.1 : Int))).setD 2 (.string ⟨⟨[]⟩⟩)).setD 3 (.int .u64 (q.2.2 : Int))).setD 4 (.string ⟨⟨[]⟩⟩)
  rw [e0] at h5
  rw [e1] at h5
  exact h5
theorem StI.k_keep (h : StI wv wr gs gr B0 KD goal cols szv N Q seen ks zs) (q : Bool × Nat × Nat) : StI wv (((((wr.setCell ⟨(gr + 1 + 1 + 1), 5, none⟩ (.bool q.1)).setCell ⟨(gr + 1 + 1 + 1), 6, none⟩ (.int .u64 (q.2.1 : Int))).setCell ⟨(gr + 1 + 1 + 1), 7, none⟩ (.string ⟨⟨[]⟩⟩)).setCell ⟨(gr + 1 + 1 + 1), 8, none⟩ (.int .u64 (q.2.2 : Int))).setCell ⟨(gr + 1 + 1 + 1), 9, none⟩ (.string ⟨⟨[]⟩⟩)) gs gr B0 KD goal cols szv N (upd Q [107, 101, 101, 112] q) seen ks zs := by
  have e0 : (((((((⟨stD N Q⟩ : Array Value).setIfInBounds 5 (.bool q.1)).setIfInBounds 6 (.int .u64 (q.2.1 : Int))).setIfInBounds 7 (.string ⟨⟨[]⟩⟩)).setIfInBounds 8 (.int .u64 (q.2.2 : Int))).setIfInBounds 9 (.string ⟨⟨[]⟩⟩)) : Array Value) = ⟨stD N (upd Q [107, 101, 101, 112] q)⟩ := by kernel_rfl
  have h5 := ((((h.setD 5 (.bool q.1)).setD 6 (.int .u64 (q.2.1 : Int))).setD 7 (.string ⟨⟨[]⟩⟩)).setD 8 (.int .u64 (q.2.2 : Int))).setD 9 (.string ⟨⟨[]⟩⟩)
  rw [e0] at h5
  exact h5
theorem StI.k_at (h : StI wv wr gs gr B0 KD goal cols szv N Q seen ks zs) (q : Bool × Nat × Nat) : StI wv (((((wr.setCell ⟨(gr + 1 + 1), 7, none⟩ (.bool q.1)).setCell ⟨(gr + 1 + 1), 8, none⟩ (.int .u64 (q.2.1 : Int))).setCell ⟨(gr + 1 + 1), 9, none⟩ (.string ⟨⟨[]⟩⟩)).setCell ⟨(gr + 1 + 1), 10, none⟩ (.int .u64 (q.2.2 : Int))).setCell ⟨(gr + 1 + 1), 11, none⟩ (.string ⟨⟨[]⟩⟩)) gs gr B0 KD goal cols szv N (upd Q [97, 116] q) seen ks zs := by
  have e0 : (((((((⟨stB N Q⟩ : Array Value).setIfInBounds 7 (.bool q.1)).setIfInBounds 8 (.int .u64 (q.2.1 : Int))).setIfInBounds 9 (.string ⟨⟨[]⟩⟩)).setIfInBounds 10 (.int .u64 (q.2.2 : Int))).setIfInBounds 11 (.string ⟨⟨[]⟩⟩)) : Array Value) = ⟨stB N (upd Q [97, 116] q)⟩ := by kernel_rfl
  have h5 := ((((h.setB 7 (.bool q.1)).setB 8 (.int .u64 (q.2.1 : Int))).setB 9 (.string ⟨⟨[]⟩⟩)).setB 10 (.int .u64 (q.2.2 : Int))).setB 11 (.string ⟨⟨[]⟩⟩)
  rw [e0] at h5
  exact h5
theorem SInv.k_sizes {R F B D : Array Value} {gf gb gd : Nat} {v : Value} (h : SInv wv wr gs gr gf gb gd B0 ⟨stS KD goal cols szv N Q⟩ R F B D seen v ks zs) : SInv wv (wr.setCell ⟨gs, 53, none⟩ v) gs gr gf gb gd B0 ⟨stS KD goal cols v N Q⟩ R F B D seen v ks zs := by
  have e : (⟨stS KD goal cols szv N Q⟩ : Array Value).setIfInBounds 53 v = ⟨stS KD goal cols v N Q⟩ := by kernel_rfl
  have h5 := h.setS 53 v
  rw [e] at h5
  exact h5
end
theorem keys_snoc (acc : Acc) (k t : Wd) : keysOf (acc ++ [(k, t)]) = keysOf acc ++ [k] := by unfold keysOf; simp
theorem nI_upd {acc : Acc} {k t : Wd} (hk : k ∉ keysOf acc) {n : Nat} (h : numOf k t = some n) : nI (acc ++ [(k, t)]) = upd (nI acc) k (n : Int) := by
  funext k'
  unfold nI upd nL
  rw [nO_snoc, keys_snoc]
  by_cases e : k' = k
  · subst e
    rw [nO_fresh hk, if_pos rfl, h, if_pos rfl]; rfl
  · rw [if_neg (fun e' => e e'.symm), if_neg e, Option.or_none]
    congr 2
    simp only [List.mem_append, List.mem_singleton, not_or]
    by_cases hl : k' = leastK
    · simp only [hl, true_and]
      have : leastK ≠ k := fun e' => e (hl.trans e')
      simp [this]
    · simp [hl]
theorem nI_same {acc : Acc} {k t : Wd} (hl : k ≠ leastK) (h : numOf k t = none) : nI (acc ++ [(k, t)]) = nI acc := by
  funext k'
  unfold nI nL
  rw [nO_snoc, keys_snoc, h]
  have : (if k = k' then (none : Option Nat) else none) = none := by split <;> rfl
  rw [this, Option.or_none]
  congr 2
  simp only [List.mem_append, List.mem_singleton, not_or]
  simp [Ne.symm hl]
theorem fD_upd {acc : Acc} {k t : Wd} (hk : k ∉ keysOf acc) {q : Bool × Nat × Nat} (h : fracOf k t = some q) : fD (acc ++ [(k, t)]) = upd (fD acc) k q := by
  funext k'
  unfold fD upd
  rw [fO_snoc]
  by_cases e : k' = k
  · subst e
    rw [fO_fresh hk, if_pos rfl, h, if_pos rfl]; rfl
  · rw [if_neg (fun e' => e e'.symm), if_neg e, Option.or_none]
theorem fD_same {acc : Acc} {k t : Wd} (h : fracOf k t = none) : fD (acc ++ [(k, t)]) = fD acc := by
  funext k'
  unfold fD
  rw [fO_snoc, h]
  have : (if k = k' then (none : Option (Bool × Nat × Nat)) else none) = none := by split <;> rfl
  rw [this, Option.or_none]
theorem zs_same {acc : Acc} {k t : Wd} (h : sizesOf k t = none) : sizesP (acc ++ [(k, t)]) = sizesP acc := by
  rw [sizesP_snoc, h]; simp
/- What the loop knows of the words read so far. -/
def Sem (G : Option Acc) (os : List (Option (Wd × Wd))) (i : Nat) (acc : Acc) (N : Wd → Int) (Q : Wd → Bool × Nat × Nat) (okb : Bool) (zs : List Int) : Prop :=
  (okb = true → G = runW acc (os.drop i) ∧ N = nI acc ∧ Q = fD acc ∧ zs = (sizesP acc).map (fun n : Nat => (n : Int))) ∧ (okb = false → G = none)
theorem Sem.step {G : Option Acc} {os : List (Option (Wd × Wd))} {i : Nat} {acc : Acc} {N N' : Wd → Int} {Q Q' : Wd → Bool × Nat × Nat} {okb is : Bool} {zs zs' : List Int} {k t : Wd} (h : Sem G os i acc N Q okb zs)
    (hdr : runW acc (os.drop i) = if okW acc (some (k, t)) = true then runW (addW acc (some (k, t))) (os.drop (i + 1)) else none) (hk : k ∉ keysOf acc) (his : fine k t = is)
    (hn : is = true → N = nI acc → Q = fD acc → zs = (sizesP acc).map (fun n : Nat => (n : Int)) → N' = nI (acc ++ [(k, t)]) ∧ Q' = fD (acc ++ [(k, t)]) ∧ zs' = (sizesP (acc ++ [(k, t)])).map (fun n : Nat => (n : Int))) :
    Sem G os (i + 1) (acc ++ [(k, t)]) N' Q' (okb && is) zs' := by
  have hok : okW acc (some (k, t)) = is := by
    show (decide (k ∉ keysOf acc) && fine k t) = _
    rw [decide_eq_true hk, his]; rfl
  rw [hok] at hdr
  cases okb with
  | false => exact ⟨fun e => (by cases e), fun _ => h.2 rfl⟩
  | true =>
    obtain ⟨h1, h2, h3, h4⟩ := h.1 rfl
    cases is with
    | false => exact ⟨fun e => (by cases e), fun _ => h1.trans hdr⟩
    | true =>
      obtain ⟨g1, g2, g3⟩ := hn rfl h2 h3 h4
      exact ⟨fun _ => ⟨h1.trans hdr, g1, g2, g3⟩, fun e => (by cases e)⟩
/- Each kind of key. -/
def snum (t : Wd) : Nat := (if t = [49, 50, 51, 52, 53, 54, 55, 56, 57, 48] then some 1234567890 else numT t).getD 0
theorem snum_of {t : Wd} {n : Nat} (h : numT t = some n) : snum t = n := by
  unfold snum
  rw [if_neg]
  · rw [h]; rfl
  · rintro rfl
    have h2 : numT [49, 50, 51, 52, 53, 54, 55, 56, 57, 48] = none := rfl
    rw [h2] at h; cases h
theorem snum_le (t : Wd) : snum t ≤ 1234567890 := by
  unfold snum
  split
  · exact Nat.le_refl _
  · cases h : numT t with
    | none => exact Nat.zero_le _
    | some n => have := numT_lt h; show n ≤ _; omega
theorem sem_num {G : Option Acc} {os : List (Option (Wd × Wd))} {i : Nat} {acc : Acc} {N : Wd → Int} {Q : Wd → Bool × Nat × Nat} {okb : Bool} {zs : List Int} {k t : Wd} (h : Sem G os i acc N Q okb zs)
    (hdr : runW acc (os.drop i) = if okW acc (some (k, t)) = true then runW (addW acc (some (k, t))) (os.drop (i + 1)) else none) (hk : k ∉ keysOf acc) (hn : k ∈ numKeys) :
    Sem G os (i + 1) (acc ++ [(k, t)]) (upd N k (snum t : Nat)) Q (okb && (numT t).isSome) zs := by
  refine h.step hdr hk (fine_num hn) (fun his h1 h2 h3 => ?_)
  obtain ⟨n, hn2⟩ := Option.isSome_iff_exists.1 his
  obtain ⟨e1, e2⟩ := num_frac k hn
  have hno : numOf k t = some n := by unfold numOf; rw [num_ch k hn]; exact (if_pos hn).trans hn2
  rw [nI_upd hk hno, fD_same (if_neg e1), zs_same (if_neg e2), snum_of hn2]
  exact ⟨by rw [h1], h2, h3⟩
theorem sem_frac {G : Option Acc} {os : List (Option (Wd × Wd))} {i : Nat} {acc : Acc} {N : Wd → Int} {Q : Wd → Bool × Nat × Nat} {okb : Bool} {zs : List Int} {k t : Wd} (h : Sem G os i acc N Q okb zs)
    (hdr : runW acc (os.drop i) = if okW acc (some (k, t)) = true then runW (addW acc (some (k, t))) (os.drop (i + 1)) else none) (hk : k ∉ keysOf acc) (hn : k ∈ fracKeys) :
    Sem G os (i + 1) (acc ++ [(k, t)]) N (upd Q k ((fracT t).getD (false, 0, 0))) (okb && (fracT t).isSome) zs := by
  refine h.step hdr hk (fine_frac hn) (fun his h1 h2 h3 => ?_)
  obtain ⟨q, hq⟩ := Option.isSome_iff_exists.1 his
  obtain ⟨e1, e2⟩ := frac_num k hn
  have hno : numOf k t = none := by unfold numOf; rw [frac_ch k hn]; exact if_neg e1
  have hfo : fracOf k t = some q := (if_pos hn).trans hq
  have hl : k ≠ leastK := fun e => e1 (e ▸ (by decide))
  rw [nI_same hl hno, fD_upd hk hfo, zs_same (if_neg e2), hq]
  exact ⟨h1, by rw [h2]; rfl, h3⟩
theorem sem_bad {G : Option Acc} {os : List (Option (Wd × Wd))} {i : Nat} {acc : Acc} {N : Wd → Int} {Q : Wd → Bool × Nat × Nat} {okb : Bool} {zs : List Int} {k t : Wd} (h : Sem G os i acc N Q okb zs)
    (hdr : runW acc (os.drop i) = if okW acc (some (k, t)) = true then runW (addW acc (some (k, t))) (os.drop (i + 1)) else none) (hk : k ∉ keysOf acc) (hn : k ∈ badKeys) :
    Sem G os (i + 1) (acc ++ [(k, t)]) N Q (okb && false) zs :=
  h.step hdr hk (fine_bad hn) (fun his => by cases his)
theorem sem_ch {G : Option Acc} {os : List (Option (Wd × Wd))} {i : Nat} {acc : Acc} {N : Wd → Int} {Q : Wd → Bool × Nat × Nat} {okb : Bool} {zs : List Int} {k t : Wd} {l : Ch} (h : Sem G os i acc N Q okb zs)
    (hdr : runW acc (os.drop i) = if okW acc (some (k, t)) = true then runW (addW acc (some (k, t))) (os.drop (i + 1)) else none) (hk : k ∉ keysOf acc) (hl : chOf k = some l) {m : Int} (hm : ∀ n, pickP t l = some n → m = (n : Int)) :
    Sem G os (i + 1) (acc ++ [(k, t)]) (upd N k m) Q (okb && (pickP t l).isSome) zs := by
  refine h.step hdr hk (fine_ch hl) (fun his h1 h2 h3 => ?_)
  obtain ⟨n, hn2⟩ := Option.isSome_iff_exists.1 his
  obtain ⟨e1, e2⟩ := ch_other k (ch_keys hl)
  have hno : numOf k t = some n := by unfold numOf; rw [hl]; exact hn2
  rw [nI_upd hk hno, fD_same (if_neg e1), zs_same (if_neg e2), hm n hn2]
  exact ⟨by rw [h1], h2, h3⟩
theorem sem_sizes {G : Option Acc} {os : List (Option (Wd × Wd))} {i : Nat} {acc : Acc} {N : Wd → Int} {Q : Wd → Bool × Nat × Nat} {okb : Bool} {zs zs' : List Int} {t : Wd} (h : Sem G os i acc N Q okb zs)
    (hdr : runW acc (os.drop i) = if okW acc (some (sizesK, t)) = true then runW (addW acc (some (sizesK, t))) (os.drop (i + 1)) else none) (hk : sizesK ∉ keysOf acc) (hz : ∀ l, numsT (cuts [] t) = some l → zs' = zs ++ l.map (fun n : Nat => (n : Int))) :
    Sem G os (i + 1) (acc ++ [(sizesK, t)]) N Q (okb && (numsT (cuts [] t)).isSome) zs' := by
  refine h.step hdr hk fine_sizes (fun his h1 h2 h3 => ?_)
  obtain ⟨l, hl⟩ := Option.isSome_iff_exists.1 his
  have hso : sizesOf sizesK t = some l := (if_pos rfl).trans hl
  rw [nI_same (by decide) rfl, fD_same rfl, sizesP_snoc, hso, hz l hl, h3]
  exact ⟨h1, h2, by simp⟩
def howW : List Wd := [[112, 108, 97, 105, 110], [114, 97, 110, 103, 101], [115, 112, 114, 101, 97, 100]]
def bendW : List Wd := [[115, 116, 114, 97, 105, 103, 104, 116], [114, 97, 109, 112], [98, 101, 110, 100]]
def lossW : List Wd := [[115, 113, 117, 97, 114, 101, 115], [116, 105, 108, 116]]
theorem how_tab : ∀ t ∈ valsL, (whichN t howW = 0 ∧ pickP t howCh = none) ∨ (whichN t howW = 1 ∧ pickP t howCh = some 0) ∨ (whichN t howW = 2 ∧ pickP t howCh = some 1) ∨ (whichN t howW = 3 ∧ pickP t howCh = some 2) := by decide
theorem bend_tab : ∀ t ∈ valsL, (whichN t bendW = 0 ∧ pickP t bendCh = none) ∨ (whichN t bendW = 1 ∧ pickP t bendCh = some 1) ∨ (whichN t bendW = 2 ∧ pickP t bendCh = some 2) ∨ (whichN t bendW = 3 ∧ pickP t bendCh = some 3) := by decide
theorem loss_tab : ∀ t ∈ valsL, (whichN t lossW = 0 ∧ pickP t lossCh = none) ∨ (whichN t lossW = 1 ∧ pickP t lossCh = some 1) ∨ (whichN t lossW = 2 ∧ pickP t lossCh = some 2) := by decide
theorem which_new (W : World) (xs : List Wd) (t : Wd) {n : Nat} (hn : xs.length = n) (h9 : n ≤ 100) : Calls Tryz.prog 16 #[.slice (some ⟨W.heap.size, 0, none⟩) n n, .string ⟨⟨t⟩⟩] (W.alloc (.cells ⟨xs.map sv⟩ 9)) fun e w' => e = .returned (.int .i64 (whichN t xs : Nat)) ∧ W.alloc (.cells ⟨xs.map sv⟩ 9) = w' := which_any (StrIn.of_blk (Blk.new W _ _)) hn h9 t
theorem howW_eq : (⟨howW.map sv⟩ : Array Value) = #[.string ⟨#[112, 108, 97, 105, 110]⟩, .string ⟨#[114, 97, 110, 103, 101]⟩, .string ⟨#[115, 112, 114, 101, 97, 100]⟩] := rfl
theorem bendW_eq : (⟨bendW.map sv⟩ : Array Value) = #[.string ⟨#[115, 116, 114, 97, 105, 103, 104, 116]⟩, .string ⟨#[114, 97, 109, 112]⟩, .string ⟨#[98, 101, 110, 100]⟩] := rfl
theorem lossW_eq : (⟨lossW.map sv⟩ : Array Value) = #[.string ⟨#[115, 113, 117, 97, 114, 101, 115]⟩, .string ⟨#[116, 105, 108, 116]⟩] := rfl
end Go.Proofs.YtelehhfnomdneaaGreatDoor.Sp
namespace Go.Proofs.YtelehhfnomdneaaGreatDoor.Sp
open Go Go.RowKit Ut Tc

def findB (id : Nat) : Code → Option Code
  | .seq a b => match findB id a with
    | some c => some c
    | none => findB id b
  | .cond _ a b => match findB id a with
    | some c => some c
    | none => findB id b
  | .block i b => if i = id then some (.block i b) else findB id b
  | .loop b => findB id b
  | .scope b => findB id b
  | _ => none
theorem WRow.grown {w w1 : World} {B n S0 : Nat} {v sz : Value} {ts : List Wd} {o : Obj} {xs : List Value} (h : WRow w B v ts) (hown : w.ownsRow S0 3 1 sz n xs) (hg : (w.alloc o).grownBy w1 sz.ownBlock) : WRow w1 B v ts := by
  refine World.ownsRow.kept (World.ownsRow.alloc h o) hg ?_
  rcases hv : v.ownBlock with _ | g
  · exact .inl rfl
  · refine .inr fun e => ?_
    rcases hz : sz.ownBlock with _ | g'
    · rw [hz] at e; cases e
    · rw [hz] at e
      injection e with e
      subst e
      have hlt := (own_base h hv).2
      obtain ⟨c1, f1, e1⟩ := own_type h g hv hlt
      obtain ⟨c2, f2, e2⟩ := own_type hown g hz hlt
      rw [e1] at e2
      injection e2 with e2
      injection e2 with _ e2
      exact absurd e2 (by decide)
theorem SInv.drew1 {wq wr : World} {gs gr gf gb gd B0 : Nat} {S R F B D : Array Value} {seen szv : Value} {ks : List Wd} {zs : List Int} (h : SInv wq wr gs gr gf gb gd B0 S R F B D seen szv ks zs) : SInv wq wr.drew gs gr gf gb gd B0 S R F B D seen szv ks zs :=
  ⟨⟨h.alt.os, h.alt.tape, h.alt.output, h.alt.size, h.alt.block⟩, h.bs, h.br, h.bf, h.bb, h.bd, h.seen, h.sz, h.lt⟩
theorem wp_of_eq {P : Program} {c c' : Code} {Q : Exit → Act → World → Prop} {a : Act} {w : World} (h : c = c') (hw : c.wp P Q a w) : c'.wp P Q a w := h ▸ hw
noncomputable def SWC : Code := (Tryz.f7.body.bind (findB 6)).getD .skip
end Go.Proofs.YtelehhfnomdneaaGreatDoor.Sp
