/-
  book's full as a call of known outcome: its answer is read off the heap's maps; whichever order the loop takes.
-/
import Derived.Test.YtfajabaikainmaaGreatDoorE7
import Derived.Test.YtfajabaikainmaaGreatDoorFl0
namespace Go.Proofs.YtfajabaikainmaaGreatDoor.Fl
open Go Go.RowKit CX
def strOf : Value → Option (List UInt8)
  | .string s => some s.data.toList
  | _ => none
def agOf : Value → Option Value
  | .agg ⟨[.int .i64 _, .int .i64 _, m]⟩ => some m
  | _ => none
noncomputable def cellAt (h : Hp) (i j : Nat) : Option Value := match h.ob i with
  | some (.row B) => B.at j
  | _ => none
noncomputable def lenOf (h : Hp) (v : Value) : Option Nat := match v with
  | .map none => some 0
  | .map (some m) => match h.ob m with
    | some (.map es _ _) => some es.length
    | _ => none
  | _ => none
noncomputable def entOf (h : Hp) (v : Value) : Option Nat := match v with
  | .pointer (some ⟨g, o, none⟩) => match cellAt h g (o + 2) with
    | some v => lenOf h v
    | none => none
  | _ => none
noncomputable def cntE (h : Hp) (name : List UInt8) (es : List (Value × Value)) : Option Nat :=
  List.rec (motive := fun _ => Option Nat) (some 0) (fun e _ ih => match strOf e.1, entOf h e.2, ih with
    | some s, some k, some n => some (cond ((!(s == name)) && decide (0 < k)) (n + 1) n)
    | _, _, _ => none) es
def bornOk (cl : Nat) (bs : List Nat) : Bool := bs.all (fun b => decide (b < cl)) && decide bs.Nodup && decide (bs.length ≤ 1000000)
/- The answer, of a heap's map of names. -/
noncomputable def ansOf (x0 : X) (ks : Nat) (av : List Value) (h : Hp) (name : List UInt8) : Option Ob → Option (Bool × Hp)
  | some (.map es bs cl) => cond (bornOk cl bs) (match cntE h name es, fcall x0 1000 ks av h with
    | some n, some p => match agOf p.1 with
      | some m => match lenOf p.2 m with
        | some k => cond (decide (20 ≤ n)) (some (true, h)) (some (decide (40 ≤ k), p.2))
        | none => none
      | none => none
    | _, _ => none) none
  | _ => none
noncomputable def orcFull (x0 : X) (kf ks : Nat) : Nat → List Value → Hp → Option (Value × Hp) := fun f av h => cond (Nat.beq f kf) (match av with
  | [.pointer (some ⟨gb, ob, none⟩), .string name] => match cellAt h gb (ob + 2) with
    | some (.map (some bm)) => match ansOf x0 ks av h name.data.toList (h.ob bm) with
      | some b => some (.bool b.1, b.2)
      | none => none
    | _ => none
  | _ => none) none

section
variable {E : En} {h : Hp} {w : World}
theorem cellAt_ok (H : HR E h w) {i j : Nat} {v : Value} (hc : cellAt h i j = some v) : ∃ e u, E i = some e ∧ w.cell? ⟨e.blk, j + e.d, none⟩ = some u ∧ VR E v u := by
  unfold cellAt at hc
  split at hc
  · rename_i B hB
    obtain ⟨e, he, cs, fr, h1, h2, h3, h4, h5⟩ := H.obj _ _ hB
    obtain ⟨u, hu, hr⟩ := h4 _ _ hc
    refine ⟨e, u, he, ?_, hr⟩
    unfold World.cell?
    simp only [h1]
    rw [Nat.add_comm]; simpa using hu
  · cases hc
theorem lenOf_ok (H : HR E h w) {v u : Value} {n : Nat} (hl : lenOf h v = some n) (hr : VR E v u) : ∃ m, u = .map m ∧ MapLen w m n := by
  unfold lenOf at hl
  split at hl
  · injection hl with hl; subst hl
    cases hr with
    | plain _ => exact ⟨none, rfl, .inl ⟨rfl, rfl⟩⟩
  · rename_i m
    obtain ⟨e, he, rfl⟩ := hr.map_inv
    split at hl
    · rename_i es bs cl ho
      injection hl with hl; subst hl
      obtain ⟨e', he', fs, h1, h2, h3⟩ := H.obj _ _ ho
      rw [he] at he'; injection he' with he'; subst he'
      exact ⟨some e.blk, rfl, .inr ⟨e.blk, fs, cl, rfl, h1, by rw [← Array.length_toList, ← h2.length]⟩⟩
    · cases hl
  · cases hl
def lenW (w : World) (e : MapEntry) : Nat := match e.val with
  | .pointer (some ⟨g, o, none⟩) => match w.cell? ⟨g, o + 2, none⟩ with
    | some (.map (some r)) => match w.heap[r]? with
      | some (.map es _) => es.size
      | _ => 0
    | _ => 0
  | _ => 0
theorem entOf_ok (H : HR E h w) {e : MapEntry} {v : Value} {n : Nat} {s : ByteArray} (hk : e.key = .string s) (hl : entOf h v = some n) (hr : VR E v e.val) : Good w (lenW w) e ∧ lenW w e = n := by
  unfold entOf at hl
  split at hl
  · rename_i g o
    split at hl
    · rename_i v2 hc
      obtain ⟨e2, u, he, hu, hr2⟩ := cellAt_ok H hc
      obtain ⟨e3, _, he3, hev⟩ := hr.ptr_inv
      have he3 : E g = some e3 := he3
      rw [he] at he3; injection he3 with he3; subst he3
      obtain ⟨m, rfl, hm⟩ := lenOf_ok H hl hr2
      have hu' : w.cell? ⟨e2.blk, o + e2.d + 2, none⟩ = some (.map m) := by rw [← hu]; congr 2; omega
      have hev : e.val = .pointer (some ⟨e2.blk, o + e2.d, none⟩) := hev
      have hlw : lenW w e = n := by
        unfold lenW
        rw [hev]; simp only [hu']
        rcases hm with ⟨rfl, rfl⟩ | ⟨r, es, cl, rfl, h1, h2⟩
        · rfl
        · simp only [h1]; exact h2
      exact ⟨⟨s, e2.blk, o + e2.d, m, hk, hev, hu', by rw [hlw]; exact hm⟩, hlw⟩
    · cases hl
  · cases hl
theorem cntE_ok (H : HR E h w) {name : ByteArray} {es : List (Value × Value)} {fs : List MapEntry} (hf : EsR E es fs) : ∀ {n : Nat}, cntE h name.data.toList es = some n → (∀ e ∈ fs, Good w (lenW w) e) ∧ total (other name (lenW w)) fs = n := by
  induction hf with
  | nil => intro n hn; injection hn with hn; subst hn; exact ⟨fun e he => (by cases he), rfl⟩
  | @cons a b l m hab _ ih =>
    intro n hn
    change (match strOf a.1, entOf h a.2, cntE h name.data.toList l with
      | some s, some k, some n => some (cond ((!(s == name.data.toList)) && decide (0 < k)) (n + 1) n)
      | _, _, _ => none) = some n at hn
    split at hn
    · rename_i s k n1 hs hk h1
      obtain ⟨g, t⟩ := ih h1
      obtain ⟨hkey, hpl, hv⟩ := hab
      obtain ⟨s0, hs0, rfl⟩ : ∃ s0, a.1 = .string s0 ∧ s = s0.data.toList := by
        unfold strOf at hs
        split at hs
        · rename_i s0 h0; injection hs with hs; exact ⟨s0, h0, hs.symm⟩
        · cases hs
      have hbk : b.key = .string s0 := hkey.symm.trans hs0
      obtain ⟨gb, lb⟩ := entOf_ok H hbk hk hv
      refine ⟨fun e he => ?_, ?_⟩
      · rcases List.mem_cons.1 he with rfl | he
        · exact gb
        · exact g e he
      · injection hn with hn
        subst hn
        unfold total at t ⊢
        rw [List.filter_cons]
        have ho : other name (lenW w) b = ((!(s0.data.toList == name.data.toList)) && decide (0 < k)) := by
          unfold other
          rw [hbk, lb]
          simp only [ByteArray.toList_eq]
        rw [ho]
        cases ((!(s0.data.toList == name.data.toList)) && decide (0 < k))
        · exact t
        · show (_ :: _).length = _
          rw [List.length_cons, t]; rfl
    · cases hn
end
theorem agOf_inv {E : En} {v u m : Value} (h : agOf v = some m) (hr : VR E v u) : ∃ (a b : Int) (m' : Value), u = .agg #[.int .i64 a, .int .i64 b, m'] ∧ VR E m m' := by
  unfold agOf at h
  split at h
  · rename_i a b m1
    injection h with h; subst h
    obtain ⟨l', rfl, hl⟩ := hr.agg_inv
    cases hl with
    | cons h1 t =>
      cases t with
      | cons h2 t =>
        cases t with
        | cons h3 t =>
          cases t with
          | nil =>
            rw [VR.plain_inv rfl h1, VR.plain_inv rfl h2]
            exact ⟨_, _, _, rfl, h3⟩
  · cases h
theorem orcFull_ok {x0 : X} (hx : x0.Ok) (hp : x0.P = Tryz.prog) : OrcOk x0.P x0.ng (orcFull x0 17 52) := by
  intro k av h v h' hh E w av' H hg ha
  unfold orcFull at hh
  replace hh := cond_some hh; obtain ⟨h1, hh⟩ := hh
  have h1 := beq_eq h1; subst h1
  split at hh
  · rename_i gb ob name
    split at hh
    · rename_i bm hc
      split at hh
      · rename_i b hans
        injection hh with hh; injection hh with h3 h4; subst h3; subst h4
        obtain ⟨e, u, he, hu, hr⟩ := cellAt_ok H hc
        obtain ⟨em, hem, rfl⟩ := hr.map_inv
        unfold ansOf at hans
        split at hans
        · rename_i es bs cl hob
          replace hans := cond_some hans; obtain ⟨hbo, hans⟩ := hans
          split at hans
          · rename_i n v2 hcnt hrun
            split at hans
            · rename_i m hag
              split at hans
              · rename_i kk hlen
                obtain ⟨em', hem', fs, f1, f2, f3⟩ := H.obj _ _ hob
                rw [hem] at hem'; injection hem' with hem'; subst hem'
                obtain ⟨hgood, htot⟩ := cntE_ok H f2 hcnt
                unfold bornOk at hbo
                rw [Bool.and_eq_true, Bool.and_eq_true] at hbo
                obtain ⟨⟨b1, b2⟩, b3⟩ := hbo
                have b2 := of_decide_eq_true b2
                have b3 := of_decide_eq_true b3
                have hlr : LR E [.pointer (some ⟨gb, ob, none⟩), .string name] [.pointer (some ⟨e.blk, ob + e.d, none⟩), .string name] := .cons (.ptr he) (.cons (.plain rfl) .nil)
                have hav : av' = [.pointer (some ⟨e.blk, ob + e.d, none⟩), .string name] := by
                  cases ha with
                  | cons a1 t =>
                    cases t with
                    | cons a2 t =>
                      cases t with
                      | nil =>
                        obtain ⟨e4, _, he4, rfl⟩ := a1.ptr_inv
                        have he4 : E gb = some e4 := he4
                        rw [he] at he4; injection he4 with he4; subst he4
                        rw [VR.plain_inv rfl a2]
                subst hav
                rw [hp]
                refine (full_any e.blk (ob + e.d) em.blk cl name fs (lenW w) w (by rw [← hu]; congr 2; omega) f1 (fun x hx => ?_) (by rw [f3]; exact b2) hgood ?_ kk (fun w' => ∃ E', Stp E E' h v2.2 w w') (fun w1 hb1 => ?_)).mono ?_
                · have hm : x.born ∈ bs := by rw [← f3]; exact List.mem_map.2 ⟨x, hx, rfl⟩
                  exact of_decide_eq_true (List.all_eq_true.1 b1 _ hm)
                · rw [← Array.length_toList, ← List.length_map (f := (·.born)), f3]; exact b3
                · rw [fcall_eq] at hrun
                  have hcs := xcall_sound hx hrun (H.below hb1) hg hlr
                  rw [hp] at hcs
                  refine hcs.mono ?_
                  rintro e5 w5 ⟨E', u5, rfl, st, hu5⟩
                  obtain ⟨a5, b5, m5, rfl, hm5⟩ := agOf_inv hag hu5
                  obtain ⟨m6, rfl, hml⟩ := lenOf_ok st.hr hlen hm5
                  exact ⟨a5, b5, _, rfl, hml, E', (Stp.of_below H hb1).trans st⟩
                · rw [htot]
                  rintro e6 w6 (⟨h20, rfl, hb6⟩ | ⟨h20, rfl, E', st⟩)
                  · rw [decide_eq_true h20] at hans
                    injection hans with hans; subst hans
                    exact ⟨E, _, rfl, Stp.of_below H hb6, .plain rfl⟩
                  · rw [decide_eq_false (by omega)] at hans
                    injection hans with hans; subst hans
                    exact ⟨E', _, rfl, st, .plain rfl⟩
              · cases hans
            · cases hans
          · cases hans
        · cases hans
      · cases hh
    · cases hh
  · cases hh
end Go.Proofs.YtfajabaikainmaaGreatDoor.Fl
