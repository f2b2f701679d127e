/- Is, by hand, for names of one small letter: the map of calls has longer ones alone. -/
import Derived.Test.YtemgclnkgieldaaGreatDoorVf
set_option maxHeartbeats 1000000
set_option maxRecDepth 100000
namespace Go.Proofs.YtemgclnkgieldaaGreatDoor.Oc
open Go Go.RowKit Dk
theorem zeroI (w:World):(zeroValue 3).run Tryz.prog w = .ok (.int .i64 0) w:=by
 obtain ⟨i,hi,hz,_⟩:=info_parts ztn
 simp[zeroValue,typeInfo,hi,hz]
def callL (m:List (ByteArray×Value))(l:List (ByteArray×Value)):List (ByteArray×Value):=l.foldl (fun m p=>putv m p.1 p.2) m
def calls5:List (ByteArray×Value):=[(⟨#[97,98,115]⟩,.int .i64 9),(⟨#[114,97,109,112]⟩,.int .i64 10),(⟨#[98,101,110,100]⟩,.int .i64 11),(⟨#[109,97,120]⟩,.int .i64 12),(⟨#[109,105,110]⟩,.int .i64 13)]
theorem zu2 (w:World):Calls Tryz.prog 197 #[] w fun e w'=>∃ b,e = .returned (.map (some b))∧MapIs w' KS b (callL [] calls5)∧Below w.heap.size w w':=by
 have h0:=MapIs.new w KS
 obtain ⟨W1,u1,m1,a1,_⟩:=zb9 (P:=Tryz.prog) Tryz.underlying378 Tryz.underlying9 h0 ⟨#[97,98,115]⟩ (.int .i64 9)
 obtain ⟨W2,u2,m2,a2,_⟩:=zb9 (P:=Tryz.prog) Tryz.underlying378 Tryz.underlying9 m1 ⟨#[114,97,109,112]⟩ (.int .i64 10)
 obtain ⟨W3,u3,m3,a3,_⟩:=zb9 (P:=Tryz.prog) Tryz.underlying378 Tryz.underlying9 m2 ⟨#[98,101,110,100]⟩ (.int .i64 11)
 obtain ⟨W4,u4,m4,a4,_⟩:=zb9 (P:=Tryz.prog) Tryz.underlying378 Tryz.underlying9 m3 ⟨#[109,97,120]⟩ (.int .i64 12)
 obtain ⟨W5,u5,m5,a5,_⟩:=zb9 (P:=Tryz.prog) Tryz.underlying378 Tryz.underlying9 m4 ⟨#[109,105,110]⟩ (.int .i64 13)
 have ha:=(((a1.trans a2 (fun _ _ h=>h)).trans a3 (fun _ _ h=>h)).trans a4 (fun _ _ h=>h)).trans a5 (fun _ _ h=>h)
 have hb:Below w.heap.size w W5:=(Below.new1 w _).trans (ha.below (fun k e=>by rw[e];exact Nat.le_refl _) (by simp))
 have v1:(Instr.mapUpdate 378 (.map (some w.heap.size)) (.string ⟨#[97,98,115]⟩) (.int .i64 9)).run Tryz.prog (w.alloc (.map #[] 0)) = .ok () W1:=u1
 have v2:(Instr.mapUpdate 378 (.map (some w.heap.size)) (.string ⟨#[114,97,109,112]⟩) (.int .i64 10)).run Tryz.prog W1 = .ok () W2:=u2
 have v3:(Instr.mapUpdate 378 (.map (some w.heap.size)) (.string ⟨#[98,101,110,100]⟩) (.int .i64 11)).run Tryz.prog W2 = .ok () W3:=u3
 have v4:(Instr.mapUpdate 378 (.map (some w.heap.size)) (.string ⟨#[109,97,120]⟩) (.int .i64 12)).run Tryz.prog W3 = .ok () W4:=u4
 have v5:(Instr.mapUpdate 378 (.map (some w.heap.size)) (.string ⟨#[109,105,110]⟩) (.int .i64 13)).run Tryz.prog W4 = .ok () W5:=u5
 have H5:=Lib.hid m5
 have HB:=Lib.hid hb
 clear h0 u1 u2 u3 u4 u5 m1 m2 m3 m4 m5 a1 a2 a3 a4 a5 ha hb
 go_enter Tryz.func197,Tryz.ntmps197
 have hmk:∀ t W,(Instr.makeMap t none).run Tryz.prog W = .ok (.map (some W.heap.size)) (W.alloc (.map #[] 0)):=fun _ _=>rfl
 go_wp2
 go_ret
 exact ⟨_,rfl,H5.out,HB.out⟩
theorem zjn (w:World)(c:Nat)(h:97≤c∧c≤122):Calls Tryz.prog 195 #[.int .u8 (c:Int)] w fun e w'=>e = .returned (.bool true)∧w=w':=by
 have h1:(97:Int)≤(c:Int):=by omega
 have h2:(c:Int)≤122:=by omega
 go_enter Tryz.func195,Tryz.ntmps195
 go_wp2
 go_ret
 exact ⟨rfl,rfl⟩
theorem zjo (w:World)(c:Nat)(h:97≤c∧c≤122):Calls Tryz.prog 196 #[.int .u8 (c:Int)] w fun e w'=>e = .returned (.bool true)∧w=w':=by
 go_enter Tryz.func196,Tryz.ntmps196
 go_wp2_with (go_at_call 195;refine (zjn w c h).mono ?_;rintro e w' ⟨rfl,rfl⟩)
 go_ret
 exact ⟨rfl,rfl⟩
theorem is_one (c:UInt8)(h:97≤c.toNat∧c.toNat≤122)(hno:lkv (callL [] calls5) ⟨#[c]⟩=none):IsOk ⟨#[c]⟩:=by
 intro w
 have hc:=h
 go_enter Tryz.func82,Tryz.ntmps82
 go_wp2_with (first
  |(go_at_call 195;refine (zjn w c.toNat hc).mono ?_;rintro e w' ⟨rfl,rfl⟩)
  |(go_at_call 196;refine (zjo w c.toNat hc).mono ?_;rintro e w' ⟨rfl,rfl⟩))
 go_loopw [22] (fun v22 wz=>∃ i:Nat,i≤1∧v22 = .int .i64 (i:Int)∧w=wz) (fun v22 _=>1 - (intOf v22).toNat)
 case atStart=>exact ⟨0,Nat.zero_le _,rfl,rfl⟩
 case round =>
  obtain ⟨i,hi,rfl,rfl⟩:=hrel
  rcases (show i=0∨i=1 by omega) with rfl|rfl
  ·go_wp2_with (go_at_call 196;refine (zjo w c.toNat hc).mono ?_;rintro e w' ⟨rfl,rfl⟩)
   go_roundw
   case rel=>exact ⟨1,by omega,by first|rfl|simp,by first|rfl|trivial⟩
   case measure=>simp[intOf]
  ·have hl:∀ W b,MapIs W KS b (callL [] calls5)→(Instr.lookup 378 (.map (some b)) (.string ⟨#[c]⟩) true).run Tryz.prog W = .ok (.tuple #[.int .i64 0,.bool false]) W:=fun W b hm=>by
    have:=ze4 (P:=Tryz.prog) Tryz.underlying378 Tryz.underlying9 (zeroI W) hm ⟨#[c]⟩ true
    rw[hno] at this
    exact this
   have HL:=Lib.hid hl
   clear hl hno
   go_wp2_with (go_at_call 197;refine (zu2 w).mono ?_;rintro e w' ⟨b,rfl,hm,hb⟩;have hlk:=HL.out w' b hm;have HB:=Lib.hid hb;clear hm hb)
   go_ret
   exact ⟨rfl,HB.out⟩
end Go.Proofs.YtemgclnkgieldaaGreatDoor.Oc
