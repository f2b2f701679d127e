/- Models that were read: checked and laid again. -/
import Derived.Test.YtemgclnkgieldaaGreatDoorMq0
noncomputable section
namespace Go.Proofs.YtemgclnkgieldaaGreatDoor.Mv
open Go Go.RowKit CX Md
def d1:Kn:=⟨46,[.agg ⟨vr1⟩],17447,rl pr1,.int .i64 0,17775,rl pr1⟩
def e1:Kn:=⟨22,[.agg ⟨vr1⟩],17447,rl pr1,.tuple ⟨[.slice (some ⟨18240,0,none⟩) ms1.length 180,.int .i64 0]⟩,18241,(18240,Ob.row (newBk 5 (ms1.map (Value.int .u8)))) :: rl pr1⟩
def d3:Kn:=⟨46,[.agg ⟨vr3⟩],44784,rl pr3,.int .i64 0,44929,rl pr3⟩
def e3:Kn:=⟨22,[.agg ⟨vr3⟩],44784,rl pr3,.tuple ⟨[.slice (some ⟨45322,0,none⟩) ms3.length 162,.int .i64 0]⟩,45323,(45322,Ob.row (newBk 5 (ms3.map (Value.int .u8)))) :: rl pr3⟩
def d5:Kn:=⟨46,[.agg ⟨vr5⟩],65873,rl pr5,.int .i64 0,65983,rl pr5⟩
def e5:Kn:=⟨22,[.agg ⟨vr5⟩],65873,rl pr5,.tuple ⟨[.slice (some ⟨66218,0,none⟩) ms5.length 100,.int .i64 0]⟩,66219,(66218,Ob.row (newBk 5 (ms5.map (Value.int .u8)))) :: rl pr5⟩
theorem zw6:runH (xo noSym noOrc) 100000 d1=true:=by kernel_rfl
theorem e1_run:runH (xo noSym noOrc) 100000 e1=true:=by kernel_rfl
theorem zw7:runH (xo noSym noOrc) 100000 d3=true:=by kernel_rfl
theorem e3_run:runH (xo noSym noOrc) 100000 e3=true:=by kernel_rfl
theorem zw8:runH (xo noSym noOrc) 100000 d5=true:=by kernel_rfl
theorem e5_run:runH (xo noSym noOrc) 100000 e5=true:=by kernel_rfl
theorem d1_okR:okR 6 d1=true:=by kernel_rfl
theorem c1_okR:okR 6 c1=true:=by kernel_rfl
theorem d3_okR:okR 6 d3=true:=by kernel_rfl
theorem c3_okR:okR 6 c3=true:=by kernel_rfl
theorem d5_okR:okR 6 d5=true:=by kernel_rfl
theorem c5_okR:okR 6 c5=true:=by kernel_rfl
end Go.Proofs.YtemgclnkgieldaaGreatDoor.Mv
