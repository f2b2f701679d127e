/- Models checked, laid, read, compared: calls of known outcome, over blocks for reading alone. -/
import Derived.Test.YtemgclnkgieldaaGreatDoorMp0
noncomputable section
namespace Go.Proofs.YtemgclnkgieldaaGreatDoor.Mv
open Go Go.RowKit CX Md
def c1:Kn:=⟨46,[.agg ⟨vm1⟩],12935,rl pm1,.int .i64 0,13263,rl pm1⟩
def ms1:List Int:=[1,80,1,2,1,120,1,1,121,1,1,0,1,0,2,10,1,3,0,1,1,2,1,1,1,0,0,0,1,1,2,0,1,3,1,1,2,3,0,2,5,1,1,2,26,1,3,2,8,1,3,0,0,0,2,0,0,1,1,2,1,1,2,2,3,1,2,0,0,0,1,0,0,1,1,0,1,1,2,5,1,1,146,187,91,23,40,40,70,147]
def l1:Kn:=⟨22,[.agg ⟨vm1⟩],12935,rl pm1,.tuple ⟨[.slice (some ⟨13728,0,none⟩) ms1.length 180,.int .i64 0]⟩,13729,(13728,Ob.row (newBk 5 (ms1.map (Value.int .u8)))) :: rl pm1⟩
def pr1:PL:=[(15659,195,[(S [120]),(I 1),N,(S [121]),(I 1),N]),
 (15888,313,[(I 0),(I 1),(I 0),F,(U 10),E,(U 3),E,F,(U 0),E,(U 0),E,F,(U 1),E,(U 0),E]),
 (16651,423,[(I 0),(I 1),(I 2),(I 3),(I 0),F,(U 5),E,(U 0),E,F,(U 26),E,(U 3),E,F,(U 8),E,(U 3),E,N,(I (-1)),(I 0),(I 0),(I 2),(I 0),F,(U 0),E,(U 0),E,F,(U 1),E,(U 2),E,F,(U 3),E,(U 2),E,N,(I (-1)),(I 0),(I 0),(I 1),(I 0),F,(U 0),E,(U 0),E,F,(U 0),E,(U 0),E,F,(U 5),E,(U 0),E,N])]
def vr1:List Value:=[(I 1),(I 1),(I 0),(L 15659 0 2 262151),(L 15888 0 1 131109),N,N,F,(U 0),E,(U 0),E,(I 2),(I 0),(I 1),(L 16651 0 3 393259),(I 0),(I 0),(I 0),N,N,(I 0),(I 0),F,(U 0),E,(U 0),E,F,(U 0),E,(U 0),E,F,(U 0),E,(U 0),E,N,N,F,(U 0),E,(U 0),E,N,N,N,N,N,F,(U 0),E,(U 0),E,N,N,N,N]
def r1:Kn:=⟨35,[.slice (some ⟨15644,0,none⟩) ms1.length (ms1.length*131072+3)],15645,[(15644,Md.roO (.row (newBk 5 (ms1.map (Value.int .u8)))))],.tuple ⟨[.agg ⟨vr1⟩,.int .i64 0]⟩,17447,(15644,Md.roO (.row (newBk 5 (ms1.map (Value.int .u8))))) :: pr1.map pW⟩
def q1:Kn:={ r1 with av:=[.slice (some ⟨15644,0,none⟩) ms1.length (2*ms1.length)] }
def c3:Kn:=⟨46,[.agg ⟨vm3⟩],42138,rl pm3,.int .i64 0,42283,rl pm3⟩
def ms3:List Int:=[6,71,1,2,1,120,1,1,121,1,1,0,1,0,2,10,1,3,0,1,1,2,1,1,1,0,0,0,1,1,1,3,1,0,1,1,1,2,1,1,1,1,2,9,1,1,3,1,0,1,2,0,0,0,0,2,0,0,0,0,3,2,1,1,1,2,2,1,1,2,5,1,1,58,202,216,30,174,16,142,144]
def l3:Kn:=⟨22,[.agg ⟨vm3⟩],42138,rl pm3,.tuple ⟨[.slice (some ⟨42676,0,none⟩) ms3.length 162,.int .i64 0]⟩,42677,(42676,Ob.row (newBk 5 (ms3.map (Value.int .u8)))) :: rl pm3⟩
def pr3:PL:=[(43458,195,[(S [120]),(I 1),N,(S [121]),(I 1),N]),
 (43687,313,[(I 0),(I 1),(I 0),F,(U 10),E,(U 3),E,F,(U 0),E,(U 0),E,F,(U 1),E,(U 0),E]),
 (43830,43,[F,(U 0),E,(U 0),E]),
 (43911,43,[F,(U 1),E,(U 0),E]),
 (43992,43,[F,(U 9),E,(U 0),E]),
 (43994,62,[(L 43830 0 1 131083),(L 43911 0 1 131083),(L 43992 0 1 131083)]),
 (44006,259,[(I 1),(I 0),(I 1),(I 2),(I 0),(I 0),(I 0),(I 0),(I 2),(I 0),(I 0),(I 0)]),
 (44243,43,[F,(U 1),E,(U 0),E,F,(U 2),E,(U 0),E,F,(U 5),E,(U 0),E])]
def vr3:List Value:=[(I 6),(I 1),(I 1),(L 43458 0 2 262151),(L 43687 0 1 131109),N,N,F,(U 0),E,(U 0),E,(I 0),(I 0),(I 0),N,(I 0),(I 0),(I 0),N,N,(I 0),(I 0),F,(U 0),E,(U 0),E,F,(U 0),E,(U 0),E,F,(U 0),E,(U 0),E,N,N,F,(U 0),E,(U 0),E,N,(L 43994 0 3 393219),(L 44006 0 3 393225),N,(L 44243 0 3 393227),F,(U 0),E,(U 0),E,N,N,N,N]
def r3:Kn:=⟨35,[.slice (some ⟨43443,0,none⟩) ms3.length (ms3.length*131072+3)],43444,[(43443,Md.roO (.row (newBk 5 (ms3.map (Value.int .u8)))))],.tuple ⟨[.agg ⟨vr3⟩,.int .i64 0]⟩,44784,(43443,Md.roO (.row (newBk 5 (ms3.map (Value.int .u8))))) :: pr3.map pW⟩
def q3:Kn:={ r3 with av:=[.slice (some ⟨43443,0,none⟩) ms3.length (2*ms3.length)] }
def c5:Kn:=⟨46,[.agg ⟨vm5⟩],63967,rl pm5,.int .i64 0,64077,rl pm5⟩
def ms5:List Int:=[5,40,1,2,1,120,1,1,121,1,1,0,1,0,2,10,1,3,0,1,1,2,1,1,1,0,0,0,1,1,1,1,2,10,1,3,0,1,2,8,1,3,92,186,36,233,111,129,190,52]
def l5:Kn:=⟨22,[.agg ⟨vm5⟩],63967,rl pm5,.tuple ⟨[.slice (some ⟨64312,0,none⟩) ms5.length 100,.int .i64 0]⟩,64313,(64312,Ob.row (newBk 5 (ms5.map (Value.int .u8)))) :: rl pm5⟩
def pr5:PL:=[(65060,195,[(S [120]),(I 1),N,(S [121]),(I 1),N]),
 (65289,313,[(I 0),(I 1),(I 0),F,(U 10),E,(U 3),E,F,(U 0),E,(U 0),E,F,(U 1),E,(U 0),E]),
 (65442,43,[F,(U 10),E,(U 3),E]),
 (65444,62,[(L 65442 0 1 131083)]),
 (65525,43,[F,(U 8),E,(U 3),E])]
def vr5:List Value:=[(I 5),(I 1),(I 0),(L 65060 0 2 262151),(L 65289 0 1 131109),N,N,F,(U 0),E,(U 0),E,(I 0),(I 0),(I 0),N,(I 0),(I 0),(I 0),N,N,(I 0),(I 0),F,(U 0),E,(U 0),E,F,(U 0),E,(U 0),E,F,(U 0),E,(U 0),E,N,N,F,(U 0),E,(U 0),E,(L 65444 0 1 131075),N,N,N,(L 65525 0 1 131083),F,(U 0),E,(U 0),E,N,N,N,N]
def r5:Kn:=⟨35,[.slice (some ⟨65045,0,none⟩) ms5.length (ms5.length*131072+3)],65046,[(65045,Md.roO (.row (newBk 5 (ms5.map (Value.int .u8)))))],.tuple ⟨[.agg ⟨vr5⟩,.int .i64 0]⟩,65873,(65045,Md.roO (.row (newBk 5 (ms5.map (Value.int .u8))))) :: pr5.map pW⟩
def q5:Kn:={ r5 with av:=[.slice (some ⟨65045,0,none⟩) ms5.length (2*ms5.length)] }
end Go.Proofs.YtemgclnkgieldaaGreatDoor.Mv
