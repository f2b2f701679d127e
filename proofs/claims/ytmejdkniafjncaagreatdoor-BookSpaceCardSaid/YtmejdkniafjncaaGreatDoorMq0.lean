/- Models checked, laid, read, compared: calls of known outcome, over blocks for reading alone. -/
import Derived.Test.YtmejdkniafjncaaGreatDoorMp0
noncomputable section
namespace Go.Proofs.YtmejdkniafjncaaGreatDoor.Mv
open Go Go.RowKit CX Md
def c0:Kn:=⟨28,[.agg ⟨vm0⟩],2499,rl pm0,.int .i64 0,2620,rl pm0⟩
def h0:Kn:=⟨51,[.agg ⟨vm0⟩],2499,rl pm0,.int .i64 0,3315,rl pm0⟩
def ms0:List Int:=[1,48,1,2,1,120,1,1,121,1,1,0,1,0,2,10,1,3,0,1,1,2,1,1,1,0,0,0,1,1,2,0,1,1,0,0,0,3,0,0,1,1,2,26,1,3,2,8,1,3,224,64,119,250,174,38,51,206]
def l0:Kn:=⟨31,[.agg ⟨vm0⟩],2499,rl pm0,.tuple ⟨[.slice (some ⟨2893,0,none⟩) ms0.length 116,.int .i64 0]⟩,2894,(2893,Ob.row (newBk 5 (ms0.map (Value.int .u8)))) :: rl pm0⟩
def pr0:PL:=[(3846,178,[(S [120]),(I 1),N,(S [121]),(I 1),N]),
 (4075,244,[(I 0),(I 1),(I 0),F,(U 10),E,(U 3),E,F,(U 0),E,(U 0),E,F,(U 1),E,(U 0),E]),
 (4381,369,[(I (-1)),(I 0),(I 0),(I 3),(I 0),F,(U 0),E,(U 0),E,F,(U 26),E,(U 3),E,F,(U 8),E,(U 3),E,N])]
def vr0:List Value:=[(I 1),(I 1),(I 0),(L 3846 0 2 262151),(L 4075 0 1 131109),N,N,F,(U 0),E,(U 0),E,(I 2),(I 0),(I 1),(L 4381 0 1 131115),(I 0),(I 0),(I 0),N,N,(I 0),(I 0),F,(U 0),E,(U 0),E,F,(U 0),E,(U 0),E,F,(U 0),E,(U 0),E,N,N,F,(U 0),E,(U 0),E,N,N,N,N,N,F,(U 0),E,(U 0),E,N,N,N,N]
def r0:Kn:=⟨87,[.slice (some ⟨3831,0,none⟩) ms0.length (ms0.length*131072+3)],3832,[(3831,Md.roO (.row (newBk 5 (ms0.map (Value.int .u8)))))],.tuple ⟨[.agg ⟨vr0⟩,.int .i64 0]⟩,4778,(3831,Md.roO (.row (newBk 5 (ms0.map (Value.int .u8))))) :: pr0.map pW⟩
def q0:Kn:={ r0 with av:=[.slice (some ⟨3831,0,none⟩) ms0.length (2*ms0.length)] }
def s0:Kn:=⟨42,[.agg ⟨vr0⟩,.agg ⟨vm0⟩],4778,rl (pm0++pr0),.bool true,5550,rl (pm0++pr0)⟩
def t0:Kn:=⟨42,[.agg ⟨vr0.map (shV 100000)⟩,.agg ⟨vr0⟩],104778,rl (pr0++shP 100000 pr0),.bool true,105550,rl (pr0++shP 100000 pr0)⟩
def c1:Kn:=⟨28,[.agg ⟨vm1⟩],12935,rl pm1,.int .i64 0,13263,rl pm1⟩
def h1:Kn:=⟨51,[.agg ⟨vm1⟩],12935,rl pm1,.int .i64 0,14522,rl pm1⟩
def ms1:List Int:=[1,80,1,2,1,120,1,1,121,1,1,0,1,0,2,10,1,3,0,1,1,2,1,1,1,0,0,0,1,1,2,0,1,3,1,1,2,3,0,2,5,1,1,2,26,1,3,2,8,1,3,0,0,0,2,0,0,1,1,2,1,1,2,2,3,1,2,0,0,0,1,0,0,1,1,0,1,1,2,5,1,1,146,187,91,23,40,40,70,147]
def l1:Kn:=⟨31,[.agg ⟨vm1⟩],12935,rl pm1,.tuple ⟨[.slice (some ⟨13728,0,none⟩) ms1.length 180,.int .i64 0]⟩,13729,(13728,Ob.row (newBk 5 (ms1.map (Value.int .u8)))) :: rl pm1⟩
def pr1:PL:=[(15659,178,[(S [120]),(I 1),N,(S [121]),(I 1),N]),
 (15888,244,[(I 0),(I 1),(I 0),F,(U 10),E,(U 3),E,F,(U 0),E,(U 0),E,F,(U 1),E,(U 0),E]),
 (16651,369,[(I 0),(I 1),(I 2),(I 3),(I 0),F,(U 5),E,(U 0),E,F,(U 26),E,(U 3),E,F,(U 8),E,(U 3),E,N,(I (-1)),(I 0),(I 0),(I 2),(I 0),F,(U 0),E,(U 0),E,F,(U 1),E,(U 2),E,F,(U 3),E,(U 2),E,N,(I (-1)),(I 0),(I 0),(I 1),(I 0),F,(U 0),E,(U 0),E,F,(U 0),E,(U 0),E,F,(U 5),E,(U 0),E,N])]
def vr1:List Value:=[(I 1),(I 1),(I 0),(L 15659 0 2 262151),(L 15888 0 1 131109),N,N,F,(U 0),E,(U 0),E,(I 2),(I 0),(I 1),(L 16651 0 3 393259),(I 0),(I 0),(I 0),N,N,(I 0),(I 0),F,(U 0),E,(U 0),E,F,(U 0),E,(U 0),E,F,(U 0),E,(U 0),E,N,N,F,(U 0),E,(U 0),E,N,N,N,N,N,F,(U 0),E,(U 0),E,N,N,N,N]
def r1:Kn:=⟨87,[.slice (some ⟨15644,0,none⟩) ms1.length (ms1.length*131072+3)],15645,[(15644,Md.roO (.row (newBk 5 (ms1.map (Value.int .u8)))))],.tuple ⟨[.agg ⟨vr1⟩,.int .i64 0]⟩,17447,(15644,Md.roO (.row (newBk 5 (ms1.map (Value.int .u8))))) :: pr1.map pW⟩
def q1:Kn:={ r1 with av:=[.slice (some ⟨15644,0,none⟩) ms1.length (2*ms1.length)] }
def s1:Kn:=⟨42,[.agg ⟨vr1⟩,.agg ⟨vm1⟩],17447,rl (pm1++pr1),.bool true,18783,rl (pm1++pr1)⟩
def t1:Kn:=⟨42,[.agg ⟨vr1.map (shV 100000)⟩,.agg ⟨vr1⟩],117447,rl (pr1++shP 100000 pr1),.bool true,118783,rl (pr1++shP 100000 pr1)⟩
def c2:Kn:=⟨28,[.agg ⟨vm2⟩],28923,rl pm2,.int .i64 0,29302,rl pm2⟩
def h2:Kn:=⟨51,[.agg ⟨vm2⟩],28923,rl pm2,.int .i64 0,31125,rl pm2⟩
def ms2:List Int:=[1,111,1,2,1,120,1,1,121,1,1,0,1,0,2,10,1,3,0,1,1,2,1,1,1,0,0,0,1,1,2,0,1,5,1,1,4,3,0,2,5,1,1,2,26,1,3,2,8,1,3,1,2,3,2,0,2,1,1,2,2,1,1,2,2,3,1,2,0,0,0,1,0,0,1,1,0,1,1,2,1,1,1,0,0,0,1,0,0,1,1,0,1,1,2,2,1,1,0,0,0,1,0,0,1,1,0,1,1,2,5,1,1,103,33,87,195,40,155,4,37]
def l2:Kn:=⟨31,[.agg ⟨vm2⟩],28923,rl pm2,.tuple ⟨[.slice (some ⟨29958,0,none⟩) ms2.length 242,.int .i64 0]⟩,29959,(29958,Ob.row (newBk 5 (ms2.map (Value.int .u8)))) :: rl pm2⟩
def pr2:PL:=[(32555,178,[(S [120]),(I 1),N,(S [121]),(I 1),N]),
 (32784,244,[(I 0),(I 1),(I 0),F,(U 10),E,(U 3),E,F,(U 0),E,(U 0),E,F,(U 1),E,(U 0),E]),
 (33994,369,[(I 0),(I 1),(I 4),(I 3),(I 0),F,(U 5),E,(U 0),E,F,(U 26),E,(U 3),E,F,(U 8),E,(U 3),E,N,(I 0),(I 2),(I 3),(I 2),(I 0),F,(U 1),E,(U 2),E,F,(U 1),E,(U 2),E,F,(U 3),E,(U 2),E,N,(I (-1)),(I 0),(I 0),(I 1),(I 0),F,(U 0),E,(U 0),E,F,(U 0),E,(U 0),E,F,(U 1),E,(U 0),E,N,(I (-1)),(I 0),(I 0),(I 1),(I 0),F,(U 0),E,(U 0),E,F,(U 0),E,(U 0),E,F,(U 2),E,(U 0),E,N,(I (-1)),(I 0),(I 0),(I 1),(I 0),F,(U 0),E,(U 0),E,F,(U 0),E,(U 0),E,F,(U 5),E,(U 0),E,N])]
def vr2:List Value:=[(I 1),(I 1),(I 0),(L 32555 0 2 262151),(L 32784 0 1 131109),N,N,F,(U 0),E,(U 0),E,(I 2),(I 0),(I 1),(L 33994 0 5 655403),(I 0),(I 0),(I 0),N,N,(I 0),(I 0),F,(U 0),E,(U 0),E,F,(U 0),E,(U 0),E,F,(U 0),E,(U 0),E,N,N,F,(U 0),E,(U 0),E,N,N,N,N,N,F,(U 0),E,(U 0),E,N,N,N,N]
def r2:Kn:=⟨87,[.slice (some ⟨32540,0,none⟩) ms2.length (ms2.length*131072+3)],32541,[(32540,Md.roO (.row (newBk 5 (ms2.map (Value.int .u8)))))],.tuple ⟨[.agg ⟨vr2⟩,.int .i64 0]⟩,35032,(32540,Md.roO (.row (newBk 5 (ms2.map (Value.int .u8))))) :: pr2.map pW⟩
def q2:Kn:={ r2 with av:=[.slice (some ⟨32540,0,none⟩) ms2.length (2*ms2.length)] }
def s2:Kn:=⟨42,[.agg ⟨vr2⟩,.agg ⟨vm2⟩],35032,rl (pm2++pr2),.bool true,36932,rl (pm2++pr2)⟩
def t2:Kn:=⟨42,[.agg ⟨vr2.map (shV 100000)⟩,.agg ⟨vr2⟩],135032,rl (pr2++shP 100000 pr2),.bool true,136932,rl (pr2++shP 100000 pr2)⟩
def c3:Kn:=⟨28,[.agg ⟨vm3⟩],42138,rl pm3,.int .i64 0,42283,rl pm3⟩
def h3:Kn:=⟨51,[.agg ⟨vm3⟩],42138,rl pm3,.int .i64 0,42759,rl pm3⟩
def ms3:List Int:=[6,71,1,2,1,120,1,1,121,1,1,0,1,0,2,10,1,3,0,1,1,2,1,1,1,0,0,0,1,1,1,3,1,0,1,1,1,2,1,1,1,1,2,9,1,1,3,1,0,1,2,0,0,0,0,2,0,0,0,0,3,2,1,1,1,2,2,1,1,2,5,1,1,58,202,216,30,174,16,142,144]
def l3:Kn:=⟨31,[.agg ⟨vm3⟩],42138,rl pm3,.tuple ⟨[.slice (some ⟨42676,0,none⟩) ms3.length 162,.int .i64 0]⟩,42677,(42676,Ob.row (newBk 5 (ms3.map (Value.int .u8)))) :: rl pm3⟩
def pr3:PL:=[(43458,178,[(S [120]),(I 1),N,(S [121]),(I 1),N]),
 (43687,244,[(I 0),(I 1),(I 0),F,(U 10),E,(U 3),E,F,(U 0),E,(U 0),E,F,(U 1),E,(U 0),E]),
 (43830,60,[F,(U 0),E,(U 0),E]),
 (43911,60,[F,(U 1),E,(U 0),E]),
 (43992,60,[F,(U 9),E,(U 0),E]),
 (43994,52,[(L 43830 0 1 131083),(L 43911 0 1 131083),(L 43992 0 1 131083)]),
 (44006,287,[(I 1),(I 0),(I 1),(I 2),(I 0),(I 0),(I 0),(I 0),(I 2),(I 0),(I 0),(I 0)]),
 (44243,60,[F,(U 1),E,(U 0),E,F,(U 2),E,(U 0),E,F,(U 5),E,(U 0),E])]
def vr3:List Value:=[(I 6),(I 1),(I 1),(L 43458 0 2 262151),(L 43687 0 1 131109),N,N,F,(U 0),E,(U 0),E,(I 0),(I 0),(I 0),N,(I 0),(I 0),(I 0),N,N,(I 0),(I 0),F,(U 0),E,(U 0),E,F,(U 0),E,(U 0),E,F,(U 0),E,(U 0),E,N,N,F,(U 0),E,(U 0),E,N,(L 43994 0 3 393219),(L 44006 0 3 393225),N,(L 44243 0 3 393227),F,(U 0),E,(U 0),E,N,N,N,N]
def r3:Kn:=⟨87,[.slice (some ⟨43443,0,none⟩) ms3.length (ms3.length*131072+3)],43444,[(43443,Md.roO (.row (newBk 5 (ms3.map (Value.int .u8)))))],.tuple ⟨[.agg ⟨vr3⟩,.int .i64 0]⟩,44784,(43443,Md.roO (.row (newBk 5 (ms3.map (Value.int .u8))))) :: pr3.map pW⟩
def q3:Kn:={ r3 with av:=[.slice (some ⟨43443,0,none⟩) ms3.length (2*ms3.length)] }
def s3:Kn:=⟨42,[.agg ⟨vr3⟩,.agg ⟨vm3⟩],44784,rl (pm3++pr3),.bool true,45336,rl (pm3++pr3)⟩
def t3:Kn:=⟨42,[.agg ⟨vr3.map (shV 100000)⟩,.agg ⟨vr3⟩],144784,rl (pr3++shP 100000 pr3),.bool true,145336,rl (pr3++shP 100000 pr3)⟩
def c4:Kn:=⟨28,[.agg ⟨vm4⟩],48043,rl pm4,.int .i64 0,48188,rl pm4⟩
def h4:Kn:=⟨51,[.agg ⟨vm4⟩],48043,rl pm4,.int .i64 0,48664,rl pm4⟩
def ms4:List Int:=[6,71,1,2,1,120,1,1,121,1,1,0,1,0,2,10,1,3,0,1,1,2,1,1,1,0,0,0,1,1,2,3,1,0,1,1,1,2,1,1,1,1,2,9,1,1,3,1,0,1,2,0,0,0,0,2,0,0,0,0,3,2,1,1,1,2,2,1,1,2,5,1,1,112,115,38,84,123,159,249,57]
def l4:Kn:=⟨31,[.agg ⟨vm4⟩],48043,rl pm4,.tuple ⟨[.slice (some ⟨48581,0,none⟩) ms4.length 162,.int .i64 0]⟩,48582,(48581,Ob.row (newBk 5 (ms4.map (Value.int .u8)))) :: rl pm4⟩
def pr4:PL:=[(49363,178,[(S [120]),(I 1),N,(S [121]),(I 1),N]),
 (49592,244,[(I 0),(I 1),(I 0),F,(U 10),E,(U 3),E,F,(U 0),E,(U 0),E,F,(U 1),E,(U 0),E]),
 (49735,60,[F,(U 0),E,(U 0),E]),
 (49816,60,[F,(U 1),E,(U 0),E]),
 (49897,60,[F,(U 9),E,(U 0),E]),
 (49899,52,[(L 49735 0 1 131083),(L 49816 0 1 131083),(L 49897 0 1 131083)]),
 (49911,287,[(I 1),(I 0),(I 1),(I 2),(I 0),(I 0),(I 0),(I 0),(I 2),(I 0),(I 0),(I 0)]),
 (50148,60,[F,(U 1),E,(U 0),E,F,(U 2),E,(U 0),E,F,(U 5),E,(U 0),E])]
def vr4:List Value:=[(I 6),(I 1),(I 2),(L 49363 0 2 262151),(L 49592 0 1 131109),N,N,F,(U 0),E,(U 0),E,(I 0),(I 0),(I 0),N,(I 0),(I 0),(I 0),N,N,(I 0),(I 0),F,(U 0),E,(U 0),E,F,(U 0),E,(U 0),E,F,(U 0),E,(U 0),E,N,N,F,(U 0),E,(U 0),E,N,(L 49899 0 3 393219),(L 49911 0 3 393225),N,(L 50148 0 3 393227),F,(U 0),E,(U 0),E,N,N,N,N]
def r4:Kn:=⟨87,[.slice (some ⟨49348,0,none⟩) ms4.length (ms4.length*131072+3)],49349,[(49348,Md.roO (.row (newBk 5 (ms4.map (Value.int .u8)))))],.tuple ⟨[.agg ⟨vr4⟩,.int .i64 0]⟩,50689,(49348,Md.roO (.row (newBk 5 (ms4.map (Value.int .u8))))) :: pr4.map pW⟩
def q4:Kn:={ r4 with av:=[.slice (some ⟨49348,0,none⟩) ms4.length (2*ms4.length)] }
def s4:Kn:=⟨42,[.agg ⟨vr4⟩,.agg ⟨vm4⟩],50689,rl (pm4++pr4),.bool true,51241,rl (pm4++pr4)⟩
def t4:Kn:=⟨42,[.agg ⟨vr4.map (shV 100000)⟩,.agg ⟨vr4⟩],150689,rl (pr4++shP 100000 pr4),.bool true,151241,rl (pr4++shP 100000 pr4)⟩
def c5:Kn:=⟨28,[.agg ⟨vm5⟩],63967,rl pm5,.int .i64 0,64077,rl pm5⟩
def h5:Kn:=⟨51,[.agg ⟨vm5⟩],63967,rl pm5,.int .i64 0,64589,rl pm5⟩
def ms5:List Int:=[5,40,1,2,1,120,1,1,121,1,1,0,1,0,2,10,1,3,0,1,1,2,1,1,1,0,0,0,1,1,1,1,2,10,1,3,0,1,2,8,1,3,92,186,36,233,111,129,190,52]
def l5:Kn:=⟨31,[.agg ⟨vm5⟩],63967,rl pm5,.tuple ⟨[.slice (some ⟨64312,0,none⟩) ms5.length 100,.int .i64 0]⟩,64313,(64312,Ob.row (newBk 5 (ms5.map (Value.int .u8)))) :: rl pm5⟩
def pr5:PL:=[(65060,178,[(S [120]),(I 1),N,(S [121]),(I 1),N]),
 (65289,244,[(I 0),(I 1),(I 0),F,(U 10),E,(U 3),E,F,(U 0),E,(U 0),E,F,(U 1),E,(U 0),E]),
 (65442,60,[F,(U 10),E,(U 3),E]),
 (65444,52,[(L 65442 0 1 131083)]),
 (65525,60,[F,(U 8),E,(U 3),E])]
def vr5:List Value:=[(I 5),(I 1),(I 0),(L 65060 0 2 262151),(L 65289 0 1 131109),N,N,F,(U 0),E,(U 0),E,(I 0),(I 0),(I 0),N,(I 0),(I 0),(I 0),N,N,(I 0),(I 0),F,(U 0),E,(U 0),E,F,(U 0),E,(U 0),E,F,(U 0),E,(U 0),E,N,N,F,(U 0),E,(U 0),E,(L 65444 0 1 131075),N,N,N,(L 65525 0 1 131083),F,(U 0),E,(U 0),E,N,N,N,N]
def r5:Kn:=⟨87,[.slice (some ⟨65045,0,none⟩) ms5.length (ms5.length*131072+3)],65046,[(65045,Md.roO (.row (newBk 5 (ms5.map (Value.int .u8)))))],.tuple ⟨[.agg ⟨vr5⟩,.int .i64 0]⟩,65873,(65045,Md.roO (.row (newBk 5 (ms5.map (Value.int .u8))))) :: pr5.map pW⟩
def q5:Kn:={ r5 with av:=[.slice (some ⟨65045,0,none⟩) ms5.length (2*ms5.length)] }
def s5:Kn:=⟨42,[.agg ⟨vr5⟩,.agg ⟨vm5⟩],65873,rl (pm5++pr5),.bool true,66461,rl (pm5++pr5)⟩
def t5:Kn:=⟨42,[.agg ⟨vr5.map (shV 100000)⟩,.agg ⟨vr5⟩],165873,rl (pr5++shP 100000 pr5),.bool true,166461,rl (pr5++shP 100000 pr5)⟩
def c6:Kn:=⟨28,[.agg ⟨vm6⟩],71465,rl pm6,.int .i64 0,71562,rl pm6⟩
def h6:Kn:=⟨51,[.agg ⟨vm6⟩],71465,rl pm6,.int .i64 0,72075,rl pm6⟩
def ms6:List Int:=[4,37,1,2,1,120,1,1,121,1,1,0,1,0,2,10,1,3,0,1,1,2,1,1,1,0,0,0,1,1,1,2,61,1,146,2,93,1,73,173,229,136,115,227,163,221,241]
def l6:Kn:=⟨31,[.agg ⟨vm6⟩],71465,rl pm6,.tuple ⟨[.slice (some ⟨71791,0,none⟩) ms6.length 94,.int .i64 0]⟩,71792,(71791,Ob.row (newBk 5 (ms6.map (Value.int .u8)))) :: rl pm6⟩
def pr6:PL:=[(72514,178,[(S [120]),(I 1),N,(S [121]),(I 1),N]),
 (72743,244,[(I 0),(I 1),(I 0),F,(U 10),E,(U 3),E,F,(U 0),E,(U 0),E,F,(U 1),E,(U 0),E]),
 (72897,60,[F,(U 61),E,(U 146),E])]
def vr6:List Value:=[(I 4),(I 1),(I 0),(L 72514 0 2 262151),(L 72743 0 1 131109),N,N,F,(U 0),E,(U 0),E,(I 0),(I 0),(I 0),N,(I 0),(I 0),(I 0),N,N,(I 0),(I 0),F,(U 0),E,(U 0),E,F,(U 0),E,(U 0),E,F,(U 0),E,(U 0),E,N,(L 72897 0 1 131083),F,(U 93),E,(U 73),E,N,N,N,N,N,F,(U 0),E,(U 0),E,N,N,N,N]
def r6:Kn:=⟨87,[.slice (some ⟨72499,0,none⟩) ms6.length (ms6.length*131072+3)],72500,[(72499,Md.roO (.row (newBk 5 (ms6.map (Value.int .u8)))))],.tuple ⟨[.agg ⟨vr6⟩,.int .i64 0]⟩,73305,(72499,Md.roO (.row (newBk 5 (ms6.map (Value.int .u8))))) :: pr6.map pW⟩
def q6:Kn:={ r6 with av:=[.slice (some ⟨72499,0,none⟩) ms6.length (2*ms6.length)] }
def s6:Kn:=⟨42,[.agg ⟨vr6⟩,.agg ⟨vm6⟩],73305,rl (pm6++pr6),.bool true,73883,rl (pm6++pr6)⟩
def t6:Kn:=⟨42,[.agg ⟨vr6.map (shV 100000)⟩,.agg ⟨vr6⟩],173305,rl (pr6++shP 100000 pr6),.bool true,173883,rl (pr6++shP 100000 pr6)⟩
def c7:Kn:=⟨28,[.agg ⟨vm7⟩],75389,rl pm7,.int .i64 10,75390,rl pm7⟩
def h7:Kn:=⟨51,[.agg ⟨vm7⟩],75389,rl pm7,.int .i64 10,75390,rl pm7⟩
end Go.Proofs.YtmejdkniafjncaaGreatDoor.Mv
