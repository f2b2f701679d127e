/- Calls of known outcome: their arguments, the blocks that they reach, what comes back. -/
import Derived.Test.YtecaggbepjoaiaaGreatDoorE7
noncomputable section
namespace Go.Proofs.YtecaggbepjoaiaaGreatDoor.Kw
open Go Go.RowKit CX
def T:Value := .bool true
def F:Value := .bool false
def I (n:Int):Value := .int .i64 n
def U (n:Int):Value := .int .u64 n
def Y (n:Int):Value := .int .u8 n
def S (l:List UInt8):Value := .string ⟨⟨l⟩⟩
def E:Value := .string ⟨⟨[]⟩⟩
def P (b o:Nat):Value := .pointer (some ⟨b,o,none⟩)
def N:Value := .slice none 0 0
def L (b o n c:Nat):Value := .slice (some ⟨b,o,none⟩) n c
def sy (n:Nat):Value := .float .f64 n
def W (e:Nat)(l:List Value):Ob := .row (newBk e l)
def R (e:Nat)(l:List Value):Ob := .row { newBk e l with ro:=true }
def M (es:List (Value×Value))(bs:List Nat)(cl:Nat):Ob := .map es bs cl
def xo (s:Nat→Value)(o:Nat→List Value→Hp→Option (Value×Hp)):X:=X.mk' Tryz.prog 10 10 6 s noFacts o
theorem zay {s:Nat→Value}{o:Nat→List Value→Hp→Option (Value×Hp)}(h:OrcOk Tryz.prog ⟨6,s⟩ o):(xo s o).Ok:=X.mk'_ok _ _ _ _ _ _ _ (zjk _) h (by kernel_rfl)
def w0:Nat×Ob:=(32,W 220 [(S [120]),(I 1),N,(S [121]),(I 1),N])
def w1:Nat×Ob:=(34,W 331 [F,F,(U 0),E,(U 0),E,(I 0),F,F,(U 1),E,(U 0),E,(I 0)])
def w2:Nat×Ob:=(64,W 331 [F,F,(U 1),E,(U 0),E,(I 0),F,F,(U 2),E,(U 0),E,(I 0)])
def w3:Nat×Ob:=(96,W 331 [F,F,(U 9),E,(U 0),E,(I 0),F,F,(U 5),E,(U 0),E,(I 0)])
def w4:Nat×Ob:=(126,W 223 [(L 34 0 2 4),(L 64 0 2 4),(L 96 0 2 4)])
def wa0:Value:=(.agg ⟨[(L 32 0 2 262151),(L 126 0 3 393219)]⟩)
def k0:Kn:=⟨47,[(S [120,58,110,117,109,98,101,114,44,121,58,110,117,109,98,101,114,10,48,44,49,10,49,44,50,10,57,44,53,10])],11,[],
 (.tuple ⟨[wa0,(.agg ⟨[(I 0),(I 0),(I 0)]⟩)]⟩),127,
 [w0,
 w1,
 w2,
 w3,
 w4]⟩
def k1:Kn:=⟨102,[wa0],135,[w0,
 w1,
 w2,
 w3,
 w4],
 (I 0),161,
 [w0,
 w1,
 w2,
 w3,
 w4]⟩
def wa1:Value:=(.agg ⟨[(I 1),(I 0),(I 0),(I 1),(S [121]),(L 129 0 1 2),(U 0),F,(U 0),E,(U 0),E,F,(U 0),E,(U 0),E,(I 1),(I 1),F,(U 0),E,(U 0),E,(I 0),(I 0),(U 0),(I 0),(I 0),F,(U 0),E,(U 0),E,(I 0),(I 0),F,(U 0),E,(U 0),E,F,(U 0),E,(U 0),E,(I 0),(I 0),F,(U 0),E,(U 0),E,N,(I 0),(I 0),F,(U 0),E,(U 0),E,F,(U 0),E,(U 0),E,(I 0),(I 0),(I 0),(U 0)]⟩)
def k2:Kn:=⟨103,[wa0,wa1],161,[w0,
 w1,
 w2,
 w3,
 w4,
 (129,W 9 [(S [120])])],
 (.tuple ⟨[(I 1),(L 171 0 1 131075),(I 0)]⟩),172,
 [w0,
 w1,
 w2,
 w3,
 w4,
 (129,W 9 [(S [120])]),
 (171,W 3 [(I 0)])]⟩
def w5:Nat×Ob:=(228,W 68 [F,(U 1),E,(U 0),E,F,(U 2),E,(U 0),E,F,(U 5),E,(U 0),E])
def wa2:Value:=(.agg ⟨[(I 2),(I 0),N,(L 228 0 3 6)]⟩)
def k3:Kn:=⟨104,[wa0,(I 1)],172,[w0,
 w1,
 w2,
 w3,
 w4],
 (.tuple ⟨[wa2,(I 0)]⟩),238,
 [w0,
 w1,
 w2,
 w3,
 w4,
 w5]⟩
def k4:Kn:=⟨105,[wa0,wa1,(I 1),(L 171 0 1 131075)],239,[w0,
 w1,
 w2,
 w3,
 w4,
 (129,W 9 [(S [120])]),
 (171,W 3 [(I 0)])],
 T,241,
 [w0,
 w1,
 w2,
 w3,
 w4,
 (129,W 9 [(S [120])]),
 (171,W 3 [(I 0)])]⟩
def w6:Nat×Ob:=(272,W 220 [(S [120]),(I 1),N,(S [121]),(I 1),N])
def w7:Nat×Ob:=(494,W 243 [(I 0),(I 1),(I 0),F,(U 10),E,(U 3),E,F,(U 0),E,(U 0),E,F,(U 1),E,(U 0),E])
def k5:Kn:=⟨106,[wa0,(L 171 0 1 131075),(I 0)],242,[w0,
 w1,
 w2,
 w3,
 w4,
 (171,W 3 [(I 0)])],
 (.tuple ⟨[(.agg ⟨[(L 272 0 2 262151),(L 494 0 1 131109)]⟩),(I 0)]⟩),495,
 [w0,
 w1,
 w2,
 w3,
 w4,
 (171,W 3 [(I 0)]),
 w6,
 w7]⟩
def k6:Kn:=⟨102,[(.agg ⟨[(L 272 0 2 262151),N]⟩)],500,[w6],
 (I 0),508,
 [w6]⟩
def w8:Nat×Ob:=(553,W 60 [(L 621 0 1 131083),(L 689 0 1 131083),(L 757 0 1 131083)])
def w9:Nat×Ob:=(621,W 68 [F,(U 0),E,(U 0),E])
def w10:Nat×Ob:=(689,W 68 [F,(U 1),E,(U 0),E])
def w11:Nat×Ob:=(757,W 68 [F,(U 9),E,(U 0),E])
def k7:Kn:=⟨107,[(.agg ⟨[(I 1),(I 1),(I 0),(L 272 0 2 262151),(L 494 0 1 131109),N,N,F,(U 0),E,(U 0),E,(I 0),(I 0),(I 0),N,(I 0),(I 0),(I 0),N,N,(I 0),(I 0),F,(U 0),E,(U 0),E,F,(U 0),E,(U 0),E,F,(U 0),E,(U 0),E,N,N,F,(U 0),E,(U 0),E,N,N,N,N,N,F,(U 0),E,(U 0),E,N,N,N,N]⟩),wa0],495,[w0,
 w1,
 w2,
 w3,
 w4,
 w6,
 w7],
 (.tuple ⟨[(L 553 0 3 6),(I 0)]⟩),758,
 [w0,
 w1,
 w2,
 w3,
 w4,
 w6,
 w7,
 w8,
 w9,
 w10,
 w11]⟩
def w12:Nat×Ob:=(766,W 3 [(I 0),(I 1),(I 2)])
def k8:Kn:=⟨369,[wa2,(L 766 0 3 393219)],792,[w5,
 w12],
 (.agg ⟨[F,(U 8),E,(U 3),E]⟩),1001,
 [w5,
 w12]⟩
def k9:Kn:=⟨578,[wa2,(L 553 0 3 6),(L 766 0 3 393219),(L 779 0 1 2),(I 1)],2499,[w5,
 w8,
 w9,
 w10,
 w11,
 w12,
 (779,W 3 [(I 0)])],
 (.tuple ⟨[(.agg ⟨[(I 0),F,(U 5),E,(U 0),E,F,(U 49),E,(U 6),E]⟩),T]⟩),4173,
 [w5,
 w8,
 w9,
 w10,
 w11,
 w12,
 (779,W 3 [(I 0)])]⟩
def w13:Nat×Ob:=(4218,W 3 [(I 0),(I 1)])
def k10:Kn:=⟨369,[wa2,(L 4218 0 2 262147)],4238,[w5,
 w13],
 (.agg ⟨[F,(U 3),E,(U 2),E]⟩),4427,
 [w5,
 w13]⟩
def k11:Kn:=⟨369,[wa2,(L 4230 0 1 131075)],5467,[w5,
 (4230,W 3 [(I 2)])],
 (.agg ⟨[F,(U 5),E,(U 0),E]⟩),5536,
 [w5,
 (4230,W 3 [(I 2)])]⟩
def w14:Nat×Ob:=(5673,W 268 [(I 0),(I 1),(I 2),(I 3),(I 0),F,(U 5),E,(U 0),E,F,(U 26),E,(U 3),E,F,(U 8),E,(U 3),E,N,(I (-1)),(I 0),(I 0),(I 2),(I 0),F,(U 0),E,(U 0),E,F,(U 1),E,(U 2),E,F,(U 3),E,(U 2),E,N,(I (-1)),(I 0),(I 0),(I 1),(I 0),F,(U 0),E,(U 0),E,F,(U 0),E,(U 0),E,F,(U 5),E,(U 0),E,N])
def k12:Kn:=⟨212,[wa2,(L 553 0 3 6),(L 766 0 3 393219),(.agg ⟨[(I 1),(I 1),F,(U 0),E,(U 0),E]⟩)],767,[w5,
 w8,
 w9,
 w10,
 w11,
 w12],
 (.tuple ⟨[(.agg ⟨[(I 2),(I 0),(I 1),(L 5673 0 3 393259)]⟩),(I 0)]⟩),5674,
 [w5,
 w8,
 w9,
 w10,
 w11,
 w12,
 w14]⟩
def wa3:Value:=(.agg ⟨[(I 1),(I 1),(I 0),(L 272 0 2 262151),(L 494 0 1 131109),N,N,F,(U 0),E,(U 0),E,(I 2),(I 0),(I 1),(L 5673 0 3 393259),(I 0),(I 0),(I 0),N,N,(I 0),(I 0),F,(U 0),E,(U 0),E,F,(U 0),E,(U 0),E,F,(U 0),E,(U 0),E,N,N,F,(U 0),E,(U 0),E,N,N,N,N,N,F,(U 0),E,(U 0),E,N,N,N,N]⟩)
def k13:Kn:=⟨20,[(I 1)],10,[],
 wa3,5675,
 [w6,
 w7,
 w14]⟩
def k14:Kn:=⟨41,[wa3],5677,[w6,
 w7,
 w14],
 (I 0),6005,
 [w6,
 w7,
 w14]⟩
def k15:Kn:=⟨43,[wa3],6009,[w6,
 w7,
 w14],
 (.tuple ⟨[(L 6802 0 90 180),(I 0)]⟩),6803,
 [w6,
 w7,
 w14,
 (6802,W 5 [(Y 1),(Y 80),(Y 1),(Y 2),(Y 1),(Y 120),(Y 1),(Y 1),(Y 121),(Y 1),(Y 1),(Y 0),(Y 1),(Y 0),(Y 2),(Y 10),(Y 1),(Y 3),(Y 0),(Y 1),(Y 1),(Y 2),(Y 1),(Y 1),(Y 1),(Y 0),(Y 0),(Y 0),(Y 1),(Y 1),(Y 2),(Y 0),(Y 1),(Y 3),(Y 1),(Y 1),(Y 2),(Y 3),(Y 0),(Y 2),(Y 5),(Y 1),(Y 1),(Y 2),(Y 26),(Y 1),(Y 3),(Y 2),(Y 8),(Y 1),(Y 3),(Y 0),(Y 0),(Y 0),(Y 2),(Y 0),(Y 0),(Y 1),(Y 1),(Y 2),(Y 1),(Y 1),(Y 2),(Y 2),(Y 3),(Y 1),(Y 2),(Y 0),(Y 0),(Y 0),(Y 1),(Y 0),(Y 0),(Y 1),(Y 1),(Y 0),(Y 1),(Y 1),(Y 2),(Y 5),(Y 1),(Y 1),(Y 146),(Y 187),(Y 91),(Y 23),(Y 40),(Y 40),(Y 70),(Y 147)])]⟩
def w15:Nat×Ob:=(6864,W 220 [(S [120]),(I 1),N,(S [121]),(I 1),N])
def w16:Nat×Ob:=(6866,W 331 [F,F,(U 0),E,(U 0),E,(I 0),F,F,(U 1),E,(U 0),E,(I 0)])
def w17:Nat×Ob:=(6896,W 331 [F,F,(U 1),E,(U 0),E,(I 0),F,F,(U 2),E,(U 0),E,(I 0)])
def w18:Nat×Ob:=(6928,W 331 [F,F,(U 9),E,(U 0),E,(I 0),F,F,(U 5),E,(U 0),E,(I 0)])
def w19:Nat×Ob:=(6958,W 223 [(L 6866 0 2 4),(L 6896 0 2 4),(L 6928 0 2 4)])
def wa4:Value:=(.agg ⟨[(L 6864 0 2 262151),(L 6958 0 3 393219)]⟩)
def wa5:Value:=(.agg ⟨[(I 6),(I 0),(I 0),(I 1),(S [121]),(L 6961 0 1 2),(U 0),F,(U 0),E,(U 0),E,F,(U 0),E,(U 0),E,(I 0),(I 0),F,(U 0),E,(U 0),E,(I 0),(I 0),(U 0),(I 0),(I 0),F,(U 0),E,(U 0),E,(I 0),(I 0),F,(U 0),E,(U 0),E,F,(U 0),E,(U 0),E,(I 0),(I 0),F,(U 0),E,(U 0),E,N,(I 0),(I 0),F,(U 0),E,(U 0),E,F,(U 0),E,(U 0),E,(I 0),(I 0),(I 0),(U 0)]⟩)
def k16:Kn:=⟨103,[wa4,wa5],6993,[w15,
 w16,
 w17,
 w18,
 w19,
 (6961,W 9 [(S [120])])],
 (.tuple ⟨[(I 1),(L 7003 0 1 131075),(I 0)]⟩),7004,
 [w15,
 w16,
 w17,
 w18,
 w19,
 (6961,W 9 [(S [120])]),
 (7003,W 3 [(I 0)])]⟩
def k17:Kn:=⟨105,[wa4,wa5,(I 1),(L 7003 0 1 131075)],7071,[w15,
 w16,
 w17,
 w18,
 w19,
 (6961,W 9 [(S [120])]),
 (7003,W 3 [(I 0)])],
 T,7073,
 [w15,
 w16,
 w17,
 w18,
 w19,
 (6961,W 9 [(S [120])]),
 (7003,W 3 [(I 0)])]⟩
def w20:Nat×Ob:=(7104,W 220 [(S [120]),(I 1),N,(S [121]),(I 1),N])
def w21:Nat×Ob:=(7326,W 243 [(I 0),(I 1),(I 0),F,(U 10),E,(U 3),E,F,(U 0),E,(U 0),E,F,(U 1),E,(U 0),E])
def w22:Nat×Ob:=(7385,W 60 [(L 7453 0 1 131083),(L 7521 0 1 131083),(L 7589 0 1 131083)])
def w23:Nat×Ob:=(7453,W 68 [F,(U 0),E,(U 0),E])
def w24:Nat×Ob:=(7521,W 68 [F,(U 1),E,(U 0),E])
def w25:Nat×Ob:=(7589,W 68 [F,(U 9),E,(U 0),E])
def k18:Kn:=⟨107,[(.agg ⟨[(I 6),(I 1),(I 0),(L 7104 0 2 262151),(L 7326 0 1 131109),N,N,F,(U 0),E,(U 0),E,(I 0),(I 0),(I 0),N,(I 0),(I 0),(I 0),N,N,(I 0),(I 0),F,(U 0),E,(U 0),E,F,(U 0),E,(U 0),E,F,(U 0),E,(U 0),E,N,N,F,(U 0),E,(U 0),E,N,N,N,N,N,F,(U 0),E,(U 0),E,N,N,N,N]⟩),wa4],7327,[w15,
 w16,
 w17,
 w18,
 w19,
 w20,
 w21],
 (.tuple ⟨[(L 7385 0 3 6),(I 0)]⟩),7590,
 [w15,
 w16,
 w17,
 w18,
 w19,
 w20,
 w21,
 w22,
 w23,
 w24,
 w25]⟩
def w26:Nat×Ob:=(7603,W 68 [F,(U 0),E,(U 0),E])
def w27:Nat×Ob:=(7607,W 68 [F,(U 1),E,(U 0),E])
def w28:Nat×Ob:=(7611,W 68 [F,(U 9),E,(U 0),E])
def w29:Nat×Ob:=(7613,W 60 [(L 7603 0 1 131083),(L 7607 0 1 131083),(L 7611 0 1 131083)])
def w30:Nat×Ob:=(7653,W 275 [(I 1),(I 0),(I 1),(I 2),(I 0),(I 0),(I 0),(I 0),(I 2),(I 0),(I 0),(I 0)])
def k19:Kn:=⟨217,[(L 7385 0 3 6)],7599,[w22,
 w23,
 w24,
 w25],
 (.tuple ⟨[(.agg ⟨[(L 7613 0 3 393219),(L 7653 0 3 393225)]⟩),(I 0)]⟩),7654,
 [w22,
 w23,
 w24,
 w25,
 w26,
 w27,
 w28,
 w29,
 w30]⟩
def w31:Nat×Ob:=(7060,W 68 [F,(U 1),E,(U 0),E,F,(U 2),E,(U 0),E,F,(U 5),E,(U 0),E])
def wa6:Value:=(.agg ⟨[(I 6),(I 1),(I 1),(L 7104 0 2 262151),(L 7326 0 1 131109),N,N,F,(U 0),E,(U 0),E,(I 0),(I 0),(I 0),N,(I 0),(I 0),(I 0),N,N,(I 0),(I 0),F,(U 0),E,(U 0),E,F,(U 0),E,(U 0),E,F,(U 0),E,(U 0),E,N,N,F,(U 0),E,(U 0),E,N,(L 7613 0 3 393219),(L 7653 0 3 393225),N,(L 7060 0 3 6),F,(U 0),E,(U 0),E,N,N,N,N]⟩)
def k20:Kn:=⟨20,[(I 3)],6842,[],
 wa6,7655,
 [w31,
 w20,
 w21,
 w26,
 w27,
 w28,
 w29,
 w30]⟩
def k21:Kn:=⟨41,[wa6],7657,[w31,
 w20,
 w21,
 w26,
 w27,
 w28,
 w29,
 w30],
 (I 0),7802,
 [w31,
 w20,
 w21,
 w26,
 w27,
 w28,
 w29,
 w30]⟩
def k22:Kn:=⟨43,[wa6],7806,[w31,
 w20,
 w21,
 w26,
 w27,
 w28,
 w29,
 w30],
 (.tuple ⟨[(L 8344 0 81 162),(I 0)]⟩),8345,
 [w31,
 w20,
 w21,
 w26,
 w27,
 w28,
 w29,
 w30,
 (8344,W 5 [(Y 6),(Y 71),(Y 1),(Y 2),(Y 1),(Y 120),(Y 1),(Y 1),(Y 121),(Y 1),(Y 1),(Y 0),(Y 1),(Y 0),(Y 2),(Y 10),(Y 1),(Y 3),(Y 0),(Y 1),(Y 1),(Y 2),(Y 1),(Y 1),(Y 1),(Y 0),(Y 0),(Y 0),(Y 1),(Y 1),(Y 1),(Y 3),(Y 1),(Y 0),(Y 1),(Y 1),(Y 1),(Y 2),(Y 1),(Y 1),(Y 1),(Y 1),(Y 2),(Y 9),(Y 1),(Y 1),(Y 3),(Y 1),(Y 0),(Y 1),(Y 2),(Y 0),(Y 0),(Y 0),(Y 0),(Y 2),(Y 0),(Y 0),(Y 0),(Y 0),(Y 3),(Y 2),(Y 1),(Y 1),(Y 1),(Y 2),(Y 2),(Y 1),(Y 1),(Y 2),(Y 5),(Y 1),(Y 1),(Y 58),(Y 202),(Y 216),(Y 30),(Y 174),(Y 16),(Y 142),(Y 144)])]⟩
end Go.Proofs.YtecaggbepjoaiaaGreatDoor.Kw
