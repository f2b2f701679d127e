/- ServeOnce: all that was told is looked at. -/
import Derived.Test.YtemgclnkgieldaaGreatDoorVk
set_option maxHeartbeats 60000000
set_option maxRecDepth 100000
namespace Go.Proofs.YtemgclnkgieldaaGreatDoor.Oc
open Go Go.RowKit Dk
def headR (id:Nat):Code→Bool
 | .region i _ _=>i == id
 | .seq a _=>headR id a
 |_=>false
def findS (id:Nat):Code→Option Code
 | .seq a b=>if headR id a=true then some (.seq a b) else match findS id a with
  |some c=>some c
  |none=>findS id b
 | .cond _ a b=>match findS id a with
  |some c=>some c
  |none=>findS id b
 | .block _ b=>findS id b
 | .loop b=>findS id b
 | .scope b=>findS id b
 |_=>none
theorem zps {P:Program}{c c':Code}{Q:Exit→Act→World→Prop}{a:Act}{w:World}(h:c=c')(hw:c.wp P Q a w):c'.wp P Q a w:=h ▸ hw
def findB (id:Nat):Code→Option Code
 | .seq a b=>match findB id a with
  |some c=>some c
  |none=>findB id b
 | .cond _ a b=>match findB id a with
  |some c=>some c
  |none=>findB id b
 | .block i b=>if i=id then some (.block i b) else findB id b
 | .loop b=>findB id b
 | .scope b=>findB id b
 |_=>none
noncomputable def BLK5:Code:=(Tryz.f3.body.bind (findB 5)).getD .skip
noncomputable def RESTC:Code:=(Tryz.f3.body.bind (findS 56)).getD .skip
def OncePost (w:World)(e:Ending)(w':World):Prop:=e = .returned (.bool true)∧Below w.heap.size w w'
section
variable {PR:SMod}{M:List Int→Prop}{Cq:List Value→Prop}{ans:List Int→List Value→List Value×Int}{P:Nat→List Int}{qc:Int→List Value}(oh:OnceH PR M Cq ans P qc)
include oh
set_option pp.deepTerms true in
set_option pp.maxSteps 100000 in
theorem zzw {w W10:World}{W nA_ ll sp pa sb c17 c20:Nat}{A17 A20:Option Addr}{v18 v19:Value}{at_ of_:List Nat}{xs:List Int}{L:List Td}{x0 x1 x2 x3 x4 x5 x6 x9 x10 x12 x13 x14 x15 x16 x21 x22 x23 x24 x27 x28 x29 x30 x31 x32 x33 x34 x35 x36 x37 x38 x39 x40 x41 x42 x43 x44 x45 x46 x47 x48 x49 x50 x51 x52 x53 x54 x55 x56 x57 x58 x59 x60 x61 x62 x63 x64 x65 x66 x67 x68 x69 x70 x71 x72 x73 x74 x75 x76 x77 x78 x79 x80 x81 x82 x83 x84 x85 x86 x87 x88 x89 x90 x91 x92 x93 x94 x95 x96 x97 x98 x99 x100 x101 x102 x103 x104 x105 x106 x107 x108 x109 x110 x111 x112 x113 x114 x115 x116 x117 x118 x119 x120 x121 x122 x123 x124 x125 x126 x127 x128 x129 x130 x131 x132 x133 x134 x135 x136 x137 x138 x139 x140 x141 x142 x143 x144 x145 x146 x147 x148 x149 x150 x151 x152 x153 x154 x155 x156 x157 x158 x159 x160 x161 x162 x163 x164 x165 x166 x167 x168 x169 x170 x171 x172 x173 x174 x175 x176 x177 x178 x179 x180 x181 x182 x183 x184 x185 x186 x187 x188 x189 x190 x191 x192 x193 x194 x195 x196 x197 x198 x199 x200 x201 x202 x203 x204 x205 x206 x207 x208 x209 x210 x211 x212 x213 x214 x215 x216 x217 x218 x219 x220 x221 x222 x223 x224 x225 x226 x227 x228 x229 x230 x231 x232 x233 x234 x235 x236 x237 x238 x239 x240 x241 x242 x243 x244 x245 x246 x247 x248 x249 x250 x251 x252 x253 x254 x255 x256 x257 x258 x259 x260 x261 x262 x263 x264 x265 x266 x267 x268 x269 x270 x271 x272 x273 x274 x275 x276 x277 x278 x279 x280 x281 x282 x283 x284 x285 x286 x287 x288 x289 x290 x291 x292 x293 x294 x295 x296 x297 x298 x299 x300 x301 x302 x303 x304 x305 x306 x307 x308 x309 x310 x311 x312 x313 x314 x315:Value}
  (hW6:W<6) (hnl:at_.length=nA_) (hln:L.length=ll) (hll9:ll≤1000000) (hep:EndP ans P (cxOf qc) W at_ of_ xs L) (he0:EndH PR M Cq w W10 sp pa (.slice A17 nA_ c17) v18 v19 (.slice A20 ll c20) at_ of_ xs L∧Blk W10 sb 4 (seenA nA_ (L.take 0))∧w.heap.size≤sb)
  {K:Act→World→Prop} (hK:∀ a w',RESTC.wp Tryz.prog (bodyPost Tryz.prog Tryz.f3 (OncePost w)) a w'→K a w') :
  BLK5.wp Tryz.prog (Exit.then K (bodyPost Tryz.prog Tryz.f3 (OncePost w))) ⟨#[x0,x1,x2,x3,x4,x5,x6,.int .i64 (W:Int),.pointer (some ⟨sp,0,none⟩),x9,x10,.pointer (some ⟨pa,0,none⟩),x12,x13,x14,x15,x16,.slice A17 nA_ c17,v18,v19,.slice A20 ll c20,x21,x22,x23,x24,.slice (some ⟨sb,0,none⟩) nA_ nA_,.int .i64 0,x27,x28,x29,x30,x31,x32,x33,x34,x35,x36,x37,x38,x39,x40,x41,x42,x43,x44,x45,x46,x47,x48,x49,x50,x51,x52,x53,x54,x55,x56,x57,x58,x59,x60,x61,x62,x63,x64,x65,x66,x67,x68,x69,x70,x71,x72,x73,x74,x75,x76,x77,x78,x79,x80,x81,x82,x83,x84,x85,x86,x87,x88,x89,x90,x91,x92,x93,x94,x95,x96,x97,x98,x99,x100,x101,x102,x103,x104,x105,x106,x107,x108,x109,x110,x111,x112,x113,x114,x115,x116,x117,x118,x119,x120,x121,x122,x123,x124,x125,x126,x127,x128,x129,x130,x131,x132,x133,x134,x135,x136,x137,x138,x139,x140,x141,x142,x143,x144,x145,x146,x147,x148,x149,x150,x151,x152,x153,x154,x155,x156,x157,x158,x159,x160,x161,x162,x163,x164,x165,x166,x167,x168,x169,x170,x171,x172,x173,x174,x175,x176,x177,x178,x179,x180,x181,x182,x183,x184,x185,x186,x187,x188,x189,x190,x191,x192,x193,x194,x195,x196,x197,x198,x199,x200,x201,x202,x203,x204,x205,x206,x207,x208,x209,x210,x211,x212,x213,x214,x215,x216,x217,x218,x219,x220,x221,x222,x223,x224,x225,x226,x227,x228,x229,x230,x231,x232,x233,x234,x235,x236,x237,x238,x239,x240,x241,x242,x243,x244,x245,x246,x247,x248,x249,x250,x251,x252,x253,x254,x255,x256,x257,x258,x259,x260,x261,x262,x263,x264,x265,x266,x267,x268,x269,x270,x271,x272,x273,x274,x275,x276,x277,x278,x279,x280,x281,x282,x283,x284,x285,x286,x287,x288,x289,x290,x291,x292,x293,x294,x295,x296,x297,x298,x299,x300,x301,x302,x303,x304,x305,x306,x307,x308,x309,x310,x311,x312,x313,x314,x315],[]⟩ W10:=by
 have OH:=kA oh
 have HNL:=kA hnl
 have HLL:=kA hln
 have HEP:=kA hep
 have HE0:=kA he0
 have HK:=kA hK
 clear oh hnl hln hep he0 hK
 generalize hQQ:bodyPost Tryz.prog Tryz.f3 (OncePost w)=QQ
 unfold BLK5
 simp only[Tryz.f3,findB,Option.bind,Option.getD,Nat.reduceEqDiff,if_true,if_false]
 subst hQQ
 go_wp2_with fail
 go_loopw [26] (fun v26 wz=>∃ j:Nat,j≤ll∧v26 = .int .i64 (j:Int)∧Hid (EndH PR M Cq w wz sp pa (.slice A17 nA_ c17) v18 v19 (.slice A20 ll c20) at_ of_ xs L∧Blk wz sb 4 (seenA nA_ (L.take j))∧w.heap.size≤sb)) (fun v26 _=>ll - (intOf v26).toNat)
 case atStart=>exact ⟨0,kX _,rfl,HE0⟩
 case round =>
  obtain ⟨j,hj,rfl,hx⟩:=hrel
  by_cases hlt:j<ll
  ·have HX:=kA hx.out
   clear hx
   obtain ⟨t,ht⟩:∃ t,L[j]? = some t:=⟨_,kV (by rw[HLL.out];exact hlt)⟩
   have HT:=kA ht
   have HRT:=kA (HEP.out.rt t (qH ht))
   have hlen:∀ v n,(ans (P v) (cxOf qc n)).1.length=6:=fun v n=>(OH.out.sv.an.len _ _ (OH.out.ma v) (OH.out.cq n)).1
   obtain ⟨q0,q1,q2,q3,q4,q5,hrp⟩:=six (HRT.out.six hlen)
   have HRP:=kA hrp
   obtain ⟨g20,c20',e20,_⟩:=World.ownsRow.form HX.out.1.tr (by rw[HLL.out];omega)
   injection e20 with e20a e20b e20c
   subst e20a
   clear e20b e20c
   obtain ⟨tid,htid⟩:∃ x,x=t.id:=⟨_,rfl⟩
   obtain ⟨tver,htver⟩:∃ x,x=t.ver:=⟨_,rfl⟩
   obtain ⟨ttm,httm⟩:∃ x,x=t.time:=⟨_,rfl⟩
   obtain ⟨ter,hter⟩:∃ x,x=t.err:=⟨_,rfl⟩
   obtain ⟨CT,hCT⟩:∃ x:Array Value,x=#[.int .i64 tid,.int .i64 tver,.int .i64 ttm,.int .i64 ter,q0,q1,q2,q3,q4,q5]:=⟨_,rfl⟩
   have HLD:Hid (∀ k u,CT.toList[k]? = some u→wr.cell? ((⟨g20,j*10,none⟩:Addr).add k)=some u):=kA (by
    intro k u hu
    rw[addk]
    rw[hCT] at hu
    have h1:=HX.out.1.tr.cells (g:=g20) rfl (j*10+k) u (zxk L j k u (fun y hy=>(HEP.out.rt y hy).six hlen) HT.out (by unfold cellsT;rw[HRP.out, ← htid, ← htver, ← httm, ← hter];exact hu))
    rw[add0] at h1
    exact h1)
   have HCTZ:Hid (CT.size=10):=kA (by rw[hCT];rfl)
   have HCT1:Hid (CT.all (·.oneCell')=true):=kA (by
    have h1:∀ u∈t.rp,u.oneCell'=true:=by
     rcases HRT.out with ⟨_,_,e⟩|⟨i,a,v,n,b,_,_,_,_,_,_,_,_,_,e⟩
     ·rw[e];exact zmn
     ·rw[e];exact OH.out.sv.one _ _ (OH.out.ma v)
    rw[hrp] at h1
    rw[hCT]
    simpa [Value.oneCell'] using h1)
   have HCT:=kA hCT
   have HTD:=kA (And.intro htid (And.intro htver (And.intro httm hter)))
   have hlt':(j:Int)<(ll:Int):=by omega
   clear ht hrp hlen htid htver httm hter hCT
   have hwj:IntKind.i64.wrap ((j:Int)+1)=(j:Int)+1:=qR _ (by omega)
   go_upto_region 47 with (first
    |(refine za1 _ rfl 47 _ rfl ⟨g20,j*10,none⟩ CT _ rfl (by exact HLD.out) Tryz.underlying47 rfl (HCTZ.out.symm ▸ zms) ?_)
    |(refine zaw _ rfl 47 _ _ rfl wr.heap.size _ CT 47 rfl rfl (by exact Blk.new wr _ _) (HCTZ.out.symm ▸ zms) (by rw[HCTZ.out];rfl) HCT1.out ?_;intro W5 hb5 ha5 hs5;have HK5:=kA hb5;have HB5:Hid (Below wr.heap.size wr W5):=kA ((Below.new1 wr _).trans (ha5.below (fun k e=>by rw[e];exact kJ _) (by simp)));clear hb5 ha5 hs5))
   rw[HCT.out] at HK5
   obtain ⟨tb,htb⟩:∃ x,x=wr.heap.size:=⟨_,rfl⟩
   have HE5:Hid (EndH PR M Cq w W5 sp pa (.slice A17 nA_ c17) v18 v19 (.slice (some ⟨g20,0,none⟩) ll c20) at_ of_ xs L∧Blk W5 sb 4 (seenA nA_ (L.take j))):=kA ⟨HX.out.1.below OH.out.sv.an.st HB5.out,zab HX.out.2.1 HB5.out⟩
   rw[← htb] at HK5 ⊢
   have HSB:=kA HX.out.2.2
   have HTK:=kA (zus HT.out)
   clear htb HLD HB5 HX
   have y0:W5.cell? ⟨tb,0,none⟩=some (.int .i64 tid):=HK5.out.cell 0
   have y3:W5.cell? ⟨tb,3,none⟩=some (.int .i64 ter):=HK5.out.cell 3
   rcases HRT.out with hA|⟨k,a,v,n,b,i1,i2,i3,i4,i5,i6,i7,i8,i9,i10⟩
   ·obtain ⟨hA1,hA2,_⟩:=hA
    obtain ⟨d1,d2,d3,d4⟩:=HTD.out
    have HA1:=kA hA1
    rw[hA1] at d1
    rw[hA2] at d4
    subst d1
    subst d4
    clear hA1 hA2 d2 d3
    go_wp2_with fail
    go_roundw
    case rel=>exact ⟨j+1,by omega,by first|rfl|go_num,kA ⟨HE5.out.1,by rw[HTK.out.1, ← zrd HA1.out (by have:=HEP.out.le;have:=HNL.out;omega)];exact HE5.out.2,HSB.out⟩⟩
    case measure=>simp[intOf];omega
   ·obtain ⟨d1,d2,d3,d4⟩:=HTD.out
    obtain ⟨u,hu⟩:∃ u,v=u+1:=⟨v - 1,by have:=(HEP.out.ov.1 v (qH i3)).1;omega⟩
    have hu3:u<3:=by have:=(HEP.out.ov.1 v (qH i3)).2;omega
    have ha9:a≤1000:=HEP.out.ov.2 a (qH i2)
    have hkn:k<nA_:=by rw[← HNL.out];exact (kK.1 i2).1
    have hn9:nA_≤100:=by rw[← HNL.out];exact HEP.out.le
    have hk8:k<of_.length:=by rw[HEP.out.l1,HNL.out];exact hkn
    have hk9:k<xs.length:=by rw[HEP.out.l2,HNL.out];exact hkn
    have ys:W5.cell? ⟨sb,k,none⟩=some (.bool false):=(HE5.out.2.cell k).trans (by rw[zdm _ hkn,zzv HEP.out.pm HTK.out.2 i1 (by omega)])
    have HRR:Hid (ter=(ans (P (u+1)) (cxOf qc n)).2∧[q0,q1,q2,q3,q4,q5]=(ans (P (u+1)) (cxOf qc n)).1):=kA ⟨by rw[d4,i9,hu],by rw[← HRP.out,i10,hu]⟩
    have HID:=kA i1
    rw[i1] at d1
    rw[i5,hu] at d2
    rw[i6] at d3
    subst d1
    subst d2
    subst d3
    obtain ⟨g7,c7,e7,_⟩:=World.ownsRow.form HE5.out.1.r7 (by rw[HNL.out];omega)
    injection e7 with e7a e7b e7c
    subst e7a
    clear e7b e7c
    obtain ⟨g8,c8,e8,_⟩:=World.ownsRow.form HE5.out.1.r8 (by omega)
    subst e8
    obtain ⟨g9,c9,e9,_⟩:=World.ownsRow.form HE5.out.1.r9 (by omega)
    subst e9
    have y7:W5.cell? ⟨g7,k,none⟩=some (.int .i64 (a:Int)):=by
     have h1:=HE5.out.1.r7.cells (g:=g7) rfl k _ (zmt i2)
     rw[add0] at h1
     exact h1
    have y8:W5.cell? ⟨g8,k,none⟩=some (.int .i64 ((u+1:Nat):Int)):=by
     have h1:=HE5.out.1.r8.cells (g:=g8) rfl k _ (zmt (a:=u+1) (by rw[← hu];exact i3))
     rw[add0] at h1
     exact h1
    have HXN:=kA i4
    have y1:W5.cell? ⟨tb,1,none⟩=some (.int .i64 ((u+1:Nat):Int)):=HK5.out.cell 1
    have y2:W5.cell? ⟨tb,2,none⟩=some (.int .i64 (b:Int)):=HK5.out.cell 2
    obtain ⟨vI,hvI⟩:∃ x:Int,x=((u+1:Nat):Int):=⟨_,rfl⟩
    rw[← hvI] at y1 y8 HK5
    have hwv:IntKind.i64.wrap (vI - 1)=(u:Int):=(qR _ (by omega)).trans (by omega)
    obtain ⟨aw,haw⟩:∃ x,x=a+W:=⟨_,rfl⟩
    have hwa:IntKind.i64.wrap ((a:Int)+(W:Int))=(aw:Int):=(qR _ (by omega)).trans (by omega)
    have b1:((k:Int) == 99999)=false:=by rw[kS];omega
    have b2:decide ((k:Int)<0)=false:=kQ (by omega)
    have b3:decide ((nA_:Int)≤(k:Int))=false:=kQ (by omega)
    have b4:decide ((b:Int)<(a:Int))=false:=kQ (by omega)
    have b5:decide ((aw:Int)<(b:Int))=false:=kQ (by omega)
    have b6:decide ((k:Int) ≥ (nA_:Int))=false:=kQ (by omega)
    have b7:decide ((b:Int) > (aw:Int))=false:=kQ (by omega)
    have c1:¬ (k:Int)<0:=by omega
    have f7:¬ (nA_:Int)≤(k:Int):=by omega
    have f8:¬ (b:Int)<(a:Int):=by omega
    have f9:¬ (aw:Int)<(b:Int):=by omega
    have c3:(k:Int)<(nA_:Int):=by omega
    have c4:(k:Int)<(of_.length:Int):=by omega
    have c5:(k:Int)<(xs.length:Int):=by omega
    have c6:(u:Int)<3:=by omega
    have zf:W5.frozen? ⟨sb,k,none⟩=false:=HE5.out.2.frozen k
    clear d4 hu i1 i2 i3 i4 i5 i6 i7 i8 i9 i10 ha9 haw hvI
    go_upto_region 50 with fail
    go_cut [267] from 219 to 266 (fun v267 wx=>v267 = .bool false∧Hid (EndH PR M Cq w wx sp pa (.slice (some ⟨g7,0,none⟩) nA_ c17) (.slice (some ⟨g8,0,none⟩) of_.length c8) (.slice (some ⟨g9,0,none⟩) xs.length c9) (.slice (some ⟨g20,0,none⟩) ll c20) at_ of_ xs L∧Blk wx sb 4 (seenA nA_ (L.take j))∧Blk wx tb 47 #[.int .i64 (k:Int),.int .i64 vI,.int .i64 (b:Int),.int .i64 ter,q0,q1,q2,q3,q4,q5]))
    case first =>
     go_region_held3 (fun w'=>w'.cell? ⟨tb,0,none⟩=some (.int .i64 (k:Int))∧w'.cell? ⟨tb,1,none⟩=some (.int .i64 vI)∧w'.cell? ⟨tb,2,none⟩=some (.int .i64 (b:Int))∧w'.cell? ⟨sb,k,none⟩=some (.bool false)∧w'.cell? ⟨g7,k,none⟩=some (.int .i64 (a:Int))∧w'.cell? ⟨g8,k,none⟩=some (.int .i64 vI)) (simp[*]) (first|(go_at_call 9999))
     go_wp2_with fail
     go_meet
     exact ⟨rfl,kA ⟨HE5.out.1.below OH.out.sv.an.st (Below.refl _ W5).drew,HE5.out.2,HK5.out⟩⟩
    case rest =>
     obtain ⟨rfl,hmid⟩:=hcut
     have z0:wc.cell? ⟨tb,0,none⟩=some (.int .i64 (k:Int)):=hmid.out.2.2.cell 0
     have zs:wc.cell? ⟨sb,k,none⟩=some (.bool (List.any (L.take j) (isId k))):=(hmid.out.2.1.cell k).trans (zdm _ hkn)
     have zg:wc.frozen? ⟨sb,k,none⟩=false:=hmid.out.2.1.frozen k
     clear y0 y1 y2 y3 y7 y8 ys zf b1 b2 b3 b4 b5 b6 b7 f7 f8 f9 HE5 HK5
     go_upto_region 53 with fail
     have HE6:Hid (EndH PR M Cq w (wc.setCell ⟨sb,k,none⟩ (.bool true)) sp pa (.slice (some ⟨g7,0,none⟩) nA_ c17) (.slice (some ⟨g8,0,none⟩) of_.length c8) (.slice (some ⟨g9,0,none⟩) xs.length c9) (.slice (some ⟨g20,0,none⟩) ll c20) at_ of_ xs L∧Blk (wc.setCell ⟨sb,k,none⟩ (.bool true)) sb 4 (seenA nA_ (L.take (j+1)))∧Blk (wc.setCell ⟨sb,k,none⟩ (.bool true)) tb 47 #[.int .i64 (k:Int),.int .i64 vI,.int .i64 (b:Int),.int .i64 ter,q0,q1,q2,q3,q4,q5]):=kA (by
      have hal:Alt wc (wc.setCell ⟨sb,k,none⟩ (.bool true)) (fun q=>q=sb):=Alt.set_ (p:=fun q=>q=sb) (a:=⟨sb,k,none⟩) (Alt.refl _ _) rfl _
      refine ⟨hmid.out.1.bool hmid.out.2.1 HSB.out hal,?_,hmid.out.2.2.kept hal (fun e=>Blk.ne_ hmid.out.2.2 hmid.out.2.1 (by decide) e)⟩
      rw[HTK.out.1, ← zur HID.out hkn]
      exact hmid.out.2.1.set_ k _)
     generalize wc.setCell ⟨sb,k,none⟩ (.bool true)=W6 at HE6 ⊢
     obtain ⟨DC,hDC⟩:∃ x,x=(.int .i64 0 :: .int .i64 0 :: .int .i64 (ans (P (u+1)) (cxOf qc n)).2 :: (ans (P (u+1)) (cxOf qc n)).1).toArray:=⟨_,rfl⟩
     have HMD:Hid (∀ V:World,Calls Tryz.prog 11 #[.int .i64 ((2*u+1:Nat):Int)] V fun e w'=>∃ cs,e = .returned (.agg cs)∧Below V.heap.size V w'∧∀ V2 cb,Below w'.heap.size w' V2→V2.ownsRow 0 124 7 (.slice (some ⟨cb,0,none⟩) 2 2) 2 (cxOf qc n)→Calls Tryz.prog 10 #[.agg cs,.agg #[.int .i64 0,.slice (some ⟨cb,0,none⟩) 2 2]] V2 fun e w''=>e = .returned (.agg DC)∧Below V2.heap.size V2 w''):=kA fun V=>by
      rw[hDC];exact OH.out.al u n hu3 V
     have HCL:=kA (zdl OH.out.q n)
     have HDE:Hid (DC=#[.int .i64 0,.int .i64 0,.int .i64 ter,q0,q1,q2,q3,q4,q5]):=kA (by rw[hDC, ← HRR.out.1, ← HRR.out.2])
     have HDC:Hid (DC.size=9∧DC.all (·.oneCell')=true):=kA (by
      rw[HDE.out]
      refine ⟨rfl,?_⟩
      have h1:=OH.out.sv.one _ (cxOf qc n) (OH.out.ma (u+1))
      rw[← HRR.out.2] at h1
      simpa [Value.oneCell'] using h1)
     have HPU:Hid ((#[Value.int .i64 1,.int .i64 3,.int .i64 5]:Array Value)[u]? = some (.int .i64 ((2*u+1:Nat):Int))):=kA (zuu u hu3)
     obtain ⟨pm,hpm⟩:∃ x:Int,x=((2*u+1:Nat):Int):=⟨_,rfl⟩
     rw[← hpm] at HMD HPU
     have HCA:Hid (∀ V,Below W6.heap.size W6 V→V.cell? ⟨tb,0,none⟩=some (.int .i64 (k:Int))∧V.cell? ⟨tb,1,none⟩=some (.int .i64 vI)∧V.cell? ⟨pa,u,none⟩=some (.int .i64 pm)∧V.cell? ⟨g9,k,none⟩=some (.int .i64 n)):=kA fun V hV=>by
      have h1:=zab HE6.out.2.2 hV
      have h2:=zab HE6.out.1.pa hV
      have h3:=(zad HE6.out.1.r9 hV).cells (g:=g9) rfl k _ (zut HXN.out)
      rw[add0] at h3
      exact ⟨h1.cell 0,h1.cell 1,(h2.cell u).trans HPU.out,h3⟩
     clear hDC hpm z0 zs zg hmid
     go_cut [28] from 272 to 285 (fun v28 wx=>∃ db:Nat,v28 = .pointer (some ⟨db,0,none⟩)∧Hid (Below W6.heap.size W6 wx∧Blk wx db 56 DC∧W6.heap.size≤db))
     case first =>
      refine wp_region_held_drew (S:=fun V=>Below W6.heap.size W6 V) (by kernel_rfl) (Below.refl _ W6).drew (fun hHeld=>?_)
      refine wpAnyH_take (i:=0) (oi:=_) (v:=?v0) rfl (by kernel_rfl) (by kernel_rfl) (by kernel_rfl) (fun _ _ _ h=>h) (Or.inl ⟨by rfl,?y0⟩) (by assumption) ?r0
      case y0=>(intro w' hSw;(try dsimp only at hSw);(try simp only[kD,kB]);go_simp;try (with_reducible rfl))
      try simp only[Act.put,kE,kG,kF,kD,kB]
      refine wpAnyH_take (i:=1) (oi:=_) (v:=?v1) rfl (by kernel_rfl) (by kernel_rfl) (by kernel_rfl) (fun _ _ _ h=>h) (Or.inl ⟨by rfl,?y1⟩) (by assumption) ?r1
      case y1=>(intro w' hSw;obtain ⟨hx0,hx1,hxp,hxn⟩:=HCA.out w' hSw;clear hSw;(try dsimp only at hSw);(try simp only[kD,kB,kC]);go_simp;try (with_reducible rfl))
      try simp only[Act.put,kE,kG,kF,kD,kB,kC]
      refine wpAnyH_take (i:=2) (oi:=_) (v:=?v2) rfl (by kernel_rfl) (by kernel_rfl) (by kernel_rfl) (fun _ _ _ h=>h) (Or.inl ⟨by rfl,?y2⟩) (by assumption) ?r2
      case y2=>(intro w' hSw;(try dsimp only at hSw);(try simp only[kD,kB,kC]);go_simp;try (with_reducible rfl))
      try simp only[Act.put,kE,kG,kF,kD,kB,kC]
      refine wpAnyH_take (i:=3) (oi:=_) (v:=?v3) rfl (by kernel_rfl) (by kernel_rfl) (by kernel_rfl) (fun _ _ _ h=>h) (Or.inl ⟨by rfl,?y3⟩) (by assumption) ?r3
      case y3=>(intro w' hSw;(try dsimp only at hSw);(try simp only[kD,kB,kC]);go_simp;try (with_reducible rfl))
      try simp only[Act.put,kE,kG,kF,kD,kB,kC]
      refine wpAnyH_take (i:=4) (oi:=_) (v:=?v4) rfl (by kernel_rfl) (by kernel_rfl) (by kernel_rfl) (fun _ _ _ h=>h) (Or.inl ⟨by rfl,?y4⟩) (by assumption) ?r4
      case y4=>(intro w' hSw;obtain ⟨hx0,hx1,hxp,hxn⟩:=HCA.out w' hSw;clear hSw;(try dsimp only at hSw);(try simp only[kD,kB,kC]);go_simp;try (with_reducible rfl))
      try simp only[Act.put,kE,kG,kF,kD,kB,kC]
      refine wpAnyH_take (i:=6) (oi:=_) (v:=?v6) rfl (by kernel_rfl) (by kernel_rfl) (by kernel_rfl) (fun _ _ _ h=>h) (Or.inl ⟨by rfl,?y6⟩) (by assumption) ?r6
      case y6=>(intro w' hSw;(try dsimp only at hSw);(try simp only[kD,kB,kC]);go_simp;try (with_reducible rfl))
      try simp only[Act.put,kE,kG,kF,kD,kB,kC]
      refine wpAnyH_take (i:=7) (oi:=_) (v:=?v7) rfl (by kernel_rfl) (by kernel_rfl) (by kernel_rfl) (fun _ _ _ h=>h) (Or.inl ⟨by rfl,?y7⟩) (by assumption) ?r7
      case y7=>(intro w' hSw;(try dsimp only at hSw);(try simp only[kD,kB,kC]);go_simp;try (with_reducible rfl))
      try simp only[Act.put,kE,kG,kF,kD,kB,kC]
      refine wpAnyH_take (i:=8) (oi:=_) (v:=?v8) rfl (by kernel_rfl) (by kernel_rfl) (by kernel_rfl) (fun _ _ _ h=>h) (Or.inl ⟨by rfl,?y8⟩) (by assumption) ?r8
      case y8=>(intro w' hSw;obtain ⟨hx0,hx1,hxp,hxn⟩:=HCA.out w' hSw;clear hSw;(try dsimp only at hSw);(try simp only[kD,kB,kC]);go_simp;try (with_reducible rfl))
      try simp only[Act.put,kE,kG,kF,kD,kB,kC]
      refine wpAnyH_take (i:=9) (oi:=_) (v:=?v9) rfl (by kernel_rfl) (by kernel_rfl) (by kernel_rfl) (fun _ _ _ h=>h) (Or.inl ⟨by rfl,?y9⟩) (by assumption) ?r9
      case y9=>(intro w' hSw;(try dsimp only at hSw);(try simp only[kD,kB,kC]);go_simp;try (with_reducible rfl))
      try simp only[Act.put,kE,kG,kF,kD,kB,kC]
      refine wpAnyH_take (i:=10) (oi:=_) (v:=?v10) rfl (by kernel_rfl) (by kernel_rfl) (by kernel_rfl) (fun _ _ _ h=>h) (Or.inl ⟨by rfl,?y10⟩) (by assumption) ?r10
      case y10=>(intro w' hSw;obtain ⟨hx0,hx1,hxp,hxn⟩:=HCA.out w' hSw;clear hSw;(try dsimp only at hSw);(try simp only[kD,kB,kC]);go_simp;try (with_reducible rfl))
      try simp only[Act.put,kE,kG,kF,kD,kB,kC]
      refine wpAnyH_ready (rs:=[5,14]) (by kernel_rfl) (by simp) ?_
      refine (AllReadyH.cons rfl (fun K hK=>?_) (AllReadyH.cons rfl (fun K hK=>?_) AllReadyH.nil))
      ·try simp only[kD,kB,kC]
       go_simp
       go_at_call 11
       refine (HMD.out _).mono ?_
       rintro e m1 ⟨csm1,rfl,hb2,hal2⟩
       have HBm1:Hid (Below W6.heap.size W6 m1):=kA (hHeld.trans (hb2.mono hHeld.size))
       have HALm1:=kA hal2
       have HRm1:=kA hb2
       clear hb2 hal2
       refine hK.out _ _ HBm1.out (fun hHeld=>?_)
       clear hK K
       try simp only[Act.put,kE,kG,kF,kD,kB,kC]
       refine wpAnyH_ready (rs:=[11,14]) (by kernel_rfl) (by simp) ?_
       refine (AllReadyH.cons rfl (fun K hK=>?_) (AllReadyH.cons rfl (fun K hK=>?_) AllReadyH.nil))
       ·try simp only[kD,kB,kC]
        go_simp
        go_at_call 9
        refine (HCL.out _).mono ?_
        rintro e c2 ⟨cbc2,rfl,hcr,hb3⟩
        have HBc2:Hid (Below W6.heap.size W6 c2):=kA (HBm1.out.trans (hb3.mono HBm1.out.size))
        have HBLc2:=kA hb3
        have HCRc2:=kA (zau hcr (kX _))
        clear hcr hb3
        refine hK.out _ _ HBc2.out (fun hHeld=>?_)
        clear hK K
        try simp only[Act.put,kE,kG,kF,kD,kB,kC]
        refine wpAnyH_take (i:=12) (oi:=_) (v:=?v12p) rfl (by kernel_rfl) (by kernel_rfl) (by kernel_rfl) (fun _ _ _ h=>h) (Or.inl ⟨by rfl,?y12p⟩) (by assumption) ?r12p
        case y12p=>(intro w' hSw;(try dsimp only at hSw);(try simp only[kD,kB,kC]);go_simp;try (with_reducible rfl))
        try simp only[Act.put,kE,kG,kF,kD,kB,kC]
        refine wpAnyH_ready (rs:=[13,14]) (by kernel_rfl) (by simp) ?_
        refine (AllReadyH.cons rfl (fun K hK=>?_) (AllReadyH.cons rfl (fun K hK=>?_) AllReadyH.nil))
        ·try simp only[kD,kB,kC]
         go_simp
         go_at_call 10
         refine (HALm1.out _ cbc2 HBLc2.out HCRc2.out).mono ?_
         rintro e a3 ⟨rfl,hb4⟩
         have HBa3:Hid (Below W6.heap.size W6 a3):=kA (HBc2.out.trans (hb4.mono HBc2.out.size))
         have HBLa3:=kA hb4
         clear hb4
         refine hK.out _ _ HBa3.out (fun hHeld=>?_)
         clear hK K
         try simp only[Act.put,kE,kG,kF,kD,kB,kC]
         refine wpAnyH_ready (rs:=[14]) (by kernel_rfl) (by simp) ?_
         refine (AllReadyH.cons rfl (fun K hK=>?_) AllReadyH.nil)
         try simp only[kD,kB,kC]
         go_simp
         have HBz4:Hid (Below W6.heap.size W6 (World.alloc a3 (.cells #[.int .i64 0,.int .i64 0,.int .i64 0,.int .i64 0,.bool false,.int .u64 0,.string ⟨#[]⟩,.int .u64 0,.string ⟨#[]⟩] 56))):=kA ((HBa3.out.alloc HBa3.out.size _))
         have HKz4:Hid (Blk (World.alloc a3 (.cells #[.int .i64 0,.int .i64 0,.int .i64 0,.int .i64 0,.bool false,.int .u64 0,.string ⟨#[]⟩,.int .u64 0,.string ⟨#[]⟩] 56)) a3.heap.size 56 #[.int .i64 0,.int .i64 0,.int .i64 0,.int .i64 0,.bool false,.int .u64 0,.string ⟨#[]⟩,.int .u64 0,.string ⟨#[]⟩]):=kA (Blk.new a3 _ _)
         have HNz4:Hid (Below a3.heap.size a3 (World.alloc a3 (.cells #[.int .i64 0,.int .i64 0,.int .i64 0,.int .i64 0,.bool false,.int .u64 0,.string ⟨#[]⟩,.int .u64 0,.string ⟨#[]⟩] 56))):=kA ((Below.new1 a3 _))
         have HSz4:Hid (W6.heap.size≤a3.heap.size):=kA HBa3.out.size
         refine hK.out _ _ HBz4.out (fun hHeld=>?_)
         clear hK K
         try simp only[Act.put,kE,kG,kF,kD,kB,kC]
         refine wpAnyH_ready (rs:=[15]) (by kernel_rfl) (by simp) ?_
         refine (AllReadyH.cons rfl (fun K hK=>?_) AllReadyH.nil)
         try simp only[kD,kB,kC]
         rw[kZ (by rfl)]
         refine zbt _ 56 (.tmp 28) (.tmp 285) rfl a3.heap.size #[.int .i64 0,.int .i64 0,.int .i64 0,.int .i64 0,.bool false,.int .u64 0,.string ⟨#[]⟩,.int .u64 0,.string ⟨#[]⟩] DC 56 rfl rfl (by exact HKz4.out) (HDC.out.1.symm ▸ zhf) (by rw[HDC.out.1];rfl) HDC.out.2 ?_
         intro w9 hb9 ha9 hs9
         have HB9:Hid (Below W6.heap.size W6 w9):=kA (HBz4.out.trans (ha9.below (B:=W6.heap.size) (fun k e=>by rw[e];exact HSz4.out) HBz4.out.size))
         refine hK.out _ _ HB9.out (fun hHeld=>?_)
         clear hK K
         try simp only[Act.put]
         refine wpAnyH_done (by kernel_rfl) ?_ _
         go_wp2_with fail
         go_meet
         exact ⟨a3.heap.size,rfl,kA ⟨HB9.out,hb9,HSz4.out⟩⟩
        ·try simp only[kD,kB,kC]
         go_simp
         have HBz5:Hid (Below W6.heap.size W6 (World.alloc c2 (.cells #[.int .i64 0,.int .i64 0,.int .i64 0,.int .i64 0,.bool false,.int .u64 0,.string ⟨#[]⟩,.int .u64 0,.string ⟨#[]⟩] 56))):=kA ((HBc2.out.alloc HBc2.out.size _))
         have HKz5:Hid (Blk (World.alloc c2 (.cells #[.int .i64 0,.int .i64 0,.int .i64 0,.int .i64 0,.bool false,.int .u64 0,.string ⟨#[]⟩,.int .u64 0,.string ⟨#[]⟩] 56)) c2.heap.size 56 #[.int .i64 0,.int .i64 0,.int .i64 0,.int .i64 0,.bool false,.int .u64 0,.string ⟨#[]⟩,.int .u64 0,.string ⟨#[]⟩]):=kA (Blk.new c2 _ _)
         have HNz5:Hid (Below c2.heap.size c2 (World.alloc c2 (.cells #[.int .i64 0,.int .i64 0,.int .i64 0,.int .i64 0,.bool false,.int .u64 0,.string ⟨#[]⟩,.int .u64 0,.string ⟨#[]⟩] 56))):=kA ((Below.new1 c2 _))
         have HSz5:Hid (W6.heap.size≤c2.heap.size):=kA HBc2.out.size
         refine hK.out _ _ HBz5.out (fun hHeld=>?_)
         clear hK K
         try simp only[Act.put,kE,kG,kF,kD,kB,kC]
         refine wpAnyH_ready (rs:=[13]) (by kernel_rfl) (by simp) ?_
         refine (AllReadyH.cons rfl (fun K hK=>?_) AllReadyH.nil)
         try simp only[kD,kB,kC]
         go_simp
         go_at_call 10
         refine (HALm1.out _ cbc2 (HBLc2.out.trans (HNz5.out.mono HBLc2.out.size)) (zad HCRc2.out HNz5.out)).mono ?_
         rintro e a6 ⟨rfl,hb4⟩
         have HBa6:Hid (Below W6.heap.size W6 a6):=kA (HBz5.out.trans (hb4.mono HBz5.out.size))
         have HBLa6:=kA hb4
         clear hb4
         refine hK.out _ _ HBa6.out (fun hHeld=>?_)
         clear hK K
         try simp only[Act.put,kE,kG,kF,kD,kB,kC]
         refine wpAnyH_ready (rs:=[15]) (by kernel_rfl) (by simp) ?_
         refine (AllReadyH.cons rfl (fun K hK=>?_) AllReadyH.nil)
         try simp only[kD,kB,kC]
         rw[kZ (by rfl)]
         refine zbt _ 56 (.tmp 28) (.tmp 285) rfl c2.heap.size #[.int .i64 0,.int .i64 0,.int .i64 0,.int .i64 0,.bool false,.int .u64 0,.string ⟨#[]⟩,.int .u64 0,.string ⟨#[]⟩] DC 56 rfl rfl (by exact zab HKz5.out HBLa6.out) (HDC.out.1.symm ▸ zhf) (by rw[HDC.out.1];rfl) HDC.out.2 ?_
         intro w9 hb9 ha9 hs9
         have HB9:Hid (Below W6.heap.size W6 w9):=kA (HBa6.out.trans (ha9.below (B:=W6.heap.size) (fun k e=>by rw[e];exact HSz5.out) HBa6.out.size))
         refine hK.out _ _ HB9.out (fun hHeld=>?_)
         clear hK K
         try simp only[Act.put]
         refine wpAnyH_done (by kernel_rfl) ?_ _
         go_wp2_with fail
         go_meet
         exact ⟨c2.heap.size,rfl,kA ⟨HB9.out,hb9,HSz5.out⟩⟩
       ·try simp only[kD,kB,kC]
        go_simp
        have HBz7:Hid (Below W6.heap.size W6 (World.alloc m1 (.cells #[.int .i64 0,.int .i64 0,.int .i64 0,.int .i64 0,.bool false,.int .u64 0,.string ⟨#[]⟩,.int .u64 0,.string ⟨#[]⟩] 56))):=kA ((HBm1.out.alloc HBm1.out.size _))
        have HKz7:Hid (Blk (World.alloc m1 (.cells #[.int .i64 0,.int .i64 0,.int .i64 0,.int .i64 0,.bool false,.int .u64 0,.string ⟨#[]⟩,.int .u64 0,.string ⟨#[]⟩] 56)) m1.heap.size 56 #[.int .i64 0,.int .i64 0,.int .i64 0,.int .i64 0,.bool false,.int .u64 0,.string ⟨#[]⟩,.int .u64 0,.string ⟨#[]⟩]):=kA (Blk.new m1 _ _)
        have HNz7:Hid (Below m1.heap.size m1 (World.alloc m1 (.cells #[.int .i64 0,.int .i64 0,.int .i64 0,.int .i64 0,.bool false,.int .u64 0,.string ⟨#[]⟩,.int .u64 0,.string ⟨#[]⟩] 56))):=kA ((Below.new1 m1 _))
        have HSz7:Hid (W6.heap.size≤m1.heap.size):=kA HBm1.out.size
        refine hK.out _ _ HBz7.out (fun hHeld=>?_)
        clear hK K
        try simp only[Act.put,kE,kG,kF,kD,kB,kC]
        refine wpAnyH_ready (rs:=[11]) (by kernel_rfl) (by simp) ?_
        refine (AllReadyH.cons rfl (fun K hK=>?_) AllReadyH.nil)
        try simp only[kD,kB,kC]
        go_simp
        go_at_call 9
        refine (HCL.out _).mono ?_
        rintro e c8 ⟨cbc8,rfl,hcr,hb3⟩
        have HBc8:Hid (Below W6.heap.size W6 c8):=kA (HBz7.out.trans (hb3.mono HBz7.out.size))
        have HBLc8:=kA hb3
        have HCRc8:=kA (zau hcr (kX _))
        clear hcr hb3
        refine hK.out _ _ HBc8.out (fun hHeld=>?_)
        clear hK K
        try simp only[Act.put,kE,kG,kF,kD,kB,kC]
        refine wpAnyH_take (i:=12) (oi:=_) (v:=?v12q) rfl (by kernel_rfl) (by kernel_rfl) (by kernel_rfl) (fun _ _ _ h=>h) (Or.inl ⟨by rfl,?y12q⟩) (by assumption) ?r12q
        case y12q=>(intro w' hSw;(try dsimp only at hSw);(try simp only[kD,kB,kC]);go_simp;try (with_reducible rfl))
        try simp only[Act.put,kE,kG,kF,kD,kB,kC]
        refine wpAnyH_ready (rs:=[13]) (by kernel_rfl) (by simp) ?_
        refine (AllReadyH.cons rfl (fun K hK=>?_) AllReadyH.nil)
        try simp only[kD,kB,kC]
        go_simp
        go_at_call 10
        refine (HALm1.out _ cbc8 (HNz7.out.trans (HBLc8.out.mono HNz7.out.size)) HCRc8.out).mono ?_
        rintro e a9 ⟨rfl,hb4⟩
        have HBa9:Hid (Below W6.heap.size W6 a9):=kA (HBc8.out.trans (hb4.mono HBc8.out.size))
        have HBLa9:=kA hb4
        clear hb4
        refine hK.out _ _ HBa9.out (fun hHeld=>?_)
        clear hK K
        try simp only[Act.put,kE,kG,kF,kD,kB,kC]
        refine wpAnyH_ready (rs:=[15]) (by kernel_rfl) (by simp) ?_
        refine (AllReadyH.cons rfl (fun K hK=>?_) AllReadyH.nil)
        try simp only[kD,kB,kC]
        rw[kZ (by rfl)]
        refine zbt _ 56 (.tmp 28) (.tmp 285) rfl m1.heap.size #[.int .i64 0,.int .i64 0,.int .i64 0,.int .i64 0,.bool false,.int .u64 0,.string ⟨#[]⟩,.int .u64 0,.string ⟨#[]⟩] DC 56 rfl rfl (by exact zab (zab HKz7.out HBLc8.out) HBLa9.out) (HDC.out.1.symm ▸ zhf) (by rw[HDC.out.1];rfl) HDC.out.2 ?_
        intro w9 hb9 ha9 hs9
        have HB9:Hid (Below W6.heap.size W6 w9):=kA (HBa9.out.trans (ha9.below (B:=W6.heap.size) (fun k e=>by rw[e];exact HSz7.out) HBa9.out.size))
        refine hK.out _ _ HB9.out (fun hHeld=>?_)
        clear hK K
        try simp only[Act.put]
        refine wpAnyH_done (by kernel_rfl) ?_ _
        go_wp2_with fail
        go_meet
        exact ⟨m1.heap.size,rfl,kA ⟨HB9.out,hb9,HSz7.out⟩⟩
      ·try simp only[kD,kB,kC]
       go_simp
       have HBz10:Hid (Below W6.heap.size W6 (World.alloc W6 (.cells #[.int .i64 0,.int .i64 0,.int .i64 0,.int .i64 0,.bool false,.int .u64 0,.string ⟨#[]⟩,.int .u64 0,.string ⟨#[]⟩] 56)).drew):=kA (((Below.refl W6.heap.size W6).alloc (Below.refl W6.heap.size W6).size _).drew)
       have HKz10:Hid (Blk (World.alloc W6 (.cells #[.int .i64 0,.int .i64 0,.int .i64 0,.int .i64 0,.bool false,.int .u64 0,.string ⟨#[]⟩,.int .u64 0,.string ⟨#[]⟩] 56)).drew W6.heap.size 56 #[.int .i64 0,.int .i64 0,.int .i64 0,.int .i64 0,.bool false,.int .u64 0,.string ⟨#[]⟩,.int .u64 0,.string ⟨#[]⟩]):=kA (Blk.new W6 _ _)
       have HNz10:Hid (Below W6.heap.size W6 (World.alloc W6 (.cells #[.int .i64 0,.int .i64 0,.int .i64 0,.int .i64 0,.bool false,.int .u64 0,.string ⟨#[]⟩,.int .u64 0,.string ⟨#[]⟩] 56)).drew):=kA ((Below.new1 W6 _).drew)
       have HSz10:Hid (W6.heap.size≤W6.heap.size):=kA (Below.refl W6.heap.size W6).size
       refine hK.out _ _ HBz10.out (fun hHeld=>?_)
       clear hK K
       try simp only[Act.put,kE,kG,kF,kD,kB,kC]
       refine wpAnyH_ready (rs:=[5]) (by kernel_rfl) (by simp) ?_
       refine (AllReadyH.cons rfl (fun K hK=>?_) AllReadyH.nil)
       try simp only[kD,kB,kC]
       go_simp
       go_at_call 11
       refine (HMD.out _).mono ?_
       rintro e m11 ⟨csm11,rfl,hb2,hal2⟩
       have HBm11:Hid (Below W6.heap.size W6 m11):=kA (HBz10.out.trans (hb2.mono HBz10.out.size))
       have HALm11:=kA hal2
       have HRm11:=kA hb2
       clear hb2 hal2
       refine hK.out _ _ HBm11.out (fun hHeld=>?_)
       clear hK K
       try simp only[Act.put,kE,kG,kF,kD,kB,kC]
       refine wpAnyH_ready (rs:=[11]) (by kernel_rfl) (by simp) ?_
       refine (AllReadyH.cons rfl (fun K hK=>?_) AllReadyH.nil)
       try simp only[kD,kB,kC]
       go_simp
       go_at_call 9
       refine (HCL.out _).mono ?_
       rintro e c12 ⟨cbc12,rfl,hcr,hb3⟩
       have HBc12:Hid (Below W6.heap.size W6 c12):=kA (HBm11.out.trans (hb3.mono HBm11.out.size))
       have HBLc12:=kA hb3
       have HCRc12:=kA (zau hcr (kX _))
       clear hcr hb3
       refine hK.out _ _ HBc12.out (fun hHeld=>?_)
       clear hK K
       try simp only[Act.put,kE,kG,kF,kD,kB,kC]
       refine wpAnyH_take (i:=12) (oi:=_) (v:=?v12r) rfl (by kernel_rfl) (by kernel_rfl) (by kernel_rfl) (fun _ _ _ h=>h) (Or.inl ⟨by rfl,?y12r⟩) (by assumption) ?r12r
       case y12r=>(intro w' hSw;(try dsimp only at hSw);(try simp only[kD,kB,kC]);go_simp;try (with_reducible rfl))
       try simp only[Act.put,kE,kG,kF,kD,kB,kC]
       refine wpAnyH_ready (rs:=[13]) (by kernel_rfl) (by simp) ?_
       refine (AllReadyH.cons rfl (fun K hK=>?_) AllReadyH.nil)
       try simp only[kD,kB,kC]
       go_simp
       go_at_call 10
       refine (HALm11.out _ cbc12 HBLc12.out HCRc12.out).mono ?_
       rintro e a13 ⟨rfl,hb4⟩
       have HBa13:Hid (Below W6.heap.size W6 a13):=kA (HBc12.out.trans (hb4.mono HBc12.out.size))
       have HBLa13:=kA hb4
       clear hb4
       refine hK.out _ _ HBa13.out (fun hHeld=>?_)
       clear hK K
       try simp only[Act.put,kE,kG,kF,kD,kB,kC]
       refine wpAnyH_ready (rs:=[15]) (by kernel_rfl) (by simp) ?_
       refine (AllReadyH.cons rfl (fun K hK=>?_) AllReadyH.nil)
       try simp only[kD,kB,kC]
       rw[kZ (by rfl)]
       refine zbt _ 56 (.tmp 28) (.tmp 285) rfl W6.heap.size #[.int .i64 0,.int .i64 0,.int .i64 0,.int .i64 0,.bool false,.int .u64 0,.string ⟨#[]⟩,.int .u64 0,.string ⟨#[]⟩] DC 56 rfl rfl (by exact zab (zab (zab HKz10.out HRm11.out) HBLc12.out) HBLa13.out) (HDC.out.1.symm ▸ zhf) (by rw[HDC.out.1];rfl) HDC.out.2 ?_
       intro w9 hb9 ha9 hs9
       have HB9:Hid (Below W6.heap.size W6 w9):=kA (HBa13.out.trans (ha9.below (B:=W6.heap.size) (fun k e=>by rw[e];exact (kJ _)) HBa13.out.size))
       refine hK.out _ _ HB9.out (fun hHeld=>?_)
       clear hK K
       try simp only[Act.put]
       refine wpAnyH_done (by kernel_rfl) ?_ _
       go_wp2_with fail
       go_meet
       exact ⟨W6.heap.size,rfl,kA ⟨HB9.out,hb9,(kJ _)⟩⟩
     case rest =>
      obtain ⟨db,rfl,hm⟩:=hcut
      have HM:=kA hm.out
      clear hm
      have HDB:Hid (Blk wc db 56 #[.int .i64 0,.int .i64 0,.int .i64 ter,q0,q1,q2,q3,q4,q5]):=kA (by rw[← HDE.out];exact HM.out.2.1)
      have HTB:=kA (zab HE6.out.2.2 HM.out.1)
      have m0:wc.cell? ⟨db,2,none⟩=some (.int .i64 ter):=HDB.out.cell 2
      have o0:wc.cell? ⟨tb,3,none⟩=some (.int .i64 ter):=HTB.out.cell 3
      have m1:wc.cell? ⟨db,3,none⟩=some q0:=HDB.out.cell 3
      have o1:wc.cell? ⟨tb,4,none⟩=some q0:=HTB.out.cell 4
      have m2:wc.cell? ⟨db,4,none⟩=some q1:=HDB.out.cell 4
      have o2:wc.cell? ⟨tb,5,none⟩=some q1:=HTB.out.cell 5
      have m3:wc.cell? ⟨db,5,none⟩=some q2:=HDB.out.cell 5
      have o3:wc.cell? ⟨tb,6,none⟩=some q2:=HTB.out.cell 6
      have m4:wc.cell? ⟨db,6,none⟩=some q3:=HDB.out.cell 6
      have o4:wc.cell? ⟨tb,7,none⟩=some q3:=HTB.out.cell 7
      have m5:wc.cell? ⟨db,7,none⟩=some q4:=HDB.out.cell 7
      have o5:wc.cell? ⟨tb,8,none⟩=some q4:=HTB.out.cell 8
      have m6:wc.cell? ⟨db,8,none⟩=some q5:=HDB.out.cell 8
      have o6:wc.cell? ⟨tb,9,none⟩=some q5:=HTB.out.cell 9
      have HLK:Hid (∀ V:World,Calls Tryz.prog 12 #[.agg #[q0,q1,q2,q3,q4,q5],.agg #[q0,q1,q2,q3,q4,q5]] V fun e w'=>e = .returned (.bool true)∧Below V.heap.size V w'):=kA fun V=>by
       have h:=OH.out.lk u n hu3 V
       rw[← HRR.out.2] at h
       exact h
      have HLD1:Hid (∀ i z,(#[q0,q1,q2,q3,q4,q5]:Array Value).toList[i]? = some z→wc.cell? ((⟨db,3,none⟩:Addr).add i)=some z):=kA fun i z hz=>by
       have hi:i<6:=by simpa using (kK.1 hz).1
       rw[addk]
       have:i=0∨i=1∨i=2∨i=3∨i=4∨i=5:=by omega
       rcases this with rfl|rfl|rfl|rfl|rfl|rfl <;> (injection hz with hz;subst hz;assumption)
      have HLD2:Hid (∀ i z,(#[q0,q1,q2,q3,q4,q5]:Array Value).toList[i]? = some z→wc.cell? ((⟨tb,4,none⟩:Addr).add i)=some z):=kA fun i z hz=>by
       have hi:i<6:=by simpa using (kK.1 hz).1
       rw[addk]
       have:i=0∨i=1∨i=2∨i=3∨i=4∨i=5:=by omega
       rcases this with rfl|rfl|rfl|rfl|rfl|rfl <;> (injection hz with hz;subst hz;assumption)
      go_wp2_with (first
       |(go_at_call 12;refine (HLK.out wc).mono ?_;rintro e w12 ⟨rfl,hb⟩;have HB12:=kA hb;clear hb)
       |(refine za1 _ rfl 45 _ rfl ⟨db,3,none⟩ #[q0,q1,q2,q3,q4,q5] _ rfl (by exact HLD1.out) Tryz.underlying45 rfl zkr ?_)
       |(refine za1 _ rfl 45 _ rfl ⟨tb,4,none⟩ #[q0,q1,q2,q3,q4,q5] _ rfl (by exact HLD2.out) Tryz.underlying45 rfl zkr ?_))
      have HBF:Hid (Below W6.heap.size W6 w12):=kA (HM.out.1.trans (HB12.out.mono HM.out.1.size))
      go_roundw
      case rel=>exact ⟨j+1,by omega,by first|rfl|go_num,kA ⟨HE6.out.1.below OH.out.sv.an.st HBF.out,zab HE6.out.2.1 HBF.out,HSB.out⟩⟩
      case measure=>simp[intOf];omega
  ·have HX:=kA hx.out
   clear hx
   have hjl:j=ll:=by omega
   have HT:Hid (L.take j=L):=kA (List.take_of_length_le (by rw[HLL.out];omega))
   clear hjl
   go_wp2_with fail
   refine HK.out _ _ ?_
   generalize hQQ:bodyPost Tryz.prog Tryz.f3 (OncePost w)=QQ
   unfold RESTC
   simp only[Tryz.f3,findS,headR,Nat.reduceBEq,Bool.false_eq_true,Option.bind,Option.getD,if_true,if_false]
   subst hQQ
   go_wp2_with fail
   go_loopw [29] (fun v29 wz=>∃ k:Nat,k≤nA_∧v29 = .int .i64 (k:Int)∧Hid (EndH PR M Cq w wz sp pa (.slice A17 nA_ c17) v18 v19 (.slice A20 ll c20) at_ of_ xs L∧Blk wz sb 4 (seenA nA_ L))) (fun v29 _=>nA_ - (intOf v29).toNat)
   case atStart=>exact ⟨0,kX _,rfl,kA ⟨HX.out.1,by have h:=HX.out.2.1;rw[HT.out] at h;exact h⟩⟩
   case round =>
    obtain ⟨k,hk,rfl,hx⟩:=hrel
    by_cases hlk:k<nA_
    ·have y:wr.cell? ⟨sb,k,none⟩=some (.bool true):=(hx.out.2.cell k).trans (by rw[zdm _ hlk,zws HEP.out.pm (by rw[HNL.out];exact hlk)])
     have hlk':(k:Int)<(nA_:Int):=by omega
     have hn9:nA_≤100:=by rw[← HNL.out];exact HEP.out.le
     have hwk:IntKind.i64.wrap ((k:Int)+1)=(k:Int)+1:=qR _ (by omega)
     go_wp2_with fail
     go_roundw
     case rel=>exact ⟨k+1,by omega,by first|rfl|go_num,hx⟩
     case measure=>simp[intOf];omega
    ·obtain ⟨bk,Mo,W',now,gA,gc,hs⟩:=hx.out.1.sv
     have HKN:=kA (OH.out.kn wr)
     have HBE:=kA hx.out.1.be
     have HWT:Hid (∀ V,Below wr.heap.size wr V→Calls Tryz.prog 14 #[.pointer (some ⟨sp,0,none⟩)] V fun e w'=>e = .returned (.int .i64 0)∧Below V.heap.size V w'):=kA fun V hV=>zmo (hs.below OH.out.sv.an.st hV) (kX _) (fun _ h=>by cases h)
     clear hs hx HX HT
     go_wp2_with (first
      |(go_at_call 13;refine HKN.out.mono ?_;rintro e w2 ⟨rfl,hb2⟩;have HB2:=kA hb2;clear hb2)
      |(go_at_call 14;refine (HWT.out w2 HB2.out).mono ?_;rintro e w3 ⟨rfl,hb3⟩;have HB3:=kA hb3;clear hb3))
     go_ret
     exact ⟨rfl,HBE.out.trans ((HB2.out.trans (HB3.out.mono HB2.out.size)).mono HBE.out.size)⟩
end
end Go.Proofs.YtemgclnkgieldaaGreatDoor.Oc
