/-
  ToolSpecs: the plain Spec's switch, key by key.
  And: ToolSpecs: the plain Spec's switch, key by key. ToolSpecs: the plain Spec's switch, key by key.
-/
import Derived.Test.YtelehhfnomdneaaGreatDoorMe
import Derived.Deep.RegionHeldLaw
namespace Go.Proofs.YtelehhfnomdneaaGreatDoor.Sp
open Go Go.RowKit Ut Tc

set_option maxHeartbeats 8000000 in
set_option maxRecDepth 100000 in
theorem sw_how {wv wa : World} {gs gr gq KD i sn : Nat} {t1 t : Wd} {colsv szv seen : Value} {N : Wd → Int} {Q : Wd → Bool × Nat × Nat} {acc : Acc} {zs : List Int} {G : Option Acc} {os : List (Option (Wd × Wd))} {okb c1 c2 : Bool} {qq : Bool × Nat × Nat} {x0 x1 x2 x3 x5 x6 x7 x12 x13 x14 x20 x21 x22 x23 x24 x25 x26 x27 x28 x29 x30 x31 x32 x33 x34 x35 x36 x37 x38 x39 x40 x41 x42 x43 x44 x45 x46 x47 x48 x49 x50 x51 x52 x53 x54 x55 x56 x57 x58 x59 x60 x61 x62 x63 x64 x65 x66 x67 x68 x69 x70 x71 x72 x73 x74 x75 x76 x77 x78 x79 x80 x81 x82 x83 x84 x85 x86 x87 x88 x89 x90 x91 x92 x93 x94 x95 x96 x97 x98 x99 x100 x101 x102 x103 x104 x105 x106 x107 x108 x109 x110 x111 x112 x113 x114 x115 x116 x117 x118 x119 x120 x121 x122 x123 x124 x125 x126 x127 x128 x129 x130 x131 x132 x133 x134 x135 x137 x138 x139 x140 x141 x142 x143 x144 x145 x146 x147 x148 x149 x150 x151 x152 x153 x154 x155 x156 x157 x158 x159 x160 x161 x162 x163 x164 x165 x166 x167 x168 x169 x170 x171 x172 x173 x174 x175 x176 x177 x178 x179 x180 x181 x182 x183 x184 x185 x186 x187 x188 x189 x190 x191 x192 x193 x194 x195 x196 x197 x198 x199 x200 x201 x202 x203 x204 x205 x206 x207 x208 x209 x210 x211 x212 x213 x214 x215 x216 x217 x218 x219 x220 x221 x222 x223 x224 x225 x226 x227 x228 x229 x230 x231 x232 x233 x234 x235 x236 x237 x238 x239 x240 x241 x242 x243 x244 x245 x246 x247 x248 x249 x250 x251 x252 x253 x254 x255 x256 x257 x258 x259 x260 x261 x262 x263 x264 x265 x266 x267 x268 x269 x270 x271 x272 x273 x274 x275 x276 x277 x278 x279 x280 x281 x282 x283 x284 x285 x286 x287 x288 x289 x290 x291 x292 x293 x294 x295 x296 x297 : Value}
    (hI4 : StI wv wa gs gr wv.heap.size KD (.string ⟨⟨t1⟩⟩) colsv szv N Q seen (keysOf acc ++ [[104, 111, 119]]) zs) (_hQb : Blk wa gq 32 #[.bool qq.1, .int .u64 (qq.2.1 : Int), .string ⟨⟨[]⟩⟩, .int .u64 (qq.2.2 : Int), .string ⟨⟨[]⟩⟩]) (_hgq : wv.heap.size ≤ gq) (_HSN : sn ≤ 1234567890) (htm : t ∈ valsL)
    (hsn : snum t = sn) (hc1 : (numT t).isSome = c1) (hqq : (fracT t).getD (false, 0, 0) = qq) (hc2 : (fracT t).isSome = c2) (hsem : Sem G os i acc N Q okb zs)
    (hdr : runW acc (os.drop i) = if okW acc (some ([104, 111, 119], t)) = true then runW (addW acc (some ([104, 111, 119], t))) (os.drop (i + 1)) else none) (hks : [104, 111, 119] ∉ keysOf acc) (_hzl : zs.length ≤ 1000) {R : Exit → Act → World → Prop} (hRp : ∀ (c : List PanicEntry) (a : Act) (d : Option Tmp) (v : Value) (w : World), R (.panic c) (a.put d v) w → R (.panic c) a w)
    (hR : ∀ (N' : Wd → Int) (Q' : Wd → Bool × Nat × Nat) (szv' : Value) (zs' : List Int) (is : Bool) (y20 y21 y22 y23 y137 y138 y139 y140 y141 y142 y143 y144 y145 y146 y147 y148 y149 y150 y151 y152 y153 y154 y155 y156 y157 y158 y159 y160 y161 y162 y163 y164 y165 y166 y167 y168 y169 y170 y171 y172 y173 y174 y175 y176 y177 y178 y179 y180 y181 y182 y183 y184 y185 y186 y187 y188 y189 y190 y191 y192 y193 y194 y195 y196 y197 y198 y199 y200 y201 y202 y203 y204 y205 y206 y207 y208 y209 y210 y211 y212 y213 y214 y215 y216 y217 y218 y219 y220 y221 y222 y223 y224 y225 y226 y227 y228 y229 y230 y231 y232 y233 y234 y235 y236 y237 y238 y239 y240 y241 y242 y243 y244 y245 y246 y247 y248 y249 y250 y251 y252 y253 y254 y255 y256 y257 y258 y259 y260 y261 y262 y263 y264 y265 y266 y267 y268 y269 y270 y271 y272 y273 y274 y275 y276 y277 : Value) (w' : World), Sem G os (i + 1) (acc ++ [([104, 111, 119], t)]) N' Q' (okb && is) zs' → StI wv w' gs gr wv.heap.size KD (.string ⟨⟨t1⟩⟩) colsv szv' N' Q' seen (keysOf acc ++ [[104, 111, 119]]) zs' → zs'.length ≤ zs.length + 3 → R .normal ⟨#[x0, x1, x2, x3, .pointer (some ⟨gs, 0, none⟩), x5, x6, x7, .pointer (some ⟨gr, 0, none⟩), .pointer (some ⟨gr + 1, 0, none⟩), .pointer (some ⟨gr + 1 + 1, 0, none⟩), .pointer (some ⟨gr + 1 + 1 + 1, 0, none⟩), x12, x13, x14, .string ⟨⟨t⟩⟩, .int .i64 (sn : Int), .bool is, .pointer (some ⟨gq, 0, none⟩), .bool c2, y20, y21, y22, y23, x24, x25, x26, x27, x28, x29, x30, x31, x32, x33, x34, x35, x36, x37, x38, x39, x40, x41, x42, x43, x44, x45, x46, x47, x48, x49, x50, x51, x52, x53, x54, x55, x56, x57, x58, x59, x60, x61, x62, x63, x64, x65, x66, x67, x68, x69, x70, x71, x72, x73, x74, x75, x76, x77, x78, x79, x80, x81, x82, x83, x84, x85, x86, x87, x88, x89, x90, x91, x92, x93, x94, x95, x96, x97, x98, x99, x100, x101, x102, x103, x104, x105, x106, x107, x108, x109, x110, x111, x112, x113, x114, x115, x116, x117, x118, x119, x120, x121, x122, x123, x124, x125, x126, x127, x128, x129, x130, x131, x132, x133, x134, x135, .string ⟨⟨[104, 111, 119]⟩⟩, y137, y138, y139, y140, y141, y142, y143, y144, y145, y146, y147, y148, y149, y150, y151, y152, y153, y154, y155, y156, y157, y158, y159, y160, y161, y162, y163, y164, y165, y166, y167, y168, y169, y170, y171, y172, y173, y174, y175, y176, y177, y178, y179, y180, y181, y182, y183, y184, y185, y186, y187, y188, y189, y190, y191, y192, y193, y194, y195, y196, y197, y198, y199, y200, y201, y202, y203, y204, y205, y206, y207, y208, y209, y210, y211, y212, y213, y214, y215, y216, y217, y218, y219, y220, y221, y222, y223, y224, y225, y226, y227, y228, y229, y230, y231, y232, y233, y234, y235, y236, y237, y238, y239, y240, y241, y242, y243, y244, y245, y246, y247, y248, y249, y250, y251, y252, y253, y254, y255, y256, y257, y258, y259, y260, y261, y262, y263, y264, y265, y266, y267, y268, y269, y270, y271, y272, y273, y274, y275, y276, y277, x278, x279, x280, x281, x282, x283, x284, x285, x286, x287, x288, x289, x290, x291, x292, x293, x294, x295, x296, x297], []⟩ w') :
    SWC.wp Tryz.prog R ⟨#[x0, x1, x2, x3, .pointer (some ⟨gs, 0, none⟩), x5, x6, x7, .pointer (some ⟨gr, 0, none⟩), .pointer (some ⟨gr + 1, 0, none⟩), .pointer (some ⟨gr + 1 + 1, 0, none⟩), .pointer (some ⟨gr + 1 + 1 + 1, 0, none⟩), x12, x13, x14, .string ⟨⟨t⟩⟩, .int .i64 (sn : Int), .bool c1, .pointer (some ⟨gq, 0, none⟩), .bool c2, x20, x21, x22, x23, x24, x25, x26, x27, x28, x29, x30, x31, x32, x33, x34, x35, x36, x37, x38, x39, x40, x41, x42, x43, x44, x45, x46, x47, x48, x49, x50, x51, x52, x53, x54, x55, x56, x57, x58, x59, x60, x61, x62, x63, x64, x65, x66, x67, x68, x69, x70, x71, x72, x73, x74, x75, x76, x77, x78, x79, x80, x81, x82, x83, x84, x85, x86, x87, x88, x89, x90, x91, x92, x93, x94, x95, x96, x97, x98, x99, x100, x101, x102, x103, x104, x105, x106, x107, x108, x109, x110, x111, x112, x113, x114, x115, x116, x117, x118, x119, x120, x121, x122, x123, x124, x125, x126, x127, x128, x129, x130, x131, x132, x133, x134, x135, .string ⟨⟨[104, 111, 119]⟩⟩, x137, x138, x139, x140, x141, x142, x143, x144, x145, x146, x147, x148, x149, x150, x151, x152, x153, x154, x155, x156, x157, x158, x159, x160, x161, x162, x163, x164, x165, x166, x167, x168, x169, x170, x171, x172, x173, x174, x175, x176, x177, x178, x179, x180, x181, x182, x183, x184, x185, x186, x187, x188, x189, x190, x191, x192, x193, x194, x195, x196, x197, x198, x199, x200, x201, x202, x203, x204, x205, x206, x207, x208, x209, x210, x211, x212, x213, x214, x215, x216, x217, x218, x219, x220, x221, x222, x223, x224, x225, x226, x227, x228, x229, x230, x231, x232, x233, x234, x235, x236, x237, x238, x239, x240, x241, x242, x243, x244, x245, x246, x247, x248, x249, x250, x251, x252, x253, x254, x255, x256, x257, x258, x259, x260, x261, x262, x263, x264, x265, x266, x267, x268, x269, x270, x271, x272, x273, x274, x275, x276, x277, x278, x279, x280, x281, x282, x283, x284, x285, x286, x287, x288, x289, x290, x291, x292, x293, x294, x295, x296, x297], []⟩ wa := by
  have HSM := Lib.hid hsem
  have HDR := Lib.hid hdr
  have HKS := Lib.hid hks
  have HTM := Lib.hid htm
  have Hsn := Lib.hid hsn
  have Hc1 := Lib.hid hc1
  have Hqq := Lib.hid hqq
  have Hc2 := Lib.hid hc2
  have HI4 : Hid (SInv wv wa gs gr (gr + 1) (gr + 1 + 1) (gr + 1 + 1 + 1) wv.heap.size ⟨stS KD (.string ⟨⟨t1⟩⟩) colsv szv N Q⟩ ⟨stR N Q⟩ ⟨stF N⟩ ⟨stB N Q⟩ ⟨stD N Q⟩ seen szv (keysOf acc ++ [[104, 111, 119]]) zs) := Lib.hid hI4
  have HLV := HI4.out.lt
  have hBA : wv.heap.size ≤ wa.heap.size := HI4.out.alt.size
  have HR := Lib.hid hR
  have HRP := Lib.hid hRp
  clear hsem hdr hks htm hsn hc1 hqq hc2 hI4 hR hRp
  have HWH : Hid (∀ W : World, Calls Tryz.prog 16 #[.slice (some ⟨W.heap.size, 0, none⟩) 3 3, .string ⟨⟨t⟩⟩] (W.alloc (.cells ⟨howW.map sv⟩ 9)) fun e w' => e = .returned (.int .i64 (whichN t howW : Nat)) ∧ W.alloc (.cells ⟨howW.map sv⟩ 9) = w') := Lib.hid fun W => which_new W howW t rfl (by decide)
  rw [howW_eq] at HWH
  have HTAB := how_tab t HTM.out
  rcases HTAB with ⟨hr, hpp⟩ | ⟨hr, hpp⟩ | ⟨hr, hpp⟩ | ⟨hr, hpp⟩
  · rw [hr] at HWH
    have HPP := Lib.hid hpp
    clear hr hpp
    have SM : Hid (Sem G os (i + 1) (acc ++ [([104, 111, 119], t)]) (upd N [104, 111, 119] (-1 : Int)) Q (okb && false) zs) := Lib.hid (by
      have := sem_ch HSM.out HDR.out HKS.out (show chOf [104, 111, 119] = some howCh from rfl) (m := (-1 : Int)) (fun n hn => by rw [HPP.out] at hn; cases hn)
      rw [HPP.out] at this
      exact this)
    unfold SWC
    simp only [Tryz.f7, findB, Option.bind, Option.getD, Nat.reduceEqDiff, if_true, if_false]
    go_wp2_with (first | (go_at_call 16; refine (HWH.out _).mono ?_; rintro e w7 ⟨rfl, hw7⟩; have hI5 := Lib.hid (HI4.out.below (w' := w7) (by rw [← hw7]; exact (Below.refl _ _).alloc (Nat.le_refl _) _)); clear hw7; obtain ⟨u0, hu0⟩ : ∃ u, w7.cell? ⟨gs, 1, none⟩ = some u := ⟨_, hI5.out.bs.cell 1⟩; have fz0 := hI5.out.bs.frozen 1))
    exact HR.out (upd N [104, 111, 119] (-1 : Int)) Q szv zs false _ _ _ _ _ _ _ _ _ _ _ _ _ _ _ _ _ _ _ _ _ _ _ _ _ _ _ _ _ _ _ _ _ _ _ _ _ _ _ _ _ _ _ _ _ _ _ _ _ _ _ _ _ _ _ _ _ _ _ _ _ _ _ _ _ _ _ _ _ _ _ _ _ _ _ _ _ _ _ _ _ _ _ _ _ _ _ _ _ _ _ _ _ _ _ _ _ _ _ _ _ _ _ _ _ _ _ _ _ _ _ _ _ _ _ _ _ _ _ _ _ _ _ _ _ _ _ _ _ _ _ _ _ _ _ _ _ _ _ _ _ _ _ _ _ _ SM.out (StI.k_how hI5.out (-1 : Int)) (Nat.le_add_right _ _)
  · rw [hr] at HWH
    have HPP := Lib.hid hpp
    clear hr hpp
    have SM : Hid (Sem G os (i + 1) (acc ++ [([104, 111, 119], t)]) (upd N [104, 111, 119] (0 : Int)) Q (okb && true) zs) := Lib.hid (by
      have := sem_ch HSM.out HDR.out HKS.out (show chOf [104, 111, 119] = some howCh from rfl) (m := (0 : Int)) (fun n hn => by rw [HPP.out] at hn; cases hn; rfl)
      rw [HPP.out] at this
      exact this)
    unfold SWC
    simp only [Tryz.f7, findB, Option.bind, Option.getD, Nat.reduceEqDiff, if_true, if_false]
    go_wp2_with (first | (go_at_call 16; refine (HWH.out _).mono ?_; rintro e w7 ⟨rfl, hw7⟩; have hI5 := Lib.hid (HI4.out.below (w' := w7) (by rw [← hw7]; exact (Below.refl _ _).alloc (Nat.le_refl _) _)); clear hw7; obtain ⟨u0, hu0⟩ : ∃ u, w7.cell? ⟨gs, 1, none⟩ = some u := ⟨_, hI5.out.bs.cell 1⟩; have fz0 := hI5.out.bs.frozen 1))
    exact HR.out (upd N [104, 111, 119] (0 : Int)) Q szv zs true _ _ _ _ _ _ _ _ _ _ _ _ _ _ _ _ _ _ _ _ _ _ _ _ _ _ _ _ _ _ _ _ _ _ _ _ _ _ _ _ _ _ _ _ _ _ _ _ _ _ _ _ _ _ _ _ _ _ _ _ _ _ _ _ _ _ _ _ _ _ _ _ _ _ _ _ _ _ _ _ _ _ _ _ _ _ _ _ _ _ _ _ _ _ _ _ _ _ _ _ _ _ _ _ _ _ _ _ _ _ _ _ _ _ _ _ _ _ _ _ _ _ _ _ _ _ _ _ _ _ _ _ _ _ _ _ _ _ _ _ _ _ _ _ _ _ SM.out (StI.k_how hI5.out (0 : Int)) (Nat.le_add_right _ _)
  · rw [hr] at HWH
    have HPP := Lib.hid hpp
    clear hr hpp
    have SM : Hid (Sem G os (i + 1) (acc ++ [([104, 111, 119], t)]) (upd N [104, 111, 119] (1 : Int)) Q (okb && true) zs) := Lib.hid (by
      have := sem_ch HSM.out HDR.out HKS.out (show chOf [104, 111, 119] = some howCh from rfl) (m := (1 : Int)) (fun n hn => by rw [HPP.out] at hn; cases hn; rfl)
      rw [HPP.out] at this
      exact this)
    unfold SWC
    simp only [Tryz.f7, findB, Option.bind, Option.getD, Nat.reduceEqDiff, if_true, if_false]
    go_wp2_with (first | (go_at_call 16; refine (HWH.out _).mono ?_; rintro e w7 ⟨rfl, hw7⟩; have hI5 := Lib.hid (HI4.out.below (w' := w7) (by rw [← hw7]; exact (Below.refl _ _).alloc (Nat.le_refl _) _)); clear hw7; obtain ⟨u0, hu0⟩ : ∃ u, w7.cell? ⟨gs, 1, none⟩ = some u := ⟨_, hI5.out.bs.cell 1⟩; have fz0 := hI5.out.bs.frozen 1))
    exact HR.out (upd N [104, 111, 119] (1 : Int)) Q szv zs true _ _ _ _ _ _ _ _ _ _ _ _ _ _ _ _ _ _ _ _ _ _ _ _ _ _ _ _ _ _ _ _ _ _ _ _ _ _ _ _ _ _ _ _ _ _ _ _ _ _ _ _ _ _ _ _ _ _ _ _ _ _ _ _ _ _ _ _ _ _ _ _ _ _ _ _ _ _ _ _ _ _ _ _ _ _ _ _ _ _ _ _ _ _ _ _ _ _ _ _ _ _ _ _ _ _ _ _ _ _ _ _ _ _ _ _ _ _ _ _ _ _ _ _ _ _ _ _ _ _ _ _ _ _ _ _ _ _ _ _ _ _ _ _ _ _ SM.out (StI.k_how hI5.out (1 : Int)) (Nat.le_add_right _ _)
  · rw [hr] at HWH
    have HPP := Lib.hid hpp
    clear hr hpp
    have SM : Hid (Sem G os (i + 1) (acc ++ [([104, 111, 119], t)]) (upd N [104, 111, 119] (2 : Int)) Q (okb && true) zs) := Lib.hid (by
      have := sem_ch HSM.out HDR.out HKS.out (show chOf [104, 111, 119] = some howCh from rfl) (m := (2 : Int)) (fun n hn => by rw [HPP.out] at hn; cases hn; rfl)
      rw [HPP.out] at this
      exact this)
    unfold SWC
    simp only [Tryz.f7, findB, Option.bind, Option.getD, Nat.reduceEqDiff, if_true, if_false]
    go_wp2_with (first | (go_at_call 16; refine (HWH.out _).mono ?_; rintro e w7 ⟨rfl, hw7⟩; have hI5 := Lib.hid (HI4.out.below (w' := w7) (by rw [← hw7]; exact (Below.refl _ _).alloc (Nat.le_refl _) _)); clear hw7; obtain ⟨u0, hu0⟩ : ∃ u, w7.cell? ⟨gs, 1, none⟩ = some u := ⟨_, hI5.out.bs.cell 1⟩; have fz0 := hI5.out.bs.frozen 1))
    exact HR.out (upd N [104, 111, 119] (2 : Int)) Q szv zs true _ _ _ _ _ _ _ _ _ _ _ _ _ _ _ _ _ _ _ _ _ _ _ _ _ _ _ _ _ _ _ _ _ _ _ _ _ _ _ _ _ _ _ _ _ _ _ _ _ _ _ _ _ _ _ _ _ _ _ _ _ _ _ _ _ _ _ _ _ _ _ _ _ _ _ _ _ _ _ _ _ _ _ _ _ _ _ _ _ _ _ _ _ _ _ _ _ _ _ _ _ _ _ _ _ _ _ _ _ _ _ _ _ _ _ _ _ _ _ _ _ _ _ _ _ _ _ _ _ _ _ _ _ _ _ _ _ _ _ _ _ _ _ _ _ _ SM.out (StI.k_how hI5.out (2 : Int)) (Nat.le_add_right _ _)
set_option maxHeartbeats 8000000 in
set_option maxRecDepth 100000 in
theorem sw_bend {wv wa : World} {gs gr gq KD i sn : Nat} {t1 t : Wd} {colsv szv seen : Value} {N : Wd → Int} {Q : Wd → Bool × Nat × Nat} {acc : Acc} {zs : List Int} {G : Option Acc} {os : List (Option (Wd × Wd))} {okb c1 c2 : Bool} {qq : Bool × Nat × Nat} {x0 x1 x2 x3 x5 x6 x7 x12 x13 x14 x20 x21 x22 x23 x24 x25 x26 x27 x28 x29 x30 x31 x32 x33 x34 x35 x36 x37 x38 x39 x40 x41 x42 x43 x44 x45 x46 x47 x48 x49 x50 x51 x52 x53 x54 x55 x56 x57 x58 x59 x60 x61 x62 x63 x64 x65 x66 x67 x68 x69 x70 x71 x72 x73 x74 x75 x76 x77 x78 x79 x80 x81 x82 x83 x84 x85 x86 x87 x88 x89 x90 x91 x92 x93 x94 x95 x96 x97 x98 x99 x100 x101 x102 x103 x104 x105 x106 x107 x108 x109 x110 x111 x112 x113 x114 x115 x116 x117 x118 x119 x120 x121 x122 x123 x124 x125 x126 x127 x128 x129 x130 x131 x132 x133 x134 x135 x137 x138 x139 x140 x141 x142 x143 x144 x145 x146 x147 x148 x149 x150 x151 x152 x153 x154 x155 x156 x157 x158 x159 x160 x161 x162 x163 x164 x165 x166 x167 x168 x169 x170 x171 x172 x173 x174 x175 x176 x177 x178 x179 x180 x181 x182 x183 x184 x185 x186 x187 x188 x189 x190 x191 x192 x193 x194 x195 x196 x197 x198 x199 x200 x201 x202 x203 x204 x205 x206 x207 x208 x209 x210 x211 x212 x213 x214 x215 x216 x217 x218 x219 x220 x221 x222 x223 x224 x225 x226 x227 x228 x229 x230 x231 x232 x233 x234 x235 x236 x237 x238 x239 x240 x241 x242 x243 x244 x245 x246 x247 x248 x249 x250 x251 x252 x253 x254 x255 x256 x257 x258 x259 x260 x261 x262 x263 x264 x265 x266 x267 x268 x269 x270 x271 x272 x273 x274 x275 x276 x277 x278 x279 x280 x281 x282 x283 x284 x285 x286 x287 x288 x289 x290 x291 x292 x293 x294 x295 x296 x297 : Value}
    (hI4 : StI wv wa gs gr wv.heap.size KD (.string ⟨⟨t1⟩⟩) colsv szv N Q seen (keysOf acc ++ [[98, 101, 110, 100]]) zs) (_hQb : Blk wa gq 32 #[.bool qq.1, .int .u64 (qq.2.1 : Int), .string ⟨⟨[]⟩⟩, .int .u64 (qq.2.2 : Int), .string ⟨⟨[]⟩⟩]) (_hgq : wv.heap.size ≤ gq) (_HSN : sn ≤ 1234567890) (htm : t ∈ valsL)
    (hsn : snum t = sn) (hc1 : (numT t).isSome = c1) (hqq : (fracT t).getD (false, 0, 0) = qq) (hc2 : (fracT t).isSome = c2) (hsem : Sem G os i acc N Q okb zs)
    (hdr : runW acc (os.drop i) = if okW acc (some ([98, 101, 110, 100], t)) = true then runW (addW acc (some ([98, 101, 110, 100], t))) (os.drop (i + 1)) else none) (hks : [98, 101, 110, 100] ∉ keysOf acc) (_hzl : zs.length ≤ 1000) {R : Exit → Act → World → Prop} (hRp : ∀ (c : List PanicEntry) (a : Act) (d : Option Tmp) (v : Value) (w : World), R (.panic c) (a.put d v) w → R (.panic c) a w)
    (hR : ∀ (N' : Wd → Int) (Q' : Wd → Bool × Nat × Nat) (szv' : Value) (zs' : List Int) (is : Bool) (y20 y21 y22 y23 y137 y138 y139 y140 y141 y142 y143 y144 y145 y146 y147 y148 y149 y150 y151 y152 y153 y154 y155 y156 y157 y158 y159 y160 y161 y162 y163 y164 y165 y166 y167 y168 y169 y170 y171 y172 y173 y174 y175 y176 y177 y178 y179 y180 y181 y182 y183 y184 y185 y186 y187 y188 y189 y190 y191 y192 y193 y194 y195 y196 y197 y198 y199 y200 y201 y202 y203 y204 y205 y206 y207 y208 y209 y210 y211 y212 y213 y214 y215 y216 y217 y218 y219 y220 y221 y222 y223 y224 y225 y226 y227 y228 y229 y230 y231 y232 y233 y234 y235 y236 y237 y238 y239 y240 y241 y242 y243 y244 y245 y246 y247 y248 y249 y250 y251 y252 y253 y254 y255 y256 y257 y258 y259 y260 y261 y262 y263 y264 y265 y266 y267 y268 y269 y270 y271 y272 y273 y274 y275 y276 y277 : Value) (w' : World), Sem G os (i + 1) (acc ++ [([98, 101, 110, 100], t)]) N' Q' (okb && is) zs' → StI wv w' gs gr wv.heap.size KD (.string ⟨⟨t1⟩⟩) colsv szv' N' Q' seen (keysOf acc ++ [[98, 101, 110, 100]]) zs' → zs'.length ≤ zs.length + 3 → R .normal ⟨#[x0, x1, x2, x3, .pointer (some ⟨gs, 0, none⟩), x5, x6, x7, .pointer (some ⟨gr, 0, none⟩), .pointer (some ⟨gr + 1, 0, none⟩), .pointer (some ⟨gr + 1 + 1, 0, none⟩), .pointer (some ⟨gr + 1 + 1 + 1, 0, none⟩), x12, x13, x14, .string ⟨⟨t⟩⟩, .int .i64 (sn : Int), .bool is, .pointer (some ⟨gq, 0, none⟩), .bool c2, y20, y21, y22, y23, x24, x25, x26, x27, x28, x29, x30, x31, x32, x33, x34, x35, x36, x37, x38, x39, x40, x41, x42, x43, x44, x45, x46, x47, x48, x49, x50, x51, x52, x53, x54, x55, x56, x57, x58, x59, x60, x61, x62, x63, x64, x65, x66, x67, x68, x69, x70, x71, x72, x73, x74, x75, x76, x77, x78, x79, x80, x81, x82, x83, x84, x85, x86, x87, x88, x89, x90, x91, x92, x93, x94, x95, x96, x97, x98, x99, x100, x101, x102, x103, x104, x105, x106, x107, x108, x109, x110, x111, x112, x113, x114, x115, x116, x117, x118, x119, x120, x121, x122, x123, x124, x125, x126, x127, x128, x129, x130, x131, x132, x133, x134, x135, .string ⟨⟨[98, 101, 110, 100]⟩⟩, y137, y138, y139, y140, y141, y142, y143, y144, y145, y146, y147, y148, y149, y150, y151, y152, y153, y154, y155, y156, y157, y158, y159, y160, y161, y162, y163, y164, y165, y166, y167, y168, y169, y170, y171, y172, y173, y174, y175, y176, y177, y178, y179, y180, y181, y182, y183, y184, y185, y186, y187, y188, y189, y190, y191, y192, y193, y194, y195, y196, y197, y198, y199, y200, y201, y202, y203, y204, y205, y206, y207, y208, y209, y210, y211, y212, y213, y214, y215, y216, y217, y218, y219, y220, y221, y222, y223, y224, y225, y226, y227, y228, y229, y230, y231, y232, y233, y234, y235, y236, y237, y238, y239, y240, y241, y242, y243, y244, y245, y246, y247, y248, y249, y250, y251, y252, y253, y254, y255, y256, y257, y258, y259, y260, y261, y262, y263, y264, y265, y266, y267, y268, y269, y270, y271, y272, y273, y274, y275, y276, y277, x278, x279, x280, x281, x282, x283, x284, x285, x286, x287, x288, x289, x290, x291, x292, x293, x294, x295, x296, x297], []⟩ w') :
    SWC.wp Tryz.prog R ⟨#[x0, x1, x2, x3, .pointer (some ⟨gs, 0, none⟩), x5, x6, x7, .pointer (some ⟨gr, 0, none⟩), .pointer (some ⟨gr + 1, 0, none⟩), .pointer (some ⟨gr + 1 + 1, 0, none⟩), .pointer (some ⟨gr + 1 + 1 + 1, 0, none⟩), x12, x13, x14, .string ⟨⟨t⟩⟩, .int .i64 (sn : Int), .bool c1, .pointer (some ⟨gq, 0, none⟩), .bool c2, x20, x21, x22, x23, x24, x25, x26, x27, x28, x29, x30, x31, x32, x33, x34, x35, x36, x37, x38, x39, x40, x41, x42, x43, x44, x45, x46, x47, x48, x49, x50, x51, x52, x53, x54, x55, x56, x57, x58, x59, x60, x61, x62, x63, x64, x65, x66, x67, x68, x69, x70, x71, x72, x73, x74, x75, x76, x77, x78, x79, x80, x81, x82, x83, x84, x85, x86, x87, x88, x89, x90, x91, x92, x93, x94, x95, x96, x97, x98, x99, x100, x101, x102, x103, x104, x105, x106, x107, x108, x109, x110, x111, x112, x113, x114, x115, x116, x117, x118, x119, x120, x121, x122, x123, x124, x125, x126, x127, x128, x129, x130, x131, x132, x133, x134, x135, .string ⟨⟨[98, 101, 110, 100]⟩⟩, x137, x138, x139, x140, x141, x142, x143, x144, x145, x146, x147, x148, x149, x150, x151, x152, x153, x154, x155, x156, x157, x158, x159, x160, x161, x162, x163, x164, x165, x166, x167, x168, x169, x170, x171, x172, x173, x174, x175, x176, x177, x178, x179, x180, x181, x182, x183, x184, x185, x186, x187, x188, x189, x190, x191, x192, x193, x194, x195, x196, x197, x198, x199, x200, x201, x202, x203, x204, x205, x206, x207, x208, x209, x210, x211, x212, x213, x214, x215, x216, x217, x218, x219, x220, x221, x222, x223, x224, x225, x226, x227, x228, x229, x230, x231, x232, x233, x234, x235, x236, x237, x238, x239, x240, x241, x242, x243, x244, x245, x246, x247, x248, x249, x250, x251, x252, x253, x254, x255, x256, x257, x258, x259, x260, x261, x262, x263, x264, x265, x266, x267, x268, x269, x270, x271, x272, x273, x274, x275, x276, x277, x278, x279, x280, x281, x282, x283, x284, x285, x286, x287, x288, x289, x290, x291, x292, x293, x294, x295, x296, x297], []⟩ wa := by
  have HSM := Lib.hid hsem
  have HDR := Lib.hid hdr
  have HKS := Lib.hid hks
  have HTM := Lib.hid htm
  have Hsn := Lib.hid hsn
  have Hc1 := Lib.hid hc1
  have Hqq := Lib.hid hqq
  have Hc2 := Lib.hid hc2
  have HI4 : Hid (SInv wv wa gs gr (gr + 1) (gr + 1 + 1) (gr + 1 + 1 + 1) wv.heap.size ⟨stS KD (.string ⟨⟨t1⟩⟩) colsv szv N Q⟩ ⟨stR N Q⟩ ⟨stF N⟩ ⟨stB N Q⟩ ⟨stD N Q⟩ seen szv (keysOf acc ++ [[98, 101, 110, 100]]) zs) := Lib.hid hI4
  have HLV := HI4.out.lt
  have hBA : wv.heap.size ≤ wa.heap.size := HI4.out.alt.size
  have HR := Lib.hid hR
  have HRP := Lib.hid hRp
  clear hsem hdr hks htm hsn hc1 hqq hc2 hI4 hR hRp
  have HWH : Hid (∀ W : World, Calls Tryz.prog 16 #[.slice (some ⟨W.heap.size, 0, none⟩) 3 3, .string ⟨⟨t⟩⟩] (W.alloc (.cells ⟨bendW.map sv⟩ 9)) fun e w' => e = .returned (.int .i64 (whichN t bendW : Nat)) ∧ W.alloc (.cells ⟨bendW.map sv⟩ 9) = w') := Lib.hid fun W => which_new W bendW t rfl (by decide)
  rw [bendW_eq] at HWH
  have HTAB := bend_tab t HTM.out
  rcases HTAB with ⟨hr, hpp⟩ | ⟨hr, hpp⟩ | ⟨hr, hpp⟩ | ⟨hr, hpp⟩
  · rw [hr] at HWH
    have HPP := Lib.hid hpp
    clear hr hpp
    have SM : Hid (Sem G os (i + 1) (acc ++ [([98, 101, 110, 100], t)]) (upd N [98, 101, 110, 100] (0 : Int)) Q (okb && false) zs) := Lib.hid (by
      have := sem_ch HSM.out HDR.out HKS.out (show chOf [98, 101, 110, 100] = some bendCh from rfl) (m := (0 : Int)) (fun n hn => by rw [HPP.out] at hn; cases hn)
      rw [HPP.out] at this
      exact this)
    unfold SWC
    simp only [Tryz.f7, findB, Option.bind, Option.getD, Nat.reduceEqDiff, if_true, if_false]
    go_wp2_with (first | (go_at_call 16; refine (HWH.out _).mono ?_; rintro e w7 ⟨rfl, hw7⟩; have hI5 := Lib.hid (HI4.out.below (w' := w7) (by rw [← hw7]; exact (Below.refl _ _).alloc (Nat.le_refl _) _)); clear hw7; obtain ⟨u0, hu0⟩ : ∃ u, w7.cell? ⟨gs, 54, none⟩ = some u := ⟨_, hI5.out.bs.cell 54⟩; have fz0 := hI5.out.bs.frozen 54))
    exact HR.out (upd N [98, 101, 110, 100] (0 : Int)) Q szv zs false _ _ _ _ _ _ _ _ _ _ _ _ _ _ _ _ _ _ _ _ _ _ _ _ _ _ _ _ _ _ _ _ _ _ _ _ _ _ _ _ _ _ _ _ _ _ _ _ _ _ _ _ _ _ _ _ _ _ _ _ _ _ _ _ _ _ _ _ _ _ _ _ _ _ _ _ _ _ _ _ _ _ _ _ _ _ _ _ _ _ _ _ _ _ _ _ _ _ _ _ _ _ _ _ _ _ _ _ _ _ _ _ _ _ _ _ _ _ _ _ _ _ _ _ _ _ _ _ _ _ _ _ _ _ _ _ _ _ _ _ _ _ _ _ _ _ SM.out (StI.k_bend hI5.out (0 : Int)) (Nat.le_add_right _ _)
  · rw [hr] at HWH
    have HPP := Lib.hid hpp
    clear hr hpp
    have SM : Hid (Sem G os (i + 1) (acc ++ [([98, 101, 110, 100], t)]) (upd N [98, 101, 110, 100] (1 : Int)) Q (okb && true) zs) := Lib.hid (by
      have := sem_ch HSM.out HDR.out HKS.out (show chOf [98, 101, 110, 100] = some bendCh from rfl) (m := (1 : Int)) (fun n hn => by rw [HPP.out] at hn; cases hn; rfl)
      rw [HPP.out] at this
      exact this)
    unfold SWC
    simp only [Tryz.f7, findB, Option.bind, Option.getD, Nat.reduceEqDiff, if_true, if_false]
    go_wp2_with (first | (go_at_call 16; refine (HWH.out _).mono ?_; rintro e w7 ⟨rfl, hw7⟩; have hI5 := Lib.hid (HI4.out.below (w' := w7) (by rw [← hw7]; exact (Below.refl _ _).alloc (Nat.le_refl _) _)); clear hw7; obtain ⟨u0, hu0⟩ : ∃ u, w7.cell? ⟨gs, 54, none⟩ = some u := ⟨_, hI5.out.bs.cell 54⟩; have fz0 := hI5.out.bs.frozen 54))
    exact HR.out (upd N [98, 101, 110, 100] (1 : Int)) Q szv zs true _ _ _ _ _ _ _ _ _ _ _ _ _ _ _ _ _ _ _ _ _ _ _ _ _ _ _ _ _ _ _ _ _ _ _ _ _ _ _ _ _ _ _ _ _ _ _ _ _ _ _ _ _ _ _ _ _ _ _ _ _ _ _ _ _ _ _ _ _ _ _ _ _ _ _ _ _ _ _ _ _ _ _ _ _ _ _ _ _ _ _ _ _ _ _ _ _ _ _ _ _ _ _ _ _ _ _ _ _ _ _ _ _ _ _ _ _ _ _ _ _ _ _ _ _ _ _ _ _ _ _ _ _ _ _ _ _ _ _ _ _ _ _ _ _ _ SM.out (StI.k_bend hI5.out (1 : Int)) (Nat.le_add_right _ _)
  · rw [hr] at HWH
    have HPP := Lib.hid hpp
    clear hr hpp
    have SM : Hid (Sem G os (i + 1) (acc ++ [([98, 101, 110, 100], t)]) (upd N [98, 101, 110, 100] (2 : Int)) Q (okb && true) zs) := Lib.hid (by
      have := sem_ch HSM.out HDR.out HKS.out (show chOf [98, 101, 110, 100] = some bendCh from rfl) (m := (2 : Int)) (fun n hn => by rw [HPP.out] at hn; cases hn; rfl)
      rw [HPP.out] at this
      exact this)
    unfold SWC
    simp only [Tryz.f7, findB, Option.bind, Option.getD, Nat.reduceEqDiff, if_true, if_false]
    go_wp2_with (first | (go_at_call 16; refine (HWH.out _).mono ?_; rintro e w7 ⟨rfl, hw7⟩; have hI5 := Lib.hid (HI4.out.below (w' := w7) (by rw [← hw7]; exact (Below.refl _ _).alloc (Nat.le_refl _) _)); clear hw7; obtain ⟨u0, hu0⟩ : ∃ u, w7.cell? ⟨gs, 54, none⟩ = some u := ⟨_, hI5.out.bs.cell 54⟩; have fz0 := hI5.out.bs.frozen 54))
    exact HR.out (upd N [98, 101, 110, 100] (2 : Int)) Q szv zs true _ _ _ _ _ _ _ _ _ _ _ _ _ _ _ _ _ _ _ _ _ _ _ _ _ _ _ _ _ _ _ _ _ _ _ _ _ _ _ _ _ _ _ _ _ _ _ _ _ _ _ _ _ _ _ _ _ _ _ _ _ _ _ _ _ _ _ _ _ _ _ _ _ _ _ _ _ _ _ _ _ _ _ _ _ _ _ _ _ _ _ _ _ _ _ _ _ _ _ _ _ _ _ _ _ _ _ _ _ _ _ _ _ _ _ _ _ _ _ _ _ _ _ _ _ _ _ _ _ _ _ _ _ _ _ _ _ _ _ _ _ _ _ _ _ _ SM.out (StI.k_bend hI5.out (2 : Int)) (Nat.le_add_right _ _)
  · rw [hr] at HWH
    have HPP := Lib.hid hpp
    clear hr hpp
    have SM : Hid (Sem G os (i + 1) (acc ++ [([98, 101, 110, 100], t)]) (upd N [98, 101, 110, 100] (3 : Int)) Q (okb && true) zs) := Lib.hid (by
      have := sem_ch HSM.out HDR.out HKS.out (show chOf [98, 101, 110, 100] = some bendCh from rfl) (m := (3 : Int)) (fun n hn => by rw [HPP.out] at hn; cases hn; rfl)
      rw [HPP.out] at this
      exact this)
    unfold SWC
    simp only [Tryz.f7, findB, Option.bind, Option.getD, Nat.reduceEqDiff, if_true, if_false]
    go_wp2_with (first | (go_at_call 16; refine (HWH.out _).mono ?_; rintro e w7 ⟨rfl, hw7⟩; have hI5 := Lib.hid (HI4.out.below (w' := w7) (by rw [← hw7]; exact (Below.refl _ _).alloc (Nat.le_refl _) _)); clear hw7; obtain ⟨u0, hu0⟩ : ∃ u, w7.cell? ⟨gs, 54, none⟩ = some u := ⟨_, hI5.out.bs.cell 54⟩; have fz0 := hI5.out.bs.frozen 54))
    exact HR.out (upd N [98, 101, 110, 100] (3 : Int)) Q szv zs true _ _ _ _ _ _ _ _ _ _ _ _ _ _ _ _ _ _ _ _ _ _ _ _ _ _ _ _ _ _ _ _ _ _ _ _ _ _ _ _ _ _ _ _ _ _ _ _ _ _ _ _ _ _ _ _ _ _ _ _ _ _ _ _ _ _ _ _ _ _ _ _ _ _ _ _ _ _ _ _ _ _ _ _ _ _ _ _ _ _ _ _ _ _ _ _ _ _ _ _ _ _ _ _ _ _ _ _ _ _ _ _ _ _ _ _ _ _ _ _ _ _ _ _ _ _ _ _ _ _ _ _ _ _ _ _ _ _ _ _ _ _ _ _ _ _ SM.out (StI.k_bend hI5.out (3 : Int)) (Nat.le_add_right _ _)
set_option maxHeartbeats 8000000 in
set_option maxRecDepth 100000 in
theorem sw_loss {wv wa : World} {gs gr gq KD i sn : Nat} {t1 t : Wd} {colsv szv seen : Value} {N : Wd → Int} {Q : Wd → Bool × Nat × Nat} {acc : Acc} {zs : List Int} {G : Option Acc} {os : List (Option (Wd × Wd))} {okb c1 c2 : Bool} {qq : Bool × Nat × Nat} {x0 x1 x2 x3 x5 x6 x7 x12 x13 x14 x20 x21 x22 x23 x24 x25 x26 x27 x28 x29 x30 x31 x32 x33 x34 x35 x36 x37 x38 x39 x40 x41 x42 x43 x44 x45 x46 x47 x48 x49 x50 x51 x52 x53 x54 x55 x56 x57 x58 x59 x60 x61 x62 x63 x64 x65 x66 x67 x68 x69 x70 x71 x72 x73 x74 x75 x76 x77 x78 x79 x80 x81 x82 x83 x84 x85 x86 x87 x88 x89 x90 x91 x92 x93 x94 x95 x96 x97 x98 x99 x100 x101 x102 x103 x104 x105 x106 x107 x108 x109 x110 x111 x112 x113 x114 x115 x116 x117 x118 x119 x120 x121 x122 x123 x124 x125 x126 x127 x128 x129 x130 x131 x132 x133 x134 x135 x137 x138 x139 x140 x141 x142 x143 x144 x145 x146 x147 x148 x149 x150 x151 x152 x153 x154 x155 x156 x157 x158 x159 x160 x161 x162 x163 x164 x165 x166 x167 x168 x169 x170 x171 x172 x173 x174 x175 x176 x177 x178 x179 x180 x181 x182 x183 x184 x185 x186 x187 x188 x189 x190 x191 x192 x193 x194 x195 x196 x197 x198 x199 x200 x201 x202 x203 x204 x205 x206 x207 x208 x209 x210 x211 x212 x213 x214 x215 x216 x217 x218 x219 x220 x221 x222 x223 x224 x225 x226 x227 x228 x229 x230 x231 x232 x233 x234 x235 x236 x237 x238 x239 x240 x241 x242 x243 x244 x245 x246 x247 x248 x249 x250 x251 x252 x253 x254 x255 x256 x257 x258 x259 x260 x261 x262 x263 x264 x265 x266 x267 x268 x269 x270 x271 x272 x273 x274 x275 x276 x277 x278 x279 x280 x281 x282 x283 x284 x285 x286 x287 x288 x289 x290 x291 x292 x293 x294 x295 x296 x297 : Value}
    (hI4 : StI wv wa gs gr wv.heap.size KD (.string ⟨⟨t1⟩⟩) colsv szv N Q seen (keysOf acc ++ [[108, 111, 115, 115]]) zs) (_hQb : Blk wa gq 32 #[.bool qq.1, .int .u64 (qq.2.1 : Int), .string ⟨⟨[]⟩⟩, .int .u64 (qq.2.2 : Int), .string ⟨⟨[]⟩⟩]) (_hgq : wv.heap.size ≤ gq) (_HSN : sn ≤ 1234567890) (htm : t ∈ valsL)
    (hsn : snum t = sn) (hc1 : (numT t).isSome = c1) (hqq : (fracT t).getD (false, 0, 0) = qq) (hc2 : (fracT t).isSome = c2) (hsem : Sem G os i acc N Q okb zs)
    (hdr : runW acc (os.drop i) = if okW acc (some ([108, 111, 115, 115], t)) = true then runW (addW acc (some ([108, 111, 115, 115], t))) (os.drop (i + 1)) else none) (hks : [108, 111, 115, 115] ∉ keysOf acc) (_hzl : zs.length ≤ 1000) {R : Exit → Act → World → Prop} (hRp : ∀ (c : List PanicEntry) (a : Act) (d : Option Tmp) (v : Value) (w : World), R (.panic c) (a.put d v) w → R (.panic c) a w)
    (hR : ∀ (N' : Wd → Int) (Q' : Wd → Bool × Nat × Nat) (szv' : Value) (zs' : List Int) (is : Bool) (y20 y21 y22 y23 y137 y138 y139 y140 y141 y142 y143 y144 y145 y146 y147 y148 y149 y150 y151 y152 y153 y154 y155 y156 y157 y158 y159 y160 y161 y162 y163 y164 y165 y166 y167 y168 y169 y170 y171 y172 y173 y174 y175 y176 y177 y178 y179 y180 y181 y182 y183 y184 y185 y186 y187 y188 y189 y190 y191 y192 y193 y194 y195 y196 y197 y198 y199 y200 y201 y202 y203 y204 y205 y206 y207 y208 y209 y210 y211 y212 y213 y214 y215 y216 y217 y218 y219 y220 y221 y222 y223 y224 y225 y226 y227 y228 y229 y230 y231 y232 y233 y234 y235 y236 y237 y238 y239 y240 y241 y242 y243 y244 y245 y246 y247 y248 y249 y250 y251 y252 y253 y254 y255 y256 y257 y258 y259 y260 y261 y262 y263 y264 y265 y266 y267 y268 y269 y270 y271 y272 y273 y274 y275 y276 y277 : Value) (w' : World), Sem G os (i + 1) (acc ++ [([108, 111, 115, 115], t)]) N' Q' (okb && is) zs' → StI wv w' gs gr wv.heap.size KD (.string ⟨⟨t1⟩⟩) colsv szv' N' Q' seen (keysOf acc ++ [[108, 111, 115, 115]]) zs' → zs'.length ≤ zs.length + 3 → R .normal ⟨#[x0, x1, x2, x3, .pointer (some ⟨gs, 0, none⟩), x5, x6, x7, .pointer (some ⟨gr, 0, none⟩), .pointer (some ⟨gr + 1, 0, none⟩), .pointer (some ⟨gr + 1 + 1, 0, none⟩), .pointer (some ⟨gr + 1 + 1 + 1, 0, none⟩), x12, x13, x14, .string ⟨⟨t⟩⟩, .int .i64 (sn : Int), .bool is, .pointer (some ⟨gq, 0, none⟩), .bool c2, y20, y21, y22, y23, x24, x25, x26, x27, x28, x29, x30, x31, x32, x33, x34, x35, x36, x37, x38, x39, x40, x41, x42, x43, x44, x45, x46, x47, x48, x49, x50, x51, x52, x53, x54, x55, x56, x57, x58, x59, x60, x61, x62, x63, x64, x65, x66, x67, x68, x69, x70, x71, x72, x73, x74, x75, x76, x77, x78, x79, x80, x81, x82, x83, x84, x85, x86, x87, x88, x89, x90, x91, x92, x93, x94, x95, x96, x97, x98, x99, x100, x101, x102, x103, x104, x105, x106, x107, x108, x109, x110, x111, x112, x113, x114, x115, x116, x117, x118, x119, x120, x121, x122, x123, x124, x125, x126, x127, x128, x129, x130, x131, x132, x133, x134, x135, .string ⟨⟨[108, 111, 115, 115]⟩⟩, y137, y138, y139, y140, y141, y142, y143, y144, y145, y146, y147, y148, y149, y150, y151, y152, y153, y154, y155, y156, y157, y158, y159, y160, y161, y162, y163, y164, y165, y166, y167, y168, y169, y170, y171, y172, y173, y174, y175, y176, y177, y178, y179, y180, y181, y182, y183, y184, y185, y186, y187, y188, y189, y190, y191, y192, y193, y194, y195, y196, y197, y198, y199, y200, y201, y202, y203, y204, y205, y206, y207, y208, y209, y210, y211, y212, y213, y214, y215, y216, y217, y218, y219, y220, y221, y222, y223, y224, y225, y226, y227, y228, y229, y230, y231, y232, y233, y234, y235, y236, y237, y238, y239, y240, y241, y242, y243, y244, y245, y246, y247, y248, y249, y250, y251, y252, y253, y254, y255, y256, y257, y258, y259, y260, y261, y262, y263, y264, y265, y266, y267, y268, y269, y270, y271, y272, y273, y274, y275, y276, y277, x278, x279, x280, x281, x282, x283, x284, x285, x286, x287, x288, x289, x290, x291, x292, x293, x294, x295, x296, x297], []⟩ w') :
    SWC.wp Tryz.prog R ⟨#[x0, x1, x2, x3, .pointer (some ⟨gs, 0, none⟩), x5, x6, x7, .pointer (some ⟨gr, 0, none⟩), .pointer (some ⟨gr + 1, 0, none⟩), .pointer (some ⟨gr + 1 + 1, 0, none⟩), .pointer (some ⟨gr + 1 + 1 + 1, 0, none⟩), x12, x13, x14, .string ⟨⟨t⟩⟩, .int .i64 (sn : Int), .bool c1, .pointer (some ⟨gq, 0, none⟩), .bool c2, x20, x21, x22, x23, x24, x25, x26, x27, x28, x29, x30, x31, x32, x33, x34, x35, x36, x37, x38, x39, x40, x41, x42, x43, x44, x45, x46, x47, x48, x49, x50, x51, x52, x53, x54, x55, x56, x57, x58, x59, x60, x61, x62, x63, x64, x65, x66, x67, x68, x69, x70, x71, x72, x73, x74, x75, x76, x77, x78, x79, x80, x81, x82, x83, x84, x85, x86, x87, x88, x89, x90, x91, x92, x93, x94, x95, x96, x97, x98, x99, x100, x101, x102, x103, x104, x105, x106, x107, x108, x109, x110, x111, x112, x113, x114, x115, x116, x117, x118, x119, x120, x121, x122, x123, x124, x125, x126, x127, x128, x129, x130, x131, x132, x133, x134, x135, .string ⟨⟨[108, 111, 115, 115]⟩⟩, x137, x138, x139, x140, x141, x142, x143, x144, x145, x146, x147, x148, x149, x150, x151, x152, x153, x154, x155, x156, x157, x158, x159, x160, x161, x162, x163, x164, x165, x166, x167, x168, x169, x170, x171, x172, x173, x174, x175, x176, x177, x178, x179, x180, x181, x182, x183, x184, x185, x186, x187, x188, x189, x190, x191, x192, x193, x194, x195, x196, x197, x198, x199, x200, x201, x202, x203, x204, x205, x206, x207, x208, x209, x210, x211, x212, x213, x214, x215, x216, x217, x218, x219, x220, x221, x222, x223, x224, x225, x226, x227, x228, x229, x230, x231, x232, x233, x234, x235, x236, x237, x238, x239, x240, x241, x242, x243, x244, x245, x246, x247, x248, x249, x250, x251, x252, x253, x254, x255, x256, x257, x258, x259, x260, x261, x262, x263, x264, x265, x266, x267, x268, x269, x270, x271, x272, x273, x274, x275, x276, x277, x278, x279, x280, x281, x282, x283, x284, x285, x286, x287, x288, x289, x290, x291, x292, x293, x294, x295, x296, x297], []⟩ wa := by
  have HSM := Lib.hid hsem
  have HDR := Lib.hid hdr
  have HKS := Lib.hid hks
  have HTM := Lib.hid htm
  have Hsn := Lib.hid hsn
  have Hc1 := Lib.hid hc1
  have Hqq := Lib.hid hqq
  have Hc2 := Lib.hid hc2
  have HI4 : Hid (SInv wv wa gs gr (gr + 1) (gr + 1 + 1) (gr + 1 + 1 + 1) wv.heap.size ⟨stS KD (.string ⟨⟨t1⟩⟩) colsv szv N Q⟩ ⟨stR N Q⟩ ⟨stF N⟩ ⟨stB N Q⟩ ⟨stD N Q⟩ seen szv (keysOf acc ++ [[108, 111, 115, 115]]) zs) := Lib.hid hI4
  have HLV := HI4.out.lt
  have hBA : wv.heap.size ≤ wa.heap.size := HI4.out.alt.size
  have HR := Lib.hid hR
  have HRP := Lib.hid hRp
  clear hsem hdr hks htm hsn hc1 hqq hc2 hI4 hR hRp
  have HWH : Hid (∀ W : World, Calls Tryz.prog 16 #[.slice (some ⟨W.heap.size, 0, none⟩) 2 2, .string ⟨⟨t⟩⟩] (W.alloc (.cells ⟨lossW.map sv⟩ 9)) fun e w' => e = .returned (.int .i64 (whichN t lossW : Nat)) ∧ W.alloc (.cells ⟨lossW.map sv⟩ 9) = w') := Lib.hid fun W => which_new W lossW t rfl (by decide)
  rw [lossW_eq] at HWH
  have HTAB := loss_tab t HTM.out
  rcases HTAB with ⟨hr, hpp⟩ | ⟨hr, hpp⟩ | ⟨hr, hpp⟩
  · rw [hr] at HWH
    have HPP := Lib.hid hpp
    clear hr hpp
    have SM : Hid (Sem G os (i + 1) (acc ++ [([108, 111, 115, 115], t)]) (upd N [108, 111, 115, 115] (0 : Int)) Q (okb && false) zs) := Lib.hid (by
      have := sem_ch HSM.out HDR.out HKS.out (show chOf [108, 111, 115, 115] = some lossCh from rfl) (m := (0 : Int)) (fun n hn => by rw [HPP.out] at hn; cases hn)
      rw [HPP.out] at this
      exact this)
    unfold SWC
    simp only [Tryz.f7, findB, Option.bind, Option.getD, Nat.reduceEqDiff, if_true, if_false]
    go_wp2_with (first | (go_at_call 16; refine (HWH.out _).mono ?_; rintro e w7 ⟨rfl, hw7⟩; have hI5 := Lib.hid (HI4.out.below (w' := w7) (by rw [← hw7]; exact (Below.refl _ _).alloc (Nat.le_refl _) _)); clear hw7; obtain ⟨u0, hu0⟩ : ∃ u, w7.cell? ⟨(gr + 1 + 1), 0, none⟩ = some u := ⟨_, hI5.out.bb.cell 0⟩; have fz0 := hI5.out.bb.frozen 0))
    exact HR.out (upd N [108, 111, 115, 115] (0 : Int)) Q szv zs false _ _ _ _ _ _ _ _ _ _ _ _ _ _ _ _ _ _ _ _ _ _ _ _ _ _ _ _ _ _ _ _ _ _ _ _ _ _ _ _ _ _ _ _ _ _ _ _ _ _ _ _ _ _ _ _ _ _ _ _ _ _ _ _ _ _ _ _ _ _ _ _ _ _ _ _ _ _ _ _ _ _ _ _ _ _ _ _ _ _ _ _ _ _ _ _ _ _ _ _ _ _ _ _ _ _ _ _ _ _ _ _ _ _ _ _ _ _ _ _ _ _ _ _ _ _ _ _ _ _ _ _ _ _ _ _ _ _ _ _ _ _ _ _ _ _ SM.out (StI.k_loss hI5.out (0 : Int)) (Nat.le_add_right _ _)
  · rw [hr] at HWH
    have HPP := Lib.hid hpp
    clear hr hpp
    have SM : Hid (Sem G os (i + 1) (acc ++ [([108, 111, 115, 115], t)]) (upd N [108, 111, 115, 115] (1 : Int)) Q (okb && true) zs) := Lib.hid (by
      have := sem_ch HSM.out HDR.out HKS.out (show chOf [108, 111, 115, 115] = some lossCh from rfl) (m := (1 : Int)) (fun n hn => by rw [HPP.out] at hn; cases hn; rfl)
      rw [HPP.out] at this
      exact this)
    unfold SWC
    simp only [Tryz.f7, findB, Option.bind, Option.getD, Nat.reduceEqDiff, if_true, if_false]
    go_wp2_with (first | (go_at_call 16; refine (HWH.out _).mono ?_; rintro e w7 ⟨rfl, hw7⟩; have hI5 := Lib.hid (HI4.out.below (w' := w7) (by rw [← hw7]; exact (Below.refl _ _).alloc (Nat.le_refl _) _)); clear hw7; obtain ⟨u0, hu0⟩ : ∃ u, w7.cell? ⟨(gr + 1 + 1), 0, none⟩ = some u := ⟨_, hI5.out.bb.cell 0⟩; have fz0 := hI5.out.bb.frozen 0))
    exact HR.out (upd N [108, 111, 115, 115] (1 : Int)) Q szv zs true _ _ _ _ _ _ _ _ _ _ _ _ _ _ _ _ _ _ _ _ _ _ _ _ _ _ _ _ _ _ _ _ _ _ _ _ _ _ _ _ _ _ _ _ _ _ _ _ _ _ _ _ _ _ _ _ _ _ _ _ _ _ _ _ _ _ _ _ _ _ _ _ _ _ _ _ _ _ _ _ _ _ _ _ _ _ _ _ _ _ _ _ _ _ _ _ _ _ _ _ _ _ _ _ _ _ _ _ _ _ _ _ _ _ _ _ _ _ _ _ _ _ _ _ _ _ _ _ _ _ _ _ _ _ _ _ _ _ _ _ _ _ _ _ _ _ SM.out (StI.k_loss hI5.out (1 : Int)) (Nat.le_add_right _ _)
  · rw [hr] at HWH
    have HPP := Lib.hid hpp
    clear hr hpp
    have SM : Hid (Sem G os (i + 1) (acc ++ [([108, 111, 115, 115], t)]) (upd N [108, 111, 115, 115] (2 : Int)) Q (okb && true) zs) := Lib.hid (by
      have := sem_ch HSM.out HDR.out HKS.out (show chOf [108, 111, 115, 115] = some lossCh from rfl) (m := (2 : Int)) (fun n hn => by rw [HPP.out] at hn; cases hn; rfl)
      rw [HPP.out] at this
      exact this)
    unfold SWC
    simp only [Tryz.f7, findB, Option.bind, Option.getD, Nat.reduceEqDiff, if_true, if_false]
    go_wp2_with (first | (go_at_call 16; refine (HWH.out _).mono ?_; rintro e w7 ⟨rfl, hw7⟩; have hI5 := Lib.hid (HI4.out.below (w' := w7) (by rw [← hw7]; exact (Below.refl _ _).alloc (Nat.le_refl _) _)); clear hw7; obtain ⟨u0, hu0⟩ : ∃ u, w7.cell? ⟨(gr + 1 + 1), 0, none⟩ = some u := ⟨_, hI5.out.bb.cell 0⟩; have fz0 := hI5.out.bb.frozen 0))
    exact HR.out (upd N [108, 111, 115, 115] (2 : Int)) Q szv zs true _ _ _ _ _ _ _ _ _ _ _ _ _ _ _ _ _ _ _ _ _ _ _ _ _ _ _ _ _ _ _ _ _ _ _ _ _ _ _ _ _ _ _ _ _ _ _ _ _ _ _ _ _ _ _ _ _ _ _ _ _ _ _ _ _ _ _ _ _ _ _ _ _ _ _ _ _ _ _ _ _ _ _ _ _ _ _ _ _ _ _ _ _ _ _ _ _ _ _ _ _ _ _ _ _ _ _ _ _ _ _ _ _ _ _ _ _ _ _ _ _ _ _ _ _ _ _ _ _ _ _ _ _ _ _ _ _ _ _ _ _ _ _ _ _ _ SM.out (StI.k_loss hI5.out (2 : Int)) (Nat.le_add_right _ _)
end Go.Proofs.YtelehhfnomdneaaGreatDoor.Sp
namespace Go.Proofs.YtelehhfnomdneaaGreatDoor.Sp
open Go Go.RowKit Ut Tc

set_option maxHeartbeats 8000000 in
set_option maxRecDepth 100000 in
theorem sw_rate {wv wa : World} {gs gr gq KD i sn : Nat} {t1 t : Wd} {colsv szv seen : Value} {N : Wd → Int} {Q : Wd → Bool × Nat × Nat} {acc : Acc} {zs : List Int} {G : Option Acc} {os : List (Option (Wd × Wd))} {okb c1 c2 : Bool} {qq : Bool × Nat × Nat} {x0 x1 x2 x3 x5 x6 x7 x12 x13 x14 x20 x21 x22 x23 x24 x25 x26 x27 x28 x29 x30 x31 x32 x33 x34 x35 x36 x37 x38 x39 x40 x41 x42 x43 x44 x45 x46 x47 x48 x49 x50 x51 x52 x53 x54 x55 x56 x57 x58 x59 x60 x61 x62 x63 x64 x65 x66 x67 x68 x69 x70 x71 x72 x73 x74 x75 x76 x77 x78 x79 x80 x81 x82 x83 x84 x85 x86 x87 x88 x89 x90 x91 x92 x93 x94 x95 x96 x97 x98 x99 x100 x101 x102 x103 x104 x105 x106 x107 x108 x109 x110 x111 x112 x113 x114 x115 x116 x117 x118 x119 x120 x121 x122 x123 x124 x125 x126 x127 x128 x129 x130 x131 x132 x133 x134 x135 x137 x138 x139 x140 x141 x142 x143 x144 x145 x146 x147 x148 x149 x150 x151 x152 x153 x154 x155 x156 x157 x158 x159 x160 x161 x162 x163 x164 x165 x166 x167 x168 x169 x170 x171 x172 x173 x174 x175 x176 x177 x178 x179 x180 x181 x182 x183 x184 x185 x186 x187 x188 x189 x190 x191 x192 x193 x194 x195 x196 x197 x198 x199 x200 x201 x202 x203 x204 x205 x206 x207 x208 x209 x210 x211 x212 x213 x214 x215 x216 x217 x218 x219 x220 x221 x222 x223 x224 x225 x226 x227 x228 x229 x230 x231 x232 x233 x234 x235 x236 x237 x238 x239 x240 x241 x242 x243 x244 x245 x246 x247 x248 x249 x250 x251 x252 x253 x254 x255 x256 x257 x258 x259 x260 x261 x262 x263 x264 x265 x266 x267 x268 x269 x270 x271 x272 x273 x274 x275 x276 x277 x278 x279 x280 x281 x282 x283 x284 x285 x286 x287 x288 x289 x290 x291 x292 x293 x294 x295 x296 x297 : Value}
    (hI4 : StI wv wa gs gr wv.heap.size KD (.string ⟨⟨t1⟩⟩) colsv szv N Q seen (keysOf acc ++ [[114, 97, 116, 101]]) zs) (hQb : Blk wa gq 32 #[.bool qq.1, .int .u64 (qq.2.1 : Int), .string ⟨⟨[]⟩⟩, .int .u64 (qq.2.2 : Int), .string ⟨⟨[]⟩⟩]) (hgq : wv.heap.size ≤ gq) (_HSN : sn ≤ 1234567890) (htm : t ∈ valsL)
    (hsn : snum t = sn) (hc1 : (numT t).isSome = c1) (hqq : (fracT t).getD (false, 0, 0) = qq) (hc2 : (fracT t).isSome = c2) (hsem : Sem G os i acc N Q okb zs)
    (hdr : runW acc (os.drop i) = if okW acc (some ([114, 97, 116, 101], t)) = true then runW (addW acc (some ([114, 97, 116, 101], t))) (os.drop (i + 1)) else none) (hks : [114, 97, 116, 101] ∉ keysOf acc) (_hzl : zs.length ≤ 1000) {R : Exit → Act → World → Prop} (hRp : ∀ (c : List PanicEntry) (a : Act) (d : Option Tmp) (v : Value) (w : World), R (.panic c) (a.put d v) w → R (.panic c) a w)
    (hR : ∀ (N' : Wd → Int) (Q' : Wd → Bool × Nat × Nat) (szv' : Value) (zs' : List Int) (is : Bool) (y20 y21 y22 y23 y137 y138 y139 y140 y141 y142 y143 y144 y145 y146 y147 y148 y149 y150 y151 y152 y153 y154 y155 y156 y157 y158 y159 y160 y161 y162 y163 y164 y165 y166 y167 y168 y169 y170 y171 y172 y173 y174 y175 y176 y177 y178 y179 y180 y181 y182 y183 y184 y185 y186 y187 y188 y189 y190 y191 y192 y193 y194 y195 y196 y197 y198 y199 y200 y201 y202 y203 y204 y205 y206 y207 y208 y209 y210 y211 y212 y213 y214 y215 y216 y217 y218 y219 y220 y221 y222 y223 y224 y225 y226 y227 y228 y229 y230 y231 y232 y233 y234 y235 y236 y237 y238 y239 y240 y241 y242 y243 y244 y245 y246 y247 y248 y249 y250 y251 y252 y253 y254 y255 y256 y257 y258 y259 y260 y261 y262 y263 y264 y265 y266 y267 y268 y269 y270 y271 y272 y273 y274 y275 y276 y277 : Value) (w' : World), Sem G os (i + 1) (acc ++ [([114, 97, 116, 101], t)]) N' Q' (okb && is) zs' → StI wv w' gs gr wv.heap.size KD (.string ⟨⟨t1⟩⟩) colsv szv' N' Q' seen (keysOf acc ++ [[114, 97, 116, 101]]) zs' → zs'.length ≤ zs.length + 3 → R .normal ⟨#[x0, x1, x2, x3, .pointer (some ⟨gs, 0, none⟩), x5, x6, x7, .pointer (some ⟨gr, 0, none⟩), .pointer (some ⟨gr + 1, 0, none⟩), .pointer (some ⟨gr + 1 + 1, 0, none⟩), .pointer (some ⟨gr + 1 + 1 + 1, 0, none⟩), x12, x13, x14, .string ⟨⟨t⟩⟩, .int .i64 (sn : Int), .bool is, .pointer (some ⟨gq, 0, none⟩), .bool c2, y20, y21, y22, y23, x24, x25, x26, x27, x28, x29, x30, x31, x32, x33, x34, x35, x36, x37, x38, x39, x40, x41, x42, x43, x44, x45, x46, x47, x48, x49, x50, x51, x52, x53, x54, x55, x56, x57, x58, x59, x60, x61, x62, x63, x64, x65, x66, x67, x68, x69, x70, x71, x72, x73, x74, x75, x76, x77, x78, x79, x80, x81, x82, x83, x84, x85, x86, x87, x88, x89, x90, x91, x92, x93, x94, x95, x96, x97, x98, x99, x100, x101, x102, x103, x104, x105, x106, x107, x108, x109, x110, x111, x112, x113, x114, x115, x116, x117, x118, x119, x120, x121, x122, x123, x124, x125, x126, x127, x128, x129, x130, x131, x132, x133, x134, x135, .string ⟨⟨[114, 97, 116, 101]⟩⟩, y137, y138, y139, y140, y141, y142, y143, y144, y145, y146, y147, y148, y149, y150, y151, y152, y153, y154, y155, y156, y157, y158, y159, y160, y161, y162, y163, y164, y165, y166, y167, y168, y169, y170, y171, y172, y173, y174, y175, y176, y177, y178, y179, y180, y181, y182, y183, y184, y185, y186, y187, y188, y189, y190, y191, y192, y193, y194, y195, y196, y197, y198, y199, y200, y201, y202, y203, y204, y205, y206, y207, y208, y209, y210, y211, y212, y213, y214, y215, y216, y217, y218, y219, y220, y221, y222, y223, y224, y225, y226, y227, y228, y229, y230, y231, y232, y233, y234, y235, y236, y237, y238, y239, y240, y241, y242, y243, y244, y245, y246, y247, y248, y249, y250, y251, y252, y253, y254, y255, y256, y257, y258, y259, y260, y261, y262, y263, y264, y265, y266, y267, y268, y269, y270, y271, y272, y273, y274, y275, y276, y277, x278, x279, x280, x281, x282, x283, x284, x285, x286, x287, x288, x289, x290, x291, x292, x293, x294, x295, x296, x297], []⟩ w') :
    SWC.wp Tryz.prog R ⟨#[x0, x1, x2, x3, .pointer (some ⟨gs, 0, none⟩), x5, x6, x7, .pointer (some ⟨gr, 0, none⟩), .pointer (some ⟨gr + 1, 0, none⟩), .pointer (some ⟨gr + 1 + 1, 0, none⟩), .pointer (some ⟨gr + 1 + 1 + 1, 0, none⟩), x12, x13, x14, .string ⟨⟨t⟩⟩, .int .i64 (sn : Int), .bool c1, .pointer (some ⟨gq, 0, none⟩), .bool c2, x20, x21, x22, x23, x24, x25, x26, x27, x28, x29, x30, x31, x32, x33, x34, x35, x36, x37, x38, x39, x40, x41, x42, x43, x44, x45, x46, x47, x48, x49, x50, x51, x52, x53, x54, x55, x56, x57, x58, x59, x60, x61, x62, x63, x64, x65, x66, x67, x68, x69, x70, x71, x72, x73, x74, x75, x76, x77, x78, x79, x80, x81, x82, x83, x84, x85, x86, x87, x88, x89, x90, x91, x92, x93, x94, x95, x96, x97, x98, x99, x100, x101, x102, x103, x104, x105, x106, x107, x108, x109, x110, x111, x112, x113, x114, x115, x116, x117, x118, x119, x120, x121, x122, x123, x124, x125, x126, x127, x128, x129, x130, x131, x132, x133, x134, x135, .string ⟨⟨[114, 97, 116, 101]⟩⟩, x137, x138, x139, x140, x141, x142, x143, x144, x145, x146, x147, x148, x149, x150, x151, x152, x153, x154, x155, x156, x157, x158, x159, x160, x161, x162, x163, x164, x165, x166, x167, x168, x169, x170, x171, x172, x173, x174, x175, x176, x177, x178, x179, x180, x181, x182, x183, x184, x185, x186, x187, x188, x189, x190, x191, x192, x193, x194, x195, x196, x197, x198, x199, x200, x201, x202, x203, x204, x205, x206, x207, x208, x209, x210, x211, x212, x213, x214, x215, x216, x217, x218, x219, x220, x221, x222, x223, x224, x225, x226, x227, x228, x229, x230, x231, x232, x233, x234, x235, x236, x237, x238, x239, x240, x241, x242, x243, x244, x245, x246, x247, x248, x249, x250, x251, x252, x253, x254, x255, x256, x257, x258, x259, x260, x261, x262, x263, x264, x265, x266, x267, x268, x269, x270, x271, x272, x273, x274, x275, x276, x277, x278, x279, x280, x281, x282, x283, x284, x285, x286, x287, x288, x289, x290, x291, x292, x293, x294, x295, x296, x297], []⟩ wa := by
  have HSM := Lib.hid hsem
  have HDR := Lib.hid hdr
  have HKS := Lib.hid hks
  have HTM := Lib.hid htm
  have Hsn := Lib.hid hsn
  have Hc1 := Lib.hid hc1
  have Hqq := Lib.hid hqq
  have Hc2 := Lib.hid hc2
  have HI4 : Hid (SInv wv wa gs gr (gr + 1) (gr + 1 + 1) (gr + 1 + 1 + 1) wv.heap.size ⟨stS KD (.string ⟨⟨t1⟩⟩) colsv szv N Q⟩ ⟨stR N Q⟩ ⟨stF N⟩ ⟨stB N Q⟩ ⟨stD N Q⟩ seen szv (keysOf acc ++ [[114, 97, 116, 101]]) zs) := Lib.hid hI4
  have HLV := HI4.out.lt
  have hBA : wv.heap.size ≤ wa.heap.size := HI4.out.alt.size
  have HR := Lib.hid hR
  have HRP := Lib.hid hRp
  clear hsem hdr hks htm hsn hc1 hqq hc2 hI4 hR hRp
  have y0 : wa.cell? ⟨gq, 0, none⟩ = some (.bool qq.1) := hQb.cell 0
  have y1 : wa.cell? ⟨gq, 1, none⟩ = some (.int .u64 (qq.2.1 : Int)) := hQb.cell 1
  have y2 : wa.cell? ⟨gq, 2, none⟩ = some (.string ⟨⟨[]⟩⟩) := hQb.cell 2
  have y3 : wa.cell? ⟨gq, 3, none⟩ = some (.int .u64 (qq.2.2 : Int)) := hQb.cell 3
  have y4 : wa.cell? ⟨gq, 4, none⟩ = some (.string ⟨⟨[]⟩⟩) := hQb.cell 4
  obtain ⟨u0, hu0⟩ : ∃ u, wa.cell? ⟨(gr + 1 + 1), 2, none⟩ = some u := ⟨_, HI4.out.bb.cell 2⟩
  have fz0 := HI4.out.bb.frozen 2
  obtain ⟨u1, hu1⟩ : ∃ u, wa.cell? ⟨(gr + 1 + 1), 3, none⟩ = some u := ⟨_, HI4.out.bb.cell 3⟩
  have fz1 := HI4.out.bb.frozen 3
  obtain ⟨u2, hu2⟩ : ∃ u, wa.cell? ⟨(gr + 1 + 1), 4, none⟩ = some u := ⟨_, HI4.out.bb.cell 4⟩
  have fz2 := HI4.out.bb.frozen 4
  obtain ⟨u3, hu3⟩ : ∃ u, wa.cell? ⟨(gr + 1 + 1), 5, none⟩ = some u := ⟨_, HI4.out.bb.cell 5⟩
  have fz3 := HI4.out.bb.frozen 5
  obtain ⟨u4, hu4⟩ : ∃ u, wa.cell? ⟨(gr + 1 + 1), 6, none⟩ = some u := ⟨_, HI4.out.bb.cell 6⟩
  have fz4 := HI4.out.bb.frozen 6
  obtain ⟨u5, hu5⟩ : ∃ u, wa.cell? ⟨(gr + 1 + 1 + 1), 0, none⟩ = some u := ⟨_, HI4.out.bd.cell 0⟩
  have fz5 := HI4.out.bd.frozen 0
  obtain ⟨u6, hu6⟩ : ∃ u, wa.cell? ⟨(gr + 1 + 1 + 1), 1, none⟩ = some u := ⟨_, HI4.out.bd.cell 1⟩
  have fz6 := HI4.out.bd.frozen 1
  obtain ⟨u7, hu7⟩ : ∃ u, wa.cell? ⟨(gr + 1 + 1 + 1), 2, none⟩ = some u := ⟨_, HI4.out.bd.cell 2⟩
  have fz7 := HI4.out.bd.frozen 2
  obtain ⟨u8, hu8⟩ : ∃ u, wa.cell? ⟨(gr + 1 + 1 + 1), 3, none⟩ = some u := ⟨_, HI4.out.bd.cell 3⟩
  have fz8 := HI4.out.bd.frozen 3
  obtain ⟨u9, hu9⟩ : ∃ u, wa.cell? ⟨(gr + 1 + 1 + 1), 4, none⟩ = some u := ⟨_, HI4.out.bd.cell 4⟩
  have fz9 := HI4.out.bd.frozen 4
  have SM : Hid (Sem G os (i + 1) (acc ++ [([114, 97, 116, 101], t)]) N (upd Q [114, 97, 116, 101] qq) (okb && c2) zs) := Lib.hid (by rw [← Hqq.out, ← Hc2.out]; exact sem_frac HSM.out HDR.out HKS.out (by decide))
  unfold SWC
  simp only [Tryz.f7, findB, Option.bind, Option.getD, Nat.reduceEqDiff, if_true, if_false]
  have n1 : gr + 1 + 1 ≠ gq := by omega
  have n2 : gr + 1 + 1 + 1 ≠ gq := by omega
  go_wp2
  refine wp_region_held_drew (S := fun w' => w'.cell? ⟨gq, 0, none⟩ = some (.bool qq.1) ∧ w'.cell? ⟨gq, 1, none⟩ = some (.int .u64 (qq.2.1 : Int)) ∧ w'.cell? ⟨gq, 2, none⟩ = some (.string ⟨⟨[]⟩⟩) ∧ w'.cell? ⟨gq, 3, none⟩ = some (.int .u64 (qq.2.2 : Int)) ∧ w'.cell? ⟨gq, 4, none⟩ = some (.string ⟨⟨[]⟩⟩)) (by kernel_rfl) ⟨y0, y1, y2, y3, y4⟩ (fun hHeld => ?_)
  refine wpAnyH_take (i := 0) (oi := _) (v := ?_) rfl (by kernel_rfl) (by kernel_rfl) (by kernel_rfl) (fun _ _ _ h => HRP.out _ _ _ _ _ h) (Or.inl ⟨by rfl, ?_⟩) (by assumption) ?_
  rotate_left
  · (intro w' hSw; (try dsimp only at hSw); (try simp only [List.getElem_toArray, List.getElem_cons_zero]); obtain ⟨s0, s1, s2, s3, s4⟩ := hSw; go_simp; try (with_reducible rfl))
  try simp only [Act.put, List.setIfInBounds_toArray, List.set_cons_zero, List.set_cons_succ, List.getElem_toArray, List.getElem_cons_zero]
  refine wpAnyH_take (i := 1) (oi := _) (v := ?_) rfl (by kernel_rfl) (by kernel_rfl) (by kernel_rfl) (fun _ _ _ h => HRP.out _ _ _ _ _ h) (Or.inl ⟨by rfl, ?_⟩) (by assumption) ?_
  rotate_left
  · (intro w' hSw; (try dsimp only at hSw); (try simp only [List.getElem_toArray, List.getElem_cons_zero, List.getElem_cons_succ]); obtain ⟨s0, s1, s2, s3, s4⟩ := hSw; go_simp; try (with_reducible rfl))
  try simp only [Act.put, List.setIfInBounds_toArray, List.set_cons_zero, List.set_cons_succ, List.getElem_toArray, List.getElem_cons_zero, List.getElem_cons_succ]
  refine wpAnyH_take (i := 2) (oi := _) (v := ?_) rfl (by kernel_rfl) (by kernel_rfl) (by kernel_rfl) (fun _ _ _ h => HRP.out _ _ _ _ _ h) (Or.inl ⟨by rfl, ?_⟩) (by assumption) ?_
  rotate_left
  · (intro w' hSw; (try dsimp only at hSw); (try simp only [List.getElem_toArray, List.getElem_cons_zero, List.getElem_cons_succ]); obtain ⟨s0, s1, s2, s3, s4⟩ := hSw; go_simp; try (with_reducible rfl))
  try simp only [Act.put, List.setIfInBounds_toArray, List.set_cons_zero, List.set_cons_succ, List.getElem_toArray, List.getElem_cons_zero, List.getElem_cons_succ]
  refine wpAnyH_take (i := 3) (oi := _) (v := ?_) rfl (by kernel_rfl) (by kernel_rfl) (by kernel_rfl) (fun _ _ _ h => HRP.out _ _ _ _ _ h) (Or.inl ⟨by rfl, ?_⟩) (by assumption) ?_
  rotate_left
  · (intro w' hSw; (try dsimp only at hSw); (try simp only [List.getElem_toArray, List.getElem_cons_zero, List.getElem_cons_succ]); obtain ⟨s0, s1, s2, s3, s4⟩ := hSw; go_simp; try (with_reducible rfl))
  try simp only [Act.put, List.setIfInBounds_toArray, List.set_cons_zero, List.set_cons_succ, List.getElem_toArray, List.getElem_cons_zero, List.getElem_cons_succ]
  refine wpAnyH_ready (rs := [4]) (by kernel_rfl) (by simp) ?_
  refine AllReadyH.cons rfl (fun K hK => ?_) AllReadyH.nil
  try simp only [List.getElem_toArray, List.getElem_cons_zero, List.getElem_cons_succ]
  go_simp
  refine hK.out _ _ (by go_keep) (fun hHeld => ?_)
  clear hK K
  try simp only [Act.put, List.setIfInBounds_toArray, List.set_cons_zero, List.set_cons_succ, List.getElem_toArray, List.getElem_cons_zero, List.getElem_cons_succ]
  refine wpAnyH_take (i := 5) (oi := _) (v := ?_) rfl (by kernel_rfl) (by kernel_rfl) (by kernel_rfl) (fun _ _ _ h => HRP.out _ _ _ _ _ h) (Or.inl ⟨by rfl, ?_⟩) (by assumption) ?_
  rotate_left
  · (intro w' hSw; (try dsimp only at hSw); (try simp only [List.getElem_toArray, List.getElem_cons_zero, List.getElem_cons_succ]); obtain ⟨s0, s1, s2, s3, s4⟩ := hSw; go_simp; try (with_reducible rfl))
  try simp only [Act.put, List.setIfInBounds_toArray, List.set_cons_zero, List.set_cons_succ, List.getElem_toArray, List.getElem_cons_zero, List.getElem_cons_succ]
  refine wpAnyH_ready (rs := [6]) (by kernel_rfl) (by simp) ?_
  refine AllReadyH.cons rfl (fun K hK => ?_) AllReadyH.nil
  try simp only [List.getElem_toArray, List.getElem_cons_zero, List.getElem_cons_succ]
  go_simp
  refine hK.out _ _ (by go_keep) (fun hHeld => ?_)
  clear hK K
  try simp only [Act.put, List.setIfInBounds_toArray, List.set_cons_zero, List.set_cons_succ, List.getElem_toArray, List.getElem_cons_zero, List.getElem_cons_succ]
  refine wpAnyH_take (i := 7) (oi := _) (v := ?_) rfl (by kernel_rfl) (by kernel_rfl) (by kernel_rfl) (fun _ _ _ h => HRP.out _ _ _ _ _ h) (Or.inl ⟨by rfl, ?_⟩) (by assumption) ?_
  rotate_left
  · (intro w' hSw; (try dsimp only at hSw); (try simp only [List.getElem_toArray, List.getElem_cons_zero, List.getElem_cons_succ]); obtain ⟨s0, s1, s2, s3, s4⟩ := hSw; go_simp; try (with_reducible rfl))
  try simp only [Act.put, List.setIfInBounds_toArray, List.set_cons_zero, List.set_cons_succ, List.getElem_toArray, List.getElem_cons_zero, List.getElem_cons_succ]
  refine wpAnyH_done (by kernel_rfl) ?_ _
  go_wp2
  exact HR.out N (upd Q [114, 97, 116, 101] qq) szv zs c2 _ _ _ _ _ _ _ _ _ _ _ _ _ _ _ _ _ _ _ _ _ _ _ _ _ _ _ _ _ _ _ _ _ _ _ _ _ _ _ _ _ _ _ _ _ _ _ _ _ _ _ _ _ _ _ _ _ _ _ _ _ _ _ _ _ _ _ _ _ _ _ _ _ _ _ _ _ _ _ _ _ _ _ _ _ _ _ _ _ _ _ _ _ _ _ _ _ _ _ _ _ _ _ _ _ _ _ _ _ _ _ _ _ _ _ _ _ _ _ _ _ _ _ _ _ _ _ _ _ _ _ _ _ _ _ _ _ _ _ _ _ _ _ _ _ _ SM.out (SInv.drew1 (StI.k_rate HI4.out qq)) (Nat.le_add_right _ _)
end Go.Proofs.YtelehhfnomdneaaGreatDoor.Sp
namespace Go.Proofs.YtelehhfnomdneaaGreatDoor.Sp
open Go Go.RowKit Ut Tc

set_option maxHeartbeats 8000000 in
set_option maxRecDepth 100000 in
theorem sw_sizes {wv wa : World} {gs gr gq KD i sn : Nat} {t1 t : Wd} {colsv szv seen : Value} {N : Wd → Int} {Q : Wd → Bool × Nat × Nat} {acc : Acc} {zs : List Int} {G : Option Acc} {os : List (Option (Wd × Wd))} {okb c1 c2 : Bool} {qq : Bool × Nat × Nat} {x0 x1 x2 x3 x5 x6 x7 x12 x13 x14 x20 x21 x22 x23 x24 x25 x26 x27 x28 x29 x30 x31 x32 x33 x34 x35 x36 x37 x38 x39 x40 x41 x42 x43 x44 x45 x46 x47 x48 x49 x50 x51 x52 x53 x54 x55 x56 x57 x58 x59 x60 x61 x62 x63 x64 x65 x66 x67 x68 x69 x70 x71 x72 x73 x74 x75 x76 x77 x78 x79 x80 x81 x82 x83 x84 x85 x86 x87 x88 x89 x90 x91 x92 x93 x94 x95 x96 x97 x98 x99 x100 x101 x102 x103 x104 x105 x106 x107 x108 x109 x110 x111 x112 x113 x114 x115 x116 x117 x118 x119 x120 x121 x122 x123 x124 x125 x126 x127 x128 x129 x130 x131 x132 x133 x134 x135 x137 x138 x139 x140 x141 x142 x143 x144 x145 x146 x147 x148 x149 x150 x151 x152 x153 x154 x155 x156 x157 x158 x159 x160 x161 x162 x163 x164 x165 x166 x167 x168 x169 x170 x171 x172 x173 x174 x175 x176 x177 x178 x179 x180 x181 x182 x183 x184 x185 x186 x187 x188 x189 x190 x191 x192 x193 x194 x195 x196 x197 x198 x199 x200 x201 x202 x203 x204 x205 x206 x207 x208 x209 x210 x211 x212 x213 x214 x215 x216 x217 x218 x219 x220 x221 x222 x223 x224 x225 x226 x227 x228 x229 x230 x231 x232 x233 x234 x235 x236 x237 x238 x239 x240 x241 x242 x243 x244 x245 x246 x247 x248 x249 x250 x251 x252 x253 x254 x255 x256 x257 x258 x259 x260 x261 x262 x263 x264 x265 x266 x267 x268 x269 x270 x271 x272 x273 x274 x275 x276 x277 x278 x279 x280 x281 x282 x283 x284 x285 x286 x287 x288 x289 x290 x291 x292 x293 x294 x295 x296 x297 : Value}
    (hI4 : StI wv wa gs gr wv.heap.size KD (.string ⟨⟨t1⟩⟩) colsv szv N Q seen (keysOf acc ++ [[115, 105, 122, 101, 115]]) zs) (_hQb : Blk wa gq 32 #[.bool qq.1, .int .u64 (qq.2.1 : Int), .string ⟨⟨[]⟩⟩, .int .u64 (qq.2.2 : Int), .string ⟨⟨[]⟩⟩]) (_hgq : wv.heap.size ≤ gq) (_HSN : sn ≤ 1234567890) (htm : t ∈ valsL)
    (hsn : snum t = sn) (hc1 : (numT t).isSome = c1) (hqq : (fracT t).getD (false, 0, 0) = qq) (hc2 : (fracT t).isSome = c2) (hsem : Sem G os i acc N Q okb zs)
    (hdr : runW acc (os.drop i) = if okW acc (some ([115, 105, 122, 101, 115], t)) = true then runW (addW acc (some ([115, 105, 122, 101, 115], t))) (os.drop (i + 1)) else none) (hks : [115, 105, 122, 101, 115] ∉ keysOf acc) (hzl : zs.length ≤ 1000) {R : Exit → Act → World → Prop} (hRp : ∀ (c : List PanicEntry) (a : Act) (d : Option Tmp) (v : Value) (w : World), R (.panic c) (a.put d v) w → R (.panic c) a w)
    (hR : ∀ (N' : Wd → Int) (Q' : Wd → Bool × Nat × Nat) (szv' : Value) (zs' : List Int) (is : Bool) (y20 y21 y22 y23 y137 y138 y139 y140 y141 y142 y143 y144 y145 y146 y147 y148 y149 y150 y151 y152 y153 y154 y155 y156 y157 y158 y159 y160 y161 y162 y163 y164 y165 y166 y167 y168 y169 y170 y171 y172 y173 y174 y175 y176 y177 y178 y179 y180 y181 y182 y183 y184 y185 y186 y187 y188 y189 y190 y191 y192 y193 y194 y195 y196 y197 y198 y199 y200 y201 y202 y203 y204 y205 y206 y207 y208 y209 y210 y211 y212 y213 y214 y215 y216 y217 y218 y219 y220 y221 y222 y223 y224 y225 y226 y227 y228 y229 y230 y231 y232 y233 y234 y235 y236 y237 y238 y239 y240 y241 y242 y243 y244 y245 y246 y247 y248 y249 y250 y251 y252 y253 y254 y255 y256 y257 y258 y259 y260 y261 y262 y263 y264 y265 y266 y267 y268 y269 y270 y271 y272 y273 y274 y275 y276 y277 : Value) (w' : World), Sem G os (i + 1) (acc ++ [([115, 105, 122, 101, 115], t)]) N' Q' (okb && is) zs' → StI wv w' gs gr wv.heap.size KD (.string ⟨⟨t1⟩⟩) colsv szv' N' Q' seen (keysOf acc ++ [[115, 105, 122, 101, 115]]) zs' → zs'.length ≤ zs.length + 3 → R .normal ⟨#[x0, x1, x2, x3, .pointer (some ⟨gs, 0, none⟩), x5, x6, x7, .pointer (some ⟨gr, 0, none⟩), .pointer (some ⟨gr + 1, 0, none⟩), .pointer (some ⟨gr + 1 + 1, 0, none⟩), .pointer (some ⟨gr + 1 + 1 + 1, 0, none⟩), x12, x13, x14, .string ⟨⟨t⟩⟩, .int .i64 (sn : Int), .bool is, .pointer (some ⟨gq, 0, none⟩), .bool c2, y20, y21, y22, y23, x24, x25, x26, x27, x28, x29, x30, x31, x32, x33, x34, x35, x36, x37, x38, x39, x40, x41, x42, x43, x44, x45, x46, x47, x48, x49, x50, x51, x52, x53, x54, x55, x56, x57, x58, x59, x60, x61, x62, x63, x64, x65, x66, x67, x68, x69, x70, x71, x72, x73, x74, x75, x76, x77, x78, x79, x80, x81, x82, x83, x84, x85, x86, x87, x88, x89, x90, x91, x92, x93, x94, x95, x96, x97, x98, x99, x100, x101, x102, x103, x104, x105, x106, x107, x108, x109, x110, x111, x112, x113, x114, x115, x116, x117, x118, x119, x120, x121, x122, x123, x124, x125, x126, x127, x128, x129, x130, x131, x132, x133, x134, x135, .string ⟨⟨[115, 105, 122, 101, 115]⟩⟩, y137, y138, y139, y140, y141, y142, y143, y144, y145, y146, y147, y148, y149, y150, y151, y152, y153, y154, y155, y156, y157, y158, y159, y160, y161, y162, y163, y164, y165, y166, y167, y168, y169, y170, y171, y172, y173, y174, y175, y176, y177, y178, y179, y180, y181, y182, y183, y184, y185, y186, y187, y188, y189, y190, y191, y192, y193, y194, y195, y196, y197, y198, y199, y200, y201, y202, y203, y204, y205, y206, y207, y208, y209, y210, y211, y212, y213, y214, y215, y216, y217, y218, y219, y220, y221, y222, y223, y224, y225, y226, y227, y228, y229, y230, y231, y232, y233, y234, y235, y236, y237, y238, y239, y240, y241, y242, y243, y244, y245, y246, y247, y248, y249, y250, y251, y252, y253, y254, y255, y256, y257, y258, y259, y260, y261, y262, y263, y264, y265, y266, y267, y268, y269, y270, y271, y272, y273, y274, y275, y276, y277, x278, x279, x280, x281, x282, x283, x284, x285, x286, x287, x288, x289, x290, x291, x292, x293, x294, x295, x296, x297], []⟩ w') :
    SWC.wp Tryz.prog R ⟨#[x0, x1, x2, x3, .pointer (some ⟨gs, 0, none⟩), x5, x6, x7, .pointer (some ⟨gr, 0, none⟩), .pointer (some ⟨gr + 1, 0, none⟩), .pointer (some ⟨gr + 1 + 1, 0, none⟩), .pointer (some ⟨gr + 1 + 1 + 1, 0, none⟩), x12, x13, x14, .string ⟨⟨t⟩⟩, .int .i64 (sn : Int), .bool c1, .pointer (some ⟨gq, 0, none⟩), .bool c2, x20, x21, x22, x23, x24, x25, x26, x27, x28, x29, x30, x31, x32, x33, x34, x35, x36, x37, x38, x39, x40, x41, x42, x43, x44, x45, x46, x47, x48, x49, x50, x51, x52, x53, x54, x55, x56, x57, x58, x59, x60, x61, x62, x63, x64, x65, x66, x67, x68, x69, x70, x71, x72, x73, x74, x75, x76, x77, x78, x79, x80, x81, x82, x83, x84, x85, x86, x87, x88, x89, x90, x91, x92, x93, x94, x95, x96, x97, x98, x99, x100, x101, x102, x103, x104, x105, x106, x107, x108, x109, x110, x111, x112, x113, x114, x115, x116, x117, x118, x119, x120, x121, x122, x123, x124, x125, x126, x127, x128, x129, x130, x131, x132, x133, x134, x135, .string ⟨⟨[115, 105, 122, 101, 115]⟩⟩, x137, x138, x139, x140, x141, x142, x143, x144, x145, x146, x147, x148, x149, x150, x151, x152, x153, x154, x155, x156, x157, x158, x159, x160, x161, x162, x163, x164, x165, x166, x167, x168, x169, x170, x171, x172, x173, x174, x175, x176, x177, x178, x179, x180, x181, x182, x183, x184, x185, x186, x187, x188, x189, x190, x191, x192, x193, x194, x195, x196, x197, x198, x199, x200, x201, x202, x203, x204, x205, x206, x207, x208, x209, x210, x211, x212, x213, x214, x215, x216, x217, x218, x219, x220, x221, x222, x223, x224, x225, x226, x227, x228, x229, x230, x231, x232, x233, x234, x235, x236, x237, x238, x239, x240, x241, x242, x243, x244, x245, x246, x247, x248, x249, x250, x251, x252, x253, x254, x255, x256, x257, x258, x259, x260, x261, x262, x263, x264, x265, x266, x267, x268, x269, x270, x271, x272, x273, x274, x275, x276, x277, x278, x279, x280, x281, x282, x283, x284, x285, x286, x287, x288, x289, x290, x291, x292, x293, x294, x295, x296, x297], []⟩ wa := by
  have HSM := Lib.hid hsem
  have HDR := Lib.hid hdr
  have HKS := Lib.hid hks
  have HTM := Lib.hid htm
  have Hsn := Lib.hid hsn
  have Hc1 := Lib.hid hc1
  have Hqq := Lib.hid hqq
  have Hc2 := Lib.hid hc2
  have HI4 : Hid (SInv wv wa gs gr (gr + 1) (gr + 1 + 1) (gr + 1 + 1 + 1) wv.heap.size ⟨stS KD (.string ⟨⟨t1⟩⟩) colsv szv N Q⟩ ⟨stR N Q⟩ ⟨stF N⟩ ⟨stB N Q⟩ ⟨stD N Q⟩ seen szv (keysOf acc ++ [[115, 105, 122, 101, 115]]) zs) := Lib.hid hI4
  have HLV := HI4.out.lt
  have hBA : wv.heap.size ≤ wa.heap.size := HI4.out.alt.size
  have HR := Lib.hid hR
  have HRP := Lib.hid hRp
  clear hsem hdr hks htm hsn hc1 hqq hc2 hI4 hR hRp
  have HCU : Hid (∀ W, Calls Tryz.prog 17 #[.string ⟨⟨t⟩⟩, .int .u8 44] W fun e w' => ∃ v, e = .returned v ∧ w'.ownsRow W.heap.size 9 1 v (cuts [] t).length ((cuts [] t).map sv) ∧ Below W.heap.size W w') := Lib.hid fun W => parts_any W (List.mem_append_right _ HTM.out)
  have HPT := Lib.hid (parts_vals t HTM.out)
  have HPL := Lib.hid (parts_len t (List.mem_append_right _ HTM.out))
  obtain ⟨i1, hi0', hz0', hz1', hz2'⟩ := info_parts infoInt
  have JI := Lib.hid hi0'
  have JZ0 := Lib.hid hz0'
  have JZ1 := Lib.hid hz1'
  have JZ2 := Lib.hid hz2'
  clear hi0' hz0' hz1' hz2'
  have SMZ : Hid (∀ zs', (∀ l, numsT (cuts [] t) = some l → zs' = zs ++ l.map (fun n : Nat => (n : Int))) → Sem G os (i + 1) (acc ++ [(sizesK, t)]) N Q (okb && (numsT (cuts [] t)).isSome) zs') := Lib.hid fun zs' h => sem_sizes HSM.out HDR.out HKS.out h
  generalize cuts [] t = ts at *
  unfold SWC
  simp only [Tryz.f7, findB, Option.bind, Option.getD, Nat.reduceEqDiff, if_true, if_false]
  go_wp2_with (first
    | (go_at_call 17; refine (HCU.out _).mono ?_; rintro e w4 ⟨v4, rfl, hrow, hb4⟩; obtain ⟨A4, c4, rfl, _⟩ := own_slice hrow; have hR4 : Hid (WRow w4 wa.heap.size (.slice A4 ts.length c4) ts) := Lib.hid hrow; have hI4 := Lib.hid (HI4.out.below hb4); clear hrow hb4))
  go_loopw [17, 21] (fun v17 v21 wr => ∃ (j : Nat) (isb : Bool) (zs2 : List Int) (szv2 : Value), j ≤ ts.length ∧ v21 = .int .i64 (j : Int) ∧ v17 = .bool isb ∧ Hid ((isb = true → ∃ l0 : List Nat, zs2 = zs ++ l0.map (fun n : Nat => (n : Int)) ∧ numsT ts = (numsT (ts.drop j)).map (l0 ++ ·)) ∧ (isb = false → numsT ts = none)) ∧ Hid (zs2.length = zs.length + j) ∧ Hid (SInv wv wr gs gr (gr + 1) (gr + 1 + 1) (gr + 1 + 1 + 1) wv.heap.size ⟨stS KD (.string ⟨⟨t1⟩⟩) colsv szv2 N Q⟩ ⟨stR N Q⟩ ⟨stF N⟩ ⟨stB N Q⟩ ⟨stD N Q⟩ seen szv2 (keysOf acc ++ [[115, 105, 122, 101, 115]]) zs2) ∧ Hid (WRow wr wa.heap.size (.slice A4 ts.length c4) ts) ∧ w4.heap.size ≤ wr.heap.size) (fun _ v21 _ => ts.length - (intOf v21).toNat)
  case atStart =>
    refine ⟨0, true, zs, szv, Nat.zero_le _, rfl, rfl, ⟨fun _ => ⟨[], by simp, ?_⟩, fun e => (by cases e)⟩, rfl, hI4.out, hR4.out, Nat.le_refl _⟩
    cases h : numsT ts <;> simp [h]
  case round =>
    obtain ⟨j, isb, zs2, szv2, hj, rfl, rfl, hrel2, hzl, hinv, hrw, hsz⟩ := hrel
    have hj3 : j ≤ 3 := Nat.le_trans hj HPL.out
    by_cases hgo : j < ts.length
    · obtain ⟨g', hA, hg4, hgr, hcl⟩ := hrw.out.at_ hgo
      subst hA
      have htj := HPT.out _ (List.getElem_mem hgo)
      have hdr2 : Hid (numsT (ts.drop j) = match numT ts[j] with | some n => (numsT (ts.drop (j + 1))).map (n :: ·) | none => none) := by
        show _ = _
        rw [List.drop_eq_getElem_cons hgo]; rfl
      have HNU : Hid (∀ W, Calls Tryz.prog 19 #[.string ⟨⟨ts[j]⟩⟩] W fun e w' => e = .returned (.tuple #[.int .i64 (snum ts[j] : Nat), .bool (numT ts[j]).isSome]) ∧ Below W.heap.size W w') := Lib.hid fun W => snumber_any W htj
      obtain ⟨m, hm⟩ : ∃ m : Nat, Hid (snum ts[j] = m) := ⟨snum ts[j], rfl⟩
      obtain ⟨d, hd⟩ : ∃ d : Bool, Hid ((numT ts[j]).isSome = d) := ⟨(numT ts[j]).isSome, rfl⟩
      rw [hm.out, hd.out] at HNU
      have hrel3 : Hid (((isb && d) = true → ∃ l0 : List Nat, zs2 ++ [(m : Int)] = zs ++ l0.map (fun n : Nat => (n : Int)) ∧ numsT ts = (numsT (ts.drop (j + 1))).map (l0 ++ ·)) ∧ ((isb && d) = false → numsT ts = none)) := Lib.hid (by
        cases isb with
        | false => exact ⟨fun e => (by cases e), fun _ => hrel2.out.2 rfl⟩
        | true =>
          obtain ⟨l0, h1, h2⟩ := hrel2.out.1 rfl
          cases hn : numT ts[j] with
          | none =>
            rw [hn] at hdr2 hd
            have hdf : d = false := hd.out.symm
            subst hdf
            exact ⟨fun e => (by cases e), fun _ => by rw [h2, hdr2.out]; rfl⟩
          | some n =>
            have hmn : m = n := by rw [← hm.out]; exact snum_of hn
            rw [hn] at hdr2 hd
            have hdf : d = true := hd.out.symm
            subst hdf hmn
            refine ⟨fun _ => ⟨l0 ++ [m], by rw [h1]; simp, ?_⟩, fun e => (by cases e)⟩
            rw [h2, hdr2.out]
            exact numsT_map _ _ _)
      clear hrel2 hdr2 hm hd htj
      generalize ts[j] = t' at *
      have hzl3 : zs2.length ≤ zs.length + 3 := by have := hzl.out; omega
      obtain ⟨SA, sc, rfl, hsc⟩ := own_slice hinv.out.sz
      have HLV2 := hinv.out.lt
      have hB2 : wv.heap.size ≤ wr.heap.size := hinv.out.alt.size
      cases isb
      all_goals go_wp2_with (first
        | (go_at_call 19; refine (HNU.out _).mono ?_; rintro e w6 ⟨rfl, hb6⟩; have hI6 := Lib.hid (hinv.out.below hb6); have hR6 := Lib.hid (hrw.out.below hb6); have hs6 := hb6.size; clear hb6; have k53 : w6.cell? ⟨gs, 53, none⟩ = some (.slice SA zs2.length sc) := hI6.out.bs.cell 53)
        | (at_builtin; refine wpList_append_own _ rfl _ _ 22 rfl wv.heap.size 3 i1 _ 1 8 Tryz.underlying22 JI.out JZ0.out JZ1.out JZ2.out rfl (by decide) _ _ _ rfl (hI6.out.sz.alloc _) ⟨w6.heap.size, 0, none⟩ 1 1 [.int .i64 (m : Int)] rfl rfl (new_read _ _ _) (all_one rfl) (by unfold maxLen; omega) (by omega) (by simp; omega) ?_; intro v' w7 hown7 hgrow7 _hn; have hI7 := Lib.hid (hI6.out.size (n := (m : Int)) hgrow7 hown7); have hR7 := Lib.hid (WRow.grown hR6.out hI6.out.sz hgrow7); have hz7 : w6.heap.size ≤ w7.heap.size := (by have h1 := hgrow7.size; rw [World.size_alloc] at h1; omega); obtain ⟨A7, c7, rfl, _⟩ := own_slice hown7; have z53 := hI7.out.bs.cell 53; have f53 := hI7.out.bs.frozen 53; have y53 : w7.cell? ⟨gs, 53, none⟩ = some (.slice SA zs2.length sc) := z53; clear z53 hown7 hgrow7 _hn))
      all_goals
        exact ⟨⟨j + 1, _, zs2 ++ [(m : Int)], .slice A7 (zs2.length + 1) c7, Nat.succ_le_of_lt hgo, by go_num, rfl, hrel3.out, by show _ = _; rw [List.length_append, hzl.out]; rfl, SInv.k_sizes hI7.out, own_alt hR7.out (p := fun x => x = gs) (Alt.set_ (p := fun x => x = gs) (a := ⟨gs, 53, none⟩) (Alt.refl _ _) rfl (.slice A7 (zs2.length + 1) c7)) (fun g hg e => by omega), by rw [World.size_setCell]; omega⟩, by simp [intOf]; omega⟩
    · have hjn : j = ts.length := by omega
      have HF : Hid (isb = (numsT ts).isSome ∧ ∀ l, numsT ts = some l → zs2 = zs ++ l.map (fun n : Nat => (n : Int))) := Lib.hid (by
        cases isb with
        | false => rw [hrel2.out.2 rfl]; exact ⟨rfl, fun l h => (by cases h)⟩
        | true =>
          obtain ⟨l0, h1, h2⟩ := hrel2.out.1 rfl
          rw [hjn, List.drop_length] at h2
          have h3 : numsT ts = some l0 := by rw [h2]; simp [numsT]
          rw [h3]
          exact ⟨rfl, fun l h => by injection h with h; rw [h1, h]⟩)
      clear hrel2
      have hzl4 : zs2.length ≤ zs.length + 3 := by have := hzl.out; have := HPL.out; omega
      go_wp2
      exact HR.out N Q szv2 zs2 isb _ _ _ _ _ _ _ _ _ _ _ _ _ _ _ _ _ _ _ _ _ _ _ _ _ _ _ _ _ _ _ _ _ _ _ _ _ _ _ _ _ _ _ _ _ _ _ _ _ _ _ _ _ _ _ _ _ _ _ _ _ _ _ _ _ _ _ _ _ _ _ _ _ _ _ _ _ _ _ _ _ _ _ _ _ _ _ _ _ _ _ _ _ _ _ _ _ _ _ _ _ _ _ _ _ _ _ _ _ _ _ _ _ _ _ _ _ _ _ _ _ _ _ _ _ _ _ _ _ _ _ _ _ _ _ _ _ _ _ _ _ _ _ _ _ _ (by rw [HF.out.1]; exact SMZ.out zs2 HF.out.2) hinv.out hzl4
end Go.Proofs.YtelehhfnomdneaaGreatDoor.Sp
