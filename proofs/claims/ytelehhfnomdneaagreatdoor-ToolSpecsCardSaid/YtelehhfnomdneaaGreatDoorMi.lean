/-
  ToolSpecs: the plain Spec's loop over the words.
  And: 
-/
import Derived.Test.YtelehhfnomdneaaGreatDoorMh
namespace Go.Proofs.YtelehhfnomdneaaGreatDoor.Sp
open Go Go.RowKit Ut Tc

set_option maxHeartbeats 60000000 in
set_option maxRecDepth 100000 in
theorem loop2 {w wv : World} {g n c gs gr KD c5 : Nat} {bs : List ByteArray} {os : List (Option (Wd × Wd))} {t0 t1 t2 : Wd} {ts : List Wd} {A5 : Option Addr} {okb : Bool} {z : Array Value} {x1 x3 x6 x13 x14 x15 x16 x17 x18 x19 x20 x21 x22 x23 x24 x25 x26 x27 x28 x29 x30 x31 x32 x33 x34 x35 x36 x37 x38 x39 x40 x41 x42 x43 x44 x45 x46 x47 x48 x49 x50 x51 x52 x53 x54 x55 x56 x57 x58 x59 x60 x61 x62 x63 x64 x65 x66 x67 x68 x69 x70 x71 x72 x73 x74 x75 x76 x77 x78 x79 x80 x81 x82 x83 x84 x85 x86 x87 x88 x89 x90 x91 x92 x93 x94 x95 x96 x97 x98 x99 x100 x101 x102 x103 x104 x105 x106 x107 x108 x109 x110 x111 x112 x113 x114 x115 x116 x117 x118 x119 x120 x121 x122 x123 x124 x125 x126 x127 x128 x129 x130 x131 x132 x133 x134 x135 x136 x137 x138 x139 x140 x141 x142 x143 x144 x145 x146 x147 x148 x149 x150 x151 x152 x153 x154 x155 x156 x157 x158 x159 x160 x161 x162 x163 x164 x165 x166 x167 x168 x169 x170 x171 x172 x173 x174 x175 x176 x177 x178 x179 x180 x181 x182 x183 x184 x185 x186 x187 x188 x189 x190 x191 x192 x193 x194 x195 x196 x197 x198 x199 x200 x201 x202 x203 x204 x205 x206 x207 x208 x209 x210 x211 x212 x213 x214 x215 x216 x217 x218 x219 x220 x221 x222 x223 x224 x225 x226 x227 x228 x229 x230 x231 x232 x233 x234 x235 x236 x237 x238 x239 x240 x241 x242 x243 x244 x245 x246 x247 x248 x249 x250 x251 x252 x253 x254 x255 x256 x257 x258 x259 x260 x261 x262 x263 x264 x265 x266 x267 x268 x269 x270 x271 x272 x273 x274 x275 x276 x277 x278 x279 x280 x281 x282 x283 x284 x285 x286 x287 x288 x289 x290 x291 x292 x293 x294 x295 x296 x297 : Value}
    (HC0 : ∀ W, Below w.heap.size w W → W.cell? ⟨g, 0, none⟩ = some (.string ⟨⟨t0⟩⟩) ∧ W.cell? ⟨g, 1, none⟩ = some (.string ⟨⟨t1⟩⟩) ∧ W.cell? ⟨g, 2, none⟩ = some (.string ⟨⟨t2⟩⟩) ∧ ∀ j b, bs[j]? = some b → W.cell? ⟨g, j, none⟩ = some (.string b))
    (HNO0 : n = os.length + 3) (h9 : n ≤ 9) (_hnc : n ≤ c) (HOS0 : ∀ i o, os[i]? = some o → ∃ b, bs[i + 3]? = some b ∧ IsWord b o) (hz : ∀ W, (zeroValue 42).run Tryz.prog W = .ok (.agg z) W) (HZS0 : z.size = 70) (HZ10 : z.all (·.oneCell') = true)
    (HPV0 : PreS w wv gs KD t1 (.slice A5 ts.length c5) ts z) (hgw : w.heap.size < gr ∧ w.heap.size < gs ∧ gs < gr) (HSI0 : SInv wv wv gs gr (gr + 1) (gr + 1 + 1) (gr + 1 + 1 + 1) wv.heap.size ⟨stS KD (.string ⟨⟨t1⟩⟩) (.slice A5 ts.length c5) (.slice none 0 0) (nI []) (fD [])⟩ ⟨stR (nI []) (fD [])⟩ ⟨stF (nI [])⟩ ⟨stB (nI []) (fD [])⟩ ⟨stD (nI []) (fD [])⟩ (.slice none 0 0) (.slice none 0 0) (keysOf []) []) (HGP20 : goodP t0 t1 t2 os = if okb = true then runW [] os else none)
    {K : Act → World → Prop} (hK : ∀ (acc : Acc) (N : Wd → Int) (Q : Wd → Bool × Nat × Nat) (okb' : Bool) (szv seenv : Value) (zs : List Int) (y3 y12 y13 y14 y15 y16 y17 y18 y19 y20 y21 y22 y23 y66 y67 y68 y69 y70 y71 y72 y73 y74 y75 y76 y77 y78 y79 y80 y81 y82 y83 y84 y85 y86 y87 y88 y89 y90 y91 y92 y93 y94 y95 y96 y97 y98 y99 y100 y101 y102 y103 y104 y105 y106 y107 y108 y109 y110 y111 y112 y113 y114 y115 y116 y117 y118 y119 y120 y121 y122 y123 y124 y125 y126 y127 y128 y129 y130 y131 y132 y133 y134 y135 y136 y137 y138 y139 y140 y141 y142 y143 y144 y145 y146 y147 y148 y149 y150 y151 y152 y153 y154 y155 y156 y157 y158 y159 y160 y161 y162 y163 y164 y165 y166 y167 y168 y169 y170 y171 y172 y173 y174 y175 y176 y177 y178 y179 y180 y181 y182 y183 y184 y185 y186 y187 y188 y189 y190 y191 y192 y193 y194 y195 y196 y197 y198 y199 y200 y201 y202 y203 y204 y205 y206 y207 y208 y209 y210 y211 y212 y213 y214 y215 y216 y217 y218 y219 y220 y221 y222 y223 y224 y225 y226 y227 y228 y229 y230 y231 y232 y233 y234 y235 y236 y237 y238 y239 y240 y241 y242 y243 y244 y245 y246 y247 y248 y249 y250 y251 y252 y253 y254 y255 y256 y257 y258 y259 y260 y261 y262 y263 y264 y265 y266 y267 y268 y269 y270 y271 y272 y273 y274 y275 y276 y277 y278 y279 y280 y281 : Value) (w' : World), Sem (goodP t0 t1 t2 os) os os.length acc N Q okb' zs → SInv wv w' gs gr (gr + 1) (gr + 1 + 1) (gr + 1 + 1 + 1) wv.heap.size ⟨stS KD (.string ⟨⟨t1⟩⟩) (.slice A5 ts.length c5) szv N Q⟩ ⟨stR N Q⟩ ⟨stF N⟩ ⟨stB N Q⟩ ⟨stD N Q⟩ seenv szv (keysOf acc) zs → K ⟨#[.slice (some ⟨g, 0, none⟩) n c, x1, .pointer (some ⟨w.heap.size, 0, none⟩), y3, .pointer (some ⟨gs, 0, none⟩), .bool okb', x6, seenv, .pointer (some ⟨gr, 0, none⟩), .pointer (some ⟨gr + 1, 0, none⟩), .pointer (some ⟨gr + 1 + 1, 0, none⟩), .pointer (some ⟨gr + 1 + 1 + 1, 0, none⟩), y12, y13, y14, y15, y16, y17, y18, y19, y20, y21, y22, y23, x24, x25, x26, x27, x28, x29, x30, x31, x32, x33, x34, x35, x36, x37, x38, x39, x40, x41, x42, x43, x44, x45, x46, x47, x48, x49, x50, x51, x52, x53, x54, x55, x56, x57, x58, x59, x60, x61, x62, x63, x64, x65, y66, y67, y68, y69, y70, y71, y72, y73, y74, y75, y76, y77, y78, y79, y80, y81, y82, y83, y84, y85, y86, y87, y88, y89, y90, y91, y92, y93, y94, y95, y96, y97, y98, y99, y100, y101, y102, y103, y104, y105, y106, y107, y108, y109, y110, y111, y112, y113, y114, y115, y116, y117, y118, y119, y120, y121, y122, y123, y124, y125, y126, y127, y128, y129, y130, y131, y132, y133, y134, y135, y136, y137, y138, y139, y140, y141, y142, y143, y144, y145, y146, y147, y148, y149, y150, y151, y152, y153, y154, y155, y156, y157, y158, y159, y160, y161, y162, y163, y164, y165, y166, y167, y168, y169, y170, y171, y172, y173, y174, y175, y176, y177, y178, y179, y180, y181, y182, y183, y184, y185, y186, y187, y188, y189, y190, y191, y192, y193, y194, y195, y196, y197, y198, y199, y200, y201, y202, y203, y204, y205, y206, y207, y208, y209, y210, y211, y212, y213, y214, y215, y216, y217, y218, y219, y220, y221, y222, y223, y224, y225, y226, y227, y228, y229, y230, y231, y232, y233, y234, y235, y236, y237, y238, y239, y240, y241, y242, y243, y244, y245, y246, y247, y248, y249, y250, y251, y252, y253, y254, y255, y256, y257, y258, y259, y260, y261, y262, y263, y264, y265, y266, y267, y268, y269, y270, y271, y272, y273, y274, y275, y276, y277, y278, y279, y280, y281, x282, x283, x284, x285, x286, x287, x288, x289, x290, x291, x292, x293, x294, x295, x296, x297], []⟩ w') :
    LOOP2.wp Tryz.prog (Exit.then K (bodyPost Tryz.prog Tryz.f7 (fun e w' => SSpecOut w t0 t1 t2 os z e w'))) ⟨#[.slice (some ⟨g, 0, none⟩) n c, x1, .pointer (some ⟨w.heap.size, 0, none⟩), x3, .pointer (some ⟨gs, 0, none⟩), .bool okb, x6, .slice none 0 0, .pointer (some ⟨gr, 0, none⟩), .pointer (some ⟨gr + 1, 0, none⟩), .pointer (some ⟨gr + 1 + 1, 0, none⟩), .pointer (some ⟨gr + 1 + 1 + 1, 0, none⟩), .int .i64 3, x13, x14, x15, x16, x17, x18, x19, x20, x21, x22, x23, x24, x25, x26, x27, x28, x29, x30, x31, x32, x33, x34, x35, x36, x37, x38, x39, x40, x41, x42, x43, x44, x45, x46, x47, x48, x49, x50, x51, x52, x53, x54, x55, x56, x57, x58, x59, x60, x61, x62, x63, x64, x65, x66, x67, x68, x69, x70, x71, x72, x73, x74, x75, x76, x77, x78, x79, x80, x81, x82, x83, x84, x85, x86, x87, x88, x89, x90, x91, x92, x93, x94, x95, x96, x97, x98, x99, x100, x101, x102, x103, x104, x105, x106, x107, x108, x109, x110, x111, x112, x113, x114, x115, x116, x117, x118, x119, x120, x121, x122, x123, x124, x125, x126, x127, x128, x129, x130, x131, x132, x133, x134, x135, x136, x137, x138, x139, x140, x141, x142, x143, x144, x145, x146, x147, x148, x149, x150, x151, x152, x153, x154, x155, x156, x157, x158, x159, x160, x161, x162, x163, x164, x165, x166, x167, x168, x169, x170, x171, x172, x173, x174, x175, x176, x177, x178, x179, x180, x181, x182, x183, x184, x185, x186, x187, x188, x189, x190, x191, x192, x193, x194, x195, x196, x197, x198, x199, x200, x201, x202, x203, x204, x205, x206, x207, x208, x209, x210, x211, x212, x213, x214, x215, x216, x217, x218, x219, x220, x221, x222, x223, x224, x225, x226, x227, x228, x229, x230, x231, x232, x233, x234, x235, x236, x237, x238, x239, x240, x241, x242, x243, x244, x245, x246, x247, x248, x249, x250, x251, x252, x253, x254, x255, x256, x257, x258, x259, x260, x261, x262, x263, x264, x265, x266, x267, x268, x269, x270, x271, x272, x273, x274, x275, x276, x277, x278, x279, x280, x281, x282, x283, x284, x285, x286, x287, x288, x289, x290, x291, x292, x293, x294, x295, x296, x297], []⟩ wv := by
  have HC := Lib.hid HC0
  have HNO := Lib.hid HNO0
  have hn3 : 3 ≤ n := by omega
  have HOS := Lib.hid HOS0
  have HZS := Lib.hid HZS0
  have HZ1 := Lib.hid HZ10
  have HPV := Lib.hid HPV0
  have HSI := Lib.hid HSI0
  have HGP2 := Lib.hid HGP20
  have HK := Lib.hid hK
  clear HC0 HNO0 HOS0 HZS0 HZ10 HPV0 HSI0 HGP20 hK
  obtain ⟨i0, hi0', hz0', hz1', hz2'⟩ := info_parts infoStr
  have HI := Lib.hid hi0'
  have HZ0 := Lib.hid hz0'
  have HZ1' := Lib.hid hz1'
  have HZ2 := Lib.hid hz2'
  clear hi0' hz0' hz1' hz2'
  generalize hQQ : bodyPost Tryz.prog Tryz.f7 (fun e w' => SSpecOut w t0 t1 t2 os z e w') = QQ
  unfold LOOP2
  simp only [Tryz.f7, findB, Option.bind, Option.getD, Nat.reduceEqDiff, if_true, if_false]
  subst hQQ
  go_wp2_with fail
  go_loopw [5, 7, 12] (fun v5 v7 v12 wr => ∃ (i : Nat) (acc : Acc) (N : Wd → Int) (Q : Wd → Bool × Nat × Nat) (okb : Bool) (szv : Value) (zs : List Int), i ≤ os.length ∧ v12 = .int .i64 (((3 + i : Nat)) : Int) ∧ v5 = .bool okb ∧ Hid (Sem (goodP t0 t1 t2 os) os i acc N Q okb zs) ∧ Hid (acc.length = i) ∧ Hid (zs.length ≤ 3 * i) ∧ Hid (SInv wv wr gs gr (gr + 1) (gr + 1 + 1) (gr + 1 + 1 + 1) wv.heap.size ⟨stS KD (.string ⟨⟨t1⟩⟩) (.slice A5 ts.length c5) szv N Q⟩ ⟨stR N Q⟩ ⟨stF N⟩ ⟨stB N Q⟩ ⟨stD N Q⟩ v7 szv (keysOf acc) zs)) (fun _ _ v12 _ => n - (intOf v12).toNat)
  case atStart => exact ⟨0, [], nI [], fD [], okb, _, [], Nat.zero_le _, rfl, rfl, ⟨fun h => ⟨by rw [HGP2.out, h]; rfl, rfl, rfl, rfl⟩, fun h => by rw [HGP2.out, h]; rfl⟩, rfl, Nat.le_refl _, HSI.out⟩
  case round =>
    obtain ⟨i, acc, N, Q, okb, szv, zs, hi, rfl, rfl, hsem, hal, hzl3, hinv⟩ := hrel
    have hkl : (keysOf acc).length ≤ 9 := by have := hal.out; unfold keysOf; rw [List.length_map]; have := HNO.out; omega
    have HBw : Hid (Below w.heap.size w wr) := Lib.hid (HPV.out.bel.trans (hinv.out.alt.below (fun k hk => by omega) HPV.out.bel.size))
    have hzw : Hid (Blk wr w.heap.size 42 z) := Lib.hid ((hinv.out.alt.block _ (by have := HPV.out.bz.lt; exact this) (by omega)).trans HPV.out.bz)
    have hst := run_storeCells_blk hzw.out (HZS.out.symm ▸ infoSpec) rfl HZ1.out
    by_cases hgo' : 3 + i < n
    · have hgo : i < os.length := by have := HNO.out; omega
      obtain ⟨bj, hbj, hwd⟩ := HOS.out i os[i] (List.getElem?_eq_getElem hgo)
      have hb100 : bj.size ≤ 100 := hwd.size
      have hcj : wr.cell? ⟨g, 3 + i, none⟩ = some (.string bj) := (HC.out _ HBw.out).2.2.2 _ _ (by rw [Nat.add_comm]; exact hbj)
      have hdr : Hid (runW acc (os.drop i) = if okW acc os[i] = true then runW (addW acc os[i]) (os.drop (i + 1)) else none) := by
        show _ = _
        rw [List.drop_eq_getElem_cons hgo]; rfl
      cases ho : os[i] with
      | none =>
        rw [ho] at hdr hwd
        obtain ⟨pos, hps, hbefore, hat, hwm⟩ := word_pos hwd
        have hpe : Hid (pos = bj.size) := hwm
        have hno : Hid (goodP t0 t1 t2 os = none) := Lib.hid (by
          cases okb with
          | true => exact (hsem.out.1 rfl).1.trans hdr.out
          | false => exact hsem.out.2 rfl)
        clear hwm hdr ho hwd hsem
        go_wp2_with fail
        go_loop [13] (fun v13 => ∃ q : Nat, q ≤ pos ∧ v13 = .int .i64 (q : Int)) (fun v13 => bj.size + 1 - (intOf v13).toNat)
        case atStart => exact ⟨0, Nat.zero_le _, rfl⟩
        case round =>
          obtain ⟨q, hq, rfl⟩ := hrel
          by_cases hqp : q < pos
          · have hqb : q < bj.size := Nat.lt_of_lt_of_le hqp hps
            have hne := hbefore.out q hqb hqp
            go_wp2
            exact ⟨⟨q + 1, hqp, by go_num⟩, by simp [intOf]; omega⟩
          · have hqe : q = pos := by omega
            subst hqe
            have hqs := hpe.out
            have hnb : ((q : Int) == (bj.size : Int)) = true := by simp; omega
            have hnl : ¬ q < bj.size := by omega
            clear hqs hqp
            go_wp2
            exact bodyPost_ret (results_row2 rfl _ _ w.heap.size z _ _ rfl (setRow_alt hzw.out).1 Tryz.underlying42 rfl (HZS.out.symm ▸ infoSpec)) rfl (SSpecOut.bad hno.out (setRow_below HBw.out hzw.out (Nat.le_refl _)) rfl)
      | some p =>
        obtain ⟨k, t⟩ := p
        rw [ho] at hdr hwd
        obtain ⟨pos, hps, hbefore, hat, hwm⟩ := word_pos hwd
        obtain ⟨hpk, hpb, hex1, hex2⟩ := hwm.out
        have HPK := Lib.hid hpk
        have HX1 := Lib.hid hex1
        have HX2 := Lib.hid hex2
        clear hpk hex1 hex2
        have hkm : k ∈ keysL := hwd.2.1
        have htm : t ∈ valsL := hwd.2.2
        obtain ⟨sA, sc, rfl, hsc⟩ := own_slice hinv.out.seen
        by_cases hks : k ∈ keysOf acc
        · have hno : Hid (goodP t0 t1 t2 os = none) := Lib.hid (by
            cases okb with
            | true =>
              refine (hsem.out.1 rfl).1.trans (hdr.out.trans ?_)
              have : okW acc (some (k, t)) = false := by
                show (decide (k ∉ keysOf acc) && fine k t) = false
                rw [decide_eq_false (fun hn => hn hks)]; rfl
              rw [this]; rfl
            | false => exact hsem.out.2 rfl)
          obtain ⟨r, hr⟩ : ∃ r : Nat, whichN k (keysOf acc) = r + 1 := by
            unfold whichN
            cases hw : whichP k (keysOf acc) with
            | none => exact absurd hks (which_none.1 hw)
            | some j => exact ⟨j, rfl⟩
          have HWI : Hid (Calls Tryz.prog 16 #[.slice sA (keysOf acc).length sc, .string ⟨⟨k⟩⟩] wr fun e w' => e = .returned (.int .i64 ((r + 1 : Nat) : Int)) ∧ wr = w') := Lib.hid (by
            have := which_any (StrIn.of_row (show WRow wr wv.heap.size (.slice sA (keysOf acc).length sc) (keysOf acc) from hinv.out.seen)) (c := sc) rfl (by omega) k
            rw [hr] at this
            exact this)
          have hat1 := hat.out hpb
          clear hwm hdr ho hwd hsem hr hkm htm hks
          go_wp2_with fail
          go_loop [13] (fun v13 => ∃ q : Nat, q ≤ pos ∧ v13 = .int .i64 (q : Int)) (fun v13 => bj.size + 1 - (intOf v13).toNat)
          case atStart => exact ⟨0, Nat.zero_le _, rfl⟩
          case round =>
            obtain ⟨q, hq, rfl⟩ := hrel
            by_cases hqp : q < pos
            · have hqb : q < bj.size := Nat.lt_of_lt_of_le hqp hps
              have hne := hbefore.out q hqb hqp
              go_wp2
              exact ⟨⟨q + 1, hqp, by go_num⟩, by simp [intOf]; omega⟩
            · have hqe : q = pos := by omega
              subst hqe
              have hnb : ((q : Int) == (bj.size : Int)) = false := by simp; omega
              go_wp2_with (first | (go_at_call 16; rw [HX1.out]; refine HWI.out.mono ?_; rintro e w6 ⟨rfl, rfl⟩; dsimp only))
              exact bodyPost_ret (results_row2 rfl _ _ w.heap.size z _ _ rfl (setRow_alt hzw.out).1 Tryz.underlying42 rfl (HZS.out.symm ▸ infoSpec)) rfl (SSpecOut.bad hno.out (setRow_below HBw.out hzw.out (Nat.le_refl _)) rfl)
        · have HWI : Hid (Calls Tryz.prog 16 #[.slice sA (keysOf acc).length sc, .string ⟨⟨k⟩⟩] wr fun e w' => e = .returned (.int .i64 0) ∧ wr = w') := Lib.hid (by
            have := which_any (StrIn.of_row (show WRow wr wv.heap.size (.slice sA (keysOf acc).length sc) (keysOf acc) from hinv.out.seen)) (c := sc) rfl (by omega) k
            have hr : whichN k (keysOf acc) = 0 := by
              unfold whichN
              rw [which_none.2 hks]
            rw [hr] at this
            exact this)
          have htx := vals_texts htm
          obtain ⟨sn, hsn⟩ : ∃ sn : Nat, Hid (snum t = sn) := ⟨_, rfl⟩
          obtain ⟨c1, hc1⟩ : ∃ c1 : Bool, Hid ((numT t).isSome = c1) := ⟨_, rfl⟩
          obtain ⟨qq, hqq⟩ : ∃ qq : Bool × Nat × Nat, Hid ((fracT t).getD (false, 0, 0) = qq) := ⟨_, rfl⟩
          obtain ⟨c2, hc2⟩ : ∃ c2 : Bool, Hid ((fracT t).isSome = c2) := ⟨_, rfl⟩
          have HNU : Hid (∀ W, Calls Tryz.prog 19 #[.string ⟨⟨t⟩⟩] W fun e w' => e = .returned (.tuple #[.int .i64 (sn : Int), .bool c1]) ∧ Below W.heap.size W w') := Lib.hid fun W => by
            rw [← hsn.out, ← hc1.out]; exact snumber_any W htx
          have HFR : Hid (∀ W, Calls Tryz.prog 20 #[.string ⟨⟨t⟩⟩] W fun e w' => e = .returned (.tuple #[.agg #[.bool qq.1, .int .u64 (qq.2.1 : Int), .string ⟨⟨[]⟩⟩, .int .u64 (qq.2.2 : Int), .string ⟨⟨[]⟩⟩], .bool c2]) ∧ Below W.heap.size W w') := Lib.hid fun W => by
            rw [← hqq.out, ← hc2.out]; exact frac_any W htx
          have HSN : Hid (sn ≤ 1234567890) := Lib.hid (by rw [← hsn.out]; exact snum_le t)
          have HKM := Lib.hid hkm
          have HTM := Lib.hid htm
          have HKS := Lib.hid hks
          have HDR := Lib.hid hdr.out
          have hat1 := hat.out hpb
          clear hwm hdr ho hwd hkm htm hks htx HPK
          go_wp2_with fail
          go_loop [13] (fun v13 => ∃ q : Nat, q ≤ pos ∧ v13 = .int .i64 (q : Int)) (fun v13 => bj.size + 1 - (intOf v13).toNat)
          case atStart => exact ⟨0, Nat.zero_le _, rfl⟩
          case round =>
            obtain ⟨q, hq, rfl⟩ := hrel
            by_cases hqp : q < pos
            · have hqb : q < bj.size := Nat.lt_of_lt_of_le hqp hps
              have hne := hbefore.out q hqb hqp
              go_wp2
              exact ⟨⟨q + 1, hqp, by go_num⟩, by simp [intOf]; omega⟩
            · have hqe : q = pos := by omega
              subst hqe
              have hnb : ((q : Int) == (bj.size : Int)) = false := by simp; omega
              go_wp2_with (first | (go_at_call 16; rw [HX1.out]; refine HWI.out.mono ?_; rintro e w6 ⟨rfl, rfl⟩; dsimp only))
              go_quiet (fail)
              rw [HX1.out, HX2.out]
              generalize hwn : wr.drewN nq = wn
              have hIn : Hid (SInv wv wn gs gr (gr + 1) (gr + 1 + 1) (gr + 1 + 1 + 1) wv.heap.size ⟨stS KD (.string ⟨⟨t1⟩⟩) (.slice A5 ts.length c5) szv N Q⟩ ⟨stR N Q⟩ ⟨stF N⟩ ⟨stB N Q⟩ ⟨stD N Q⟩ (.slice sA (keysOf acc).length sc) szv (keysOf acc) zs) := Lib.hid (by rw [← hwn]; exact hinv.out.drewN nq)
              have HBn : Hid (Below w.heap.size w wn) := Lib.hid (hwn ▸ ⟨HBw.out.os, HBw.out.tape, HBw.out.output, HBw.out.size, HBw.out.block⟩)
              have HB0 : wv.heap.size ≤ wn.heap.size := hIn.out.alt.size
              clear hwn hst hcj hnb hqp hq hinv
              go_upto_block 6 with (first
                | (at_builtin; refine wpList_append_own _ rfl _ _ 23 rfl wv.heap.size 9 i0 _ 1 16 Tryz.underlying23 HI.out HZ0.out HZ1'.out HZ2.out rfl (by decide) _ (keysOf acc).length _ rfl (hIn.out.seen.alloc _) ⟨wn.heap.size, 0, none⟩ 1 1 [.string ⟨⟨k⟩⟩] rfl rfl (new_read _ _ _) (all_one rfl) (by unfold maxLen; omega) (by omega) (by simp; omega) ?_; intro v' w1 hown' hgrow _hn; have hI1 := Lib.hid (hIn.out.key hgrow hown'); obtain ⟨A1, cc1, rfl, _⟩ := own_slice hI1.out.seen; clear hown' hgrow _hn)
                | (go_at_call 19; refine (HNU.out _).mono ?_; rintro e w2 ⟨rfl, hb2⟩; dsimp only; have hI2 := Lib.hid (hI1.out.below hb2); clear hb2)
                | (go_at_call 20; refine (HFR.out _).mono ?_; rintro e w3 ⟨rfl, hb3⟩; dsimp only; have hI3 := Lib.hid (hI2.out.below hb3); clear hb3))
              have hke : (keysOf acc ++ [k]).length = (keysOf acc).length + 1 := by simp
              generalize hwa : World.alloc w3 _ = wa
              have hI4 : Hid (StI wv wa gs gr wv.heap.size KD (.string ⟨⟨t1⟩⟩) (.slice A5 ts.length c5) szv N Q (.slice A1 ((keysOf acc).length + 1) cc1) (keysOf acc ++ [k]) zs) := Lib.hid (by rw [← hwa, ← hke]; exact hI3.out.below ((Below.refl _ _).alloc (Nat.le_refl _) _))
              have hQb : Blk wa w3.heap.size 32 #[.bool qq.1, .int .u64 (qq.2.1 : Int), .string ⟨⟨[]⟩⟩, .int .u64 (qq.2.2 : Int), .string ⟨⟨[]⟩⟩] := by rw [← hwa]; exact Blk.new w3 _ _
              have HQb := Lib.hid hQb
              have HQ3 : wv.heap.size ≤ w3.heap.size := hI3.out.alt.size
              have HZ9 : Hid (zs.length ≤ 1000) := Lib.hid (by have := hzl3.out; have := HNO.out; omega)
              clear hwa hQb hke
              go_cut [17, 20, 21, 22, 23] from 137 to 277 (fun v17 _ _ _ _ wx => ∃ (N' : Wd → Int) (Q' : Wd → Bool × Nat × Nat) (szv' : Value) (zs' : List Int) (is : Bool), v17 = .bool is ∧ Hid (Sem (goodP t0 t1 t2 os) os (i + 1) (acc ++ [(k, t)]) N' Q' (okb && is) zs') ∧ Hid (StI wv wx gs gr wv.heap.size KD (.string ⟨⟨t1⟩⟩) (.slice A5 ts.length c5) szv' N' Q' (.slice A1 ((keysOf acc).length + 1) cc1) (keysOf acc ++ [k]) zs') ∧ Hid (zs'.length ≤ zs.length + 3))
              case first =>
                refine wp_of_eq (c := SWC) ?_ (sw_all HKM.out hI4.out HQb.out HQ3 HSN.out HTM.out hsn.out hc1.out hqq.out hc2.out hsem.out HDR.out HKS.out HZ9.out (fun c a d v w h => by cases d <;> exact h) ?_)
                · unfold SWC
                  simp only [Tryz.f7, findB, Option.bind, Option.getD, Nat.reduceEqDiff, if_true, if_false]
                intro N' Q' szv' zs' is y20 y21 y22 y23 y137 y138 y139 y140 y141 y142 y143 y144 y145 y146 y147 y148 y149 y150 y151 y152 y153 y154 y155 y156 y157 y158 y159 y160 y161 y162 y163 y164 y165 y166 y167 y168 y169 y170 y171 y172 y173 y174 y175 y176 y177 y178 y179 y180 y181 y182 y183 y184 y185 y186 y187 y188 y189 y190 y191 y192 y193 y194 y195 y196 y197 y198 y199 y200 y201 y202 y203 y204 y205 y206 y207 y208 y209 y210 y211 y212 y213 y214 y215 y216 y217 y218 y219 y220 y221 y222 y223 y224 y225 y226 y227 y228 y229 y230 y231 y232 y233 y234 y235 y236 y237 y238 y239 y240 y241 y242 y243 y244 y245 y246 y247 y248 y249 y250 y251 y252 y253 y254 y255 y256 y257 y258 y259 y260 y261 y262 y263 y264 y265 y266 y267 y268 y269 y270 y271 y272 y273 y274 y275 y276 y277 w' hs hi2 hz2
                dsimp only
                go_wp2_with fail
                go_meet
                exact ⟨N', Q', szv', zs', is, rfl, hs, hi2, hz2⟩
              case rest =>
                obtain ⟨N', Q', szv', zs', is, rfl, hs2, hi2, hz2⟩ := hcut
                cases okb
                all_goals
                  go_wp2
                  exact ⟨⟨i + 1, acc ++ [(k, t)], N', Q', _, szv', zs', by have := HNO.out; omega, by go_num, rfl, hs2.out, by show _ = _; rw [List.length_append, hal.out]; rfl, by have := hzl3.out; have := hz2.out; show _ ≤ _; omega, by rw [keys_snoc]; exact hi2.out⟩, by simp [intOf]; omega⟩
    · have hie : i = os.length := by have := HNO.out; omega
      subst hie
      go_wp2_with fail
      exact HK.out acc N Q okb szv _ zs _ _ _ _ _ _ _ _ _ _ _ _ _ _ _ _ _ _ _ _ _ _ _ _ _ _ _ _ _ _ _ _ _ _ _ _ _ _ _ _ _ _ _ _ _ _ _ _ _ _ _ _ _ _ _ _ _ _ _ _ _ _ _ _ _ _ _ _ _ _ _ _ _ _ _ _ _ _ _ _ _ _ _ _ _ _ _ _ _ _ _ _ _ _ _ _ _ _ _ _ _ _ _ _ _ _ _ _ _ _ _ _ _ _ _ _ _ _ _ _ _ _ _ _ _ _ _ _ _ _ _ _ _ _ _ _ _ _ _ _ _ _ _ _ _ _ _ _ _ _ _ _ _ _ _ _ _ _ _ _ _ _ _ _ _ _ _ _ _ _ _ _ _ _ _ _ _ _ _ _ _ _ _ _ _ _ _ _ _ _ _ _ _ _ _ _ _ _ _ _ _ _ _ _ _ _ _ _ _ _ _ _ _ _ _ _ _ _ _ _ _ _ _ _ _ _ _ _ _ _ hsem.out hinv.out
end Go.Proofs.YtelehhfnomdneaaGreatDoor.Sp
