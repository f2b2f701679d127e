/-
  ToolSpecs: the plain Spec's switch.
  And: A part of a struct stored: one step, its cells whatever. ToolSpecs: the plain Spec: what its walk speaks of. ToolSpecs: the plain Spec's last regions, the frame a letter. ToolSpecs: the plain Spec's end.
-/
import Derived.Test.YtelehhfnomdneaaGreatDoorMf
import Derived.Test.YtelehhfnomdneaaGreatDoorMg
import Derived.Deep.RegionHeldLaw
import Derived.Deep.CutBlock
import Derived.Deep.Cut
import Derived.Deep.CutRange
import Derived.Great.Frames
namespace Go.Proofs.YtelehhfnomdneaaGreatDoor.Sp
open Go Go.RowKit Ut Tc

set_option maxHeartbeats 8000000 in
set_option maxRecDepth 100000 in
theorem sw_all {wv wa : World} {gs gr gq KD i sn : Nat} {k : Wd} {t1 t : Wd} {colsv szv seen : Value} {N : Wd → Int} {Q : Wd → Bool × Nat × Nat} {acc : Acc} {zs : List Int} {G : Option Acc} {os : List (Option (Wd × Wd))} {okb c1 c2 : Bool} {qq : Bool × Nat × Nat} {x0 x1 x2 x3 x5 x6 x7 x12 x13 x14 x20 x21 x22 x23 x24 x25 x26 x27 x28 x29 x30 x31 x32 x33 x34 x35 x36 x37 x38 x39 x40 x41 x42 x43 x44 x45 x46 x47 x48 x49 x50 x51 x52 x53 x54 x55 x56 x57 x58 x59 x60 x61 x62 x63 x64 x65 x66 x67 x68 x69 x70 x71 x72 x73 x74 x75 x76 x77 x78 x79 x80 x81 x82 x83 x84 x85 x86 x87 x88 x89 x90 x91 x92 x93 x94 x95 x96 x97 x98 x99 x100 x101 x102 x103 x104 x105 x106 x107 x108 x109 x110 x111 x112 x113 x114 x115 x116 x117 x118 x119 x120 x121 x122 x123 x124 x125 x126 x127 x128 x129 x130 x131 x132 x133 x134 x135 x137 x138 x139 x140 x141 x142 x143 x144 x145 x146 x147 x148 x149 x150 x151 x152 x153 x154 x155 x156 x157 x158 x159 x160 x161 x162 x163 x164 x165 x166 x167 x168 x169 x170 x171 x172 x173 x174 x175 x176 x177 x178 x179 x180 x181 x182 x183 x184 x185 x186 x187 x188 x189 x190 x191 x192 x193 x194 x195 x196 x197 x198 x199 x200 x201 x202 x203 x204 x205 x206 x207 x208 x209 x210 x211 x212 x213 x214 x215 x216 x217 x218 x219 x220 x221 x222 x223 x224 x225 x226 x227 x228 x229 x230 x231 x232 x233 x234 x235 x236 x237 x238 x239 x240 x241 x242 x243 x244 x245 x246 x247 x248 x249 x250 x251 x252 x253 x254 x255 x256 x257 x258 x259 x260 x261 x262 x263 x264 x265 x266 x267 x268 x269 x270 x271 x272 x273 x274 x275 x276 x277 x278 x279 x280 x281 x282 x283 x284 x285 x286 x287 x288 x289 x290 x291 x292 x293 x294 x295 x296 x297 : Value}
    (hkm : k ∈ keysL) (hI4 : StI wv wa gs gr wv.heap.size KD (.string ⟨⟨t1⟩⟩) colsv szv N Q seen (keysOf acc ++ [k]) zs) (hQb : Blk wa gq 32 #[.bool qq.1, .int .u64 (qq.2.1 : Int), .string ⟨⟨[]⟩⟩, .int .u64 (qq.2.2 : Int), .string ⟨⟨[]⟩⟩]) (hgq : wv.heap.size ≤ gq) (HSN : sn ≤ 1234567890) (htm : t ∈ valsL)
    (hsn : snum t = sn) (hc1 : (numT t).isSome = c1) (hqq : (fracT t).getD (false, 0, 0) = qq) (hc2 : (fracT t).isSome = c2) (hsem : Sem G os i acc N Q okb zs)
    (hdr : runW acc (os.drop i) = if okW acc (some (k, t)) = true then runW (addW acc (some (k, t))) (os.drop (i + 1)) else none) (hks : k ∉ keysOf acc) (hzl : zs.length ≤ 1000) {R : Exit → Act → World → Prop} (hRp : ∀ (c : List PanicEntry) (a : Act) (d : Option Tmp) (v : Value) (w : World), R (.panic c) (a.put d v) w → R (.panic c) a w)
    (hR : ∀ (N' : Wd → Int) (Q' : Wd → Bool × Nat × Nat) (szv' : Value) (zs' : List Int) (is : Bool) (y20 y21 y22 y23 y137 y138 y139 y140 y141 y142 y143 y144 y145 y146 y147 y148 y149 y150 y151 y152 y153 y154 y155 y156 y157 y158 y159 y160 y161 y162 y163 y164 y165 y166 y167 y168 y169 y170 y171 y172 y173 y174 y175 y176 y177 y178 y179 y180 y181 y182 y183 y184 y185 y186 y187 y188 y189 y190 y191 y192 y193 y194 y195 y196 y197 y198 y199 y200 y201 y202 y203 y204 y205 y206 y207 y208 y209 y210 y211 y212 y213 y214 y215 y216 y217 y218 y219 y220 y221 y222 y223 y224 y225 y226 y227 y228 y229 y230 y231 y232 y233 y234 y235 y236 y237 y238 y239 y240 y241 y242 y243 y244 y245 y246 y247 y248 y249 y250 y251 y252 y253 y254 y255 y256 y257 y258 y259 y260 y261 y262 y263 y264 y265 y266 y267 y268 y269 y270 y271 y272 y273 y274 y275 y276 y277 : Value) (w' : World), Sem G os (i + 1) (acc ++ [(k, t)]) N' Q' (okb && is) zs' → StI wv w' gs gr wv.heap.size KD (.string ⟨⟨t1⟩⟩) colsv szv' N' Q' seen (keysOf acc ++ [k]) zs' → zs'.length ≤ zs.length + 3 → R .normal ⟨#[x0, x1, x2, x3, .pointer (some ⟨gs, 0, none⟩), x5, x6, x7, .pointer (some ⟨gr, 0, none⟩), .pointer (some ⟨gr + 1, 0, none⟩), .pointer (some ⟨gr + 1 + 1, 0, none⟩), .pointer (some ⟨gr + 1 + 1 + 1, 0, none⟩), x12, x13, x14, .string ⟨⟨t⟩⟩, .int .i64 (sn : Int), .bool is, .pointer (some ⟨gq, 0, none⟩), .bool c2, y20, y21, y22, y23, x24, x25, x26, x27, x28, x29, x30, x31, x32, x33, x34, x35, x36, x37, x38, x39, x40, x41, x42, x43, x44, x45, x46, x47, x48, x49, x50, x51, x52, x53, x54, x55, x56, x57, x58, x59, x60, x61, x62, x63, x64, x65, x66, x67, x68, x69, x70, x71, x72, x73, x74, x75, x76, x77, x78, x79, x80, x81, x82, x83, x84, x85, x86, x87, x88, x89, x90, x91, x92, x93, x94, x95, x96, x97, x98, x99, x100, x101, x102, x103, x104, x105, x106, x107, x108, x109, x110, x111, x112, x113, x114, x115, x116, x117, x118, x119, x120, x121, x122, x123, x124, x125, x126, x127, x128, x129, x130, x131, x132, x133, x134, x135, .string ⟨⟨k⟩⟩, y137, y138, y139, y140, y141, y142, y143, y144, y145, y146, y147, y148, y149, y150, y151, y152, y153, y154, y155, y156, y157, y158, y159, y160, y161, y162, y163, y164, y165, y166, y167, y168, y169, y170, y171, y172, y173, y174, y175, y176, y177, y178, y179, y180, y181, y182, y183, y184, y185, y186, y187, y188, y189, y190, y191, y192, y193, y194, y195, y196, y197, y198, y199, y200, y201, y202, y203, y204, y205, y206, y207, y208, y209, y210, y211, y212, y213, y214, y215, y216, y217, y218, y219, y220, y221, y222, y223, y224, y225, y226, y227, y228, y229, y230, y231, y232, y233, y234, y235, y236, y237, y238, y239, y240, y241, y242, y243, y244, y245, y246, y247, y248, y249, y250, y251, y252, y253, y254, y255, y256, y257, y258, y259, y260, y261, y262, y263, y264, y265, y266, y267, y268, y269, y270, y271, y272, y273, y274, y275, y276, y277, x278, x279, x280, x281, x282, x283, x284, x285, x286, x287, x288, x289, x290, x291, x292, x293, x294, x295, x296, x297], []⟩ w') :
    SWC.wp Tryz.prog R ⟨#[x0, x1, x2, x3, .pointer (some ⟨gs, 0, none⟩), x5, x6, x7, .pointer (some ⟨gr, 0, none⟩), .pointer (some ⟨gr + 1, 0, none⟩), .pointer (some ⟨gr + 1 + 1, 0, none⟩), .pointer (some ⟨gr + 1 + 1 + 1, 0, none⟩), x12, x13, x14, .string ⟨⟨t⟩⟩, .int .i64 (sn : Int), .bool c1, .pointer (some ⟨gq, 0, none⟩), .bool c2, x20, x21, x22, x23, x24, x25, x26, x27, x28, x29, x30, x31, x32, x33, x34, x35, x36, x37, x38, x39, x40, x41, x42, x43, x44, x45, x46, x47, x48, x49, x50, x51, x52, x53, x54, x55, x56, x57, x58, x59, x60, x61, x62, x63, x64, x65, x66, x67, x68, x69, x70, x71, x72, x73, x74, x75, x76, x77, x78, x79, x80, x81, x82, x83, x84, x85, x86, x87, x88, x89, x90, x91, x92, x93, x94, x95, x96, x97, x98, x99, x100, x101, x102, x103, x104, x105, x106, x107, x108, x109, x110, x111, x112, x113, x114, x115, x116, x117, x118, x119, x120, x121, x122, x123, x124, x125, x126, x127, x128, x129, x130, x131, x132, x133, x134, x135, .string ⟨⟨k⟩⟩, x137, x138, x139, x140, x141, x142, x143, x144, x145, x146, x147, x148, x149, x150, x151, x152, x153, x154, x155, x156, x157, x158, x159, x160, x161, x162, x163, x164, x165, x166, x167, x168, x169, x170, x171, x172, x173, x174, x175, x176, x177, x178, x179, x180, x181, x182, x183, x184, x185, x186, x187, x188, x189, x190, x191, x192, x193, x194, x195, x196, x197, x198, x199, x200, x201, x202, x203, x204, x205, x206, x207, x208, x209, x210, x211, x212, x213, x214, x215, x216, x217, x218, x219, x220, x221, x222, x223, x224, x225, x226, x227, x228, x229, x230, x231, x232, x233, x234, x235, x236, x237, x238, x239, x240, x241, x242, x243, x244, x245, x246, x247, x248, x249, x250, x251, x252, x253, x254, x255, x256, x257, x258, x259, x260, x261, x262, x263, x264, x265, x266, x267, x268, x269, x270, x271, x272, x273, x274, x275, x276, x277, x278, x279, x280, x281, x282, x283, x284, x285, x286, x287, x288, x289, x290, x291, x292, x293, x294, x295, x296, x297], []⟩ wa := by
  simp only [keysL, List.mem_cons, List.not_mem_nil, or_false] at hkm
  rcases hkm with rfl | rfl | rfl | rfl | rfl | rfl | rfl | rfl | rfl | rfl | rfl | rfl | rfl | rfl | rfl | rfl | rfl | rfl | rfl | rfl | rfl | rfl | rfl
  · exact sw_how hI4 hQb hgq HSN htm hsn hc1 hqq hc2 hsem hdr hks hzl hRp hR
  · exact sw_axes hI4 hQb hgq HSN htm hsn hc1 hqq hc2 hsem hdr hks hzl hRp hR
  · exact sw_count hI4 hQb hgq HSN htm hsn hc1 hqq hc2 hsem hdr hks hzl hRp hR
  · exact sw_seed hI4 hQb hgq HSN htm hsn hc1 hqq hc2 hsem hdr hks hzl hRp hR
  · exact sw_bend hI4 hQb hgq HSN htm hsn hc1 hqq hc2 hsem hdr hks hzl hRp hR
  · exact sw_bits hI4 hQb hgq HSN htm hsn hc1 hqq hc2 hsem hdr hks hzl hRp hR
  · exact sw_deep hI4 hQb hgq HSN htm hsn hc1 hqq hc2 hsem hdr hks hzl hRp hR
  · exact sw_least hI4 hQb hgq HSN htm hsn hc1 hqq hc2 hsem hdr hks hzl hRp hR
  · exact sw_trees hI4 hQb hgq HSN htm hsn hc1 hqq hc2 hsem hdr hks hzl hRp hR
  · exact sw_some hI4 hQb hgq HSN htm hsn hc1 hqq hc2 hsem hdr hks hzl hRp hR
  · exact sw_rounds hI4 hQb hgq HSN htm hsn hc1 hqq hc2 hsem hdr hks hzl hRp hR
  · exact sw_loss hI4 hQb hgq HSN htm hsn hc1 hqq hc2 hsem hdr hks hzl hRp hR
  · exact sw_steps hI4 hQb hgq HSN htm hsn hc1 hqq hc2 hsem hdr hks hzl hRp hR
  · exact sw_batch hI4 hQb hgq HSN htm hsn hc1 hqq hc2 hsem hdr hks hzl hRp hR
  · exact sw_by hI4 hQb hgq HSN htm hsn hc1 hqq hc2 hsem hdr hks hzl hRp hR
  · exact sw_span hI4 hQb hgq HSN htm hsn hc1 hqq hc2 hsem hdr hks hzl hRp hR
  · exact sw_gain hI4 hQb hgq HSN htm hsn hc1 hqq hc2 hsem hdr hks hzl hRp hR
  · exact sw_rate hI4 hQb hgq HSN htm hsn hc1 hqq hc2 hsem hdr hks hzl hRp hR
  · exact sw_keep hI4 hQb hgq HSN htm hsn hc1 hqq hc2 hsem hdr hks hzl hRp hR
  · exact sw_at hI4 hQb hgq HSN htm hsn hc1 hqq hc2 hsem hdr hks hzl hRp hR
  · exact sw_sizes hI4 hQb hgq HSN htm hsn hc1 hqq hc2 hsem hdr hks hzl hRp hR
  · exact sw_none hI4 hQb hgq HSN htm hsn hc1 hqq hc2 hsem hdr hks hzl hRp hR
  · exact sw_empty hI4 hQb hgq HSN htm hsn hc1 hqq hc2 hsem hdr hks hzl hRp hR
end Go.Proofs.YtelehhfnomdneaaGreatDoor.Sp
namespace Go.Proofs.YtelehhfnomdneaaGreatDoor.Sp
open Go Go.RowKit Ut Tc

def splice (old vs : List Value) (o : Nat) : List Value := old.take o ++ vs ++ old.drop (o + vs.length)
theorem wp_store_seg {o : Oper} {a : Act} {K : Act → World → Prop} {Q : Exit → Act → World → Prop} (w : World) (t : TypeId) (p v : Operand) (ho : o.op = .store t p v) (g off : Nat) (old vs : List Value) (t' : TypeId) (hp : a.eval p = .pointer (some ⟨g, off, none⟩)) (hv : a.eval v = .agg ⟨vs⟩)
    (hg : w.heap[g]? = some (.cells ⟨old⟩ t' (0, 0))) (hi : (Tryz.prog.info? t).map (·.size) = some vs.length) (hs : off + vs.length ≤ old.length) (h1 : ∀ u ∈ vs, u.oneCell' = true)
    (hK : ∀ w', Blk w' g t' ⟨splice old vs off⟩ → Alt w w' (fun k => k = g) → w'.heap.size = w.heap.size → K (a.put o.dst undef) w') : Oper.wp Tryz.prog o a w K Q := by
  have hrun0 := run_storeCells_at (P := Tryz.prog) g off t' vs 0 ⟨old⟩ w hg (by simpa using hs) h1
  have hrun : (storeVar t ⟨g, off, none⟩ (.agg ⟨vs⟩)).run Tryz.prog w = .ok () (w.setRow g ⟨splice old vs off⟩) := by
    cases hq : Tryz.prog.info? t with
    | none => simp [hq] at hi
    | some i =>
      have hsz : vs.length = i.size := by simp [hq] at hi; omega
      simpa [storeVar, sizeOf, typeInfo, hq, Value.cells, hsz, splice] using hrun0
  obtain ⟨h2, h3, h4⟩ := setRow_alt (cs := ⟨splice old vs off⟩) hg
  unfold Oper.wp
  simp [execOp, ho, hp, hv, Instr.storeAt, Instr.sureAddr, hrun, Result.andThen]
  exact hK _ h2 h3 h4
theorem step_store_seg {ops : Array Oper} {o : Oper} {a : Act} {K : Act → World → Prop} {Q : Exit → Act → World → Prop} {E : Prop} (w : World) (hgd : o.guard = none) (t : TypeId) (p v : Operand) (ho : o.op = .store t p v) (g off : Nat) (old vs : List Value) (t' : TypeId) (hp : a.eval p = .pointer (some ⟨g, off, none⟩)) (hv : a.eval v = .agg ⟨vs⟩)
    (hg : w.heap[g]? = some (.cells ⟨old⟩ t' (0, 0))) (hi : (Tryz.prog.info? t).map (·.size) = some vs.length) (hs : off + vs.length ≤ old.length) (h1 : ∀ u ∈ vs, u.oneCell' = true)
    (hK : ∀ w', Blk w' g t' ⟨splice old vs off⟩ → Alt w w' (fun k => k = g) → w'.heap.size = w.heap.size → K (a.put o.dst undef) w') : if Region.wanted o (yielded ops a.tmps) = true then Oper.wp Tryz.prog o a w K Q else E := by
  have hw : Region.wanted o (yielded ops a.tmps) = true := by simp [Region.wanted, hgd]
  rw [if_pos hw]
  exact wp_store_seg w t p v ho g off old vs t' hp hv hg hi hs h1 hK
theorem infoF : (Tryz.prog.info? 36).map (·.size) = some 10 := by kernel_rfl
theorem infoR : (Tryz.prog.info? 34).map (·.size) = some 7 := by kernel_rfl
theorem infoB : (Tryz.prog.info? 38).map (·.size) = some 19 := by kernel_rfl
theorem infoD : (Tryz.prog.info? 40).map (·.size) = some 14 := by kernel_rfl
section
variable {N : Wd → Int} {Q : Wd → Bool × Nat × Nat}
theorem oneR : ∀ u ∈ stR N Q, u.oneCell' = true := by simp [stR, qOf, qv, iv, Value.oneCell']
theorem oneF : ∀ u ∈ splice (stF N) (stR N Q) 3, u.oneCell' = true := by simp [splice, stF, z7, stR, qOf, qv, iv, uv, Value.oneCell']
theorem oneB : ∀ u ∈ splice (stB N Q) (stR N Q) 12, u.oneCell' = true := by simp [splice, stB, z7, stR, qOf, qv, iv, Value.oneCell']
theorem oneD : ∀ u ∈ stD N Q, u.oneCell' = true := by simp [stD, qOf, qv, iv, uv, Value.oneCell']
end
/- The whole spec at the end. -/
theorem whole_eq (KD : Nat) (goal cols szv : Value) (acc : Acc) :
    splice (splice (splice (splice (stS KD goal cols szv (nI acc) (fD acc)) (stR (nI acc) (fD acc)) 17) (splice (stF (nI acc)) (stR (nI acc) (fD acc)) 3) 24) (splice (stB (nI acc) (fD acc)) (stR (nI acc) (fD acc)) 12) 34) (stD (nI acc) (fD acc)) 56 = specL KD goal cols szv (nL acc) (fD acc) := by kernel_rfl
end Go.Proofs.YtelehhfnomdneaaGreatDoor.Sp
namespace Go.Proofs.YtelehhfnomdneaaGreatDoor.Sp
open Go Go.RowKit Ut Tc

def kindsW : List Wd := [[116, 114, 101, 101], [102, 111, 114, 101, 115, 116], [98, 111, 111, 115, 116], [108, 105, 110, 101], [109, 101, 97, 110], [110, 101, 97, 114], [98, 97, 121, 101, 115], [110, 101, 116], [115, 116, 114, 101, 101, 116]]
def SSpecOut (w : World) (t0 t1 t2 : Wd) (os : List (Option (Wd × Wd))) (z : Array Value) (e : Ending) (w' : World) : Prop :=
  Below w.heap.size w w' ∧ match goodP t0 t1 t2 os with
  | none => e = .returned (.tuple #[.agg z, .bool false])
  | some acc => ∃ cols sz, e = .returned (.tuple #[.agg ⟨specL ((pickP t0 kindsCh).getD 0) (.string ⟨⟨t1⟩⟩) cols sz (nL acc) (fD acc)⟩, .bool true]) ∧ w'.ownsRow w.heap.size 9 1 cols (cuts [] t2).length ((cuts [] t2).map sv) ∧ w'.ownsRow w.heap.size 3 1 sz (sizesP acc).length (nat64 (sizesP acc))
theorem _root_.Go.Proofs.YtelehhfnomdneaaGreatDoor.Ut.Blk.undrew {w : World} {g : Nat} {t : TypeId} {cs : Array Value} (h : Blk w g t cs) : Blk w.drew g t cs := h
theorem _root_.Go.Proofs.YtelehhfnomdneaaGreatDoor.Ut.Blk.new_2 (w : World) (o : Obj) (t : TypeId) (cs : Array Value) : Blk ((w.alloc o).alloc (.cells cs t)) (w.heap.size + 1) t cs := by
  have := Blk.new (w.alloc o) t cs
  rwa [World.size_alloc] at this
theorem SSpecOut.bad {w w' : World} {t0 t1 t2 : Wd} {os : List (Option (Wd × Wd))} {z : Array Value} {e : Ending} (h : goodP t0 t1 t2 os = none) (hb : Below w.heap.size w w') (he : e = .returned (.tuple #[.agg z, .bool false])) : SSpecOut w t0 t1 t2 os z e w' := by
  unfold SSpecOut
  rw [h]
  exact ⟨hb, he⟩
theorem ba_get {b : ByteArray} {i : Nat} (h : i < b.size) : b.data.toList[i]'h = b[i] := by simp; rfl
theorem ne61 {x : UInt8} (h : x ≠ 61) : ((x.toNat : Int) == 61) = false := by
  have : x.toNat ≠ 61 := fun e => h (UInt8.toNat_inj.1 (by simpa using e))
  simp; omega
theorem word_pos {b : ByteArray} {o : Option (Wd × Wd)} (h : IsWord b o) : ∃ pos, pos ≤ b.size ∧ Hid (∀ (q : Nat) (hq : q < b.size), q < pos → ((b[q].toNat : Int) == 61) = false) ∧ Hid (∀ hq : pos < b.size, ((b[pos].toNat : Int) == 61) = true) ∧
    Hid (match o with
    | none => pos = b.size
    | some p => pos = p.1.length ∧ pos < b.size ∧ b.extract 0 pos = ⟨⟨p.1⟩⟩ ∧ b.extract (pos + 1) b.size = ⟨⟨p.2⟩⟩) := by
  cases o with
  | none =>
    refine ⟨b.size, Nat.le_refl _, Lib.hid fun q hq _ => ne61 ?_, Lib.hid fun hq => absurd hq (Nat.lt_irrefl _), rfl⟩
    rw [← ba_get hq]
    exact h.1 _ (List.getElem_mem _)
  | some p =>
    obtain ⟨h1, h2, h3⟩ := h
    have hsz : b.size = p.1.length + 1 + p.2.length := by
      have : b.data.toList.length = b.size := rfl
      rw [← this, h1]; simp; omega
    refine ⟨p.1.length, by omega, Lib.hid fun q hq hp => ne61 ?_, Lib.hid fun hq => ?_, rfl, by omega, of_data ?_, of_data ?_⟩
    · rw [← ba_get hq]
      have : b.data.toList[q]'hq = p.1[q] := by
        simp only [h1]
        exact List.getElem_append_left hp
      rw [this]
      exact keys_noE _ h2 _ (List.getElem_mem _)
    · have : b[p.1.length] = 61 := by
        rw [← ba_get hq]
        simp only [h1]
        rw [List.getElem_append_right (Nat.le_refl _)]
        simp
      rw [this]; rfl
    · rw [ext_data, h1]; simp
    · rw [ext_data, h1]
      have e : b.size = (p.1 ++ 61 :: p.2).length := by rw [hsz]; simp; omega
      rw [e, List.take_length, List.drop_append, List.drop_eq_nil_of_le (by omega), show p.1.length + 1 - p.1.length = 1 by omega]; rfl
theorem SInv.new {wr : World} {gs : Nat} {S : Array Value} (h : Blk wr gs 42 S) : SInv ((((wr.alloc (.cells ⟨stR (nI []) (fD [])⟩ 34)).alloc (.cells ⟨stF (nI [])⟩ 36)).alloc (.cells ⟨stB (nI []) (fD [])⟩ 38)).alloc (.cells ⟨stD (nI []) (fD [])⟩ 40)) ((((wr.alloc (.cells ⟨stR (nI []) (fD [])⟩ 34)).alloc (.cells ⟨stF (nI [])⟩ 36)).alloc (.cells ⟨stB (nI []) (fD [])⟩ 38)).alloc (.cells ⟨stD (nI []) (fD [])⟩ 40)) gs wr.heap.size (wr.heap.size + 1) (wr.heap.size + 1 + 1) (wr.heap.size + 1 + 1 + 1) ((((wr.alloc (.cells ⟨stR (nI []) (fD [])⟩ 34)).alloc (.cells ⟨stF (nI [])⟩ 36)).alloc (.cells ⟨stB (nI []) (fD [])⟩ 38)).alloc (.cells ⟨stD (nI []) (fD [])⟩ 40)).heap.size S ⟨stR (nI []) (fD [])⟩ ⟨stF (nI [])⟩ ⟨stB (nI []) (fD [])⟩ ⟨stD (nI []) (fD [])⟩ (.slice none 0 0) (.slice none 0 0) (keysOf []) [] := by
  have hlt := h.lt
  generalize (⟨stR (nI []) (fD [])⟩ : Array Value) = R
  generalize (⟨stF (nI [])⟩ : Array Value) = F
  generalize (⟨stB (nI []) (fD [])⟩ : Array Value) = B
  generalize (⟨stD (nI []) (fD [])⟩ : Array Value) = D
  have s1 : (wr.alloc (.cells R 34)).heap.size = wr.heap.size + 1 := World.size_alloc _ _
  have s2 : ((wr.alloc (.cells R 34)).alloc (.cells F 36)).heap.size = wr.heap.size + 1 + 1 := (World.size_alloc _ _).trans (by rw [s1])
  have s3 : (((wr.alloc (.cells R 34)).alloc (.cells F 36)).alloc (.cells B 38)).heap.size = wr.heap.size + 1 + 1 + 1 := (World.size_alloc _ _).trans (by rw [s2])
  have s4 : ((((wr.alloc (.cells R 34)).alloc (.cells F 36)).alloc (.cells B 38)).alloc (.cells D 40)).heap.size = wr.heap.size + 1 + 1 + 1 + 1 := (World.size_alloc _ _).trans (by rw [s3])
  have b2 := Blk.new (wr.alloc (.cells R 34)) 36 F
  have b3 := Blk.new ((wr.alloc (.cells R 34)).alloc (.cells F 36)) 38 B
  have b4 := Blk.new (((wr.alloc (.cells R 34)).alloc (.cells F 36)).alloc (.cells B 38)) 40 D
  rw [s1] at b2
  rw [s2] at b3
  rw [s3] at b4
  exact ⟨Alt.refl _ _, (((h.alloc _).alloc _).alloc _).alloc _, (((Blk.new wr _ _).alloc _).alloc _).alloc _, (b2.alloc _).alloc _, b3.alloc _, b4, World.ownsRow_nil _ _ _ _, World.ownsRow_nil _ _ _ _, ⟨hlt, by omega, by omega, by omega, by rw [s4]; omega, Nat.le_refl _⟩⟩
structure PreS (w wx : World) (gs KD : Nat) (t1 : Wd) (cols : Value) (ts : List Wd) (z : Array Value) : Prop where
  bel : Below w.heap.size w wx
  bz : Blk wx w.heap.size 42 z
  bs : Blk wx gs 42 ⟨stS KD (.string ⟨⟨t1⟩⟩) cols (.slice none 0 0) z0 q0⟩
  lt : w.heap.size < gs
  own : wx.ownsRow (w.heap.size + 1) 9 1 cols ts.length (ts.map sv)
theorem PreS.below {w wx w' : World} {gs KD : Nat} {t1 : Wd} {cols : Value} {ts : List Wd} {z : Array Value} (h : PreS w wx gs KD t1 cols ts z) (hb : Below wx.heap.size wx w') : PreS w w' gs KD t1 cols ts z :=
  ⟨h.bel.trans (hb.mono h.bel.size), h.bz.keep hb, h.bs.keep hb, h.lt, own_belowS h.own hb⟩
theorem PreS.cells {w wx : World} {gs KD : Nat} {t1 : Wd} {cols : Value} {ts : List Wd} {z : Array Value} (h : PreS w wx gs KD t1 cols ts z) : wx.cell? ⟨gs, 0, none⟩ = some (.int .i64 (KD : Int)) ∧ wx.cell? ⟨gs, 4, none⟩ = some (.string ⟨⟨t1⟩⟩) ∧ wx.cell? ⟨gs, 5, none⟩ = some cols := ⟨h.bs.cell 0, h.bs.cell 4, h.bs.cell 5⟩
theorem own_alt_ne {w w' : World} {base n size G : Nat} {e t : TypeId} {v : Value} {xs : List Value} {cs : Array Value} (h : w.ownsRow base e size v n xs) (ha : Alt w w' (fun k => k = G)) (hG : Blk w G t cs) (hne : t ≠ e) : w'.ownsRow base e size v n xs := by
  refine ⟨h.1, ?_⟩
  rcases h.2 with h2 | ⟨g, cap, cur, rfl, h3, h4, h5⟩
  · exact .inl h2
  · refine .inr ⟨g, cap, cur, rfl, h3, (ha.block g (lt_of_block h4) (fun eg => ?_)).trans h4, h5⟩
    subst eg
    unfold Blk at hG
    rw [hG] at h4
    injection h4 with h4
    injection h4 with _ h4
    exact hne h4
theorem kinds_which : ∀ t ∈ kindsL, whichN t kindsW = (pickP t kindsCh).getD 0 ∧ (pickP t kindsCh).isSome = decide (0 < whichN t kindsW) ∧ whichN t kindsW < 100 := by decide
noncomputable def LOOP2 : Code := (Tryz.f7.body.bind (findB 2)).getD .skip
end Go.Proofs.YtelehhfnomdneaaGreatDoor.Sp
namespace Go.Proofs.YtelehhfnomdneaaGreatDoor.Sp
open Go Go.RowKit Ut Tc

def findR (id : Nat) : Code → Option Code
  | .region i o d => if i = id then some (.region i o d) else none
  | .seq a b => match findR id a with
    | some c => some c
    | none => findR id b
  | .cond _ a b => match findR id a with
    | some c => some c
    | none => findR id b
  | .block _ b => findR id b
  | .loop b => findR id b
  | .scope b => findR id b
  | _ => none
theorem infoS : (Tryz.prog.info? 42).map (·.size) = some 70 := by kernel_rfl
noncomputable def REG84 : Code := (Tryz.f7.body.bind (findR 84)).getD .skip
noncomputable def REG85 : Code := (Tryz.f7.body.bind (findR 85)).getD .skip
noncomputable def REG86 : Code := (Tryz.f7.body.bind (findR 86)).getD .skip
structure Put (a a' : Act) (d : Nat) (v : Value) : Prop where
  size : a'.tmps.size = a.tmps.size
  defers : a'.defers = a.defers
  same : a'.eval (.tmp d) = v
  ne : ∀ j, j ≠ d → a'.eval (.tmp j) = a.eval (.tmp j)
theorem Put.mk' (a : Act) (d : Nat) (v : Value) (h : d < a.tmps.size) : Put a (a.put (some d) v) d v :=
  ⟨Act.size_put _ _ _, Act.defers_put' _ _ _, Act.eval_put_same _ _ _ h, fun _j hj => Act.eval_put_ne _ _ _ _ (Ne.symm hj)⟩
section
variable {md : Region.Mode} {ops : Array Oper} {Q : Exit → Act → World → Prop} {S : World → Prop}
theorem tk_row {i : Nat} {oi : Oper} {fuel : Nat} {listed : Array Bool} {a : Act} {w : World} {t : TypeId} {p : Operand} {g d : Nat} {cs : Array Value} {t' : TypeId} {ds : TypeDesc}
    (hi : ops[i]? = some oi) (hs : Region.noSelect ops = true) (hf : Region.free md ops listed i = true) (hr : (Region.ready md ops listed).contains i = true)
    (hRp : ∀ c (a : Act) d v w, Q (.panic c) (a.put d v) w → Q (.panic c) a w) (hgd : oi.guard = none) (ho : oi.op = .load t p) (hdst : oi.dst = some d) (hp : a.eval p = .pointer (some ⟨g, 0, none⟩))
    (hu : Tryz.prog.underlying t = some ds) (hds : (match ds with | .struct _ | .array _ _ => true | _ => false) = true) (hin : (Tryz.prog.info? t).map (·.size) = some cs.size)
    (hSg : ∀ w, S w → Blk w g t' cs) (hd : d < a.tmps.size) (hS : S w)
    (hK : ∀ a', Put a a' d (.agg cs) → wpAnyH Tryz.prog md ops Q S fuel (listed.setIfInBounds i true) a' w) : wpAnyH Tryz.prog md ops Q S (fuel + 1) listed a w := by
  refine wpAnyH_take (v := .agg cs) hi hs hf hr (fun c a w h => hRp c a _ _ w h) (Or.inl ⟨by simp [Region.wanted, hgd], fun w hw => ?_⟩) hS ?_
  · have hrun := run_loadVar_row (P := Tryz.prog) w g t' t cs (0, 0) ds (hSg w hw) hu (by cases ds <;> first | rfl | cases hds) hin
    simp [execOp, ho, hp, Instr.loadAt, Instr.sureAddr, hrun, Result.andThen]
  · rw [hdst]
    exact hK _ (Put.mk' a d _ hd)
theorem tk_field {i : Nat} {oi : Oper} {fuel : Nat} {listed : Array Bool} {a : Act} {w : World} {s : TypeId} {p : Operand} {f g d m : Nat}
    (hi : ops[i]? = some oi) (hs : Region.noSelect ops = true) (hf : Region.free md ops listed i = true) (hr : (Region.ready md ops listed).contains i = true)
    (hRp : ∀ c (a : Act) d v w, Q (.panic c) (a.put d v) w → Q (.panic c) a w) (hgd : oi.guard = none) (ho : oi.op = .fieldAddr s p f) (hdst : oi.dst = some d) (hp : a.eval p = .pointer (some ⟨g, 0, none⟩))
    (hrun : ∀ w, (Instr.fieldAt s (.pointer (some ⟨g, 0, none⟩)) f).run Tryz.prog w = .ok (.pointer (some ⟨g, m, none⟩)) w) (hd : d < a.tmps.size) (hS : S w)
    (hK : ∀ a', Put a a' d (.pointer (some ⟨g, m, none⟩)) → wpAnyH Tryz.prog md ops Q S fuel (listed.setIfInBounds i true) a' w) : wpAnyH Tryz.prog md ops Q S (fuel + 1) listed a w := by
  refine wpAnyH_take (v := .pointer (some ⟨g, m, none⟩)) hi hs hf hr (fun c a w h => hRp c a _ _ w h) (Or.inl ⟨by simp [Region.wanted, hgd], fun w hw => ?_⟩) hS ?_
  · have hr1 := hrun w
    simp [execOp, ho, hp, hr1, Result.andThen]
  · rw [hdst]
    exact hK _ (Put.mk' a d _ hd)
theorem tk_store {i : Nat} {oi : Oper} {fuel : Nat} {listed : Array Bool} {a : Act} {w : World} {t : TypeId} {p v : Operand} {g off : Nat} {old vs : List Value} {t' : TypeId} (hr : Region.ready md ops listed = [i])
    (hi : ops[i]? = some oi) (hgd : oi.guard = none) (ho : oi.op = .store t p v) (hdst : oi.dst = none) (hp : a.eval p = .pointer (some ⟨g, off, none⟩)) (hv : a.eval v = .agg ⟨vs⟩)
    (hg : Blk w g t' ⟨old⟩) (hin : (Tryz.prog.info? t).map (·.size) = some vs.length) (hs : off + vs.length ≤ old.length) (h1 : ∀ u ∈ vs, u.oneCell' = true)
    (hS : ∀ w', Alt w w' (fun k => k = g) → S w')
    (hK : ∀ w', Blk w' g t' ⟨splice old vs off⟩ → Alt w w' (fun k => k = g) → w'.heap.size = w.heap.size → S w' → wpAnyH Tryz.prog md ops Q S fuel (listed.setIfInBounds i true) a w') : wpAnyH Tryz.prog md ops Q S (fuel + 1) listed a w := by
  refine wpAnyH_ready (rs := [i]) hr (by simp) ?_
  refine AllReadyH.cons hi (fun K hK0 => ?_) AllReadyH.nil
  refine step_store_seg w hgd t p v ho g off old vs t' hp hv hg hin hs h1 fun w' hb ha hsz => ?_
  rw [hdst]
  exact hK0.out _ _ (hS w' ha) (fun hH => hK w' hb ha hsz hH)
end
set_option maxRecDepth 100000 in
theorem reg84 {Q : Exit → Act → World → Prop} {a : Act} {w : World} {gr gf gb : Nat} {R F B : List Value} (hRp : ∀ c (a : Act) d v w, Q (.panic c) (a.put d v) w → Q (.panic c) a w) (ha : 298 ≤ a.tmps.size) (e8 : a.eval (.tmp 8) = .pointer (some ⟨gr, 0, none⟩)) (e9 : a.eval (.tmp 9) = .pointer (some ⟨gf, 0, none⟩)) (e10 : a.eval (.tmp 10) = .pointer (some ⟨gb, 0, none⟩))
    (bR : Blk w gr 34 ⟨R⟩) (bF : Blk w gf 36 ⟨F⟩) (bB : Blk w gb 38 ⟨B⟩) (lR : R.length = 7) (lF : F.length = 10) (lB : B.length = 19) (oR : ∀ u ∈ R, u.oneCell' = true) (n1 : gr ≠ gf) (n2 : gr ≠ gb) (n3 : gf ≠ gb)
    (hQ : ∀ a' w', a'.tmps.size = a.tmps.size → a'.defers = a.defers → (∀ t : Nat, t < 285 → a'.eval (.tmp t) = a.eval (.tmp t)) → Blk w' gr 34 ⟨R⟩ → Blk w' gf 36 ⟨splice F R 3⟩ → Blk w' gb 38 ⟨splice B R 12⟩ → Alt w w' (fun k => k = gf ∨ k = gb) → Q .normal a' w') : REG84.wp Tryz.prog Q a w := by
  unfold REG84
  simp only [Tryz.f7, findR, Option.bind, Option.getD, Nat.reduceEqDiff, if_true, if_false]
  have bF0 := Blk.undrew bF
  have bB0 := Blk.undrew bB
  refine wp_region_held_drew (S := fun w' => Blk w' gr 34 ⟨R⟩) (by kernel_rfl) (Blk.undrew bR) (fun hH => ?_)
  refine tk_row (i := 0) (t' := 34) rfl (by kernel_rfl) (by kernel_rfl) (by kernel_rfl) hRp rfl rfl rfl e8 (Tryz.underlying34) rfl (by rw [infoR]; simp [lR]) (fun _ h => h) (by omega) hH fun a1 p1 => ?_
  have z1 := p1.size
  refine tk_row (i := 1) (t' := 34) rfl (by kernel_rfl) (by kernel_rfl) (by kernel_rfl) hRp rfl rfl rfl ((p1.ne _ (by decide)).trans e8) (Tryz.underlying34) rfl (by rw [infoR]; simp [lR]) (fun _ h => h) (by omega) hH fun a2 p2 => ?_
  have z2 := p2.size
  refine tk_field (i := 2) (g := gf) (m := 3) rfl (by kernel_rfl) (by kernel_rfl) (by kernel_rfl) hRp rfl rfl rfl ((p2.ne _ (by decide)).trans ((p1.ne _ (by decide)).trans e9)) (fun w => by go_simp) (by omega) hH fun a3 p3 => ?_
  have z3 := p3.size
  refine tk_store (i := 3) (t' := 36) (g := gf) (off := 3) (old := F) (vs := R) (by kernel_rfl) rfl rfl rfl rfl p3.same ((p3.ne _ (by decide)).trans ((p2.ne _ (by decide)).trans p1.same)) bF0 (by rw [infoR, lR]) (by omega) oR (fun w' ha => (ha.block gr (lt_of_block hH) n1).trans hH) fun w1 b1 t1 s1 h1 => ?_
  have bB1 : Blk w1 gb 38 ⟨B⟩ := (t1.block gb (lt_of_block bB0) (fun e => n3 e.symm)).trans bB0
  refine tk_field (i := 4) (g := gb) (m := 12) rfl (by kernel_rfl) (by kernel_rfl) (by kernel_rfl) hRp rfl rfl rfl ((p3.ne _ (by decide)).trans ((p2.ne _ (by decide)).trans ((p1.ne _ (by decide)).trans e10))) (fun w => by go_simp) (by omega) h1 fun a4 p4 => ?_
  have z4 := p4.size
  refine tk_store (i := 5) (t' := 38) (g := gb) (off := 12) (old := B) (vs := R) (by kernel_rfl) rfl rfl rfl rfl p4.same ((p4.ne _ (by decide)).trans ((p3.ne _ (by decide)).trans p2.same)) bB1 (by rw [infoR, lR]) (by omega) oR (fun w' ha => (ha.block gr (lt_of_block h1) n2).trans h1) fun w2 b2 t2 s2 h2 => ?_
  refine wpAnyH_done (by kernel_rfl) ?_ _
  refine hQ _ _ (by rw [p4.size, p3.size, p2.size, p1.size]) (by rw [p4.defers, p3.defers, p2.defers, p1.defers]) (fun t ht => by rw [p4.ne t (by omega), p3.ne t (by omega), p2.ne t (by omega), p1.ne t (by omega)]) h2 ((t2.block gf (lt_of_block b1) n3).trans b1) b2 (((Alt.refl w (fun k => k = gf ∨ k = gb)).drewN 1).trans ((t1.mono (fun k h => Or.inl h)).trans (t2.mono (fun k h => Or.inr h)) (fun _ _ h => h)) (fun _ _ h => h))
set_option maxRecDepth 100000 in
theorem reg85 {Q : Exit → Act → World → Prop} {a : Act} {w : World} {gr gf gb gd gs : Nat} {R F B D S : List Value} (hRp : ∀ c (a : Act) d v w, Q (.panic c) (a.put d v) w → Q (.panic c) a w) (ha : 298 ≤ a.tmps.size) (e8 : a.eval (.tmp 8) = .pointer (some ⟨gr, 0, none⟩)) (e9 : a.eval (.tmp 9) = .pointer (some ⟨gf, 0, none⟩)) (e10 : a.eval (.tmp 10) = .pointer (some ⟨gb, 0, none⟩)) (e11 : a.eval (.tmp 11) = .pointer (some ⟨gd, 0, none⟩)) (e4 : a.eval (.tmp 4) = .pointer (some ⟨gs, 0, none⟩)) (bR : Blk w gr 34 ⟨R⟩) (lR : R.length = 7) (bF : Blk w gf 36 ⟨F⟩) (lF : F.length = 10) (bB : Blk w gb 38 ⟨B⟩) (lB : B.length = 19) (bD : Blk w gd 40 ⟨D⟩) (lD : D.length = 14) (bS : Blk w gs 42 ⟨S⟩) (lS : S.length = 70) (oR : ∀ u ∈ R, u.oneCell' = true) (nR : gr ≠ gs) (oF : ∀ u ∈ F, u.oneCell' = true) (nF : gf ≠ gs) (oB : ∀ u ∈ B, u.oneCell' = true) (nB : gb ≠ gs) (oD : ∀ u ∈ D, u.oneCell' = true) (nD : gd ≠ gs)
    (hQ : ∀ a' w', a'.tmps.size = a.tmps.size → a'.defers = a.defers → (∀ t : Nat, t < 285 → a'.eval (.tmp t) = a.eval (.tmp t)) → Blk w' gs 42 ⟨splice (splice (splice (splice S R 17) F 24) B 34) D 56⟩ → Alt w w' (fun k => k = gs) → Q .normal a' w') : REG85.wp Tryz.prog Q a w := by
  unfold REG85
  simp only [Tryz.f7, findR, Option.bind, Option.getD, Nat.reduceEqDiff, if_true, if_false]
  have bS0 := Blk.undrew bS
  refine wp_region_held_drew (S := fun w' => Blk w' gr 34 ⟨R⟩ ∧ Blk w' gf 36 ⟨F⟩ ∧ Blk w' gb 38 ⟨B⟩ ∧ Blk w' gd 40 ⟨D⟩) (by kernel_rfl) ⟨Blk.undrew bR, Blk.undrew bF, Blk.undrew bB, Blk.undrew bD⟩ (fun hH => ?_)
  have keep : ∀ w1 w2, (Blk w1 gr 34 ⟨R⟩ ∧ Blk w1 gf 36 ⟨F⟩ ∧ Blk w1 gb 38 ⟨B⟩ ∧ Blk w1 gd 40 ⟨D⟩) → Alt w1 w2 (fun k => k = gs) → (Blk w2 gr 34 ⟨R⟩ ∧ Blk w2 gf 36 ⟨F⟩ ∧ Blk w2 gb 38 ⟨B⟩ ∧ Blk w2 gd 40 ⟨D⟩) := fun w1 w2 h ha => ⟨(ha.block _ (lt_of_block h.1) nR).trans h.1, (ha.block _ (lt_of_block h.2.1) nF).trans h.2.1, (ha.block _ (lt_of_block h.2.2.1) nB).trans h.2.2.1, (ha.block _ (lt_of_block h.2.2.2) nD).trans h.2.2.2⟩
  refine tk_row (i := 0) (t' := 34) rfl (by kernel_rfl) (by kernel_rfl) (by kernel_rfl) hRp rfl rfl rfl e8 (Tryz.underlying34) rfl (by rw [infoR]; simp [lR]) (fun _ h => h.1) (by omega) hH fun a1 p1 => ?_
  have z1 := p1.size
  refine tk_row (i := 1) (t' := 36) rfl (by kernel_rfl) (by kernel_rfl) (by kernel_rfl) hRp rfl rfl rfl ((p1.ne _ (by decide)).trans e9) (Tryz.underlying36) rfl (by rw [infoF]; simp [lF]) (fun _ h => h.2.1) (by omega) hH fun a2 p2 => ?_
  have z2 := p2.size
  refine tk_row (i := 2) (t' := 38) rfl (by kernel_rfl) (by kernel_rfl) (by kernel_rfl) hRp rfl rfl rfl ((p2.ne _ (by decide)).trans ((p1.ne _ (by decide)).trans e10)) (Tryz.underlying38) rfl (by rw [infoB]; simp [lB]) (fun _ h => h.2.2.1) (by omega) hH fun a3 p3 => ?_
  have z3 := p3.size
  refine tk_row (i := 3) (t' := 40) rfl (by kernel_rfl) (by kernel_rfl) (by kernel_rfl) hRp rfl rfl rfl ((p3.ne _ (by decide)).trans ((p2.ne _ (by decide)).trans ((p1.ne _ (by decide)).trans e11))) (Tryz.underlying40) rfl (by rw [infoD]; simp [lD]) (fun _ h => h.2.2.2) (by omega) hH fun a4 p4 => ?_
  have z4 := p4.size
  refine tk_field (i := 4) (g := gs) (m := 17) rfl (by kernel_rfl) (by kernel_rfl) (by kernel_rfl) hRp rfl rfl rfl ((p4.ne _ (by decide)).trans ((p3.ne _ (by decide)).trans ((p2.ne _ (by decide)).trans ((p1.ne _ (by decide)).trans e4)))) (fun w => by go_simp) (by omega) hH fun a5 p5 => ?_
  have z5 := p5.size
  refine tk_store (i := 5) (t' := 42) (g := gs) (off := 17) (old := S) (vs := R) (by kernel_rfl) rfl rfl rfl rfl p5.same ((p5.ne _ (by decide)).trans ((p4.ne _ (by decide)).trans ((p3.ne _ (by decide)).trans ((p2.ne _ (by decide)).trans p1.same)))) bS0 (by rw [infoR, lR]) (by simp [lR, lS]) oR (fun w' ha => keep _ _ hH ha) fun w1 b1 t1 s1 h1 => ?_
  refine tk_field (i := 6) (g := gs) (m := 24) rfl (by kernel_rfl) (by kernel_rfl) (by kernel_rfl) hRp rfl rfl rfl ((p5.ne _ (by decide)).trans ((p4.ne _ (by decide)).trans ((p3.ne _ (by decide)).trans ((p2.ne _ (by decide)).trans ((p1.ne _ (by decide)).trans e4))))) (fun w => by go_simp) (by omega) h1 fun a6 p6 => ?_
  have z6 := p6.size
  refine tk_store (i := 7) (t' := 42) (g := gs) (off := 24) (old := (splice S R 17)) (vs := F) (by kernel_rfl) rfl rfl rfl rfl p6.same ((p6.ne _ (by decide)).trans ((p5.ne _ (by decide)).trans ((p4.ne _ (by decide)).trans ((p3.ne _ (by decide)).trans p2.same)))) b1 (by rw [infoF, lF]) (by simp [splice, lR, lF, lS]) oF (fun w' ha => keep _ _ h1 ha) fun w2 b2 t2 s2 h2 => ?_
  refine tk_field (i := 8) (g := gs) (m := 34) rfl (by kernel_rfl) (by kernel_rfl) (by kernel_rfl) hRp rfl rfl rfl ((p6.ne _ (by decide)).trans ((p5.ne _ (by decide)).trans ((p4.ne _ (by decide)).trans ((p3.ne _ (by decide)).trans ((p2.ne _ (by decide)).trans ((p1.ne _ (by decide)).trans e4)))))) (fun w => by go_simp) (by omega) h2 fun a7 p7 => ?_
  have z7 := p7.size
  refine tk_store (i := 9) (t' := 42) (g := gs) (off := 34) (old := (splice (splice S R 17) F 24)) (vs := B) (by kernel_rfl) rfl rfl rfl rfl p7.same ((p7.ne _ (by decide)).trans ((p6.ne _ (by decide)).trans ((p5.ne _ (by decide)).trans ((p4.ne _ (by decide)).trans p3.same)))) b2 (by rw [infoB, lB]) (by simp [splice, lR, lF, lB, lS]) oB (fun w' ha => keep _ _ h2 ha) fun w3 b3 t3 s3 h3 => ?_
  refine tk_field (i := 10) (g := gs) (m := 56) rfl (by kernel_rfl) (by kernel_rfl) (by kernel_rfl) hRp rfl rfl rfl ((p7.ne _ (by decide)).trans ((p6.ne _ (by decide)).trans ((p5.ne _ (by decide)).trans ((p4.ne _ (by decide)).trans ((p3.ne _ (by decide)).trans ((p2.ne _ (by decide)).trans ((p1.ne _ (by decide)).trans e4))))))) (fun w => by go_simp) (by omega) h3 fun a8 p8 => ?_
  have z8 := p8.size
  refine tk_store (i := 11) (t' := 42) (g := gs) (off := 56) (old := (splice (splice (splice S R 17) F 24) B 34)) (vs := D) (by kernel_rfl) rfl rfl rfl rfl p8.same ((p8.ne _ (by decide)).trans ((p7.ne _ (by decide)).trans ((p6.ne _ (by decide)).trans ((p5.ne _ (by decide)).trans p4.same)))) b3 (by rw [infoD, lD]) (by simp [splice, lR, lF, lB, lD, lS]) oD (fun w' ha => keep _ _ h3 ha) fun w4 b4 t4 s4 h4 => ?_
  refine wpAnyH_done (by kernel_rfl) ?_ _
  refine hQ _ _ (by rw [p8.size, p7.size, p6.size, p5.size, p4.size, p3.size, p2.size, p1.size]) (by rw [p8.defers, p7.defers, p6.defers, p5.defers, p4.defers, p3.defers, p2.defers, p1.defers]) (fun t ht => by rw [p8.ne t (by omega), p7.ne t (by omega), p6.ne t (by omega), p5.ne t (by omega), p4.ne t (by omega), p3.ne t (by omega), p2.ne t (by omega), p1.ne t (by omega)]) b4 (((Alt.refl w (fun k => k = gs)).drewN 1).trans (((t1.trans t2 (fun _ _ h => h)).trans t3 (fun _ _ h => h)).trans t4 (fun _ _ h => h)) (fun _ _ h => h))
set_option maxRecDepth 100000 in
theorem reg86 {Q : Exit → Act → World → Prop} {a : Act} {w : World} {gs gz : Nat} {S z : List Value} (ha : 298 ≤ a.tmps.size) (e4 : a.eval (.tmp 4) = .pointer (some ⟨gs, 0, none⟩)) (e2 : a.eval (.tmp 2) = .pointer (some ⟨gz, 0, none⟩)) (bS : Blk w gs 42 ⟨S⟩) (bz : Blk w gz 42 ⟨z⟩) (lS : S.length = 70) (lz : z.length = 70) (oS : ∀ u ∈ S, u.oneCell' = true)
    (hQ : ∀ a' w', a'.defers = a.defers → a'.eval (.tmp 2) = a.eval (.tmp 2) → a'.eval (.tmp 3) = .bool true → Blk w' gz 42 ⟨S⟩ → Alt w w' (fun k => k = gz) → Q .normal a' w') : REG86.wp Tryz.prog Q a w := by
  unfold REG86
  simp only [Tryz.f7, findR, Option.bind, Option.getD, Nat.reduceEqDiff, if_true, if_false]
  refine wp_region_list ?_
  refine wpList_load_row w rfl 42 (.tmp 4) rfl gs ⟨S⟩ 42 (0, 0) _ e4 bS (Tryz.underlying42) rfl (by rw [infoS]; simp [lS]) ?_
  refine wpList_store_row w rfl 42 (.tmp 2) (.tmp 297) rfl gz ⟨z⟩ ⟨S⟩ 42 ((Act.eval_put_ne _ _ _ _ (by decide)).trans e2) (Act.eval_put_same _ _ _ (by omega)) bz (by rw [infoS]; simp [lS]) (by simp [lS, lz]) (by simpa [Array.all_eq_true'] using oS) fun w1 b1 t1 s1 => ?_
  refine wpList_plain rfl fun K hK => ?_
  unfold Oper.wp
  simp [execOp]
  refine hK _ _ ?_
  refine hQ _ _ ?_ ?_ ?_ b1 t1
  · simp [Act.put]
  · refine (Act.eval_put_ne _ _ _ _ (by decide)).trans (Act.eval_put_ne _ _ _ _ (by decide))
  · refine Act.eval_put_same _ _ _ ?_
    show 3 < (a.put (some 297) _).tmps.size
    rw [Act.size_put]; omega
end Go.Proofs.YtelehhfnomdneaaGreatDoor.Sp
namespace Go.Proofs.YtelehhfnomdneaaGreatDoor.Sp
open Go Go.RowKit Ut Tc

def headR (id : Nat) : Code → Bool
  | .region i _ _ => i == id
  | .seq a _ => headR id a
  | _ => false
def findS (id : Nat) : Code → Option Code
  | .seq a b => if headR id a = true then some (.seq a b) else match findS id a with
    | some c => some c
    | none => findS id b
  | .cond _ a b => match findS id a with
    | some c => some c
    | none => findS id b
  | .block _ b => findS id b
  | .loop b => findS id b
  | .scope b => findS id b
  | _ => none
noncomputable def EXITC : Code := (Tryz.f7.body.bind (findS 82)).getD .skip
theorem own_alt_ts {w w' : World} {base n size : Nat} {e : TypeId} {v : Value} {xs : List Value} {p : Nat → Prop} (h : w.ownsRow base e size v n xs) (ha : Alt w w' p) (hp : ∀ k, p k → ∃ t cs, Blk w k t cs ∧ t ≠ e) : w'.ownsRow base e size v n xs := by
  refine ⟨h.1, ?_⟩
  rcases h.2 with h2 | ⟨g, cap, cur, rfl, h3, h4, h5⟩
  · exact .inl h2
  · refine .inr ⟨g, cap, cur, rfl, h3, (ha.block g (lt_of_block h4) (fun eg => ?_)).trans h4, h5⟩
    obtain ⟨t, cs, hG, hne⟩ := hp g eg
    unfold Blk at hG
    rw [hG] at h4
    injection h4 with h4
    injection h4 with _ h4
    exact hne h4
theorem own_lower {w : World} {b b' n size : Nat} {e : TypeId} {v : Value} {xs : List Value} (h : w.ownsRow b e size v n xs) (hb : b' ≤ b) : w.ownsRow b' e size v n xs := by
  refine ⟨h.1, ?_⟩
  rcases h.2 with h2 | ⟨g, cap, cur, rfl, h3, h4, h5⟩
  · exact .inl h2
  · exact .inr ⟨g, cap, cur, rfl, Nat.le_trans hb h3, h4, h5⟩
theorem oneSp {KD : Nat} {t1 : ByteArray} {A5 A6 : Option Addr} {n5 c5 n6 c6 : Nat} {N : Wd → Nat} {Q : Wd → Bool × Nat × Nat} : ∀ u ∈ specL KD (.string t1) (.slice A5 n5 c5) (.slice A6 n6 c6) N Q, u.oneCell' = true := by
  simp [specL, ruleL, forestL, boostL, downL, qOf, qv, nV, Value.oneCell']
/- What is left behind region 84's first guard, in letters. -/
theorem exit_fin {w wv wr w1 w2 w3 : World} {gs gr KD c5 : Nat} {os : List (Option (Wd × Wd))} {t0 t1 t2 : Wd} {ts : List Wd} {A5 : Option Addr} {z : Array Value} {acc : Acc} {szv seenv : Value} {zs : List Int}
    (HPV : PreS w wv gs KD t1 (.slice A5 ts.length c5) ts z) (hgw : w.heap.size < gr ∧ w.heap.size < gs ∧ gs < gr) (hG : goodP t0 t1 t2 os = some acc) (hZ : zs = (sizesP acc).map (fun n : Nat => (n : Int))) (hts : ts = cuts [] t2) (hkd : KD = (pickP t0 kindsCh).getD 0)
    (HSI : SInv wv wv gs gr (gr + 1) (gr + 1 + 1) (gr + 1 + 1 + 1) wv.heap.size ⟨stS KD (.string ⟨⟨t1⟩⟩) (.slice A5 ts.length c5) (.slice none 0 0) (nI []) (fD [])⟩ ⟨stR (nI []) (fD [])⟩ ⟨stF (nI [])⟩ ⟨stB (nI []) (fD [])⟩ ⟨stD (nI []) (fD [])⟩ (.slice none 0 0) (.slice none 0 0) (keysOf []) []) (hinv : SInv wv wr gs gr (gr + 1) (gr + 1 + 1) (gr + 1 + 1 + 1) wv.heap.size ⟨stS KD (.string ⟨⟨t1⟩⟩) (.slice A5 ts.length c5) szv (nI acc) (fD acc)⟩ ⟨stR (nI acc) (fD acc)⟩ ⟨stF (nI acc)⟩ ⟨stB (nI acc) (fD acc)⟩ ⟨stD (nI acc) (fD acc)⟩ seenv szv (keysOf acc) zs)
    (a1 : Alt wr w1 (fun k => k = gr + 1 ∨ k = gr + 1 + 1)) (a2 : Alt w1 w2 (fun k => k = gs)) (a3 : Alt w2 w3 (fun k => k = w.heap.size)) {e : Ending} (he : e = .returned (.tuple #[.agg ⟨specL KD (.string ⟨⟨t1⟩⟩) (.slice A5 ts.length c5) szv (nL acc) (fD acc)⟩, .bool true])) : SSpecOut w t0 t1 t2 os z e w3 := by
  unfold SSpecOut
  rw [hG]
  have hlt := HSI.lt
  have hall : Alt wr w3 (fun k => (k = gr + 1 ∨ k = gr + 1 + 1) ∨ k = gs ∨ k = w.heap.size) := (a1.mono (fun k h => Or.inl h)).trans ((a2.mono (fun k h => Or.inr (Or.inl h))).trans (a3.mono (fun k h => Or.inr (Or.inr h))) (fun _ _ h => h)) (fun _ _ h => h)
  have hall2 : Alt wv w3 (fun k => k = gs ∨ k = gr ∨ k = gr + 1 ∨ k = gr + 1 + 1 ∨ k = gr + 1 + 1 + 1 ∨ k = w.heap.size) := (hinv.alt.mono (fun k h => by omega)).trans (hall.mono (q := fun k => k = gs ∨ k = gr ∨ k = gr + 1 ∨ k = gr + 1 + 1 ∨ k = gr + 1 + 1 + 1 ∨ k = w.heap.size) (fun k h => by omega)) (fun _ _ h => h)
  refine ⟨HPV.bel.trans (hall2.below (fun k h => by omega) HPV.bel.size), .slice A5 ts.length c5, szv, by rw [he, hkd], ?_, ?_⟩
  · have h1 := own_alt_ts HPV.own hall2 (fun k hk => by
      rcases hk with rfl | rfl | rfl | rfl | rfl | rfl
      · exact ⟨_, _, HPV.bs, by decide⟩
      · exact ⟨_, _, HSI.br, by decide⟩
      · exact ⟨_, _, HSI.bf, by decide⟩
      · exact ⟨_, _, HSI.bb, by decide⟩
      · exact ⟨_, _, HSI.bd, by decide⟩
      · exact ⟨_, _, HPV.bz, by decide⟩)
    rw [← hts]
    exact own_lower h1 (Nat.le_succ _)
  · have h1 := own_alt hinv.sz hall (fun g hg e => by have := HPV.lt; omega)
    subst hZ
    have h2 := own_lower h1 (Nat.le_trans HPV.bel.size (Nat.le_refl _))
    rw [List.length_map, List.map_map] at h2
    exact h2
set_option maxHeartbeats 60000000 in
set_option maxRecDepth 100000 in
theorem exit_any {w wv wr : World} {g n c gs gr KD c5 : Nat} {os : List (Option (Wd × Wd))} {t0 t1 t2 : Wd} {ts : List Wd} {A5 : Option Addr} {okb : Bool} {z : Array Value} {acc : Acc} {N : Wd → Int} {Q : Wd → Bool × Nat × Nat} {szv seenv : Value} {zs : List Int} {x1 x3 x6 x7 x12 x13 x14 x15 x16 x17 x18 x19 x20 x21 x22 x23 x24 x25 x26 x27 x28 x29 x30 x31 x32 x33 x34 x35 x36 x37 x38 x39 x40 x41 x42 x43 x44 x45 x46 x47 x48 x49 x50 x51 x52 x53 x54 x55 x56 x57 x58 x59 x60 x61 x62 x63 x64 x65 x66 x67 x68 x69 x70 x71 x72 x73 x74 x75 x76 x77 x78 x79 x80 x81 x82 x83 x84 x85 x86 x87 x88 x89 x90 x91 x92 x93 x94 x95 x96 x97 x98 x99 x100 x101 x102 x103 x104 x105 x106 x107 x108 x109 x110 x111 x112 x113 x114 x115 x116 x117 x118 x119 x120 x121 x122 x123 x124 x125 x126 x127 x128 x129 x130 x131 x132 x133 x134 x135 x136 x137 x138 x139 x140 x141 x142 x143 x144 x145 x146 x147 x148 x149 x150 x151 x152 x153 x154 x155 x156 x157 x158 x159 x160 x161 x162 x163 x164 x165 x166 x167 x168 x169 x170 x171 x172 x173 x174 x175 x176 x177 x178 x179 x180 x181 x182 x183 x184 x185 x186 x187 x188 x189 x190 x191 x192 x193 x194 x195 x196 x197 x198 x199 x200 x201 x202 x203 x204 x205 x206 x207 x208 x209 x210 x211 x212 x213 x214 x215 x216 x217 x218 x219 x220 x221 x222 x223 x224 x225 x226 x227 x228 x229 x230 x231 x232 x233 x234 x235 x236 x237 x238 x239 x240 x241 x242 x243 x244 x245 x246 x247 x248 x249 x250 x251 x252 x253 x254 x255 x256 x257 x258 x259 x260 x261 x262 x263 x264 x265 x266 x267 x268 x269 x270 x271 x272 x273 x274 x275 x276 x277 x278 x279 x280 x281 x282 x283 x284 x285 x286 x287 x288 x289 x290 x291 x292 x293 x294 x295 x296 x297 : Value}
    (HZS0 : z.size = 70) (HZ10 : z.all (·.oneCell') = true) (hz : ∀ W, (zeroValue 42).run Tryz.prog W = .ok (.agg z) W) (hts : ts = cuts [] t2) (hkd : KD = (pickP t0 kindsCh).getD 0)
    (HPV0 : PreS w wv gs KD t1 (.slice A5 ts.length c5) ts z) (hgw : w.heap.size < gr ∧ w.heap.size < gs ∧ gs < gr) (HSI0 : SInv wv wv gs gr (gr + 1) (gr + 1 + 1) (gr + 1 + 1 + 1) wv.heap.size ⟨stS KD (.string ⟨⟨t1⟩⟩) (.slice A5 ts.length c5) (.slice none 0 0) (nI []) (fD [])⟩ ⟨stR (nI []) (fD [])⟩ ⟨stF (nI [])⟩ ⟨stB (nI []) (fD [])⟩ ⟨stD (nI []) (fD [])⟩ (.slice none 0 0) (.slice none 0 0) (keysOf []) []) (hsem0 : Sem (goodP t0 t1 t2 os) os os.length acc N Q okb zs) (hinv0 : SInv wv wr gs gr (gr + 1) (gr + 1 + 1) (gr + 1 + 1 + 1) wv.heap.size ⟨stS KD (.string ⟨⟨t1⟩⟩) (.slice A5 ts.length c5) szv N Q⟩ ⟨stR N Q⟩ ⟨stF N⟩ ⟨stB N Q⟩ ⟨stD N Q⟩ seenv szv (keysOf acc) zs) :
    EXITC.wp Tryz.prog (bodyPost Tryz.prog Tryz.f7 (fun e w' => SSpecOut w t0 t1 t2 os z e w')) ⟨#[.slice (some ⟨g, 0, none⟩) n c, x1, .pointer (some ⟨w.heap.size, 0, none⟩), x3, .pointer (some ⟨gs, 0, none⟩), .bool okb, x6, x7, .pointer (some ⟨gr, 0, none⟩), .pointer (some ⟨gr + 1, 0, none⟩), .pointer (some ⟨gr + 1 + 1, 0, none⟩), .pointer (some ⟨gr + 1 + 1 + 1, 0, none⟩), x12, x13, x14, x15, x16, x17, x18, x19, x20, x21, x22, x23, x24, x25, x26, x27, x28, x29, x30, x31, x32, x33, x34, x35, x36, x37, x38, x39, x40, x41, x42, x43, x44, x45, x46, x47, x48, x49, x50, x51, x52, x53, x54, x55, x56, x57, x58, x59, x60, x61, x62, x63, x64, x65, x66, x67, x68, x69, x70, x71, x72, x73, x74, x75, x76, x77, x78, x79, x80, x81, x82, x83, x84, x85, x86, x87, x88, x89, x90, x91, x92, x93, x94, x95, x96, x97, x98, x99, x100, x101, x102, x103, x104, x105, x106, x107, x108, x109, x110, x111, x112, x113, x114, x115, x116, x117, x118, x119, x120, x121, x122, x123, x124, x125, x126, x127, x128, x129, x130, x131, x132, x133, x134, x135, x136, x137, x138, x139, x140, x141, x142, x143, x144, x145, x146, x147, x148, x149, x150, x151, x152, x153, x154, x155, x156, x157, x158, x159, x160, x161, x162, x163, x164, x165, x166, x167, x168, x169, x170, x171, x172, x173, x174, x175, x176, x177, x178, x179, x180, x181, x182, x183, x184, x185, x186, x187, x188, x189, x190, x191, x192, x193, x194, x195, x196, x197, x198, x199, x200, x201, x202, x203, x204, x205, x206, x207, x208, x209, x210, x211, x212, x213, x214, x215, x216, x217, x218, x219, x220, x221, x222, x223, x224, x225, x226, x227, x228, x229, x230, x231, x232, x233, x234, x235, x236, x237, x238, x239, x240, x241, x242, x243, x244, x245, x246, x247, x248, x249, x250, x251, x252, x253, x254, x255, x256, x257, x258, x259, x260, x261, x262, x263, x264, x265, x266, x267, x268, x269, x270, x271, x272, x273, x274, x275, x276, x277, x278, x279, x280, x281, x282, x283, x284, x285, x286, x287, x288, x289, x290, x291, x292, x293, x294, x295, x296, x297], []⟩ wr := by
  have HZS := Lib.hid HZS0
  have HZ1 := Lib.hid HZ10
  have HPV := Lib.hid HPV0
  have HSI := Lib.hid HSI0
  have hsem := Lib.hid hsem0
  have hinv := Lib.hid hinv0
  have HLV := hinv0.lt
  clear HZS0 HZ10 HPV0 HSI0 hsem0 hinv0
  generalize hQQ : bodyPost Tryz.prog Tryz.f7 (fun e w' => SSpecOut w t0 t1 t2 os z e w') = QQ
  unfold EXITC
  simp only [Tryz.f7, findS, headR, Nat.reduceBEq, Bool.false_eq_true, Option.bind, Option.getD, if_true, if_false]
  have HBw : Hid (Below w.heap.size w wr) := Lib.hid (HPV.out.bel.trans (hinv.out.alt.below (fun k hk => by omega) HPV.out.bel.size))
  have hzw : Hid (Blk wr w.heap.size 42 z) := Lib.hid ((hinv.out.alt.block _ (by have := HPV.out.bz.lt; exact this) (by omega)).trans HPV.out.bz)
  have hst := run_storeCells_blk hzw.out (HZS.out.symm ▸ infoSpec) rfl HZ1.out
  cases okb with
  | false =>
    subst hQQ
    have hno : Hid (goodP t0 t1 t2 os = none) := Lib.hid (hsem.out.2 rfl)
    go_wp2
    exact bodyPost_ret (results_row2 rfl _ _ w.heap.size z _ _ rfl (setRow_alt hzw.out).1 Tryz.underlying42 rfl (HZS.out.symm ▸ infoSpec)) rfl (SSpecOut.bad hno.out (setRow_below HBw.out hzw.out (Nat.le_refl _)) rfl)
  | true =>
    obtain ⟨hG, hN, hQ, hZ⟩ := hsem.out.1 rfl
    have hacc : Hid (goodP t0 t1 t2 os = some acc) := Lib.hid (by rw [hG, List.drop_eq_nil_of_le (by omega)]; rfl)
    have HZZ := Lib.hid hZ
    clear hG hZ hsem
    subst hN hQ
    go_wp2_with fail
    rename_i K hK
    subst hQQ
    refine wp_of_eq (c := REG84) (by kernel_rfl) (reg84 (R := stR (nI acc) (fD acc)) (F := stF (nI acc)) (B := stB (nI acc) (fD acc)) (gr := gr) (gf := gr + 1) (gb := gr + 1 + 1) (fun c a d v w h => by cases d <;> exact h) (Nat.le_of_ble_eq_true rfl) rfl rfl rfl hinv.out.br hinv.out.bf hinv.out.bb rfl rfl rfl oneR (by omega) (by omega) (by omega) ?_)
    intro q1 w1 z1 d1 k1 r1 f1 b1 a1
    have hs1 : Hid (Blk w1 gs 42 ⟨stS KD (.string ⟨⟨t1⟩⟩) (.slice A5 ts.length c5) szv (nI acc) (fD acc)⟩) := Lib.hid ((a1.block _ hinv.out.bs.lt (by omega)).trans hinv.out.bs)
    have hd1 : Hid (Blk w1 (gr + 1 + 1 + 1) 40 ⟨stD (nI acc) (fD acc)⟩) := Lib.hid ((a1.block _ hinv.out.bd.lt (by omega)).trans hinv.out.bd)
    have hz1 : Hid (Blk w1 w.heap.size 42 z) := Lib.hid ((a1.block _ hzw.out.lt (by omega)).trans hzw.out)
    have k2 := k1 2 (by decide)
    have k4 := k1 4 (by decide)
    have k8 := k1 8 (by decide)
    have k9 := k1 9 (by decide)
    have k10 := k1 10 (by decide)
    have k11 := k1 11 (by decide)
    replace k2 : q1.eval (.tmp 2) = .pointer (some ⟨w.heap.size, 0, none⟩) := k2
    replace k4 : q1.eval (.tmp 4) = .pointer (some ⟨gs, 0, none⟩) := k4
    replace k8 : q1.eval (.tmp 8) = .pointer (some ⟨gr, 0, none⟩) := k8
    replace k9 : q1.eval (.tmp 9) = .pointer (some ⟨gr + 1, 0, none⟩) := k9
    replace k10 : q1.eval (.tmp 10) = .pointer (some ⟨gr + 1 + 1, 0, none⟩) := k10
    replace k11 : q1.eval (.tmp 11) = .pointer (some ⟨gr + 1 + 1 + 1, 0, none⟩) := k11
    replace d1 : q1.defers = [] := d1
    replace z1 : 298 ≤ q1.tmps.size := Nat.le_of_eq z1.symm
    clear k1
    refine hK _ _ ?_
    clear hK K
    refine wp_seq ?_
    refine wp_of_eq (c := REG85) (by kernel_rfl) (reg85 (R := stR (nI acc) (fD acc)) (F := splice (stF (nI acc)) (stR (nI acc) (fD acc)) 3) (B := splice (stB (nI acc) (fD acc)) (stR (nI acc) (fD acc)) 12) (D := stD (nI acc) (fD acc)) (S := stS KD (.string ⟨⟨t1⟩⟩) (.slice A5 ts.length c5) szv (nI acc) (fD acc)) (gr := gr) (gf := gr + 1) (gb := gr + 1 + 1) (gd := gr + 1 + 1 + 1) (gs := gs) (fun c a d v w h => by cases d <;> exact h) z1 k8 k9 k10 k11 k4 r1 rfl f1 rfl b1 rfl hd1.out rfl hs1.out rfl oneR (by omega) oneF (by omega) oneB (by omega) oneD (by omega) ?_)
    intro q2 w2 z2 d2 j2 s2 a2
    have m2 := (j2 2 (by decide)).trans k2
    have m4 := (j2 4 (by decide)).trans k4
    have hz2 : Hid (Blk w2 w.heap.size 42 z) := Lib.hid ((a2.block _ hz1.out.lt (by omega)).trans hz1.out)
    rw [d1] at d2
    rw [whole_eq KD] at s2
    refine wp_seq ?_
    obtain ⟨A6, c6, hsz, _⟩ := own_slice hinv.out.sz
    refine wp_of_eq (c := REG86) (by kernel_rfl) (reg86 (gs := gs) (gz := w.heap.size) (z := z.toList) (by omega) m4 m2 s2 hz2.out rfl (by have := HZS.out; simpa using this) (by subst hsz; exact oneSp) ?_)
    intro q3 w3 d3 n2 n3 s3 a3
    rw [d2] at d3
    rw [m2] at n2
    refine wp_ret ?_
    refine bodyPost_ret (results_row2 rfl _ _ w.heap.size _ _ _ n2 s3 Tryz.underlying42 rfl infoSpec) d3 ?_
    refine exit_fin HPV.out hgw hacc.out HZZ.out hts hkd HSI.out hinv.out a1 a2 a3 ?_
    exact congrArg (fun v => Ending.returned (.tuple #[_, v])) n3
end Go.Proofs.YtelehhfnomdneaaGreatDoor.Sp
