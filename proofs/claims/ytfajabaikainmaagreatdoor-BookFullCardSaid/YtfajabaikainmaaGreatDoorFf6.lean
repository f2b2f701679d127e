/-
  The runs of known calls.
-/
import Derived.Test.YtfajabaikainmaaGreatDoorFf0
namespace Go.Proofs.YtfajabaikainmaaGreatDoor.Kf
open Go Go.RowKit CX
theorem k60_run (s : Nat → Value) : runH (xo s noOrc) 100000 k60 = true := by kernel_rfl
theorem k60_ok (s : Nat → Value) : OrcOk Tryz.prog ⟨6, s⟩ (orcH k60) := orcH_ok (xo_ok (noOrc_ok _ _)) (k60_run s)
theorem k61_run (s : Nat → Value) : runH (xo s noOrc) 100000 k61 = true := by kernel_rfl
theorem k61_ok (s : Nat → Value) : OrcOk Tryz.prog ⟨6, s⟩ (orcH k61) := orcH_ok (xo_ok (noOrc_ok _ _)) (k61_run s)
theorem k62_run (s : Nat → Value) : runH (xo s noOrc) 100000 k62 = true := by kernel_rfl
theorem k62_ok (s : Nat → Value) : OrcOk Tryz.prog ⟨6, s⟩ (orcH k62) := orcH_ok (xo_ok (noOrc_ok _ _)) (k62_run s)
theorem k63_run (s : Nat → Value) : runH (xo s noOrc) 100000 k63 = true := by kernel_rfl
theorem k63_ok (s : Nat → Value) : OrcOk Tryz.prog ⟨6, s⟩ (orcH k63) := orcH_ok (xo_ok (noOrc_ok _ _)) (k63_run s)
theorem k64_run (s : Nat → Value) : runH (xo s noOrc) 100000 k64 = true := by kernel_rfl
theorem k64_ok (s : Nat → Value) : OrcOk Tryz.prog ⟨6, s⟩ (orcH k64) := orcH_ok (xo_ok (noOrc_ok _ _)) (k64_run s)
theorem k65_run (s : Nat → Value) : runH (xo s noOrc) 100000 k65 = true := by kernel_rfl
theorem k65_ok (s : Nat → Value) : OrcOk Tryz.prog ⟨6, s⟩ (orcH k65) := orcH_ok (xo_ok (noOrc_ok _ _)) (k65_run s)
theorem k66_run (s : Nat → Value) : runH (xo s noOrc) 100000 k66 = true := by kernel_rfl
theorem k66_ok (s : Nat → Value) : OrcOk Tryz.prog ⟨6, s⟩ (orcH k66) := orcH_ok (xo_ok (noOrc_ok _ _)) (k66_run s)
theorem k67_run (s : Nat → Value) : runH (xo s noOrc) 100000 k67 = true := by kernel_rfl
theorem k67_ok (s : Nat → Value) : OrcOk Tryz.prog ⟨6, s⟩ (orcH k67) := orcH_ok (xo_ok (noOrc_ok _ _)) (k67_run s)
theorem k68_run (s : Nat → Value) : runH (xo s noOrc) 100000 k68 = true := by kernel_rfl
theorem k68_ok (s : Nat → Value) : OrcOk Tryz.prog ⟨6, s⟩ (orcH k68) := orcH_ok (xo_ok (noOrc_ok _ _)) (k68_run s)
theorem k69_run (s : Nat → Value) : runH (xo s noOrc) 100000 k69 = true := by kernel_rfl
theorem k69_ok (s : Nat → Value) : OrcOk Tryz.prog ⟨6, s⟩ (orcH k69) := orcH_ok (xo_ok (noOrc_ok _ _)) (k69_run s)
theorem k70_run (s : Nat → Value) : runH (xo s noOrc) 100000 k70 = true := by kernel_rfl
theorem k70_ok (s : Nat → Value) : OrcOk Tryz.prog ⟨6, s⟩ (orcH k70) := orcH_ok (xo_ok (noOrc_ok _ _)) (k70_run s)
theorem k71_run (s : Nat → Value) : runH (xo s noOrc) 100000 k71 = true := by kernel_rfl
theorem k71_ok (s : Nat → Value) : OrcOk Tryz.prog ⟨6, s⟩ (orcH k71) := orcH_ok (xo_ok (noOrc_ok _ _)) (k71_run s)
theorem k72_run (s : Nat → Value) : runH (xo s noOrc) 100000 k72 = true := by kernel_rfl
theorem k72_ok (s : Nat → Value) : OrcOk Tryz.prog ⟨6, s⟩ (orcH k72) := orcH_ok (xo_ok (noOrc_ok _ _)) (k72_run s)
theorem k73_run (s : Nat → Value) : runH (xo s noOrc) 100000 k73 = true := by kernel_rfl
theorem k73_ok (s : Nat → Value) : OrcOk Tryz.prog ⟨6, s⟩ (orcH k73) := orcH_ok (xo_ok (noOrc_ok _ _)) (k73_run s)
theorem k74_run (s : Nat → Value) : runH (xo s noOrc) 100000 k74 = true := by kernel_rfl
theorem k74_ok (s : Nat → Value) : OrcOk Tryz.prog ⟨6, s⟩ (orcH k74) := orcH_ok (xo_ok (noOrc_ok _ _)) (k74_run s)
theorem k75_run (s : Nat → Value) : runH (xo s noOrc) 100000 k75 = true := by kernel_rfl
theorem k75_ok (s : Nat → Value) : OrcOk Tryz.prog ⟨6, s⟩ (orcH k75) := orcH_ok (xo_ok (noOrc_ok _ _)) (k75_run s)
theorem k76_run (s : Nat → Value) : runH (xo s noOrc) 100000 k76 = true := by kernel_rfl
theorem k76_ok (s : Nat → Value) : OrcOk Tryz.prog ⟨6, s⟩ (orcH k76) := orcH_ok (xo_ok (noOrc_ok _ _)) (k76_run s)
theorem k77_run (s : Nat → Value) : runH (xo s noOrc) 100000 k77 = true := by kernel_rfl
theorem k77_ok (s : Nat → Value) : OrcOk Tryz.prog ⟨6, s⟩ (orcH k77) := orcH_ok (xo_ok (noOrc_ok _ _)) (k77_run s)
theorem k78_run (s : Nat → Value) : runH (xo s noOrc) 100000 k78 = true := by kernel_rfl
theorem k78_ok (s : Nat → Value) : OrcOk Tryz.prog ⟨6, s⟩ (orcH k78) := orcH_ok (xo_ok (noOrc_ok _ _)) (k78_run s)
theorem k79_run (s : Nat → Value) : runH (xo s noOrc) 100000 k79 = true := by kernel_rfl
theorem k79_ok (s : Nat → Value) : OrcOk Tryz.prog ⟨6, s⟩ (orcH k79) := orcH_ok (xo_ok (noOrc_ok _ _)) (k79_run s)
theorem k80_run (s : Nat → Value) : runH (xo s noOrc) 100000 k80 = true := by kernel_rfl
theorem k80_ok (s : Nat → Value) : OrcOk Tryz.prog ⟨6, s⟩ (orcH k80) := orcH_ok (xo_ok (noOrc_ok _ _)) (k80_run s)
theorem k81_run (s : Nat → Value) : runH (xo s noOrc) 100000 k81 = true := by kernel_rfl
theorem k81_ok (s : Nat → Value) : OrcOk Tryz.prog ⟨6, s⟩ (orcH k81) := orcH_ok (xo_ok (noOrc_ok _ _)) (k81_run s)
theorem k82_run (s : Nat → Value) : runH (xo s noOrc) 100000 k82 = true := by kernel_rfl
theorem k82_ok (s : Nat → Value) : OrcOk Tryz.prog ⟨6, s⟩ (orcH k82) := orcH_ok (xo_ok (noOrc_ok _ _)) (k82_run s)
theorem k83_run (s : Nat → Value) : runH (xo s noOrc) 100000 k83 = true := by kernel_rfl
theorem k83_ok (s : Nat → Value) : OrcOk Tryz.prog ⟨6, s⟩ (orcH k83) := orcH_ok (xo_ok (noOrc_ok _ _)) (k83_run s)
theorem k84_run (s : Nat → Value) : runH (xo s noOrc) 100000 k84 = true := by kernel_rfl
theorem k84_ok (s : Nat → Value) : OrcOk Tryz.prog ⟨6, s⟩ (orcH k84) := orcH_ok (xo_ok (noOrc_ok _ _)) (k84_run s)
theorem k85_run (s : Nat → Value) : runH (xo s noOrc) 100000 k85 = true := by kernel_rfl
theorem k85_ok (s : Nat → Value) : OrcOk Tryz.prog ⟨6, s⟩ (orcH k85) := orcH_ok (xo_ok (noOrc_ok _ _)) (k85_run s)
theorem k86_run (s : Nat → Value) : runH (xo s noOrc) 100000 k86 = true := by kernel_rfl
theorem k86_ok (s : Nat → Value) : OrcOk Tryz.prog ⟨6, s⟩ (orcH k86) := orcH_ok (xo_ok (noOrc_ok _ _)) (k86_run s)
theorem k87_run (s : Nat → Value) : runH (xo s noOrc) 100000 k87 = true := by kernel_rfl
theorem k87_ok (s : Nat → Value) : OrcOk Tryz.prog ⟨6, s⟩ (orcH k87) := orcH_ok (xo_ok (noOrc_ok _ _)) (k87_run s)
theorem k88_run (s : Nat → Value) : runH (xo s noOrc) 100000 k88 = true := by kernel_rfl
theorem k88_ok (s : Nat → Value) : OrcOk Tryz.prog ⟨6, s⟩ (orcH k88) := orcH_ok (xo_ok (noOrc_ok _ _)) (k88_run s)
theorem k89_run (s : Nat → Value) : runH (xo s noOrc) 100000 k89 = true := by kernel_rfl
theorem k89_ok (s : Nat → Value) : OrcOk Tryz.prog ⟨6, s⟩ (orcH k89) := orcH_ok (xo_ok (noOrc_ok _ _)) (k89_run s)
theorem k90_run (s : Nat → Value) : runH (xo s noOrc) 100000 k90 = true := by kernel_rfl
theorem k90_ok (s : Nat → Value) : OrcOk Tryz.prog ⟨6, s⟩ (orcH k90) := orcH_ok (xo_ok (noOrc_ok _ _)) (k90_run s)
theorem k91_run (s : Nat → Value) : runH (xo s noOrc) 100000 k91 = true := by kernel_rfl
theorem k91_ok (s : Nat → Value) : OrcOk Tryz.prog ⟨6, s⟩ (orcH k91) := orcH_ok (xo_ok (noOrc_ok _ _)) (k91_run s)
theorem k92_run (s : Nat → Value) : runH (xo s noOrc) 100000 k92 = true := by kernel_rfl
theorem k92_ok (s : Nat → Value) : OrcOk Tryz.prog ⟨6, s⟩ (orcH k92) := orcH_ok (xo_ok (noOrc_ok _ _)) (k92_run s)
end Go.Proofs.YtfajabaikainmaaGreatDoor.Kf
