/- The ties of this seat, over the program alone (the data as the rows lay them). -/
import Derived.Test.YtemgclnkgieldaaGreatDoorProg
import Derived.SevenTiedAt
import Derived.LaidSub
import Derived.LaidOnce
set_option maxHeartbeats 4000000
namespace Go.Proofs.YtemgclnkgieldaaGreatDoor.Ty0
open Go
def laid_math_bits_deBruijn64tab {H:Type}:DataW H := .agg [.lit (.int .u8 0),.lit (.int .u8 1),.lit (.int .u8 56),.lit (.int .u8 2),.lit (.int .u8 57),.lit (.int .u8 49),.lit (.int .u8 28),.lit (.int .u8 3),.lit (.int .u8 61),.lit (.int .u8 58),.lit (.int .u8 42),.lit (.int .u8 50),.lit (.int .u8 38),.lit (.int .u8 29),.lit (.int .u8 17),.lit (.int .u8 4),.lit (.int .u8 62),.lit (.int .u8 47),.lit (.int .u8 59),.lit (.int .u8 36),.lit (.int .u8 45),.lit (.int .u8 43),.lit (.int .u8 51),.lit (.int .u8 22),.lit (.int .u8 53),.lit (.int .u8 39),.lit (.int .u8 33),.lit (.int .u8 30),.lit (.int .u8 24),.lit (.int .u8 18),.lit (.int .u8 12),.lit (.int .u8 5),.lit (.int .u8 63),.lit (.int .u8 55),.lit (.int .u8 48),.lit (.int .u8 27),.lit (.int .u8 60),.lit (.int .u8 41),.lit (.int .u8 37),.lit (.int .u8 16),.lit (.int .u8 46),.lit (.int .u8 35),.lit (.int .u8 44),.lit (.int .u8 21),.lit (.int .u8 52),.lit (.int .u8 32),.lit (.int .u8 23),.lit (.int .u8 11),.lit (.int .u8 54),.lit (.int .u8 26),.lit (.int .u8 40),.lit (.int .u8 15),.lit (.int .u8 34),.lit (.int .u8 20),.lit (.int .u8 31),.lit (.int .u8 10),.lit (.int .u8 25),.lit (.int .u8 14),.lit (.int .u8 19),.lit (.int .u8 9),.lit (.int .u8 13),.lit (.int .u8 8),.lit (.int .u8 7),.lit (.int .u8 6)]
def laid_unicode_utf8_acceptRanges {H:Type}:DataW H := .agg [.agg [.lit (.int .u8 128),.lit (.int .u8 191)],.agg [.lit (.int .u8 160),.lit (.int .u8 191)],.agg [.lit (.int .u8 128),.lit (.int .u8 159)],.agg [.lit (.int .u8 144),.lit (.int .u8 191)],.agg [.lit (.int .u8 128),.lit (.int .u8 143)],.agg [.lit (.int .u8 0),.lit (.int .u8 0)],.agg [.lit (.int .u8 0),.lit (.int .u8 0)],.agg [.lit (.int .u8 0),.lit (.int .u8 0)],.agg [.lit (.int .u8 0),.lit (.int .u8 0)],.agg [.lit (.int .u8 0),.lit (.int .u8 0)],.agg [.lit (.int .u8 0),.lit (.int .u8 0)],.agg [.lit (.int .u8 0),.lit (.int .u8 0)],.agg [.lit (.int .u8 0),.lit (.int .u8 0)],.agg [.lit (.int .u8 0),.lit (.int .u8 0)],.agg [.lit (.int .u8 0),.lit (.int .u8 0)],.agg [.lit (.int .u8 0),.lit (.int .u8 0)]]
def laid_unicode_utf8_first:DataW Unit:=Go.Pinned.utf8First
set_option maxRecDepth 100000
theorem seatTie1:Tryz.prog.laidByTextLater [("math/bits.deBruijn64tab",laid_math_bits_deBruijn64tab),("unicode/utf8.acceptRanges",laid_unicode_utf8_acceptRanges)] [.data,.data] true :=
 Program.laidByTextLater_by_one 24 8 65 (by as_aux_lemma=>kernel_rfl) (by as_aux_lemma=>kernel_rfl) (by as_aux_lemma=>kernel_rfl) (by as_aux_lemma=>kernel_rfl) (by as_aux_lemma=>kernel_rfl) (by as_aux_lemma=>kernel_rfl) (fun _ _=>by as_aux_lemma=>kernel_rfl)
theorem pin_laid_unicode_utf8_first:Tryz.prog.pinnedFits "unicode/utf8.first" = true:=by as_aux_lemma=>kernel_rfl
theorem noOwnUnsafe:Tryz.prog.headLifts.contains "ownunsafe" = false:=by as_aux_lemma=>kernel_rfl
theorem fits1:Tryz.prog.listedFits [("math/bits.deBruijn64tab",laid_math_bits_deBruijn64tab),("unicode/utf8.acceptRanges",laid_unicode_utf8_acceptRanges),("unicode/utf8.first",laid_unicode_utf8_first)]=true:=by
 unfold Program.listedFits
 rw[noOwnUnsafe]
 as_aux_lemma=>kernel_rfl
theorem tie:Tryz.prog.laidByTextLater [("math/bits.deBruijn64tab",laid_math_bits_deBruijn64tab),("unicode/utf8.acceptRanges",laid_unicode_utf8_acceptRanges)] [.data,.data] true :=
 Program.laidByTextLater.sub seatTie1 ["math/bits.deBruijn64tab","unicode/utf8.acceptRanges"] (by as_aux_lemma=>kernel_rfl) (by as_aux_lemma=>kernel_rfl)
end Go.Proofs.YtemgclnkgieldaaGreatDoor.Ty0
