/- The types' layout, looked at in parts. -/
import Derived.Test.YtildihjjocedmaaGreatDoorCl0
namespace Go.Proofs.YtildihjjocedmaaGreatDoor.Cl
open Go
set_option maxRecDepth 100000
theorem zik:Tryz.prog.types.size=828:=by kernel_rfl
theorem lo0:(List.range' 0 100).all (rowFine Tryz.prog)=true:=by kernel_rfl
theorem lo1:(List.range' 100 100).all (rowFine Tryz.prog)=true:=by kernel_rfl
theorem lo2:(List.range' 200 100).all (rowFine Tryz.prog)=true:=by kernel_rfl
theorem lo3:(List.range' 300 100).all (rowFine Tryz.prog)=true:=by kernel_rfl
theorem lo4:(List.range' 400 100).all (rowFine Tryz.prog)=true:=by kernel_rfl
theorem lo5:(List.range' 500 100).all (rowFine Tryz.prog)=true:=by kernel_rfl
theorem lo6:(List.range' 600 100).all (rowFine Tryz.prog)=true:=by kernel_rfl
theorem lo7:(List.range' 700 100).all (rowFine Tryz.prog)=true:=by kernel_rfl
theorem lo8:(List.range' 800 28).all (rowFine Tryz.prog)=true:=by kernel_rfl
theorem zyk:(List.range Tryz.prog.types.size).all (rowFine Tryz.prog)=true:=by
 rw[zik,List.all_eq_true]
 intro t ht
 have ht:=List.mem_range.1 ht
 by_cases h0:t<100
 ·exact List.all_eq_true.1 lo0 t (List.mem_range'_1.2 ⟨by omega,by omega⟩)
 by_cases h1:t<200
 ·exact List.all_eq_true.1 lo1 t (List.mem_range'_1.2 ⟨by omega,by omega⟩)
 by_cases h2:t<300
 ·exact List.all_eq_true.1 lo2 t (List.mem_range'_1.2 ⟨by omega,by omega⟩)
 by_cases h3:t<400
 ·exact List.all_eq_true.1 lo3 t (List.mem_range'_1.2 ⟨by omega,by omega⟩)
 by_cases h4:t<500
 ·exact List.all_eq_true.1 lo4 t (List.mem_range'_1.2 ⟨by omega,by omega⟩)
 by_cases h5:t<600
 ·exact List.all_eq_true.1 lo5 t (List.mem_range'_1.2 ⟨by omega,by omega⟩)
 by_cases h6:t<700
 ·exact List.all_eq_true.1 lo6 t (List.mem_range'_1.2 ⟨by omega,by omega⟩)
 by_cases h7:t<800
 ·exact List.all_eq_true.1 lo7 t (List.mem_range'_1.2 ⟨by omega,by omega⟩)
 exact List.all_eq_true.1 lo8 t (List.mem_range'_1.2 ⟨by omega,by omega⟩)
theorem ztn:Tryz.prog.globals.all (fun g=>decide (g.type<Tryz.prog.types.size))=true:=by rw[zik];kernel_rfl
theorem zyl:Tryz.prog.funcs.all (fun f=>f.params.all fun t=>decide (t<Tryz.prog.types.size))=true:=by rw[zik];kernel_rfl
theorem laidOut:laidOutB Tryz.prog=true:=by
 unfold laidOutB
 rw[zyk,ztn,zyl];rfl
end Go.Proofs.YtildihjjocedmaaGreatDoor.Cl
