/- The types' layout, looked at in parts. -/
import Derived.Test.YtemgclnkgieldaaGreatDoorCl0
namespace Go.Proofs.YtemgclnkgieldaaGreatDoor.Cl
open Go
set_option maxRecDepth 100000
theorem zij:Tryz.prog.types.size=887:=by kernel_rfl
theorem lo0:(List.range' 0 100).all (rowFine Tryz.prog)=true:=by kernel_rfl
theorem lo1:(List.range' 100 100).all (rowFine Tryz.prog)=true:=by kernel_rfl
theorem lo2:(List.range' 200 100).all (rowFine Tryz.prog)=true:=by kernel_rfl
theorem lo3:(List.range' 300 100).all (rowFine Tryz.prog)=true:=by kernel_rfl
theorem lo4:(List.range' 400 100).all (rowFine Tryz.prog)=true:=by kernel_rfl
theorem lo5:(List.range' 500 100).all (rowFine Tryz.prog)=true:=by kernel_rfl
theorem lo6:(List.range' 600 100).all (rowFine Tryz.prog)=true:=by kernel_rfl
theorem lo7:(List.range' 700 100).all (rowFine Tryz.prog)=true:=by kernel_rfl
theorem lo8:(List.range' 800 87).all (rowFine Tryz.prog)=true:=by kernel_rfl
theorem zz5:(List.range Tryz.prog.types.size).all (rowFine Tryz.prog)=true:=by
 rw[zij,List.all_eq_true]
 intro t ht
 have ht:=List.mem_range.1 ht
 by_cases h0:t<100
 ·exact List.all_eq_true.1 lo0 t (List.mem_range'_1.2 ⟨by omega,by omega⟩)
 by_cases h1:t<200
 ·exact List.all_eq_true.1 lo1 t (List.mem_range'_1.2 ⟨by omega,by omega⟩)
 by_cases h2:t<300
 ·exact List.all_eq_true.1 lo2 t (List.mem_range'_1.2 ⟨by omega,by omega⟩)
 by_cases h3:t<400
 ·exact List.all_eq_true.1 lo3 t (List.mem_range'_1.2 ⟨by omega,by omega⟩)
 by_cases h4:t<500
 ·exact List.all_eq_true.1 lo4 t (List.mem_range'_1.2 ⟨by omega,by omega⟩)
 by_cases h5:t<600
 ·exact List.all_eq_true.1 lo5 t (List.mem_range'_1.2 ⟨by omega,by omega⟩)
 by_cases h6:t<700
 ·exact List.all_eq_true.1 lo6 t (List.mem_range'_1.2 ⟨by omega,by omega⟩)
 by_cases h7:t<800
 ·exact List.all_eq_true.1 lo7 t (List.mem_range'_1.2 ⟨by omega,by omega⟩)
 exact List.all_eq_true.1 lo8 t (List.mem_range'_1.2 ⟨by omega,by omega⟩)
theorem zu8:Tryz.prog.globals.all (fun g=>decide (g.type<Tryz.prog.types.size))=true:=by rw[zij];kernel_rfl
theorem zz6:Tryz.prog.funcs.all (fun f=>f.params.all fun t=>decide (t<Tryz.prog.types.size))=true:=by rw[zij];kernel_rfl
theorem laidOut:laidOutB Tryz.prog=true:=by
 unfold laidOutB
 rw[zz5,zu8,zz6];rfl
end Go.Proofs.YtemgclnkgieldaaGreatDoor.Cl
