/- What the book's laws ask of the models. -/
import Derived.Test.YtmejdkniafjncaaGreatDoorNo
import Derived.Test.YtmejdkniafjncaaGreatDoorOk1
import Derived.Test.YtmejdkniafjncaaGreatDoorMp4
import Derived.Test.YtmejdkniafjncaaGreatDoorMq1
import Derived.Test.YtmejdkniafjncaaGreatDoorMq2
import Derived.Test.YtmejdkniafjncaaGreatDoorMq3
import Derived.Test.YtmejdkniafjncaaGreatDoorMq4
import Derived.Test.YtmejdkniafjncaaGreatDoorMq5
import Derived.Test.YtmejdkniafjncaaGreatDoorMq6
namespace Go.Proofs.YtmejdkniafjncaaGreatDoor.Mv
open Go Go.RowKit CX Md
theorem mk0:∀ n:Int,n % 8=0→∀ W,Calls Tryz.prog 17 #[.int .i64 n] W fun e w'=>∃ cs,e = .returned (.agg cs)∧IsP pm0 vm0 2499 w' (fun k=>k<W.heap.size) cs ⟨6,noSym⟩∧Below W.heap.size W w':=fun n hn W =>
 zmp (x:=xo (sN n) (orcOr (orcP 6 [.float .f64 0,.int .i64 8] (.int .i64 0)) (orcOr (orcR 6 k0) (orcOr (orcR 6 k1) (orcOr (orcH k2) (orcOr (orcR 6 k3) (orcOr (orcH k4) (orcOr (orcR 6 k5) (orcOr (orcR 6 k7) (orcOr (orcH k9) noOrc)))))))))) (za9 (zad (zc7 n 0 hn) (zad (zmq _) (zad (zgb _) (zad (k2_ok _) (zad (zn8 _) (zad (k4_ok _) (zad (zn9 _) (zad (zxs _) (zad (k9_ok _) (zah _ _))))))))))) (zgm n) (c:=k10) (zxt (sN n)) (show 6≤9 by decide) rfl rfl rfl (pl:=pm0) (vl:=vm0) rfl rfl (by kernel_rfl) W
theorem mk1:∀ n:Int,n % 8=1→∀ W,Calls Tryz.prog 17 #[.int .i64 n] W fun e w'=>∃ cs,e = .returned (.agg cs)∧IsP pm1 vm1 12935 w' (fun k=>k<W.heap.size) cs ⟨6,noSym⟩∧Below W.heap.size W w':=fun n hn W =>
 zmp (x:=xo (sN n) (orcOr (orcP 6 [.float .f64 0,.int .i64 8] (.int .i64 1)) (orcOr (orcR 6 k0) (orcOr (orcR 6 k1) (orcOr (orcH k11) (orcOr (orcR 6 k3) (orcOr (orcH k12) (orcOr (orcR 6 k5) (orcOr (orcR 6 k7) (orcOr (orcH k16) noOrc)))))))))) (za9 (zad (zc7 n 1 hn) (zad (zmq _) (zad (zgb _) (zad (k11_ok _) (zad (zn8 _) (zad (k12_ok _) (zad (zn9 _) (zad (zxs _) (zad (k16_ok _) (zah _ _))))))))))) (zgm n) (c:=k17) (zx3 (sN n)) (show 6≤7270 by decide) rfl rfl rfl (pl:=pm1) (vl:=vm1) rfl rfl (by kernel_rfl) W
theorem mk2:∀ n:Int,n % 8=2→∀ W,Calls Tryz.prog 17 #[.int .i64 n] W fun e w'=>∃ cs,e = .returned (.agg cs)∧IsP pm2 vm2 28923 w' (fun k=>k<W.heap.size) cs ⟨6,noSym⟩∧Below W.heap.size W w':=fun n hn W =>
 zmp (x:=xo (sN n) (orcOr (orcP 6 [.float .f64 0,.int .i64 8] (.int .i64 2)) (orcOr (orcR 6 k0) (orcOr (orcR 6 k1) (orcOr (orcH k18) (orcOr (orcR 6 k3) (orcOr (orcH k19) (orcOr (orcR 6 k5) (orcOr (orcR 6 k7) (orcOr (orcH k24) noOrc)))))))))) (za9 (zad (zc7 n 2 hn) (zad (zmq _) (zad (zgb _) (zad (k18_ok _) (zad (zn8 _) (zad (k19_ok _) (zad (zn9 _) (zad (zxs _) (zad (k24_ok _) (zah _ _))))))))))) (zgm n) (c:=k25) (zyd (sN n)) (show 6≤21923 by decide) rfl rfl rfl (pl:=pm2) (vl:=vm2) rfl rfl (by kernel_rfl) W
theorem mk3:∀ n:Int,n % 8=3→∀ W,Calls Tryz.prog 17 #[.int .i64 n] W fun e w'=>∃ cs,e = .returned (.agg cs)∧IsP pm3 vm3 42138 w' (fun k=>k<W.heap.size) cs ⟨6,noSym⟩∧Below W.heap.size W w':=fun n hn W =>
 zmp (x:=xo (sN n) (orcOr (orcP 6 [.float .f64 0,.int .i64 8] (.int .i64 3)) (orcOr (orcR 6 k0) (orcOr (orcR 6 k1) (orcOr (orcH k26) (orcOr (orcR 6 k3) (orcOr (orcH k27) (orcOr (orcR 6 k5) (orcOr (orcR 6 k28) (orcOr (orcR 6 k29) noOrc)))))))))) (za9 (zad (zc7 n 3 hn) (zad (zmq _) (zad (zgb _) (zad (k26_ok _) (zad (zn8 _) (zad (k27_ok _) (zad (zn9 _) (zad (zv7 _) (zad (zv8 _) (zah _ _))))))))))) (zgm n) (c:=k30) (zyk (sN n)) (show 6≤41325 by decide) rfl rfl rfl (pl:=pm3) (vl:=vm3) rfl rfl (by kernel_rfl) W
theorem mk4:∀ n:Int,n % 8=4→∀ W,Calls Tryz.prog 17 #[.int .i64 n] W fun e w'=>∃ cs,e = .returned (.agg cs)∧IsP pm4 vm4 48043 w' (fun k=>k<W.heap.size) cs ⟨6,noSym⟩∧Below W.heap.size W w':=fun n hn W =>
 zmp (x:=xo (sN n) (orcOr (orcP 6 [.float .f64 0,.int .i64 8] (.int .i64 4)) (orcOr (orcR 6 k0) (orcOr (orcR 6 k1) (orcOr (orcH k31) (orcOr (orcR 6 k3) (orcOr (orcH k32) (orcOr (orcR 6 k5) (orcOr (orcR 6 k28) (orcOr (orcR 6 k29) noOrc)))))))))) (za9 (zad (zc7 n 4 hn) (zad (zmq _) (zad (zgb _) (zad (k31_ok _) (zad (zn8 _) (zad (k32_ok _) (zad (zn9 _) (zad (zv7 _) (zad (zv8 _) (zah _ _))))))))))) (zgm n) (c:=k33) (zyn (sN n)) (show 6≤47230 by decide) rfl rfl rfl (pl:=pm4) (vl:=vm4) rfl rfl (by kernel_rfl) W
theorem mk5:∀ n:Int,n % 8=5→∀ W,Calls Tryz.prog 17 #[.int .i64 n] W fun e w'=>∃ cs,e = .returned (.agg cs)∧IsP pm5 vm5 63967 w' (fun k=>k<W.heap.size) cs ⟨6,noSym⟩∧Below W.heap.size W w':=fun n hn W =>
 zmp (x:=xo (sN n) (orcOr (orcP 6 [.float .f64 0,.int .i64 8] (.int .i64 5)) (orcOr (orcR 6 k0) (orcOr (orcR 6 k1) (orcOr (orcH k34) (orcOr (orcR 6 k3) (orcOr (orcH k35) (orcOr (orcR 6 k5) (orcOr (orcH k36) (orcOr (orcH k37) (orcOr (orcH k42) (orcOr (orcR 6 k8) noOrc)))))))))))) (za9 (zad (zc7 n 5 hn) (zad (zmq _) (zad (zgb _) (zad (k34_ok _) (zad (zn8 _) (zad (k35_ok _) (zad (zn9 _) (zad (k36_ok _) (zad (k37_ok _) (zad (k42_ok _) (zad (zvk _) (zah _ _))))))))))))) (zgm n) (c:=k43) (zyx (sN n)) (show 6≤53135 by decide) rfl rfl rfl (pl:=pm5) (vl:=vm5) rfl rfl (by kernel_rfl) W
theorem mk6:∀ n:Int,n % 8=6→∀ W,Calls Tryz.prog 17 #[.int .i64 n] W fun e w'=>∃ cs,e = .returned (.agg cs)∧IsP pm6 vm6 71465 w' (fun k=>k<W.heap.size) cs ⟨6,noSym⟩∧Below W.heap.size W w':=fun n hn W =>
 zmp (x:=xo (sN n) (orcOr (orcP 6 [.float .f64 0,.int .i64 8] (.int .i64 6)) (orcOr (orcR 6 k0) (orcOr (orcR 6 k1) (orcOr (orcH k44) (orcOr (orcR 6 k3) (orcOr (orcH k45) (orcOr (orcR 6 k5) (orcOr (orcH k46) (orcOr (orcH k48) noOrc)))))))))) (za9 (zad (zc7 n 6 hn) (zad (zmq _) (zad (zgb _) (zad (k44_ok _) (zad (zn8 _) (zad (k45_ok _) (zad (zn9 _) (zad (k46_ok _) (zad (k48_ok _) (zah _ _))))))))))) (zgm n) (c:=k49) (zy3 (sN n)) (show 6≤67878 by decide) rfl rfl rfl (pl:=pm6) (vl:=vm6) rfl rfl (by kernel_rfl) W
theorem mk7:∀ n:Int,n % 8=7→∀ W,Calls Tryz.prog 17 #[.int .i64 n] W fun e w'=>∃ cs,e = .returned (.agg cs)∧IsP pm7 vm7 75389 w' (fun k=>k<W.heap.size) cs ⟨6,noSym⟩∧Below W.heap.size W w':=fun n hn W =>
 zmp (x:=xo (sN n) (orcOr (orcP 6 [.float .f64 0,.int .i64 8] (.int .i64 7)) (orcOr (orcR 6 k0) noOrc))) (za9 (zad (zc7 n 7 hn) (zad (zmq _) (zah _ _)))) (zgm n) (c:=k50) (zy4 (sN n)) (show 6≤75268 by decide) rfl rfl rfl (pl:=pm7) (vl:=vm7) rfl rfl (by kernel_rfl) W
theorem mdl0:MdC ⟨6,noSym⟩ 0 pm0 vm0 2499 pr0 vr0 4778 ms0 :=
 zim (x0:=xo noSym noOrc) (c:=c0) (h:=h0) (l:=l0) (r:=r0) (r2:=q0) (s:=s0) (t:=t0) (b:=2893) (cc:=116) (b2:=3831) (K:=100000) zis rfl rfl mk0 (by kernel_rfl) (by kernel_rfl) (by kernel_rfl) rfl (by kernel_rfl) (by kernel_rfl) (zil (by decide)) (by decide) (by decide)
  c0_run rfl (show 2499≤2499 by decide) rfl rfl rfl
  h0_run rfl (show 2499≤2499 by decide) rfl rfl rfl
  l0_run rfl (show 2499≤2499 by decide) rfl rfl rfl rfl List.mem_cons_self (zds (by kernel_rfl))
  r0_run q0_run (show 6≤3831 by decide) (show 3831<3832 by decide) rfl rfl rfl rfl rfl rfl (by kernel_rfl) rfl (by kernel_rfl)
  s0_run rfl rfl rfl rfl (by kernel_rfl) (by kernel_rfl) (by kernel_rfl) (show 2499≤4778 by decide)
  t0_run rfl rfl rfl rfl (by kernel_rfl) (by kernel_rfl) (by kernel_rfl) (show 4778≤104778 by decide) (show 6≤100000 by decide)
theorem mdl1:MdC ⟨6,noSym⟩ 1 pm1 vm1 12935 pr1 vr1 17447 ms1 :=
 zim (x0:=xo noSym noOrc) (c:=c1) (h:=h1) (l:=l1) (r:=r1) (r2:=q1) (s:=s1) (t:=t1) (b:=13728) (cc:=180) (b2:=15644) (K:=100000) zis rfl rfl mk1 (by kernel_rfl) (by kernel_rfl) (by kernel_rfl) rfl (by kernel_rfl) (by kernel_rfl) (zil (by decide)) (by decide) (by decide)
  c1_run rfl (show 12935≤12935 by decide) rfl rfl rfl
  h1_run rfl (show 12935≤12935 by decide) rfl rfl rfl
  l1_run rfl (show 12935≤12935 by decide) rfl rfl rfl rfl List.mem_cons_self (zds (by kernel_rfl))
  r1_run q1_run (show 6≤15644 by decide) (show 15644<15645 by decide) rfl rfl rfl rfl rfl rfl (by kernel_rfl) rfl (by kernel_rfl)
  s1_run rfl rfl rfl rfl (by kernel_rfl) (by kernel_rfl) (by kernel_rfl) (show 12935≤17447 by decide)
  t1_run rfl rfl rfl rfl (by kernel_rfl) (by kernel_rfl) (by kernel_rfl) (show 17447≤117447 by decide) (show 6≤100000 by decide)
theorem mdl2:MdC ⟨6,noSym⟩ 2 pm2 vm2 28923 pr2 vr2 35032 ms2 :=
 zim (x0:=xo noSym noOrc) (c:=c2) (h:=h2) (l:=l2) (r:=r2) (r2:=q2) (s:=s2) (t:=t2) (b:=29958) (cc:=242) (b2:=32540) (K:=100000) zis rfl rfl mk2 (by kernel_rfl) (by kernel_rfl) (by kernel_rfl) rfl (by kernel_rfl) (by kernel_rfl) (zil (by decide)) (by decide) (by decide)
  c2_run rfl (show 28923≤28923 by decide) rfl rfl rfl
  h2_run rfl (show 28923≤28923 by decide) rfl rfl rfl
  l2_run rfl (show 28923≤28923 by decide) rfl rfl rfl rfl List.mem_cons_self (zds (by kernel_rfl))
  r2_run q2_run (show 6≤32540 by decide) (show 32540<32541 by decide) rfl rfl rfl rfl rfl rfl (by kernel_rfl) rfl (by kernel_rfl)
  s2_run rfl rfl rfl rfl (by kernel_rfl) (by kernel_rfl) (by kernel_rfl) (show 28923≤35032 by decide)
  t2_run rfl rfl rfl rfl (by kernel_rfl) (by kernel_rfl) (by kernel_rfl) (show 35032≤135032 by decide) (show 6≤100000 by decide)
theorem mdl3:MdC ⟨6,noSym⟩ 3 pm3 vm3 42138 pr3 vr3 44784 ms3 :=
 zim (x0:=xo noSym noOrc) (c:=c3) (h:=h3) (l:=l3) (r:=r3) (r2:=q3) (s:=s3) (t:=t3) (b:=42676) (cc:=162) (b2:=43443) (K:=100000) zis rfl rfl mk3 (by kernel_rfl) (by kernel_rfl) (by kernel_rfl) rfl (by kernel_rfl) (by kernel_rfl) (zil (by decide)) (by decide) (by decide)
  c3_run rfl (show 42138≤42138 by decide) rfl rfl rfl
  h3_run rfl (show 42138≤42138 by decide) rfl rfl rfl
  l3_run rfl (show 42138≤42138 by decide) rfl rfl rfl rfl List.mem_cons_self (zds (by kernel_rfl))
  r3_run q3_run (show 6≤43443 by decide) (show 43443<43444 by decide) rfl rfl rfl rfl rfl rfl (by kernel_rfl) rfl (by kernel_rfl)
  s3_run rfl rfl rfl rfl (by kernel_rfl) (by kernel_rfl) (by kernel_rfl) (show 42138≤44784 by decide)
  t3_run rfl rfl rfl rfl (by kernel_rfl) (by kernel_rfl) (by kernel_rfl) (show 44784≤144784 by decide) (show 6≤100000 by decide)
theorem mdl4:MdC ⟨6,noSym⟩ 4 pm4 vm4 48043 pr4 vr4 50689 ms4 :=
 zim (x0:=xo noSym noOrc) (c:=c4) (h:=h4) (l:=l4) (r:=r4) (r2:=q4) (s:=s4) (t:=t4) (b:=48581) (cc:=162) (b2:=49348) (K:=100000) zis rfl rfl mk4 (by kernel_rfl) (by kernel_rfl) (by kernel_rfl) rfl (by kernel_rfl) (by kernel_rfl) (zil (by decide)) (by decide) (by decide)
  c4_run rfl (show 48043≤48043 by decide) rfl rfl rfl
  h4_run rfl (show 48043≤48043 by decide) rfl rfl rfl
  l4_run rfl (show 48043≤48043 by decide) rfl rfl rfl rfl List.mem_cons_self (zds (by kernel_rfl))
  r4_run q4_run (show 6≤49348 by decide) (show 49348<49349 by decide) rfl rfl rfl rfl rfl rfl (by kernel_rfl) rfl (by kernel_rfl)
  s4_run rfl rfl rfl rfl (by kernel_rfl) (by kernel_rfl) (by kernel_rfl) (show 48043≤50689 by decide)
  t4_run rfl rfl rfl rfl (by kernel_rfl) (by kernel_rfl) (by kernel_rfl) (show 50689≤150689 by decide) (show 6≤100000 by decide)
theorem mdl5:MdC ⟨6,noSym⟩ 5 pm5 vm5 63967 pr5 vr5 65873 ms5 :=
 zim (x0:=xo noSym noOrc) (c:=c5) (h:=h5) (l:=l5) (r:=r5) (r2:=q5) (s:=s5) (t:=t5) (b:=64312) (cc:=100) (b2:=65045) (K:=100000) zis rfl rfl mk5 (by kernel_rfl) (by kernel_rfl) (by kernel_rfl) rfl (by kernel_rfl) (by kernel_rfl) (zil (by decide)) (by decide) (by decide)
  c5_run rfl (show 63967≤63967 by decide) rfl rfl rfl
  h5_run rfl (show 63967≤63967 by decide) rfl rfl rfl
  l5_run rfl (show 63967≤63967 by decide) rfl rfl rfl rfl List.mem_cons_self (zds (by kernel_rfl))
  r5_run q5_run (show 6≤65045 by decide) (show 65045<65046 by decide) rfl rfl rfl rfl rfl rfl (by kernel_rfl) rfl (by kernel_rfl)
  s5_run rfl rfl rfl rfl (by kernel_rfl) (by kernel_rfl) (by kernel_rfl) (show 63967≤65873 by decide)
  t5_run rfl rfl rfl rfl (by kernel_rfl) (by kernel_rfl) (by kernel_rfl) (show 65873≤165873 by decide) (show 6≤100000 by decide)
theorem mdl6:MdC ⟨6,noSym⟩ 6 pm6 vm6 71465 pr6 vr6 73305 ms6 :=
 zim (x0:=xo noSym noOrc) (c:=c6) (h:=h6) (l:=l6) (r:=r6) (r2:=q6) (s:=s6) (t:=t6) (b:=71791) (cc:=94) (b2:=72499) (K:=100000) zis rfl rfl mk6 (by kernel_rfl) (by kernel_rfl) (by kernel_rfl) rfl (by kernel_rfl) (by kernel_rfl) (zil (by decide)) (by decide) (by decide)
  c6_run rfl (show 71465≤71465 by decide) rfl rfl rfl
  h6_run rfl (show 71465≤71465 by decide) rfl rfl rfl
  l6_run rfl (show 71465≤71465 by decide) rfl rfl rfl rfl List.mem_cons_self (zds (by kernel_rfl))
  r6_run q6_run (show 6≤72499 by decide) (show 72499<72500 by decide) rfl rfl rfl rfl rfl rfl (by kernel_rfl) rfl (by kernel_rfl)
  s6_run rfl rfl rfl rfl (by kernel_rfl) (by kernel_rfl) (by kernel_rfl) (show 71465≤73305 by decide)
  t6_run rfl rfl rfl rfl (by kernel_rfl) (by kernel_rfl) (by kernel_rfl) (show 73305≤173305 by decide) (show 6≤100000 by decide)
theorem mdN:MdN ⟨6,noSym⟩ 7 pm7 vm7 75389 :=
 ⟨rfl,mk7,⟨10,by decide,zpn zis rfl c7_run rfl (show 75389≤75389 by decide) rfl rfl rfl⟩,⟨10,by decide,zpn zis rfl h7_run rfl (show 75389≤75389 by decide) rfl rfl rfl⟩⟩
def pmF:Nat→PL
 | 0=>pm0
 | 1=>pm1
 | 2=>pm2
 | 3=>pm3
 | 4=>pm4
 | 5=>pm5
 |_=>pm6
def vmF:Nat→List Value
 | 0=>vm0
 | 1=>vm1
 | 2=>vm2
 | 3=>vm3
 | 4=>vm4
 | 5=>vm5
 |_=>vm6
def prF:Nat→PL
 | 0=>pr0
 | 1=>pr1
 | 2=>pr2
 | 3=>pr3
 | 4=>pr4
 | 5=>pr5
 |_=>pr6
def vrF:Nat→List Value
 | 0=>vr0
 | 1=>vr1
 | 2=>vr2
 | 3=>vr3
 | 4=>vr4
 | 5=>vr5
 |_=>vr6
def msF:Nat→List Int
 | 0=>ms0
 | 1=>ms1
 | 2=>ms2
 | 3=>ms3
 | 4=>ms4
 | 5=>ms5
 |_=>ms6
def nmF:Nat→Nat
 | 0=>2499
 | 1=>12935
 | 2=>28923
 | 3=>42138
 | 4=>48043
 | 5=>63967
 |_=>71465
def nrF:Nat→Nat
 | 0=>4778
 | 1=>17447
 | 2=>35032
 | 3=>44784
 | 4=>50689
 | 5=>65873
 |_=>73305
theorem mdls:∀ i:Nat,i<7→MdC ⟨6,noSym⟩ (i:Int) (pmF i) (vmF i) (nmF i) (prF i) (vrF i) (nrF i) (msF i)
 | 0,_=>mdl0
 | 1,_=>mdl1
 | 2,_=>mdl2
 | 3,_=>mdl3
 | 4,_=>mdl4
 | 5,_=>mdl5
 | 6,_=>mdl6
 |i+7,h=>absurd h (by omega)
theorem difB:((List.range 7).all fun i=>(List.range 7).all fun j=>Nat.beq i j || !(decide (msF i=msF j)))=true:=by kernel_rfl
theorem dif:∀ i:Nat,i<7→∀ j:Nat,j<7→msF i=msF j→i=j:=fun i hi j hj e=>by
 have h1:=List.all_eq_true.1 (List.all_eq_true.1 difB i (List.mem_range.2 hi)) j (List.mem_range.2 hj)
 rw[decide_eq_true e] at h1
 simpa using h1
theorem is0:Oc.IsOk Oc.nmA:=Oc.is_A
theorem is1:Oc.IsOk Oc.nmB:=Oc.is_B
theorem is2:Oc.IsOk Oc.nmC:=Oc.is_C
theorem isNo (W:World):Calls Tryz.prog 27 #[.string Oc.nm1] W fun e w'=>e = .returned (.bool false)∧Below W.heap.size W w' :=
 CX.gives1_run (x:=xo noSym noOrc) zis CX.noSym_one (show CX.gives1 (xo noSym noOrc) 100000 27 [.string Oc.nm1] (.bool false)=true by kernel_rfl) rfl rfl W
theorem is_:∀ n,n<3→Oc.IsOk (Oc.nmOf n)
 | 0,_=>is0
 | 1,_=>is1
 | 2,_=>is2
 |n+3,h=>absurd h (by omega)
theorem lawH:Oc.LawH (PMo ⟨6,noSym⟩ pmF vmF nmF msF) (PRo ⟨6,noSym⟩ prF vrF nrF msF) (Mo msF):=zxr _ _ _ _ _ _ _ _ mdls mdN dif is_ isNo
end Go.Proofs.YtmejdkniafjncaaGreatDoor.Mv
