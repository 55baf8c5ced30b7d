/- Part 25. -/
import Derived.Test.YtpfnkbnepcchgaaGreatDoorKTOAX
set_option linter.unusedSimpArgs false
set_option linter.unusedVariables false
section
namespace Go.Proofs.Yy.PTx
open Go.RowKit Go.Proofs.Yw.PrintWords Go.Proofs.Yw.PrintLast Go.Proofs.Yw.PrintMore Go.Proofs.Yy.M Go.Proofs.Yy.NM
attribute [local irreducible] fK iG ji kQ val
theorem xO {a y q t:Int}(h:a=q*y+t)(h0:0≤t)(h1:t<y):a / y=q∧a % y=t:=by
 have e:a=t+y*q:=by rw[h,Int.mul_comm];omega
 rw[e,Int.add_mul_ediv_left _ _ (by omega),Int.add_mul_emod_self_left,Int.ediv_eq_zero_of_lt h0 h1,Int.emod_eq_of_lt h0 h1];exact⟨by omega,rfl⟩
theorem abp {x y:Int}(h:0≤x)(hx:x≤18446744073709551615)(hy:0<y):IntKind.u64.wrap (Int.tdiv x y)=x / y:=by
 rw[Int.tdiv_eq_ediv_of_nonneg h];have h1:=Int.ediv_nonneg h (Int.le_of_lt hy);have h2:=Int.ediv_le_self y h;exact tJ h1 (by omega)
theorem CS {q y1 y0 Y:Int}(hY:Y=y1*4294967296+y0):q*Y=q*y1*4294967296+q*y0:=by rw[hY];grind
theorem uo (q y:Int):(q-1)*y=q*y-y:=by grind
theorem FH {q r y1 y0 Y u u1 P S:Int}(hP:P=q*y1)(hS:S=q*y0)(hY:Y=y1*4294967296+y0)(y1b:2147483648≤y1∧y1<4294967296)(y0b:0≤y0∧y0<4294967296)(hu:0≤u)(hu1:u<Y)(h1:0≤u1∧u1<4294967296)
  (hq:0≤q∧q≤4294967297) (hr:r=u-P) (hr0:0≤r) (hr1:r<4294967296) (hT:r*4294967296+u1-S<Y) :
  (4294967296≤q→r*4294967296+u1-S<0)∧(q<4294967296→0≤S∧S≤18446744065119617025):=by
 refine⟨fun hc=>?_,fun hc=>?_⟩
 ·have h2:4294967296*Y≤q*Y:=Int.mul_le_mul_of_nonneg_right hc (by omega)
  have h3:=CS (q:=q) hY;rw[← hP, ← hS]at h3
  omega
 ·rw[hS]
  exact⟨Int.mul_nonneg hq.1 y0b.1,uk (m:=4294967295) hq.1 y0b.1 (by omega) (by omega)⟩
theorem CY {q r y1 y0 Y u u1 P S:Int}(hP:P=q*y1)(hS:S=q*y0)(hY:Y=y1*4294967296+y0)(y0b:0≤y0∧y0<4294967296)(h1:0≤u1)(hq:q≤4294967297)(hr:r+y1≥4294967296) :
  0≤(r+y1)*4294967296+u1-(S-y0):=by
 have h2:(q-1)*y0≤4294967296*y0:=Int.mul_le_mul_of_nonneg_right (by omega) y0b.1;rw[uo, ← hS]at h2
 omega
theorem CZ {q r y1 y0 u1 S:Int}(hS:S=q*y0)(hq:0≤q)(hr:0≤r)(h1:0≤u1)(hT:r*4294967296+u1-S<0):1≤q:=by
 by_cases h:q=0
 ·subst h;rw[Int.zero_mul]at hS;omega
 ·omega
theorem YB {Y s y1 y0 u u1 u0:Int}(hY:Y=y1*4294967296+y0)(y1b:2147483648≤y1∧y1<4294967296)(y0b:0≤y0∧y0<4294967296)(hu:0≤u)(hu1:u<Y)(h1:0≤u1∧u1<4294967296){R:Int × Int}
  (next:∀ q t,u*4294967296+u1=q*Y+t→0≤t→t<Y→0≤q→q≤4294967297→Ev (fun k=>aK.j2 k Y s y1 y0 u u1 u0 q) R):∀ (m:Nat) (q r P S:Int),q.toNat≤m→0≤q→q≤4294967297→P=q*y1→S=q*y0→r=u-P→0≤r→r<4294967296 →
  r*4294967296+u1-S<Y→Ev (fun k=>aK.l0 k Y s y1 y0 u u1 u0 q r) R:=by
 have fin:∀ (q r P S:Int),0≤q→q≤4294967297→P=q*y1→S=q*y0→r=u-P→0≤r*4294967296+u1-S→r*4294967296+u1-S<Y→Ev (fun k=>aK.j2 k Y s y1 y0 u u1 u0 q) R:=by
  intro q r P S hq hq1 hP hS hr ht ht1;refine next q (r*4294967296+u1-S) ?_ ht ht1 hq hq1;have h3:=CS (q:=q) hY;rw[← hP, ← hS]at h3
  omega
 intro m
 induction m with
 | zero =>
  intro q r P S hm hq hq1 hP hS hr hr0 hr1 hT
  obtain rfl:q=0:=by omega
  rw[Int.zero_mul]at hS;refine Ev.step (f:=fun k=>aK.j1 k Y s y1 y0 u u1 u0 0 r false) (fun k=>?_) (Ev.step (fun k=>?_) (fin 0 r P S hq hq1 hP (by rw[Int.zero_mul];exact hS) hr (by omega) hT))
  ·simp only[aK.l0]
   rw[if_neg (by decide),Int.zero_mul]
   congr 1
   refine decide_eq_false ?_;rw[tJ (x:=0) (by decide) (by decide),tJ (x:=4294967296*r) (by omega) (by omega),tJ (by omega) (by omega)]
   omega
  ·simp only[aK.j1]
   rw[if_neg (by decide)]
 | succ m ih =>
  intro q r P S hm hq hq1 hP hS hr hr0 hr1 hT;obtain⟨t1,t2⟩:=FH hP hS hY y1b y0b hu hu1 h1 ⟨hq,hq1⟩ hr hr0 hr1 hT
  have yes:r*4294967296+u1-S<0→Ev (fun k=>aK.j1 k Y s y1 y0 u u1 u0 q r true) R:=by
   intro hlt;have hq2:=CZ (y1:=y1) hS hq hr0 h1.1 hlt
   have hw:ae (IntKind.u64.wrap (q-1)=q-1):=⟨tJ (by omega) (by omega)⟩
   have hw2:ae (IntKind.u64.wrap (r+y1)=r+y1):=⟨tJ (by omega) (by omega)⟩
   have hP':P-y1=(q-1)*y1:=by rw[uo,hP]
   have hS':S-y0=(q-1)*y0:=by rw[uo,hS]
   by_cases hb:4294967296≤r+y1
   ·have hn:=CY (u:=u) hP hS hY y0b h1.1 hq1 hb
    refine Ev.step (fun k=>?_) (fin (q-1) (r+y1) (P-y1) (S-y0) (by omega) (by omega) hP' hS' (by omega) hn (by omega));simp only[aK.j1];rw[if_pos trivial,hw2.out,if_pos (by omega),hw.out]
   ·refine Ev.step (fun k=>?_) (ih (q-1) (r+y1) (P-y1) (S-y0) (by omega) (by omega) (by omega) hP' hS' (by omega) (by omega) (by omega) (by omega))
    simp only[aK.j1];rw[if_pos trivial,hw2.out,if_neg (by omega),hw.out]
  by_cases hc:4294967296≤q
  ·refine Ev.step (fun k=>?_) (yes (t1 hc))
   simp only[aK.l0];rw[if_pos (by omega)]
  ·obtain⟨s0,s1⟩:=t2 (by omega)
   have hw:ae (IntKind.u64.wrap (q*y0)=S):=⟨by rw[← hS];exact tJ (by omega) (by omega)⟩
   have hw2:ae (IntKind.u64.wrap (IntKind.u64.wrap (4294967296*r)+u1)=4294967296*r+u1):=⟨by rw[tJ (x:=4294967296*r) (by omega) (by omega),tJ (by omega) (by omega)]⟩
   by_cases hlt:r*4294967296+u1-S<0
   ·refine Ev.step (fun k=>?_) (yes hlt)
    simp only[aK.l0];rw[if_neg (by omega),hw.out,hw2.out,decide_eq_true (by omega)]
   ·refine Ev.step (f:=fun k=>aK.j1 k Y s y1 y0 u u1 u0 q r false) (fun k=>?_) (Ev.step (fun k=>?_) (fin q r P S hq hq1 hP hS hr (by omega) hT))
    ·simp only[aK.l0]
     rw[if_neg (by omega),hw.out,hw2.out,decide_eq_false (by omega)]
    ·simp only[aK.j1]
     rw[if_neg (by decide)]
theorem XG {Y s y1 y0 u u1 q1:Int}(hs:0≤s)(hY:Y=y1*4294967296+y0)(y1b:2147483648≤y1∧y1<4294967296)(y0b:0≤y0∧y0<4294967296)(hu:0≤u)(hu1:u<Y)(h1:0≤u1∧u1<4294967296){R:Int × Int}
  (next:∀ q t,u*4294967296+u1=q*Y+t→0≤t→t<Y→0≤q→q≤4294967297→(IntKind.u64.wrap (IntKind.u64.wrap (q1*4294967296)+q),shr .u64 (IntKind.u64.wrap (IntKind.u64.wrap (IntKind.u64.wrap (u*4294967296)+u1)-IntKind.u64.wrap (q*Y))) s)=R):∀ (m:Nat) (q r P S:Int),q.toNat≤m→0≤q→q≤4294967297→P=q*y1→S=q*y0→r=u-P→0≤r→r<4294967296 →
  r*4294967296+u1-S<Y→Ev (fun k=>aK.l1 k Y s y1 y0 u1 q1 r u q) R:=by
 have fin:∀ (q r P S:Int),0≤q→q≤4294967297→P=q*y1→S=q*y0→r=u-P→0≤r*4294967296+u1-S→r*4294967296+u1-S<Y→(IntKind.u64.wrap (IntKind.u64.wrap (q1*4294967296)+q),shr .u64 (IntKind.u64.wrap (IntKind.u64.wrap (IntKind.u64.wrap (u*4294967296)+u1)-IntKind.u64.wrap (q*Y))) s)=R:=by
  intro q r P S hq hq1 hP hS hr ht ht1;refine next q (r*4294967296+u1-S) ?_ ht ht1 hq hq1;have h3:=CS (q:=q) hY;rw[← hP, ← hS]at h3
  omega
 intro m
 induction m with
 | zero =>
  intro q r P S hm hq hq1 hP hS hr hr0 hr1 hT
  obtain rfl:q=0:=by omega
  rw[Int.zero_mul]at hS;have hf:=fin 0 r P S hq hq1 hP (by rw[Int.zero_mul];exact hS) hr (by omega) hT;refine Ev.step (f:=fun k=>aK.j4 k Y s y1 y0 u1 q1 r u 0 false) (fun k=>?_) (Ev.step (f:=fun _=>some R) (fun k=>?_) (Ev.now _))
  ·simp only[aK.l1]
   rw[if_neg (by decide),Int.zero_mul]
   congr 1
   refine decide_eq_false ?_;rw[tJ (x:=0) (by decide) (by decide),tJ (x:=4294967296*r) (by omega) (by omega),tJ (by omega) (by omega)]
   omega
  ·simp only[aK.j4]
   rw[if_neg (by decide),if_pos hs,hf]
 | succ m ih =>
  intro q r P S hm hq hq1 hP hS hr hr0 hr1 hT;obtain⟨t1,t2⟩:=FH hP hS hY y1b y0b hu hu1 h1 ⟨hq,hq1⟩ hr hr0 hr1 hT
  have yes:r*4294967296+u1-S<0→Ev (fun k=>aK.j4 k Y s y1 y0 u1 q1 r u q true) R:=by
   intro hlt;have hq2:=CZ (y1:=y1) hS hq hr0 h1.1 hlt
   have hw:ae (IntKind.u64.wrap (q-1)=q-1):=⟨tJ (by omega) (by omega)⟩
   have hw2:ae (IntKind.u64.wrap (r+y1)=r+y1):=⟨tJ (by omega) (by omega)⟩
   have hP':P-y1=(q-1)*y1:=by rw[uo,hP]
   have hS':S-y0=(q-1)*y0:=by rw[uo,hS]
   by_cases hb:4294967296≤r+y1
   ·have hn:=CY (u:=u) hP hS hY y0b h1.1 hq1 hb
    have hf:=fin (q-1) (r+y1) (P-y1) (S-y0) (by omega) (by omega) hP' hS' (by omega) hn (by omega);refine Ev.step (f:=fun _=>some R) (fun k=>?_) (Ev.now _);simp only[aK.j4];rw[if_pos trivial,hw2.out,if_pos (by omega),if_pos hs,hw.out,hf]
   ·refine Ev.step (fun k=>?_) (ih (q-1) (r+y1) (P-y1) (S-y0) (by omega) (by omega) (by omega) hP' hS' (by omega) (by omega) (by omega) (by omega))
    simp only[aK.j4];rw[if_pos trivial,hw2.out,if_neg (by omega),hw.out]
  by_cases hc:4294967296≤q
  ·refine Ev.step (fun k=>?_) (yes (t1 hc))
   simp only[aK.l1];rw[if_pos (by omega)]
  ·obtain⟨s0,s1⟩:=t2 (by omega)
   have hw:ae (IntKind.u64.wrap (q*y0)=S):=⟨by rw[← hS];exact tJ (by omega) (by omega)⟩
   have hw2:ae (IntKind.u64.wrap (IntKind.u64.wrap (4294967296*r)+u1)=4294967296*r+u1):=⟨by rw[tJ (x:=4294967296*r) (by omega) (by omega),tJ (by omega) (by omega)]⟩
   by_cases hlt:r*4294967296+u1-S<0
   ·refine Ev.step (fun k=>?_) (yes hlt)
    simp only[aK.l1];rw[if_neg (by omega),hw.out,hw2.out,decide_eq_true (by omega)]
   ·have hf:=fin q r P S hq hq1 hP hS hr (by omega) hT
    refine Ev.step (f:=fun k=>aK.j4 k Y s y1 y0 u1 q1 r u q false) (fun k=>?_) (Ev.step (f:=fun _=>some R) (fun k=>?_) (Ev.now _))
    ·simp only[aK.l1]
     rw[if_neg (by omega),hw.out,hw2.out,decide_eq_false (by omega)]
    ·simp only[aK.j4]
     rw[if_neg (by decide),if_pos hs,hf]
theorem CG {u y1 y0 Y u1:Int}(hY:Y=y1*4294967296+y0)(y1b:2147483648≤y1∧y1<4294967296)(y0b:0≤y0∧y0<4294967296)(hu:0≤u)(hu1:u<Y)(h1:0≤u1∧u1<4294967296) :
  0≤u / y1∧u / y1≤4294967297∧0≤u-u / y1*y1∧u-u / y1*y1<4294967296∧(u-u / y1*y1)*4294967296+u1-u / y1*y0<Y:=by
 have h2:=Int.mul_ediv_add_emod u y1;have h3:=Int.emod_nonneg u (show y1≠0 by omega);have h4:=Int.emod_lt_of_pos u (show 0<y1 by omega);have h5:0≤u / y1:=Int.ediv_nonneg hu (by omega);have h6:u / y1<4294967298:=Int.ediv_lt_of_lt_mul (by omega) (by omega);have h7:0≤u / y1*y0:=Int.mul_nonneg h5 y0b.1;rw[Int.mul_comm y1]at h2;exact⟨h5,by omega,by omega,by omega,by omega⟩
theorem FY {u u1 q Y t:Int}(h:u*4294967296+u1=q*Y+t)(h0:0≤t)(h1:t<18446744073709551616) :
  IntKind.u64.wrap (IntKind.u64.wrap (IntKind.u64.wrap (u*4294967296)+u1)-IntKind.u64.wrap (q*Y))=t:=by
 generalize q*Y=Q at *;rw[IntKind.wrap_u64,IntKind.wrap_u64,IntKind.wrap_u64,IntKind.wrap_u64]
 omega
theorem PI {Y s y1 y0 u a1 a0:Int}(hs:0≤s)(hY:Y=y1*4294967296+y0)(y1b:2147483648≤y1∧y1<4294967296)(y0b:0≤y0∧y0<4294967296)(hu:0≤u)(hu1:u<Y)(h1:0≤a1∧a1<4294967296)(h0:0≤a0∧a0<4294967296) :
  Ev (fun k=>aK.l0 k Y s y1 y0 u a1 a0 (u / y1) (u-u / y1*y1)) ((u*18446744073709551616+a1*4294967296+a0) / Y,shr .u64 ((u*18446744073709551616+a1*4294967296+a0) % Y) s):=by
 obtain⟨f1,f2,f3,f4,f5⟩:=CG hY y1b y0b hu hu1 h1;refine YB hY y1b y0b hu hu1 h1 ?_ _ (u / y1) (u-u / y1*y1) _ _ (Nat.le_refl _) f1 f2 rfl rfl rfl f3 f4 f5;intro q t e t0 t1 q0 q1
 have hYB:Y<18446744073709551616:=by omega
 have hw:=FY e t0 (by omega);obtain⟨g1,g2,g3,g4,g5⟩:=CG hY y1b y0b t0 t1 h0;have hd:=abp t0 (by omega) (show 0<y1 by omega);refine Ev.step (f:=fun k=>aK.l1 k Y s y1 y0 a0 q (t-t / y1*y1) t (t / y1)) (fun k=>?_) (XG hs hY y1b y0b t0 t1 h0 ?_ _ (t / y1) (t-t / y1*y1) _ _ (Nat.le_refl _) g1 g2 rfl rfl rfl g3 g4 g5)
 ·simp only[aK.j2]
  have hP:0≤t / y1*y1:=Int.mul_nonneg g1 (by omega);rw[if_neg (by omega),hw,hd];rw[tJ (x:=t / y1*y1) hP (by omega),tJ (x:=t-t / y1*y1) g3 (by omega)]
 ·intro q' t' e' t0' t1' q0' q1'
  rw[FY e' t0' (by omega)]
  have he:u*18446744073709551616+a1*4294967296+a0=(q*4294967296+q')*Y+t':=by
   have:(q*4294967296+q')*Y=q*Y*4294967296+q' * Y:=by grind
   rw[this]
   omega
  obtain⟨x1,x2⟩:=xO he t0' t1';rw[x1,x2]
  have hq:q*4294967296+q'<18446744073709551616:=by
   rw[← x1];exact Int.ediv_lt_of_lt_mul (by omega) (by omega)
  rw[tJ (x:=q*4294967296) (by omega) (by omega),tJ (by omega) (by omega)]
theorem afV {x:Int}(h0:0≤x)(h1:x<B):Ev (fun k=>bits_LeadingZeros64.f k x) (((64-bl x:Nat):Nat):Int):=by
 have hb:bl x≤64:=O0 (by rw[Dv];exact h1);refine Ev.congr (f:=fun k=>(bits_Len64.f k x).bind fun t=>some (wrap64 (64-t))) (fun k=>by unfold bits_LeadingZeros64.f;rfl) (Ev.congr (fun k=>rfl) (Ev.bind (OA h0 h1) ?_))
 have e:wrap64 (64-((bl x:Nat):Int))=(((64-bl x:Nat):Nat):Int):=by rw[w64 (by omega) (by omega)];omega
 rw[e];exact Ev.now _
theorem ZR {y:Int}(h0:0<y)(h1:y<B):9223372036854775808≤y*pw 2 (64-bl y)∧y*pw 2 (64-bl y)<18446744073709551616∧1≤bl y∧bl y≤64:=by
 have hb:bl y≤64:=O0 (by rw[Dv];exact h1)
 have hb1:1≤bl y:=by rw[Di h0];omega
 have hp:=jL (64-bl y);have hd:y / pw 2 (bl y)=0:=Aa abI (by omega)
 have hlt:y<pw 2 (bl y):=by
  have:=Int.mul_ediv_add_emod y (pw 2 (bl y));have:=Int.emod_lt_of_pos y (jL (bl y));rw[hd,Int.mul_zero]at *
  omega
 have hle:pw 2 (bl y-1)≤y:=FT abI h0
 have e1:pw 2 (bl y)*pw 2 (64-bl y)=18446744073709551616:=by rw[← uh, ← AX (s:=bl y) hb]
 have e2:pw 2 (bl y-1)*pw 2 (64-bl y)=9223372036854775808:=by
  rw[← qA,show bl y-1+(64-bl y)=63 by omega,uq];decide
 refine⟨?_,?_,hb1,hb⟩
 ·rw[← e2];exact Int.mul_le_mul_of_nonneg_right hle (by omega)
 ·rw[← e1];exact Int.mul_lt_mul_of_pos_right hlt hp
theorem N9 {hi lo y:Int}(h0:0≤hi)(h1:hi<y)(hy:y<B)(l0:0≤lo)(l1:lo<B):Ev (fun k=>aK.f k hi lo y) ((hi*B+lo) / y,(hi*B+lo) % y):=by
 by_cases hz:hi=0
 ·subst hz
  rw[Int.zero_mul,Int.zero_add];refine Ev.congr (f:=fun _=>some (lo / y,lo % y)) (fun k=>?_) (Ev.now _);unfold aK.f;rw[uh]at l1;rw[if_neg (by omega),if_neg (by omega),if_pos rfl,abp l0 (by omega) (by omega),Int.tmod_eq_emod_of_nonneg l0]
 ·obtain⟨n1,n2,n3,n4⟩:=ZR (show 0<y by omega) hy
  have hs1:64-bl y≤63:=by omega
  generalize hs:64-bl y=s at *;have hP:=jL s;have hQ:=jL (64-s);have hPQ:=AX (s:=s) (by omega);have lv:=Ev.congr (f:=fun k=>bits_LeadingZeros64.f k y) (fun k=>rfl) (afV (x:=y) (by omega) hy);rw[hs]at lv;obtain⟨d1,d2,d3,d4,d5,d6⟩:=Fh hP hQ l0 (by rw[hPQ];exact l1);rw[hPQ]at d1 d3 d4;have hhi:hi*pw 2 s<y*pw 2 s:=Int.mul_lt_mul_of_pos_right h1 hP;have hhi1:(hi+1)*pw 2 s≤y*pw 2 s:=Int.mul_le_mul_of_nonneg_right (by omega) (by omega);rw[Int.add_mul,Int.one_mul]at hhi1;have hhi0:0≤hi*pw 2 s:=Int.mul_nonneg h0 (by omega)
  have eY:shl .u64 y (s:Int)=y*pw 2 s:=by rw[xX _ (by omega)];exact Int.emod_eq_of_lt (by omega) (by rw[uh];omega)
  have eH:shl .u64 hi (s:Int)=hi*pw 2 s:=by rw[xX _ (by omega)];exact Int.emod_eq_of_lt (by omega) (by rw[uh];omega)
  have eL:shl .u64 lo (s:Int)=lo*pw 2 s % B:=xX _ (by omega);have eW:IntKind.u64.wrap (s:Int)=(s:Int):=tJ (by omega) (by omega)
  have eV:IntKind.u64.wrap (64-(s:Int))=((64-s:Nat):Int):=by rw[tJ (by omega) (by omega)];omega
  have eR:shr .u64 lo ((64-s:Nat):Int)=lo / pw 2 (64-s):=ww _ (by omega)
  have eO:Go.bits .or .u64 (hi*pw 2 s) (lo / pw 2 (64-s))=hi*pw 2 s+lo / pw 2 (64-s) :=
   GY (i:=s) hhi0 (Int.mul_emod_left _ _) (by rw[uh];omega) d5 d6 (by have:=NI (i:=s) (by omega);omega)
  have aF2:0≤lo*pw 2 s % B:=Int.emod_nonneg _ (by have:=jw;omega)
  have aF3:lo*pw 2 s % B<18446744073709551616:=by rw[← uh];exact Int.emod_lt_of_pos _ jw
  have eA:(hi*pw 2 s+lo / pw 2 (64-s))*18446744073709551616+(lo*pw 2 s % B)=(hi*B+lo)*pw 2 s:=by
   rw[Int.add_mul (hi*B),d1]
   have:hi*B*pw 2 s=hi*pw 2 s*B:=by grind
   rw[this,uh]
   have:(lo*pw 2 s % 18446744073709551616+18446744073709551616*(lo / pw 2 (64-s))) % 18446744073709551616=lo*pw 2 s % 18446744073709551616:=by omega
   omega
  generalize hYd:y*pw 2 s=Y at *;generalize hud:hi*pw 2 s+lo / pw 2 (64-s)=u at *;generalize had:lo*pw 2 s % B=a at *
  have hu0:0≤u:=by omega
  have hu1:u<Y:=by omega
  have core:=PI (Y:=Y) (s:=(s:Int)) (y1:=Y / 4294967296) (y0:=Y % 4294967296) (u:=u) (a1:=a / 4294967296) (a0:=a % 4294967296) (by omega) (by omega) (by omega) (by omega) hu0 hu1 (by omega) (by omega)
  have eN:u*18446744073709551616+a / 4294967296*4294967296+a % 4294967296=(hi*B+lo)*pw 2 s:=by rw[← eA];omega
  rw[eN, ← hYd,Int.mul_ediv_mul_of_pos_left _ _ hP,Lm hP,ww _ (by omega),Int.mul_ediv_cancel _ (show pw 2 s≠0 by omega),hYd]at core;have hP1:0≤u / (Y / 4294967296)*(Y / 4294967296):=Int.mul_nonneg (Int.ediv_nonneg hu0 (by omega)) (by omega);have hP2:=Int.mul_ediv_add_emod u (Y / 4294967296);have hP3:=Int.emod_nonneg u (show Y / 4294967296≠0 by omega);rw[Int.mul_comm (Y / 4294967296)]at hP2;refine Ev.congr (fun k=>by unfold aK.f;rw[if_neg (by omega),if_neg (by omega),if_neg hz]) (Ev.bind lv ?_);refine Ev.congr (fun k=>?_) core;rw[eW,if_pos (by omega),eV,if_pos (by omega),eY,eH,eL,eR,eO,if_neg (by omega),abp hu0 (by omega) (by omega),vJ (by omega) (by omega),vJ aF2 aF3];rw[tJ (x:=u / (Y / 4294967296)*(Y / 4294967296)) hP1 (by omega),tJ (x:=u-u / (Y / 4294967296)*(Y / 4294967296)) (by omega) (by omega)]
theorem Af (l:List Int)(i:Nat)(h:i<l.length):l.drop i=l.getD i 0::l.drop (i+1):=by
 rw[List.drop_eq_getElem_cons h,List.getD_eq_getElem?_getD,List.getElem?_eq_getElem h];rfl
theorem uD (l:List Int)(i:Nat)(v:Int)(h:i<l.length):(l.set i v).drop i=v::l.drop (i+1):=by
 rw[Af _ i (by simpa using h),ry l i v h]
 congr 1
 rw[List.drop_set_of_lt (by omega)]
theorem FW {b a r d q t V Q:Int}(h:r*b+a=q*d+t)(hv:V=Q*d+r):a+b*V=(q+b*Q)*d+t:=by grind
theorem XX {l:List Int}(hl:Dig B l)(hL:l.length≤1099511627775){d:Int}(d0:0<d)(d1:d<B):∀ (i:Nat) (x:List Int) (r:Int),i≤l.length→x.length=l.length→Dig B x→0≤r→r<d→val B (l.drop i)=val B (x.drop i)*d+r →
  Ev (fun k=>iO.l0 k l d x r ((i:Int)-1)) (enc B (val B l / d),val B l % d):=by
 intro i
 induction i with
 | zero =>
  intro x r hi hx hd r0 r1 hv;rw[List.drop_zero,List.drop_zero]at hv;obtain⟨e1,e2⟩:=xO hv r0 r1;rw[e1,e2];refine Ev.step (f:=fun k=>(bH.f k x).bind fun t=>some (t,r)) (fun k=>?_) (Ev.bind (og hd (by omega)) (Ev.now _));simp only[iO.l0];rw[if_neg (by omega)]
 | succ i ih =>
  intro x r hi hx hd r0 r1 hv;have hg:=hl.get jw i;have hD:=N9 r0 r1 d1 hg.1 hg.2
  have hn:0≤r*B+l.getD i 0:=by have:=Int.mul_nonneg r0 (Int.le_of_lt jw);omega
  have q0:0≤(r*B+l.getD i 0) / d:=Int.ediv_nonneg hn (by omega);have hrb:(r+1)*B≤d*B:=Int.mul_le_mul_of_nonneg_right (by omega) (Int.le_of_lt jw);rw[Int.add_mul,Int.one_mul]at hrb;have q1:(r*B+l.getD i 0) / d<B:=Int.ediv_lt_of_lt_mul d0 (by rw[Int.mul_comm B];omega);have t0:=Int.emod_nonneg (r*B+l.getD i 0) (show d≠0 by omega);have t1:=Int.emod_lt_of_pos (r*B+l.getD i 0) d0;have he:=Int.mul_ediv_add_emod (r*B+l.getD i 0) d;generalize (r*B+l.getD i 0) / d=q at *;generalize (r*B+l.getD i 0) % d=t at *
  have hw:ae (wrap64 (((i+1:Nat):Int)-1-1)=(i:Int)-1):=⟨by rw[w64 (by omega) (by omega)];omega⟩
  have hw1:ae (((i+1:Nat):Int)-1=(i:Int)):=⟨by omega⟩
  have hlt:i<x.length:=by omega
  refine Ev.step (f:=fun k=>(aK.f k r (l.getD i 0) d).bind fun b=>if (i:Int)<(x.length:Int) then iO.l0 k l d (x.set i b.1) b.2 ((i:Int)-1) else none) (fun k=>?_) (Ev.bind hD ?_)
  ·simp only[iO.l0]
   rw[if_pos (by omega),if_pos (by omega),if_pos (by omega),hw.out,hw1.out,eF]
   rfl
  ·refine Ev.congr (fun k=>by rw[if_pos (by omega)]) (ih (x.set i q) t (by omega) (by simpa using hx) (hd.set q0 q1) t0 t1 ?_)
   rw[uD x i q hlt,Af l i (by omega),jm,jm];exact FW (by rw[← he,Int.mul_comm d]) hv
theorem X0 {l:List Int}(hl:Dig B l)(hL:l.length≤1099511627775){d:Int}(d0:0<d)(d1:d<B):Ev (fun k=>iO.f k l d) (enc B (val B l / d),val B l % d):=by
 have:=XX hl hL d0 d1 l.length (List.replicate l.length 0) 0 (Nat.le_refl _) (by simp) (Dig.zeros jw _) (Int.le_refl _) d0 (by simp[val]);refine Ev.congr (fun k=>?_) this;unfold iO.f;rw[if_pos (by omega),Int.toNat_natCast,if_pos (by omega),w64 (by omega) (by omega)]
theorem abo {q d1 d0 b:Int}:q*(d1*b+d0)=q*d1*b+q*d0:=by grind
theorem afY {u0 d1 d0:Int}(hu0:0≤u0∧u0<B)(hd1:0<d1∧d1<B)(hd0:0≤d0∧d0<B)(U:Int):∀ (m:Nat) (q r:Int),q.toNat≤m→0≤q→q<B→0≤r→r<B→U=(q*d1+r)*B+u0→U<(q+1)*(d1*B+d0) →
  ∃ g,Ev (fun k=>bK.l0 k u0 d1 d0 q r) g∧0≤g∧g<B∧U<(g+1)*(d1*B+d0):=by
 intro m
 induction m with
 | zero =>
  intro q r hm q0 q1 r0 r1 hU hlt
  obtain rfl:q=0:=by omega
  refine⟨0,?_,q0,q1,hlt⟩;have hj:Ev (fun k=>bK.j1 k u0 d1 d0 0 r true) 0:=Ev.step (f:=fun _=>some 0) (fun k=>by simp only[bK.j1];rw[if_pos trivial]) (Ev.now _);refine Ev.step (f:=fun k=>bK.j1 k u0 d1 d0 0 r true) (fun k=>?_) hj;simp only[bK.l0];rw[wZ ⟨q0,q1⟩ hd0,Int.zero_mul];simp only[Option.bind_some,Int.zero_ediv,Int.zero_emod]
  by_cases h:0<r
  ·rw[if_pos h]
  ·rw[if_neg h,if_pos (by omega),decide_eq_true (by omega)]
 | succ m ih =>
  intro q r hm q0 q1 r0 r1 hU hlt;have hP:0≤q*d0:=Int.mul_nonneg q0 hd0.1
  have hm1:q*d0=q*d0 / 18446744073709551616*18446744073709551616+q*d0 % 18446744073709551616:=by omega
  by_cases hle:q*d0≤r*B+u0
  ·refine⟨q,?_,q0,q1,hlt⟩
   have hj:Ev (fun k=>bK.j1 k u0 d1 d0 q r true) q:=Ev.step (f:=fun _=>some q) (fun k=>by simp only[bK.j1];rw[if_pos trivial]) (Ev.now _);refine Ev.step (f:=fun k=>bK.j1 k u0 d1 d0 q r true) (fun k=>?_) hj;simp only[bK.l0];rw[wZ ⟨q0,q1⟩ hd0];simp only[Option.bind_some];rw[uh]at hle hu0
   by_cases h:q*d0 / 18446744073709551616<r
   ·rw[if_pos h]
   ·rw[if_neg h,if_pos (by omega),decide_eq_true (by omega)]
  ·have hq1:1≤q:=by
    by_cases h:q=0
    ·subst h;rw[Int.zero_mul]at hle;have:=Int.mul_nonneg r0 (Int.le_of_lt jw);omega
    ·omega
   have hw:ae (IntKind.u64.wrap (q-1)=q-1):=⟨by rw[uh]at q1;exact tJ (by omega) (by omega)⟩
   have hlt2:U<(q-1+1)*(d1*B+d0):=by
    rw[show q-1+1=q by omega,abo,hU,Int.add_mul]
    omega
   have hU2:U=((q-1)*d1+(r+d1))*B+u0:=by rw[hU];grind
   have no:∀ R,Ev (fun k=>bK.j1 k u0 d1 d0 q r false) R→Ev (fun k=>bK.l0 k u0 d1 d0 q r) R:=by
    intro R hR;refine Ev.step (fun k=>?_) hR;simp only[bK.l0];rw[wZ ⟨q0,q1⟩ hd0];simp only[Option.bind_some];rw[uh]at hle hu0;rw[if_neg (by omega)]
    by_cases h:q*d0 / 18446744073709551616=r
    ·rw[if_pos h,decide_eq_false (by omega)]
    ·rw[if_neg h]
   by_cases hb:B≤r+d1
   ·refine⟨q-1,no _ (Ev.step (f:=fun _=>some (q-1)) (fun k=>?_) (Ev.now _)),by omega,by omega,hlt2⟩
    simp only[bK.j1]
    have e:IntKind.u64.wrap (r+d1)=r+d1-18446744073709551616:=by
     rw[uh]at hb r1 hd1;rw[IntKind.wrap_u64]
     omega
    rw[uh]at r1;rw[if_neg (by decide),e,if_pos (by omega),hw.out]
   ·obtain⟨g,hg,g0,g1,g2⟩:=ih (q-1) (r+d1) (by omega) (by omega) (by omega) (by omega) (by omega) hU2 hlt2
    refine⟨g,no _ (Ev.step (fun k=>?_) hg),g0,g1,g2⟩;simp only[bK.j1]
    have e:IntKind.u64.wrap (r+d1)=r+d1:=by rw[uh]at hb;exact tJ (by omega) (by omega)
    rw[if_neg (by decide),e,if_neg (by omega),hw.out]
theorem af7 {u2 u1 u0 d1 d0:Int}(hu2:0≤u2∧u2<B)(hu1:0≤u1∧u1<B)(hu0:0≤u0∧u0<B)(hd1:0<d1∧d1<B)(hd0:0≤d0∧d0<B) :
  ∃ g,Ev (fun k=>bK.f k u2 u1 u0 d1 d0) g∧0≤g∧g<B∧((u2*B+u1)*B+u0<(g+1)*(d1*B+d0)∨g=B-1):=by
 by_cases h:d1≤u2
 ·refine⟨B-1,Ev.congr (f:=fun _=>some (B-1)) (fun k=>?_) (Ev.now _),by rw[uh];decide,by omega,.inr rfl⟩
  unfold bK.f;rw[if_pos (by omega),uh]
  rfl
 ·have hD:=N9 hu2.1 (show u2<d1 by omega) hd1.2 hu1.1 hu1.2
  have hn:0≤u2*B+u1:=by have:=Int.mul_nonneg hu2.1 (Int.le_of_lt jw);omega
  have q0:0≤(u2*B+u1) / d1:=Int.ediv_nonneg hn (by omega);have hrb:(u2+1)*B≤d1*B:=Int.mul_le_mul_of_nonneg_right (by omega) (Int.le_of_lt jw);rw[Int.add_mul,Int.one_mul]at hrb;have q1:(u2*B+u1) / d1<B:=Int.ediv_lt_of_lt_mul hd1.1 (by rw[Int.mul_comm B];omega);have t0:=Int.emod_nonneg (u2*B+u1) (show d1≠0 by omega);have t1:=Int.emod_lt_of_pos (u2*B+u1) hd1.1;have he:=Int.mul_ediv_add_emod (u2*B+u1) d1;generalize (u2*B+u1) / d1=q at *;generalize (u2*B+u1) % d1=t at *
  have e1:(q+1)*(d1*B+d0)=(q*d1+d1)*B+(q*d0+d0):=by grind
  have hqd:=Int.mul_nonneg q0 hd0.1
  have hU:(u2*B+u1)*B+u0=(q*d1+t)*B+u0:=by rw[← he,Int.mul_comm d1]
  have hlt:(u2*B+u1)*B+u0<(q+1)*(d1*B+d0):=by
   rw[e1,hU];have h2:(q*d1+t+1)*B≤(q*d1+d1)*B:=Int.mul_le_mul_of_nonneg_right (by omega) (Int.le_of_lt jw);rw[Int.add_mul (q*d1+t),Int.one_mul]at h2
   omega
  obtain⟨g,hg,g0,g1,g2⟩:=afY hu0 hd1 hd0 ((u2*B+u1)*B+u0) q.toNat q t (Nat.le_refl _) q0 q1 t0 (by omega) hU hlt;refine⟨g,Ev.congr (fun k=>by unfold bK.f;rw[if_neg (by omega)]) (Ev.bind hD hg),g0,g1,.inl g2⟩
theorem yT (l:List Int)(i:Nat):val B l=val B (l.take i)+pw B i*val B (l.drop i):=by
 induction i with
 | zero=>rw[List.take_zero,List.drop_zero,nG,iW];omega
 | succ i ih =>
  rw[ih,eP,GG l i,fA,Int.mul_add,Int.mul_assoc]
  omega
theorem NH {l:List Int}(h:Dig B l)(i:Nat):l.getD i 0=val B l / pw B i % B:=by
 have h1:=yT l i;have h2:=fD jw (h.take i);have h3:val B (l.take i)<pw B i:=Int.lt_of_lt_of_le (kW jw (h.take i)) (EN jw (by rw[List.length_take];omega));obtain⟨e,_⟩:=xO (a:=val B l) (y:=pw B i) (q:=val B (l.drop i)) (t:=val B (l.take i)) (by rw[Int.mul_comm];omega) h2 h3;have hg:=h.get jw i;rw[e,GG l i,Int.add_mul_emod_self_left,Int.emod_eq_of_lt hg.1 hg.2]
theorem getD_drop (l:List Int)(i j:Nat):(l.drop i).getD j 0=l.getD (i+j) 0:=by
 simp[List.getD_eq_getElem?_getD]
theorem getD_take (l:List Int)(i j:Nat)(h:j<i):(l.take i).getD j 0=l.getD j 0:=by
 simp[List.getD_eq_getElem?_getD,List.getElem?_take,h]
theorem TW {pre w post:List Int}{j n:Nat}(hp:pre.length=j)(hw:w.length=n):((pre++w++post).take (j+n)).drop j=w:=by
 have e:(pre++w).length=j+n:=by rw[List.length_append,hp,hw]
 rw[← e,List.take_left, ← hp,List.drop_left]
theorem TK {pre w post:List Int}{j:Nat}(hp:pre.length=j):(pre++w++post).take j=pre:=by
 rw[List.append_assoc, ← hp,List.take_left]
theorem NY {pre w post:List Int}{j n:Nat}(hp:pre.length=j)(hw:w.length=n):(pre++w++post).drop (j+n)=post:=by
 have e:(pre++w).length=j+n:=by rw[List.length_append,hp,hw]
 rw[← e,List.drop_left]
theorem NK {pre w post:List Int}{j:Nat}(hp:pre.length=j):(pre++w++post).drop j=w++post:=by
 rw[List.append_assoc, ← hp,List.drop_left]
theorem RI {X qd p o c b v q lo c' s o' x V:Int}(hf:lo+b*c'=v*q+c+0)(hs:s-b*o'=x-lo-o)(hV:V=X-q*qd+p*(c+o)):V+p*(s-x)=X-q*(qd+p*v)+p*b*(c'+o'):=by grind
theorem XR {X D p o c b s o' x V:Int}(hs:s-b*o'=x-c-o)(hV:V=X-D+p*(c+o)):V+p*(s-x)=X-D+p*b*o':=by grind
theorem aca {d:List Int}(hd:Dig B d){q:Int}(hq:0≤q∧q<B)(hL:d.length≤1099511627775)(X:Int):∀ (m i:Nat) (x:List Int) (o c:Int),i+m=d.length→x.length=d.length+1→Dig B x→0≤o→o≤1→0≤c→c<B →
  val B x=X-q*val B (d.take i)+pw B i*(c+o) →
  ∃ x' o',Ev (fun k=>kZ.l0 k x d q o c d (d.length:Int) (i:Int)) (decide (o' > 0),x')∧x'.length=d.length+1∧Dig B x'∧0≤o'∧o'≤1∧val B x'=X-q*val B d+pw B (d.length+1)*o':=by
 intro m
 induction m with
 | zero =>
  intro i x o c hi hx hdx o0 o1 c0 c1 hv
  obtain rfl:i=d.length:=by omega
  rw[List.take_length]at hv;have hg:=hdx.get jw d.length;obtain⟨s1,s2,s3,s4⟩:=FX hg ⟨c0,c1⟩ o0 o1;refine⟨x.set d.length (ji (x.getD d.length 0) c o),kQ (x.getD d.length 0) c o,?_,by simpa using hx,hdx.set s2.1 s2.2,s3,s4,?_⟩
  ·refine Ev.step (f:=fun _=>some (decide (kQ (x.getD d.length 0) c o > 0),x.set d.length (ji (x.getD d.length 0) c o))) (fun k=>?_) (Ev.now _)
   simp only[kZ.l0];rw[if_neg (by omega),if_pos (by omega),if_pos (by omega),if_pos o1,eF,Int.toNat_natCast]
  ·rw[pG B x _ _ (by omega),fA]
   exact XR s1 hv
 | succ m ih =>
  intro i x o c hi hx hdx o0 o1 c0 c1 hv;have hg:=hdx.get jw i;obtain⟨lo,hi',hf,hs,hlo,hh⟩:=F9 (hd.get jw i) hq ⟨c0,c1⟩ (show (0:Int)≤0∧(0:Int)<B from ⟨Int.le_refl _,jw⟩);obtain⟨s1,s2,s3,s4⟩:=FX hg hlo o0 o1
  have hw1:ae (wrap64 ((i:Int)+1)=((i+1:Nat):Int)):=⟨by rw[w64 (by omega) (by omega)];omega⟩
  have hi1:i+1+m=d.length:=by omega
  have hlt:i<x.length:=by omega
  obtain⟨x',o',h1,h2⟩:=ih (i+1) (x.set i (ji (x.getD i 0) lo o)) (kQ (x.getD i 0) lo o) hi' hi1 (by simpa using hx) (hdx.set s2.1 s2.2) s3 s4 hh.1 hh.2 (by
   rw[pG B x i _ hlt,eP B d,fA]
   exact RI hs s1 hv)
  refine⟨x',o',Ev.step (fun k=>?_) h1,h2⟩;simp only[kZ.l0];rw[hw1.out,if_pos (by omega),if_pos (by omega),if_pos (by omega),eF,eF,hf];simp only[Option.bind_some];rw[if_pos (by omega),if_pos o1,Int.toNat_natCast]
theorem aaT {x d:List Int}(hx:Dig B x)(hd:Dig B d){q:Int}(hq:0≤q∧q<B)(hL:d.length≤1099511627775)(hn:x.length=d.length+1) :
  ∃ x' o',Ev (fun k=>kZ.f k x d q) (decide (o' > 0),x')∧x'.length=d.length+1∧Dig B x'∧0≤o'∧o'≤1∧val B x'=val B x-q*val B d+pw B (d.length+1)*o':=by
 have:=aca hd hq hL (val B x) d.length 0 x 0 0 (by omega) hn hx (Int.le_refl _) (by decide) (Int.le_refl _) jw (by rw[List.take_zero,nG];simp);exact this
theorem JL {X p c b v s c' x V D:Int}(hs:s+b*c'=x+v+c)(hV:V=X+D-p*c):V+p*(s-x)=X+(D+p*v)-p*b*c':=by grind
theorem acw {d:List Int}(hd:Dig B d)(hL:d.length≤1099511627775)(X:Int):∀ (m i:Nat) (x:List Int) (c:Int),i+m=d.length→x.length=d.length+1→Dig B x→0≤c→c≤1 →
  val B x=X+val B (d.take i)-pw B i*c →
  ∃ x' c',Ev (fun k=>lg.l0 k x d c d (d.length:Int) (i:Int)) (decide (c' > 0),x')∧x'.length=d.length+1∧Dig B x'∧0≤c'∧c'≤1∧val B x'=X+val B d-pw B (d.length+1)*c':=by
 intro m
 induction m with
 | zero =>
  intro i x c hi hx hdx c0 c1 hv
  obtain rfl:i=d.length:=by omega
  rw[List.take_length]at hv;have hg:=hdx.get jw d.length;obtain⟨s1,s2,s3,s4⟩:=uj hg (show (0:Int)≤0∧(0:Int)<B from ⟨Int.le_refl _,jw⟩) c0 c1;refine⟨x.set d.length (fK (x.getD d.length 0) 0 c),iG (x.getD d.length 0) 0 c,?_,by simpa using hx,hdx.set s2.1 s2.2,s3,s4,?_⟩
  ·refine Ev.step (f:=fun _=>some (decide (iG (x.getD d.length 0) 0 c > 0),x.set d.length (fK (x.getD d.length 0) 0 c))) (fun k=>?_) (Ev.now _)
   simp only[lg.l0];rw[if_neg (by omega),if_pos (by omega),if_pos (by omega),if_pos c1,eF,Int.toNat_natCast]
  ·rw[pG B x _ _ (by omega),fA]
   have:=JL s1 hv;rw[Int.mul_zero,Int.add_zero]at this;exact this
 | succ m ih =>
  intro i x c hi hx hdx c0 c1 hv;have hg:=hdx.get jw i;obtain⟨s1,s2,s3,s4⟩:=uj hg (hd.get jw i) c0 c1
  have hw1:ae (wrap64 ((i:Int)+1)=((i+1:Nat):Int)):=⟨by rw[w64 (by omega) (by omega)];omega⟩
  have hi1:i+1+m=d.length:=by omega
  have hlt:i<x.length:=by omega
  obtain⟨x',c',h1,h2⟩:=ih (i+1) (x.set i (fK (x.getD i 0) (d.getD i 0) c)) (iG (x.getD i 0) (d.getD i 0) c) hi1 (by simpa using hx) (hdx.set s2.1 s2.2) s3 s4 (by
   rw[pG B x i _ hlt,eP B d,fA]
   exact JL s1 hv)
  refine⟨x',c',Ev.step (fun k=>?_) h1,h2⟩;simp only[lg.l0];rw[hw1.out,if_pos (by omega),if_pos (by omega),if_pos (by omega),if_pos (by omega),if_pos c1,eF,eF,Int.toNat_natCast]
theorem abD {x d:List Int}(hx:Dig B x)(hd:Dig B d)(hL:d.length≤1099511627775)(hn:x.length=d.length+1) :
  ∃ x' c',Ev (fun k=>lg.f k x d) (decide (c' > 0),x')∧x'.length=d.length+1∧Dig B x'∧0≤c'∧c'≤1∧val B x'=val B x+val B d-pw B (d.length+1)*c':=by
 have:=acw hd hL (val B x) d.length 0 x 0 (by omega) hn hx (Int.le_refl _) (by decide) (by rw[List.take_zero,nG];simp);exact this
theorem XY (k:Nat){pre w post d:List Int}{q:Int}{j n:Nat}(hp:pre.length=j)(hw:w.length=n)(h0:0<n) :
  qE.f k (pre++w++post) (j:Int) ((j+n:Nat):Int) d q=(kZ.f k w d q).bind fun b=>some (b.1,pre++b.2++post):=by
 unfold qE.f;rw[if_pos ⟨by omega,by omega,by simp only[List.length_append];omega⟩,Int.toNat_natCast,Int.toNat_natCast,TW hp hw,TK hp,NY hp hw]
theorem X5 (k:Nat){pre w post d:List Int}{j n:Nat}(hp:pre.length=j)(hw:w.length=n)(h0:0<n) :
  rV.f k (pre++w++post) (j:Int) ((j+n:Nat):Int) d=(lg.f k w d).bind fun b=>some (b.1,pre++b.2++post):=by
 unfold rV.f;rw[if_pos ⟨by omega,by omega,by simp only[List.length_append];omega⟩,Int.toNat_natCast,Int.toNat_natCast,TW hp hw,TK hp,NY hp hw]
theorem abA {d pre post x10:List Int}(hd:Dig B d)(hL:d.length≤1073741824){s:Int}{j:Nat}(hj:j≤1099511627775)(hp:pre.length=j)(aLR:j<x10.length){W:Int}(hW0:0≤W)(hW1:W<val B d*B){R:List Int × List Int}
  (next:∀ w',w'.length=d.length+1→Dig B w'→val B w'=W % val B d→Ev (fun k=>bz.l0 k s (d.length:Int) d (pre++w' ++ post) (x10.set j (W / val B d)) ((j:Int)-1)) R) :
  ∀ (m:Nat) (g:Int) (w:List Int) (low:Bool),g.toNat≤m→0≤g→g<B→w.length=d.length+1→Dig B w→(low=true ↔ W-g*val B d<0)→W-g*val B d<val B d→val B w=W-g*val B d+pw B (d.length+1)*(if low then 1 else 0) →
   Ev (fun k=>bz.l1 k s (d.length:Int) d (pre++w++post) x10 (j:Int) g low) R:=by
 have hD0:=fD jw hd
 have done:∀ (g:Int) (w:List Int),0≤g→w.length=d.length+1→Dig B w→0≤W-g*val B d→W-g*val B d<val B d→val B w=W-g*val B d →
   Ev (fun k=>bz.l1 k s (d.length:Int) d (pre++w++post) x10 (j:Int) g false) R:=by
  intro g w g0 hw hdw t0 t1 hv;obtain⟨e1,e2⟩:=xO (a:=W) (y:=val B d) (q:=g) (t:=W-g*val B d) (by omega) t0 t1;have hn:=next w hw hdw (by rw[hv,e2]);rw[e1]at hn
  have hw1:ae (wrap64 ((j:Int)-1)=(j:Int)-1):=⟨w64 (by omega) (by omega)⟩
  refine Ev.step (fun k=>?_) hn;simp only[bz.l1];rw[if_neg (by decide),if_pos (by omega),if_pos (by omega),Int.toNat_natCast,hw1.out]
 have hw2:ae (wrap64 (wrap64 ((j:Int)+(d.length:Int))+1)=((j+(d.length+1):Nat):Int)):=⟨by rw[w64 (x:=(j:Int)+(d.length:Int)) (by omega) (by omega),w64 (by omega) (by omega)];omega⟩
 intro m
 induction m with
 | zero =>
  intro g w low hm g0 g1 hw hdw hlow ht hv
  obtain rfl:g=0:=by omega
  rw[Int.zero_mul,Int.sub_zero]at *
  have:low=false:=by
   cases low with
   | false=>rfl
   | true=>have:=hlow.1 rfl;omega
  subst this;refine done 0 w (Int.le_refl _) hw hdw (by rw[Int.zero_mul];omega) (by rw[Int.zero_mul];omega) ?_;rw[hv,Int.zero_mul];simp
 | succ m ih =>
  intro g w low hm g0 g1 hw hdw hlow ht hv
  cases low with
  | false =>
   have h0:0≤W-g*val B d:=by
    by_cases h:W-g*val B d<0
    ·have:=hlow.2 h;cases this
    ·omega
   refine done g w g0 hw hdw h0 ht ?_;rw[hv];simp
  | true =>
   have hneg:=hlow.1 rfl;rw[if_pos rfl,Int.mul_one]at hv
   have hg1:1≤g:=by
    by_cases h:g=0
    ·subst h;rw[Int.zero_mul]at hneg;omega
    ·omega
   obtain⟨x',c',h1,h2,h3,h4,h5,h6⟩:=abD hdw hd (by omega) hw;have hb0:=fD jw h3;have hb1:=kW jw h3;rw[h2]at hb1;have hdl:val B d<pw B (d.length+1):=Int.lt_of_lt_of_le (kW jw hd) (EN jw (by omega));have he:(g-1)*val B d=g*val B d-val B d:=uo _ _
   have hgw:ae (IntKind.u64.wrap (g-1)=g-1):=⟨by rw[uh]at g1;exact tJ (by omega) (by omega)⟩
   have hc:c'=0∨c'=1:=by omega
   generalize pw B (d.length+1)=p at *
   have key:Ev (fun k=>bz.l1 k s (d.length:Int) d (pre++x' ++ post) x10 (j:Int) (g-1) (!decide (c' > 0))) R:=by
    refine ih (g-1) x' (!decide (c' > 0)) (by omega) (by omega) (by omega) h2 h3 ?_ (by omega) ?_
    ·rcases hc with rfl|rfl
     ·simp only[show decide ((0:Int) > 0)=false from rfl,Bool.not_false,true_iff];omega
     ·simp only[show decide ((1:Int) > 0)=true from rfl,Bool.not_true,Bool.false_eq_true,false_iff];omega
    ·rcases hc with rfl|rfl
     ·simp only[show decide ((0:Int) > 0)=false from rfl,Bool.not_false,if_true];omega
     ·simp only[show decide ((1:Int) > 0)=true from rfl,Bool.not_true,Bool.false_eq_true,if_false];omega
   refine Ev.step (f:=fun k=>(lg.f k w d).bind fun b=>bz.l1 k s (d.length:Int) d (pre++b.2++post) x10 (j:Int) (g-1) (!b.1)) (fun k=>?_) (Ev.bind h1 key);simp only[bz.l1];rw[if_pos trivial,if_pos (by omega),hw2.out,hgw.out,if_pos (by omega),if_pos (by simp only[List.length_append];omega),X5 k hp hw (by omega)]
   cases lg.f k w d <;> rfl
theorem Og {w:List Int}{n:Nat}(h:Dig B w)(hl:w.length=n+1):val B w=val B (w.take n)+pw B n*w.getD n 0:=by
 have:=eP B w n;rw[← hl,List.take_length]at this;exact this
theorem Uw {w d:List Int}{g:Int}{n:Nat}(hw:Dig B w)(hd:Dig B d)(hwl:w.length=n+3)(hdl:d.length=n+2)(hW:val B w<val B d*B)(g0:0≤g)
  (h:(w.getD (n+2) 0*B+w.getD (n+1) 0)*B+w.getD n 0<(g+1)*(d.getD (n+1) 0*B+d.getD n 0)∨g=B-1):val B w-g*val B d<val B d:=by
 have e:(g+1)*val B d=g*val B d+val B d:=by rw[Int.add_mul,Int.one_mul]
 rcases h with h|h
 ·have w1:=Og hw hwl
  rw[eP B w (n+1),eP B w n,fA,fA,fA]at w1;have d1:=Og hd hdl;rw[eP B d n,fA]at d1;have hp:=jQ jw n;have hwl:val B (w.take n)<pw B n:=Int.lt_of_lt_of_le (kW jw (hw.take n)) (EN jw (by rw[List.length_take];omega));have hdl0:=fD jw (hd.take n);generalize val B (w.take n)=wl at *;generalize val B (d.take n)=dl at *;generalize pw B n=p at *;have h2:((w.getD (n+2) 0*B+w.getD (n+1) 0)*B+w.getD n 0+1)*p≤(g+1)*(d.getD (n+1) 0*B+d.getD n 0)*p:=Int.mul_le_mul_of_nonneg_right (by omega) (by omega);have h3:0≤(g+1)*dl:=Int.mul_nonneg (by omega) hdl0
  have h4:val B w=wl+((w.getD (n+2) 0*B+w.getD (n+1) 0)*B+w.getD n 0)*p:=by rw[w1];grind
  have h5:(g+1)*val B d=(g+1)*dl+(g+1)*(d.getD (n+1) 0*B+d.getD n 0)*p:=by rw[d1];grind
  rw[Int.add_mul ((w.getD (n+2) 0*B+w.getD (n+1) 0)*B+w.getD n 0),Int.one_mul]at h2
  omega
 ·subst h
  rw[show B-1+1=B by omega,Int.mul_comm B]at e
  omega
theorem UU {T W D Q b p g R A:Int}(hR:R=W-g*D)(hA:A=T+p*W+p*b*D*Q):A=T+p*R+p*D*(g+b*Q):=by grind
theorem acf {d:List Int}(hd:Dig B d){n:Nat}(hdl:d.length=n+2)(hL:d.length≤1073741824)(htop:0<d.getD (n+1) 0){s:Int}(L:Nat)(hL2:L≤1099511627775)(A:Int){R:List Int × List Int}
  (next:∀ x q,x.length=L→Dig B x→val B x<val B d→Dig B q→q.length+d.length=L→A=val B x+val B d*val B q→Ev (fun k=>bz.l2 k s (d.length:Int) x q (d.length:Int) 0) R) :
  ∀ (i:Nat) (x q:List Int),i+d.length≤L→x.length=L→Dig B x→Dig B q→q.length+d.length=L→val B (x.drop i)<val B d→A=val B x+pw B i*val B d*val B (q.drop i) →
   Ev (fun k=>bz.l0 k s (d.length:Int) d x q ((i:Int)-1)) R:=by
 intro i
 induction i with
 | zero =>
  intro x q hi hx hdx hdq hql hR hA;rw[List.drop_zero]at hR hA;rw[iW,Int.one_mul]at hA;refine Ev.step (fun k=>?_) (next x q hx hdx hR hdq hql hA);simp only[bz.l0];rw[if_neg (by omega)]
 | succ i ih =>
  intro x q hi hx hdx hdq hql hR hA
  have hi1:ae (((i+1:Nat):Int)-1=(i:Int)):=⟨by omega⟩
  obtain⟨w,hw⟩:∃ w,w=(x.take (i+(d.length+1))).drop i:=⟨_,rfl⟩
  obtain⟨post,hpost⟩:∃ post,post=x.drop (i+(d.length+1)):=⟨_,rfl⟩
  have hsplit:x.take i++w++post=x:=by
   have e:x.take i=(x.take (i+(d.length+1))).take i:=by rw[List.take_take,Nat.min_eq_left (by omega)]
   rw[hw,hpost,e,List.take_append_drop,List.take_append_drop]
  have hpre:(x.take i).length=i:=by rw[List.length_take];omega
  have hwl:w.length=d.length+1:=by rw[hw,List.length_drop,List.length_take];omega
  have hdw:Dig B w:=by rw[hw];exact (hdx.take _).drop _
  have hdp:Dig B post:=by rw[hpost];exact hdx.drop _
  have hwd:x.drop i=w++post:=by
   have:=NK (w:=w) (post:=post) hpre;rw[hsplit]at this;exact this
  have alH:x.drop (i+1)=w.drop 1++post:=by
   have:x.drop (i+1)=(x.drop i).drop 1:=by rw[List.drop_drop]
   rw[this,hwd,List.drop_append_of_le_length (by omega)]
  have hw1:=GG w 0;rw[List.drop_zero]at hw1;have hg0:=hdw.get jw 0;have hD0:=fD jw hd;have hDl:=kW jw hd;rw[alH,nC]at hR
  have aF4:(w.drop 1).length=d.length:=by rw[List.length_drop];omega
  rw[aF4]at hR;have hp0:=fD jw hdp;have aLS:=fD jw (hdw.drop 1);have hpn:=jQ jw d.length
  have hpz:val B post=0:=by
   by_cases h:1≤val B post
   ·have:pw B d.length*1≤pw B d.length*val B post:=Int.mul_le_mul_of_nonneg_left h (by omega)
    omega
   ·omega
  rw[hpz,Int.mul_zero,Int.add_zero]at hR;have hW0:0≤val B w:=fD jw hdw
  have hW1:val B w<val B d*B:=by
   have:B*(val B (w.drop (0+1))+1)≤B*val B d:=Int.mul_le_mul_of_nonneg_left (by rw[Nat.zero_add];omega) (Int.le_of_lt jw);rw[Int.mul_add,Int.mul_one,Int.mul_comm B (val B d)]at this
   omega
  have Xg:=hd.get jw (n+1);obtain⟨g,hg,g0,g1,g2⟩:=af7 (hdw.get jw (n+2)) (hdw.get jw (n+1)) (hdw.get jw n) ⟨htop,Xg.2⟩ (hd.get jw n);have hgt:=Uw hdw hd (by omega) hdl hW1 g0 g2;obtain⟨x',o',h1,h2,h3,h4,h5,h6⟩:=aaT hdw hd ⟨g0,g1⟩ (by omega) hwl;have hx0:=fD jw h3;have hx1:=kW jw h3;rw[h2]at hx1;have hwlt:=kW jw hdw;rw[hwl]at hwlt
  have ho:o'=0∨o'=1:=by omega
  have hgD:0≤g*val B d:=Int.mul_nonneg g0 hD0
  have hlow:decide (o' > 0)=true ↔ val B w-g*val B d<0:=by
   rw[decide_eq_true_iff];rcases ho with rfl|rfl
   ·rw[Int.mul_zero]at h6;omega
   ·rw[Int.mul_one]at h6;omega
  have key:Ev (fun k=>bz.l1 k s (d.length:Int) d (x.take i++x' ++ post) q (i:Int) g (decide (o' > 0))) R:=by
   refine abA hd hL (by omega) hpre (by omega) hW0 hW1 ?_ g.toNat g x' (decide (o' > 0)) (Nat.le_refl _) g0 g1 h2 h3 hlow hgt ?_
   ·intro w' hw' hdw' hvw'
    have aF5:=Int.emod_nonneg (val B w) (show val B d≠0 by intro h;rw[h]at hW1;omega);have atS:=Int.emod_lt_of_pos (val B w) (show 0<val B d by by_cases h:val B d=0;(rw[h]at hW1;omega);omega);have hdm:=Int.mul_ediv_add_emod (val B w) (val B d);have hq0:0≤val B w / val B d:=Int.ediv_nonneg hW0 hD0;have hq1:val B w / val B d<B:=Int.ediv_lt_of_lt_mul (by omega) (by rw[Int.mul_comm B];exact hW1);have aF6:(x.take i).length=i:=hpre;refine ih (x.take i++w' ++ post) (q.set i (val B w / val B d)) (by omega) ?_ (((hdx.take i).append hdw').append hdp) (hdq.set hq0 hq1) (by simpa using hql) ?_ ?_
    ·have:=congrArg List.length hsplit
     simp only[List.length_append]at this ⊢
     omega
    ·rw[NK hpre,nC,hpz,Int.mul_zero,Int.add_zero,hvw']
     exact atS
    ·rw[uD q i _ (by omega),jm,nC,hpz,Int.mul_zero,Int.add_zero,nC,hpre,hvw']
     have hvx:val B x=val B (x.take i)+pw B i*val B w:=by
      rw[yT x i,hwd,nC,hpz,Int.mul_zero,Int.add_zero]
     rw[hvx,fA]at hA;exact UU (by rw[Int.mul_comm];omega) hA
   ·rw[h6]
    rcases ho with rfl|rfl <;> simp
  have hwj:ae (wrap64 ((i:Int)+(d.length:Int))=((i+(n+2):Nat):Int)):=⟨by rw[w64 (by omega) (by omega)];omega⟩
  have aF7:ae (wrap64 (((i+(n+2):Nat):Int)-1)=((i+(n+1):Nat):Int)):=⟨by rw[w64 (by omega) (by omega)];omega⟩
  have aF8:ae (wrap64 (((i+(n+2):Nat):Int)-2)=((i+n:Nat):Int)):=⟨by rw[w64 (by omega) (by omega)];omega⟩
  have aF9:ae (wrap64 ((d.length:Int)-1)=((n+1:Nat):Int)):=⟨by rw[w64 (by omega) (by omega)];omega⟩
  have hwn2:ae (wrap64 ((d.length:Int)-2)=((n:Nat):Int)):=⟨by rw[w64 (by omega) (by omega)];omega⟩
  have hwp:ae (wrap64 (((i+(n+2):Nat):Int)+1)=((i+(d.length+1):Nat):Int)):=⟨by rw[w64 (by omega) (by omega)];omega⟩
  have hgw:∀ t,t<d.length+1→x.getD (i+t) 0=w.getD t 0:=by
   intro t ht;rw[hw,getD_drop,getD_take _ _ _ (by omega)]
  refine Ev.step (f:=fun k=>(bK.f k (w.getD (n+2) 0) (w.getD (n+1) 0) (w.getD n 0) (d.getD (n+1) 0) (d.getD n 0)).bind fun t=>(qE.f k x (i:Int) ((i+(d.length+1):Nat):Int) d t).bind fun b=>bz.l1 k s (d.length:Int) d b.2 q (i:Int) t b.1) (fun k=>?_) (Ev.bind hg ?_)
  ·simp only[bz.l0]
   rw[hi1.out,hwj.out,aF7.out,aF8.out,aF9.out,hwn2.out,hwp.out];rw[if_pos (by omega),if_pos (by omega),if_pos (by omega),if_pos (by omega),if_pos (by omega),if_pos (by omega),if_pos (by omega),if_pos (by omega),if_pos (by omega),if_pos (by omega),if_pos (by omega)];rw[eF,eF,eF,eF,eF,hgw _ (by omega),hgw _ (by omega),hgw _ (by omega)]
   congr 1
   funext t
   rw[if_pos (by omega),if_pos (by omega),if_pos (by omega)]
  ·refine Ev.congr (f:=fun k=>(kZ.f k w d g).bind fun b=>bz.l1 k s (d.length:Int) d (x.take i++b.2++post) q (i:Int) g b.1) (fun k=>?_) (Ev.bind h1 key)
   have:=XY k (pre:=x.take i) (w:=w) (post:=post) (d:=d) (q:=g) (j:=i) (n:=d.length+1) hpre hwl (by omega);rw[hsplit]at this;rw[this]
   cases kZ.f k w d g <;> rfl
theorem abW {M:Int}(hM:0≤M){s n:Nat}(hs:s<64)(hMn:M<pw B n)(q:List Int)(hdq:Dig B q)(hql:q.length≤1099511627776){len:Nat}(hnl:n≤len)(hL:len≤1099511627775):∀ (d i:Nat) (x:List Int),i+d=n→x.length=len→Dig B x→(∀ j,i≤j→j<n→x.getD j 0=M / pw B j % B)→val B (x.take i)=M / pw 2 s % pw B i →
  Ev (fun k=>bz.l2 k (s:Int) (n:Int) x q (n:Int) (i:Int)) (enc B (val B q),enc B (M / pw 2 s)):=by
 have hf:=jL s;have hfD:pw 2 s*pw 2 (64-s)=B:=AX (by omega);have hg:=jL (64-s);have hMs:=Int.ediv_nonneg hM (Int.le_of_lt hf);intro d
 induction d with
 | zero =>
  intro i x hi hx hd hj hv
  obtain rfl:i=n:=by omega
  have hlt:M / pw 2 s<pw B i:=Int.lt_of_le_of_lt (Int.ediv_le_self _ hM) hMn;rw[Int.emod_eq_of_lt hMs hlt]at hv;have ht:=og (hd.take i) (by rw[List.length_take];omega);rw[hv]at ht;refine Ev.step (f:=fun k=>(bH.f k q).bind fun t=>(bH.f k (x.take i)).bind fun u=>some (t,u)) (fun k=>?_) (Ev.bind (og hdq hql) (Ev.bind ht (Ev.now _)));simp only[bz.l2];rw[if_neg (by omega)]
  congr 1
  funext t
  rw[if_pos (by omega),if_pos (by omega),Int.toNat_natCast]
 | succ d ih =>
  intro i x hi hx hd hj hv
  have hw1:ae (wrap64 ((i:Int)+1)=((i+1:Nat):Int)):=⟨by rw[w64 (by omega) (by omega)];omega⟩
  have hw2:ae (wrap64 (64-(s:Int))=((64-s:Nat):Int)):=⟨by rw[w64 (by omega) (by omega)];omega⟩
  have hlt:i<x.length:=by omega
  have hi1:i+1+d=n:=by omega
  have hMi:=gK jw hM i;have hsd:=Ci hf hg hMi;rw[hfD, ← lu jw]at hsd;have hcc:M / pw B i / pw 2 s=M / pw 2 s / pw B i:=vP (Int.le_of_lt (jQ jw i)) (Int.le_of_lt hf);rw[hcc]at hsd;have akQ:=Int.emod_nonneg (M / pw 2 s / pw B i) (show B≠0 by have:=B1;omega);have Xg:=Int.emod_lt_of_pos (M / pw 2 s / pw B i) jw
  have key:=ih (i+1) (x.set i (M / pw 2 s / pw B i % B)) hi1 (by simpa using hx) (hd.set akQ Xg) (fun j hj' hj2=>by rw[qw _ _ _ _ (by omega)];exact hj j (by omega) hj2) (by
   rw[rq B x i _ hlt,hv, ← qB jw hMs i,Int.mul_comm (pw B i)];omega)
  have a0:=Int.emod_nonneg (M / pw B i) (show B≠0 by have:=B1;omega);have a1:=Int.emod_lt_of_pos (M / pw B i) jw;have q0:0≤M / pw B i % B / pw 2 s:=Int.ediv_nonneg a0 (Int.le_of_lt hf);have q1:M / pw B i % B / pw 2 s<pw 2 (64-s):=Int.ediv_lt_of_lt_mul hf (by rw[Int.mul_comm,hfD];exact a1);have q2:M / pw B i % B / pw 2 s≤M / pw B i % B:=Int.ediv_le_self _ a0
  by_cases hn:0<s∧i+1<n
  ·have c0:=Int.emod_nonneg (M / pw B (i+1) % B) (show pw 2 s≠0 by omega)
   have p0:0≤M / pw B (i+1) % B % pw 2 s*pw 2 (64-s):=Int.mul_nonneg c0 (Int.le_of_lt hg);rw[hsd]at key Xg
   have hor:Go.bits .or .u64 (M / pw B i % B / pw 2 s) (M / pw B (i+1) % B % pw 2 s*pw 2 (64-s))=M / pw B i % B / pw 2 s+M / pw B (i+1) % B % pw 2 s*pw 2 (64-s):=by
    rw[G9 q0 (by omega) p0 (by omega),GY p0 (Int.mul_emod_left _ _) (by omega) q0 q1 (by omega),Int.add_comm]
   have hsh:shl .u64 (M / pw B (i+1) % B) ((64-s:Nat):Int)=M / pw B (i+1) % B % pw 2 s*pw 2 (64-s):=by
    rw[xX _ (by omega), ← hfD];exact Lm hg
   refine Ev.step (f:=fun k=>bz.l2 k (s:Int) (n:Int) (x.set i (M / pw B i % B / pw 2 s+M / pw B (i+1) % B % pw 2 s*pw 2 (64-s))) q (n:Int) ((i+1:Nat):Int)) (fun k=>?_) key;simp only[bz.l2];rw[hw1.out,hw2.out,if_pos (by omega),if_pos (by omega),if_pos (by omega),if_pos (by omega)];simp only[Option.bind_some];rw[if_pos (by omega),if_pos (by omega),if_pos (by omega),if_pos (by omega),if_pos (by omega),eF,eF,eF,Int.toNat_natCast,ry _ _ _ hlt,qw _ _ _ _ (by omega),hj i (by omega) (by omega),hj (i+1) (by omega) (by omega),ww _ (by omega),hsh,hor,List.set_set]
  ·have hz:M / pw B (i+1) % B % pw 2 s=0:=by
    by_cases h0:0<s
    ·have:M / pw B (i+1)=0:=by
      rw[show i+1=n by omega];exact Int.ediv_eq_zero_of_lt hM hMn
     rw[this,Int.zero_emod,Int.zero_emod]
    ·rw[show s=0 by omega,iW,Int.emod_one]
   rw[hz,Int.zero_mul,Int.add_zero]at hsd;rw[hsd]at key;refine Ev.step (f:=fun k=>bz.l2 k (s:Int) (n:Int) (x.set i (M / pw B i % B / pw 2 s)) q (n:Int) ((i+1:Nat):Int)) (fun k=>?_) key;simp only[bz.l2];rw[hw1.out,if_pos (by omega),if_pos (by omega),if_pos (by omega),if_pos (by omega)];simp only[Option.bind_some]
   by_cases h0:0<s
   ·rw[if_pos (by omega),if_neg (by omega),eF,Int.toNat_natCast,hj i (by omega) (by omega),ww _ (by omega)]
   ·rw[if_neg (by omega),eF,Int.toNat_natCast,hj i (by omega) (by omega),ww _ (by omega)]
theorem abO {A C:Int}(hC:0<C)(hCA:C≤A)(hn:2≤(enc B C).length)(hLA:(enc B A).length≤1073741823):Ev (fun k=>bz.f k (enc B A) (enc B C)) (enc B (A / C),enc B (A % C)):=by
 have hA:0≤A:=by omega
 have hAp:0<A:=by omega
 obtain⟨n1,hn1,hg1,ht0,ht1⟩:=yN B1 hC
 obtain⟨n,rfl⟩:∃ n,n1=n+1:=⟨n1-1,by omega⟩
 have hAl:=kW jw (fJ B1 A);rw[fC B1 hA]at hAl;have hcl:pw B ((enc B C).length-1)≤C:=FT B1 hC;rw[hn1,Nat.add_sub_cancel]at hcl
 have hmn:(enc B C).length≤(enc B A).length:=by
  by_cases h:(enc B A).length<(enc B C).length
  ·have:=yK B1 hA (Int.le_of_lt hC) h;omega
  ·omega
 generalize htop:C / pw B (n+1)=top at *;obtain⟨m1,m2,m3,m4⟩:=ZR ht0 ht1;have hlz:=afV (Int.le_of_lt ht0) ht1
 have hbl:top<pw 2 (bl top):=by
  have h1:=Int.mul_ediv_add_emod top (pw 2 (bl top));have h2:=Int.emod_lt_of_pos top (jL (bl top));have h3:top / pw 2 (bl top)=0:=Aa abI (by omega);rw[h3,Int.mul_zero]at h1
  omega
 have hpb:pw 2 (bl top)*pw 2 (64-bl top)=B:=AX m4
 have hs:64-bl top<64:=by omega
 generalize 64-bl top=s at *;have hP:=jL s;have hP1:1≤pw 2 s:=hP;obtain⟨d1,dl,dd,dv,de⟩:=Cj (fJ B1 C) (s:=s) hs (by omega);obtain⟨r1,rl,rd',rv,re⟩:=Cj (fJ B1 A) (s:=s) hs (by omega);rw[fC B1 (Int.le_of_lt hC)]at dv;rw[fC B1 hA]at rv;have hp1:=jQ jw (n+1)
 have aLT:C≤C*pw 2 s:=by
  have:C*1≤C*pw 2 s:=Int.mul_le_mul_of_nonneg_left hP1 (by omega)
  omega
 -- the divisor, lifted, has no limb more
 have aGa:C*pw 2 s<pw B (n+2):=by
  have h1:=Int.mul_ediv_add_emod C (pw B (n+1));have h2:=Int.emod_lt_of_pos C hp1;rw[htop]at h1
  have h3:C<pw B (n+1)*(top+1):=by rw[Int.mul_add,Int.mul_one];omega
  have h4:C*pw 2 s<pw B (n+1)*(top+1)*pw 2 s:=Int.mul_lt_mul_of_pos_right h3 hP;have h5:(top+1)*pw 2 s≤pw 2 (bl top)*pw 2 s:=Int.mul_le_mul_of_nonneg_right (by omega) (by omega);rw[hpb]at h5;have h6:pw B (n+1)*((top+1)*pw 2 s)≤pw B (n+1)*B:=Int.mul_le_mul_of_nonneg_left h5 (by omega);rw[← Int.mul_assoc, ← fA,show n+1+1=n+2 from rfl]at h6
  omega
 have hdt:(d1.take (n+2)).length=n+2:=by rw[List.length_take];omega
 have hdv:val B (d1.take (n+2))=C*pw 2 s:=by
  have h1:=yT d1 (n+2);have h2:=fD jw (dd.take (n+2));have h3:=fD jw (dd.drop (n+2));have hp2:=jQ jw (n+2)
  by_cases h4:1≤val B (d1.drop (n+2))
  ·have:pw B (n+2)*1≤pw B (n+2)*val B (d1.drop (n+2)):=Int.mul_le_mul_of_nonneg_left h4 (by omega)
   omega
  ·rw[show val B (d1.drop (n+2))=0 by omega,Int.mul_zero,Int.add_zero,dv]at h1
   exact h1.symm
 have hdtop:0<(d1.take (n+2)).getD (n+1) 0:=by
  rw[NH (dd.take (n+2)),hdv];have h1:1≤C*pw 2 s / pw B (n+1):=(Int.le_ediv_iff_mul_le hp1).2 (by omega);have h2:C*pw 2 s / pw B (n+1)<B:=Int.ediv_lt_of_lt_mul hp1 (by rw[Int.mul_comm B, ← fA];exact aGa);rw[Int.emod_eq_of_lt (by omega) h2]
  omega
 -- the upper limbs of what is divided are below it
 have hup:val B (r1.drop ((enc B A).length+1-(n+2)))<C*pw 2 s:=by
  have h1:=yT r1 ((enc B A).length+1-(n+2));have h2:=fD jw (rd'.take ((enc B A).length+1-(n+2)));have hpi:=jQ jw ((enc B A).length+1-(n+2))
  have h3:pw B (enc B A).length=pw B ((enc B A).length+1-(n+2))*pw B (n+1):=by rw[← qA];congr 1;omega
  have h4:A*pw 2 s<pw B (enc B A).length*pw 2 s:=Int.mul_lt_mul_of_pos_right hAl hP;have h5:pw B (n+1)*pw 2 s≤C*pw 2 s:=Int.mul_le_mul_of_nonneg_right hcl (by omega);have h6:pw B ((enc B A).length+1-(n+2))*(pw B (n+1)*pw 2 s)≤pw B ((enc B A).length+1-(n+2))*(C*pw 2 s):=Int.mul_le_mul_of_nonneg_left h5 (by omega);rw[h3,Int.mul_assoc]at h4;refine Int.lt_of_mul_lt_mul_left (a:=pw B ((enc B A).length+1-(n+2))) ?_ (by omega)
  omega
 have hmain:Ev (fun k=>bz.l0 k (s:Int) ((d1.take (n+2)).length:Int) (d1.take (n+2)) r1 (List.replicate ((enc B A).length+1-(n+2)) 0) ((((enc B A).length+1-(n+2):Nat):Int)-1)) (enc B (A / C),enc B (A % C)):=by
  refine acf (dd.take (n+2)) hdt (by omega) hdtop ((enc B A).length+1) (by omega) (A*pw 2 s) ?_ ((enc B A).length+1-(n+2)) r1 _ (by omega) rl rd' (Dig.zeros jw _) (by rw[List.length_replicate];omega) (by rw[hdv];exact hup) ?_
  ·intro x q hx hdx hlt hdq hql hA2
   rw[hdv]at hlt hA2;have hx0:=fD jw hdx;have hq0:=fD jw hdq;have hxd:=Int.mul_ediv_add_emod (val B x) (pw 2 s)
   have hxm:val B x % pw 2 s=0:=by
    have e:val B x=(A-C*val B q)*pw 2 s:=by rw[Int.sub_mul,hA2];grind
    rw[e,Int.mul_emod_left]
   rw[hxm,Int.add_zero]at hxd
   have e1:A*pw 2 s=(val B q*C+val B x / pw 2 s)*pw 2 s:=by rw[hA2];grind
   have e2:A=val B q*C+val B x / pw 2 s:=Int.eq_of_mul_eq_mul_right (by omega) e1;have hr0:=Int.ediv_nonneg hx0 (Int.le_of_lt hP);have hr1:val B x / pw 2 s<C:=Int.ediv_lt_of_lt_mul hP hlt;obtain⟨f1,f2⟩:=xO e2 hr0 hr1;rw[f1,f2,hdt];refine abW hx0 hs (by omega) q hdq (by omega) (len:=(enc B A).length+1) (by omega) (by omega) (n+2) 0 x (by omega) hx hdx (fun j _ _=>NH hdx j) ?_;rw[List.take_zero,nG,iW,Int.emod_one]
  ·rw[List.drop_replicate,wC,Int.mul_zero,Int.add_zero,rv]
 rw[hdt]at hmain
 have hw:ae (wrap64 (((n+2:Nat):Int)-1)=((n+1:Nat):Int)):=⟨by rw[w64 (by omega) (by omega)];omega⟩
 have hw2:ae (wrap64 ((((enc B A).length+1:Nat):Int)-((n+2:Nat):Int))=(((enc B A).length+1-(n+2):Nat):Int)):=⟨by rw[w64 (by omega) (by omega)];omega⟩
 have hw3:ae (wrap64 ((((enc B A).length+1-(n+2):Nat):Int)-1)=(((enc B A).length+1-(n+2):Nat):Int)-1):=⟨w64 (by omega) (by omega)⟩
 have hC2:(enc B C).length=n+2:=hn1;refine Ev.congr (fun k=>by unfold bz.f;rw[hC2,hw.out,if_pos (by omega),if_pos (by omega),eF,hg1]) (Ev.bind hlz ?_);refine Ev.bind de ?_;refine Ev.congr (fun k=>by rw[if_pos (by omega),if_pos (by omega)]) (Ev.bind re ?_);refine Ev.congr (fun k=>?_) hmain;rw[rl,hw2.out,if_pos (by omega),Int.toNat_natCast,if_pos (by omega)];simp only[Option.bind_some,List.length_replicate];rw[hw3.out,Int.toNat_natCast]
theorem aa1 {a b:List Int}(ha:Dig B a)(hb:Dig B b)(hLa:a.length≤1073741823)(hLb:b.length≤1073741823)(h0:0<val B b):Ev (fun k=>xW.f k a b) (enc B (val B a / val B b),enc B (val B a % val B b),none):=by
 have hA:=fD jw ha;have la:=nR B1 ha;have lb:=nR B1 hb;refine Ev.congr (fun k=>by unfold xW.f;rfl) (Ev.bind (og ha (by omega)) (Ev.bind (og hb (by omega)) ?_));generalize val B a=A at *;generalize val B b=C at *;obtain⟨n,hn,hg,t0,t1⟩:=yN B1 h0
 by_cases h1:n=0
 ·subst h1
  rw[fG]at hg t0 t1;have hd:=fJ B1 A;have hs:=X0 hd (by omega) h0 t1;rw[fC B1 hA]at hs;have hr0:=Int.emod_nonneg A (show C≠0 by omega);have hr1:=Int.emod_lt_of_pos A h0;refine Ev.congr (f:=fun k=>(iO.f k (enc B A) C).bind fun b=>(qU.f k b.2).bind fun t=>some (b.1,t,none)) (fun k=>?_) (Ev.bind hs (Ev.bind (aaj hr0 (by omega)) (Ev.now _)));rw[if_neg (by omega),if_pos (by omega),if_pos (by omega),show rd (enc B C) 0=(enc B C).getD 0 0 from eF _ 0,hg]
 ·have hc:=acA (fJ B1 A) (fJ B1 C) (by omega) (by omega)
  rw[fC B1 hA,fC B1 (Int.le_of_lt h0)]at hc;refine Ev.congr (fun k=>by rw[if_neg (by omega),if_neg (by omega)]) (Ev.bind hc ?_)
  by_cases h2:A<C
  ·rw[Int.ediv_eq_zero_of_lt hA h2,Int.emod_eq_of_lt hA h2,eX]
   refine Ev.congr (f:=fun _=>some ([],enc B A,none)) (fun k=>?_) (Ev.now _);rw[if_pos (Oy.2 h2),if_pos (by simp only[List.length_nil];omega)]
   rfl
  ·refine Ev.congr (fun k=>by rw[if_neg (fun h=>h2 (Oy.1 h))]) (Ev.bind (abO h0 (by omega) (by omega) (by omega)) (Ev.now _))
end Go.Proofs.Yy.PTx
end
section
namespace Go.Proofs.Yy.PTx
open Go.RowKit Go.Proofs.Yw.PrintWords Go.Proofs.Yw.PrintLast Go.Proofs.Yw.PrintMore Go.Proofs.Yy.M Go.Proofs.Yy.TA Go.Proofs.Yy.NM
attribute [local irreducible] fK iG ji kQ val
theorem TP (n:Nat):pw 2 n=((2 ^ n:Nat):Int):=by rw[uq,Int.natCast_pow];rfl
theorem acu {V b:Nat}(h1:V<2 ^ b)(h2:b≠0→2 ^ (b-1)≤V):bl (V:Int)=b:=by
 apply Nat.le_antisymm
 ·exact O0 (by rw[TP];exact_mod_cast h1)
 ·by_cases h:b=0
  ·omega
  ·have:=(ab5 (A:=(V:Int)) (by omega) (b-1)).2 (by rw[TP];exact_mod_cast Nat.div_pos (h2 h) (two_pos _))
   omega
theorem agc (t:Nat):hiI (t*2 ^ 64)=(t:Int):=by unfold hiI;rw[Nat.mul_div_cancel _ (two_pos _)]
theorem afC (t:Nat):loI (t*2 ^ 64)=0:=by unfold loI;rw[Nat.mul_mod_left];rfl
theorem ND {V b:Nat}(hb1:1≤b)(h1:V<2 ^ b)(h2:2 ^ (b-1)≤V):V / 2 ^ (b-64)<2 ^ min b 64∧2 ^ (min b 64-1)≤V / 2 ^ (b-64):=by
 have e1:2 ^ b=2 ^ min b 64*2 ^ (b-64):=by rw[← Nat.pow_add];congr 1;omega
 have e2:2 ^ (b-1)=2 ^ (min b 64-1)*2 ^ (b-64):=by rw[← Nat.pow_add];congr 1;omega
 rw[e1]at h1;rw[e2]at h2;exact⟨(Nat.div_lt_iff_lt_mul (two_pos _)).2 h1,(Nat.le_div_iff_mul_le (two_pos _)).2 h2⟩
def Ku (V b:Nat):Nat:=V / 2 ^ (b-64)*2 ^ 64*2 ^ (64-min b 64)
theorem Sr (V b:Nat):Ku V b / 2 ^ 64=V / 2 ^ (b-64)*2 ^ (64-min b 64)∧Ku V b % 2 ^ 64=0:=by
 have e:Ku V b=V / 2 ^ (b-64)*2 ^ (64-min b 64)*2 ^ 64:=by unfold Ku;rw[Nat.mul_right_comm]
 rw[e];exact⟨Nat.mul_div_cancel _ (two_pos _),Nat.mul_mod_left _ _⟩
theorem xU {V b:Nat}(hb1:1≤b)(h1:V<2 ^ b)(h2:2 ^ (b-1)≤V):2 ^ 127≤Ku V b∧Ku V b<2 ^ 128:=by
 obtain⟨q1,q2⟩:=ND hb1 h1 h2
 have e1:(2:Nat) ^ 128=2 ^ min b 64*2 ^ 64*2 ^ (64-min b 64):=by rw[← Nat.pow_add, ← Nat.pow_add];congr 1;omega
 have e2:(2:Nat) ^ 127=2 ^ (min b 64-1)*2 ^ 64*2 ^ (64-min b 64):=by rw[← Nat.pow_add, ← Nat.pow_add];congr 1;omega
 unfold Ku;rw[e1,e2];exact⟨Nat.mul_le_mul_right _ (Nat.mul_le_mul_right _ q2),Nat.mul_lt_mul_of_pos_right (Nat.mul_lt_mul_of_pos_right q1 (two_pos _)) (two_pos _)⟩
theorem Ol {a:List Int}(ha:Dig B a)(hL:a.length≤1073741824){V b:Nat}(hV:val B a=(V:Int))(hb1:1≤b)(h1:V<2 ^ b)(h2:2 ^ (b-1)≤V)(neg c:Bool)(hc:c=true→64≤b)(hbb:b≤500000){x:Int}(hx1 : -400000≤x)(hx2:x≤400000) :
  Ev (fun k=>nK.f k neg a x c) (1,neg,x+b-1,hiI (Ku V b),loI (Ku V b),(c || decide (V % 2 ^ (b-64)≠0)),none):=by
 obtain⟨q1,q2⟩:=ND hb1 h1 h2
 have hu:under (val B a) 64=b-64:=by unfold under;rw[hV,acu h1 (fun _=>h2)]
 have ht:=abK ha hL 64 (by decide) (Nat.le_refl _);rw[hu,hV,TP]at ht
 have e1:((V:Int) / ((2 ^ (b-64):Nat):Int)) % B=((V / 2 ^ (b-64):Nat):Int):=by
  rw[← Int.natCast_ediv,uh];have:V / 2 ^ (b-64)<2 ^ 64:=Nat.lt_of_lt_of_le q1 (Nat.pow_le_pow_right (by omega) (Nat.min_le_right _ _));rw[p64]at this
  obtain⟨y,hy⟩:∃ y,V / 2 ^ (b-64)=y:=⟨_,rfl⟩
  rw[hy]at this ⊢;clear hy q1 q2 h1 h2
  omega
 have e2:decide ((V:Int) % ((2 ^ (b-64):Nat):Int)≠0)=decide (V % 2 ^ (b-64)≠0):=by
  rw[← Int.natCast_emod];exact decide_eq_decide.2 (by omega)
 rw[e1,e2]at ht
 have hmk:∀ c':Bool,(c'=true→min b 64=64)→Ev (fun k=>dL.f k neg ((V / 2 ^ (b-64):Nat):Int) 0 (x+((b-64:Nat):Int)-64) c') (1,neg,x+b-1,hiI (Ku V b),loI (Ku V b),c',none):=by
  intro c' hc'
  have h:=Uk (V:=V / 2 ^ (b-64)*2 ^ 64) (b:=min b 64+64) (by omega) (by omega) (by rw[Nat.pow_add];exact Nat.mul_lt_mul_of_pos_right q1 (two_pos _))
   (by rw[show min b 64+64-1=(min b 64-1)+64 by omega,Nat.pow_add];exact Nat.mul_le_mul_right _ q2) neg c' (fun h=>by have:=hc' h;omega) (x:=x+((b-64:Nat):Int)-64) (by omega) (by omega)
  rw[agc,afC,show x+((b-64:Nat):Int)-64+((min b 64+64:Nat):Int)-1=x+b-1 by omega,show 128-(min b 64+64)=64-min b 64 by omega]at h;exact h
 unfold nK.f;refine Ev.bind ht ?_;simp only[Option.isNone_none,if_true];rw[qm (x:=x+((b-64:Nat):Int)) (by omega) (by omega),qm (by omega) (by omega)]
 by_cases hs:V % 2 ^ (b-64)≠0
 ·have hb64:min b 64=64:=by
   apply Nat.min_eq_right
   apply Nat.le_of_not_lt
   intro h;rw[show b-64=0 by omega,Nat.pow_zero,Nat.mod_one]at hs;exact hs rfl
  rw[decide_eq_true hs,Bool.or_true];simp only[if_true];exact Ev.bind (hmk true (fun _=>hb64)) (Ev.now _)
 ·rw[decide_eq_false hs,Bool.or_false]
  simp only[Bool.false_eq_true,if_false];exact Ev.bind (hmk c (fun h=>by have:=hc h;omega)) (Ev.now _)
end Go.Proofs.Yy.PTx
end
section
namespace Go.Proofs.Yy.PTx
open Go.RowKit Go.Proofs.Yw.PrintWords Go.Proofs.Yw.PrintLast Go.Proofs.Yw.PrintMore Go.Proofs.Yy.M Go.Proofs.Yy.TA
open Go.Proofs.Yy.SC (D)
theorem abB {N C u q r b:Nat}(hC:0<C)(hq:N*2 ^ u=C*q+r)(hr:r<C)(hb1:1≤b)(h1:q<2 ^ b)(h2:2 ^ (b-1)≤q)(h:r≠0→64≤b) :
  Rep N C (-(u:Int)+b-1) (Ku q b / 2 ^ 64) ((decide (r≠0) || decide (q % 2 ^ (b-64)≠0)) || decide (Ku q b % 2 ^ 64≠0)):=by
 rw[(Sr q b).1,(Sr q b).2,show -(u:Int)+b-1=(b:Int)-1-u by omega]
 by_cases hb:64≤b
 ·have e:=Rep.ofQ hC hq hr h2 h1 hb
  rw[Nat.min_eq_right hb,Nat.sub_self,Nat.pow_zero,Nat.mul_one];rw[Bool.or_comm]at e
  simpa using e
 ·have hr0:r=0:=by
   apply Classical.byContradiction
   intro h3;exact hb (h h3)
  subst hr0;have e:=Rep.ofE hC (by rw[hq,Nat.add_zero]) h2 h1 hb1 (by omega);rw[show b-64=0 by omega,Nat.pow_zero,Nat.mod_one,Nat.div_one,Nat.min_eq_left (by omega)]
  simpa using e
theorem Oa {n N C u q r b:Nat}(hn:8≤n)(hn2:n≤64)(hC:0<C)(hq:N*2 ^ u=C*q+r)(hr:r<C)(hb1:1≤b)(h1:q<2 ^ b)(h2:2 ^ (b-1)≤q)(h:r≠0→64≤b) :
  Ov n (-(u:Int)+b-1) (Ku q b) (decide (r≠0) || decide (q % 2 ^ (b-64)≠0))=pos n (scl N C) N C:=by
 have e:=abB hC hq hr hb1 h1 h2 h;rw[Ot hn hn2 (xU hb1 h1 h2).1 e,TI e]
theorem N8 {n:Nat}(hn:8≤n)(hn2:n≤64)(T:Nat)(c:Bool):Ov n 1000 T c=2 ^ (n-1)-1∧Ov n (-1000) T c=1:=by
 have:=top_le hn2
 have h8:0≤top n:=by unfold top;omega
 unfold Ov;exact⟨by rw[if_pos (by omega)],by rw[if_neg (by omega),if_pos (by omega)]⟩
theorem GH:∀ (l:List UInt8) (a:Nat),(∀ c ∈ l,48≤c.toNat∧c.toNat≤57)→l.foldl (fun a c=>a*10+(c.toNat-48)) a<(a+1)*10 ^ l.length
 | [],a,_=>by simp
 | c::l,a,h=>by
  have h1:=h c (List.mem_cons_self ..);have ih:=GH l (a*10+(c.toNat-48)) (fun x hx=>h x (List.mem_cons_of_mem _ hx));rw[List.foldl_cons,List.length_cons,Nat.pow_succ];refine Nat.lt_of_lt_of_le ih ?_;rw[Nat.mul_comm (10 ^ l.length) 10, ← Nat.mul_assoc];exact Nat.mul_le_mul_right _ (by omega)
theorem U0:∀ (l:List UInt8) (a:Nat),a*10 ^ l.length≤l.foldl (fun a c=>a*10+(c.toNat-48)) a
 | [],a=>by simp
 | c::l,a=>by
  have ih:=U0 l (a*10+(c.toNat-48));rw[List.foldl_cons,List.length_cons,Nat.pow_succ];refine Nat.le_trans ?_ ih;rw[Nat.mul_comm (10 ^ l.length) 10, ← Nat.mul_assoc];exact Nat.mul_le_mul_right _ (by omega)
theorem yX {c:UInt8}{l:List UInt8}(hc:49≤c.toNat):10 ^ l.length≤xB (c::l):=by
 have h:=U0 l (0*10+(c.toNat-48));unfold xB;rw[List.foldl_cons];refine Nat.le_trans ?_ h;exact Nat.le_mul_of_pos_left _ (by omega)
theorem JI {n:Nat}(hn:n≤64){d:D}{c:UInt8}{l:List UInt8}(hd:d.ds=c::l)(hc:49≤c.toNat)(h:(101:Int)≤d.ds.length+d.e):Q9 n d=2 ^ (n-1)-1:=by
 unfold Q9;refine XV hn (uJ d) ?_;have h1:=yX (l:=l) hc;rw[← hd]at h1
 have hl:d.ds.length=l.length+1:=by rw[hd];rfl
 have aGb:(2:Nat) ^ 248≤10 ^ 100:=by decide +kernel
 unfold Ak Jj
 have e1:10 ^ 100*10 ^ (-d.e).toNat≤10 ^ l.length*10 ^ d.e.toNat:=by
  rw[← Nat.pow_add, ← Nat.pow_add];exact Nat.pow_le_pow_right (by decide) (by omega)
 exact Nat.le_trans (Nat.mul_le_mul_right _ aGb) (Nat.le_trans e1 (Nat.mul_le_mul_right _ h1))
theorem NJ {n:Nat}(hn1:2≤n)(hn:n≤64){d:D}{c:UInt8}{l:List UInt8}(hd:d.ds=c::l)(hc:49≤c.toNat)(hg:∀ c ∈ d.ds,48≤c.toNat∧c.toNat≤57)(h:d.ds.length+d.e ≤ -101):Q9 n d=1:=by
 have h1:=yX (l:=l) hc;rw[← hd]at h1;have h2:=GH d.ds 0 hg;rw[Nat.zero_add,Nat.one_mul]at h2;have h3:xB d.ds<10 ^ d.ds.length:=h2;have hp:=Nat.pow_pos (a:=10) (n:=l.length) (by decide)
 have aGc:(2:Nat) ^ 249≤10 ^ 101:=by decide +kernel
 unfold Q9;refine aco hn1 hn ?_ ?_
 ·unfold Ak
  exact Nat.mul_pos (by omega) (Nat.pow_pos (by decide))
 ·unfold Ak Jj
  rw[show d.e.toNat=0 by omega,Nat.pow_zero,Nat.mul_one]
  have e1:10 ^ d.ds.length*10 ^ 101≤10 ^ (-d.e).toNat:=by
   rw[← Nat.pow_add];exact Nat.pow_le_pow_right (by decide) (by omega)
  exact Nat.le_trans (Nat.mul_le_mul (Nat.le_of_lt h3) aGc) e1
end Go.Proofs.Yy.PTx
end
