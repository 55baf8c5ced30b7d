/- Part 26 of what the proof needs. -/
import Derived.Test.YtpfnkbnepcchgaaGreatDoorKTBAY
set_option linter.unusedSimpArgs false
set_option linter.unusedVariables false
section
namespace Go.Proofs.Yy.PTx
open Go.RowKit Go.Proofs.Yw.PrintWords Go.Proofs.Yw.PrintLast Go.Proofs.Yw.PrintMore Go.Proofs.Yy.M Go.Proofs.Yy.NM
attribute [local irreducible] add64Lo add64Hi sub64Lo sub64Hi val
theorem quot_of {a y q t:Int} (h:a=q * y+t) (h0:0≤t) (h1:t<y):a / y=q∧a % y=t:=by
 have e:a=t+y * q:=by rw [h,Int.mul_comm];omega
 rw [e,Int.add_mul_ediv_left _ _ (by omega),Int.add_mul_emod_self_left,Int.ediv_eq_zero_of_lt h0 h1,Int.emod_eq_of_lt h0 h1]
 exact ⟨by omega,rfl⟩
theorem utdiv {x y:Int} (h:0≤x) (hx:x≤18446744073709551615) (hy:0<y):IntKind.u64.wrap (Int.tdiv x y)=x / y:=by
 rw [Int.tdiv_eq_ediv_of_nonneg h]
 have h1:=Int.ediv_nonneg h (Int.le_of_lt hy)
 have h2:=Int.ediv_le_self y h
 exact u64w h1 (by omega)
theorem stage_mul {q y1 y0 Y:Int} (hY:Y=y1 * 4294967296+y0):q * Y=q * y1 * 4294967296+q * y0:=by rw [hY];grind
theorem stage_dec (q y:Int):(q - 1) * y=q * y - y:=by grind
theorem stage_test {q r y1 y0 Y u u1 P S:Int} (hP:P=q * y1) (hS:S=q * y0) (hY:Y=y1 * 4294967296+y0) (y1b:2147483648≤y1∧y1<4294967296) (y0b:0≤y0∧y0<4294967296) (hu:0≤u) (hu1:u<Y) (h1:0≤u1∧u1<4294967296)
  (hq:0≤q∧q≤4294967297) (hr:r=u - P) (hr0:0≤r) (hr1:r<4294967296) (hT:r * 4294967296+u1 - S<Y) :
  (4294967296≤q→r * 4294967296+u1 - S<0)∧(q<4294967296→0≤S∧S≤18446744065119617025):=by
 refine ⟨fun hc=>?_,fun hc=>?_⟩
 ·have h2:4294967296 * Y≤q * Y:=Int.mul_le_mul_of_nonneg_right hc (by omega)
  have h3:=stage_mul (q:=q) hY
  rw [← hP, ← hS] at h3
  omega
 ·rw [hS]
  exact ⟨Int.mul_nonneg hq.1 y0b.1,mul_le_sq (m:=4294967295) hq.1 y0b.1 (by omega) (by omega)⟩
theorem stage_break {q r y1 y0 Y u u1 P S:Int} (hP:P=q * y1) (hS:S=q * y0) (hY:Y=y1 * 4294967296+y0) (y0b:0≤y0∧y0<4294967296) (h1:0≤u1) (hq:q≤4294967297) (hr:r+y1 ≥ 4294967296) :
  0≤(r+y1) * 4294967296+u1 - (S - y0):=by
 have h2:(q - 1) * y0≤4294967296 * y0:=Int.mul_le_mul_of_nonneg_right (by omega) y0b.1
 rw [stage_dec, ← hS] at h2
 omega
theorem nonneg_of_T {q r y1 y0 u1 S:Int} (hS:S=q * y0) (hq:0≤q) (hr:0≤r) (h1:0≤u1) (hT:r * 4294967296+u1 - S<0):1≤q:=by
 by_cases h:q=0
 ·subst h;rw [Int.zero_mul] at hS;omega
 ·omega
theorem div64_l0 {Y s y1 y0 u u1 u0:Int} (hY:Y=y1 * 4294967296+y0) (y1b:2147483648≤y1∧y1<4294967296) (y0b:0≤y0∧y0<4294967296) (hu:0≤u) (hu1:u<Y) (h1:0≤u1∧u1<4294967296) {R:Int × Int}
  (next:∀ q t,u * 4294967296+u1=q * Y+t→0≤t→t<Y→0≤q→q≤4294967297→Ev (fun k=>bits_Div64.j2 k Y s y1 y0 u u1 u0 q) R):∀ (m:Nat) (q r P S:Int),q.toNat≤m→0≤q→q≤4294967297→P=q * y1→S=q * y0→r=u - P→0≤r→r<4294967296 →
  r * 4294967296+u1 - S<Y→Ev (fun k=>bits_Div64.l0 k Y s y1 y0 u u1 u0 q r) R:=by
 have fin:∀ (q r P S:Int),0≤q→q≤4294967297→P=q * y1→S=q * y0→r=u - P→0≤r * 4294967296+u1 - S→r * 4294967296+u1 - S<Y→Ev (fun k=>bits_Div64.j2 k Y s y1 y0 u u1 u0 q) R:=by
  intro q r P S hq hq1 hP hS hr ht ht1
  refine next q (r * 4294967296+u1 - S) ?_ ht ht1 hq hq1
  have h3:=stage_mul (q:=q) hY
  rw [← hP, ← hS] at h3
  omega
 intro m
 induction m with
 | zero =>
  intro q r P S hm hq hq1 hP hS hr hr0 hr1 hT
  obtain rfl:q=0:=by omega
  rw [Int.zero_mul] at hS
  refine Ev.step (f:=fun k=>bits_Div64.j1 k Y s y1 y0 u u1 u0 0 r false) (fun k=>?_) (Ev.step (fun k=>?_) (fin 0 r P S hq hq1 hP (by rw [Int.zero_mul];exact hS) hr (by omega) hT))
  ·simp only [bits_Div64.l0]
   rw [if_neg (by decide),Int.zero_mul]
   congr 1
   refine decide_eq_false ?_
   rw [u64w (x:=0) (by decide) (by decide),u64w (x:=4294967296 * r) (by omega) (by omega),u64w (by omega) (by omega)]
   omega
  ·simp only [bits_Div64.j1]
   rw [if_neg (by decide)]
 | succ m ih =>
  intro q r P S hm hq hq1 hP hS hr hr0 hr1 hT
  obtain ⟨t1,t2⟩:=stage_test hP hS hY y1b y0b hu hu1 h1 ⟨hq,hq1⟩ hr hr0 hr1 hT
  have yes:r * 4294967296+u1 - S<0→Ev (fun k=>bits_Div64.j1 k Y s y1 y0 u u1 u0 q r true) R:=by
   intro hlt
   have hq2:=nonneg_of_T (y1:=y1) hS hq hr0 h1.1 hlt
   have hw:Aside0 (IntKind.u64.wrap (q - 1)=q - 1):=⟨u64w (by omega) (by omega)⟩
   have hw2:Aside0 (IntKind.u64.wrap (r+y1)=r+y1):=⟨u64w (by omega) (by omega)⟩
   have hP':P - y1=(q - 1) * y1:=by rw [stage_dec,hP]
   have hS':S - y0=(q - 1) * y0:=by rw [stage_dec,hS]
   by_cases hb:4294967296≤r+y1
   ·have hn:=stage_break (u:=u) hP hS hY y0b h1.1 hq1 hb
    refine Ev.step (fun k=>?_) (fin (q - 1) (r+y1) (P - y1) (S - y0) (by omega) (by omega) hP' hS' (by omega) hn (by omega))
    simp only [bits_Div64.j1]
    rw [if_pos trivial,hw2.out,if_pos (by omega),hw.out]
   ·refine Ev.step (fun k=>?_) (ih (q - 1) (r+y1) (P - y1) (S - y0) (by omega) (by omega) (by omega) hP' hS' (by omega) (by omega) (by omega) (by omega))
    simp only [bits_Div64.j1]
    rw [if_pos trivial,hw2.out,if_neg (by omega),hw.out]
  by_cases hc:4294967296≤q
  ·refine Ev.step (fun k=>?_) (yes (t1 hc))
   simp only [bits_Div64.l0]
   rw [if_pos (by omega)]
  ·obtain ⟨s0,s1⟩:=t2 (by omega)
   have hw:Aside0 (IntKind.u64.wrap (q * y0)=S):=⟨by rw [← hS];exact u64w (by omega) (by omega)⟩
   have hw2:Aside0 (IntKind.u64.wrap (IntKind.u64.wrap (4294967296 * r)+u1)=4294967296 * r+u1):=⟨by rw [u64w (x:=4294967296 * r) (by omega) (by omega),u64w (by omega) (by omega)]⟩
   by_cases hlt:r * 4294967296+u1 - S<0
   ·refine Ev.step (fun k=>?_) (yes hlt)
    simp only [bits_Div64.l0]
    rw [if_neg (by omega),hw.out,hw2.out,decide_eq_true (by omega)]
   ·refine Ev.step (f:=fun k=>bits_Div64.j1 k Y s y1 y0 u u1 u0 q r false) (fun k=>?_) (Ev.step (fun k=>?_) (fin q r P S hq hq1 hP hS hr (by omega) hT))
    ·simp only [bits_Div64.l0]
     rw [if_neg (by omega),hw.out,hw2.out,decide_eq_false (by omega)]
    ·simp only [bits_Div64.j1]
     rw [if_neg (by decide)]
theorem div64_l1 {Y s y1 y0 u u1 q1:Int} (hs:0≤s) (hY:Y=y1 * 4294967296+y0) (y1b:2147483648≤y1∧y1<4294967296) (y0b:0≤y0∧y0<4294967296) (hu:0≤u) (hu1:u<Y) (h1:0≤u1∧u1<4294967296) {R:Int × Int}
  (next:∀ q t,u * 4294967296+u1=q * Y+t→0≤t→t<Y→0≤q→q≤4294967297→(IntKind.u64.wrap (IntKind.u64.wrap (q1 * 4294967296)+q),shr .u64 (IntKind.u64.wrap (IntKind.u64.wrap (IntKind.u64.wrap (u * 4294967296)+u1) - IntKind.u64.wrap (q * Y))) s)=R):∀ (m:Nat) (q r P S:Int),q.toNat≤m→0≤q→q≤4294967297→P=q * y1→S=q * y0→r=u - P→0≤r→r<4294967296 →
  r * 4294967296+u1 - S<Y→Ev (fun k=>bits_Div64.l1 k Y s y1 y0 u1 q1 r u q) R:=by
 have fin:∀ (q r P S:Int),0≤q→q≤4294967297→P=q * y1→S=q * y0→r=u - P→0≤r * 4294967296+u1 - S→r * 4294967296+u1 - S<Y→(IntKind.u64.wrap (IntKind.u64.wrap (q1 * 4294967296)+q),shr .u64 (IntKind.u64.wrap (IntKind.u64.wrap (IntKind.u64.wrap (u * 4294967296)+u1) - IntKind.u64.wrap (q * Y))) s)=R:=by
  intro q r P S hq hq1 hP hS hr ht ht1
  refine next q (r * 4294967296+u1 - S) ?_ ht ht1 hq hq1
  have h3:=stage_mul (q:=q) hY
  rw [← hP, ← hS] at h3
  omega
 intro m
 induction m with
 | zero =>
  intro q r P S hm hq hq1 hP hS hr hr0 hr1 hT
  obtain rfl:q=0:=by omega
  rw [Int.zero_mul] at hS
  have hf:=fin 0 r P S hq hq1 hP (by rw [Int.zero_mul];exact hS) hr (by omega) hT
  refine Ev.step (f:=fun k=>bits_Div64.j4 k Y s y1 y0 u1 q1 r u 0 false) (fun k=>?_) (Ev.step (f:=fun _=>some R) (fun k=>?_) (Ev.now _))
  ·simp only [bits_Div64.l1]
   rw [if_neg (by decide),Int.zero_mul]
   congr 1
   refine decide_eq_false ?_
   rw [u64w (x:=0) (by decide) (by decide),u64w (x:=4294967296 * r) (by omega) (by omega),u64w (by omega) (by omega)]
   omega
  ·simp only [bits_Div64.j4]
   rw [if_neg (by decide),if_pos hs,hf]
 | succ m ih =>
  intro q r P S hm hq hq1 hP hS hr hr0 hr1 hT
  obtain ⟨t1,t2⟩:=stage_test hP hS hY y1b y0b hu hu1 h1 ⟨hq,hq1⟩ hr hr0 hr1 hT
  have yes:r * 4294967296+u1 - S<0→Ev (fun k=>bits_Div64.j4 k Y s y1 y0 u1 q1 r u q true) R:=by
   intro hlt
   have hq2:=nonneg_of_T (y1:=y1) hS hq hr0 h1.1 hlt
   have hw:Aside0 (IntKind.u64.wrap (q - 1)=q - 1):=⟨u64w (by omega) (by omega)⟩
   have hw2:Aside0 (IntKind.u64.wrap (r+y1)=r+y1):=⟨u64w (by omega) (by omega)⟩
   have hP':P - y1=(q - 1) * y1:=by rw [stage_dec,hP]
   have hS':S - y0=(q - 1) * y0:=by rw [stage_dec,hS]
   by_cases hb:4294967296≤r+y1
   ·have hn:=stage_break (u:=u) hP hS hY y0b h1.1 hq1 hb
    have hf:=fin (q - 1) (r+y1) (P - y1) (S - y0) (by omega) (by omega) hP' hS' (by omega) hn (by omega)
    refine Ev.step (f:=fun _=>some R) (fun k=>?_) (Ev.now _)
    simp only [bits_Div64.j4]
    rw [if_pos trivial,hw2.out,if_pos (by omega),if_pos hs,hw.out,hf]
   ·refine Ev.step (fun k=>?_) (ih (q - 1) (r+y1) (P - y1) (S - y0) (by omega) (by omega) (by omega) hP' hS' (by omega) (by omega) (by omega) (by omega))
    simp only [bits_Div64.j4]
    rw [if_pos trivial,hw2.out,if_neg (by omega),hw.out]
  by_cases hc:4294967296≤q
  ·refine Ev.step (fun k=>?_) (yes (t1 hc))
   simp only [bits_Div64.l1]
   rw [if_pos (by omega)]
  ·obtain ⟨s0,s1⟩:=t2 (by omega)
   have hw:Aside0 (IntKind.u64.wrap (q * y0)=S):=⟨by rw [← hS];exact u64w (by omega) (by omega)⟩
   have hw2:Aside0 (IntKind.u64.wrap (IntKind.u64.wrap (4294967296 * r)+u1)=4294967296 * r+u1):=⟨by rw [u64w (x:=4294967296 * r) (by omega) (by omega),u64w (by omega) (by omega)]⟩
   by_cases hlt:r * 4294967296+u1 - S<0
   ·refine Ev.step (fun k=>?_) (yes hlt)
    simp only [bits_Div64.l1]
    rw [if_neg (by omega),hw.out,hw2.out,decide_eq_true (by omega)]
   ·have hf:=fin q r P S hq hq1 hP hS hr (by omega) hT
    refine Ev.step (f:=fun k=>bits_Div64.j4 k Y s y1 y0 u1 q1 r u q false) (fun k=>?_) (Ev.step (f:=fun _=>some R) (fun k=>?_) (Ev.now _))
    ·simp only [bits_Div64.l1]
     rw [if_neg (by omega),hw.out,hw2.out,decide_eq_false (by omega)]
    ·simp only [bits_Div64.j4]
     rw [if_neg (by decide),if_pos hs,hf]
theorem stage_first {u y1 y0 Y u1:Int} (hY:Y=y1 * 4294967296+y0) (y1b:2147483648≤y1∧y1<4294967296) (y0b:0≤y0∧y0<4294967296) (hu:0≤u) (hu1:u<Y) (h1:0≤u1∧u1<4294967296) :
  0≤u / y1∧u / y1≤4294967297∧0≤u - u / y1 * y1∧u - u / y1 * y1<4294967296∧(u - u / y1 * y1) * 4294967296+u1 - u / y1 * y0<Y:=by
 have h2:=Int.mul_ediv_add_emod u y1
 have h3:=Int.emod_nonneg u (show y1≠0 by omega)
 have h4:=Int.emod_lt_of_pos u (show 0<y1 by omega)
 have h5:0≤u / y1:=Int.ediv_nonneg hu (by omega)
 have h6:u / y1<4294967298:=Int.ediv_lt_of_lt_mul (by omega) (by omega)
 have h7:0≤u / y1 * y0:=Int.mul_nonneg h5 y0b.1
 rw [Int.mul_comm y1] at h2
 exact ⟨h5,by omega,by omega,by omega,by omega⟩
theorem stage_wrap {u u1 q Y t:Int} (h:u * 4294967296+u1=q * Y+t) (h0:0≤t) (h1:t<18446744073709551616) :
  IntKind.u64.wrap (IntKind.u64.wrap (IntKind.u64.wrap (u * 4294967296)+u1) - IntKind.u64.wrap (q * Y))=t:=by
 generalize q * Y=Q at *
 rw [IntKind.wrap_u64,IntKind.wrap_u64,IntKind.wrap_u64,IntKind.wrap_u64]
 omega
theorem div64_core {Y s y1 y0 u a1 a0:Int} (hs:0≤s) (hY:Y=y1 * 4294967296+y0) (y1b:2147483648≤y1∧y1<4294967296) (y0b:0≤y0∧y0<4294967296) (hu:0≤u) (hu1:u<Y) (h1:0≤a1∧a1<4294967296) (h0:0≤a0∧a0<4294967296) :
  Ev (fun k=>bits_Div64.l0 k Y s y1 y0 u a1 a0 (u / y1) (u - u / y1 * y1)) ((u * 18446744073709551616+a1 * 4294967296+a0) / Y,shr .u64 ((u * 18446744073709551616+a1 * 4294967296+a0) % Y) s):=by
 obtain ⟨f1,f2,f3,f4,f5⟩:=stage_first hY y1b y0b hu hu1 h1
 refine div64_l0 hY y1b y0b hu hu1 h1 ?_ _ (u / y1) (u - u / y1 * y1) _ _ (Nat.le_refl _) f1 f2 rfl rfl rfl f3 f4 f5
 intro q t e t0 t1 q0 q1
 have hYB:Y<18446744073709551616:=by omega
 have hw:=stage_wrap e t0 (by omega)
 obtain ⟨g1,g2,g3,g4,g5⟩:=stage_first hY y1b y0b t0 t1 h0
 have hd:=utdiv t0 (by omega) (show 0<y1 by omega)
 refine Ev.step (f:=fun k=>bits_Div64.l1 k Y s y1 y0 a0 q (t - t / y1 * y1) t (t / y1)) (fun k=>?_) (div64_l1 hs hY y1b y0b t0 t1 h0 ?_ _ (t / y1) (t - t / y1 * y1) _ _ (Nat.le_refl _) g1 g2 rfl rfl rfl g3 g4 g5)
 ·simp only [bits_Div64.j2]
  have hP:0≤t / y1 * y1:=Int.mul_nonneg g1 (by omega)
  rw [if_neg (by omega),hw,hd]
  rw [u64w (x:=t / y1 * y1) hP (by omega),u64w (x:=t - t / y1 * y1) g3 (by omega)]
 ·intro q' t' e' t0' t1' q0' q1'
  rw [stage_wrap e' t0' (by omega)]
  have he:u * 18446744073709551616+a1 * 4294967296+a0=(q * 4294967296+q') * Y+t':=by
   have:(q * 4294967296+q') * Y=q * Y * 4294967296+q' * Y:=by grind
   rw [this]
   omega
  obtain ⟨x1,x2⟩:=quot_of he t0' t1'
  rw [x1,x2]
  have hq:q * 4294967296+q'<18446744073709551616:=by
   rw [← x1]
   exact Int.ediv_lt_of_lt_mul (by omega) (by omega)
  rw [u64w (x:=q * 4294967296) (by omega) (by omega),u64w (by omega) (by omega)]
theorem lz_ev {x:Int} (h0:0≤x) (h1:x<B):Ev (fun k=>bits_LeadingZeros64.f k x) (((64 - bl x:Nat):Nat):Int):=by
 have hb:bl x≤64:=bl_le (by rw [pw2_64];exact h1)
 refine Ev.congr (f:=fun k=>(bits_Len64.f k x).bind fun t=>some (wrap64 (64 - t))) (fun k=>by unfold bits_LeadingZeros64.f;rfl) (Ev.congr (fun k=>rfl) (Ev.bind (len64_ev h0 h1) ?_))
 have e:wrap64 (64 - ((bl x:Nat):Int))=(((64 - bl x:Nat):Nat):Int):=by rw [w64 (by omega) (by omega)];omega
 rw [e]
 exact Ev.now _
theorem norm64 {y:Int} (h0:0<y) (h1:y<B):9223372036854775808≤y * pw 2 (64 - bl y)∧y * pw 2 (64 - bl y)<18446744073709551616∧1≤bl y∧bl y≤64:=by
 have hb:bl y≤64:=bl_le (by rw [pw2_64];exact h1)
 have hb1:1≤bl y:=by rw [bl_half h0];omega
 have hp:=pw2_pos (64 - bl y)
 have hd:y / pw 2 (bl y)=0:=div_len two1 (by omega)
 have hlt:y<pw 2 (bl y):=by
  have:=Int.mul_ediv_add_emod y (pw 2 (bl y))
  have:=Int.emod_lt_of_pos y (pw2_pos (bl y))
  rw [hd,Int.mul_zero] at *
  omega
 have hle:pw 2 (bl y - 1)≤y:=ple_of_len two1 h0
 have e1:pw 2 (bl y) * pw 2 (64 - bl y)=18446744073709551616:=by rw [← Bdef, ← pw2_pq (s:=bl y) hb]
 have e2:pw 2 (bl y - 1) * pw 2 (64 - bl y)=9223372036854775808:=by
  rw [← pw_add,show bl y - 1+(64 - bl y)=63 by omega,pw_def];decide
 refine ⟨?_,?_,hb1,hb⟩
 ·rw [← e2];exact Int.mul_le_mul_of_nonneg_right hle (by omega)
 ·rw [← e1];exact Int.mul_lt_mul_of_pos_right hlt hp
theorem div64_ev {hi lo y:Int} (h0:0≤hi) (h1:hi<y) (hy:y<B) (l0:0≤lo) (l1:lo<B):Ev (fun k=>bits_Div64.f k hi lo y) ((hi * B+lo) / y,(hi * B+lo) % y):=by
 by_cases hz:hi=0
 ·subst hz
  rw [Int.zero_mul,Int.zero_add]
  refine Ev.congr (f:=fun _=>some (lo / y,lo % y)) (fun k=>?_) (Ev.now _)
  unfold bits_Div64.f
  rw [Bdef] at l1
  rw [if_neg (by omega),if_neg (by omega),if_pos rfl,utdiv l0 (by omega) (by omega),Int.tmod_eq_emod_of_nonneg l0]
 ·obtain ⟨n1,n2,n3,n4⟩:=norm64 (show 0<y by omega) hy
  have hs1:64 - bl y≤63:=by omega
  generalize hs:64 - bl y=s at *
  have hP:=pw2_pos s
  have hQ:=pw2_pos (64 - s)
  have hPQ:=pw2_pq (s:=s) (by omega)
  have lv:=Ev.congr (f:=fun k=>bits_LeadingZeros64.f k y) (fun k=>rfl) (lz_ev (x:=y) (by omega) hy)
  rw [hs] at lv
  obtain ⟨d1,d2,d3,d4,d5,d6⟩:=lift_digit hP hQ l0 (by rw [hPQ];exact l1)
  rw [hPQ] at d1 d3 d4
  have hhi:hi * pw 2 s<y * pw 2 s:=Int.mul_lt_mul_of_pos_right h1 hP
  have hhi1:(hi+1) * pw 2 s≤y * pw 2 s:=Int.mul_le_mul_of_nonneg_right (by omega) (by omega)
  rw [Int.add_mul,Int.one_mul] at hhi1
  have hhi0:0≤hi * pw 2 s:=Int.mul_nonneg h0 (by omega)
  have eY:shl .u64 y (s:Int)=y * pw 2 s:=by rw [shl_u64 _ (by omega)];exact Int.emod_eq_of_lt (by omega) (by rw [Bdef];omega)
  have eH:shl .u64 hi (s:Int)=hi * pw 2 s:=by rw [shl_u64 _ (by omega)];exact Int.emod_eq_of_lt (by omega) (by rw [Bdef];omega)
  have eL:shl .u64 lo (s:Int)=lo * pw 2 s % B:=shl_u64 _ (by omega)
  have eW:IntKind.u64.wrap (s:Int)=(s:Int):=u64w (by omega) (by omega)
  have eV:IntKind.u64.wrap (64 - (s:Int))=((64 - s:Nat):Int):=by rw [u64w (by omega) (by omega)];omega
  have eR:shr .u64 lo ((64 - s:Nat):Int)=lo / pw 2 (64 - s):=shr_u64 _ (by omega)
  have eO:Go.bits .or .u64 (hi * pw 2 s) (lo / pw 2 (64 - s))=hi * pw 2 s+lo / pw 2 (64 - s) :=
   or_join (i:=s) hhi0 (Int.mul_emod_left _ _) (by rw [Bdef];omega) d5 d6 (by have:=pw2_le_B (i:=s) (by omega);omega)
  have hlm0:0≤lo * pw 2 s % B:=Int.emod_nonneg _ (by have:=Bpos;omega)
  have hlm1:lo * pw 2 s % B<18446744073709551616:=by rw [← Bdef];exact Int.emod_lt_of_pos _ Bpos
  have eA:(hi * pw 2 s+lo / pw 2 (64 - s)) * 18446744073709551616+(lo * pw 2 s % B)=(hi * B+lo) * pw 2 s:=by
   rw [Int.add_mul (hi * B),d1]
   have:hi * B * pw 2 s=hi * pw 2 s * B:=by grind
   rw [this,Bdef]
   have:(lo * pw 2 s % 18446744073709551616+18446744073709551616 * (lo / pw 2 (64 - s))) % 18446744073709551616=lo * pw 2 s % 18446744073709551616:=by omega
   omega
  generalize hYd:y * pw 2 s=Y at *
  generalize hud:hi * pw 2 s+lo / pw 2 (64 - s)=u at *
  generalize had:lo * pw 2 s % B=a at *
  have hu0:0≤u:=by omega
  have hu1:u<Y:=by omega
  have core:=div64_core (Y:=Y) (s:=(s:Int)) (y1:=Y / 4294967296) (y0:=Y % 4294967296) (u:=u) (a1:=a / 4294967296) (a0:=a % 4294967296) (by omega) (by omega) (by omega) (by omega) hu0 hu1 (by omega) (by omega)
  have eN:u * 18446744073709551616+a / 4294967296 * 4294967296+a % 4294967296=(hi * B+lo) * pw 2 s:=by rw [← eA];omega
  rw [eN, ← hYd,Int.mul_ediv_mul_of_pos_left _ _ hP,mul_shl hP,shr_u64 _ (by omega),Int.mul_ediv_cancel _ (show pw 2 s≠0 by omega),hYd] at core
  have hP1:0≤u / (Y / 4294967296) * (Y / 4294967296):=Int.mul_nonneg (Int.ediv_nonneg hu0 (by omega)) (by omega)
  have hP2:=Int.mul_ediv_add_emod u (Y / 4294967296)
  have hP3:=Int.emod_nonneg u (show Y / 4294967296≠0 by omega)
  rw [Int.mul_comm (Y / 4294967296)] at hP2
  refine Ev.congr (fun k=>by unfold bits_Div64.f;rw [if_neg (by omega),if_neg (by omega),if_neg hz]) (Ev.bind lv ?_)
  refine Ev.congr (fun k=>?_) core
  rw [eW,if_pos (by omega),eV,if_pos (by omega),eY,eH,eL,eR,eO,if_neg (by omega),utdiv hu0 (by omega) (by omega),u64_and32 (by omega) (by omega),u64_and32 hlm0 hlm1]
  rw [u64w (x:=u / (Y / 4294967296) * (Y / 4294967296)) hP1 (by omega),u64w (x:=u - u / (Y / 4294967296) * (Y / 4294967296)) (by omega) (by omega)]
theorem drop_cons' (l:List Int) (i:Nat) (h:i<l.length):l.drop i=l.getD i 0 :: l.drop (i+1):=by
 rw [List.drop_eq_getElem_cons h,List.getD_eq_getElem?_getD,List.getElem?_eq_getElem h];rfl
theorem drop_set_cons (l:List Int) (i:Nat) (v:Int) (h:i<l.length):(l.set i v).drop i=v :: l.drop (i+1):=by
 rw [drop_cons' _ i (by simpa using h),getD_set_self l i v h]
 congr 1
 rw [List.drop_set_of_lt (by omega)]
theorem short_step {b a r d q t V Q:Int} (h:r * b+a=q * d+t) (hv:V=Q * d+r):a+b * V=(q+b * Q) * d+t:=by grind
theorem short_l0 {l:List Int} (hl:Dig B l) (hL:l.length≤1099511627775) {d:Int} (d0:0<d) (d1:d<B):∀ (i:Nat) (x:List Int) (r:Int),i≤l.length→x.length=l.length→Dig B x→0≤r→r<d→val B (l.drop i)=val B (x.drop i) * d+r →
  Ev (fun k=>nat_short.l0 k l d x r ((i:Int) - 1)) (enc B (val B l / d),val B l % d):=by
 intro i
 induction i with
 | zero =>
  intro x r hi hx hd r0 r1 hv
  rw [List.drop_zero,List.drop_zero] at hv
  obtain ⟨e1,e2⟩:=quot_of hv r0 r1
  rw [e1,e2]
  refine Ev.step (f:=fun k=>(nat_trim.f k x).bind fun t=>some (t,r)) (fun k=>?_) (Ev.bind (trim_ev hd (by omega)) (Ev.now _))
  simp only [nat_short.l0]
  rw [if_neg (by omega)]
 | succ i ih =>
  intro x r hi hx hd r0 r1 hv
  have hg:=hl.get Bpos i
  have hD:=div64_ev r0 r1 d1 hg.1 hg.2
  have hn:0≤r * B+l.getD i 0:=by have:=Int.mul_nonneg r0 (Int.le_of_lt Bpos);omega
  have q0:0≤(r * B+l.getD i 0) / d:=Int.ediv_nonneg hn (by omega)
  have hrb:(r+1) * B≤d * B:=Int.mul_le_mul_of_nonneg_right (by omega) (Int.le_of_lt Bpos)
  rw [Int.add_mul,Int.one_mul] at hrb
  have q1:(r * B+l.getD i 0) / d<B:=Int.ediv_lt_of_lt_mul d0 (by rw [Int.mul_comm B];omega)
  have t0:=Int.emod_nonneg (r * B+l.getD i 0) (show d≠0 by omega)
  have t1:=Int.emod_lt_of_pos (r * B+l.getD i 0) d0
  have he:=Int.mul_ediv_add_emod (r * B+l.getD i 0) d
  generalize (r * B+l.getD i 0) / d=q at *
  generalize (r * B+l.getD i 0) % d=t at *
  have hw:Aside0 (wrap64 (((i+1:Nat):Int) - 1 - 1)=(i:Int) - 1):=⟨by rw [w64 (by omega) (by omega)];omega⟩
  have hw1:Aside0 (((i+1:Nat):Int) - 1=(i:Int)):=⟨by omega⟩
  have hlt:i<x.length:=by omega
  refine Ev.step (f:=fun k=>(bits_Div64.f k r (l.getD i 0) d).bind fun b=>if (i:Int)<(x.length:Int) then nat_short.l0 k l d (x.set i b.1) b.2 ((i:Int) - 1) else none) (fun k=>?_) (Ev.bind hD ?_)
  ·simp only [nat_short.l0]
   rw [if_pos (by omega),if_pos (by omega),if_pos (by omega),hw.out,hw1.out,rd_nat]
   rfl
  ·refine Ev.congr (fun k=>by rw [if_pos (by omega)]) (ih (x.set i q) t (by omega) (by simpa using hx) (hd.set q0 q1) t0 t1 ?_)
   rw [drop_set_cons x i q hlt,drop_cons' l i (by omega),val_cons,val_cons]
   exact short_step (by rw [← he,Int.mul_comm d]) hv
theorem short_ev {l:List Int} (hl:Dig B l) (hL:l.length≤1099511627775) {d:Int} (d0:0<d) (d1:d<B):Ev (fun k=>nat_short.f k l d) (enc B (val B l / d),val B l % d):=by
 have:=short_l0 hl hL d0 d1 l.length (List.replicate l.length 0) 0 (Nat.le_refl _) (by simp) (Dig.zeros Bpos _) (Int.le_refl _) d0 (by simp [val])
 refine Ev.congr (fun k=>?_) this
 unfold nat_short.f
 rw [if_pos (by omega),Int.toNat_natCast,if_pos (by omega),w64 (by omega) (by omega)]
theorem est_mul {q d1 d0 b:Int}:q * (d1 * b+d0)=q * d1 * b+q * d0:=by grind
theorem est_l0 {u0 d1 d0:Int} (hu0:0≤u0∧u0<B) (hd1:0<d1∧d1<B) (hd0:0≤d0∧d0<B) (U:Int):∀ (m:Nat) (q r:Int),q.toNat≤m→0≤q→q<B→0≤r→r<B→U=(q * d1+r) * B+u0→U<(q+1) * (d1 * B+d0) →
  ∃ g,Ev (fun k=>nat_estimate.l0 k u0 d1 d0 q r) g∧0≤g∧g<B∧U<(g+1) * (d1 * B+d0):=by
 intro m
 induction m with
 | zero =>
  intro q r hm q0 q1 r0 r1 hU hlt
  obtain rfl:q=0:=by omega
  refine ⟨0,?_,q0,q1,hlt⟩
  have hj:Ev (fun k=>nat_estimate.j1 k u0 d1 d0 0 r true) 0:=Ev.step (f:=fun _=>some 0) (fun k=>by simp only [nat_estimate.j1];rw [if_pos trivial]) (Ev.now _)
  refine Ev.step (f:=fun k=>nat_estimate.j1 k u0 d1 d0 0 r true) (fun k=>?_) hj
  simp only [nat_estimate.l0]
  rw [mul64_spec ⟨q0,q1⟩ hd0,Int.zero_mul]
  simp only [Option.bind_some,Int.zero_ediv,Int.zero_emod]
  by_cases h:0<r
  ·rw [if_pos h]
  ·rw [if_neg h,if_pos (by omega),decide_eq_true (by omega)]
 | succ m ih =>
  intro q r hm q0 q1 r0 r1 hU hlt
  have hP:0≤q * d0:=Int.mul_nonneg q0 hd0.1
  have hm1:q * d0=q * d0 / 18446744073709551616 * 18446744073709551616+q * d0 % 18446744073709551616:=by omega
  by_cases hle:q * d0≤r * B+u0
  ·refine ⟨q,?_,q0,q1,hlt⟩
   have hj:Ev (fun k=>nat_estimate.j1 k u0 d1 d0 q r true) q:=Ev.step (f:=fun _=>some q) (fun k=>by simp only [nat_estimate.j1];rw [if_pos trivial]) (Ev.now _)
   refine Ev.step (f:=fun k=>nat_estimate.j1 k u0 d1 d0 q r true) (fun k=>?_) hj
   simp only [nat_estimate.l0]
   rw [mul64_spec ⟨q0,q1⟩ hd0]
   simp only [Option.bind_some]
   rw [Bdef] at hle hu0
   by_cases h:q * d0 / 18446744073709551616<r
   ·rw [if_pos h]
   ·rw [if_neg h,if_pos (by omega),decide_eq_true (by omega)]
  ·have hq1:1≤q:=by
    by_cases h:q=0
    ·subst h;rw [Int.zero_mul] at hle;have:=Int.mul_nonneg r0 (Int.le_of_lt Bpos);omega
    ·omega
   have hw:Aside0 (IntKind.u64.wrap (q - 1)=q - 1):=⟨by rw [Bdef] at q1;exact u64w (by omega) (by omega)⟩
   have hlt2:U<(q - 1+1) * (d1 * B+d0):=by
    rw [show q - 1+1=q by omega,est_mul,hU,Int.add_mul]
    omega
   have hU2:U=((q - 1) * d1+(r+d1)) * B+u0:=by rw [hU];grind
   have no:∀ R,Ev (fun k=>nat_estimate.j1 k u0 d1 d0 q r false) R→Ev (fun k=>nat_estimate.l0 k u0 d1 d0 q r) R:=by
    intro R hR
    refine Ev.step (fun k=>?_) hR
    simp only [nat_estimate.l0]
    rw [mul64_spec ⟨q0,q1⟩ hd0]
    simp only [Option.bind_some]
    rw [Bdef] at hle hu0
    rw [if_neg (by omega)]
    by_cases h:q * d0 / 18446744073709551616=r
    ·rw [if_pos h,decide_eq_false (by omega)]
    ·rw [if_neg h]
   by_cases hb:B≤r+d1
   ·refine ⟨q - 1,no _ (Ev.step (f:=fun _=>some (q - 1)) (fun k=>?_) (Ev.now _)),by omega,by omega,hlt2⟩
    simp only [nat_estimate.j1]
    have e:IntKind.u64.wrap (r+d1)=r+d1 - 18446744073709551616:=by
     rw [Bdef] at hb r1 hd1
     rw [IntKind.wrap_u64]
     omega
    rw [Bdef] at r1
    rw [if_neg (by decide),e,if_pos (by omega),hw.out]
   ·obtain ⟨g,hg,g0,g1,g2⟩:=ih (q - 1) (r+d1) (by omega) (by omega) (by omega) (by omega) (by omega) hU2 hlt2
    refine ⟨g,no _ (Ev.step (fun k=>?_) hg),g0,g1,g2⟩
    simp only [nat_estimate.j1]
    have e:IntKind.u64.wrap (r+d1)=r+d1:=by rw [Bdef] at hb;exact u64w (by omega) (by omega)
    rw [if_neg (by decide),e,if_neg (by omega),hw.out]
theorem est_ev {u2 u1 u0 d1 d0:Int} (hu2:0≤u2∧u2<B) (hu1:0≤u1∧u1<B) (hu0:0≤u0∧u0<B) (hd1:0<d1∧d1<B) (hd0:0≤d0∧d0<B) :
  ∃ g,Ev (fun k=>nat_estimate.f k u2 u1 u0 d1 d0) g∧0≤g∧g<B∧((u2 * B+u1) * B+u0<(g+1) * (d1 * B+d0)∨g=B - 1):=by
 by_cases h:d1≤u2
 ·refine ⟨B - 1,Ev.congr (f:=fun _=>some (B - 1)) (fun k=>?_) (Ev.now _),by rw [Bdef];decide,by omega, .inr rfl⟩
  unfold nat_estimate.f
  rw [if_pos (by omega),Bdef]
  rfl
 ·have hD:=div64_ev hu2.1 (show u2<d1 by omega) hd1.2 hu1.1 hu1.2
  have hn:0≤u2 * B+u1:=by have:=Int.mul_nonneg hu2.1 (Int.le_of_lt Bpos);omega
  have q0:0≤(u2 * B+u1) / d1:=Int.ediv_nonneg hn (by omega)
  have hrb:(u2+1) * B≤d1 * B:=Int.mul_le_mul_of_nonneg_right (by omega) (Int.le_of_lt Bpos)
  rw [Int.add_mul,Int.one_mul] at hrb
  have q1:(u2 * B+u1) / d1<B:=Int.ediv_lt_of_lt_mul hd1.1 (by rw [Int.mul_comm B];omega)
  have t0:=Int.emod_nonneg (u2 * B+u1) (show d1≠0 by omega)
  have t1:=Int.emod_lt_of_pos (u2 * B+u1) hd1.1
  have he:=Int.mul_ediv_add_emod (u2 * B+u1) d1
  generalize (u2 * B+u1) / d1=q at *
  generalize (u2 * B+u1) % d1=t at *
  have e1:(q+1) * (d1 * B+d0)=(q * d1+d1) * B+(q * d0+d0):=by grind
  have hqd:=Int.mul_nonneg q0 hd0.1
  have hU:(u2 * B+u1) * B+u0=(q * d1+t) * B+u0:=by rw [← he,Int.mul_comm d1]
  have hlt:(u2 * B+u1) * B+u0<(q+1) * (d1 * B+d0):=by
   rw [e1,hU]
   have h2:(q * d1+t+1) * B≤(q * d1+d1) * B:=Int.mul_le_mul_of_nonneg_right (by omega) (Int.le_of_lt Bpos)
   rw [Int.add_mul (q * d1+t),Int.one_mul] at h2
   omega
  obtain ⟨g,hg,g0,g1,g2⟩:=est_l0 hu0 hd1 hd0 ((u2 * B+u1) * B+u0) q.toNat q t (Nat.le_refl _) q0 q1 t0 (by omega) hU hlt
  refine ⟨g,Ev.congr (fun k=>by unfold nat_estimate.f;rw [if_neg (by omega)]) (Ev.bind hD hg),g0,g1, .inl g2⟩
end Go.Proofs.Yy.PTx
end
