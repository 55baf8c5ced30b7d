/- Part 19. -/
import Derived.Test.YtpfnkbnepcchgaaGreatDoorKTOAR
set_option linter.unusedSimpArgs false
set_option linter.unusedVariables false
section
namespace Go.Proofs.Yy.PTx
open Go.RowKit Go.Proofs.Yw.PrintWords Go.Proofs.Yw.PrintLast Go.Proofs.Yw.PrintMore Go.Proofs.Yy.M Go.Proofs.Yy.NM
attribute [local irreducible] fK iG ji kQ val
theorem vJ {x:Int}(h0:0≤x)(h1:x<18446744073709551616):Go.bits .and .u64 x 4294967295=x % 4294967296 :=
 bits_mask .u64 64 (by decide) (fun n a b=>tJ a (by omega)) 32 (by decide) x h0 h1
theorem uk {a b m:Int}(ha:0≤a)(hb:0≤b)(h1:a≤m)(h2:b≤m):a*b≤m*m :=
 Int.mul_le_mul h1 h2 hb (by omega)
theorem SS {p q r s A:Int}(hp:0≤p∧p≤18446744065119617025)(hq:0≤q∧q≤18446744065119617025)(hr:0≤r∧r≤18446744065119617025)(hs:0≤s∧s≤18446744065119617025)
  (hA:A=p*18446744073709551616+(q+s)*4294967296+r):p+(q+r / 4294967296) / 4294967296+((q+r / 4294967296) % 4294967296+s) / 4294967296=A / 18446744073709551616:=by
 omega
theorem wZ {a b:Int}(ha:0≤a∧a<B)(hb:0≤b∧b<B):bits_Mul64.f a b=some (a*b / 18446744073709551616,a*b % 18446744073709551616):=by
 rw[uh]at *;unfold bits_Mul64.f
 obtain⟨x1,hx1⟩:∃ x1,x1=a / 4294967296:=⟨_,rfl⟩
 obtain⟨x0,hx0⟩:∃ x0,x0=a % 4294967296:=⟨_,rfl⟩
 obtain⟨y1,hy1⟩:∃ y1,y1=b / 4294967296:=⟨_,rfl⟩
 obtain⟨y0,hy0⟩:∃ y0,y0=b % 4294967296:=⟨_,rfl⟩
 rw[vJ ha.1 ha.2,vJ hb.1 hb.2, ← hx1, ← hx0, ← hy1, ← hy0]
 have ea:a=x1*4294967296+x0:=by omega
 have eb:b=y1*4294967296+y0:=by omega
 have x1b:0≤x1∧x1≤4294967295:=by omega
 have x0b:0≤x0∧x0≤4294967295:=by omega
 have y1b:0≤y1∧y1≤4294967295:=by omega
 have y0b:0≤y0∧y0≤4294967295:=by omega
 have hp:0≤x1*y1∧x1*y1≤18446744065119617025:=⟨Int.mul_nonneg x1b.1 y1b.1,uk x1b.1 y1b.1 x1b.2 y1b.2⟩
 have hq:0≤x1*y0∧x1*y0≤18446744065119617025:=⟨Int.mul_nonneg x1b.1 y0b.1,uk x1b.1 y0b.1 x1b.2 y0b.2⟩
 have hr:0≤x0*y0∧x0*y0≤18446744065119617025:=⟨Int.mul_nonneg x0b.1 y0b.1,uk x0b.1 y0b.1 x0b.2 y0b.2⟩
 have hs:0≤x0*y1∧x0*y1≤18446744065119617025:=⟨Int.mul_nonneg x0b.1 y1b.1,uk x0b.1 y1b.1 x0b.2 y1b.2⟩
 have hA:a*b=x1*y1*18446744073709551616+(x1*y0+x0*y1)*4294967296+x0*y0:=by rw[ea,eb];grind
 have hM:=SS hp hq hr hs hA;generalize a*b=A at *;generalize x1*y1=p at *;generalize x1*y0=q at *;generalize x0*y0=r at *;generalize x0*y1=s at *;clear hx1 hx0 hy1 hy0 ea eb x1b x0b y1b y0b ha hb;rw[tJ (x:=p) (by omega) (by omega),tJ (x:=q) (by omega) (by omega),tJ (x:=r) (by omega) (by omega),tJ (x:=s) (by omega) (by omega)];rw[tJ (x:=q+r / 4294967296) (by omega) (by omega),vJ (x:=q+r / 4294967296) (by omega) (by omega),tJ (x:=(q+r / 4294967296) % 4294967296+s) (by omega) (by omega)];rw[tJ (x:=p+(q+r / 4294967296) / 4294967296) (by omega) (by omega),tJ (x:=p+(q+r / 4294967296) / 4294967296+((q+r / 4294967296) % 4294967296+s) / 4294967296) (by omega) (by omega),hM];rw[IntKind.wrap_u64]
theorem Td {P x y h l l1 c1 l2 c2:Int}(hP:0≤P∧P≤340282366920938463426481119284349108225)(hx:0≤x∧x<18446744073709551616)(hy:0≤y∧y<18446744073709551616)
  (hh:h=P / 18446744073709551616) (hl:l=P % 18446744073709551616) (h1:l1+18446744073709551616*c1=l+x) (hc1:0≤c1∧c1≤1) (hl1:0≤l1∧l1<18446744073709551616)
  (h2:l2+18446744073709551616*c2=l1+y) (hc2:0≤c2∧c2≤1) (hl2:0≤l2∧l2<18446744073709551616):l2+18446744073709551616*(h+c1+c2)=P+x+y∧0≤h+c1∧h+c1≤18446744073709551615∧0≤h+c1+c2∧h+c1+c2≤18446744073709551615:=by
 omega
theorem F9 {v w x y:Int}(hv:0≤v∧v<B)(hw:0≤w∧w<B)(hx:0≤x∧x<B)(hy:0≤y∧y<B) :
  ∃ lo hi,pI.f v w x y=some (lo,hi)∧lo+B*hi=v*w+x+y∧(0≤lo∧lo<B)∧0≤hi∧hi<B:=by
 unfold pI.f;rw[wZ hv hw]
 have hl:0≤v*w % 18446744073709551616∧v*w % 18446744073709551616<B:=by rw[uh];exact⟨Int.emod_nonneg _ (by decide),Int.emod_lt_of_pos _ (by decide)⟩
 obtain⟨s1,b1,c1,d1⟩:=uj hl hx (Int.le_refl 0) (by decide);obtain⟨s2,b2,c2,d2⟩:=uj b1 hy (Int.le_refl 0) (by decide)
 have hP:0≤v*w∧v*w≤340282366920938463426481119284349108225:=by
  rw[uh]at hv hw;exact⟨Int.mul_nonneg hv.1 hw.1,uk (m:=18446744073709551615) hv.1 hw.1 (by omega) (by omega)⟩
 refine⟨_,_,rfl,?_⟩;dsimp only;rw[uh]at *;obtain⟨e1,e2,e3,e4,e5⟩:=Td hP hx hy rfl rfl (by rw[s1];omega) ⟨c1,d1⟩ b1 (by rw[s2];omega) ⟨c2,d2⟩ b2;rw[tJ e2 e3,tJ e4 e5];exact⟨e1,b2,e4,by omega⟩
theorem Qb {pi pk b v hi lo x y w V A W:Int}(hs:lo+b*hi=v*w+x+y)(hv:V+pi*pk*y=A+pi*v*W):V+pi*pk*(lo-x)+pi*pk*b*hi=A+pi*v*(W+pk*w):=by grind
theorem qw (l:List Int)(i j:Nat)(v:Int)(h:i≠j):(l.set i v).getD j 0=l.getD j 0:=by
 simp[List.getD_eq_getElem?_getD,List.getElem?_set_ne h]
theorem YI {a b:List Int}(hb:Dig B b)(hL:a.length+b.length≤1099511627776)(i:Nat)(hi:i<a.length)(v:Int)(hv:0≤v∧v<B)(A:Int)(r:List Int)
  (next:∀ x,x.length=a.length+b.length→Dig B x→(∀ j,i+1+b.length≤j→x.getD j 0=0)→val B x=A+pw B i*v*val B b→Ev (fun k=>dJ.l0 k b x a (a.length:Int) ((i+1:Nat):Int)) r) :
  ∀ (d k:Nat) (x:List Int) (y:Int),k+d=b.length→x.length=a.length+b.length→Dig B x→0≤y→y<B→(∀ j,i+b.length≤j→x.getD j 0=0) →
   val B x+pw B i*pw B k*y=A+pw B i*v*val B (b.take k) →
   Ev (fun n=>dJ.l1 n b x (i:Int) v y a (a.length:Int) (i:Int) b (b.length:Int) (k:Int)) r:=by
 intro d
 induction d with
 | zero =>
  intro k x y hk hx hd h0 h1 hz hval
  obtain rfl:k=b.length:=by omega
  rw[List.take_length, ← qA]at hval
  have hw:ae (wrap64 ((i:Int)+(b.length:Int))=((i+b.length:Nat):Int)):=⟨by rw[w64 (by omega) (by omega)];omega⟩
  have hw1:ae (wrap64 ((i:Int)+1)=((i+1:Nat):Int)):=⟨by rw[w64 (by omega) (by omega)];omega⟩
  have hlt:i+b.length<x.length:=by omega
  refine Ev.step (f:=fun n=>dJ.l0 n b (x.set (i+b.length) y) a (a.length:Int) ((i+1:Nat):Int)) (fun n=>?_) (next _ (by simpa using hx) (hd.set h0 h1) (fun j hj=>by rw[qw _ _ _ _ (by omega)];exact hz j (by omega)) ?_)
  ·simp only[dJ.l1]
   rw[hw.out,hw1.out,if_neg (by omega),if_pos (by omega),if_pos (by omega)]
   rfl
  ·rw[pG B x _ y hlt,hz _ (by omega),Int.sub_zero]
   exact hval
 | succ d ih =>
  intro k x y hk hx hd h0 h1 hz hval
  have hw:ae (wrap64 ((i:Int)+(k:Int))=((i+k:Nat):Int)):=⟨by rw[w64 (by omega) (by omega)];omega⟩
  have hw1:ae (wrap64 ((k:Int)+1)=((k+1:Nat):Int)):=⟨by rw[w64 (by omega) (by omega)];omega⟩
  have hlt:i+k<x.length:=by omega
  have hk1:k+1+d=b.length:=by omega
  obtain⟨lo,hi',hf,hs,hlo,hh⟩:=F9 hv (hb.get jw k) (hd.get jw (i+k)) ⟨h0,h1⟩
  refine Ev.step (f:=fun n=>dJ.l1 n b (x.set (i+k) lo) (i:Int) v hi' a (a.length:Int) (i:Int) b (b.length:Int) ((k+1:Nat):Int)) (fun n=>?_)
   (ih (k+1) _ _ hk1 (by simpa using hx) (hd.set hlo.1 hlo.2) hh.1 hh.2 (fun j hj=>by rw[qw _ _ _ _ (by omega)];exact hz j hj) ?_)
  ·simp only[dJ.l1]
   rw[hw.out,hw1.out,if_pos (by omega),if_pos (by omega),if_pos (by omega),if_pos (by omega),if_pos (by omega),eF,eF,hf];simp only[Option.bind_some,Int.toNat_natCast]
  ·rw[pG B x _ lo hlt,eP B b,fA, ← Int.mul_assoc,qA]
   exact Qb hs hval
theorem JK {pi v V A W:Int}(h:V=A*W+pi*v*W):V=(A+pi*v)*W:=by grind
theorem YC {a b:List Int}(ha:Dig B a)(hb:Dig B b)(hL:a.length+b.length≤1099511627776):∀ (d i:Nat) (x:List Int),i+d=a.length→x.length=a.length+b.length→Dig B x→(∀ j,i+b.length≤j→x.getD j 0=0) →
  val B x=val B (a.take i)*val B b→Ev (fun k=>dJ.l0 k b x a (a.length:Int) (i:Int)) (enc B (val B a*val B b)):=by
 intro d
 induction d with
 | zero =>
  intro i x hi hx hd _ hval
  obtain rfl:i=a.length:=by omega
  rw[List.take_length]at hval;refine Ev.step (f:=fun k=>(bH.f k x).bind fun t=>some t) (fun k=>?_) (Ev.bind (by rw[← hval];exact og hd (by omega)) (Ev.now _));simp only[dJ.l0];rw[if_neg (by omega)]
 | succ d ih =>
  intro i x hi hx hd hz hval;have hv:=ha.get jw i
  have hilt:i<a.length:=by omega
  have hi1:i+1+d=a.length:=by omega
  refine Ev.step (f:=fun k=>dJ.l1 k b x (i:Int) (a.getD i 0) 0 a (a.length:Int) (i:Int) b (b.length:Int) ((0:Nat):Int)) (fun k=>?_)
   (YI hb hL i hilt _ hv (val B (a.take i)*val B b) _ (fun x' hx' hd' hz' hval'=>ih (i+1) x' hi1 hx' hd' hz' ?_) b.length 0 x 0 (by omega) hx hd (by omega) (by omega) hz ?_)
  ·simp only[dJ.l0]
   rw[if_pos (by omega),if_pos (by omega),if_pos (by omega),eF]
   rfl
  ·rw[eP B a]
   exact JK hval'
  ·rw[List.take_zero,nG,hval];simp
theorem BQ {a b:List Int}(ha:Dig B a)(hb:Dig B b)(hL:a.length+b.length≤1099511627776):Ev (fun k=>dJ.f k a b) (enc B (val B a*val B b)):=by
 have hw:ae (wrap64 ((a.length:Int)+(b.length:Int))=((a.length+b.length:Nat):Int)):=⟨by rw[w64 (by omega) (by omega)];omega⟩
 refine Ev.congr (f:=fun k=>dJ.l0 k b (List.replicate (a.length+b.length) 0) a (a.length:Int) ((0:Nat):Int)) (fun k=>?_)
  (YC ha hb hL a.length 0 _ (by omega) (by simp) (Dig.zeros jw _) (fun j _=>by simp[List.getD_eq_getElem?_getD,List.getElem?_replicate];split <;> rfl) (by simp[wC,val]))
 unfold dJ.f;rw[hw.out,if_pos (by omega),Int.toNat_natCast,if_pos (by omega)]
 rfl
def afO (l:List (List Int)):Int:=l.foldl (fun p x=>p*val B x) 1
theorem afQ (l:List (List Int))(n:Nat):GZ l (n:Int)=l.getD n []:=by simp[GZ]
theorem RP {v:Int}{m:Nat}(h:v<pw B m):(enc B v).length≤m:=mG B1 h
theorem af6 {l:List (List Int)}(hd:∀ x ∈ l,Dig B x)(hL:(l.map List.length).sum+l.length≤1099511627774):∀ (d i:Nat) (v:Int) (s:Nat),i+d=l.length→0≤v→v≤pw B s→s+((l.drop i).map List.length).sum=(l.map List.length).sum →
  Ev (fun k=>lM.l0 k (enc B v) l (l.length:Int) (i:Int)) (enc B ((l.drop i).foldl (fun p x=>p*val B x) v)):=by
 intro d
 induction d with
 | zero =>
  intro i v s hi h0 h1 hs
  obtain rfl:i=l.length:=by omega
  rw[List.drop_length];refine Ev.step (f:=fun _=>some (enc B v)) (fun k=>?_) (Ev.now _);simp only[lM.l0];rw[if_neg (by omega)]
 | succ d ih =>
  intro i v s hi h0 h1 hs
  have hilt:i<l.length:=by omega
  have hg:l.getD i []=l[i]:=by simp[List.getD_eq_getElem?_getD,List.getElem?_eq_getElem hilt]
  have hm:l.getD i [] ∈ l:=by rw[hg];exact List.getElem_mem hilt
  have hdi:=hd _ hm
  have hw1:ae (wrap64 ((i:Int)+1)=((i+1:Nat):Int)):=⟨by rw[w64 (by omega) (by omega)];omega⟩
  have hv0:=fD jw hdi;have hvl:=kW jw hdi
  have hi1:i+1+d=l.length:=by omega
  have hds:(l.drop i).foldl (fun p x=>p*val B x) v=(l.drop (i+1)).foldl (fun p x=>p*val B x) (v*val B (l.getD i [])):=by rw[hg,List.drop_eq_getElem_cons hilt];rfl
  have hsum:((l.drop i).map List.length).sum=(l.getD i []).length+((l.drop (i+1)).map List.length).sum:=by rw[hg,List.drop_eq_getElem_cons hilt,List.map_cons,List.sum_cons]
  have hlen:(enc B v).length≤s+1:=by
   refine RP (Int.lt_of_le_of_lt h1 ?_);rw[fA];have:=Int.mul_lt_mul_of_pos_left (a:=1) (b:=B) B1 (jQ jw s)
   omega
  have hli:(enc B (val B (l.getD i []))).length≤(l.getD i []).length:=nR B1 hdi
  have hv2:v*val B (l.getD i [])≤pw B (s+(l.getD i []).length):=by
   rw[qA];exact Int.mul_le_mul h1 (Int.le_of_lt hvl) hv0 (Int.le_of_lt (jQ jw s))
  have key:=ih (i+1) _ (s+(l.getD i []).length) hi1 (Int.mul_nonneg h0 hv0) hv2 (by omega);rw[hds]
  refine Ev.step (f:=fun k=>(bH.f k (l.getD i [])).bind fun t=>(dJ.f k (enc B v) t).bind fun u=>lM.l0 k u l (l.length:Int) ((i+1:Nat):Int)) (fun k=>?_)
   (Ev.bind (og hdi (by omega)) (Ev.bind (BQ (fJ B1 _) (fJ B1 _) (by omega)) ?_))
  ·simp only[lM.l0]
   rw[hw1.out,if_pos (by omega),if_pos (by omega),if_pos (by omega),afQ]
  ·rw[fC B1 h0,fC B1 hv0]
   exact key
theorem Sm:enc B 1=[1]:=by
 rw[oI B1 (by decide),Int.emod_eq_of_lt (by decide) B1,Int.ediv_eq_zero_of_lt (by decide) B1,eX]
theorem afW {l:List (List Int)}(hd:∀ x ∈ l,Dig B x)(hL:(l.map List.length).sum+l.length≤1099511627774):Ev (fun k=>lM.f k l) (enc B (afO l)):=by
 have:=af6 hd hL l.length 0 1 0 (by omega) (by omega) (by rw[iW];exact Int.le_refl 1) (by simp);rw[Sm,List.drop_zero]at this;exact this
end Go.Proofs.Yy.PTx
end
section
set_option maxHeartbeats 8000000
set_option maxRecDepth 100000
namespace Go.Proofs.Yy.PTx
open Go.RowKit Go.Proofs.Yy.Z Go.Proofs.Yw.PrintWords Go.Proofs.Yw.PrintLast Go.Proofs.Yw.PrintMore
open Go.Proofs.Yy.M
attribute [local go_sem] dP eU lV lX lW lU
attribute [local go_sem] iq ik jE jD gu gq iE iD
def dV.f (k:Nat)  : Option (Bool):=(qj.f k 8 (⟨#[49,56,46,48,48,48,48,48,48,48,48,48,48,48,48,48,48,48,49]⟩:ByteArray)).bind fun ajN=>((qj.f k 8 (⟨#[49,56]⟩:ByteArray)).bind fun ajO=>((uu.f k 8 1).bind fun ajP=>((ut.f k 8 127).bind fun ajQ=>(if ajN.1=97 then (if ajN.2.isNone=true then (if ajO.1=96 then (if ajO.2.isNone=true then (if ajP.1.toList=([53,46,57,54,48,52,54,52,52,55,55,53,51,57,48,54,50,53,101,45,56]:List UInt8) then (if ajP.2.isNone=true then (if ajQ.1.toList=([50,48,48,48,48,48,48,48]:List UInt8) then (if ajQ.2.isNone=true then (some true) else (some false)) else (some false)) else (some false)) else (some false)) else (some false)) else (some false)) else (some false)) else (some false)))))
theorem dV.few:∀ k<40,dV.f k≠some false:=by decide +kernel
theorem dV.at_ (k:Nat):dV.f (k+40)=some true:=by kernel_rfl
theorem dV.calls (k:Nat)  (r:Bool)(w:World)(h:dV.f k  = some r)(htab:Fx.Laid w:=by exact Fx.Laid.below HTAB.out (by repeat (first|(with_reducible first|exact HB.out|apply bn|apply aJ|apply aW|refine bF ?_ (ae.out (by assumption)))|exact HB.out))) :
    Calls Tryz.prog 12 #[] w fun e w'=>e=.returned (.bool r)∧Below w.heap.size w w':=by
 have HTAB:=am htab;clear htab
 have HRT:ae (r=true):=⟨eq_true_of_ne_false fun e_=>by
  subst e_
  by_cases hk_:k<40
  exact dV.few k hk_ h
  obtain⟨m_,rfl⟩:∃ m_,k=m_+40:=⟨k-40,by omega⟩
  exact absurd (h.symm.trans (dV.at_ m_)) (by decide)⟩
 have zq:=Tryz.underlying27;have hu64:=Tryz.underlying64;have HB:=am (Below.refl w.heap.size w);have H:=am h;unfold dV.f at H;clear h;replace H:=zo H;obtain⟨⟨aKb,aEz⟩,A1,H⟩:=H
 try dsimp only at H
 replace H:=zo H;obtain⟨⟨aKc,aEA⟩,A2,H⟩:=H
 try dsimp only at H
 replace H:=zo H;obtain⟨⟨aKd,aEB⟩,A3,H⟩:=H
 try dsimp only at H
 replace H:=zo H;obtain⟨⟨aKe,aEC⟩,A4,H⟩:=H
 try dsimp only at H
 replace H:=zsk H;rcases H with⟨qN,xC,H⟩|⟨qN,xC,c5,H⟩
 ·rcases aEz with _|aKf
  ·replace H:=zb1 H
   try simp only[aj,ah]
   replace H:=zsk H;rcases H with⟨qV,BB,H⟩|⟨qV,BB,c6,H⟩
   ·rcases aEA with _|aKg
    ·replace H:=zb1 H
     try simp only[aj,ah]
     replace H:=zsk H;rcases H with⟨yE,DJ,H⟩|⟨yE,DJ,c7,H⟩
     ·rcases aEB with _|aKh
      ·replace H:=zb1 H
       try simp only[aj,ah]
       replace H:=zsk H;rcases H with⟨uz,Ey,H⟩|⟨uz,Ey,c8,H⟩
       ·rcases aEC with _|aKi
        ·replace H:=zb1 H
         try simp only[aj,ah]
         clear HRT;obtain rfl:=Option.some.inj H.out
         go_enter Tryz.func12,Tryz.ntmps12
         go_wp2_with (first|((with_reducible refine af (f:=24) rfl ?_);refine zc (some 10) Tryz.func24 _ (qj.calls _ _ _ _ _ _ A1.out) ?_;rintro e w9 ⟨rfl,hb⟩;refine⟨_,rfl,?_⟩;replace HB:=zBs HB hb;clear hb;(try simp only[aj,ah]))|((with_reducible refine af (f:=24) rfl ?_);refine zc (some 14) Tryz.func24 _ (qj.calls _ _ _ _ _ _ A2.out) ?_;rintro e w10 ⟨rfl,hb⟩;refine⟨_,rfl,?_⟩;replace HB:=zBs HB hb;clear hb;(try simp only[aj,ah]))|((with_reducible refine af (f:=17) rfl ?_);refine zc (some 18) Tryz.func17 _ (uu.calls _ _ _ _ _ _ A3.out) ?_;rintro e w11 ⟨rfl,hb⟩;refine⟨_,rfl,?_⟩;replace HB:=zBs HB hb;clear hb;(try simp only[aj,ah]))|((with_reducible refine af (f:=20) rfl ?_);refine zc (some 22) Tryz.func20 _ (ut.calls _ _ _ _ _ _ A4.out) ?_;rintro e w12 ⟨rfl,hb⟩;refine⟨_,rfl,?_⟩;replace HB:=zBs HB hb;clear hb;(try simp only[aj,ah])))
         go_ret
         exact⟨z2,zB HB⟩
        replace H:=zb0 H
        try simp only[Option.getD_some]at H
        try simp only[aj,ah]
        exact absurd (Option.some.inj H.out) (by rw[HRT.out];decide)
       exact absurd (Option.some.inj H.out) (by rw[HRT.out];decide)
      replace H:=zb0 H
      try simp only[Option.getD_some]at H
      try simp only[aj,ah]
      exact absurd (Option.some.inj H.out) (by rw[HRT.out];decide)
     exact absurd (Option.some.inj H.out) (by rw[HRT.out];decide)
    replace H:=zb0 H
    try simp only[Option.getD_some]at H
    try simp only[aj,ah]
    exact absurd (Option.some.inj H.out) (by rw[HRT.out];decide)
   exact absurd (Option.some.inj H.out) (by rw[HRT.out];decide)
  replace H:=zb0 H
  try simp only[Option.getD_some]at H
  try simp only[aj,ah]
  exact absurd (Option.some.inj H.out) (by rw[HRT.out];decide)
 exact absurd (Option.some.inj H.out) (by rw[HRT.out];decide)
end Go.Proofs.Yy.PTx
end
section
set_option maxHeartbeats 8000000
set_option maxRecDepth 100000
namespace Go.Proofs.Yy.PTx
open Go.RowKit Go.Proofs.Yy.Z Go.Proofs.Yw.PrintWords Go.Proofs.Yw.PrintLast Go.Proofs.Yw.PrintMore
open Go.Proofs.Yy.M
attribute [local go_sem] dP eU lV lX lW lU
attribute [local go_sem] iq ik jE jD gu gq iE iD
attribute [local go_sem high] agB
def aY.l0:Nat→Int→List Int→Int→Option (ByteArray)
  | 0,_,_,_=>none
  | k+1,x0,x5,x6=>if x6≥0 then (if 0≤x6 then (if x5.length<140737488355328 then (aY.l0 k x0 (x5 ++ [(48+(Int.tmod (shr .u64 x0 x6) 2)) % 256]) (wrap64 (x6-1))) else (none)) else (none)) else (some (strOfNums x5))
def aY.f (k:Nat)(a0:Int)(a1:Int):Option (ByteArray):=aY.l0 k a0 ([]:List Int) (wrap64 (a1-1))
theorem aY.calls (k:Nat)(a0:Int)(a1:Int)(r:ByteArray)(w:World)(h:aY.f k a0 a1=some r) :
    Calls Tryz.prog 88 #[.int .u64 a0,.int .i64 a1] w fun e w'=>e=.returned (.string r)∧Below w.heap.size w w':=by
 have HB:=am (Below.refl w.heap.size w);have H:=am h;unfold aY.f at H;clear h
 go_enter Tryz.func88,Tryz.ntmps88
 go_wp2
 go_loopg [5,6] k (fun kq v5 v6 w' => ∃ (gV:List Int) (mr:Int),v6=.int .i64 mr∧ae (aY.l0 kq a0 gV mr=some r)∧ae (kq≤k)∧ae (Kd.R (Kd.int .u8) 5 w' w.heap.size (fun _=>True) v5 gV)∧ae (Below w.heap.size w w'))
 case atStart=>exact⟨(([]:List Int)),(wrap64 (a1-1)),z1,H,zL,⟨zN⟩,⟨zB HB⟩⟩
 clear H;obtain⟨gV,mr,rfl,H,HK1,fH,HB⟩:=hrel;obtain _|k1:=gk
 ·exact zz H rfl
 simp only[aY.l0]at H;replace H:=yD H;rcases H with⟨pK,H⟩|⟨pK,H⟩;replace H:=zit H;obtain⟨jV,rZ,H⟩:=H;generalize Qx:(shr .u64 a0 mr:Int)=ji5 at H;have aED:(a0 / 2 ^ min mr.toNat 64)=ji5:=Qx;have aEE:mr≤64→(a0 / 2 ^ mr.toNat)=ji5:=kH Qx;replace H:=zil H;obtain⟨ame,H⟩:=H;generalize ajR:(gV ++ [(48+(Int.tmod (ji5) 2)) % 256]:List Int)=aEF at H;have arT:=zY ajR;clear ajR;rotate_left;obtain rfl:=Option.some.inj H.out;have aKj:=wX (P:=Tryz.prog) Tryz.underlying104 Tryz.underlying5 Tryz.underlying9 (Kd.xk fH.out);rotate_left
 all_goals (go_wp2_with (first|((with_reducible refine dW (b := .append) (xs:=#[.tmp 13,.tmp 20]) rfl ?_);at_builtin;refine Kd.kV (Kd.int .u8) (w0:=w) w.heap.size rfl (.tmp 13) (.tmp 20) 104 5 (.int .u8 0) 1 rfl Tryz.underlying104 info5 rfl (by decide) (by omega) u5 gV ((48+(Int.tmod (ji5) 2)) % 256) [.int .u8 ((48+(Int.tmod (ji5) 2)) % 256)] (fun _=>True) (fun _=>False) rfl rfl ?aP (fun _ hk=>hk.elim) ?aF ?aO ?aB ?aS ?aL ?_;(case aP=>exact rfl);(case aB=>exact (zB HB));(case aF=>exact (fun _ _=>trivial));(case aO=>exact (zR fH));(case aS=>exact (zS HB));(case aL=>have:=ame.out;omega);intro aKk w7 ho hb hg hat;rw[← arT.out]at ho;replace HB:=am (hb);have arU:=am (ho);clear fH ho hb hg hat)))
 ·go_roundg k1
  case measure=>have:=HK1.out;omega
  case rel=>exact⟨(aEF),(wrap64 (mr-1)),z1,H,(zH HK1),⟨zR arU⟩,⟨zB HB⟩⟩
 go_ret
 exact⟨z2,zB HB⟩
def bu.l0:Nat→ByteArray→Int→Int→Option (Int)
  | 0,_,_,_=>none
  | k+1,x0,x3,x4=>if x4<(x0.size:Int) then (if 0≤x4 then (bu.l0 k x0 (IntKind.u64.wrap ((IntKind.u64.wrap (2*x3))+(((bt x0 x4)-48) % 256))) (wrap64 (x4+1))) else (none)) else (some x3)
def bu.f (k:Nat)(a0:ByteArray):Option (Int):=bu.l0 k a0 0 0
theorem bu.calls (k:Nat)(a0:ByteArray)(r:Int)(w:World)(h:bu.f k a0=some r) :
    Calls Tryz.prog 89 #[.string a0] w fun e w'=>e=.returned (.int .u64 r)∧dX w w':=by
 have H:=am h;unfold bu.f at H;clear h
 go_enter Tryz.func89,Tryz.ntmps89
 go_wp2
 go_loopg [3,4] k (fun kq v3 v4 w' => ∃ (iy:Int) (qh:Int),v3=.int .u64 iy∧v4=.int .i64 qh∧ae (bu.l0 kq a0 iy qh=some r)∧ae (kq≤k)∧dX w w')
 case atStart=>exact⟨(0),(0),z1,z1,H,zL,z4⟩
 clear H;obtain⟨iy,qh,rfl,rfl,H,HK1,⟨m1,rfl⟩⟩:=hrel;obtain _|k1:=gk
 ·exact zz H rfl
 simp only[bu.l0]at H;replace H:=zsd H;rcases H with⟨sQ,H⟩|⟨sQ,H⟩;replace H:=zid H;obtain⟨pK,H⟩:=H;have p4:0≤(qh:Int):=zD;have q4:qh<(a0.size:Int):=zD;have hx4:=ru a0 qh;replace p4:=eq_true p4;replace q4:=eq_true q4;rotate_left;obtain rfl:=Option.some.inj H.out;rotate_left
 all_goals (go_wp2)
 ·go_roundg k1
  case measure=>have:=HK1.out;omega
  case rel=>exact⟨(IntKind.u64.wrap ((IntKind.u64.wrap (2*iy))+(((bt a0 qh)-48) % 256))),(wrap64 (qh+1)),z1,z1,H,(zH HK1),z4⟩
 go_ret
 exact⟨z1,z4⟩
def iC.f (fM:Int)(fF:Bool)(iQ:Int)(jd:Int)(Ky:Int)(Kz:Bool):Option (Bool):=if fM=0 then (some (!fF && (iQ == 0 && (jd == 0 && (Ky == 0 && (!Kz)))))) else (if fM=2 then (some (!fF && (iQ == 0 && (jd == 0 && (Ky == 0 && (!Kz)))))) else (if fM=1 then (if jd≥9223372036854775808 then (if iQ≥(-1099511627776) then (some (decide (iQ≤1099511627776))) else (some false)) else (some false)) else (some false)))
theorem iC.calls (fM:Int)(fF:Bool)(iQ:Int)(jd:Int)(Ky:Int)(Kz:Bool)(r:Bool)(w:World)(h:iC.f fM fF iQ jd Ky Kz=some r) :
    Calls Tryz.prog 217 #[.agg #[.int .i64 fM,.bool fF,.int .i64 iQ,.int .u64 jd,.int .u64 Ky,.bool Kz]] w fun e w'=>e=.returned (.bool r)∧Below w.heap.size w w':=by
 have Vb:=Tryz.underlying81;have HB:=am (Below.refl w.heap.size w);have H:=am h;unfold iC.f at H;clear h;replace H:=zsk H;rcases H with⟨sQ,JU,H⟩|⟨sQ,JU,c2,H⟩;obtain rfl:=Option.some.inj H.out;rotate_left;replace H:=zsk H;rcases H with⟨qN,xC,H⟩|⟨qN,xC,c5,H⟩;obtain rfl:=Option.some.inj H.out;rotate_left;replace H:=zsk H;rcases H with⟨uz,Ey,H⟩|⟨uz,Ey,c8,H⟩;replace H:=yD H;rcases H with⟨vF,H⟩|⟨vF,H⟩;replace H:=yD H;rcases H with⟨oL,H⟩|⟨oL,H⟩;obtain rfl:=Option.some.inj H.out;rotate_left;obtain rfl:=Option.some.inj H.out;rotate_left;obtain rfl:=Option.some.inj H.out;rotate_left;obtain rfl:=Option.some.inj H.out;rotate_left
 all_goals (go_enter Tryz.func217,Tryz.ntmps217;go_wp2_with (first|((with_reducible refine aA (N:=1) rfl ?_);refine zx 1 81 #[.int .i64 fM,.bool fF,.int .i64 iQ,.int .u64 jd,.int .u64 Ky,.bool Kz] ?_;intro aEG hg w3 hbox hb;have arV:=am (hbox);have aEH:=zG hg HB;have aEI:=zG hg HB;replace HB:=zBs HB hb;clear hb hbox hg;obtain⟨_,_,_,_,_,_,_,_,_,_,_,_⟩:=zf6 arV)))
 ·go_ret
  exact⟨z2,zB HB⟩
 ·go_ret
  exact⟨z2,zB HB⟩
 ·go_ret
  exact⟨z2,zB HB⟩
 ·go_ret
  exact⟨z2,zB HB⟩
 ·go_ret
  exact⟨z2,zB HB⟩
 go_ret
 exact⟨z2,zB HB⟩
def bQ.l0:Nat→ByteArray→Int→Option (Bool)
  | 0,_,_=>none
  | k+1,x0,x3=>if x3<(x0.size:Int) then (if 0≤x3 then (if (bt x0 x3)=49 then (some true) else (bQ.l0 k x0 (wrap64 (x3+1)))) else (none)) else (some false)
def bQ.f (k:Nat)(a0:ByteArray):Option (Bool):=bQ.l0 k a0 0
theorem bQ.calls (k:Nat)(a0:ByteArray)(r:Bool)(w:World)(h:bQ.f k a0=some r) :
    Calls Tryz.prog 218 #[.string a0] w fun e w'=>e=.returned (.bool r)∧dX w w':=by
 have H:=am h;unfold bQ.f at H;clear h
 go_enter Tryz.func218,Tryz.ntmps218
 go_wp2
 go_loopg [3] k (fun kq v3 w' => ∃ (iy:Int),v3=.int .i64 iy∧ae (bQ.l0 kq a0 iy=some r)∧ae (kq≤k)∧dX w w')
 case atStart=>exact⟨(0),z1,H,zL,z4⟩
 clear H;obtain⟨iy,rfl,H,HK1,⟨m1,rfl⟩⟩:=hrel;obtain _|k1:=gk
 ·exact zz H rfl
 simp only[bQ.l0]at H;replace H:=zsd H;rcases H with⟨sQ,H⟩|⟨sQ,H⟩;replace H:=zid H;obtain⟨pK,H⟩:=H;replace H:=zsk H;rcases H with⟨qN,xC,H⟩|⟨qN,xC,c5,H⟩;obtain rfl:=Option.some.inj H.out;have p4:0≤(iy:Int):=zD;have q4:iy<(a0.size:Int):=zD;have hx4:=ru a0 iy;replace p4:=eq_true p4;replace q4:=eq_true q4;rotate_left;have p4:0≤(iy:Int):=zD;have q4:iy<(a0.size:Int):=zD;have hx4:=ru a0 iy;replace p4:=eq_true p4;replace q4:=eq_true q4;rotate_left;obtain rfl:=Option.some.inj H.out;rotate_left
 all_goals (go_wp2)
 ·go_ret
  exact⟨z1,z4⟩
 ·go_roundg k1
  case measure=>have:=HK1.out;omega
  case rel=>exact⟨(wrap64 (iy+1)),z1,H,(zH HK1),z4⟩
 go_ret
 exact⟨z1,z4⟩
def iK.f (a0:Int):Option (Int):=if (wrap64 (4*(wrap64 (Int.tdiv a0 4)))) > a0 then (some (wrap64 ((wrap64 (Int.tdiv a0 4))-1))) else (some (wrap64 (Int.tdiv a0 4)))
theorem iK.calls (a0:Int)(r:Int)(w:World)(h:iK.f a0=some r) :
    Calls Tryz.prog 230 #[.int .i64 a0] w fun e w'=>e=.returned (.int .i64 r)∧dX w w':=by
 have H:=am h;unfold iK.f at H;clear h;replace H:=AV H;rcases H with⟨sQ,H⟩|⟨sQ,H⟩;obtain rfl:=Option.some.inj H.out;rotate_left;obtain rfl:=Option.some.inj H.out;rotate_left
 all_goals (go_enter Tryz.func230,Tryz.ntmps230;go_wp2)
 ·go_ret
  exact⟨z1,z4⟩
 go_ret
 exact⟨z1,z4⟩
mutual
def aG.l0:Nat→Int→Int→List Int→Int→Option (ByteArray)
  | 0,_,_,_,_=>none
  | k+1,x0,x3,x4,x5=>if x5≤x3 then (if x4.length<140737488355328 then (aG.l0 k x0 x3 (x4 ++ [49]) (wrap64 (x5+1))) else (none)) else (aG.l1 k x0 x3 x4 0)
def aG.l1:Nat→Int→Int→List Int→Int→Option (ByteArray)
  | 0,_,_,_,_=>none
  | k+1,x0,x3,x4,x6=>if x6 > x3 then (if x4.length<140737488355328 then (aG.l1 k x0 x3 (x4 ++ [48]) (wrap64 (x6-1))) else (none)) else (if x3≥0 then (if x4.length<140737488355328 then ((some (x4 ++ [48]:List Int)).bind fun aem=>((aY.f k (IntKind.u64.wrap (wrap64 (x0-(wrap64 (4*x3))))) 2).bind fun WL=>(if (strOfNums aem).size+WL.size≤9223372036854775807 then (some ((strOfNums aem)++WL)) else (none)))) else (none)) else (if x4.length<140737488355328 then ((some (x4 ++ [49]:List Int)).bind fun aen=>((aY.f k (IntKind.u64.wrap (wrap64 (x0-(wrap64 (4*x3))))) 2).bind fun WM=>(if (strOfNums aen).size+WM.size≤9223372036854775807 then (some ((strOfNums aen)++WM)) else (none)))) else (none)))
end
def aG.f (k:Nat)(a0:Int):Option (ByteArray):=(iK.f a0).bind fun aaG=>(aG.l0 k a0 aaG ([]:List Int) 0)
def aG.T14:Bool × List (List Nat × List Nat):=(true,[([],[]),([0],[0]),([],[]),([],[]),([3],[3]),([2,4],[2,4]),([5],[5]),([6],[6]),([1,7],[1,7]),([8,7,0,1,2,3,4,5,6,7,8],[8])])
def aG.B14:List Nat := [0,1,0,0,8,28,60,124,255,511]
theorem aG.aa5:rX .any (opsOf Tryz.f219 14)=aG.T14:=by kernel_rfl
theorem aG.Sl:jf aG.T14.2 aG.B14=true:=by kernel_rfl
theorem aG.calls (k:Nat)(a0:Int)(r:ByteArray)(w:World)(h:aG.f k a0=some r) :
    Calls Tryz.prog 219 #[.int .i64 a0] w fun e w'=>e=.returned (.string r)∧Below w.heap.size w w':=by
 have HB:=am (Below.refl w.heap.size w);have H:=am h;unfold aG.f at H;clear h;replace H:=zo H;obtain⟨aaG,A2,H⟩:=H
 go_enter Tryz.func219,Tryz.ntmps219
 go_wp2_with (first|((with_reducible refine af (f:=230) rfl ?_);refine zc (some 8) Tryz.func230 _ (iK.calls _ _ _ A2.out) ?_;rintro e w' ⟨rfl,⟨nd,rfl⟩⟩;refine⟨_,rfl,?_⟩))
 go_loopg [4,5] k (fun kq v4 v5 w' => ∃ (qh:List Int) (gV:Int),v5=.int .i64 gV∧ae (aG.l0 kq a0 aaG qh gV=some r)∧ae (kq≤k)∧ae (Kd.R (Kd.int .u8) 5 w' w.heap.size (fun _=>True) v4 qh)∧ae (Below w.heap.size w w'))
 case atStart=>exact⟨(([]:List Int)),(0),z1,H,zL,⟨zN⟩,⟨zB HB⟩⟩
 clear H;obtain⟨qh,gV,rfl,H,HK1,zZ,HB⟩:=hrel;obtain _|k1:=gk
 ·exact zz H rfl
 simp only[aG.l0]at H;replace H:=zsd H;rcases H with⟨pK,H⟩|⟨pK,H⟩;replace H:=zil H;obtain⟨aEJ,H⟩:=H;generalize ajS:(qh ++ [49]:List Int)=aEK at H;have arW:=zY ajS;clear ajS;rotate_left;rotate_left
 all_goals (go_wp2_with (first|((with_reducible refine dW (b := .append) (xs:=#[.tmp 14,.tmp 15]) rfl ?_);at_builtin;refine Kd.kV (Kd.int .u8) (w0:=w) w.heap.size rfl (.tmp 14) (.tmp 15) 104 5 (.int .u8 0) 1 rfl Tryz.underlying104 info5 rfl (by decide) (by omega) u4 qh 49 [.int .u8 49] (fun _=>True) (fun _=>False) rfl rfl ?aP (fun _ hk=>hk.elim) ?aF ?aO ?aB ?aS ?aL ?_;(case aP=>exact rfl);(case aB=>exact (zB HB));(case aF=>exact (fun _ _=>trivial));(case aO=>exact (zR zZ));(case aS=>exact (zS HB));(case aL=>have:=aEJ.out;omega);intro aKl w5 ho hb hg hat;rw[← arW.out]at ho;replace HB:=am (hb);have arX:=am (ho);clear zZ ho hb hg hat)))
 ·go_roundg k1
  case measure=>have:=HK1.out;omega
  case rel=>exact⟨(aEK),(wrap64 (gV+1)),z1,H,(zH HK1),⟨zR arX⟩,⟨zB HB⟩⟩
 go_loopg [4,6] k1 (fun kq v4 v6 w' => ∃ (Rj:List Int) (qW:Int),v6=.int .i64 qW∧ae (aG.l1 kq a0 aaG Rj qW=some r)∧ae (kq≤k1)∧ae (Kd.R (Kd.int .u8) 5 w' w.heap.size (fun _=>True) v4 Rj)∧ae (Below w.heap.size w w'))
 case atStart=>exact⟨(qh),(0),z1,H,zL,⟨zR zZ⟩,⟨zB HB⟩⟩
 clear H;obtain⟨Rj,qW,rfl,H,HK2,zZ,HB⟩:=hrel;obtain _|k2:=gk
 ·exact zz H rfl
 simp only[aG.l1]at H;replace H:=AV H;rcases H with⟨qV,H⟩|⟨qV,H⟩
 ·replace H:=zil H
  obtain⟨ajT,H⟩:=H;generalize ajU:(Rj ++ [48]:List Int)=aEL at H;have arY:=zY ajU;clear ajU
  go_wp2_with (first|((with_reducible refine dW (b := .append) (xs:=#[.tmp 22,.tmp 23]) rfl ?_);at_builtin;refine Kd.kV (Kd.int .u8) (w0:=w) w.heap.size rfl (.tmp 22) (.tmp 23) 104 5 (.int .u8 0) 1 rfl Tryz.underlying104 info5 rfl (by decide) (by omega) u4 Rj 48 [.int .u8 48] (fun _=>True) (fun _=>False) rfl rfl ?aP (fun _ hk=>hk.elim) ?aF ?aO ?aB ?aS ?aL ?_;(case aP=>exact rfl);(case aB=>exact (zB HB));(case aF=>exact (fun _ _=>trivial));(case aO=>exact (zR zZ));(case aS=>exact (zS HB));(case aL=>have:=ajT.out;omega);intro aKm w8 ho hb hg hat;rw[← arY.out]at ho;replace HB:=am (hb);have arZ:=am (ho);clear zZ ho hb hg hat))
  go_roundg k2
  case measure=>have:=HK1.out;have:=HK2.out;omega
  case rel=>exact⟨(aEL),(wrap64 (qW-1)),z1,H,⟨by have:=HK1.out;have:=HK2.out;omega⟩,⟨zR arZ⟩,⟨zB HB⟩⟩
 replace H:=yD H;rcases H with⟨vF,H⟩|⟨vF,H⟩;replace H:=zil H;obtain⟨LZ,H⟩:=H;obtain⟨aem,ar0,H⟩:=zw H;replace H:=zo H;obtain⟨WL,A11,H⟩:=H;replace H:=zi H;obtain⟨c12,H⟩:=H;have pM:=eq_true c12;have uQ:decide ((strOfNums aem).size+WL.size≤9223372036854775807)=true:=decide_eq_true c12
 try have agR:(9223372036854775807<(strOfNums aem).size+WL.size)=False:=eq_false (Nat.not_lt.2 c12)
 try have aKn:(9223372036854775807<(strOfNums aem).size+WL.size)=False:=eq_false (by have h_:=c12;have l1_:(⟨#[46]⟩:ByteArray).size=1:=rfl;have l2_:(⟨#[48,46]⟩:ByteArray).size=2:=rfl;have l3_:(⟨#[101]⟩:ByteArray).size=1:=rfl;(try simp only[ByteArray.size_append,ByteArray.size_extract]at h_);omega)
 try have aKo:(9223372036854775807<(strOfNums aem).size+WL.size)=False:=eq_false (by have h_:=c12;have l1_:(⟨#[46]⟩:ByteArray).size=1:=rfl;have l2_:(⟨#[48,46]⟩:ByteArray).size=2:=rfl;have l3_:(⟨#[101]⟩:ByteArray).size=1:=rfl;(try simp only[ByteArray.size_append,ByteArray.size_extract]at h_);omega)
 obtain rfl:=Option.some.inj H.out;rotate_left;replace H:=zil H;obtain⟨ar1,H⟩:=H;obtain⟨aen,ar2,H⟩:=zw H;replace H:=zo H;obtain⟨WM,A19,H⟩:=H;replace H:=zi H;obtain⟨c20,H⟩:=H;have Qw:=eq_true c20;have anC:decide ((strOfNums aen).size+WM.size≤9223372036854775807)=true:=decide_eq_true c20
 try have aEM:(9223372036854775807<(strOfNums aen).size+WM.size)=False:=eq_false (Nat.not_lt.2 c20)
 try have aKp:(9223372036854775807<(strOfNums aen).size+WM.size)=False:=eq_false (by have h_:=c20;have l1_:(⟨#[46]⟩:ByteArray).size=1:=rfl;have l2_:(⟨#[48,46]⟩:ByteArray).size=2:=rfl;have l3_:(⟨#[101]⟩:ByteArray).size=1:=rfl;(try simp only[ByteArray.size_append,ByteArray.size_extract]at h_);omega)
 try have aKq:(9223372036854775807<(strOfNums aen).size+WM.size)=False:=eq_false (by have h_:=c20;have l1_:(⟨#[46]⟩:ByteArray).size=1:=rfl;have l2_:(⟨#[48,46]⟩:ByteArray).size=2:=rfl;have l3_:(⟨#[101]⟩:ByteArray).size=1:=rfl;(try simp only[ByteArray.size_append,ByteArray.size_extract]at h_);omega)
 obtain rfl:=Option.some.inj H.out;rotate_left
 all_goals (try go_wp2_with (first|((with_reducible refine dW (b := .append) (xs:=#[.tmp 27,.tmp 28]) rfl ?_);at_builtin;refine Kd.kV (Kd.int .u8) (w0:=w) w.heap.size rfl (.tmp 27) (.tmp 28) 104 5 (.int .u8 0) 1 rfl Tryz.underlying104 info5 rfl (by decide) (by omega) u4 Rj 48 [.int .u8 48] (fun _=>True) (fun _=>False) rfl rfl ?aP (fun _ hk=>hk.elim) ?aF ?aO ?aB ?aS ?aL ?_;(case aP=>exact rfl);(case aB=>exact (zB HB));(case aF=>exact (fun _ _=>trivial));(case aO=>exact (zR zZ));(case aS=>exact (zS HB));(case aL=>have:=LZ.out;omega);intro aKr w13 ho hb hg hat;rw[← ar0.out]at ho;replace HB:=am (hb);have BM:=am (ho);clear zZ ho hb hg hat)|((with_reducible refine dW (b := .append) (xs:=#[.tmp 30,.tmp 31]) rfl ?_);at_builtin;refine Kd.kV (Kd.int .u8) (w0:=w) w.heap.size rfl (.tmp 30) (.tmp 31) 104 5 (.int .u8 0) 1 rfl Tryz.underlying104 info5 rfl (by decide) (by omega) u4 Rj 49 [.int .u8 49] (fun _=>True) (fun _=>False) rfl rfl ?aP (fun _ hk=>hk.elim) ?aF ?aO ?aB ?aS ?aL ?_;(case aP=>exact rfl);(case aB=>exact (zB HB));(case aF=>exact (fun _ _=>trivial));(case aO=>exact (zR zZ));(case aS=>exact (zS HB));(case aL=>have:=ar1.out;omega);intro aKs w21 ho hb hg hat;rw[← ar2.out]at ho;replace HB:=am (hb);have BM:=am (ho);clear zZ ho hb hg hat)))
 all_goals
  replace BM:=am (Kd.dK BM.out);replace HB:=am (aW HB.out);have ar4:=wX (P:=Tryz.prog) Tryz.underlying104 Tryz.underlying5 Tryz.underlying9 (Kd.xk BM.out);refine mM (n:=10) (S:=fun w'=>(convert 104 9 _).run Tryz.prog w'=.ok (.string _) w') (ds := []) (Array.replicate 10 false) (by kernel_rfl) rfl rfl ar4 (fun hHeld=>?_);refine gQ aG.aa5 aG.Sl (fun HT_ HW_=>?_)
 ·generalize w13.drew=w14 at BM HB hHeld ⊢
  refine zp HT_ 0 (some 33) ?_;refine zt HT_ HW_ 1 (some 34) hHeld ?_;refine zp HT_ 2 (some 35) ?_;refine zp HT_ 3 (some 36) ?_;refine zp HT_ 4 (some 37) ?_;refine zp HT_ 5 (some 38) ?_;refine zp HT_ 6 (some 39) ?_;refine zu HT_ 7 (some 40) (fun K hK=>?_);refine oV Tryz.func88 (by kernel_rfl) rfl #[.int .u64 (IntKind.u64.wrap (wrap64 (a0-(wrap64 (4*aaG))))),.int .i64 2] (by rfl) rfl rfl (by (try simp only[List.map_toArray,List.map_cons,List.map_nil]);first|done|rfl|(simp only[List.length_drop,List.length_take];rfl)) ?_
  with_reducible refine (aY.calls k2 (IntKind.u64.wrap (wrap64 (a0-(wrap64 (4*aaG))))) 2 WL _ A11.out).mono ?_
  rintro e w16 ⟨rfl,hb⟩;refine⟨_,rfl,?_⟩;replace BM:=zRb BM hb;replace HB:=zBs HB hb
  (try clear hb)
  (try clear hb2)
  (try clear hk)
  (try clear hi)
  refine hK.out _ _ (wX (P:=Tryz.prog) Tryz.underlying104 Tryz.underlying5 Tryz.underlying9 (Kd.xk BM.out)) (fun hHeld=>?_);clear hK K;refine mD (a':=?_) ?_ ?_;rotate_left
  ·show Act.put _ (some 40) _=_
   simp only[Act.put,List.setIfInBounds_toArray,List.set_cons_zero,List.set_cons_succ,bW,fV]
   rfl
  refine zp HT_ 8 (some 41) ?_;refine zp HT_ 9 (some 2) ?_;refine oG (iJ HT_.out (by kernel_rfl)) ?_
  try go_wp2
  go_ret
  exact⟨z2,zB HB⟩
 generalize w21.drew=w22 at BM HB hHeld ⊢;refine zp HT_ 0 (some 33) ?_;refine zt HT_ HW_ 1 (some 34) hHeld ?_;refine zp HT_ 2 (some 35) ?_;refine zp HT_ 3 (some 36) ?_;refine zp HT_ 4 (some 37) ?_;refine zp HT_ 5 (some 38) ?_;refine zp HT_ 6 (some 39) ?_;refine zu HT_ 7 (some 40) (fun K hK=>?_);refine oV Tryz.func88 (by kernel_rfl) rfl #[.int .u64 (IntKind.u64.wrap (wrap64 (a0-(wrap64 (4*aaG))))),.int .i64 2] (by rfl) rfl rfl (by (try simp only[List.map_toArray,List.map_cons,List.map_nil]);first|done|rfl|(simp only[List.length_drop,List.length_take];rfl)) ?_
 with_reducible refine (aY.calls k2 (IntKind.u64.wrap (wrap64 (a0-(wrap64 (4*aaG))))) 2 WM _ A19.out).mono ?_
 rintro e w24 ⟨rfl,hb⟩;refine⟨_,rfl,?_⟩;replace BM:=zRb BM hb;replace HB:=zBs HB hb
 (try clear hb)
 (try clear hb2)
 (try clear hk)
 (try clear hi)
 refine hK.out _ _ (wX (P:=Tryz.prog) Tryz.underlying104 Tryz.underlying5 Tryz.underlying9 (Kd.xk BM.out)) (fun hHeld=>?_);clear hK K;refine mD (a':=?_) ?_ ?_;rotate_left
 ·show Act.put _ (some 40) _=_
  simp only[Act.put,List.setIfInBounds_toArray,List.set_cons_zero,List.set_cons_succ,bW,fV]
  rfl
 refine zp HT_ 8 (some 41) ?_;refine zp HT_ 9 (some 2) ?_;refine oG (iJ HT_.out (by kernel_rfl)) ?_
 try go_wp2
 go_ret
 exact⟨z2,zB HB⟩
end Go.Proofs.Yy.PTx
end
section
set_option maxHeartbeats 8000000
set_option maxRecDepth 100000
namespace Go.Proofs.Yy.PTx
open Go.RowKit Go.Proofs.Yy.Z Go.Proofs.Yw.PrintWords Go.Proofs.Yw.PrintLast Go.Proofs.Yw.PrintMore
open Go.Proofs.Yy.M
attribute [local go_sem] dP eU lV lX lW lU
attribute [local go_sem] iq ik jE jD gu gq iE iD
def bU.l0:Nat→ByteArray→List Int→Int→Option (List Int)
  | 0,_,_,_=>none
  | k+1,x0,x3,x4=>if x4<(x0.size:Int) then ((aI.f k x3 10).bind fun ar5=>(if 0≤x4 then ((dR.f k (((bt x0 x4)-48) % 256)).bind fun ar6=>((aU.f k ar5 ar6).bind fun ar7=>(bU.l0 k x0 ar7 (wrap64 (x4+1))))) else (none))) else (some x3)
def bU.f (k:Nat)(a0:ByteArray):Option (List Int):=bU.l0 k a0 ([]:List Int) 0
theorem bU.calls (k:Nat)(a0:ByteArray)(r:List Int)(w:World)(h:bU.f k a0=some r) :
    Calls Tryz.prog 39 #[.string a0] w fun e w' => ∃ v0_:Value,e=.returned (v0_)∧Kd.R (Kd.int .i64) 3 w' w.heap.size (fun _=>True) v0_ r∧Below w.heap.size w w':=by
 have HB:=am (Below.refl w.heap.size w);have H:=am h;unfold bU.f at H;clear h
 go_enter Tryz.func39,Tryz.ntmps39
 go_wp2
 go_loopg [3,4] k (fun kq v3 v4 w' => ∃ (iy:List Int) (qh:Int),v4=.int .i64 qh∧ae (bU.l0 kq a0 iy qh=some r)∧ae (kq≤k)∧ae (Kd.R (Kd.int .i64) 3 w' w.heap.size (fun _=>True) v3 iy)∧ae (Below w.heap.size w w'))
 case atStart=>exact⟨(([]:List Int)),(0),z1,H,zL,⟨zN⟩,⟨zB HB⟩⟩
 clear H;obtain⟨iy,qh,rfl,H,HK1,qx,HB⟩:=hrel;obtain _|k1:=gk
 ·exact zz H rfl
 simp only[bU.l0]at H;replace H:=zsd H;rcases H with⟨sQ,H⟩|⟨sQ,H⟩;replace H:=zo H;obtain⟨ar5,A3,H⟩:=H;replace H:=zid H;obtain⟨jV,H⟩:=H;replace H:=zo H;obtain⟨ar6,A6,H⟩:=H;replace H:=zo H;obtain⟨ar7,A7,H⟩:=H;obtain⟨Ao8,co8,eo8⟩:=Kd.dU qx.out;subst eo8;rotate_left;obtain rfl:=Option.some.inj H.out;rotate_left
 all_goals (go_wp2_with (first|((with_reducible refine af (f:=82) rfl ?_);refine zc (some 12) Tryz.func82 #[.slice Ao8 iy.length co8,.int .i64 10] (aI.calls _ _ _ _ _ _ _ (zC ((Kd.az qx.out).2.2)) ((Kd.az qx.out).2.1) A3.out) ?_;rintro e w9 ⟨aKt,rfl,ho0,hb⟩;refine⟨_,rfl,?_⟩;have IC:=am (Kd.dZ (Kd.jc ho0 (Kd.qg (zR qx))) (zS HB));replace qx:=am (Kd.fQ (zR qx) (Kd.fP ho0) hb);replace HB:=zBs HB hb;clear hb ho0;have p5:0≤(qh:Int):=zD;have q5:qh<(a0.size:Int):=zD;have hx5:=ru a0 qh;replace p5:=eq_true p5;replace q5:=eq_true q5)|((with_reducible refine af (f:=84) rfl ?_);refine zc (some 19) Tryz.func84 _ (dR.calls _ (((bt a0 qh)-48) % 256) _ _ A6.out) ?_;rintro e w10 ⟨aKu,rfl,ho0,hb⟩;refine⟨_,rfl,?_⟩;have QW:=am (Kd.dZ (Kd.jc (Kd.jc ho0 (Kd.qg (zR qx))) (Kd.qg (zR IC))) (zS HB));replace qx:=am (Kd.fQ (zR qx) (Kd.fP ho0) hb);replace IC:=am (Kd.fQ (zR IC) (Kd.fP ho0) hb);replace HB:=zBs HB hb;clear hb ho0;obtain⟨Xm,VC,VD⟩:=Kd.dU IC.out;subst VD;obtain⟨Zf,Vw,aaq⟩:=Kd.dU QW.out;subst aaq)|((with_reducible refine af (f:=83) rfl ?_);refine zc (some 20) Tryz.func83 #[.slice Xm ar5.length VC,.slice Zf ar6.length Vw] (aU.calls _ _ _ _ _ _ _ _ _ (zC ((Kd.az IC.out).2.2)) ((Kd.az IC.out).2.1) (zC ((Kd.az QW.out).2.2)) ((Kd.az QW.out).2.1) A7.out) ?_;rintro e w13 ⟨aKv,rfl,ho0,hb⟩;refine⟨_,rfl,?_⟩;have ar8:=am (Kd.dZ (Kd.jc (Kd.jc (Kd.jc ho0 (Kd.qg (zR qx))) (Kd.qg (zR IC))) (Kd.qg (zR QW))) (zS HB));replace qx:=am (Kd.fQ (zR qx) (Kd.fP ho0) hb);replace IC:=am (Kd.fQ (zR IC) (Kd.fP ho0) hb);replace QW:=am (Kd.fQ (zR QW) (Kd.fP ho0) hb);replace HB:=zBs HB hb;clear hb ho0)))
 ·go_roundg k1
  case measure=>have:=HK1.out;omega
  case rel=>exact⟨(ar7),(wrap64 (qh+1)),z1,H,(zH HK1),⟨by (with_reducible repeat (first|apply Kd.cO|apply Kd.bZ|apply Kd.dK));exact Kd.dm ar8.out (fun _ hk=>trivial)⟩,⟨zB HB⟩⟩
 go_ret
 exact⟨_,z2,zR qx,zB HB⟩
mutual
def au.j1:Nat→Int→Bool→Bool→ByteArray→Int→Option (Bool × Bool × ByteArray × Int)
  | 0,_,_,_,_,_=>none
  | k+1,x3,uZ,vk,kX,uf=>if x3=(kX.size:Int) then (some (false,false,(⟨#[48]⟩:ByteArray),0)) else (if 0≤x3 then (if x3≤(kX.size:Int) then (au.l1 k uZ vk (kX.extract (x3:Int).toNat kX.size) uf) else (none)) else (none))
def au.l1:Nat→Bool→Bool→ByteArray→Int→Option (Bool × Bool × ByteArray × Int)
  | 0,_,_,_,_=>none
  | k+1,uZ,vk,kX,uf=>if 0≤(wrap64 ((kX.size:Int)-1)) then (if (wrap64 ((kX.size:Int)-1))<(kX.size:Int) then (if (bt kX (wrap64 ((kX.size:Int)-1)))=48 then (if uf<1000000 then (if (wrap64 ((kX.size:Int)-1))≤(kX.size:Int) then (au.l1 k uZ vk (kX.extract 0 ((wrap64 ((kX.size:Int)-1)):Int).toNat) (wrap64 (uf+1))) else (none)) else (some (uZ,vk,kX,uf))) else (some (uZ,vk,kX,uf))) else (none)) else (none)
def au.l0:Nat→Int→Bool→Bool→ByteArray→Int→Option (Bool × Bool × ByteArray × Int)
  | 0,_,_,_,_,_=>none
  | k+1,x3,uZ,vk,kX,uf=>if x3<(kX.size:Int) then (if 0≤x3 then (if (bt kX x3)=48 then (au.l0 k (wrap64 (x3+1)) uZ vk kX uf) else (au.j1 k x3 uZ vk kX uf)) else (none)) else (au.j1 k x3 uZ vk kX uf)
end
def au.f (k:Nat)(fM:Bool)(fF:Bool)(iQ:ByteArray)(jd:Int):Option (Bool × Bool × ByteArray × Int):=if fM=true then (some (fM,fF,iQ,jd)) else (au.l0 k 0 fM fF iQ jd)
theorem au.calls (k:Nat)(fM:Bool)(fF:Bool)(iQ:ByteArray)(jd:Int)(r1:Bool)(r2:Bool)(r3:ByteArray)(r4:Int)(w:World)(h:au.f k fM fF iQ jd=some (r1,r2,r3,r4)) :
    Calls Tryz.prog 72 #[.agg #[.bool fM,.bool fF,.string iQ,.int .i64 jd]] w fun e w'=>e=.returned (.agg #[.bool r1,.bool r2,.string r3,.int .i64 r4])∧Below w.heap.size w w':=by
 have Rf:=Tryz.underlying23;have HB:=am (Below.refl w.heap.size w);have H:=am h;unfold au.f at H;clear h
 cases fM
 ·replace H:=zb0 H
  go_enter Tryz.func72,Tryz.ntmps72
  go_upto_block 0 with (first|((with_reducible refine aA (N:=1) rfl ?_);refine zx 1 23 #[.bool false,.bool fF,.string iQ,.int .i64 jd] ?_;intro Zt hg w9 hbox hb;have qf:=am (hbox);have ar9:=zG hg HB;have asa:=zG hg HB;replace HB:=zBs HB hb;clear hb hbox hg)|((with_reducible refine aA (N:=2) rfl ?_);refine zx 2 23 #[.bool false,.bool false,.string (⟨#[]⟩:ByteArray),.int .i64 0] ?_;intro Nl hg w10 hbox hb;have wQ:=am (hbox);have asb:=zG hg HB;have asc:=zG hg HB;replace HB:=zBs HB hb;have nI:=zNl hg qf;have nJ:=zNg hg qf;replace qf:=zKb qf hb;clear hb hbox hg;have arR:=nI.out;have arS:=nJ.out;obtain⟨_,_,_,_,_,_,_,_⟩:=zf4 qf))
  (try simp only[Act.put,List.setIfInBounds_toArray,List.set_cons_zero,List.set_cons_succ])
  go_cut [3] (fun v3 wc => ∃ (kq:Nat) (alm:Int),v3=.int .i64 alm∧ae (au.j1 kq alm false fF iQ jd=some (r1,r2,r3,r4))∧ae (kq≤k)∧ae (wc.heap[Zt]? = some (.cells #[.bool false,.bool fF,.string iQ,.int .i64 jd] 23 (0,0)))∧ae (wc.heap[Nl]? = some (.cells #[.bool false,.bool false,.string (⟨#[]⟩:ByteArray),.int .i64 0] 23 (0,0)))∧ae (Below w.heap.size w wc))
  case first =>
   go_wp2
   go_loopg [3] k (fun kq v3 w' => ∃ (iy:Int),v3=.int .i64 iy∧ae (au.l0 kq iy false fF iQ jd=some (r1,r2,r3,r4))∧ae (kq≤k)∧ae (w'.heap[Zt]? = some (.cells #[.bool false,.bool fF,.string iQ,.int .i64 jd] 23 (0,0)))∧ae (w'.heap[Nl]? = some (.cells #[.bool false,.bool false,.string (⟨#[]⟩:ByteArray),.int .i64 0] 23 (0,0)))∧ae (Below w.heap.size w w'))
   case atStart=>exact⟨(0),z1,H,zL,⟨zK qf⟩,⟨zK wQ⟩,⟨zB HB⟩⟩
   clear H;obtain⟨iy,rfl,H,HK1,qf,wQ,HB⟩:=hrel;obtain _|k1:=gk
   ·exact zz H rfl
   simp only[au.l0]at H;replace H:=zsd H;rcases H with⟨sD,H⟩|⟨sD,H⟩
   (first|rw[sD]|(simp only[bW,fV];rw[sD])|rw[Ip]|skip)
   replace H:=zid H;obtain⟨wG,H⟩:=H;replace H:=zsk H;rcases H with⟨Dx,Qu,H⟩|⟨Dx,Qu,c16,H⟩;have ana:=nI.out;have anb:=nJ.out;obtain⟨_,_,_,_,_,_,_,_⟩:=zf4 qf;have p15:0≤(iy:Int):=zD;have q15:iy<(iQ.size:Int):=zD;have ase:=ru iQ iy;replace p15:=eq_true p15;replace q15:=eq_true q15;rotate_left;have aEN:=nI.out;have aEO:=nJ.out;obtain⟨_,_,_,_,_,_,_,_⟩:=zf4 qf;have p15:0≤(iy:Int):=zD;have q15:iy<(iQ.size:Int):=zD;have ase:=ru iQ iy;replace p15:=eq_true p15;replace q15:=eq_true q15;rotate_left
   (first|rw[sD]|(simp only[bW,fV];rw[sD])|rw[Ip]|skip)
   have aEP:=nI.out;have aEQ:=nJ.out;obtain⟨_,_,_,_,_,_,_,_⟩:=zf4 qf;rotate_left
   all_goals (go_wp2)
   ·go_roundg k1
    case measure=>have:=HK1.out;omega
    case rel=>exact⟨(wrap64 (iy+1)),z1,H,(zH HK1),⟨zK qf⟩,⟨zK wQ⟩,⟨zB HB⟩⟩
   ·go_meet
    case rel=>exact⟨_,(iy),z1,H,⟨by have:=HK1.out;first|omega|exact Nat.le_refl _⟩,⟨zK qf⟩,⟨zK wQ⟩,⟨zB HB⟩⟩
   go_meet
   case rel=>exact⟨_,(iy),z1,H,⟨by have:=HK1.out;first|omega|exact Nat.le_refl _⟩,⟨zK qf⟩,⟨zK wQ⟩,⟨zB HB⟩⟩
  case rest =>
   try clear hx1
   try clear ase
   obtain⟨kq,alm,rfl,H,HJ7,qf,wQ,HB⟩:=hcut;obtain _|kj7:=kq
   ·exact zz H rfl
   simp only[au.j1]at H;replace H:=zsk H;rcases H with⟨J3,adk,H⟩|⟨J3,adk,c23,H⟩;obtain⟨rfl,rfl,rfl,rfl⟩:=zJ4 H;have ag1:=nI.out;have ag2:=nJ.out;obtain⟨_,_,_,_,_,_,_,_⟩:=zf4 qf;obtain⟨_,_,_,_,_,_,_,_⟩:=zf4 wQ;rotate_left;replace H:=zit H;obtain⟨Y0,aon,H⟩:=H;replace H:=zit H;obtain⟨zQ,ade,H⟩:=H;have apA:=nI.out;have apB:=nJ.out;obtain⟨_,_,_,_,_,_,_,_⟩:=zf4 qf;rotate_left
   all_goals (go_wp2)
   ·refine bodyPost_ret (results_cell_row rfl _ _ Nl 23 #[.bool false,.bool false,.string (⟨#[48]⟩:ByteArray),.int .i64 0] (0,0) _ rfl (zKp wQ) Tryz.underlying23 rfl (by kernel_rfl)) rfl ?_
    exact⟨z2,zB HB⟩
   go_loopg [] kj7 (fun kq w' => ∃ (lL:ByteArray) (wR:Int),ae (au.l1 kq false fF lL wR=some (r1,r2,r3,r4))∧ae (kq≤kj7)∧ae (w'.heap[Zt]? = some (.cells #[.bool false,.bool fF,.string lL,.int .i64 wR] 23 (0,0)))∧ae (w'.heap[Nl]? = some (.cells #[.bool false,.bool false,.string (⟨#[]⟩:ByteArray),.int .i64 0] 23 (0,0)))∧ae (Below w.heap.size w w'))
   case atStart=>exact⟨(iQ.extract (alm:Int).toNat iQ.size),(jd),H,zL,⟨zKp qf⟩,⟨zK wQ⟩,⟨zB HB⟩⟩
   clear H
   try clear hx1
   try clear ase
   obtain⟨lL,wR,H,HK2,qf,wQ,HB⟩:=hrel;obtain _|k2:=gk
   ·exact zz H rfl
   simp only[au.l1]at H;generalize VJ:(wrap64 ((lL.size:Int)-1):Int)=Ih at H;have axx:(IntKind.i64.wrap ((lL.size:Int)-1))=Ih:=(bW _).trans VJ;replace H:=zid H;obtain⟨apb,H⟩:=H;replace H:=zid H;obtain⟨aqy,H⟩:=H;replace H:=zsk H;rcases H with⟨J7,aei,H⟩|⟨J7,aei,c35,H⟩;replace H:=zsd H;rcases H with⟨VZ,H⟩|⟨VZ,H⟩;have MJ:=eq_true (zD:0≤(Ih));replace H:=zit H;obtain⟨asf,asg,H⟩:=H;have ajt:=nI.out;have aju:=nJ.out;obtain⟨_,_,_,_,_,_,_,_⟩:=zf4 qf;have p34:0≤((Ih):Int):=zD;have q34:(Ih)<(lL.size:Int):=zD;have hx34:=ru lL (Ih);replace p34:=eq_true p34;replace q34:=eq_true q34;rotate_left;obtain⟨rfl,rfl,rfl,rfl⟩:=zJ4 H;have aER:=nI.out;have aES:=nJ.out;obtain⟨_,_,_,_,_,_,_,_⟩:=zf4 qf;have p34:0≤((Ih):Int):=zD;have q34:(Ih)<(lL.size:Int):=zD;have hx34:=ru lL (Ih);replace p34:=eq_true p34;replace q34:=eq_true q34;obtain⟨_,_,_,_,_,_,_,_⟩:=zf4 wQ;rotate_left;obtain⟨rfl,rfl,rfl,rfl⟩:=zJ4 H;have arH:=nI.out;have arI:=nJ.out;obtain⟨_,_,_,_,_,_,_,_⟩:=zf4 qf;have p34:0≤((Ih):Int):=zD;have q34:(Ih)<(lL.size:Int):=zD;have hx34:=ru lL (Ih);replace p34:=eq_true p34;replace q34:=eq_true q34;obtain⟨_,_,_,_,_,_,_,_⟩:=zf4 wQ;rotate_left
   all_goals (go_wp2)
   ·go_roundg k2
    case measure=>have:=HJ7.out;have:=HK2.out;omega
    case rel=>exact⟨(lL.extract 0 ((Ih):Int).toNat),(wrap64 (wR+1)),H,⟨by have:=HJ7.out;have:=HK2.out;omega⟩,⟨zKp qf⟩,⟨zK wQ⟩,⟨zB HB⟩⟩
   rotate_left;rotate_left
   all_goals
    refine bodyPost_ret (results_cell_row rfl _ _ Nl 23 #[.bool false,.bool fF,.string lL,.int .i64 wR] (0,0) _ rfl (zKp wQ) Tryz.underlying23 rfl (by kernel_rfl)) rfl ?_;exact⟨by first|exact z3|(simp only[← VJ];exact z3)|exact z2,zB HB⟩
 replace H:=zb1 H;obtain⟨rfl,rfl,rfl,rfl⟩:=zJ4 H
 go_enter Tryz.func72,Tryz.ntmps72
 go_wp2_with (first|((with_reducible refine aA (N:=1) rfl ?_);refine zx 1 23 #[.bool true,.bool fF,.string iQ,.int .i64 jd] ?_;intro Zt hg w3 hbox hb;have qf:=am (hbox);have ar9:=zG hg HB;have asa:=zG hg HB;replace HB:=zBs HB hb;clear hb hbox hg)|((with_reducible refine aA (N:=2) rfl ?_);refine zx 2 23 #[.bool false,.bool false,.string (⟨#[]⟩:ByteArray),.int .i64 0] ?_;intro Nl hg w4 hbox hb;have wQ:=am (hbox);have asb:=zG hg HB;have asc:=zG hg HB;replace HB:=zBs HB hb;have nI:=zNl hg qf;have nJ:=zNg hg qf;replace qf:=zKb qf hb;clear hb hbox hg;have aKw:=nI.out;have aKx:=nJ.out;obtain⟨_,_,_,_,_,_,_,_⟩:=zf4 qf;obtain⟨_,_,_,_,_,_,_,_⟩:=zf4 wQ))
 refine bodyPost_ret (results_cell_row rfl _ _ Nl 23 #[.bool true,.bool fF,.string iQ,.int .i64 jd] (0,0) _ rfl (zKp wQ) Tryz.underlying23 rfl (by kernel_rfl)) rfl ?_;exact⟨z2,zB HB⟩
end Go.Proofs.Yy.PTx
end
