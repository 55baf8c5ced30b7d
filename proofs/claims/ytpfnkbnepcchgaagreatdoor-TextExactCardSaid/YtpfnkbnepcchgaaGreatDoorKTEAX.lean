/- Part 24 of what the proof needs. -/
import Derived.Test.YtpfnkbnepcchgaaGreatDoorKTEAW
set_option linter.unusedSimpArgs false
set_option linter.unusedVariables false
section
namespace Go.Proofs.Yy.PTx
open Go.RowKit Go.Proofs.Yw.PrintWords Go.Proofs.Yw.PrintLast Go.Proofs.Yw.PrintMore Go.Proofs.Yy.M Go.Proofs.Yy.NM
attribute [local irreducible] gp jK lI oL val
theorem vI {x:Int} (h0:0≤x) (h1:x<18446744073709551616):Go.bits .and .u64 x 4294967295=x % 4294967296 :=
 bits_mask .u64 64 (by decide) (fun n a b=>ut a (by omega)) 32 (by decide) x h0 h1
theorem sZ {a b m:Int} (ha:0≤a) (hb:0≤b) (h1:a≤m) (h2:b≤m):a * b≤m * m :=
 Int.mul_le_mul h1 h2 hb (by omega)
theorem TQ {p q r s A:Int} (hp:0≤p∧p≤18446744065119617025) (hq:0≤q∧q≤18446744065119617025) (hr:0≤r∧r≤18446744065119617025) (hs:0≤s∧s≤18446744065119617025)
  (hA:A=p * 18446744073709551616+(q+s) * 4294967296+r):p+(q+r / 4294967296) / 4294967296+((q+r / 4294967296) % 4294967296+s) / 4294967296=A / 18446744073709551616:=by
 omega
theorem Pq {a b:Int} (ha:0≤a∧a<B) (hb:0≤b∧b<B):bits_Mul64.f a b=some (a * b / 18446744073709551616,a * b % 18446744073709551616):=by
 rw [y9] at *
 unfold bits_Mul64.f
 obtain ⟨x1,hx1⟩:∃ x1,x1=a / 4294967296:=⟨_,rfl⟩
 obtain ⟨x0,hx0⟩:∃ x0,x0=a % 4294967296:=⟨_,rfl⟩
 obtain ⟨y1,hy1⟩:∃ y1,y1=b / 4294967296:=⟨_,rfl⟩
 obtain ⟨y0,hy0⟩:∃ y0,y0=b % 4294967296:=⟨_,rfl⟩
 rw [vI ha.1 ha.2,vI hb.1 hb.2, ← hx1, ← hx0, ← hy1, ← hy0]
 have ea:a=x1 * 4294967296+x0:=by omega
 have eb:b=y1 * 4294967296+y0:=by omega
 have x1b:0≤x1∧x1≤4294967295:=by omega
 have x0b:0≤x0∧x0≤4294967295:=by omega
 have y1b:0≤y1∧y1≤4294967295:=by omega
 have y0b:0≤y0∧y0≤4294967295:=by omega
 have hp:0≤x1 * y1∧x1 * y1≤18446744065119617025:=⟨Int.mul_nonneg x1b.1 y1b.1,sZ x1b.1 y1b.1 x1b.2 y1b.2⟩
 have hq:0≤x1 * y0∧x1 * y0≤18446744065119617025:=⟨Int.mul_nonneg x1b.1 y0b.1,sZ x1b.1 y0b.1 x1b.2 y0b.2⟩
 have hr:0≤x0 * y0∧x0 * y0≤18446744065119617025:=⟨Int.mul_nonneg x0b.1 y0b.1,sZ x0b.1 y0b.1 x0b.2 y0b.2⟩
 have hs:0≤x0 * y1∧x0 * y1≤18446744065119617025:=⟨Int.mul_nonneg x0b.1 y1b.1,sZ x0b.1 y1b.1 x0b.2 y1b.2⟩
 have hA:a * b=x1 * y1 * 18446744073709551616+(x1 * y0+x0 * y1) * 4294967296+x0 * y0:=by rw [ea,eb];grind
 have hM:=TQ hp hq hr hs hA
 generalize a * b=A at *
 generalize x1 * y1=p at *
 generalize x1 * y0=q at *
 generalize x0 * y0=r at *
 generalize x0 * y1=s at *
 clear hx1 hx0 hy1 hy0 ea eb x1b x0b y1b y0b ha hb
 rw [ut (x:=p) (by omega) (by omega),ut (x:=q) (by omega) (by omega),ut (x:=r) (by omega) (by omega),ut (x:=s) (by omega) (by omega)]
 rw [ut (x:=q+r / 4294967296) (by omega) (by omega),vI (x:=q+r / 4294967296) (by omega) (by omega),ut (x:=(q+r / 4294967296) % 4294967296+s) (by omega) (by omega)]
 rw [ut (x:=p+(q+r / 4294967296) / 4294967296) (by omega) (by omega),ut (x:=p+(q+r / 4294967296) / 4294967296+((q+r / 4294967296) % 4294967296+s) / 4294967296) (by omega) (by omega),hM]
 rw [IntKind.wrap_u64]
theorem Tq {P x y h l l1 c1 l2 c2:Int} (hP:0≤P∧P≤340282366920938463426481119284349108225) (hx:0≤x∧x<18446744073709551616) (hy:0≤y∧y<18446744073709551616)
  (hh:h=P / 18446744073709551616) (hl:l=P % 18446744073709551616) (h1:l1+18446744073709551616 * c1=l+x) (hc1:0≤c1∧c1≤1) (hl1:0≤l1∧l1<18446744073709551616)
  (h2:l2+18446744073709551616 * c2=l1+y) (hc2:0≤c2∧c2≤1) (hl2:0≤l2∧l2<18446744073709551616):l2+18446744073709551616 * (h+c1+c2)=P+x+y∧0≤h+c1∧h+c1≤18446744073709551615∧0≤h+c1+c2∧h+c1+c2≤18446744073709551615:=by
 omega
theorem Pj {v w x y:Int} (hv:0≤v∧v<B) (hw:0≤w∧w<B) (hx:0≤x∧x<B) (hy:0≤y∧y<B) :
  ∃ lo hi,oH.f v w x y=some (lo,hi)∧lo+B * hi=v * w+x+y∧(0≤lo∧lo<B)∧0≤hi∧hi<B:=by
 unfold oH.f
 rw [Pq hv hw]
 have hl:0≤v * w % 18446744073709551616∧v * w % 18446744073709551616<B:=by rw [y9];exact ⟨Int.emod_nonneg _ (by decide),Int.emod_lt_of_pos _ (by decide)⟩
 obtain ⟨s1,b1,c1,d1⟩:=Fg hl hx (Int.le_refl 0) (by decide)
 obtain ⟨s2,b2,c2,d2⟩:=Fg b1 hy (Int.le_refl 0) (by decide)
 have hP:0≤v * w∧v * w≤340282366920938463426481119284349108225:=by
  rw [y9] at hv hw
  exact ⟨Int.mul_nonneg hv.1 hw.1,sZ (m:=18446744073709551615) hv.1 hw.1 (by omega) (by omega)⟩
 refine ⟨_,_,rfl,?_⟩
 dsimp only
 rw [y9] at *
 obtain ⟨e1,e2,e3,e4,e5⟩:=Tq hP hx hy rfl rfl (by rw [s1];omega) ⟨c1,d1⟩ b1 (by rw [s2];omega) ⟨c2,d2⟩ b2
 rw [ut e2 e3,ut e4 e5]
 exact ⟨e1,b2,e4,by omega⟩
theorem PE {pi pk b v hi lo x y w V A W:Int} (hs:lo+b * hi=v * w+x+y) (hv:V+pi * pk * y=A+pi * v * W):V+pi * pk * (lo - x)+pi * pk * b * hi=A+pi * v * (W+pk * w):=by grind
theorem rQ (l:List Int) (i j:Nat) (v:Int) (h:i≠j):(l.set i v).getD j 0=l.getD j 0:=by
 simp [List.getD_eq_getElem?_getD,List.getElem?_set_ne h]
theorem Xw {a b:List Int} (hb:Dig B b) (hL:a.length+b.length≤1099511627776) (i:Nat) (hi:i<a.length) (v:Int) (hv:0≤v∧v<B) (A:Int) (r:List Int)
  (next:∀ x,x.length=a.length+b.length→Dig B x→(∀ j,i+1+b.length≤j→x.getD j 0=0)→val B x=A+pw B i * v * val B b→Ev (fun k=>dD.l0 k b x a (a.length:Int) ((i+1:Nat):Int)) r) :
  ∀ (d k:Nat) (x:List Int) (y:Int),k+d=b.length→x.length=a.length+b.length→Dig B x→0≤y→y<B→(∀ j,i+b.length≤j→x.getD j 0=0) →
   val B x+pw B i * pw B k * y=A+pw B i * v * val B (b.take k) →
   Ev (fun n=>dD.l1 n b x (i:Int) v y a (a.length:Int) (i:Int) b (b.length:Int) (k:Int)) r:=by
 intro d
 induction d with
 | zero =>
  intro k x y hk hx hd h0 h1 hz hval
  obtain rfl:k=b.length:=by omega
  rw [List.take_length, ← o9] at hval
  have hw:ae (wrap64 ((i:Int)+(b.length:Int))=((i+b.length:Nat):Int)):=⟨by rw [w64 (by omega) (by omega)];omega⟩
  have hw1:ae (wrap64 ((i:Int)+1)=((i+1:Nat):Int)):=⟨by rw [w64 (by omega) (by omega)];omega⟩
  have hlt:i+b.length<x.length:=by omega
  refine Ev.step (f:=fun n=>dD.l0 n b (x.set (i+b.length) y) a (a.length:Int) ((i+1:Nat):Int)) (fun n=>?_) (next _ (by simpa using hx) (hd.set h0 h1) (fun j hj=>by rw [rQ _ _ _ _ (by omega)];exact hz j (by omega)) ?_)
  ·simp only [dD.l1]
   rw [hw.out,hw1.out,if_neg (by omega),if_pos (by omega),if_pos (by omega)]
   rfl
  ·rw [uo B x _ y hlt,hz _ (by omega),Int.sub_zero]
   exact hval
 | succ d ih =>
  intro k x y hk hx hd h0 h1 hz hval
  have hw:ae (wrap64 ((i:Int)+(k:Int))=((i+k:Nat):Int)):=⟨by rw [w64 (by omega) (by omega)];omega⟩
  have hw1:ae (wrap64 ((k:Int)+1)=((k+1:Nat):Int)):=⟨by rw [w64 (by omega) (by omega)];omega⟩
  have hlt:i+k<x.length:=by omega
  have hk1:k+1+d=b.length:=by omega
  obtain ⟨lo,hi',hf,hs,hlo,hh⟩:=Pj hv (hb.get vV k) (hd.get vV (i+k)) ⟨h0,h1⟩
  refine Ev.step (f:=fun n=>dD.l1 n b (x.set (i+k) lo) (i:Int) v hi' a (a.length:Int) (i:Int) b (b.length:Int) ((k+1:Nat):Int)) (fun n=>?_)
   (ih (k+1) _ _ hk1 (by simpa using hx) (hd.set hlo.1 hlo.2) hh.1 hh.2 (fun j hj=>by rw [rQ _ _ _ _ (by omega)];exact hz j hj) ?_)
  ·simp only [dD.l1]
   rw [hw.out,hw1.out,if_pos (by omega),if_pos (by omega),if_pos (by omega),if_pos (by omega),if_pos (by omega),jg,jg,hf]
   simp only [Option.bind_some,Int.toNat_natCast]
  ·rw [uo B x _ lo hlt,jM B b,jU, ← Int.mul_assoc,o9]
   exact PE hs hval
theorem Jq {pi v V A W:Int} (h:V=A * W+pi * v * W):V=(A+pi * v) * W:=by grind
theorem X4 {a b:List Int} (ha:Dig B a) (hb:Dig B b) (hL:a.length+b.length≤1099511627776):∀ (d i:Nat) (x:List Int),i+d=a.length→x.length=a.length+b.length→Dig B x→(∀ j,i+b.length≤j→x.getD j 0=0) →
  val B x=val B (a.take i) * val B b→Ev (fun k=>dD.l0 k b x a (a.length:Int) (i:Int)) (enc B (val B a * val B b)):=by
 intro d
 induction d with
 | zero =>
  intro i x hi hx hd _ hval
  obtain rfl:i=a.length:=by omega
  rw [List.take_length] at hval
  refine Ev.step (f:=fun k=>(bG.f k x).bind fun t=>some t) (fun k=>?_) (Ev.bind (by rw [← hval];exact ul hd (by omega)) (Ev.now _))
  simp only [dD.l0]
  rw [if_neg (by omega)]
 | succ d ih =>
  intro i x hi hx hd hz hval
  have hv:=ha.get vV i
  have hilt:i<a.length:=by omega
  have hi1:i+1+d=a.length:=by omega
  refine Ev.step (f:=fun k=>dD.l1 k b x (i:Int) (a.getD i 0) 0 a (a.length:Int) (i:Int) b (b.length:Int) ((0:Nat):Int)) (fun k=>?_)
   (Xw hb hL i hilt _ hv (val B (a.take i) * val B b) _ (fun x' hx' hd' hz' hval'=>ih (i+1) x' hi1 hx' hd' hz' ?_) b.length 0 x 0 (by omega) hx hd (by omega) (by omega) hz ?_)
  ·simp only [dD.l0]
   rw [if_pos (by omega),if_pos (by omega),if_pos (by omega),jg]
   rfl
  ·rw [jM B a]
   exact Jq hval'
  ·rw [List.take_zero,pR,hval];simp
theorem Gw {a b:List Int} (ha:Dig B a) (hb:Dig B b) (hL:a.length+b.length≤1099511627776):Ev (fun k=>dD.f k a b) (enc B (val B a * val B b)):=by
 have hw:ae (wrap64 ((a.length:Int)+(b.length:Int))=((a.length+b.length:Nat):Int)):=⟨by rw [w64 (by omega) (by omega)];omega⟩
 refine Ev.congr (f:=fun k=>dD.l0 k b (List.replicate (a.length+b.length) 0) a (a.length:Int) ((0:Nat):Int)) (fun k=>?_)
  (X4 ha hb hL a.length 0 _ (by omega) (by simp) (Dig.zeros vV _) (fun j _=>by simp [List.getD_eq_getElem?_getD,List.getElem?_replicate];split <;> rfl) (by simp [yj,val]))
 unfold dD.f
 rw [hw.out,if_pos (by omega),Int.toNat_natCast,if_pos (by omega)]
 rfl
def afj (l:List (List Int)):Int:=l.foldl (fun p x=>p * val B x) 1
theorem afb (l:List (List Int)) (n:Nat):Gm l (n:Int)=l.getD n []:=by simp [Gm]
theorem UD {v:Int} {m:Nat} (h:v<pw B m):(enc B v).length≤m:=mV B1 h
theorem aeD {l:List (List Int)} (hd:∀ x ∈ l,Dig B x) (hL:(l.map List.length).sum+l.length≤1099511627774):∀ (d i:Nat) (v:Int) (s:Nat),i+d=l.length→0≤v→v≤pw B s→s+((l.drop i).map List.length).sum=(l.map List.length).sum →
  Ev (fun k=>lL.l0 k (enc B v) l (l.length:Int) (i:Int)) (enc B ((l.drop i).foldl (fun p x=>p * val B x) v)):=by
 intro d
 induction d with
 | zero =>
  intro i v s hi h0 h1 hs
  obtain rfl:i=l.length:=by omega
  rw [List.drop_length]
  refine Ev.step (f:=fun _=>some (enc B v)) (fun k=>?_) (Ev.now _)
  simp only [lL.l0]
  rw [if_neg (by omega)]
 | succ d ih =>
  intro i v s hi h0 h1 hs
  have hilt:i<l.length:=by omega
  have hg:l.getD i []=l[i]:=by simp [List.getD_eq_getElem?_getD,List.getElem?_eq_getElem hilt]
  have hm:l.getD i [] ∈ l:=by rw [hg];exact List.getElem_mem hilt
  have hdi:=hd _ hm
  have hw1:ae (wrap64 ((i:Int)+1)=((i+1:Nat):Int)):=⟨by rw [w64 (by omega) (by omega)];omega⟩
  have hv0:=oC vV hdi
  have hvl:=qo vV hdi
  have hi1:i+1+d=l.length:=by omega
  have hds:(l.drop i).foldl (fun p x=>p * val B x) v=(l.drop (i+1)).foldl (fun p x=>p * val B x) (v * val B (l.getD i [])):=by rw [hg,List.drop_eq_getElem_cons hilt];rfl
  have hsum:((l.drop i).map List.length).sum=(l.getD i []).length+((l.drop (i+1)).map List.length).sum:=by rw [hg,List.drop_eq_getElem_cons hilt,List.map_cons,List.sum_cons]
  have hlen:(enc B v).length≤s+1:=by
   refine UD (Int.lt_of_le_of_lt h1 ?_)
   rw [jU]
   have:=Int.mul_lt_mul_of_pos_left (a:=1) (b:=B) B1 (nz vV s)
   omega
  have hli:(enc B (val B (l.getD i []))).length≤(l.getD i []).length:=wO B1 hdi
  have hv2:v * val B (l.getD i [])≤pw B (s+(l.getD i []).length):=by
   rw [o9]
   exact Int.mul_le_mul h1 (Int.le_of_lt hvl) hv0 (Int.le_of_lt (nz vV s))
  have key:=ih (i+1) _ (s+(l.getD i []).length) hi1 (Int.mul_nonneg h0 hv0) hv2 (by omega)
  rw [hds]
  refine Ev.step (f:=fun k=>(bG.f k (l.getD i [])).bind fun t=>(dD.f k (enc B v) t).bind fun u=>lL.l0 k u l (l.length:Int) ((i+1:Nat):Int)) (fun k=>?_)
   (Ev.bind (ul hdi (by omega)) (Ev.bind (Gw (iG B1 _) (iG B1 _) (by omega)) ?_))
  ·simp only [lL.l0]
   rw [hw1.out,if_pos (by omega),if_pos (by omega),if_pos (by omega),afb]
  ·rw [gJ B1 h0,gJ B1 hv0]
   exact key
theorem SI:enc B 1 = [1]:=by
 rw [nH B1 (by decide),Int.emod_eq_of_lt (by decide) B1,Int.ediv_eq_zero_of_lt (by decide) B1,eu]
theorem ae9 {l:List (List Int)} (hd:∀ x ∈ l,Dig B x) (hL:(l.map List.length).sum+l.length≤1099511627774):Ev (fun k=>lL.f k l) (enc B (afj l)):=by
 have:=aeD hd hL l.length 0 1 0 (by omega) (by omega) (by rw [lW];exact Int.le_refl 1) (by simp)
 rw [SI,List.drop_zero] at this
 exact this
end Go.Proofs.Yy.PTx
end
section
set_option maxHeartbeats 8000000
set_option maxRecDepth 100000
namespace Go.Proofs.Yy.PTx
open Go.RowKit Go.Proofs.Yy.Z Go.Proofs.Yw.PrintWords Go.Proofs.Yw.PrintLast Go.Proofs.Yw.PrintMore
open Go.Proofs.Yy.M
attribute [local go_sem] dw dQ lD lF lC lG
attribute [local go_sem] gy gz ja jc fC fD gQ gK
def dJ.f (k:Nat)  : Option (Bool):=(pK.f k 8 (⟨#[49,56,46,48,48,48,48,48,48,48,48,48,48,48,48,48,48,48,49]⟩:ByteArray)).bind fun ajj=>((pK.f k 8 (⟨#[49,56]⟩:ByteArray)).bind fun ajk=>((lm.f k 8 1).bind fun ajl=>((tu.f k 8 127).bind fun ajm=>(if ajj.1=97 then (if ajj.2.isNone=true then (if ajk.1=96 then (if ajk.2.isNone=true then (if ajl.1.toList=([53,46,57,54,48,52,54,52,52,55,55,53,51,57,48,54,50,53,101,45,56]:List UInt8) then (if ajl.2.isNone=true then (if ajm.1.toList=([50,48,48,48,48,48,48,48]:List UInt8) then (if ajm.2.isNone=true then (some true) else (some false)) else (some false)) else (some false)) else (some false)) else (some false)) else (some false)) else (some false)) else (some false)))))
theorem dJ.few:∀ k<40,dJ.f k≠some false:=by decide +kernel
theorem dJ.at_ (k:Nat):dJ.f (k+40)=some true:=by kernel_rfl
theorem dJ.calls (k:Nat)  (r:Bool) (w:World) (h:dJ.f k  = some r) (htab:Fx.Laid w:=by exact Fx.Laid.below HTAB.out (by repeat (first|(with_reducible first|exact HB.out|apply bz|apply aI|apply aZ|refine bu ?_ (ae.out (by assumption)))|exact HB.out))) :
    Calls Tryz.prog 12 #[] w fun e w'=>e = .returned (.bool r)∧Below w.heap.size w w':=by
 have HTAB:=am htab
 clear htab
 have HRT:ae (r=true):=⟨eq_true_of_ne_false fun e_=>by
  subst e_
  by_cases hk_:k<40
  exact dJ.few k hk_ h
  obtain ⟨m_,rfl⟩:∃ m_,k=m_+40:=⟨k - 40,by omega⟩
  exact absurd (h.symm.trans (dJ.at_ m_)) (by decide)⟩
 have yL:=Tryz.underlying27
 have hu64:=Tryz.underlying64
 have HB:=am (Below.refl w.heap.size w)
 have H:=am h
 unfold dJ.f at H
 clear h
 replace H:=zo H
 obtain ⟨⟨aJu,aDL⟩,A1,H⟩:=H
 try dsimp only at H
 replace H:=zo H
 obtain ⟨⟨aJv,aDM⟩,A2,H⟩:=H
 try dsimp only at H
 replace H:=zo H
 obtain ⟨⟨aJw,aDN⟩,A3,H⟩:=H
 try dsimp only at H
 replace H:=zo H
 obtain ⟨⟨aJx,aDO⟩,A4,H⟩:=H
 try dsimp only at H
 replace H:=zsk H
 rcases H with ⟨rG,xw,H⟩|⟨rG,xw,c5,H⟩
 ·rcases aDL with _|aJy
  ·replace H:=zb1 H
   try simp only [ak,aj]
   replace H:=zsk H
   rcases H with ⟨rF,Bg,H⟩|⟨rF,Bg,c6,H⟩
   ·rcases aDM with _|aJz
    ·replace H:=zb1 H
     try simp only [ak,aj]
     replace H:=zsk H
     rcases H with ⟨wQ,Bh,H⟩|⟨wQ,Bh,c7,H⟩
     ·rcases aDN with _|aJA
      ·replace H:=zb1 H
       try simp only [ak,aj]
       replace H:=zsk H
       rcases H with ⟨uD,Ey,H⟩|⟨uD,Ey,c8,H⟩
       ·rcases aDO with _|aJB
        ·replace H:=zb1 H
         try simp only [ak,aj]
         clear HRT
         obtain rfl:=Option.some.inj H.out
         go_enter Tryz.func12,Tryz.ntmps12
         go_wp2_with (first|((with_reducible refine af (f:=24) rfl ?_);refine zc (some 10) Tryz.func24 _ (pK.calls _ _ _ _ _ _ A1.out) ?_;rintro e w9 ⟨rfl,hb⟩;refine ⟨_,rfl,?_⟩;replace HB:=zBs HB hb;clear hb;(try simp only [ak,aj]))|((with_reducible refine af (f:=24) rfl ?_);refine zc (some 14) Tryz.func24 _ (pK.calls _ _ _ _ _ _ A2.out) ?_;rintro e w10 ⟨rfl,hb⟩;refine ⟨_,rfl,?_⟩;replace HB:=zBs HB hb;clear hb;(try simp only [ak,aj]))|((with_reducible refine af (f:=17) rfl ?_);refine zc (some 18) Tryz.func17 _ (lm.calls _ _ _ _ _ _ A3.out) ?_;rintro e w11 ⟨rfl,hb⟩;refine ⟨_,rfl,?_⟩;replace HB:=zBs HB hb;clear hb;(try simp only [ak,aj]))|((with_reducible refine af (f:=20) rfl ?_);refine zc (some 22) Tryz.func20 _ (tu.calls _ _ _ _ _ _ A4.out) ?_;rintro e w12 ⟨rfl,hb⟩;refine ⟨_,rfl,?_⟩;replace HB:=zBs HB hb;clear hb;(try simp only [ak,aj])))
         go_ret
         exact ⟨z2,zB HB⟩
        replace H:=zb0 H
        try simp only [Option.getD_some] at H
        try simp only [ak,aj]
        exact absurd (Option.some.inj H.out) (by rw [HRT.out];decide)
       exact absurd (Option.some.inj H.out) (by rw [HRT.out];decide)
      replace H:=zb0 H
      try simp only [Option.getD_some] at H
      try simp only [ak,aj]
      exact absurd (Option.some.inj H.out) (by rw [HRT.out];decide)
     exact absurd (Option.some.inj H.out) (by rw [HRT.out];decide)
    replace H:=zb0 H
    try simp only [Option.getD_some] at H
    try simp only [ak,aj]
    exact absurd (Option.some.inj H.out) (by rw [HRT.out];decide)
   exact absurd (Option.some.inj H.out) (by rw [HRT.out];decide)
  replace H:=zb0 H
  try simp only [Option.getD_some] at H
  try simp only [ak,aj]
  exact absurd (Option.some.inj H.out) (by rw [HRT.out];decide)
 exact absurd (Option.some.inj H.out) (by rw [HRT.out];decide)
end Go.Proofs.Yy.PTx
end
section
set_option maxHeartbeats 8000000
set_option maxRecDepth 100000
namespace Go.Proofs.Yy.PTx
open Go.RowKit Go.Proofs.Yy.Z Go.Proofs.Yw.PrintWords Go.Proofs.Yw.PrintLast Go.Proofs.Yw.PrintMore
open Go.Proofs.Yy.M
attribute [local go_sem] dw dQ lD lF lC lG
attribute [local go_sem] gy gz ja jc fC fD gQ gK
attribute [local go_sem high] afk
def bf.l0:Nat→Int→List Int→Int→Option (ByteArray)
  | 0,_,_,_=>none
  | k+1,x0,x5,x6=>if x6 ≥ 0 then (if 0≤x6 then (if x5.length<140737488355328 then (bf.l0 k x0 (x5 ++ [(48+(Int.tmod (shr .u64 x0 x6) 2)) % 256]) (wrap64 (x6 - 1))) else (none)) else (none)) else (some (strOfNums x5))
def bf.f (k:Nat) (a0:Int) (a1:Int):Option (ByteArray):=bf.l0 k a0 ([]:List Int) (wrap64 (a1 - 1))
theorem bf.calls (k:Nat) (a0:Int) (a1:Int) (r:ByteArray) (w:World) (h:bf.f k a0 a1=some r) :
    Calls Tryz.prog 88 #[.int .u64 a0, .int .i64 a1] w fun e w'=>e = .returned (.string r)∧Below w.heap.size w w':=by
 have HB:=am (Below.refl w.heap.size w)
 have H:=am h
 unfold bf.f at H
 clear h
 go_enter Tryz.func88,Tryz.ntmps88
 go_wp2
 go_loopg [5,6] k (fun kq v5 v6 w' => ∃ (ig:List Int) (lX:Int),v6 = .int .i64 lX∧ae (bf.l0 kq a0 ig lX=some r)∧ae (kq≤k)∧ae (Kd.R (Kd.int .u8) 5 w' w.heap.size (fun _=>True) v5 ig)∧ae (Below w.heap.size w w'))
 case atStart=>exact ⟨(([]:List Int)),(wrap64 (a1 - 1)),z1,H,zL,⟨zN⟩,⟨zB HB⟩⟩
 clear H
 obtain ⟨ig,lX,rfl,H,HK1,fA,HB⟩:=hrel
 obtain _|k1:=gk
 ·exact zz H rfl
 simp only [bf.l0] at H
 replace H:=zf H
 rcases H with ⟨pg,H⟩|⟨pg,H⟩
 replace H:=zit H
 obtain ⟨kM,rY,H⟩:=H
 generalize Qq:(shr .u64 a0 lX:Int)=ji5 at H
 have axp:(a0 / 2 ^ min lX.toNat 64)=ji5:=Qq
 have axq:lX≤64→(a0 / 2 ^ lX.toNat)=ji5:=jT Qq
 replace H:=zil H
 obtain ⟨ak6,H⟩:=H
 generalize aga:(ig ++ [(48+(Int.tmod (ji5) 2)) % 256]:List Int)=axr at H
 have alX:=zY aga
 clear aga
 rotate_left
 obtain rfl:=Option.some.inj H.out
 have aFO:=zT (P:=Tryz.prog) Tryz.underlying104 Tryz.underlying5 Tryz.underlying9 (Kd.yE fA.out)
 rotate_left
 all_goals (go_wp2_with (first|((with_reducible refine fG (b := .append) (xs:=#[.tmp 13, .tmp 20]) rfl ?_);at_builtin;refine Kd.mX (Kd.int .u8) (w0:=w) w.heap.size rfl (.tmp 13) (.tmp 20) 104 5 (.int .u8 0) 1 rfl Tryz.underlying104 info5 rfl (by decide) (by omega) u5 ig ((48+(Int.tmod (ji5) 2)) % 256) [.int .u8 ((48+(Int.tmod (ji5) 2)) % 256)] (fun _=>True) (fun _=>False) rfl rfl ?aP (fun _ hk=>hk.elim) ?aF ?aO ?aB ?aS ?aL ?_;(case aP=>exact rfl);(case aB=>exact (zB HB));(case aF=>exact (fun _ _=>trivial));(case aO=>exact (zR fA));(case aS=>exact (zS HB));(case aL=>have:=ak6.out;omega);intro aFP w7 ho hb hg hat;rw [← alX.out] at ho;replace HB:=am (hb);have alY:=am (ho);clear fA ho hb hg hat)))
 ·go_roundg k1
  case measure=>have:=HK1.out;omega
  case rel=>exact ⟨(axr),(wrap64 (lX - 1)),z1,H,(zH HK1),⟨zR alY⟩,⟨zB HB⟩⟩
 go_ret
 exact ⟨z2,zB HB⟩
def aV.l0:Nat→ByteArray→Int→Int→Option (Int)
  | 0,_,_,_=>none
  | k+1,x0,x3,x4=>if x4<(x0.size:Int) then (if 0≤x4 then (aV.l0 k x0 (IntKind.u64.wrap ((IntKind.u64.wrap (2 * x3))+(((bt x0 x4) - 48) % 256))) (wrap64 (x4+1))) else (none)) else (some x3)
def aV.f (k:Nat) (a0:ByteArray):Option (Int):=aV.l0 k a0 0 0
theorem aV.calls (k:Nat) (a0:ByteArray) (r:Int) (w:World) (h:aV.f k a0=some r) :
    Calls Tryz.prog 89 #[.string a0] w fun e w'=>e = .returned (.int .u64 r)∧dX w w':=by
 have H:=am h
 unfold aV.f at H
 clear h
 go_enter Tryz.func89,Tryz.ntmps89
 go_wp2
 go_loopg [3,4] k (fun kq v3 v4 w' => ∃ (gY:Int) (wP:Int),v3 = .int .u64 gY∧v4 = .int .i64 wP∧ae (aV.l0 kq a0 gY wP=some r)∧ae (kq≤k)∧dX w w')
 case atStart=>exact ⟨(0),(0),z1,z1,H,zL,z4⟩
 clear H
 obtain ⟨gY,wP,rfl,rfl,H,HK1,⟨m1,rfl⟩⟩:=hrel
 obtain _|k1:=gk
 ·exact zz H rfl
 simp only [aV.l0] at H
 replace H:=zsd H
 rcases H with ⟨uU,H⟩|⟨uU,H⟩
 replace H:=zid H
 obtain ⟨pg,H⟩:=H
 have p4:0≤(wP:Int):=zD
 have q4:wP<(a0.size:Int):=zD
 have hx4:=uC a0 wP
 replace p4:=eq_true p4
 replace q4:=eq_true q4
 rotate_left
 obtain rfl:=Option.some.inj H.out
 rotate_left
 all_goals (go_wp2)
 ·go_roundg k1
  case measure=>have:=HK1.out;omega
  case rel=>exact ⟨(IntKind.u64.wrap ((IntKind.u64.wrap (2 * gY))+(((bt a0 wP) - 48) % 256))),(wrap64 (wP+1)),z1,z1,H,(zH HK1),z4⟩
 go_ret
 exact ⟨z1,z4⟩
end Go.Proofs.Yy.PTx
end
section
set_option maxHeartbeats 8000000
set_option maxRecDepth 100000
namespace Go.Proofs.Yy.PTx
open Go.RowKit Go.Proofs.Yy.Z Go.Proofs.Yw.PrintWords Go.Proofs.Yw.PrintLast Go.Proofs.Yw.PrintMore
open Go.Proofs.Yy.M
attribute [local go_sem] dw dQ lD lF lC lG
attribute [local go_sem] gy gz ja jc fC fD gQ gK
mutual
def ah.j1:Nat→Int→Bool→Bool→ByteArray→Int→Option (Bool × Bool × ByteArray × Int)
  | 0,_,_,_,_,_=>none
  | k+1,x3,uF,uG,kz,sN=>if x3=(kz.size:Int) then (some (false,false,(⟨#[48]⟩:ByteArray),0)) else (if 0≤x3 then (if x3≤(kz.size:Int) then (ah.l1 k uF uG (kz.extract (x3:Int).toNat kz.size) sN) else (none)) else (none))
def ah.l1:Nat→Bool→Bool→ByteArray→Int→Option (Bool × Bool × ByteArray × Int)
  | 0,_,_,_,_=>none
  | k+1,uF,uG,kz,sN=>if 0≤(wrap64 ((kz.size:Int) - 1)) then (if (wrap64 ((kz.size:Int) - 1))<(kz.size:Int) then (if (bt kz (wrap64 ((kz.size:Int) - 1)))=48 then (if sN<1000000 then (if (wrap64 ((kz.size:Int) - 1))≤(kz.size:Int) then (ah.l1 k uF uG (kz.extract 0 ((wrap64 ((kz.size:Int) - 1)):Int).toNat) (wrap64 (sN+1))) else (none)) else (some (uF,uG,kz,sN))) else (some (uF,uG,kz,sN))) else (none)) else (none)
def ah.l0:Nat→Int→Bool→Bool→ByteArray→Int→Option (Bool × Bool × ByteArray × Int)
  | 0,_,_,_,_,_=>none
  | k+1,x3,uF,uG,kz,sN=>if x3<(kz.size:Int) then (if 0≤x3 then (if (bt kz x3)=48 then (ah.l0 k (wrap64 (x3+1)) uF uG kz sN) else (ah.j1 k x3 uF uG kz sN)) else (none)) else (ah.j1 k x3 uF uG kz sN)
end
def ah.f (k:Nat) (dW:Bool) (dK:Bool) (gI:ByteArray) (gW:Int):Option (Bool × Bool × ByteArray × Int):=if dW=true then (some (dW,dK,gI,gW)) else (ah.l0 k 0 dW dK gI gW)
theorem ah.calls (k:Nat) (dW:Bool) (dK:Bool) (gI:ByteArray) (gW:Int) (r1:Bool) (r2:Bool) (r3:ByteArray) (r4:Int) (w:World) (h:ah.f k dW dK gI gW=some (r1,r2,r3,r4)) :
    Calls Tryz.prog 72 #[.agg #[.bool dW, .bool dK, .string gI, .int .i64 gW]] w fun e w'=>e = .returned (.agg #[.bool r1, .bool r2, .string r3, .int .i64 r4])∧Below w.heap.size w w':=by
 have Ql:=Tryz.underlying23
 have HB:=am (Below.refl w.heap.size w)
 have H:=am h
 unfold ah.f at H
 clear h
 cases dW
 ·replace H:=zb0 H
  go_enter Tryz.func72,Tryz.ntmps72
  go_upto_block 0 with (first|((with_reducible refine ay (N:=1) rfl ?_);refine zx 1 23 #[.bool false, .bool dK, .string gI, .int .i64 gW] ?_;intro Yh hg w9 hbox hb;have o7:=am (hbox);have alg:=zG hg HB;have alh:=zG hg HB;replace HB:=zBs HB hb;clear hb hbox hg)|((with_reducible refine ay (N:=2) rfl ?_);refine zx 2 23 #[.bool false, .bool false, .string (⟨#[]⟩:ByteArray), .int .i64 0] ?_;intro LK hg w10 hbox hb;have vX:=am (hbox);have ali:=zG hg HB;have alj:=zG hg HB;replace HB:=zBs HB hb;have mG:=zNl hg o7;have mJ:=zNg hg o7;replace o7:=zKb o7 hb;clear hb hbox hg;have alk:=mG.out;have alm:=mJ.out;obtain ⟨_,_,_,_,_,_,_,_⟩:=zf4 o7))
  (try simp only [Act.put,List.setIfInBounds_toArray,List.set_cons_zero,List.set_cons_succ])
  go_cut [3] (fun v3 wc => ∃ (kq:Nat) (ajO:Int),v3 = .int .i64 ajO∧ae (ah.j1 kq ajO false dK gI gW=some (r1,r2,r3,r4))∧ae (kq≤k)∧ae (wc.heap[Yh]? = some (.cells #[.bool false, .bool dK, .string gI, .int .i64 gW] 23 (0,0)))∧ae (wc.heap[LK]? = some (.cells #[.bool false, .bool false, .string (⟨#[]⟩:ByteArray), .int .i64 0] 23 (0,0)))∧ae (Below w.heap.size w wc))
  case first =>
   go_wp2
   go_loopg [3] k (fun kq v3 w' => ∃ (gY:Int),v3 = .int .i64 gY∧ae (ah.l0 kq gY false dK gI gW=some (r1,r2,r3,r4))∧ae (kq≤k)∧ae (w'.heap[Yh]? = some (.cells #[.bool false, .bool dK, .string gI, .int .i64 gW] 23 (0,0)))∧ae (w'.heap[LK]? = some (.cells #[.bool false, .bool false, .string (⟨#[]⟩:ByteArray), .int .i64 0] 23 (0,0)))∧ae (Below w.heap.size w w'))
   case atStart=>exact ⟨(0),z1,H,zL,⟨zK o7⟩,⟨zK vX⟩,⟨zB HB⟩⟩
   clear H
   obtain ⟨gY,rfl,H,HK1,o7,vX,HB⟩:=hrel
   obtain _|k1:=gk
   ·exact zz H rfl
   simp only [ah.l0] at H
   replace H:=zsd H
   rcases H with ⟨qJ,H⟩|⟨qJ,H⟩
   (first|rw [qJ]|(simp only [bI,dV];rw [qJ])|rw [Jw]|skip)
   replace H:=zid H
   obtain ⟨uH,H⟩:=H
   replace H:=zsk H
   rcases H with ⟨Dj,Qn,H⟩|⟨Dj,Qn,c16,H⟩
   have aln:=mG.out
   have alo:=mJ.out
   obtain ⟨_,_,_,_,_,_,_,_⟩:=zf4 o7
   have p15:0≤(gY:Int):=zD
   have q15:gY<(gI.size:Int):=zD
   have alp:=uC gI gY
   replace p15:=eq_true p15
   replace q15:=eq_true q15
   rotate_left
   have alq:=mG.out
   have alr:=mJ.out
   obtain ⟨_,_,_,_,_,_,_,_⟩:=zf4 o7
   have p15:0≤(gY:Int):=zD
   have q15:gY<(gI.size:Int):=zD
   have alp:=uC gI gY
   replace p15:=eq_true p15
   replace q15:=eq_true q15
   rotate_left
   (first|rw [qJ]|(simp only [bI,dV];rw [qJ])|rw [Jw]|skip)
   have als:=mG.out
   have alu:=mJ.out
   obtain ⟨_,_,_,_,_,_,_,_⟩:=zf4 o7
   rotate_left
   all_goals (go_wp2)
   ·go_roundg k1
    case measure=>have:=HK1.out;omega
    case rel=>exact ⟨(wrap64 (gY+1)),z1,H,(zH HK1),⟨zK o7⟩,⟨zK vX⟩,⟨zB HB⟩⟩
   ·go_meet
    case rel=>exact ⟨_,(gY),z1,H,⟨by have:=HK1.out;first|omega|exact Nat.le_refl _⟩,⟨zK o7⟩,⟨zK vX⟩,⟨zB HB⟩⟩
   go_meet
   case rel=>exact ⟨_,(gY),z1,H,⟨by have:=HK1.out;first|omega|exact Nat.le_refl _⟩,⟨zK o7⟩,⟨zK vX⟩,⟨zB HB⟩⟩
  case rest =>
   try clear hx1
   try clear alp
   obtain ⟨kq,ajO,rfl,H,HJ7,o7,vX,HB⟩:=hcut
   obtain _|kj7:=kq
   ·exact zz H rfl
   simp only [ah.j1] at H
   replace H:=zsk H
   rcases H with ⟨Eu,UG,H⟩|⟨Eu,UG,c23,H⟩
   obtain ⟨rfl,rfl,rfl,rfl⟩:=zJ4 H
   have afA:=mG.out
   have afB:=mJ.out
   obtain ⟨_,_,_,_,_,_,_,_⟩:=zf4 o7
   obtain ⟨_,_,_,_,_,_,_,_⟩:=zf4 vX
   rotate_left
   replace H:=zit H
   obtain ⟨Ew,UH,H⟩:=H
   replace H:=zit H
   obtain ⟨xq,Yi,H⟩:=H
   have afC:=mG.out
   have afD:=mJ.out
   obtain ⟨_,_,_,_,_,_,_,_⟩:=zf4 o7
   rotate_left
   all_goals (go_wp2)
   ·refine bodyPost_ret (results_cell_row rfl _ _ LK 23 #[.bool false, .bool false, .string (⟨#[48]⟩:ByteArray), .int .i64 0] (0,0) _ rfl (zKp vX) Tryz.underlying23 rfl (by kernel_rfl)) rfl ?_
    exact ⟨z2,zB HB⟩
   go_loopg [] kj7 (fun kq w' => ∃ (lu:ByteArray) (vY:Int),ae (ah.l1 kq false dK lu vY=some (r1,r2,r3,r4))∧ae (kq≤kj7)∧ae (w'.heap[Yh]? = some (.cells #[.bool false, .bool dK, .string lu, .int .i64 vY] 23 (0,0)))∧ae (w'.heap[LK]? = some (.cells #[.bool false, .bool false, .string (⟨#[]⟩:ByteArray), .int .i64 0] 23 (0,0)))∧ae (Below w.heap.size w w'))
   case atStart=>exact ⟨(gI.extract (ajO:Int).toNat gI.size),(gW),H,zL,⟨zKp o7⟩,⟨zK vX⟩,⟨zB HB⟩⟩
   clear H
   try clear hx1
   try clear alp
   obtain ⟨lu,vY,H,HK2,o7,vX,HB⟩:=hrel
   obtain _|k2:=gk
   ·exact zz H rfl
   simp only [ah.l1] at H
   generalize UI:(wrap64 ((lu.size:Int) - 1):Int)=GV at H
   have ass:(IntKind.i64.wrap ((lu.size:Int) - 1))=GV:=(bI _).trans UI
   replace H:=zid H
   obtain ⟨alv,H⟩:=H
   replace H:=zid H
   obtain ⟨alx,H⟩:=H
   replace H:=zsk H
   rcases H with ⟨GX,Yj,H⟩|⟨GX,Yj,c35,H⟩
   replace H:=zsd H
   rcases H with ⟨UJ,H⟩|⟨UJ,H⟩
   have Jy:=eq_true (zD:0≤(GV))
   replace H:=zit H
   obtain ⟨aly,aw0,H⟩:=H
   have afE:=mG.out
   have afF:=mJ.out
   obtain ⟨_,_,_,_,_,_,_,_⟩:=zf4 o7
   have p34:0≤((GV):Int):=zD
   have q34:(GV)<(lu.size:Int):=zD
   have hx34:=uC lu (GV)
   replace p34:=eq_true p34
   replace q34:=eq_true q34
   rotate_left
   obtain ⟨rfl,rfl,rfl,rfl⟩:=zJ4 H
   have aw1:=mG.out
   have aw2:=mJ.out
   obtain ⟨_,_,_,_,_,_,_,_⟩:=zf4 o7
   have p34:0≤((GV):Int):=zD
   have q34:(GV)<(lu.size:Int):=zD
   have hx34:=uC lu (GV)
   replace p34:=eq_true p34
   replace q34:=eq_true q34
   obtain ⟨_,_,_,_,_,_,_,_⟩:=zf4 vX
   rotate_left
   obtain ⟨rfl,rfl,rfl,rfl⟩:=zJ4 H
   have alz:=mG.out
   have alA:=mJ.out
   obtain ⟨_,_,_,_,_,_,_,_⟩:=zf4 o7
   have p34:0≤((GV):Int):=zD
   have q34:(GV)<(lu.size:Int):=zD
   have hx34:=uC lu (GV)
   replace p34:=eq_true p34
   replace q34:=eq_true q34
   obtain ⟨_,_,_,_,_,_,_,_⟩:=zf4 vX
   rotate_left
   all_goals (go_wp2)
   ·go_roundg k2
    case measure=>have:=HJ7.out;have:=HK2.out;omega
    case rel=>exact ⟨(lu.extract 0 ((GV):Int).toNat),(wrap64 (vY+1)),H,⟨by have:=HJ7.out;have:=HK2.out;omega⟩,⟨zKp o7⟩,⟨zK vX⟩,⟨zB HB⟩⟩
   rotate_left
   rotate_left
   all_goals
    refine bodyPost_ret (results_cell_row rfl _ _ LK 23 #[.bool false, .bool dK, .string lu, .int .i64 vY] (0,0) _ rfl (zKp vX) Tryz.underlying23 rfl (by kernel_rfl)) rfl ?_
    exact ⟨by first|exact z3|(simp only [← UI];exact z3)|exact z2,zB HB⟩
 replace H:=zb1 H
 obtain ⟨rfl,rfl,rfl,rfl⟩:=zJ4 H
 go_enter Tryz.func72,Tryz.ntmps72
 go_wp2_with (first|((with_reducible refine ay (N:=1) rfl ?_);refine zx 1 23 #[.bool true, .bool dK, .string gI, .int .i64 gW] ?_;intro Yh hg w3 hbox hb;have o7:=am (hbox);have alg:=zG hg HB;have alh:=zG hg HB;replace HB:=zBs HB hb;clear hb hbox hg)|((with_reducible refine ay (N:=2) rfl ?_);refine zx 2 23 #[.bool false, .bool false, .string (⟨#[]⟩:ByteArray), .int .i64 0] ?_;intro LK hg w4 hbox hb;have vX:=am (hbox);have ali:=zG hg HB;have alj:=zG hg HB;replace HB:=zBs HB hb;have mG:=zNl hg o7;have mJ:=zNg hg o7;replace o7:=zKb o7 hb;clear hb hbox hg;have aFx:=mG.out;have aFy:=mJ.out;obtain ⟨_,_,_,_,_,_,_,_⟩:=zf4 o7;obtain ⟨_,_,_,_,_,_,_,_⟩:=zf4 vX))
 refine bodyPost_ret (results_cell_row rfl _ _ LK 23 #[.bool true, .bool dK, .string gI, .int .i64 gW] (0,0) _ rfl (zKp vX) Tryz.underlying23 rfl (by kernel_rfl)) rfl ?_
 exact ⟨z2,zB HB⟩
end Go.Proofs.Yy.PTx
end
