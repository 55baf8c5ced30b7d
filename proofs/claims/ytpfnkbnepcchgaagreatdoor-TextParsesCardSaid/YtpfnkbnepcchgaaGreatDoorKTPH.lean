/- Part 8. -/
import Derived.Lib.AtoiErrMem
import Derived.Shelf.Strings.SlTrimAscii
import Derived.Lib.Hide
import Derived.Test.YtpfnkbnepcchgaaGreatDoorKTPG
set_option linter.unusedSimpArgs false
set_option linter.unusedVariables false
section
set_option maxHeartbeats 8000000
set_option maxRecDepth 100000
namespace Go.Proofs.Yy.PTx
open Go.RowKit Go.Proofs.Yy.Z Go.Proofs.Yw.PrintWords Go.Proofs.Yw.PrintLast Go.Proofs.Yw.PrintMore
open Go.Proofs.Yy.M
attribute [local go_sem] dG dP kR kT kW kS
attribute [local go_sem] gI gG iP iR fF fG gW gV
theorem agm (d:Nat)(w:World)(x0 y0:Int)(x1 y1:Bool)(x2 y2:Int)(x3 y3:Int)(x4 y4:Int)(x5 y5:Bool) :
  (Op.equalIn (d+2) 81 (.agg #[.int .i64 x0,.bool x1,.int .i64 x2,.int .u64 x3,.int .u64 x4,.bool x5]) (.agg #[.int .i64 y0,.bool y1,.int .i64 y2,.int .u64 y3,.int .u64 y4,.bool y5])).run Tryz.prog w=.ok (x0 == y0 && (x1 == y1 && (x2 == y2 && (x3 == y3 && (x4 == y4 && (x5 == y5)))))) w:=by
 refine Rq Tryz.underlying81 (by kernel_rfl) ?_;refine qY (by rfl) (by go_simp;rfl) (by go_simp;rfl) (by go_simp) ?_;refine qY (by rfl) (by go_simp;rfl) (by go_simp;rfl) (by go_simp) ?_;refine qY (by rfl) (by go_simp;rfl) (by go_simp;rfl) (by go_simp) ?_;refine qY (by rfl) (by go_simp;rfl) (by go_simp;rfl) (by go_simp) ?_;refine qY (by rfl) (by go_simp;rfl) (by go_simp;rfl) (by go_simp) ?_;exact Gq (by rfl) (by go_simp;rfl) (by go_simp;rfl) (by go_simp)
theorem Zw (d:Nat)(w:World)(x0 y0:Int)(x1 y1:Int) :
  (Op.equalIn (d+2) 211 (.agg #[.int .u64 x0,.int .u64 x1]) (.agg #[.int .u64 y0,.int .u64 y1])).run Tryz.prog w=.ok (x0 == y0 && (x1 == y1)) w:=by
 refine Rq Tryz.underlying211 (by kernel_rfl) ?_;refine qY (by rfl) (by go_simp;rfl) (by go_simp;rfl) (by go_simp) ?_;exact Gq (by rfl) (by go_simp;rfl) (by go_simp;rfl) (by go_simp)
end Go.Proofs.Yy.PTx
end
section
namespace Go.Proofs.Yy.PTx
open Go.RowKit Go.Proofs.Yw.PrintWords Go.Proofs.Yw.PrintLast Go.Proofs.Yw.PrintMore Go.Shelf Go.Sort Go.Lib
def ayw (u:Int):ByteArray:=⟨(Lib.decDigits u.toNat).toArray⟩
def jE.f (a0 a1:Int):Option ByteArray:=if 0≤a0∧a0<18446744073709551616∧a1=10 then some (ayw a0) else none
set_option maxHeartbeats 400000 in
theorem jE.calls (a0 a1:Int)(r:ByteArray)(w:World)(h:jE.f a0 a1=some r)(htab:Fx.Laid w:=by exact Fx.Laid.below HTAB.out (by repeat (first|(with_reducible first|exact HB.out|apply bD|apply aK|apply aX)|exact HB.out))) :
  Calls Tryz.prog 106 #[.int .u64 a0,.int .i64 a1] w fun e w'=>e=.returned (.string r)∧Below w.heap.size w w':=by
 unfold jE.f at h
 by_cases hg:0≤a0∧a0<18446744073709551616∧a1=10
 case neg=>rw[if_neg hg]at h;exact absurd h (by simp)
 rw[if_pos hg]at h;obtain rfl:=Option.some.inj h;obtain⟨h0,h1,rfl⟩:=hg;obtain⟨u,rfl⟩:=Int.eq_ofNat_of_zero_le h0
 have hu:u<18446744073709551616:=by omega
 have HU:=Lib.hid hu;have HT:=Lib.hid htab;clear h h0 h1 hu htab
 go_enter Tryz.func106,Tryz.ntmps106
 go_wp2_with (go_at_call 165;refine (Fmt.Bl u HU.out _ HT.out.1).mono ?_;rintro e w' ⟨rfl,k,os,rfl⟩)
 go_ret
 exact⟨rfl,Fmt.below_grow _ _ _⟩
def lZ (x:Nat):Bool:=decide (x<48) || decide (57<x)
theorem Rx (W:World)(x:Nat):Calls Tryz.prog 148 #[.int .i32 (x:Int)] W fun e w'=>e=.returned (.bool (lZ x))∧∃ q,w'=W.drewN q:=by
 by_cases h1:x<48
 ·have hb:decide ((x:Int)<48)=true:=decide_eq_true (by omega)
  have hn:lZ x=true:=by simp[lZ,h1]
  have HN:=am hn;clear hn
  go_enter Tryz.func148,Tryz.ntmps148
  go_wp2
  go_ret
  exact⟨by rw[HN.out];rfl,0,(World.drewN_zero _).symm⟩
 ·have hb:decide ((x:Int)<48)=false:=decide_eq_false (by omega)
  by_cases h2:57<x
  ·have hb2:decide ((57:Int)<(x:Int))=true:=decide_eq_true (by omega)
   have hn:lZ x=true:=by simp[lZ,h2]
   have HN:=am hn;clear hn
   go_enter Tryz.func148,Tryz.ntmps148
   go_wp2
   go_ret
   exact⟨by rw[HN.out];rfl,0,(World.drewN_zero _).symm⟩
  ·have hb2:decide ((57:Int)<(x:Int))=false:=decide_eq_false (by omega)
   have hn:lZ x=false:=by simp[lZ,h1,h2]
   have HN:=am hn;clear hn
   go_enter Tryz.func148,Tryz.ntmps148
   go_wp2
   go_ret
   exact⟨by rw[HN.out];rfl,0,(World.drewN_zero _).symm⟩
theorem Le (args:Array Value)(w:World):(callFunc 148 args).run Tryz.prog w=.ok (.enter 148 args) w:=enters_of Tryz.func148 (by kernel_rfl) rfl args w
def strings_IndexFunc.f (s:ByteArray):Option Int:=some (Lib.idxFunc lZ true s)
theorem strings_IndexFunc.calls (a0:ByteArray)(r:Int)(w:World)(h:strings_IndexFunc.f a0=some r) :
  Calls Tryz.prog 147 #[.string a0,.func (.func 148) #[] #[]] w fun e w'=>e=.returned (.int .i64 r)∧Below w.heap.size w w':=by
 unfold strings_IndexFunc.f at h;obtain rfl:=Option.some.inj h;exact Tryz.strings_IndexFunc 148 #[] Le lZ a0 w (fun W x hb=>Rx W x)
def iy.f (s:ByteArray)(base bits:Int):Option (Int × Option Int):=if base=10∧bits=64∧s.size≤9223372036854775806 then (match Lib.parseUintB 64 s.data.toList with | .ok u=>some ((u:Int),none)|_=>none) else none
theorem iy.calls (a0:ByteArray)(a1 a2:Int)(r1:Int)(r2:Option Int)(w:World)(h:iy.f a0 a1 a2=some (r1,r2)) :
  Calls Tryz.prog 149 #[.string a0,.int .i64 a1,.int .i64 a2] w fun e w'=>e=.returned (.tuple #[.int .u64 r1,rF r2])∧Below w.heap.size w w':=by
 unfold iy.f at h
 by_cases hg:a1=10∧a2=64∧a0.size≤9223372036854775806
 case neg=>rw[if_neg hg]at h;exact absurd h (by simp)
 rw[if_pos hg]at h;obtain⟨rfl,rfl,hs⟩:=hg
 obtain⟨u,hp⟩:∃ u,Lib.parseUintB 64 a0.data.toList=.ok u:=by
  cases hp:Lib.parseUintB 64 a0.data.toList <;> rw[hp]at h <;> first|exact⟨_,rfl⟩|cases h
 rw[hp]at h;obtain⟨rfl,rfl⟩:=Prod.mk.inj (Option.some.inj h);refine (Tryz.strconv_ParseUint_10_at64_ok a0 hs u hp w).mono ?_;rintro e w' ⟨he,hw⟩;refine⟨he,?_⟩;rcases hw with rfl|rfl
 ·exact Below.refl _ _
 ·exact Lib.bytesWorld_below _ _ _
end Go.Proofs.Yy.PTx
end
section
namespace Go.Proofs.Yy.PTx
open Go.RowKit Go.Proofs.Yw.PrintWords Go.Proofs.Yw.PrintLast Go.Proofs.Yw.PrintMore Go.Shelf Go.Lib
def mV.f (n:Int):Option ByteArray:=if -9223372036854775808≤n∧n≤9223372036854775807 then some ⟨(Lib.itoa n).toArray⟩ else none
theorem mV.calls (a0:Int)(r:ByteArray)(w:World)(h:mV.f a0=some r)(htab:Fx.Laid w:=by exact Fx.Laid.below HTAB.out (by repeat (first|(with_reducible first|exact HB.out|apply bD|apply aK|apply aX|refine bQ ?_ (ae.out (by assumption)))|exact HB.out))) :
  Calls Tryz.prog 70 #[.int .i64 a0] w fun e w'=>e=.returned (.string r)∧Below w.heap.size w w':=by
 unfold mV.f at h
 by_cases hc : -9223372036854775808≤a0∧a0≤9223372036854775807
 case neg=>rw[if_neg hc]at h;exact absurd h (by simp)
 rw[if_pos hc]at h;obtain rfl:=Option.some.inj h;refine (Tryz.strconv_Itoa a0 hc.1 hc.2 w htab.1).mono ?_;rintro e w' ⟨he,k,os,rfl⟩;exact⟨he,Fx.below_grow _ _ _⟩
def bits_Len64.f (k:Nat)(x:Int):Option Int:=if 0≤x∧x≤18446744073709551615 then some (Lib.bitLen x.toNat:Int) else none
theorem bits_Len64.calls (k:Nat)(a0:Int)(r:Int)(w:World)(h:bits_Len64.f k a0=some r) :
  Calls Tryz.prog 152 #[.int .u64 a0] w fun e w'=>e=.returned (.int .i64 r)∧dR w w':=by
 unfold bits_Len64.f at h
 by_cases hg:0≤a0∧a0≤18446744073709551615
 case neg=>rw[if_neg hg]at h;exact absurd h (by simp)
 rw[if_pos hg]at h;obtain rfl:=Option.some.inj h
 exact (Tryz.bits_Len64 a0 w hg.1 hg.2).mono fun _ _ ⟨he,hw⟩=>⟨he,by rw[hw];exact dR.refl _⟩
def jM.f (s c:ByteArray):Option ByteArray:=if c.data.toList=[48] then some ⟨(Lib.trimLeftB s.data.toList 48).toArray⟩ else none
theorem bytes_eq {c:ByteArray}{l:List UInt8}(h:c.data.toList=l):c=⟨l.toArray⟩:=by
 cases c with
 | mk d=>cases d with
  | mk q=>simp only at h;rw[h]
theorem jM.calls (a0 a1 r:ByteArray)(w:World)(h:jM.f a0 a1=some r) :
  Calls Tryz.prog 118 #[.string a0,.string a1] w fun e w'=>e=.returned (.string r)∧Below w.heap.size w w':=by
 unfold jM.f at h
 by_cases hc:a1.data.toList=[48]
 case neg=>rw[if_neg hc]at h;exact absurd h (by simp)
 rw[if_pos hc]at h;obtain rfl:=Option.some.inj h;rw[bytes_eq hc];refine (Tryz.strings_TrimLeft_one a0 48 (by decide) w).mono ?_;rintro e w' ⟨he,rfl⟩;exact⟨he,Below.refl _ _⟩
def jo.f (s c:ByteArray):Option ByteArray:=if c.data.toList=[48]∧s.size≤9223372036854775807 then some ⟨(Lib.trimRightB s.data.toList 48).toArray⟩ else none
theorem jo.calls (a0 a1 r:ByteArray)(w:World)(h:jo.f a0 a1=some r) :
  Calls Tryz.prog 119 #[.string a0,.string a1] w fun e w'=>e=.returned (.string r)∧Below w.heap.size w w':=by
 unfold jo.f at h
 by_cases hc:a1.data.toList=[48]∧a0.size≤9223372036854775807
 case neg=>rw[if_neg hc]at h;exact absurd h (by simp)
 rw[if_pos hc]at h;obtain rfl:=Option.some.inj h;rw[bytes_eq hc.1];refine (Tryz.strings_TrimRight_one a0 48 (by decide) w hc.2).mono ?_;rintro e w' ⟨he,rfl⟩;exact⟨he,Below.refl _ _⟩
def qI:List UInt8 := [48,49,50,51,52,53,54,55,56,57]
def mY.f (s c:ByteArray):Option ByteArray:=if c.data.toList=qI∧s.size≤9223372036854775807 then some ⟨(Lib.trimS s.data.toList qI).toArray⟩ else none
theorem mY.calls (a0 a1 r:ByteArray)(w:World)(h:mY.f a0 a1=some r) :
  Calls Tryz.prog 120 #[.string a0,.string a1] w fun e w'=>e=.returned (.string r)∧Below w.heap.size w w':=by
 unfold mY.f at h
 by_cases hc:a1.data.toList=qI∧a0.size≤9223372036854775807
 case neg=>rw[if_neg hc]at h;exact absurd h (by simp)
 rw[if_pos hc]at h;obtain rfl:=Option.some.inj h;rw[← hc.1]
 have hz:a1.size=10:=by
  rw[bytes_eq hc.1];rfl
 exact Any.strings_Trim_laid Tryz.lays160 (by kernel_rfl) a0 a1 w hc.2 (by omega) (by rw[hc.1];exact ascii_of_all (by decide))
end Go.Proofs.Yy.PTx
end
section
set_option maxHeartbeats 8000000
set_option maxRecDepth 100000
namespace Go.Proofs.Yy.PTx
open Go.RowKit Go.Proofs.Yy.Z Go.Proofs.Yw.PrintWords Go.Proofs.Yw.PrintLast Go.Proofs.Yw.PrintMore
open Go.Proofs.Yy.M
attribute [local go_sem] dG dP kR kT kW kS
attribute [local go_sem] gI gG iP iR fF fG gW gV
def iL.f (gy:Bool)(fU:Bool)(jC:ByteArray)(jB:Int):Option (Bool × Bool × ByteArray × Int):=if gy=true then (some (gy,fU,jC,jB)) else ((jM.f jC (⟨#[48]⟩:ByteArray)).bind fun Bh=>(if Bh.toList=([]:List UInt8) then (some (false,false,(⟨#[48]⟩:ByteArray),0)) else ((jo.f Bh (⟨#[48]⟩:ByteArray)).bind fun Yl=>(if 0≤(wrap64 ((Bh.size:Int)-(mn (wrap64 ((Bh.size:Int)-(Yl.size:Int))) (wrap64 (1000000-jB))))) then (if (wrap64 ((Bh.size:Int)-(mn (wrap64 ((Bh.size:Int)-(Yl.size:Int))) (wrap64 (1000000-jB)))))≤(Bh.size:Int) then (some (gy,fU,Bh.extract 0 ((wrap64 ((Bh.size:Int)-(mn (wrap64 ((Bh.size:Int)-(Yl.size:Int))) (wrap64 (1000000-jB))))):Int).toNat,wrap64 (jB+(mn (wrap64 ((Bh.size:Int)-(Yl.size:Int))) (wrap64 (1000000-jB)))))) else (none)) else (none)))))
def iL.T6:Bool × List (List Nat × List Nat):=(true,[([],[]),([0],[0]),([1],[1]),([],[]),([3],[3]),([4],[4]),([5],[5]),([2,6],[2,6]),([7,5,0,1,2,3,4,5,6,7],[7])])
def iL.B6:List Nat := [0,1,3,0,8,24,56,127,255]
theorem iL.tab6:rG .any (opsOf Tryz.f64 6)=iL.T6:=by kernel_rfl
theorem iL.abd:jb iL.T6.2 iL.B6=true:=by kernel_rfl
theorem iL.calls (gy:Bool)(fU:Bool)(jC:ByteArray)(jB:Int)(r1:Bool)(r2:Bool)(r3:ByteArray)(r4:Int)(w:World)(h:iL.f gy fU jC jB=some (r1,r2,r3,r4)) :
    Calls Tryz.prog 64 #[.agg #[.bool gy,.bool fU,.string jC,.int .i64 jB]] w fun e w'=>e=.returned (.agg #[.bool r1,.bool r2,.string r3,.int .i64 r4])∧Below w.heap.size w w':=by
 have PS:=Tryz.underlying23;have HB:=am (Below.refl w.heap.size w);have H:=am h;unfold iL.f at H;clear h
 cases gy
 replace H:=zb0 H;replace H:=zo H;obtain⟨Bh,A8,H⟩:=H;replace H:=zsk H;rcases H with⟨wu,Ez,H⟩|⟨wu,Ez,c9,H⟩;obtain⟨rfl,rfl,rfl,rfl⟩:=zJ4 H;rotate_left
 ·replace H:=zo H
  obtain⟨Yl,A17,H⟩:=H;generalize uz:(mn (wrap64 ((Bh.size:Int)-(Yl.size:Int))) (wrap64 (1000000-jB)):Int)=EC at H
  (try rw[uz]at A8)
  (try rw[uz]at A17)
  have OB:(if (wrap64 (1000000-jB))<(wrap64 ((Bh.size:Int)-(Yl.size:Int))) then (wrap64 (1000000-jB)) else (wrap64 ((Bh.size:Int)-(Yl.size:Int))))=EC:=uz;generalize zf:(wrap64 ((Bh.size:Int)-(EC)):Int)=Kv at H
  (try rw[zf]at A8)
  (try rw[zf]at A17)
  have agN:(IntKind.i64.wrap ((Bh.size:Int)-(EC)))=Kv:=(cu _).trans zf;replace H:=zit H;obtain⟨Un,agO,H⟩:=H;replace H:=zit H;obtain⟨Am,Ym,H⟩:=H;obtain⟨rfl,rfl,rfl,rfl⟩:=zJ4 H
  go_enter Tryz.func64,Tryz.ntmps64
  try go_wp2_with (first|((with_reducible refine aI (N:=1) rfl ?_);refine zx 1 23 #[.bool false,.bool fU,.string jC,.int .i64 jB] ?_;intro Dy hg w22 hbox hb;have ng:=am (hbox);have agP:=zG hg HB;have agQ:=zG hg HB;replace HB:=zBs HB hb;clear hb hbox hg)|((with_reducible refine aI (N:=2) rfl ?_);refine zx 2 23 #[.bool false,.bool false,.string (⟨#[]⟩:ByteArray),.int .i64 0] ?_;intro Uo hg w23 hbox hb;have uP:=am (hbox);have amH:=zG hg HB;have amI:=zG hg HB;replace HB:=zBs HB hb;have Dz:=zNl hg ng;have DC:=zNg hg ng;replace ng:=zKb ng hb;clear hb hbox hg;have agR:=Dz.out;have agS:=DC.out;obtain⟨_,_,_,_,_,_,_,_⟩:=zf4 ng)|((with_reducible refine af (f:=118) rfl ?_);refine zc (some 9) Tryz.func118 _ (jM.calls _ _ _ _ A8.out) ?_;rintro e w26 ⟨rfl,hb⟩;refine⟨_,rfl,?_⟩;replace ng:=zKb ng hb;replace uP:=zKb uP hb;replace HB:=zBs HB hb;clear hb;obtain⟨_,_,_,_,_,_,_,_⟩:=zf4 ng))
  have n0_:ae ((w26.setCell ⟨Dy,2,none⟩ (.string Bh)).heap[Dy]? = some (.cells #[.bool false,.bool fU,.string Bh,.int .i64 jB] 23 (0,0))):=⟨zKp ng⟩
  have n1_:ae ((w26.setCell ⟨Dy,2,none⟩ (.string Bh)).heap[Uo]? = some (.cells #[.bool false,.bool false,.string (⟨#[]⟩:ByteArray),.int .i64 0] 23 (0,0))):=⟨zK uP⟩
  have n2_:ae (Below w.heap.size w (w26.setCell ⟨Dy,2,none⟩ (.string Bh))):=⟨zB HB⟩
  (try clear ng)
  (try clear uP)
  (try clear HB)
  generalize (w26.setCell ⟨Dy,2,none⟩ (.string Bh))=w28 at n0_ n1_ n2_ ⊢;have ng:=n0_;have uP:=n1_;have HB:=n2_;clear n0_ n1_ n2_;replace ng:=am (dX ng.out);replace uP:=am (dX uP.out);replace HB:=am (aX HB.out);refine lQ (n:=9) (S:=fun w'=>w'.cell? ⟨Dy,0,none⟩=some (.bool false)∧w'.cell? ⟨Dy,1,none⟩=some (.bool fU)∧w'.cell? ⟨Dy,2,none⟩=some (.string Bh)∧w'.cell? ⟨Dy,3,none⟩=some (.int .i64 jB)) (ds := []) (Array.replicate 9 false) (by kernel_rfl) rfl rfl ⟨(ag ng.out 0).trans rfl,(ag ng.out 1).trans rfl,(ag ng.out 2).trans rfl,(ag ng.out 3).trans rfl⟩ (fun hHeld=>?_);refine gU iL.tab6 iL.abd (fun HT_ HW_=>?_);generalize w28.drew=w29 at ng uP HB hHeld ⊢;refine zp HT_ 0 (some 15) ?_;refine zp HT_ 3 (some 18) ?_;refine zt HT_ HW_ 1 (some 16) hHeld ?_;refine zp HT_ 2 (some 17) ?_;refine zt HT_ HW_ 4 (some 19) hHeld ?_;refine zu HT_ 5 (some 20) (fun K hK=>?_);refine o5 Tryz.func119 (by kernel_rfl) rfl #[.string Bh,.string (⟨#[48]⟩:ByteArray)] (by rfl) rfl rfl (by (try simp only[List.map_toArray,List.map_cons,List.map_nil]);first|done|rfl|(simp only[List.length_drop,List.length_take];rfl)) ?_
  with_reducible refine (jo.calls Bh (⟨#[48]⟩:ByteArray) Yl _ A17.out).mono ?_
  rintro e w30 ⟨rfl,hb⟩;refine⟨_,rfl,?_⟩;replace ng:=zKb ng hb;replace uP:=zKb uP hb;replace HB:=zBs HB hb
  (try clear hb)
  (try clear hb2)
  (try clear hk)
  (try clear hi)
  refine hK.out _ _ ⟨(ag ng.out 0).trans rfl,(ag ng.out 1).trans rfl,(ag ng.out 2).trans rfl,(ag ng.out 3).trans rfl⟩ (fun hHeld=>?_);clear hK K;refine lI (a':=?_) ?_ ?_;rotate_left
  ·show Act.put _ (some 20) _=_
   simp only[Act.put,List.setIfInBounds_toArray,List.set_cons_zero,List.set_cons_succ,cu,fQ]
   rfl
  refine zp HT_ 6 (some 21) ?_;refine zp HT_ 7 (some 22) ?_;refine zp HT_ 8 (some 3) ?_;refine oU (iZ HT_.out (by kernel_rfl)) ?_;obtain⟨_,_,_,_,_,_,_,_⟩:=zf4 ng;obtain⟨_,_,_,_,_,_,_,_⟩:=zf4 uP
  try go_wp2
  refine bodyPost_ret (results_cell_row rfl _ _ Uo 23 #[.bool false,.bool fU,.string (Bh.extract 0 ((Kv):Int).toNat),.int .i64 (wrap64 (jB+(EC)))] (0,0) _ rfl (zKp uP) Tryz.underlying23 rfl (by kernel_rfl)) rfl ?_;exact⟨by first|exact z3|(simp only[← uz, ← zf];exact z3)|exact z2,zB HB⟩
 replace H:=zb1 H;obtain⟨rfl,rfl,rfl,rfl⟩:=zJ4 H;rotate_left
 all_goals (go_enter Tryz.func64,Tryz.ntmps64;go_wp2_with (first|((with_reducible refine aI (N:=1) rfl ?_);refine zx 1 23 #[.bool false,.bool fU,.string jC,.int .i64 jB] ?_;intro Dy hg w10 hbox hb;have ng:=am (hbox);have agP:=zG hg HB;have agQ:=zG hg HB;replace HB:=zBs HB hb;clear hb hbox hg)|((with_reducible refine aI (N:=2) rfl ?_);refine zx 2 23 #[.bool false,.bool false,.string (⟨#[]⟩:ByteArray),.int .i64 0] ?_;intro Uo hg w11 hbox hb;have uP:=am (hbox);have amH:=zG hg HB;have amI:=zG hg HB;replace HB:=zBs HB hb;have Dz:=zNl hg ng;have DC:=zNg hg ng;replace ng:=zKb ng hb;clear hb hbox hg;have agT:=Dz.out;have agU:=DC.out;obtain⟨_,_,_,_,_,_,_,_⟩:=zf4 ng;obtain⟨_,_,_,_,_,_,_,_⟩:=zf4 uP)|((with_reducible refine af (f:=118) rfl ?_);refine zc (some 9) Tryz.func118 _ (jM.calls _ _ _ _ A8.out) ?_;rintro e w14 ⟨rfl,hb⟩;refine⟨_,rfl,?_⟩;replace ng:=zKb ng hb;replace uP:=zKb uP hb;replace HB:=zBs HB hb;clear hb;obtain⟨_,_,_,_,_,_,_,_⟩:=zf4 ng;obtain⟨_,_,_,_,_,_,_,_⟩:=zf4 uP)|((with_reducible refine aI (N:=1) rfl ?_);refine zx 1 23 #[.bool true,.bool fU,.string jC,.int .i64 jB] ?_;intro Dy hg w3 hbox hb;have ng:=am (hbox);have agP:=zG hg HB;have agQ:=zG hg HB;replace HB:=zBs HB hb;clear hb hbox hg)))
 ·refine bodyPost_ret (results_cell_row rfl _ _ Uo 23 #[.bool false,.bool false,.string (⟨#[48]⟩:ByteArray),.int .i64 0] (0,0) _ rfl (zKp uP) Tryz.underlying23 rfl (by kernel_rfl)) rfl ?_
  exact⟨z2,zB HB⟩
 refine bodyPost_ret (results_cell_row rfl _ _ Uo 23 #[.bool true,.bool fU,.string jC,.int .i64 jB] (0,0) _ rfl (zKp uP) Tryz.underlying23 rfl (by kernel_rfl)) rfl ?_;exact⟨z2,zB HB⟩
end Go.Proofs.Yy.PTx
end
section
set_option maxHeartbeats 8000000
set_option maxRecDepth 100000
namespace Go.Proofs.Yy.PTx
open Go.RowKit Go.Proofs.Yy.Z Go.Proofs.Yw.PrintWords Go.Proofs.Yw.PrintLast Go.Proofs.Yw.PrintMore
open Go.Proofs.Yy.M
attribute [local go_sem] dG dP kR kT kW kS
attribute [local go_sem] gI gG iP iR fF fG gW gV
attribute [local go_sem high] amf
def oC.f (gy:Bool)(fU:Bool)(jC:ByteArray)(jB:Int):Option (Bool):=if gy=true then (some (gy && (!fU && (jC.toList == ([]:List UInt8) && (jB == 0))))) else (if jC.toList=([]:List UInt8) then (some false) else (if (jC.size:Int) > 4096 then (some false) else (if jB<(-1000000) then (some false) else (if jB > 1000000 then (some false) else ((mY.f jC (⟨#[48,49,50,51,52,53,54,55,56,57]⟩:ByteArray)).bind fun aup=>(some (aup.toList == ([]:List UInt8))))))))
theorem oC.calls (gy:Bool)(fU:Bool)(jC:ByteArray)(jB:Int)(r:Bool)(w:World)(h:oC.f gy fU jC jB=some r) :
    Calls Tryz.prog 65 #[.agg #[.bool gy,.bool fU,.string jC,.int .i64 jB]] w fun e w'=>e=.returned (.bool r)∧Below w.heap.size w w':=by
 have PS:=Tryz.underlying23;have HB:=am (Below.refl w.heap.size w);have H:=am h;unfold oC.f at H;clear h
 cases gy
 replace H:=zb0 H;replace H:=zsk H;rcases H with⟨qg,xy,H⟩|⟨qg,xy,c5,H⟩;obtain rfl:=Option.some.inj H.out;rotate_left;replace H:=zs H;rcases H with⟨c8,H⟩|⟨c8,H⟩;have sO:decide (4096<(jC.size:Int))=true:=decide_eq_true c8;have Ap:decide (4096<jC.size)=true:=decide_eq_true (by omega);clear c8;obtain rfl:=Option.some.inj H.out;rotate_left;have sO:decide (4096<(jC.size:Int))=false:=decide_eq_false c8;have Ap:decide (4096<jC.size)=false:=decide_eq_false (by omega);clear c8;replace H:=zsd H;rcases H with⟨qK,H⟩|⟨qK,H⟩;obtain rfl:=Option.some.inj H.out;rotate_left;replace H:=AV H;rcases H with⟨ww,H⟩|⟨ww,H⟩;obtain rfl:=Option.some.inj H.out;rotate_left;replace H:=zo H;obtain⟨aup,A17,H⟩:=H;obtain rfl:=Option.some.inj H.out;rotate_left;replace H:=zb1 H;obtain rfl:=Option.some.inj H.out;rotate_left
 all_goals (go_enter Tryz.func65,Tryz.ntmps65;go_wp2_with (first|((with_reducible refine aI (N:=1) rfl ?_);(try (refine nJ (by rfl) ?_;dsimp only));refine zx 1 23 #[.bool false,.bool fU,.string jC,.int .i64 jB] ?_;intro amJ hg w18 hbox hb;have Ur:=am (hbox);have amK:=zG hg HB;have amL:=zG hg HB;replace HB:=zBs HB hb;clear hb hbox hg;obtain⟨_,_,_,_,_,_,_,_⟩:=zf4 Ur)|((with_reducible refine af (f:=120) rfl ?_);refine zc (some 29) Tryz.func120 _ (mY.calls _ _ _ _ A17.out) ?_;rintro e w20 ⟨rfl,hb⟩;refine⟨_,rfl,?_⟩;replace Ur:=zKb Ur hb;replace HB:=zBs HB hb;clear hb)|((with_reducible refine aI (N:=1) rfl ?_);(try (refine nJ (by rfl) ?_;dsimp only));refine zx 1 23 #[.bool true,.bool fU,.string jC,.int .i64 jB] ?_;intro amJ hg w3 hbox hb;have Ur:=am (hbox);have amK:=zG hg HB;have amL:=zG hg HB;replace HB:=zBs HB hb;clear hb hbox hg;obtain⟨_,_,_,_,_,_,_,_⟩:=zf4 Ur)))
 ·go_ret
  exact⟨z2,zB HB⟩
 ·go_ret
  exact⟨z2,zB HB⟩
 ·go_ret
  exact⟨z2,zB HB⟩
 ·go_ret
  exact⟨z2,zB HB⟩
 ·go_ret
  exact⟨z2,zB HB⟩
 go_ret
 exact⟨z2,zB HB⟩
def lJ.f (gy:Bool)(fU:Bool)(jC:ByteArray)(jB:Int):Option (Bool × Bool × ByteArray × Int × Option Int):=(oC.f gy fU jC jB).bind fun t109=>(if t109=true then ((iL.f gy fU jC jB).bind fun Yn=>(some (Yn.1,Yn.2.1,Yn.2.2.1,Yn.2.2.2,none))) else (some (false,false,(⟨#[]⟩:ByteArray),0,some 23)))
theorem lJ.calls (gy:Bool)(fU:Bool)(jC:ByteArray)(jB:Int)(r1:Bool)(r2:Bool)(r3:ByteArray)(r4:Int)(r5:Option Int)(w:World)(h:lJ.f gy fU jC jB=some (r1,r2,r3,r4,r5)) :
    Calls Tryz.prog 26 #[.agg #[.bool gy,.bool fU,.string jC,.int .i64 jB]] w fun e w'=>e=.returned (.tuple #[.agg #[.bool r1,.bool r2,.string r3,.int .i64 r4],rF r5])∧Below w.heap.size w w':=by
 have PS:=Tryz.underlying23;have yB:=Tryz.underlying27;have hu64:=Tryz.underlying64;have HB:=am (Below.refl w.heap.size w);have H:=am h;unfold lJ.f at H;clear h;replace H:=zo H;obtain⟨t109,A2,H⟩:=H
 cases t109
 replace H:=zb0 H;obtain⟨rfl,rfl,rfl,rfl,rfl⟩:=zJ5 H;rotate_left;replace H:=zb1 H;replace H:=zo H;obtain⟨⟨ayG,ayH,ayI,ayJ⟩,A4,H⟩:=H
 try dsimp only at H
 obtain⟨rfl,rfl,rfl,rfl,rfl⟩:=zJ5 H;rotate_left
 all_goals (go_enter Tryz.func26,Tryz.ntmps26;go_wp2_with (first|((with_reducible refine aI (N:=1) rfl ?_);refine zx 1 23 #[.bool gy,.bool fU,.string jC,.int .i64 jB] ?_;intro ayK hg w5 hbox hb;have ET:=am (hbox);have ayL:=zG hg HB;have ayM:=zG hg HB;replace HB:=zBs HB hb;clear hb hbox hg)|((with_reducible refine aI (N:=2) rfl ?_);refine zx 2 23 #[.bool false,.bool false,.string (⟨#[]⟩:ByteArray),.int .i64 0] ?_;intro agV hg w6 hbox hb;have JU:=am (hbox);have ayN:=zG hg HB;have ayO:=zG hg HB;replace HB:=zBs HB hb;have Us:=zNl hg ET;have Ut:=zNg hg ET;replace ET:=zKb ET hb;clear hb hbox hg;have aGX:=Us.out;have aGY:=Ut.out;obtain⟨_,_,_,_,_,_,_,_⟩:=zf4 ET)|((with_reducible refine af (f:=65) rfl ?_);refine zc (some 5) Tryz.func65 _ (oC.calls _ _ _ _ _ _ A2.out) ?_;rintro e w9 ⟨rfl,hb⟩;refine⟨_,rfl,?_⟩;replace ET:=zKb ET hb;replace JU:=zKb JU hb;replace HB:=zBs HB hb;clear hb;obtain⟨_,_,_,_,_,_,_,_⟩:=zf4 ET;obtain⟨_,_,_,_,_,_,_,_⟩:=zf4 JU)|((with_reducible refine af (f:=64) rfl ?_);refine zc (some 10) Tryz.func64 _ (iL.calls _ _ _ _ _ _ _ _ _ A4.out) ?_;rintro e w11 ⟨rfl,hb⟩;refine⟨_,rfl,?_⟩;replace ET:=zKb ET hb;replace JU:=zKb JU hb;replace HB:=zBs HB hb;clear hb;obtain⟨_,_,_,_,_,_,_,_⟩:=zf4 JU)))
 ·refine bodyPost_ret (dY rfl _ _ agV 23 #[.bool false,.bool false,.string (⟨#[]⟩:ByteArray),.int .i64 0] (0,0) _ rfl (zKp JU) Tryz.underlying23 rfl (by kernel_rfl)) rfl ?_
  exact⟨z2,zB HB⟩
 refine bodyPost_ret (dY rfl _ _ agV 23 #[.bool ayG,.bool ayH,.string ayI,.int .i64 ayJ] (0,0) _ rfl (zKp JU) Tryz.underlying23 rfl (by kernel_rfl)) rfl ?_;exact⟨z2,zB HB⟩
def oq.f (a0:Int):Option (Bool):=if a0=8 then (some true) else (if a0=16 then (some true) else (if a0=32 then (some true) else (if a0=64 then (some true) else (some false))))
theorem oq.calls (a0:Int)(r:Bool)(w:World)(h:oq.f a0=some r) :
    Calls Tryz.prog 126 #[.int .i64 a0] w fun e w'=>e=.returned (.bool r)∧dR w w':=by
 have H:=am h;unfold oq.f at H;clear h;replace H:=zsk H;rcases H with⟨ry,IM,H⟩|⟨ry,IM,c2,H⟩;obtain rfl:=Option.some.inj H.out;rotate_left;replace H:=zsk H;rcases H with⟨pI,Kw,H⟩|⟨pI,Kw,c3,H⟩;obtain rfl:=Option.some.inj H.out;rotate_left;replace H:=zsk H;rcases H with⟨jP,sQ,H⟩|⟨jP,sQ,c4,H⟩;obtain rfl:=Option.some.inj H.out;rotate_left;replace H:=zsk H;rcases H with⟨qg,xy,H⟩|⟨qg,xy,c5,H⟩;obtain rfl:=Option.some.inj H.out;rotate_left;obtain rfl:=Option.some.inj H.out;rotate_left
 all_goals (go_enter Tryz.func126,Tryz.ntmps126;go_wp2)
 ·go_ret
  exact⟨z1,z4⟩
 ·go_ret
  exact⟨z1,z4⟩
 ·go_ret
  exact⟨z1,z4⟩
 ·go_ret
  exact⟨z1,z4⟩
 go_ret
 exact⟨z1,z4⟩
def pG.f (a0:Int):Option (Int):=if a0=64 then (some 18446744073709551615) else (if 0≤a0 then (some (IntKind.u64.wrap ((shl .u64 1 a0)-1))) else (none))
theorem pG.calls (a0:Int)(r:Int)(w:World)(h:pG.f a0=some r) :
    Calls Tryz.prog 181 #[.int .i64 a0] w fun e w'=>e=.returned (.int .u64 r)∧dR w w':=by
 have H:=am h;unfold pG.f at H;clear h;replace H:=zsk H;rcases H with⟨ry,IM,H⟩|⟨ry,IM,c2,H⟩;obtain rfl:=Option.some.inj H.out;rotate_left;replace H:=zit H;obtain⟨pI,Kw,H⟩:=H;generalize xA:(shl .u64 1 a0:Int)=ji4 at H;have acJ:(IntKind.u64.wrap (1*2 ^ min a0.toNat 64))=ji4:=xA;have amM:a0≤64→(IntKind.u64.wrap (1*2 ^ a0.toNat))=ji4:=iW xA
 have ayP:(IntKind.u64.wrap (2 ^ min a0.toNat 64))=ji4:=by have h_:=acJ;rw[Int.one_mul]at h_;exact h_
 have ayQ:a0≤64→(IntKind.u64.wrap (2 ^ a0.toNat))=ji4:=fun acK=>by have h_:=amM acK;rw[Int.one_mul]at h_;exact h_
 obtain rfl:=Option.some.inj H.out;rotate_left
 all_goals (go_enter Tryz.func181,Tryz.ntmps181;go_wp2)
 ·go_ret
  exact⟨z1,z4⟩
 go_ret
 exact⟨by first|rfl|(simp;done)|(simp only[← xA] <;> (first|rfl|simp))|(simp[*];done),z4⟩
def ul.f (a0:Int):Option (Int × Option Int):=if a0<0 then (some (0,some 1)) else (if a0 > 64 then (some (0,some 1)) else ((pG.f a0).bind fun auq=>(some (auq,none))))
theorem ul.calls (a0:Int)(r1:Int)(r2:Option Int)(w:World)(h:ul.f a0=some (r1,r2)) :
    Calls Tryz.prog 128 #[.int .i64 a0] w fun e w'=>e=.returned (.tuple #[.int .u64 r1,rF r2])∧dR w w':=by
 have yB:=Tryz.underlying27;have hu64:=Tryz.underlying64;have H:=am h;unfold ul.f at H;clear h;replace H:=zsd H;rcases H with⟨ry,H⟩|⟨ry,H⟩;obtain⟨rfl,rfl⟩:=zJ2 H;rotate_left;replace H:=AV H;rcases H with⟨pI,H⟩|⟨pI,H⟩;obtain⟨rfl,rfl⟩:=zJ2 H;rotate_left;replace H:=zo H;obtain⟨auq,A4,H⟩:=H;obtain⟨rfl,rfl⟩:=zJ2 H;rotate_left
 all_goals (go_enter Tryz.func128,Tryz.ntmps128;go_wp2_with (first|((with_reducible refine af (f:=181) rfl ?_);refine zc (some 12) Tryz.func181 _ (pG.calls _ _ _ A4.out) ?_;rintro e w' ⟨rfl,⟨nd,rfl⟩⟩;refine⟨_,rfl,?_⟩)))
 ·go_ret2
  exact⟨z1,z4⟩
 ·go_ret2
  exact⟨z1,z4⟩
 go_ret2
 exact⟨z1,z4⟩
def fD.f (a0:Int)(a1:Int):Option (Int × Option Int):=(oq.f a0).bind fun amN=>(if amN=true then ((ul.f a0).bind fun agW=>(some (Go.bits .and .u64 a1 agW.1,agW.2))) else (some (0,some 2)))
theorem fD.calls (a0:Int)(a1:Int)(r1:Int)(r2:Option Int)(w:World)(h:fD.f a0 a1=some (r1,r2)) :
    Calls Tryz.prog 76 #[.int .i64 a0,.int .u64 a1] w fun e w'=>e=.returned (.tuple #[.int .u64 r1,rF r2])∧dR w w':=by
 have yB:=Tryz.underlying27;have hu64:=Tryz.underlying64;have H:=am h;unfold fD.f at H;clear h;replace H:=zo H;obtain⟨amN,A3,H⟩:=H
 cases amN
 replace H:=zb0 H;obtain⟨rfl,rfl⟩:=zJ2 H;rotate_left;replace H:=zb1 H;replace H:=zo H;obtain⟨⟨t116,t117⟩,A5,H⟩:=H
 try dsimp only at H
 obtain⟨rfl,rfl⟩:=zJ2 H;rotate_left
 all_goals (go_enter Tryz.func76,Tryz.ntmps76;go_wp2_with (first|((with_reducible refine af (f:=126) rfl ?_);refine zc (some 9) Tryz.func126 _ (oq.calls _ _ _ A3.out) ?_;rintro e w' ⟨rfl,⟨nd,rfl⟩⟩;refine⟨_,rfl,?_⟩)|((with_reducible refine af (f:=128) rfl ?_);refine zc (some 14) Tryz.func128 _ (ul.calls _ _ _ _ A5.out) ?_;rintro e w' ⟨rfl,⟨nd,rfl⟩⟩;refine⟨_,rfl,?_⟩;(try simp only[au,ax]))))
 ·go_ret2
  exact⟨z1,z4⟩
 go_ret2
 exact⟨z1,z4⟩
def kQ.f (a0:Int)(a1:Int):Option (Int × Option Int):=(fD.f a0 a1).bind fun Yo=>(if Yo.2.isNone=true then (if Yo.1=0 then (some (0,none)) else (if 0≤(wrap64 (a0-1)) then (if Yo.1=(shl .u64 1 (wrap64 (a0-1))) then (some (2,none)) else (some (1,none))) else (none))) else (some (0,some (Yo.2.getD 0))))
theorem kQ.calls (a0:Int)(a1:Int)(r1:Int)(r2:Option Int)(w:World)(h:kQ.f a0 a1=some (r1,r2)) :
    Calls Tryz.prog 91 #[.int .i64 a0,.int .u64 a1] w fun e w'=>e=.returned (.tuple #[.int .i64 r1,rF r2])∧dR w w':=by
 have yB:=Tryz.underlying27;have hu64:=Tryz.underlying64;have H:=am h;unfold kQ.f at H;clear h;replace H:=zo H;obtain⟨⟨aGZ,t119⟩,A3,H⟩:=H
 try dsimp only at H
 rcases t119 with _|aG0;replace H:=zb1 H
 try simp only[au,ax]
 replace H:=zsk H;rcases H with⟨jP,sQ,H⟩|⟨jP,sQ,c4,H⟩;obtain⟨rfl,rfl⟩:=zJ2 H;rotate_left;generalize PT:(wrap64 (a0-1):Int)=ji5 at H
 (try rw[PT]at A3)
 have agX:(IntKind.i64.wrap (a0-1))=ji5:=(cu _).trans PT;replace H:=zit H;obtain⟨qm,zg,H⟩:=H;generalize Gh:(shl .u64 1 (ji5):Int)=ji7 at H
 (try rw[Gh]at A3)
 have Yp:(IntKind.u64.wrap (1*2 ^ min (ji5).toNat 64))=ji7:=Gh;have acL:(ji5)≤64→(IntKind.u64.wrap (1*2 ^ (ji5).toNat))=ji7:=iW Gh
 have ayR:(IntKind.u64.wrap (2 ^ min (ji5).toNat 64))=ji7:=by have h_:=Yp;rw[Int.one_mul]at h_;exact h_
 have ayS:(ji5)≤64→(IntKind.u64.wrap (2 ^ (ji5).toNat))=ji7:=fun acK=>by have h_:=acL acK;rw[Int.one_mul]at h_;exact h_
 replace H:=zsk H;rcases H with⟨sO,Ap,H⟩|⟨sO,Ap,c8,H⟩;obtain⟨rfl,rfl⟩:=zJ2 H;rotate_left;obtain⟨rfl,rfl⟩:=zJ2 H;rotate_left;replace H:=zb0 H
 try simp only[Option.getD_some]at H
 try simp only[au,ax]
 obtain⟨rfl,rfl⟩:=zJ2 H;rotate_left
 all_goals (go_enter Tryz.func91,Tryz.ntmps91;go_wp2_with (first|((with_reducible refine af (f:=76) rfl ?_);refine zc (some 10) Tryz.func76 _ (fD.calls _ _ _ _ _ A3.out) ?_;rintro e w' ⟨rfl,⟨nd,rfl⟩⟩;refine⟨_,rfl,?_⟩;(try simp only[au,ax]))))
 ·go_ret2
  exact⟨z1,z4⟩
 ·go_ret2
  exact⟨by first|rfl|(simp;done)|(simp only[← PT, ← Gh] <;> (first|rfl|simp))|(simp[*];done),z4⟩
 ·go_ret2
  exact⟨by first|rfl|(simp;done)|(simp only[← PT, ← Gh] <;> (first|rfl|simp))|(simp[*];done),z4⟩
 go_ret2
 exact⟨z1,z4⟩
def rW.f (a0:Int)(a1:Int):Option (Int × Option Int):=if a1<1 then (some (0,some 1)) else (if a1 > 64 then (some (0,some 1)) else (if 0≤(wrap64 (64-a1)) then (some (shr .i64 (wrap64 (shl .u64 a0 (wrap64 (64-a1)))) (wrap64 (64-a1)),none)) else (none)))
theorem rW.calls (a0:Int)(a1:Int)(r1:Int)(r2:Option Int)(w:World)(h:rW.f a0 a1=some (r1,r2)) :
    Calls Tryz.prog 127 #[.int .u64 a0,.int .i64 a1] w fun e w'=>e=.returned (.tuple #[.int .i64 r1,rF r2])∧dR w w':=by
 have yB:=Tryz.underlying27;have hu64:=Tryz.underlying64;have H:=am h;unfold rW.f at H;clear h;replace H:=zsd H;rcases H with⟨pI,H⟩|⟨pI,H⟩;obtain⟨rfl,rfl⟩:=zJ2 H;rotate_left;replace H:=AV H;rcases H with⟨jP,H⟩|⟨jP,H⟩;obtain⟨rfl,rfl⟩:=zJ2 H;rotate_left;generalize PT:(wrap64 (64-a1):Int)=ji5 at H;have agX:(IntKind.i64.wrap (64-a1))=ji5:=(cu _).trans PT;replace H:=zit H;obtain⟨qm,zg,H⟩:=H;generalize Gh:(shl .u64 a0 (ji5):Int)=ji7 at H;have Yp:(IntKind.u64.wrap (a0*2 ^ min (ji5).toNat 64))=ji7:=Gh;have acL:(ji5)≤64→(IntKind.u64.wrap (a0*2 ^ (ji5).toNat))=ji7:=iW Gh;have sO:=eq_true (zD:0≤(ji5));generalize Uu:(shr .i64 (wrap64 (ji7)) (ji5):Int)=ji9 at H;have amO:((wrap64 (ji7)) / 2 ^ min (ji5).toNat 64)=ji9:=Uu;have ayT:(ji5)≤64→((wrap64 (ji7)) / 2 ^ (ji5).toNat)=ji9:=kE Uu;obtain⟨rfl,rfl⟩:=zJ2 H;rotate_left
 all_goals (go_enter Tryz.func127,Tryz.ntmps127;go_wp2)
 ·go_ret2
  exact⟨z1,z4⟩
 ·go_ret2
  exact⟨z1,z4⟩
 go_ret2
 exact⟨by first|rfl|(simp;done)|(simp only[← PT, ← Gh, ← Uu] <;> (first|rfl|simp))|(simp[*];done),z4⟩
def rE.f (a0:Int)(a1:Int):Option (Int × Option Int):=(oq.f a0).bind fun amP=>(if amP=true then ((rW.f a1 a0).bind fun agY=>(some (agY.1,agY.2))) else (some (0,some 2)))
theorem rE.calls (a0:Int)(a1:Int)(r1:Int)(r2:Option Int)(w:World)(h:rE.f a0 a1=some (r1,r2)) :
    Calls Tryz.prog 75 #[.int .i64 a0,.int .u64 a1] w fun e w'=>e=.returned (.tuple #[.int .i64 r1,rF r2])∧dR w w':=by
 have yB:=Tryz.underlying27;have hu64:=Tryz.underlying64;have H:=am h;unfold rE.f at H;clear h;replace H:=zo H;obtain⟨amP,A3,H⟩:=H
 cases amP
 replace H:=zb0 H;obtain⟨rfl,rfl⟩:=zJ2 H;rotate_left;replace H:=zb1 H;replace H:=zo H;obtain⟨⟨aG1,aG2⟩,A5,H⟩:=H
 try dsimp only at H
 obtain⟨rfl,rfl⟩:=zJ2 H;rotate_left
 all_goals (go_enter Tryz.func75,Tryz.ntmps75;go_wp2_with (first|((with_reducible refine af (f:=126) rfl ?_);refine zc (some 7) Tryz.func126 _ (oq.calls _ _ _ A3.out) ?_;rintro e w' ⟨rfl,⟨nd,rfl⟩⟩;refine⟨_,rfl,?_⟩)|((with_reducible refine af (f:=127) rfl ?_);refine zc (some 12) Tryz.func127 _ (rW.calls _ _ _ _ _ A5.out) ?_;rintro e w' ⟨rfl,⟨nd,rfl⟩⟩;refine⟨_,rfl,?_⟩;(try simp only[au,ax]))))
 ·go_ret2
  exact⟨z1,z4⟩
 go_ret2
 exact⟨z1,z4⟩
end Go.Proofs.Yy.PTx
end
section
set_option maxHeartbeats 8000000
set_option maxRecDepth 100000
namespace Go.Proofs.Yy.PTx
open Go.RowKit Go.Proofs.Yy.Z Go.Proofs.Yw.PrintWords Go.Proofs.Yw.PrintLast Go.Proofs.Yw.PrintMore
open Go.Proofs.Yy.M
attribute [local go_sem] dG dP kR kT kW kS
attribute [local go_sem] gI gG iP iR fF fG gW gV
def bits_LeadingZeros64.f (k:Nat)(a0:Int):Option (Int):=(bits_Len64.f k a0).bind fun t124=>(some (wrap64 (64-t124)))
theorem bits_LeadingZeros64.calls (k:Nat)(a0:Int)(r:Int)(w:World)(h:bits_LeadingZeros64.f k a0=some r) :
    Calls Tryz.prog 184 #[.int .u64 a0] w fun e w'=>e=.returned (.int .i64 r)∧dR w w':=by
 have H:=am h;unfold bits_LeadingZeros64.f at H;clear h;replace H:=zo H;obtain⟨t124,A2,H⟩:=H;obtain rfl:=Option.some.inj H.out
 go_enter Tryz.func184,Tryz.ntmps184
 go_wp2_with (first|((with_reducible refine af (f:=152) rfl ?_);refine zc (some 4) Tryz.func152 _ (bits_Len64.calls _ _ _ _ A2.out) ?_;rintro e w' ⟨rfl,⟨nd,rfl⟩⟩;refine⟨_,rfl,?_⟩))
 go_ret
 exact⟨z1,z4⟩
def o7.j0:Nat→Int→Int→Bool→Option (Bool × Int × Option Int)
  | 0,_,_,_=>none
  | k+1,x0,x1,x13=>if x13=true then (some (false,0,some 1)) else (if 0≤(wrap64 (64-x1)) then (if ((shl .u64 x0 (wrap64 (64-x1))) / 9223372036854775808)=1 then ((bits_LeadingZeros64.f k (Go.bits .xor .u64 18446744073709551615 (shl .u64 x0 (wrap64 (64-x1))))).bind fun agZ=>(some ((((shl .u64 x0 (wrap64 (64-x1))) / 9223372036854775808) == 1),mn agZ x1,none))) else ((bits_LeadingZeros64.f k (shl .u64 x0 (wrap64 (64-x1)))).bind fun ag0=>(some ((((shl .u64 x0 (wrap64 (64-x1))) / 9223372036854775808) == 1),mn ag0 x1,none)))) else (none))
def o7.f (k:Nat)(a0:Int)(a1:Int):Option (Bool × Int × Option Int):=if a1<1 then (o7.j0 k a0 a1 true) else (o7.j0 k a0 a1 (decide (a1 > 64)))
theorem o7.calls (k:Nat)(a0:Int)(a1:Int)(r1:Bool)(r2:Int)(r3:Option Int)(w:World)(h:o7.f k a0 a1=some (r1,r2,r3)) :
    Calls Tryz.prog 143 #[.int .u64 a0,.int .i64 a1] w fun e w'=>e=.returned (.tuple #[.bool r1,.int .i64 r2,rF r3])∧Below w.heap.size w w':=by
 have yB:=Tryz.underlying27;have hu64:=Tryz.underlying64;have HB:=am (Below.refl w.heap.size w);have H:=am h;unfold o7.f at H;clear h
 go_enter Tryz.func143,Tryz.ntmps143
 go_upto_region 1 with (fail)
 go_cut [13] (fun v13 wc => ∃ (kq:Nat) (Hz:Bool),v13=.bool Hz∧ae (o7.j0 kq a0 a1 Hz=some (r1,r2,r3))∧ae (kq≤k)∧ae (Below w.heap.size w wc))
 case first =>
  replace H:=zsd H;rcases H with⟨jP,H⟩|⟨jP,H⟩
  (first|rw[jP]|(simp only[cu,fQ];rw[jP])|rw[sQ]|skip)
  rotate_left
  (first|rw[jP]|(simp only[cu,fQ];rw[jP])|rw[sQ]|skip)
  rotate_left
  all_goals (go_wp2)
  ·go_meet
   case rel=>exact⟨_,(true),z1,H,⟨z5⟩,⟨zB HB⟩⟩
  go_meet
  case rel=>exact⟨_,(decide (a1 > 64)),z1,H,⟨z5⟩,⟨zB HB⟩⟩
 case rest =>
  obtain⟨kq,Hz,rfl,H,HJ2,HB⟩:=hcut;obtain _|kj2:=kq
  ·exact zz H rfl
  simp only[o7.j0]at H
  cases Hz
  replace H:=zb0 H;generalize uQ:(wrap64 (64-a1):Int)=ji6 at H;have Uw:(IntKind.i64.wrap (64-a1))=ji6:=(cu _).trans uQ;replace H:=zit H;obtain⟨wz,Bi,H⟩:=H;generalize uh:(shl .u64 a0 (ji6):Int)=ji8 at H;have Ux:(IntKind.u64.wrap (a0*2 ^ min (ji6).toNat 64))=ji8:=uh;have Uy:(ji6)≤64→(IntKind.u64.wrap (a0*2 ^ (ji6).toNat))=ji8:=iW uh;replace H:=zsk H;rcases H with⟨wu,Ez,H⟩|⟨wu,Ez,c9,H⟩;replace H:=zo H;obtain⟨agZ,A10,H⟩:=H;generalize HY:(mn agZ a1:Int)=ag1 at H
  (try rw[HY]at A10)
  have aur:(if a1<agZ then a1 else agZ)=ag1:=HY;obtain⟨rfl,rfl,rfl⟩:=zJ3 H;rotate_left;replace H:=zo H;obtain⟨ag0,A12,H⟩:=H;generalize qN:(mn ag0 a1:Int)=qL at H
  (try rw[qN]at A12)
  have Uz:(if a1<ag0 then a1 else ag0)=qL:=qN;obtain⟨rfl,rfl,rfl⟩:=zJ3 H;rotate_left;replace H:=zb1 H;obtain⟨rfl,rfl,rfl⟩:=zJ3 H;rotate_left
  all_goals (go_wp2_with (first|((with_reducible refine af (f:=184) rfl ?_);refine jS (some 27) rfl rfl Tryz.func184 (by kernel_rfl) rfl #[.int .u64 (Go.bits .xor .u64 18446744073709551615 (ji8))] rfl (by (try simp only[List.map_toArray,List.map_cons,List.map_nil]);first|done|(simp only[uh];rfl)|rfl|(simp only[List.length_drop,List.length_take];rfl)) ?_;(with_reducible refine (bits_LeadingZeros64.calls _ _ _ _ A10.out).mono ?_);rintro e w' ⟨rfl,⟨nd,rfl⟩⟩;refine⟨_,rfl,?_⟩)|((with_reducible refine af (f:=184) rfl ?_);refine jS (some 27) rfl rfl Tryz.func184 (by kernel_rfl) rfl #[.int .u64 ji8] rfl (by (try simp only[List.map_toArray,List.map_cons,List.map_nil]);first|done|(simp only[uh];rfl)|rfl|(simp only[List.length_drop,List.length_take];rfl)) ?_;(with_reducible refine (bits_LeadingZeros64.calls _ _ _ _ A12.out).mono ?_);rintro e w' ⟨rfl,⟨nd,rfl⟩⟩;refine⟨_,rfl,?_⟩)))
  ·go_ret3
   exact⟨by first|exact z3|(simp only[← uQ, ← uh, ← HY];exact z3)|exact z2,zB HB⟩
  ·go_ret3
   exact⟨by first|exact z3|(simp only[← uQ, ← uh, ← qN];exact z3)|exact z2,zB HB⟩
  go_ret3
  exact⟨z2,zB HB⟩
def nH.f (a0:Int)(a1:Int):Option (Bool):=if a0≥0 then (if a0≤64 then (if a1≥0 then (some (decide (a1≤(wrap64 (64-a0))))) else (some false)) else (some false)) else (some false)
theorem nH.calls (a0:Int)(a1:Int)(r:Bool)(w:World)(h:nH.f a0 a1=some r) :
    Calls Tryz.prog 185 #[.int .i64 a0,.int .i64 a1] w fun e w'=>e=.returned (.bool r)∧dR w w':=by
 have H:=am h;unfold nH.f at H;clear h;replace H:=yH H;rcases H with⟨pI,H⟩|⟨pI,H⟩;replace H:=zsd H;rcases H with⟨jP,H⟩|⟨jP,H⟩;replace H:=yH H;rcases H with⟨qg,H⟩|⟨qg,H⟩;obtain rfl:=Option.some.inj H.out;rotate_left;obtain rfl:=Option.some.inj H.out;rotate_left;obtain rfl:=Option.some.inj H.out;rotate_left;obtain rfl:=Option.some.inj H.out;rotate_left
 all_goals (go_enter Tryz.func185,Tryz.ntmps185;go_wp2)
 ·go_ret
  exact⟨z1,z4⟩
 ·go_ret
  exact⟨z1,z4⟩
 ·go_ret
  exact⟨z1,z4⟩
 go_ret
 exact⟨z1,z4⟩
def nN.f (a0:Int)(a1:Int)(a2:Int):Option (Int × Option Int):=(nH.f a1 a2).bind fun t127=>(if t127=true then (if 0≤a1 then ((pG.f a2).bind fun alg=>(some (Go.bits .and .u64 (shr .u64 a0 a1) alg,none))) else (none)) else (some (0,some 1)))
theorem nN.calls (a0:Int)(a1:Int)(a2:Int)(r1:Int)(r2:Option Int)(w:World)(h:nN.f a0 a1 a2=some (r1,r2)) :
    Calls Tryz.prog 144 #[.int .u64 a0,.int .i64 a1,.int .i64 a2] w fun e w'=>e=.returned (.tuple #[.int .u64 r1,rF r2])∧dR w w':=by
 have yB:=Tryz.underlying27;have hu64:=Tryz.underlying64;have H:=am h;unfold nN.f at H;clear h;replace H:=zo H;obtain⟨t127,A4,H⟩:=H
 cases t127
 replace H:=zb0 H;obtain⟨rfl,rfl⟩:=zJ2 H;rotate_left;replace H:=zb1 H;replace H:=zit H;obtain⟨qm,zg,H⟩:=H;generalize Gh:(shr .u64 a0 a1:Int)=ji7 at H
 (try rw[Gh]at A4)
 have Yp:(a0 / 2 ^ min a1.toNat 64)=ji7:=Gh;have acL:a1≤64→(a0 / 2 ^ a1.toNat)=ji7:=kE Gh;replace H:=zo H;obtain⟨alg,A8,H⟩:=H;obtain⟨rfl,rfl⟩:=zJ2 H;rotate_left
 all_goals (go_enter Tryz.func144,Tryz.ntmps144;go_wp2_with (first|(go_at_call 185;(with_reducible refine (nH.calls _ _ _ _ A4.out).mono ?_);rintro e w' ⟨rfl,⟨nd,rfl⟩⟩;(try first|exact⟨rfl,_,World.drewN_drewN _ _ _⟩|exact⟨rfl,_,Eq.trans (World.drewN_drewN _ _ _) (congrArg (World.drewN _) (Nat.add_assoc _ _ _))⟩))|(go_at_call 181;(with_reducible refine (pG.calls _ _ _ A8.out).mono ?_);rintro e w' ⟨rfl,⟨nd,rfl⟩⟩;(try first|exact⟨rfl,_,World.drewN_drewN _ _ _⟩|exact⟨rfl,_,Eq.trans (World.drewN_drewN _ _ _) (congrArg (World.drewN _) (Nat.add_assoc _ _ _))⟩))))
 ·repeat (go_quiet (first|(go_at_call 185;(with_reducible refine (nH.calls a1 a2 false _ A4.out).mono ?_);rintro e w' ⟨rfl,⟨nd,rfl⟩⟩;(try first|exact⟨rfl,_,World.drewN_drewN _ _ _⟩|exact⟨rfl,_,Eq.trans (World.drewN_drewN _ _ _) (congrArg (World.drewN _) (Nat.add_assoc _ _ _))⟩)));try go_wp2_with (first|(go_at_call 185;(with_reducible refine (nH.calls a1 a2 false _ A4.out).mono ?_);rintro e w' ⟨rfl,⟨nd,rfl⟩⟩;(try first|exact⟨rfl,_,World.drewN_drewN _ _ _⟩|exact⟨rfl,_,Eq.trans (World.drewN_drewN _ _ _) (congrArg (World.drewN _) (Nat.add_assoc _ _ _))⟩))))
  go_ret2
  exact⟨z1,z4⟩
 repeat (go_quiet (first|(go_at_call 185;(with_reducible refine (nH.calls a1 a2 true _ A4.out).mono ?_);rintro e w' ⟨rfl,⟨nd,rfl⟩⟩;(try first|exact⟨rfl,_,World.drewN_drewN _ _ _⟩|exact⟨rfl,_,Eq.trans (World.drewN_drewN _ _ _) (congrArg (World.drewN _) (Nat.add_assoc _ _ _))⟩))|(go_at_call 181;(with_reducible refine (pG.calls a2 alg _ A8.out).mono ?_);rintro e w' ⟨rfl,⟨nd,rfl⟩⟩;(try first|exact⟨rfl,_,World.drewN_drewN _ _ _⟩|exact⟨rfl,_,Eq.trans (World.drewN_drewN _ _ _) (congrArg (World.drewN _) (Nat.add_assoc _ _ _))⟩)));try go_wp2_with (first|(go_at_call 185;(with_reducible refine (nH.calls a1 a2 true _ A4.out).mono ?_);rintro e w' ⟨rfl,⟨nd,rfl⟩⟩;(try first|exact⟨rfl,_,World.drewN_drewN _ _ _⟩|exact⟨rfl,_,Eq.trans (World.drewN_drewN _ _ _) (congrArg (World.drewN _) (Nat.add_assoc _ _ _))⟩))|(go_at_call 181;(with_reducible refine (pG.calls a2 alg _ A8.out).mono ?_);rintro e w' ⟨rfl,⟨nd,rfl⟩⟩;(try first|exact⟨rfl,_,World.drewN_drewN _ _ _⟩|exact⟨rfl,_,Eq.trans (World.drewN_drewN _ _ _) (congrArg (World.drewN _) (Nat.add_assoc _ _ _))⟩))))
 go_ret2
 exact⟨by first|rfl|(simp;done)|(simp only[← Gh] <;> (first|rfl|simp))|(simp[*];done),z4⟩
end Go.Proofs.Yy.PTx
end
section
namespace Go.Proofs.Yy.PTx
open Go.RowKit Go.Proofs.Yw.PrintWords Go.Proofs.Yw.PrintLast Go.Proofs.Yw.PrintMore Go.Proofs.Yy.M
attribute [local go_sem] gI gG
def Fp (q n:Int)(neg ones:Bool)(r left eb:Int):Option (Bool × Bool × Int × Int × Int × Int × Int × Int × Option Int) :=
 (nN.f q (left-eb) eb).bind fun e=>(nN.f q 0 (left-eb)).bind fun g =>
  if 0≤e.1∧e.1≤3 then some (neg,ones,r,(if ones=true then r-1 else -r),eb,e.1*2 ^ (2-eb).toNat,left-eb,g.1,none) else none
def Gg (n r:Int):Int:=max (n-1-r-1) 0
def WV (l:Int):Int:=min l 2
def rX.f (k:Nat)(n p:Int):Option (Bool × Bool × Int × Int × Int × Int × Int × Int × Option Int) :=
 (kQ.f n p).bind fun b=>if b.1=1∧b.2=none∧8≤n∧n≤64 then
  (rE.f n p).bind fun c=>(o7.f k (if c.1<0 then IntKind.u64.wrap (-p) else p) (n-1)).bind fun u =>
   if 1≤u.2.1∧u.2.1≤n-1 then Fp (if c.1<0 then IntKind.u64.wrap (-p) else p) n (decide (c.1<0)) u.1 u.2.1 (Gg n u.2.1) (WV (Gg n u.2.1))
   else none
 else none
theorem size_two (w:World)(o:Obj)(n:Nat):((w.alloc o).drewN n).heap.size=w.heap.size+1:=by simp
theorem wZ {W:World}{o:Obj}{g:Nat}(h:W.heap.size=g):(W.alloc o).heap[g]? = some o:=by subst h;exact uJ W o
set_option maxHeartbeats 4000000 in
set_option maxRecDepth 100000 in
theorem Pz (k:Nat)(n p:Int)(q:Int)(neg ones:Bool)(r L E:Int)(c:Int)(e g:Int)(eo go_ co ro:Option Int)(w:World)
  (hk:kQ.f n p=some (1,none)) (h8:8≤n) (h64:n≤64) (hc:rE.f n p=some (c,co)) (hneg:neg=decide (c<0)) (hq:q=if c<0 then IntKind.u64.wrap (-p) else p)
  (hr:o7.f k q (n-1)=some (ones,r,ro)) (hr1:1≤r) (hr2:r≤n-1) (hl:max (n-1-r-1) 0=L) (heb:min L 2=E)
  (he:nN.f q (L-E) E=some (e,eo)) (hg:nN.f q 0 (L-E)=some (g,go_)) (he0:0≤e) (he3:e≤3) (R:Int) (hR:R=if ones=true then r-1 else -r) :
  Calls Tryz.prog 92 #[.int .i64 n,.int .u64 p] w fun e' w'=>e'=.returned (.tuple #[.agg #[.bool neg,.bool ones,.int .i64 r,.int .i64 R,.int .i64 E,.int .i64 (e*2 ^ (2-E).toNat),.int .i64 (L-E),.int .u64 g],.nilIface])∧Below w.heap.size w w':=by
 have HRR:=Lib.hid hR;clear hR
 have hL0:0≤L:=by omega
 have hL1:L≤64:=by omega
 have hE0:0≤E:=by omega
 have hE2:E≤2:=by omega
 have hEL:E≤L:=by omega
 have hkK:∀ W:World,Calls Tryz.prog 91 #[.int .i64 n,.int .u64 p] W fun e' w'=>e'=.returned (.tuple #[.int .i64 1,.nilIface])∧dR W w':=fun W=>kQ.calls n p 1 none W hk;have hkC:∀ W:World,Calls Tryz.prog 75 #[.int .i64 n,.int .u64 p] W fun e' w'=>e'=.returned (.tuple #[.int .i64 c,rF co])∧dR W w':=fun W=>rE.calls n p c co W hc;have hkR:∀ W:World,Calls Tryz.prog 143 #[.int .u64 q,.int .i64 (n-1)] W fun e' w'=>e'=.returned (.tuple #[.bool ones,.int .i64 r,rF ro])∧Below W.heap.size W w':=fun W=>o7.calls k q (n-1) ones r ro W hr;have hkE:∀ W:World,Calls Tryz.prog 144 #[.int .u64 q,.int .i64 (L-E),.int .i64 E] W fun e' w'=>e'=.returned (.tuple #[.int .u64 e,rF eo])∧dR W w':=fun W=>nN.calls q (L-E) E e eo W he;have hkG:∀ W:World,Calls Tryz.prog 144 #[.int .u64 q,.int .i64 0,.int .i64 (L-E)] W fun e' w'=>e'=.returned (.tuple #[.int .u64 g,rF go_])∧dR W w':=fun W=>nN.calls q 0 (L-E) g go_ W hg;generalize rF co=vc at hkC;generalize rF ro=vr at hkR;generalize rF eo=ve at hkE;generalize rF go_=vg at hkG;have HK:=Lib.hid hkK;have HC:=Lib.hid hkC;have HR:=Lib.hid hkR;have HE:=Lib.hid hkE;have HG:=Lib.hid hkG;clear hkK hkC hkR hkE hkG hk hc hr he hg
 go_enter Tryz.func92,Tryz.ntmps92
 go_upto_if 35 with (first|(go_at_call 91;(with_reducible refine (HK.out _).mono ?_);rintro e1 w1 ⟨rfl,hw1⟩;obtain⟨n1,rfl⟩:=hw1.out)|(go_at_call 75;(with_reducible refine (HC.out _).mono ?_);rintro e2 w2 ⟨rfl,hw2⟩;obtain⟨n2,rfl⟩:=hw2.out))
 go_cut [1] (fun v1 wc=>v1=.int .u64 q∧ae (wc.heap[w.heap.size]? = some (.cells #[.bool false,.bool false,.int .i64 0,.int .i64 0,.int .i64 0,.int .i64 0,.int .i64 0,.int .u64 0] 140 (0,0)))∧ae (wc.heap[w.heap.size+1]? = some (.cells #[.bool neg,.bool false,.int .i64 0,.int .i64 0,.int .i64 0,.int .i64 0,.int .i64 0,.int .u64 0] 140 (0,0)))∧ae (Below w.heap.size w wc))
 case first =>
  by_cases amQ:c<0
  all_goals
   simp only[amQ,if_true,if_false,decide_true,decide_false]at hq hneg;subst hq hneg
   go_wp2
   go_meet
   case rel=>exact⟨rfl,⟨(by apply Eq.trans;(repeat (first|(with_reducible assumption)|(with_reducible exact uJ _ _)|(with_reducible exact wZ (size_two _ _ _))|(with_reducible apply lN)|(with_reducible apply kG)|(with_reducible apply rY)|(with_reducible apply jy (hp:=Nat.ne_of_lt (Nat.lt_succ_self _)))|(with_reducible apply jy (hp:=Nat.ne_of_gt (Nat.lt_succ_self _)))));rfl)⟩,⟨(by apply Eq.trans;(repeat (first|(with_reducible assumption)|(with_reducible exact uJ _ _)|(with_reducible exact wZ (size_two _ _ _))|(with_reducible apply lN)|(with_reducible apply kG)|(with_reducible apply rY)|(with_reducible apply jy (hp:=Nat.ne_of_lt (Nat.lt_succ_self _)))|(with_reducible apply jy (hp:=Nat.ne_of_gt (Nat.lt_succ_self _)))));rfl)⟩,⟨(by repeat (first|(with_reducible assumption)|(with_reducible exact Below.refl _ _)|(with_reducible apply bD)|(with_reducible apply aK)|(with_reducible refine bQ ?_ (by first|exact Nat.le_refl _|exact Nat.le_succ _))))⟩⟩
 case rest =>
  obtain⟨rfl,K1,K2,HB⟩:=hcut
  rename_i wc
  clear HK HC hneg hq;have hc0:∀ i,wc.cell? ⟨w.heap.size+1,i,none⟩=(_:Array Value)[i]?:=ag K2.out;have hf0:∀ i,wc.frozen? ⟨w.heap.size+1,i,none⟩=false:=aj K2.out
  go_upto_if 55 with (go_at_call 143;(with_reducible refine (HR.out _).mono ?_);rintro e3 w3 ⟨rfl,hb3⟩;have k1:=dW K1.out hb3;have k2:=dW K2.out hb3;have hb:=oJ HB.out hb3;clear hc0 hf0 hb3;have hc0:∀ i,w3.cell? ⟨w.heap.size+1,i,none⟩=(_:Array Value)[i]?:=ag k2;have hf0:∀ i,w3.frozen? ⟨w.heap.size+1,i,none⟩=false:=aj k2;have K1:=am k1;have K2:=am k2;have HB:=am hb;clear k1 k2 hb)
  go_cut [] (fun wc=>ae (wc.heap[w.heap.size]? = some (.cells #[.bool false,.bool false,.int .i64 0,.int .i64 0,.int .i64 0,.int .i64 0,.int .i64 0,.int .u64 0] 140 (0,0)))∧ae (wc.heap[w.heap.size+1]? = some (.cells #[.bool neg,.bool ones,.int .i64 r,.int .i64 R,.int .i64 0,.int .i64 0,.int .i64 0,.int .u64 0] 140 (0,0)))∧ae (Below w.heap.size w wc))
  case first =>
   cases ones
   all_goals
    obtain rfl:=HRR.out
    go_wp2
    go_meet
    case rel=>exact⟨⟨(by apply Eq.trans;(repeat (first|(with_reducible exact K1.out)|(with_reducible exact K2.out)|(with_reducible apply lN)|(with_reducible apply rY)|(with_reducible apply jy (hp:=Nat.ne_of_lt (Nat.lt_succ_self _)))|(with_reducible apply jy (hp:=Nat.ne_of_gt (Nat.lt_succ_self _)))));rfl)⟩,⟨(by apply Eq.trans;(repeat (first|(with_reducible exact K1.out)|(with_reducible exact K2.out)|(with_reducible apply lN)|(with_reducible apply rY)|(with_reducible apply jy (hp:=Nat.ne_of_lt (Nat.lt_succ_self _)))|(with_reducible apply jy (hp:=Nat.ne_of_gt (Nat.lt_succ_self _)))));rfl)⟩,⟨(by repeat (first|(with_reducible exact HB.out)|(with_reducible apply aK)|(with_reducible refine bQ ?_ (by first|exact Nat.le_refl _|exact Nat.le_succ _))))⟩⟩
  case rest =>
  clear hc0 hf0 K1 K2 HB;obtain⟨K1,K2,HB⟩:=hcut
  rename_i wc
  have hc0:∀ i,wc.cell? ⟨w.heap.size+1,i,none⟩=(_:Array Value)[i]?:=ag K2.out;have hf0:∀ i,wc.frozen? ⟨w.heap.size+1,i,none⟩=false:=aj K2.out
  go_upto_region 18 with (go_at_call 144;(with_reducible refine (HE.out _).mono ?_);rintro e4 w4 ⟨rfl,hw4⟩;obtain⟨n4,rfl⟩:=hw4.out)
  go_cut [] (fun wc=>ae (wc.heap[w.heap.size]? = some (.cells #[.bool false,.bool false,.int .i64 0,.int .i64 0,.int .i64 0,.int .i64 0,.int .i64 0,.int .u64 0] 140 (0,0)))∧ae (wc.heap[w.heap.size+1]? = some (.cells #[.bool neg,.bool ones,.int .i64 r,.int .i64 R,.int .i64 E,.int .i64 (e*2 ^ (2-E).toNat),.int .i64 0,.int .u64 0] 140 (0,0)))∧ae (Below w.heap.size w wc))
  case first =>
   obtain rfl|rfl|rfl:E=0∨E=1∨E=2:=by omega
   all_goals
    go_wp2
    go_meet
    case rel=>exact⟨⟨(by apply Eq.trans;(repeat (first|(with_reducible exact K1.out)|(with_reducible exact K2.out)|(with_reducible apply lN)|(with_reducible apply rY)|(with_reducible apply jy (hp:=Nat.ne_of_lt (Nat.lt_succ_self _)))|(with_reducible apply jy (hp:=Nat.ne_of_gt (Nat.lt_succ_self _)))));first|rfl|simp)⟩,⟨(by apply Eq.trans;(repeat (first|(with_reducible exact K1.out)|(with_reducible exact K2.out)|(with_reducible apply lN)|(with_reducible apply rY)|(with_reducible apply jy (hp:=Nat.ne_of_lt (Nat.lt_succ_self _)))|(with_reducible apply jy (hp:=Nat.ne_of_gt (Nat.lt_succ_self _)))));first|rfl|simp)⟩,⟨(by repeat (first|(with_reducible exact HB.out)|(with_reducible apply aK)|(with_reducible refine bQ ?_ (by first|exact Nat.le_refl _|exact Nat.le_succ _))))⟩⟩
  case rest =>
  clear hc0 hf0 K1 K2 HB;obtain⟨K1,K2,HB⟩:=hcut
  rename_i wc
  have hc0:∀ i,wc.cell? ⟨w.heap.size+1,i,none⟩=(_:Array Value)[i]?:=ag K2.out;have hf0:∀ i,wc.frozen? ⟨w.heap.size+1,i,none⟩=false:=aj K2.out;have hg1:∀ i,wc.cell? ⟨w.heap.size,i,none⟩=(_:Array Value)[i]?:=ag K1.out;have hg2:∀ i,wc.frozen? ⟨w.heap.size,i,none⟩=false:=aj K1.out
  go_wp2_with (go_at_call 144;(with_reducible refine (HG.out _).mono ?_);rintro e4 w4 ⟨rfl,hw4⟩;obtain⟨n4,rfl⟩:=hw4.out)
  refine bodyPost_ret (dY rfl _ _ w.heap.size 140 #[.bool _,.bool _,.int .i64 _,.int .i64 _,.int .i64 _,.int .i64 _,.int .i64 _,.int .u64 _] (0,0) _ rfl ?blk Tryz.underlying140 rfl (by kernel_rfl)) rfl ⟨rfl,?_⟩
  case blk=>exact (by apply Eq.trans;(repeat (first|(with_reducible exact K1.out)|(with_reducible exact K2.out)|(with_reducible apply lN)|(with_reducible apply rY)|(with_reducible apply jy (hp:=Nat.ne_of_lt (Nat.lt_succ_self _)))|(with_reducible apply jy (hp:=Nat.ne_of_gt (Nat.lt_succ_self _)))));rfl)
  exact (by repeat (first|(with_reducible exact HB.out)|(with_reducible apply aK)|(with_reducible refine bQ ?_ (by first|exact Nat.le_refl _|exact Nat.le_succ _))))
theorem rX.calls (k:Nat)(a0:Int)(a1:Int)(r1:Bool)(r2:Bool)(r3:Int)(r4:Int)(r5:Int)(r6:Int)(r7:Int)(r8:Int)(r9:Option Int)(w:World)(h:rX.f k a0 a1=some (r1,r2,r3,r4,r5,r6,r7,r8,r9)) :
  Calls Tryz.prog 92 #[.int .i64 a0,.int .u64 a1] w fun e w'=>e=.returned (.tuple #[.agg #[.bool r1,.bool r2,.int .i64 r3,.int .i64 r4,.int .i64 r5,.int .i64 r6,.int .i64 r7,.int .u64 r8],rF r9])∧Below w.heap.size w w':=by
 unfold rX.f at h;obtain⟨⟨b1,b2⟩,hb,h⟩:=Option.bind_eq_some_iff.mp h
 by_cases hc:b1=1∧b2=none∧8≤a0∧a0≤64
 case neg=>rw[if_neg hc]at h;exact absurd h (by simp)
 rw[if_pos hc]at h;obtain⟨rfl,rfl,h8,h64⟩:=hc;obtain⟨⟨c1,c2⟩,hk,h⟩:=Option.bind_eq_some_iff.mp h;obtain⟨⟨u1,u2,u3⟩,hu,h⟩:=Option.bind_eq_some_iff.mp h
 by_cases hr:1≤u2∧u2≤a0-1
 case neg=>rw[if_neg hr]at h;exact absurd h (by simp)
 rw[if_pos hr]at h;unfold Fp at h;obtain⟨⟨e1,e2⟩,he,h⟩:=Option.bind_eq_some_iff.mp h;obtain⟨⟨g1,g2⟩,hg,h⟩:=Option.bind_eq_some_iff.mp h
 by_cases h0:0≤e1∧e1≤3
 case neg=>rw[if_neg h0]at h;exact absurd h (by simp)
 rw[if_pos h0]at h;simp only[Option.some.injEq,Prod.mk.injEq]at h;obtain⟨rfl,rfl,rfl,rfl,rfl,rfl,rfl,rfl,rfl⟩:=h;exact Pz k a0 a1 _ _ u1 u2 _ _ c1 e1 g1 e2 g2 c2 u3 w hb h8 h64 hk rfl rfl hu hr.1 hr.2 rfl rfl he hg h0.1 h0.2 _ rfl
end Go.Proofs.Yy.PTx
end
section
set_option maxHeartbeats 8000000
set_option maxRecDepth 100000
namespace Go.Proofs.Yy.PTx
open Go.RowKit Go.Proofs.Yy.Z Go.Proofs.Yw.PrintWords Go.Proofs.Yw.PrintLast Go.Proofs.Yw.PrintMore
open Go.Proofs.Yy.M
attribute [local go_sem] dG dP kR kT kW kS
attribute [local go_sem] gI gG iP iR fF fG gW gV
def dS.f (k:Nat)(a0:Int)(a1:Int):Option (Int × Bool × Int × Int × Option Int):=(kQ.f a0 a1).bind fun PU=>(if PU.2.isNone=true then (if PU.1=1 then ((rX.f k a0 a1).bind fun PV=>(if 0≤(wrap64 (63-PV.2.2.2.2.2.2.1)) then (some (PU.1,PV.1,wrap64 ((wrap64 (4*PV.2.2.2.1))+PV.2.2.2.2.2.1),Go.bits .or .u64 9223372036854775808 (shl .u64 PV.2.2.2.2.2.2.2.1 (wrap64 (63-PV.2.2.2.2.2.2.1))),none)) else (none))) else (some (PU.1,false,0,0,none))) else (some (PU.1,false,0,0,some (PU.2.getD 0))))
def dS.T5:Bool × List (List Nat × List Nat):=(true,[([],[]),([],[]),([1],[1]),([],[]),([3],[3]),([4],[4]),([],[]),([6],[6]),([5,7],[5,7]),([],[]),([9],[9]),([],[]),([11],[11]),([12],[12]),([10,13],[10,13]),([14],[14]),([0,2,8,15],[0,2,8,15]),([16,0,1,2,3,4,5,6,7,8,9,10,11,12,13,14,15,16],[16]),([17,0,1,2,3,4,5,6,7,8,9,10,11,12,13,14,15,16,17],[])])
def dS.B5:List Nat := [0,0,2,0,8,24,0,64,248,0,512,0,2048,6144,15872,32256,65535,131071,262143]
theorem dS.agp:rG .any (opsOf Tryz.f42 5)=dS.T5:=by kernel_rfl
theorem dS.Rz:jb dS.T5.2 dS.B5=true:=by kernel_rfl
theorem dS.calls (k:Nat)(a0:Int)(a1:Int)(r1:Int)(r2:Bool)(r3:Int)(r4:Int)(r5:Option Int)(w:World)(h:dS.f k a0 a1=some (r1,r2,r3,r4,r5)) :
    Calls Tryz.prog 42 #[.int .i64 a0,.int .u64 a1] w fun e w'=>e=.returned (.tuple #[.agg #[.int .i64 r1,.bool r2,.int .i64 r3,.int .u64 r4],rF r5])∧Below w.heap.size w w':=by
 have alh:=Tryz.underlying77;have ayU:=Tryz.underlying140;have yB:=Tryz.underlying27;have hu64:=Tryz.underlying64;have HB:=am (Below.refl w.heap.size w);have H:=am h;unfold dS.f at H;clear h;replace H:=zo H;obtain⟨⟨t130,t131⟩,A3,H⟩:=H
 try dsimp only at H
 rcases t131 with _|aG3;replace H:=zb1 H
 try simp only[au,ax]
 replace H:=zsk H;rcases H with⟨jP,sQ,H⟩|⟨jP,sQ,c4,H⟩
 ·replace H:=zo H
  obtain⟨⟨acM,ae9,afa,acN,afb,t138,t139,Yq,t141⟩,A5,H⟩:=H
  try dsimp only at H
  generalize uQ:(wrap64 (63-t139):Int)=ji6 at H
  (try rw[uQ]at A3)
  (try rw[uQ]at A5)
  have Uw:(IntKind.i64.wrap (63-t139))=ji6:=(cu _).trans uQ;replace H:=zit H;obtain⟨wz,Bi,H⟩:=H;generalize uh:(shl .u64 Yq (ji6):Int)=ji8 at H
  (try rw[uh]at A3)
  (try rw[uh]at A5)
  have Ux:(IntKind.u64.wrap (Yq*2 ^ min (ji6).toNat 64))=ji8:=uh;have Uy:(ji6)≤64→(IntKind.u64.wrap (Yq*2 ^ (ji6).toNat))=ji8:=iW uh;obtain⟨rfl,rfl,rfl,rfl,rfl⟩:=zJ5 H
  go_enter Tryz.func42,Tryz.ntmps42
  try go_wp2_with (first|((with_reducible refine aI (N:=4) rfl ?_);refine zx 4 77 #[.int .i64 0,.bool false,.int .i64 0,.int .u64 0] ?_;intro PW hg w9 hbox hb;have oL:=am (hbox);have amR:=zG hg HB;have amS:=zG hg HB;replace HB:=zBs HB hb;clear hb hbox hg)|((with_reducible refine af (f:=91) rfl ?_);refine zc (some 13) Tryz.func91 _ (kQ.calls _ _ _ _ _ A3.out) ?_;rintro e w' ⟨rfl,⟨nd,rfl⟩⟩;refine⟨_,rfl,?_⟩;(try simp only[au,ax]);(try (rw[fZ w9];generalize hq_:World.drewN w9 _=w9;have n0_:ae (w9.heap[PW]? = some (.cells #[.int .i64 0,.bool false,.int .i64 0,.int .u64 0] 77 (0,0))):=⟨by rw[← hq_];exact (zK oL)⟩;have n1_:ae (Below w.heap.size w w9):=⟨by rw[← hq_];exact (zB HB)⟩;clear oL HB hq_;have oL:=n0_;have HB:=n1_;clear n0_ n1_)))|((with_reducible refine af (f:=92) rfl ?_);refine zc (some 28) Tryz.func92 _ (rX.calls _ _ _ _ _ _ _ _ _ _ _ _ _ A5.out) ?_;rintro e w10 ⟨rfl,hb⟩;refine⟨_,rfl,?_⟩;replace oL:=zKb oL hb;replace HB:=zBs HB hb;clear hb;(try simp only[au,ax]))|((with_reducible refine aI (N:=8) rfl ?_);refine zx 8 140 #[.bool false,.bool false,.int .i64 0,.int .i64 0,.int .i64 0,.int .i64 0,.int .i64 0,.int .u64 0] ?_;intro lK hg w11 hbox hb;have xX:=am (hbox);have ayV:=zG hg HB;have ayW:=zG hg HB;replace HB:=zBs HB hb;have wB:=zNl hg oL;have wC:=zNg hg oL;replace oL:=zKb oL hb;clear hb hbox hg;have agT:=wC.out;have agU:=wB.out;obtain⟨_,_,_,_,_,_,_,_,_,_,_,_,_,_,_,_⟩:=zf8 xX))
  have n0_:ae (((((((((w11.setCell ⟨lK,0,none⟩ (.bool acM)).setCell ⟨lK,1,none⟩ (.bool ae9)).setCell ⟨lK,2,none⟩ (.int .i64 afa)).setCell ⟨lK,3,none⟩ (.int .i64 acN)).setCell ⟨lK,4,none⟩ (.int .i64 afb)).setCell ⟨lK,5,none⟩ (.int .i64 t138)).setCell ⟨lK,6,none⟩ (.int .i64 t139)).setCell ⟨lK,7,none⟩ (.int .u64 Yq)).heap[PW]? = some (.cells #[.int .i64 0,.bool false,.int .i64 0,.int .u64 0] 77 (0,0))):=⟨zK oL⟩
  have n1_:ae (((((((((w11.setCell ⟨lK,0,none⟩ (.bool acM)).setCell ⟨lK,1,none⟩ (.bool ae9)).setCell ⟨lK,2,none⟩ (.int .i64 afa)).setCell ⟨lK,3,none⟩ (.int .i64 acN)).setCell ⟨lK,4,none⟩ (.int .i64 afb)).setCell ⟨lK,5,none⟩ (.int .i64 t138)).setCell ⟨lK,6,none⟩ (.int .i64 t139)).setCell ⟨lK,7,none⟩ (.int .u64 Yq)).heap[lK]? = some (.cells #[.bool acM,.bool ae9,.int .i64 afa,.int .i64 acN,.int .i64 afb,.int .i64 t138,.int .i64 t139,.int .u64 Yq] 140 (0,0))):=⟨zKp xX⟩
  have n2_:ae (Below w.heap.size w ((((((((w11.setCell ⟨lK,0,none⟩ (.bool acM)).setCell ⟨lK,1,none⟩ (.bool ae9)).setCell ⟨lK,2,none⟩ (.int .i64 afa)).setCell ⟨lK,3,none⟩ (.int .i64 acN)).setCell ⟨lK,4,none⟩ (.int .i64 afb)).setCell ⟨lK,5,none⟩ (.int .i64 t138)).setCell ⟨lK,6,none⟩ (.int .i64 t139)).setCell ⟨lK,7,none⟩ (.int .u64 Yq))):=⟨zB HB⟩
  (try clear oL)
  (try clear xX)
  (try clear HB)
  generalize ((((((((w11.setCell ⟨lK,0,none⟩ (.bool acM)).setCell ⟨lK,1,none⟩ (.bool ae9)).setCell ⟨lK,2,none⟩ (.int .i64 afa)).setCell ⟨lK,3,none⟩ (.int .i64 acN)).setCell ⟨lK,4,none⟩ (.int .i64 afb)).setCell ⟨lK,5,none⟩ (.int .i64 t138)).setCell ⟨lK,6,none⟩ (.int .i64 t139)).setCell ⟨lK,7,none⟩ (.int .u64 Yq))=w14 at n0_ n1_ n2_ ⊢;have oL:=n0_;have xX:=n1_;have HB:=n2_;clear n0_ n1_ n2_;replace oL:=am (dX oL.out);replace xX:=am (dX xX.out);replace HB:=am (aX HB.out);refine lQ (n:=19) (S:=fun w'=>w'.cell? ⟨lK,0,none⟩=some (.bool acM)∧w'.cell? ⟨lK,1,none⟩=some (.bool ae9)∧w'.cell? ⟨lK,2,none⟩=some (.int .i64 afa)∧w'.cell? ⟨lK,3,none⟩=some (.int .i64 acN)∧w'.cell? ⟨lK,4,none⟩=some (.int .i64 afb)∧w'.cell? ⟨lK,5,none⟩=some (.int .i64 t138)∧w'.cell? ⟨lK,6,none⟩=some (.int .i64 t139)∧w'.cell? ⟨lK,7,none⟩=some (.int .u64 Yq)) (ds := []) (Array.replicate 19 false) (by kernel_rfl) rfl rfl ⟨(ag xX.out 0).trans rfl,(ag xX.out 1).trans rfl,(ag xX.out 2).trans rfl,(ag xX.out 3).trans rfl,(ag xX.out 4).trans rfl,(ag xX.out 5).trans rfl,(ag xX.out 6).trans rfl,(ag xX.out 7).trans rfl⟩ (fun hHeld=>?_);refine gU dS.agp dS.Rz (fun HT_ HW_=>?_);generalize w14.drew=w15 at oL xX HB hHeld ⊢;refine zp HT_ 0 (some 31) ?_;refine zp HT_ 1 (some 32) ?_;refine zp HT_ 3 (some 34) ?_;refine zp HT_ 6 (some 37) ?_;refine zp HT_ 9 (some 40) ?_;refine zp HT_ 11 (some 42) ?_;refine zt HT_ HW_ 2 (some 33) hHeld ?_;refine zt HT_ HW_ 4 (some 35) hHeld ?_;refine zp HT_ 5 (some 36) ?_;refine zt HT_ HW_ 7 (some 38) hHeld ?_;refine zp HT_ 8 (some 39) ?_;refine zt HT_ HW_ 10 (some 41) hHeld ?_;refine zt HT_ HW_ 12 (some 43) hHeld ?_;refine zp HT_ 13 (some 44) ?_;refine zp HT_ 14 (some 45) ?_;refine zp HT_ 15 (some 46) ?_;refine zp HT_ 16 (some 47) ?_;refine zu HT_ 17 none (fun K hK=>?_);have aG4:=zl oL 0;have ayX:=aj oL.out 0;have amT:=wC.out;have amU:=wB.out;have aG5:=zl oL 1;have ayY:=aj oL.out 1;have amV:=wC.out;have amW:=wB.out;have aG6:=zl oL 2;have ayZ:=aj oL.out 2;have amX:=wC.out;have amY:=wB.out;have ay0:=zl oL 3;have amZ:=aj oL.out 3;have am0:=wC.out;have am1:=wB.out;refine vW (w1:=?_) (by rfl) rfl ?_ ?_;rotate_left
  ·go_simp
   rfl
  refine hK.out _ _ ⟨(zh hHeld),(zh hHeld),(zh hHeld),(zh hHeld),(zh hHeld),(zh hHeld),(zh hHeld),(zh hHeld)⟩ (fun hHeld=>?_);clear hK K;refine zp HT_ 18 (some 5) ?_;refine oU (iZ HT_.out (by kernel_rfl)) ?_
  try go_wp2
  refine bodyPost_ret (dY rfl _ _ PW 77 #[.int .i64 t130,.bool acM,.int .i64 (wrap64 ((wrap64 (4*acN))+t138)),.int .u64 (Go.bits .or .u64 9223372036854775808 (ji8))] (0,0) _ rfl (zKp oL) Tryz.underlying77 rfl (by kernel_rfl)) rfl ?_;exact⟨by first|exact z3|(simp only[← uQ, ← uh];exact z3)|exact z2,zB HB⟩
 obtain⟨rfl,rfl,rfl,rfl,rfl⟩:=zJ5 H;rotate_left;replace H:=zb0 H
 try simp only[Option.getD_some]at H
 try simp only[au,ax]
 obtain⟨rfl,rfl,rfl,rfl,rfl⟩:=zJ5 H;rotate_left
 all_goals (go_enter Tryz.func42,Tryz.ntmps42;go_wp2_with (first|((with_reducible refine aI (N:=4) rfl ?_);refine zx 4 77 #[.int .i64 0,.bool false,.int .i64 0,.int .u64 0] ?_;intro PW hg w20 hbox hb;have oL:=am (hbox);have amR:=zG hg HB;have amS:=zG hg HB;replace HB:=zBs HB hb;clear hb hbox hg)|((with_reducible refine af (f:=91) rfl ?_);refine zc (some 13) Tryz.func91 _ (kQ.calls _ _ _ _ _ A3.out) ?_;rintro e w' ⟨rfl,⟨nd,rfl⟩⟩;refine⟨_,rfl,?_⟩;(try simp only[au,ax]);(try (rw[fZ w20];generalize hq_:World.drewN w20 _=w20;have n0_:ae (w20.heap[PW]? = some (.cells #[.int .i64 0,.bool false,.int .i64 0,.int .u64 0] 77 (0,0))):=⟨by rw[← hq_];exact (zK oL)⟩;have n1_:ae (Below w.heap.size w w20):=⟨by rw[← hq_];exact (zB HB)⟩;clear oL HB hq_;have oL:=n0_;have HB:=n1_;clear n0_ n1_));obtain⟨_,_,_,_,_,_,_,_⟩:=zf4 oL)))
 all_goals
  refine bodyPost_ret (dY rfl _ _ PW 77 #[.int .i64 t130,.bool false,.int .i64 0,.int .u64 0] (0,0) _ rfl (zKp oL) Tryz.underlying77 rfl (by kernel_rfl)) rfl ?_;exact⟨z2,zB HB⟩
def bG.l0:Nat→List Int→Int→Option (List Int)
  | 0,_,_=>none
  | k+1,x0,x3=>if x3 > 0 then (if 0≤(wrap64 (x3-1)) then (if (wrap64 (x3-1))<(x0.length:Int) then (if (rd x0 (wrap64 (x3-1)))=0 then (bG.l0 k x0 (wrap64 (x3-1))) else (if 0≤x3 then (if x3≤(x0.length:Int) then (some (x0.take (x3:Int).toNat)) else (none)) else (none))) else (none)) else (none)) else (if 0≤x3 then (if x3≤(x0.length:Int) then (some (x0.take (x3:Int).toNat)) else (none)) else (none))
def bG.f (k:Nat)(l0:List Int):Option (List Int):=bG.l0 k l0 (l0.length:Int)
theorem bG.calls (k:Nat)(P0_:Nat→Prop)(A0:Option Addr)(c0:Nat)(l0:List Int)(r:List Int)(w:World)(hs0:Kd.V (Kd.int .u64) 25 w w.heap.size (fun k_=>P0_ k_) (.slice A0 l0.length c0) l0)(h:bG.f k l0=some r) :
    Calls Tryz.prog 103 #[.slice A0 l0.length c0] w fun e w' => ∃ v0_:Value,e=.returned (v0_)∧Kd.V (Kd.int .u64) 25 w' w.heap.size (fun k_=>(P0_ k_∨w.heap.size≤k_)) v0_ r∧Below w.heap.size w w':=by
 have HO0:=am (show Kd.V (Kd.int .u64) 25 w w.heap.size (fun k_=>(P0_ k_∨w.heap.size≤k_)) (.slice A0 l0.length c0) l0 from Kd.cO hs0 (fun k_ hk => .inl hk));have HB:=am (Below.refl w.heap.size w);have H:=am h;unfold bG.f at H;clear h
 go_enter Tryz.func103,Tryz.ntmps103
 go_wp2
 go_loopg [3] k (fun kq v3 w' => ∃ (iH:Int),v3=.int .i64 iH∧ae (bG.l0 kq l0 iH=some r)∧ae (kq≤k)∧ae (Kd.V (Kd.int .u64) 25 w' w.heap.size (fun k_=>(P0_ k_∨w.heap.size≤k_)) (.slice A0 l0.length c0) l0)∧ae (Below w.heap.size w w'))
 case atStart=>exact⟨((l0.length:Int)),z1,H,zL,⟨zV HO0⟩,⟨zB HB⟩⟩
 clear H;obtain⟨iH,rfl,H,HK1,kL,HB⟩:=hrel;obtain _|k1:=gk
 ·exact zz H rfl
 simp only[bG.l0]at H;replace H:=AV H;rcases H with⟨ry,H⟩|⟨ry,H⟩;generalize ED:(wrap64 (iH-1):Int)=ji3 at H;have UA:(IntKind.i64.wrap (iH-1))=ji3:=(cu _).trans ED;replace H:=zid H;obtain⟨jP,H⟩:=H;replace H:=zid H;obtain⟨qg,H⟩:=H;replace H:=zsk H;rcases H with⟨qm,zg,H⟩|⟨qm,zg,c6,H⟩;obtain⟨ay1,ay2,Yr,rfl,acO⟩:=zA (Kd.dQ (Kd.bf kL.out).2.2 (ji3));rotate_left;replace H:=zit H;obtain⟨wz,Bi,H⟩:=H;replace H:=zit H;obtain⟨sO,Ap,H⟩:=H;generalize ag2:(l0.take (iH:Int).toNat:List Int)=ag3 at H;have ag4:=zY ag2;clear ag2;obtain rfl:=Option.some.inj H.out;obtain⟨ay1,ay2,Yr,rfl,acO⟩:=zA (Kd.dQ (Kd.bf kL.out).2.2 (ji3));have q9:(iH:Int)≤((l0.length:Int):Int):=zD;obtain⟨i09,aus,_,ay3,_⟩:=info_parts info25;have Z7:l0.length≤c0:=(Kd.bf kL.out).2.1;have hC9:Kd.F (Kd.int .u64) _ _ (some Yr) l0.length l0:=(Kd.Wy (base:=w.heap.size) kL.out).2.2;have am2:=LD (P:=Tryz.prog) 88 25 .i64 .i64 Tryz.underlying88 aus (some Yr) l0.length c0 iH (zD) q9 Z7;have hr9:=Kd.Jb (m:=(iH:Int).toNat) hC9 (by omega)
 have hy9:ag3.length=(iH:Int).toNat:=(by rw[ag4.out,List.length_take];omega)
 rw[← ag4.out]at hr9;rw[← hy9]at am2;have am3:=am (show Kd.V (Kd.int .u64) 25 _ w.heap.size _ (.slice (some Yr) ag3.length ag3.length) ag3 from Kd.IL (Nat.le_refl _) hr9);have ay4:=am (Nat.le_refl ag3.length);clear hr9 hC9 Z7 aus ay3;have KY9:=am hy9;clear hy9;replace q9:=eq_true q9;rotate_left;replace H:=zit H;obtain⟨mr,sS,H⟩:=H;replace H:=zit H;obtain⟨qK,zk,H⟩:=H;generalize ag5:(l0.take (iH:Int).toNat:List Int)=ag6 at H;have ag7:=zY ag5;clear ag5;obtain rfl:=Option.some.inj H.out;have q12:(iH:Int)≤((l0.length:Int):Int):=zD;obtain⟨aG7,ag8,_,am4,_⟩:=info_parts info25;have UB:l0.length≤c0:=(Kd.bf kL.out).2.1;have aut:Kd.F (Kd.int .u64) _ _ A0 l0.length l0:=(Kd.Wy (base:=w.heap.size) kL.out).2.2;have ag9:=LD (P:=Tryz.prog) 88 25 .i64 .i64 Tryz.underlying88 ag8 A0 l0.length c0 iH (zD) q12 UB;have am5:=Kd.Jb (m:=(iH:Int).toNat) aut (by omega)
 have am6:ag6.length=(iH:Int).toNat:=(by rw[ag7.out,List.length_take];omega)
 rw[← ag7.out]at am5;rw[← am6]at ag9;have am7:=am (show Kd.V (Kd.int .u64) 25 _ w.heap.size _ (.slice A0 ag6.length ag6.length) ag6 from Kd.IL (Nat.le_refl _) am5);have ay5:=am (Nat.le_refl ag6.length);clear am5 aut UB ag8 am4;have aG8:=am am6;clear am6;replace q12:=eq_true q12;rotate_left
 all_goals (go_wp2)
 ·go_roundg k1
  case measure=>have:=HK1.out;omega
  case rel=>exact⟨(ji3),(by first|rfl|(simp;done)|(simp only[← ED] <;> (first|rfl|simp))|(simp[*];done)),H,(zH HK1),⟨zV kL⟩,⟨zB HB⟩⟩
 ·go_ret
  exact⟨_,by first|exact z3|(simp only[← ED];exact z3)|exact z2,zV am3,zB HB⟩
 go_ret
 exact⟨_,z2,zV am7,zB HB⟩
def uk.f (k:Nat)(a0:Int):Option (List Int):=(bG.f k (([a0]:List Int))).bind fun t157=>(some t157)
theorem uk.calls (k:Nat)(a0:Int)(r:List Int)(w:World)(h:uk.f k a0=some r) :
    Calls Tryz.prog 48 #[.int .u64 a0] w fun e w' => ∃ v0_:Value,e=.returned (v0_)∧Kd.V (Kd.int .u64) 25 w' w.heap.size (fun k_=>(w.heap.size≤k_)) v0_ r∧Below w.heap.size w w':=by
 have HB:=am (Below.refl w.heap.size w);have H:=am h;unfold uk.f at H;clear h;generalize aha:(([a0]:List Int):List Int)=auu at H;have ahb:=zY aha;clear aha;replace H:=zo H;obtain⟨t157,A2,H⟩:=H;obtain rfl:=Option.some.inj H.out
 go_enter Tryz.func48,Tryz.ntmps48
 go_wp2_with (first|((with_reducible refine aI (N:=4) rfl ?_);refine Kd.Bq (Kd.int .u64) _ 25 ?hg (N:=4) ?hd (xs:=([a0]:List Int)) (inner := [.int .u64 a0]) (ok:=fun _=>True) (okp:=fun _=>True) ?hr ?hp (fun _ hk=>hk) trivial (Below.refl _ _) (Nat.le_refl _) (by simp) ?_;(case hd=>rfl);(case hg=>rfl);(case hr=>first|(go_simp;done)|(go_simp;rfl));(case hp=>exact (jW.one (show Kd.M (Kd.int .u64) _ _ _ a0 [.int .u64 a0] from rfl) (jW.none _ _)));intro aG9 w3 ho4 hb hg_ ku;clear hg_ ku;(first|rw[← ahb.out]at ho4|(simp only[Int.reduceToNat]at ho4;rw[← ahb.out]at ho4));have UC:=am (Kd.eu (Kd.oI (M:=fun k_=>(w.heap.size≤k_)) ho4 (zS HB) (fun k_ h_=>h_)) (zS HB));replace HB:=zBs HB hb;clear hb ho4;obtain⟨Ao5,co5,eo5⟩:=Kd.dZ UC.out;subst eo5)|((with_reducible refine af (f:=103) rfl ?_);refine zc (some 5) Tryz.func103 #[.slice Ao5 auu.length co5] (bG.calls _ (fun k_=>some k_=(.slice Ao5 auu.length co5:Value).ownBlock) _ _ _ _ _ (Kd.R_V (Kd.jX rfl (UC.out))) A2.out) ?_;rintro e w6 ⟨aHa,rfl,ho0,hb⟩;refine⟨_,rfl,?_⟩;have am8:=am (Kd.dV (Kd.cO (ok':=fun k_=>(w.heap.size≤k_)) ho0 (fun k_ hk_=>Or.elim hk_ (fun hs_=>((UC.out).1 k_ hs_.symm).1) (fun hn_=>(Nat.le_trans (zS HB) hn_)))) (zS HB));replace UC:=zRb UC hb;replace HB:=zBs HB hb;clear hb ho0))
 go_ret
 exact⟨_,z2,zV am8,zB HB⟩
end Go.Proofs.Yy.PTx
end
