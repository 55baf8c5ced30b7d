/- Part 6. -/
import Derived.Laws.Externs
import Derived.Lib.Walk
import Derived.Lib.ItoaMem
import Derived.Lib.AppendIntMem
import Derived.Laws.StructEq
import Derived.Test.YtpfnkbnepcchgaaGreatDoorKTPA
import Derived.Test.YtpfnkbnepcchgaaGreatDoorKTPB
import Derived.Test.YtpfnkbnepcchgaaGreatDoorKTPC
import Derived.Test.YtpfnkbnepcchgaaGreatDoorKTPE
set_option linter.unusedSimpArgs false
set_option linter.unusedVariables false
section
namespace Go.Proofs.Yy.SR
open Go.RowKit Go.Proofs.Yy.SC
theorem eqc {c:UInt8}{n:Nat}(hn:n<256)(h:(c.toNat:Int)=(n:Int)):c=UInt8.ofNat n:=by
 apply UInt8.toNat_inj.1
 have e:(UInt8.ofNat n).toNat=n:=by simp;omega
 rw[e];omega
theorem cls (c:UInt8):c=43∨c=45∨c=46∨c=69∨c=101∨(48≤(c.toNat:Int)∧(c.toNat:Int)≤57) ∨
  ((c.toNat:Int)<48∧(c.toNat:Int)≠43∧(c.toNat:Int)≠45∧(c.toNat:Int)≠46)∨(57<(c.toNat:Int)∧(c.toNat:Int)≠69∧(c.toNat:Int)≠101):=by
 by_cases h1:(c.toNat:Int)=43
 ·exact .inl (eqc (n:=43) (by decide) h1)
 by_cases h2:(c.toNat:Int)=45
 ·exact .inr (.inl (eqc (n:=45) (by decide) h2))
 by_cases h3:(c.toNat:Int)=46
 ·exact .inr (.inr (.inl (eqc (n:=46) (by decide) h3)))
 by_cases h4:(c.toNat:Int)=69
 ·exact .inr (.inr (.inr (.inl (eqc (n:=69) (by decide) h4))))
 by_cases h5:(c.toNat:Int)=101
 ·exact .inr (.inr (.inr (.inr (.inl (eqc (n:=101) (by decide) h5)))))
 refine .inr (.inr (.inr (.inr (.inr ?_))))
 omega
theorem afN {c:UInt8}(h:48≤(c.toNat:Int)∧(c.toNat:Int)≤57):dg c=true:=by
 unfold dg;simp only[Bool.and_eq_true,decide_eq_true_iff];omega
theorem agi {c:UInt8}(h:(c.toNat:Int)<48∧(c.toNat:Int)≠43∧(c.toNat:Int)≠45∧(c.toNat:Int)≠46):dg c=false∧sg c=false∧eb c=false∧(c == 46)=false:=by
 refine⟨?_,?_,?_,?_⟩
 ·unfold dg;simp only[Bool.and_eq_false_iff,decide_eq_false_iff_not];omega
 ·unfold sg;simp only[Bool.or_eq_false_iff,beq_eq_false_iff_ne,ne_eq];constructor <;> (rintro rfl;simp at h)
 ·unfold eb;simp only[Bool.or_eq_false_iff,beq_eq_false_iff_ne,ne_eq];constructor <;> (rintro rfl;simp at h)
 ·simp only[beq_eq_false_iff_ne,ne_eq];rintro rfl;simp at h
theorem acH {c:UInt8}(h:57<(c.toNat:Int)∧(c.toNat:Int)≠69∧(c.toNat:Int)≠101):dg c=false∧sg c=false∧eb c=false∧(c == 46)=false:=by
 refine⟨?_,?_,?_,?_⟩
 ·unfold dg;simp only[Bool.and_eq_false_iff,decide_eq_false_iff_not];omega
 ·unfold sg;simp only[Bool.or_eq_false_iff,beq_eq_false_iff_ne,ne_eq];constructor <;> (rintro rfl;simp at h)
 ·unfold eb;simp only[Bool.or_eq_false_iff,beq_eq_false_iff_ne,ne_eq];constructor <;> (rintro rfl;simp at h)
 ·simp only[beq_eq_false_iff_ne,ne_eq];rintro rfl;simp at h
theorem ab4 {r:R}(h:af4 r=true):r.st=0∨r.st=2∨r.st=3∨r.st=4∨r.st=5∨r.st=6∨r.st=7∨r.st=8:=by
 unfold af4 at h;simp only[Bool.or_eq_true,beq_iff_eq]at h
 omega
theorem Ui (B b k:Nat)(r:R)(c:UInt8)(w:World)(h:At B b r w)(hi:Inv k r)(ht:tk r c=none) :
  Calls Tryz.prog 62 #[.pointer (some ⟨b,0,none⟩),.int .u8 (c.toNat:Int)] w fun e w'=>e=.returned (.bool false)∧Below B w w':=by
 have hst:=ab4 hi.st;rcases cls c with rfl|rfl|rfl|rfl|rfl|hc|hc|hc
 case inr.inr.inr.inr.inr.inr.inl=>exact RG B b r _ (.inl hc) w h hst
 case inr.inr.inr.inr.inr.inr.inr=>exact RG B b r _ (.inr hc) w h hst
 case inr.inr.inr.inr.inr.inl =>
  have hd:=afN hc;obtain⟨a1,a2,a3⟩:=vJ hd
  exfalso
  unfold tk at ht;rcases hst with hs|hs|hs|hs|hs|hs|hs|hs
  all_goals (rw[hs]at ht;simp[hd,a1,a2,a3]at ht)
 all_goals
  rcases hst with hs|hs|hs|hs|hs|hs|hs|hs
  all_goals first|exact acC B b r _ (by rw[hs];decide) w h|(exfalso;unfold tk at ht;rw[hs]at ht;simp[sg,eb,dg]at ht;done)
theorem Tc (B b k:Nat)(r r':R)(c:UInt8)(w:World)(h:At B b r w)(hi:Inv k r)(hk:k<1000000)(hBw:B≤w.heap.size)(ht:tk r c=some r') :
  Calls Tryz.prog 62 #[.pointer (some ⟨b,0,none⟩),.int .u8 (c.toNat:Int)] w fun e w'=>e=.returned (.bool true)∧At B b r' w'∧Below B w w':=by
 have hlen:r.ds.length<1000000:=by have:=hi.len;omega
 have hbeh:r.beh<1000000:=by have:=hi.beh;omega
 have hst:=ab4 hi.st;rcases cls c with rfl|rfl|rfl|rfl|rfl|hc|hc|hc
 case inr.inr.inr.inr.inr.inl =>
  have hd:=afN hc;obtain⟨a1,a2,a3⟩:=vJ hd;unfold tk at ht;rcases hst with hs|hs|hs|hs|hs|hs|hs|hs
  all_goals
   rw[hs]at ht;simp only[hd,a1,a2,a3,if_true,Bool.false_eq_true,if_false,Option.some.injEq]at ht;subst ht
   first|exact aaO B b r c _ rfl hc w h (by omega) hBw hlen|exact aaX B b r c _ rfl hc w h (by omega) hBw hlen hbeh|exact aa3 B b r c _ rfl hc w h (by omega) hi.exp
 case inr.inr.inr.inr.inr.inr.inl =>
  obtain⟨a0,a1,a2,a3⟩:=agi hc
  exfalso
  unfold tk at ht;rcases hst with hs|hs|hs|hs|hs|hs|hs|hs
  all_goals (rw[hs]at ht;simp[a0,a1,a2,a3]at ht)
 case inr.inr.inr.inr.inr.inr.inr =>
  obtain⟨a0,a1,a2,a3⟩:=acH hc
  exfalso
  unfold tk at ht;rcases hst with hs|hs|hs|hs|hs|hs|hs|hs
  all_goals (rw[hs]at ht;simp[a0,a1,a2,a3]at ht)
 all_goals
  unfold tk at ht;rcases hst with hs|hs|hs|hs|hs|hs|hs|hs
  all_goals
   rw[hs]at ht
   first|(exfalso;simp[sg,eb,dg]at ht;done)|(simp[sg,eb,dg]at ht;subst ht;first|exact OU B b r w h hs _ _ (by decide)|exact PE B b r w h hs _ _ (by decide)|exact XH B b r w h hs|exact af9 B b r w h (by omega) _ (by decide))
end Go.Proofs.Yy.SR
end
section
namespace Go.Proofs.Yw.PrintLast
open Go.Proofs.Yw.PrintWords (ae)
def zZ (md:Region.Mode)(o:Oper):List Nat:=(o.after.toList.filter (fun e=>Region.binds md e)).map (fun e=>e.on)
def KZ (md:Region.Mode)(ops:Array Oper)(i:Nat)(oi:Oper):List Nat:=(List.range ops.size).filter fun j => !(j == i) && match ops[j]? with
 | some oj => !(oj.after.any (fun e=>Region.binds md e && e.on == i) || oi.apart ops oj)
 | none=>false
def rG (md:Region.Mode)(ops:Array Oper):Bool × List (List Nat × List Nat):=(Region.noSelect ops,(List.range ops.size).map fun i=>match ops[i]? with
 | some o=>(zZ md o,KZ md ops i o)
 | none=>([],[]))
def vV (T:List (List Nat × List Nat))(l:List Bool)(i:Nat):Bool := !l.getD i true && match T[i]? with
 | some r=>r.1.all (fun j=>l.getD j false)
 | none=>false
def Df (T:List (List Nat × List Nat))(l:List Bool):List Nat:=(List.range T.length).filter (vV T l)
def Ri (T:List (List Nat × List Nat))(l:List Bool)(i:Nat):Bool:=match T[i]? with
 | some r=>r.2.all (fun j=>l.getD j true)
 | none=>false
def Hm (T:List (List Nat × List Nat))(l:List Bool):Bool:=(List.range T.length).all fun j => !l.getD j false || match T[j]? with
 | some r=>r.1.all (fun k=>l.getD k false)
 | none=>true
def FH (T:List (List Nat × List Nat))(i:Nat):Nat→Nat→Bool
 | 0,_=>false
 | fuel+1,d=>match T[d]? with
  | some r=>r.1.any fun j=>j == i || FH T i fuel j
  | none=>false
def lastT (T:List (List Nat × List Nat))(l:List Bool)(ds:List Nat)(i:Nat):Bool:=ds.all fun d=>l.getD d true || FH T i T.length d
section
variable {md:Region.Mode} {ops:Array Oper} {T:Bool × List (List Nat × List Nat)} {l l' li lj lk:Array Bool} {ds:List Nat} {i j k:Nat}
theorem gd (l:Array Bool)(j:Nat)(b:Bool):l.getD j b=l.toList.getD j b:=by simp[Array.getD_eq_getD_getElem?, List.getD_eq_getElem?_getD]
theorem Jk (o:Oper)(p:Nat→Bool):o.after.all (fun e => !Region.binds md e || p e.on)=(zZ md o).all p:=by
 unfold zZ;rw[← Array.all_toList]
 induction o.after.toList with
 | nil=>rfl
 | cons e r ih =>
  rw[List.all_cons,ih,List.filter_cons]
  cases h:Region.binds md e <;> simp
theorem Sv (o:Oper)(p:Nat→Bool):o.after.any (fun e=>Region.binds md e && p e.on)=(zZ md o).any p:=by
 unfold zZ;rw[← Array.any_toList]
 induction o.after.toList with
 | nil=>rfl
 | cons e r ih =>
  rw[List.any_cons,ih,List.filter_cons]
  cases h:Region.binds md e <;> simp
theorem uO:(rG md ops).2.length=ops.size:=by simp[rG]
theorem yU {o:Oper}(h:ops[i]? = some o):(rG md ops).2[i]? = some (zZ md o,KZ md ops i o):=by
 have hi:=(Array.getElem?_eq_some_iff.1 h).1;unfold rG;rw[List.getElem?_map,List.getElem?_range hi,Option.map_some,h]
theorem yX (h:ops[i]? = none):(rG md ops).2[i]? = none:=by
 have hi:ops.size≤i:=Array.getElem?_eq_none_iff.1 h;exact List.getElem?_eq_none (by rw[uO];exact hi)
theorem O7:vV (rG md ops).2 l.toList i=(!l.getD i true && ((ops[i]?).map (·.after.all fun e => !Region.binds md e || l.getD e.on false)).getD false):=by
 unfold vV;rw[gd]
 cases h:ops[i]? with
 | none=>rw[yX h];rfl
 | some o =>
  rw[yU h];simp only[Option.map_some,Option.getD_some];rw[← Jk];simp only[gd]
theorem ready_eq:Region.ready md ops l=Df (rG md ops).2 l.toList:=by
 unfold Region.ready Df;rw[uO];refine List.filter_congr (fun i _=>?_);rw[O7]
theorem free_eq:Region.free md ops l i=Ri (rG md ops).2 l.toList i:=by
 unfold Region.free Ri
 cases h:ops[i]? with
 | none=>rw[yX h]
 | some oi =>
  rw[yU h];simp only[KZ];rw[List.all_filter]
  congr 1
  funext j
  rw[gd]
  cases hj:ops[j]? with
  | none=>cases (j == i) <;> cases (l.toList.getD j true) <;> simp
  | some oj =>
   cases (j == i) <;> cases (l.toList.getD j true) <;> cases (oj.after.any (fun e=>Region.binds md e && e.on == i) || oi.apart ops oj) <;> simp_all
theorem TV:Region.Du md ops l=Hm (rG md ops).2 l.toList:=by
 unfold Region.Du Hm;rw[uO]
 congr 1
 funext j
 rw[gd]
 cases h:ops[j]? with
 | none=>rw[yX h]
 | some o =>
  rw[yU h];simp only;rw[← Jk];simp only[gd]
theorem reach_eq:∀ (fuel d:Nat),Region.vk md ops i fuel d=FH (rG md ops).2 i fuel d
 | 0,_=>rfl
 | fuel+1,d=>by
  unfold Region.vk FH
  cases h:ops[d]? with
  | none=>rw[yX h]
  | some o =>
   rw[yU h];simp only;rw[← Sv]
   congr 1
   funext e
   rw[reach_eq fuel]
theorem ab7:Region.lastB md ops l ds i=lastT (rG md ops).2 l.toList ds i:=by
 unfold Region.lastB lastT;rw[uO]
 congr 1
 funext d
 rw[gd,reach_eq]
theorem CZ (h:vV T.2 l.toList i=true)(hT:rG md ops=T):(Region.ready md ops l).contains i=true:=by
 subst hT;rw[ready_eq];unfold Df;rw[List.contains_iff_mem,List.mem_filter,List.mem_range];refine⟨?_,h⟩;unfold vV at h;rw[Bool.and_eq_true]at h
 cases hq:(rG md ops).2[i]? with
 | none=>rw[hq]at h;simp at h
 | some r=>exact (List.getElem?_eq_some_iff.1 hq).1
theorem Jd (h:(l.toList.set i true == l'.toList)=true):(l.setIfInBounds i true == l')=true:=by
 rw[beq_iff_eq]at h ⊢
 apply Array.ext'
 rw[Array.toList_setIfInBounds];exact h
def amz (T:Bool × List (List Nat × List Nat))(l l':List Bool)(i:Nat):Bool:=T.1 && Ri T.2 l i && vV T.2 l i && (l.set i true == l')
theorem CU (hT:rG md ops=T)(h:amz T l.toList l'.toList i=true):ald md ops l l' i=true:=by
 simp only[amz,Bool.and_eq_true]at h;obtain⟨⟨⟨h1,h2⟩,h3⟩,h4⟩:=h;have h5:=CZ h3 hT;have h6:=Jd h4;subst hT;simp only[ald,Bool.and_eq_true];exact⟨⟨⟨h1,by rw[free_eq];exact h2⟩,h5⟩,h6⟩
def acl (T:Bool × List (List Nat × List Nat))(ds:List Nat)(l l':List Bool)(i:Nat):Bool:=T.1 && Ri T.2 l i && vV T.2 l i && Hm T.2 l && lastT T.2 l ds i && (l.set i true == l')
theorem abS (hT:rG md ops=T)(h:acl T ds l.toList l'.toList i=true):takeB md ops ds l l' i=true:=by
 simp only[acl,Bool.and_eq_true]at h;obtain⟨⟨⟨⟨⟨h1,h2⟩,h3⟩,h4⟩,h5⟩,h6⟩:=h;have h7:=CZ h3 hT;have h8:=Jd h6;subst hT;simp only[takeB,Bool.and_eq_true];exact⟨⟨⟨⟨⟨h1,by rw[free_eq];exact h2⟩,h7⟩,by rw[TV];exact h4⟩,by rw[ab7];exact h5⟩,h8⟩
theorem AP (hT:rG md ops=T)(h:(Df T.2 l.toList == [i] && l.toList.set i true == l'.toList)=true):FP md ops l l' i=true:=by
 simp only[Bool.and_eq_true]at h;obtain⟨h1,h2⟩:=h;subst hT;simp only[FP,Bool.and_eq_true];exact⟨by rw[ready_eq];exact h1,Jd h2⟩
theorem ZC (hT:rG md ops=T)(h:(Df T.2 l.toList == [i,j] && l.toList.set i true == li.toList && l.toList.set j true == lj.toList)=true):(Region.ready md ops l == [i,j] && l.setIfInBounds i true == li && l.setIfInBounds j true == lj)=true:=by
 simp only[Bool.and_eq_true]at h ⊢;obtain⟨⟨h1,h2⟩,h3⟩:=h;subst hT;exact⟨⟨by rw[ready_eq];exact h1,Jd h2⟩,Jd h3⟩
theorem iZ (hT:rG md ops=T)(h:(Df T.2 l.toList == [])=true):(Region.ready md ops l == [])=true:=by
 subst hT;rw[ready_eq];exact h
def upM (B:List Nat)(d:Nat):List Nat→Nat
 | []=>0
 | n::r=>(2 ^ n ||| (if n<d then B.getD n 0 else 0)) ||| upM B d r
def jb (T:List (List Nat × List Nat))(B:List Nat):Bool:=(List.range T.length).all fun d=>match T[d]? with
 | some r=>(B.getD d 0 ||| upM B d r.1) == upM B d r.1
 | none=>false
theorem SI {B:List Nat}{d i:Nat}:∀ {ns:List Nat},(upM B d ns).testBit i=true→∃ n ∈ ns,n=i∨(n<d∧(B.getD n 0).testBit i=true)
 | [],h=>by simp[upM]at h
 | n::r,h=>by
  unfold upM at h;rw[Nat.testBit_or,Nat.testBit_or,Bool.or_eq_true,Bool.or_eq_true]at h;rcases h with (h|h)|h
  ·rw[Nat.testBit_two_pow]at h
   exact⟨n,List.mem_cons_self,.inl (by simpa using h)⟩
  ·by_cases hn:n<d
   ·rw[if_pos hn]at h
    exact⟨n,List.mem_cons_self,.inr ⟨hn,h⟩⟩
   ·rw[if_neg hn]at h
    simp at h
  ·obtain⟨m,hm,h2⟩:=SI h
   exact⟨m,List.mem_cons_of_mem _ hm,h2⟩
theorem Jy {T:List (List Nat × List Nat)}{B:List Nat}(hB:jb T B=true):∀ (fuel d:Nat),d<fuel→d<T.length→(B.getD d 0).testBit i=true→FH T i fuel d=true
 | 0,d,h,_,_=>by omega
 | fuel+1,d,h,hd,hb=>by
  have h1:=List.all_eq_true.1 hB d (List.mem_range.2 hd)
  cases hr:T[d]? with
  | none=>rw[hr]at h1;simp at h1
  | some r =>
   rw[hr]at h1;simp only[beq_iff_eq]at h1
   have h2:(upM B d r.1).testBit i=true:=by rw[← h1,Nat.testBit_or,hb,Bool.true_or]
   obtain⟨n,hn,h3⟩:=SI h2;unfold FH;rw[hr];simp only;rw[List.any_eq_true];refine⟨n,hn,?_⟩;rcases h3 with rfl|⟨h4,h5⟩
   ·simp
   ·rw[Jy hB fuel n (by omega) (by omega) h5,Bool.or_true]
def afT (T:List (List Nat × List Nat))(B:List Nat)(l:List Bool)(ds:List Nat)(i:Nat):Bool:=ds.all fun d=>l.getD d true || (decide (d<T.length) && (B.getD d 0).testBit i)
def abJ (T:Bool × List (List Nat × List Nat))(B:List Nat)(ds:List Nat)(l l':List Bool)(i:Nat):Bool:=T.1 && Ri T.2 l i && vV T.2 l i && Hm T.2 l && afT T.2 B l ds i && (l.set i true == l')
theorem WT {B:List Nat}(hT:rG md ops=T)(hB:jb T.2 B=true)(h:abJ T B ds l.toList l'.toList i=true):takeB md ops ds l l' i=true:=by
 refine abS hT ?_;simp only[abJ,acl,Bool.and_eq_true]at h ⊢;obtain⟨⟨⟨⟨⟨h1,h2⟩,h3⟩,h4⟩,h5⟩,h6⟩:=h;refine⟨⟨⟨⟨⟨h1,h2⟩,h3⟩,h4⟩,?_⟩,h6⟩;unfold afT at h5;unfold lastT;rw[List.all_eq_true]at h5 ⊢;intro d hd;have h7:=h5 d hd;rw[Bool.or_eq_true,Bool.and_eq_true,decide_eq_true_eq]at h7;rcases h7 with h7|⟨h8,h9⟩
 ·rw[h7,Bool.true_or]
 ·rw[Jy hB _ d h8 h8 h9,Bool.or_true]
theorem gU {P:Program}{Q:Exit→Act→World→Prop}{S:World→Prop}{n:Nat}{a:Act}{w:World}{B:List Nat}(hT:rG md ops=T)(hB:jb T.2 B=true)(h:ae (rG md ops=T)→ae (jb T.2 B=true)→dD P md ops Q S ds n l a w):dD P md ops Q S ds n l a w:=h ⟨hT⟩ ⟨hB⟩
end
def EN:Code→Nat→Option (Array Oper)
 | .region id ops _,k=>if id == k then some ops else none
 | .seq a b,k=>match EN a k with
  | some o=>some o
  | none=>EN b k
 | .cond _ a b,k=>match EN a k with
  | some o=>some o
  | none=>EN b k
 | .block _ c,k=>EN c k
 | .loop c,k=>EN c k
 | .scope c,k=>EN c k
 | .rangeFunc _ _ a b,k=>match EN a k with
  | some o=>some o
  | none=>EN b k
 | _,_=>none
def opsOf (f:Func)(k:Nat):Array Oper:=((f.body.bind fun c=>EN c k)).getD #[]
end Go.Proofs.Yw.PrintLast
end
section
namespace Go.Proofs.Yy.TA
def EP (v:Nat):UInt8:=UInt8.ofNat (48+v % 2)
def bs:Nat→Nat→List UInt8
 | 0,_ => []
 | w+1,v=>bs w (v / 2) ++ [EP v]
theorem two_pos (k:Nat):0<2 ^ k:=Nat.two_pow_pos k
theorem bs_len (w:Nat):∀ v:Nat,(bs w v).length=w:=by
 induction w with
 | zero=>intro v;rfl
 | succ w ih=>intro v;rw[bs,List.length_append,ih];rfl
theorem aa0 (w:Nat):∀ v k:Nat,k≤w→(bs w v).take k=bs k (v / 2 ^ (w-k)):=by
 induction w with
 | zero => intro v k h; obtain rfl : k = 0 := by omega
           simp[bs]
 | succ w ih =>
  intro v k h
  by_cases hk:k=w+1
  ·subst hk
   rw[List.take_of_length_le (by rw[bs_len];omega),Nat.sub_self,Nat.pow_zero,Nat.div_one]
  ·rw[bs,List.take_append_of_le_length (by rw[bs_len];omega),ih _ _ (by omega),Nat.div_div_eq_div_mul,show w+1-k=(w-k)+1 by omega,Nat.pow_succ,Nat.mul_comm]
theorem aaJ (w:Nat):∀ v k:Nat,k≤w→(bs w v).drop k=bs (w-k) v:=by
 induction w with
 | zero => intro v k h; obtain rfl : k = 0 := by omega
           simp[bs]
 | succ w ih =>
  intro v k h
  by_cases hk:k=w+1
  ·subst hk
   rw[List.drop_of_length_le (by rw[bs_len];omega),Nat.sub_self];rfl
  ·rw[bs,List.drop_append_of_le_length (by rw[bs_len];omega),ih _ _ (by omega),show w+1-k=(w-k)+1 by omega];rfl
theorem abf (v m:Nat)(h:0<m):EP (v % 2 ^ m)=EP v:=by
 obtain⟨m,rfl⟩:∃ j,m=j+1:=⟨m-1,by omega⟩
 unfold EP;rw[Nat.pow_succ,Nat.mul_comm,Nat.mod_mul_right_mod]
theorem G9 (v m:Nat):v % 2 ^ (m+1) / 2=v / 2 % 2 ^ m:=by
 rw[Nat.pow_succ,Nat.mul_comm,Nat.mod_mul_right_div_self]
theorem yY (a x:Nat)(b:Nat):∀ y:Nat,bs a x++bs b y=bs (a+b) (x*2 ^ b+y % 2 ^ b):=by
 induction b with
 | zero=>intro y;rw[Nat.pow_zero,Nat.mul_one,Nat.mod_one];simp[bs]
 | succ b ih =>
  intro y
  have h1:(x*2 ^ (b+1)+y % 2 ^ (b+1)) / 2=x*2 ^ b+y / 2 % 2 ^ b:=by
   rw[← G9,Nat.pow_succ, ← Nat.mul_assoc];omega
  have h2:EP (x*2 ^ (b+1)+y % 2 ^ (b+1))=EP y:=by
   rw[← abf y (b+1) (by omega)];unfold EP;rw[Nat.pow_succ, ← Nat.mul_assoc];congr 2;omega
  rw[bs, ← List.append_assoc,ih, ← Nat.add_assoc,bs,h1,h2]
theorem ab6 (w:Nat):List.replicate w (48:UInt8)=bs w 0:=by
 induction w with
 | zero=>rfl
 | succ w ih=>rw[List.replicate_succ',ih];rfl
theorem aa6 (w:Nat):List.replicate w (49:UInt8)=bs w (2 ^ w-1):=by
 induction w with
 | zero=>rfl
 | succ w ih =>
  have hp:=two_pos w;rw[List.replicate_succ',ih,bs,show (2 ^ (w+1)-1) / 2=2 ^ w-1 by rw[Nat.pow_succ];omega]
  congr 2
  unfold EP;rw[show (2 ^ (w+1)-1) % 2=1 by rw[Nat.pow_succ];omega];rfl
def num (l:List UInt8):Nat:=l.foldl (fun x c=>2*x+(c.toNat-48)) 0
theorem Dw (v:Nat):(EP v).toNat=48+v % 2:=by
 unfold EP;rw[UInt8.toNat_ofNat'];omega
theorem Ha (l:List UInt8)(c:UInt8):num (l ++ [c])=2*num l+(c.toNat-48):=by unfold num;rw[List.foldl_append];rfl
theorem ZV (w:Nat):∀ v:Nat,num (bs w v)=v % 2 ^ w:=by
 induction w with
 | zero=>intro v;rw[Nat.pow_zero,Nat.mod_one];rfl
 | succ w ih =>
  intro v;rw[bs,Ha,ih,Dw, ← G9]
  have h1:v % 2 ^ (w+1) % 2=v % 2:=by rw[Nat.pow_succ,Nat.mul_comm,Nat.mod_mul_right_mod]
  omega
theorem Zp (w:Nat):∀ v:Nat,(bs w v).contains 49=decide (v % 2 ^ w≠0):=by
 induction w with
 | zero=>intro v;rw[Nat.pow_zero,Nat.mod_one];rfl
 | succ w ih =>
  intro v
  have h1:v % 2 ^ (w+1) % 2=v % 2:=by rw[Nat.pow_succ,Nat.mul_comm,Nat.mod_mul_right_mod]
  have h2:=G9 v w
  have h3:(49 == EP v)=decide (v % 2=1):=by
   unfold EP
   rcases Nat.mod_two_eq_zero_or_one v with h|h <;> rw[h] <;> rfl
  rw[bs,List.contains_append];rw[show [EP v].contains 49=(49 == EP v) by simp only[List.contains_cons,List.contains_nil,Bool.or_false],ih,h3, ← Bool.decide_or];exact decide_eq_decide.2 (by omega)
def SK (s:Int):Nat:=if 0≤s / 4 then (s / 4).toNat+2 else (-(s / 4)).toNat+1
def ZY (s:Int):Nat:=if 0≤s / 4 then 2 ^ ((s / 4).toNat+2)-2 else 1
def hL (s:Int):Nat:=SK s+2
def hV (s:Int):Nat:=ZY s*4+(s % 4).toNat
theorem TU (s:Int):4≤hL s:=by unfold hL SK;split <;> omega
theorem acD (s:Int):ZY s<2 ^ SK s:=by
 unfold ZY SK
 split
 ·have:=two_pos ((s / 4).toNat+2);omega
 ·rename_i h
  obtain⟨m,hm⟩:∃ m,(-(s / 4)).toNat+1=m+1:=⟨_,rfl⟩
  rw[hm,Nat.pow_succ];have:=two_pos m;omega
theorem Ye (s:Int):hV s<2 ^ hL s:=by
 have h:=acD s;unfold hV hL;rw[Nat.pow_add];omega
def zU (s:Int)(F T:Nat):Nat:=hV s*2 ^ F+(T-2 ^ F)
def lft (r h:Nat)(c:Bool):Nat:=if h<r then 3 else if r=h then (if c=true then 3 else 2) else if 0<r∨c=true then 1 else 0
def xG (n:Nat)(s:Int)(F:Nat):Nat:=hL s+F-(n-1)
def BV (n:Nat)(s:Int)(F T:Nat):Nat:=zU s F T / 2 ^ xG n s F
def I4 (n:Nat)(s:Int)(F T:Nat)(c:Bool):Nat:=lft (zU s F T % 2 ^ xG n s F) (2 ^ (xG n s F-1)) c
theorem FO (s:Int)(F j T:Nat)(h:2 ^ (F+j)≤T):zU s (F+j) T=zU s F (T / 2 ^ j)*2 ^ j+T % 2 ^ j:=by
 have hp:=two_pos j
 have h1:2 ^ F≤T / 2 ^ j:=by rw[Nat.le_div_iff_mul_le hp, ← Nat.pow_add];exact h
 have h2:=Nat.div_add_mod T (2 ^ j)
 have h3:(T / 2 ^ j-2 ^ F)*2 ^ j=T / 2 ^ j*2 ^ j-2 ^ (F+j):=by rw[Nat.sub_mul,Nat.pow_add]
 have h4:2 ^ (F+j)≤T / 2 ^ j*2 ^ j:=by rw[Nat.pow_add];exact Nat.mul_le_mul_right _ h1
 unfold zU;rw[Nat.add_mul,Nat.mul_assoc, ← Nat.pow_add,h3,Nat.mul_comm (2 ^ j)]at *
 omega
theorem yS (r g h j:Nat)(c:Bool)(hh:0<h)(hg:g<2 ^ j):lft (r*2 ^ j+g) (h*2 ^ j) c=lft r h (c || decide (g≠0)):=by
 have hp:=two_pos j;unfold lft
 by_cases h1:h<r
 ·rw[if_pos h1,if_pos]
  have:(h+1)*2 ^ j≤r*2 ^ j:=Nat.mul_le_mul_right _ h1;rw[Nat.add_mul]at this;omega
 ·by_cases h2:r=h
  ·subst h2
   by_cases h3:g=0
   ·subst h3;simp
   ·rw[if_pos (by omega),if_neg h1,if_pos rfl,if_pos (by simp[h3])]
  ·have:(r+1)*2 ^ j≤h*2 ^ j:=Nat.mul_le_mul_right _ (by omega)
   rw[Nat.add_mul]at this;rw[if_neg (by omega),if_neg (by omega),if_neg h1,if_neg h2]
   have h4:(0<r*2 ^ j+g∨c=true) ↔ (0<r∨(c || decide (g≠0))=true):=by
    have h5:0<r*2 ^ j ↔ 0<r:=Nat.mul_pos_iff_of_pos_right hp
    have h6:((c || decide (g≠0))=true) ↔ (c=true∨g≠0):=by simp
    rw[h6, ← h5]
    constructor
    ·rintro (h|h)
     ·by_cases h7:g=0
      ·exact .inl (by omega)
      ·exact .inr (.inr h7)
     ·exact .inr (.inl h)
    ·rintro (h|h|h)
     ·exact .inl (by omega)
     ·exact .inr h
     ·exact .inl (by omega)
   by_cases h5:0<r*2 ^ j+g∨c=true
   ·rw[if_pos h5,if_pos (h4.1 h5)]
   ·rw[if_neg h5,if_neg (fun h=>h5 (h4.2 h))]
theorem FU (n:Nat)(s:Int)(F j:Nat)(h:n-1≤hL s+F):xG n s (F+j)=xG n s F+j:=by unfold xG;omega
theorem O6 (n:Nat)(s:Int)(F j T:Nat)(h:2 ^ (F+j)≤T)(hn:n-1≤hL s+F):BV n s (F+j) T=BV n s F (T / 2 ^ j):=by
 unfold BV;rw[FU n s F j hn,FO s F j T h,Nat.pow_add,Nat.mul_comm (2 ^ xG n s F), ← Nat.div_div_eq_div_mul,Nat.mul_comm _ (2 ^ j),Nat.mul_add_div (two_pos j),Nat.div_eq_of_lt (Nat.mod_lt _ (two_pos j)),Nat.add_zero]
theorem O0 (n:Nat)(s:Int)(F j T:Nat)(c:Bool)(h:2 ^ (F+j)≤T)(hn:n-1<hL s+F):I4 n s (F+j) T c=I4 n s F (T / 2 ^ j) (c || decide (T % 2 ^ j≠0)):=by
 have hL1:1≤xG n s F:=by unfold xG;omega
 have hlt:=Nat.mod_lt T (two_pos j);unfold I4;rw[FU n s F j (by omega),FO s F j T h, ← yS _ _ _ _ _ (two_pos _) hlt]
 congr 1
 ·rw[Nat.pow_add,Nat.mul_comm (2 ^ xG n s F),Nat.mod_mul,Nat.mul_comm _ (2 ^ j),Nat.mul_add_mod,Nat.mod_mod,Nat.mul_add_div (two_pos j),Nat.div_eq_of_lt hlt,Nat.add_zero,Nat.mul_comm];omega
 ·rw[← Nat.pow_add];congr 1;omega
def Rel (W:Nat)(c:Bool)(X L:Nat)(c0:Bool):Prop := ∃ z,2 ^ 128*X=W*2 ^ L+z∧z<2 ^ L∧c=(c0 || decide (z≠0))
theorem Rel.start {f:Nat}(c:Bool):Rel (2*f) c f 127 c:=⟨0,by omega,two_pos _,by simp⟩
theorem Rel.under {W X L:Nat}{c c0:Bool}(h:Rel W c X L c0)(b m:Nat)(hm:m≤128):Rel (W / 2 ^ m+b*2 ^ (128-m)) (c || decide (W % 2 ^ m≠0)) (b*2 ^ L+X) (L+m) c0:=by
 obtain⟨z,h1,h2,h3⟩:=h;have e1:=Nat.div_add_mod W (2 ^ m)
 have e2:2 ^ (128-m)*2 ^ (L+m)=2 ^ 128*2 ^ L:=by rw[← Nat.pow_add, ← Nat.pow_add];congr 1;omega
 have e3:=Nat.mod_lt W (two_pos m);have e4:(W % 2 ^ m+1)*2 ^ L≤2 ^ m*2 ^ L:=Nat.mul_le_mul_right _ e3;refine⟨W % 2 ^ m*2 ^ L+z,?_,?_,?_⟩
 ·rw[Nat.mul_add,h1,Nat.add_mul,Nat.mul_assoc b,e2]
  have:W / 2 ^ m*2 ^ (L+m)+W % 2 ^ m*2 ^ L=W*2 ^ L:=by
   rw[Nat.pow_add,Nat.mul_comm (2 ^ L), ← Nat.mul_assoc, ← Nat.add_mul,Nat.mul_comm (W / 2 ^ m),e1]
  rw[Nat.mul_left_comm (2 ^ 128)];omega
 ·rw[Nat.pow_add,Nat.mul_comm (2 ^ L)];rw[Nat.add_mul]at e4;omega
 ·rw[h3,Bool.or_assoc, ← Bool.decide_or]
  congr 1
  refine decide_eq_decide.2 ?_
  have:W % 2 ^ m*2 ^ L=0 ↔ W % 2 ^ m=0:=by
   rw[Nat.mul_eq_zero];have:=two_pos L;omega
  omega
theorem Jc (r h j:Nat)(c:Bool)(hh:0<h):lft (r*2 ^ j) (h*2 ^ j) c=lft r h c:=by
 have:=yS r 0 h j c hh (two_pos j)
 simpa using this
theorem Rel.cut {W X L n:Nat}{c c0:Bool}(h:Rel W c X L c0)(hn:1≤n)(hn2:n≤128)(hL:n≤L) :
  W / 2 ^ (129-n)=X / 2 ^ (L-(n-1))∧lft (W % 2 ^ (129-n)) (2 ^ (128-n)) c=lft (X % 2 ^ (L-(n-1))) (2 ^ (L-(n-1)-1)) c0:=by
 obtain⟨z,h1,h2,h3⟩:=h
 have e0:2 ^ 128*2 ^ (L-(n-1))=2 ^ L*2 ^ (129-n):=by rw[← Nat.pow_add, ← Nat.pow_add];congr 1;omega
 have e1:X / 2 ^ (L-(n-1))=(W*2 ^ L+z) / (2 ^ L*2 ^ (129-n)):=by rw[← e0, ← h1,Nat.mul_div_mul_left _ _ (two_pos 128)]
 have e2:2 ^ 128*(X % 2 ^ (L-(n-1)))=(W*2 ^ L+z) % (2 ^ L*2 ^ (129-n)):=by rw[← e0, ← h1,Nat.mul_mod_mul_left]
 rw[Nat.mul_comm W]at e1 e2;rw[← Nat.div_div_eq_div_mul,Nat.mul_add_div (two_pos L),Nat.div_eq_of_lt h2,Nat.add_zero]at e1;rw[Nat.mod_mul,Nat.mul_add_mod,Nat.mod_eq_of_lt h2,Nat.mul_add_div (two_pos L),Nat.div_eq_of_lt h2,Nat.add_zero]at e2;refine⟨e1.symm,?_⟩;rw[h3, ← Jc (X % _) _ 128 c0 (two_pos _), ← yS _ z _ L _ (two_pos _) h2]
 congr 1
 ·rw[Nat.mul_comm (X % _),e2,Nat.mul_comm (2 ^ L)];omega
 ·rw[← Nat.pow_add, ← Nat.pow_add];congr 1;omega
theorem af6 {W n:Nat}{c:Bool}(hn:1≤n)(hn2:n≤64):lft (W % 2 ^ (129-n)*2 ^ (n-1) / 2 ^ 64) (2 ^ 63) (c || decide (W % 2 ^ (129-n)*2 ^ (n-1) % 2 ^ 64≠0))=lft (W % 2 ^ (129-n)) (2 ^ (128-n)) c:=by
 rw[← yS _ _ _ 64 c (two_pos _) (Nat.mod_lt _ (two_pos 64)), ← Jc (W % 2 ^ (129-n)) _ (n-1) c (two_pos _)]
 congr 1
 ·exact Nat.div_add_mod' _ _
 ·rw[← Nat.pow_add, ← Nat.pow_add];congr 1;omega
def rne (A C:Nat):Nat:=if C<2*(A % C)∨(2*(A % C)=C∧A / C % 2=1) then A / C+1 else A / C
theorem JL (A C:Nat){m:Nat}(hm:0<m):rne (A*m) (C*m)=rne A C:=by
 unfold rne;rw[Nat.mul_mod_mul_right,Nat.mul_div_mul_right _ _ hm]
 have h1:C*m<2*(A % C*m) ↔ C<2*(A % C):=by rw[← Nat.mul_assoc];exact Nat.mul_lt_mul_right hm
 have h2:2*(A % C*m)=C*m ↔ 2*(A % C)=C:=by rw[← Nat.mul_assoc];exact Nat.mul_left_inj (by omega)
 by_cases h:C<2*(A % C)∨(2*(A % C)=C∧A / C % 2=1)
 ·rw[if_pos h,if_pos];rw[h1,h2];exact h
 ·rw[if_neg h,if_neg];rw[h1,h2];exact h
def rnd (p l:Nat):Nat:=if l=3∨(l=2∧p % 2=1) then p+1 else p
theorem abr {n F N C:Nat}(s:Int)(hC:0<C)(h1:C≤N)(hn:n-1<hL s+F) :
  rnd (BV n s F (N*2 ^ F / C)) (I4 n s F (N*2 ^ F / C) (decide (N*2 ^ F % C≠0)))=rne ((hV s*C+(N-C))*2 ^ (n-1)) (C*2 ^ hL s):=by
 obtain⟨H,hH⟩:∃ H,2 ^ (xG n s F-1)=H:=⟨_,rfl⟩
 have hH0:0<H:=by rw[← hH];exact two_pos _
 have hK:2 ^ xG n s F=2*H:=by
  rw[← hH,Nat.mul_comm, ← Nat.pow_succ];congr 1;unfold xG;omega
 have hpow:2 ^ hL s*2 ^ F=2 ^ xG n s F*2 ^ (n-1):=by rw[← Nat.pow_add, ← Nat.pow_add];congr 1;unfold xG;omega
 obtain⟨T,hT⟩:∃ T,N*2 ^ F / C=T:=⟨_,rfl⟩
 obtain⟨z,hz⟩:∃ z,N*2 ^ F % C=z:=⟨_,rfl⟩
 have hzC:z<C:=by rw[← hz];exact Nat.mod_lt _ hC
 have hd:C*T+z=N*2 ^ F:=by rw[← hT, ← hz];exact Nat.div_add_mod _ _
 have hT1:2 ^ F≤T:=by rw[← hT,Nat.le_div_iff_mul_le hC,Nat.mul_comm];exact Nat.mul_le_mul_right _ h1
 obtain⟨X,hX⟩:∃ X,zU s F T=X:=⟨_,rfl⟩
 have hXd:(hV s*C+(N-C))*2 ^ F=C*X+z:=by
  rw[← hX];unfold zU;rw[Nat.add_mul,Nat.sub_mul, ← hd,Nat.mul_add,Nat.mul_sub,Nat.mul_comm (hV s) C,Nat.mul_assoc];have:=Nat.mul_le_mul_left C hT1
  omega
 have e1:rne ((hV s*C+(N-C))*2 ^ (n-1)) (C*2 ^ hL s)=rne (C*X+z) (C*(2*H)):=by
  rw[← JL _ _ (two_pos F),Nat.mul_right_comm,hXd,Nat.mul_assoc C,hpow,hK, ← Nat.mul_assoc C,JL _ _ (two_pos _)]
 have e2:(C*X+z) / (C*(2*H))=X / (2*H):=by rw[← Nat.div_div_eq_div_mul,Nat.mul_add_div hC,Nat.div_eq_of_lt hzC,Nat.add_zero]
 have e3:(C*X+z) % (C*(2*H))=C*(X % (2*H))+z:=by
  rw[Nat.mod_mul,Nat.mul_add_mod,Nat.mod_eq_of_lt hzC,Nat.mul_add_div hC,Nat.div_eq_of_lt hzC,Nat.add_zero,Nat.add_comm]
 rw[hT,hz,e1];unfold BV I4 rnd rne lft;rw[hX,hH,hK,e2,e3]
 obtain⟨r,hr⟩:∃ r,X % (2*H)=r:=⟨_,rfl⟩
 rw[hr]
 have c1:C*(2*H)<2*(C*r+z) ↔ (H<r∨(r=H∧z≠0)):=by
  rw[show C*(2*H)=2*(C*H) by rw[Nat.mul_left_comm]]
  constructor
  ·intro h
   by_cases a:H<r
   ·exact .inl a
   ·by_cases b:r=H
    ·subst b;exact .inr ⟨rfl,by omega⟩
    ·exfalso
     have:C*(r+1)≤C*H:=Nat.mul_le_mul_left _ (by omega);rw[Nat.mul_add]at this;omega
  ·rintro (h|⟨h,hz⟩)
   ·have:C*(H+1)≤C*r:=Nat.mul_le_mul_left _ h
    rw[Nat.mul_add]at this;omega
   ·subst h;omega
 have c2:2*(C*r+z)=C*(2*H) ↔ (r=H∧z=0):=by
  rw[show C*(2*H)=2*(C*H) by rw[Nat.mul_left_comm]]
  constructor
  ·intro h
   by_cases a:H<r
   ·have:C*(H+1)≤C*r:=Nat.mul_le_mul_left _ a
    rw[Nat.mul_add]at this;omega
   ·by_cases b:r=H
    ·subst b;exact⟨rfl,by omega⟩
    ·exfalso
     have:C*(r+1)≤C*H:=Nat.mul_le_mul_left _ (by omega);rw[Nat.mul_add]at this;omega
  ·rintro⟨h,hz⟩;subst h;omega
 simp only[c1,c2]
 by_cases a:H<r
 ·simp[a]
 ·by_cases b:r=H
  ·subst b
   by_cases c:z=0
   ·simp[c]
   ·simp[c]
  ·simp only[a,b,if_false,false_and,or_self]
   split <;> simp
def up (s:Int)(N:Nat):Nat:=N*2 ^ (-s).toNat
def dn (s:Int)(C:Nat):Nat:=C*2 ^ s.toNat
def Sc (N C:Nat)(s:Int):Prop:=dn s C≤up s N∧up s N<2*dn s C
def top (n:Nat):Int:=4*(n:Int)-8
def sig (n:Nat)(s:Int)(N C:Nat):Nat:=rne ((hV s*dn s C+(up s N-dn s C))*2 ^ (n-1)) (dn s C*2 ^ hL s)
def pos (n:Nat)(s:Int)(N C:Nat):Nat:=if top n≤s then 2 ^ (n-1)-1 else if s < -top n then 1 else sig n s N C
theorem Zr {s:Int}{C:Nat}(h:0<C):0<dn s C:=Nat.mul_pos h (two_pos _)
theorem Q8 {N C:Nat}{s:Int}(K:Nat)(h : -s≤K):Sc N C s ↔ C*2 ^ (s+K).toNat≤N*2 ^ K∧N*2 ^ K<2*(C*2 ^ (s+K).toNat):=by
 unfold Sc up dn
 by_cases h0:0≤s
 ·have e1:(-s).toNat=0:=by omega
  have e2:(s+K).toNat=s.toNat+K:=by omega
  have hp:=two_pos K;rw[e1,e2,Nat.pow_zero,Nat.mul_one,Nat.pow_add, ← Nat.mul_assoc C, ← Nat.mul_assoc 2 (C*2 ^ s.toNat)];rw[Nat.mul_le_mul_right_iff hp,Nat.mul_lt_mul_right hp]
 ·have e1:s.toNat=0:=by omega
  have e2:K=(-s).toNat+(s+K).toNat:=by omega
  have hp:=two_pos (s+K).toNat;rw[e1,Nat.pow_zero,Nat.mul_one]
  conv=>rhs;rw[show N*2 ^ K=N*2 ^ (-s).toNat*2 ^ (s+K).toNat by rw[Nat.mul_assoc, ← Nat.pow_add, ← e2]]
  rw[← Nat.mul_assoc 2,Nat.mul_le_mul_right_iff hp,Nat.mul_lt_mul_right hp]
theorem Fv {N C:Nat}{s:Int}(h:Sc N C s):0<C∧0<N:=by
 obtain⟨h1,h2⟩:=h
 have a:0<dn s C:=by omega
 have b:0<up s N:=by omega
 exact⟨Nat.pos_of_mul_pos_right a,Nat.pos_of_mul_pos_right b⟩
theorem Yc {N C s N' C' s'}(h:Sc N C s)(h':Sc N' C' s')(hle:N*C'≤N' * C):s≤s':=by
 obtain⟨hC,hN⟩:=Fv h;obtain⟨hC',hN'⟩:=Fv h'
 apply Int.not_lt.1
 intro hlt
 obtain⟨K,hK⟩:∃ K:Nat, -s'≤K:=⟨(-s').toNat,by omega⟩
 obtain⟨a1,a2⟩:=(Q8 K (by omega)).1 h;obtain⟨b1,b2⟩:=(Q8 K hK).1 h'
 obtain⟨d,hd⟩:∃ d:Nat,(s+K).toNat=(s'+K).toNat+1+d:=⟨(s-s' - 1).toNat,by omega⟩
 obtain⟨P,hP⟩:∃ P,2 ^ (s'+K).toNat=P:=⟨_,rfl⟩
 rw[hP]at b1 b2;rw[hd,Nat.pow_add,Nat.pow_succ,hP]at a1;have c1:C*(P*2)≤N*2 ^ K:=Nat.le_trans (by rw[← Nat.mul_assoc C (P*2)];exact Nat.le_mul_of_pos_right _ (two_pos d)) a1;have c2:C*(P*2)*C'≤N*2 ^ K*C':=Nat.mul_le_mul_right _ c1;have c3:N' * 2 ^ K*C<2*(C' * P)*C:=Nat.mul_lt_mul_of_pos_right b2 hC;have c4:N*C' * 2 ^ K≤N' * C*2 ^ K:=Nat.mul_le_mul_right _ hle
 have e1:C*(P*2)*C'=2*(C' * P)*C:=by ac_rfl
 have e2:N*2 ^ K*C'=N*C' * 2 ^ K:=Nat.mul_right_comm _ _ _;have e3:N' * 2 ^ K*C=N' * C*2 ^ K:=Nat.mul_right_comm _ _ _
 omega
theorem abp {N C s s'}(h:Sc N C s)(h':Sc N C s'):s=s':=by
 have:=Yc h h' (Nat.le_refl _);have:=Yc h' h (Nat.le_refl _)
 omega
structure Rep (N C:Nat) (s:Int) (hi:Nat) (st:Bool):Prop where
 sc:Sc N C s
 eq:hi=up s N*2 ^ 63 / dn s C
 st:st=decide (up s N*2 ^ 63 % dn s C≠0)
theorem Rep.sig {N C s hi st}(h:Rep N C s hi st){n:Nat}(hn:n≤64):rnd (BV n s 63 hi) (I4 n s 63 hi st)=sig n s N C:=by
 have hL4:=TU s;rw[h.eq,h.st];exact abr s (Zr (Fv h.sc).1) h.sc.1 (by omega)
theorem Q9 (K A c:Nat)(hK:0<K)(hc:0<c):A*K / c / K=A / c∧decide (A % c≠0)=(decide (A*K % c≠0) || decide (A*K / c % K≠0)):=by
 have hr:=Nat.mod_lt A hc;have hd:=Nat.div_add_mod A c
 obtain⟨q,hq⟩:∃ q,A / c=q:=⟨_,rfl⟩
 obtain⟨r,hr'⟩:∃ r,A % c=r:=⟨_,rfl⟩
 rw[hq,hr']at hd;rw[hr']at hr
 have e1:A*K=c*(q*K)+r*K:=by rw[← hd,Nat.add_mul,Nat.mul_assoc]
 have e2:A*K / c=K*q+r*K / c:=by rw[e1,Nat.mul_add_div hc,Nat.mul_comm q]
 have e3:A*K % c=r*K % c:=by rw[e1,Nat.mul_add_mod]
 have e4:r*K / c<K:=by rw[Nat.div_lt_iff_lt_mul hc,Nat.mul_comm];exact Nat.mul_lt_mul_of_pos_left hr hK
 have d2:=Nat.div_add_mod (r*K) c;rw[e2,e3,hq,hr']
 obtain⟨y,hy⟩:∃ y,r*K / c=y:=⟨_,rfl⟩
 obtain⟨z,hz⟩:∃ z,r*K % c=z:=⟨_,rfl⟩
 rw[hy]at e4 d2 ⊢;rw[hz]at d2 ⊢;rw[Nat.mul_add_div hK,Nat.div_eq_of_lt e4,Nat.add_zero,Nat.mul_add_mod,Nat.mod_eq_of_lt e4, ← Bool.decide_or];refine⟨rfl,decide_eq_decide.2 ?_⟩
 constructor
 ·intro h
  by_cases hz0:z=0
  ·right;intro hy0;subst hy0;subst hz0
   rw[Nat.mul_zero,Nat.add_zero]at d2;rcases Nat.mul_eq_zero.1 d2.symm with a|a
   ·exact h a
   ·omega
  ·left;exact hz0
 ·intro h hr0
  subst hr0;rw[Nat.zero_mul,Nat.zero_div]at hy;rw[Nat.zero_mul,Nat.zero_mod]at hz
  omega
theorem Rep.agz {N C:Nat}{s:Int}{T:Nat}{c:Bool}(h:Sc N C s)(hT:T=up s N*2 ^ 127 / dn s C)(hc:c=decide (up s N*2 ^ 127 % dn s C≠0)):Rep N C s (T / 2 ^ 64) (c || decide (T % 2 ^ 64≠0)):=by
 have hd:=Zr (s:=s) (Fv h).1
 have e:up s N*2 ^ 127=up s N*2 ^ 63*2 ^ 64:=by rw[Nat.mul_assoc, ← Nat.pow_add]
 obtain⟨h1,h2⟩:=Q9 (2 ^ 64) (up s N*2 ^ 63) (dn s C) (two_pos _) hd;exact⟨h,by rw[hT,e];exact h1,by rw[hc,hT,e];exact h2.symm⟩
theorem scaled (N C u b F:Nat)(hb:1≤b)(hC:0<C) :
  up ((b:Int)-1-u) N*2 ^ F / dn ((b:Int)-1-u) C=N*2 ^ u*2 ^ F / (C*2 ^ (b-1)) ∧
  decide (up ((b:Int)-1-u) N*2 ^ F % dn ((b:Int)-1-u) C≠0)=decide (N*2 ^ u*2 ^ F % (C*2 ^ (b-1))≠0):=by
 obtain⟨x,hx1,hx2⟩:∃ x,up ((b:Int)-1-u) N*2 ^ F*2 ^ x=N*2 ^ u*2 ^ F∧dn ((b:Int)-1-u) C*2 ^ x=C*2 ^ (b-1):=by
  by_cases h:0≤(b:Int)-1-u
  ·refine⟨u,?_,?_⟩
   ·unfold up;rw[show (-((b:Int)-1-u)).toNat=0 by omega,Nat.pow_zero,Nat.mul_one];ac_rfl
   ·unfold dn;rw[Nat.mul_assoc, ← Nat.pow_add,show ((b:Int)-1-u).toNat+u=b-1 by omega]
  ·refine⟨b-1,?_,?_⟩
   ·unfold up;rw[Nat.mul_right_comm,Nat.mul_assoc N, ← Nat.pow_add,show (-((b:Int)-1-u)).toNat+(b-1)=u by omega]
   ·unfold dn;rw[show ((b:Int)-1-u).toNat=0 by omega,Nat.pow_zero,Nat.mul_one]
 rw[← hx1, ← hx2,Nat.mul_div_mul_right _ _ (two_pos x),Nat.mul_mod_mul_right];refine⟨rfl,decide_eq_decide.2 ?_⟩;have:=two_pos x;rw[Ne,Ne,Nat.mul_eq_zero];omega
theorem afP {N C u q r b F:Nat}(hC:0<C)(hq:N*2 ^ u=C*q+r)(hr:r<C)(hF:F+1≤b) :
  up ((b:Int)-1-u) N*2 ^ F / dn ((b:Int)-1-u) C=q / 2 ^ (b-1-F) ∧
  decide (up ((b:Int)-1-u) N*2 ^ F % dn ((b:Int)-1-u) C≠0)=(decide (q % 2 ^ (b-1-F)≠0) || decide (r≠0)):=by
 obtain⟨e1,e2⟩:=scaled N C u b F (by omega) hC;rw[e1,e2,hq]
 have e3:C*2 ^ (b-1)=C*2 ^ (b-1-F)*2 ^ F:=by rw[Nat.mul_assoc, ← Nat.pow_add];congr 2;omega
 rw[e3,Nat.mul_div_mul_right _ _ (two_pos F),Nat.mul_mod_mul_right, ← Nat.div_div_eq_div_mul,Nat.mul_add_div hC,Nat.div_eq_of_lt hr,Nat.add_zero];refine⟨rfl,?_⟩;rw[Nat.mod_mul,Nat.mul_add_mod,Nat.mod_eq_of_lt hr,Nat.mul_add_div hC,Nat.div_eq_of_lt hr,Nat.add_zero, ← Bool.decide_or];refine decide_eq_decide.2 ?_;have:=two_pos F;rw[Ne,Nat.mul_eq_zero,Nat.add_eq_zero_iff,Nat.mul_eq_zero];omega
theorem af0 {N C u q b F:Nat}(hC:0<C)(hq:N*2 ^ u=C*q)(hb:1≤b)(hF:b≤F+1) :
  up ((b:Int)-1-u) N*2 ^ F / dn ((b:Int)-1-u) C=q*2 ^ (F+1-b) ∧
  decide (up ((b:Int)-1-u) N*2 ^ F % dn ((b:Int)-1-u) C≠0)=false:=by
 obtain⟨e1,e2⟩:=scaled N C u b F hb hC
 have e3:C*q*2 ^ F=C*2 ^ (b-1)*(q*2 ^ (F+1-b)):=by
  rw[show C*2 ^ (b-1)*(q*2 ^ (F+1-b))=C*q*(2 ^ (b-1)*2 ^ (F+1-b)) by ac_rfl, ← Nat.pow_add];congr 2;omega
 rw[e1,e2,hq,e3,Nat.mul_div_cancel_left _ (Nat.mul_pos hC (two_pos _)),Nat.mul_mod_right];exact⟨rfl,by simp⟩
theorem ScQ {N C u q r b:Nat}(hC:0<C)(hq:N*2 ^ u=C*q+r)(hr:r<C)(h1:2 ^ (b-1)≤q)(h2:q<2 ^ b)(hb:1≤b):Sc N C ((b:Int)-1-u):=by
 rw[Q8 u (by omega),show ((b:Int)-1-u+u).toNat=b-1 by omega,hq];have a1:=Nat.mul_le_mul_left C h1;have a2:C*(q+1)≤C*2 ^ b:=Nat.mul_le_mul_left C h2
 obtain⟨m,rfl⟩:∃ m,b=m+1:=⟨b-1,by omega⟩
 rw[Nat.pow_succ, ← Nat.mul_assoc,Nat.mul_add]at a2;rw[Nat.add_sub_cancel]at a1 ⊢
 omega
theorem Rep.ofQ {N C u q r b:Nat}(hC:0<C)(hq:N*2 ^ u=C*q+r)(hr:r<C)(h1:2 ^ (b-1)≤q)(h2:q<2 ^ b)(hb:64≤b) :
  Rep N C ((b:Int)-1-u) (q / 2 ^ (b-64)) (decide (q % 2 ^ (b-64)≠0) || decide (r≠0)):=by
 obtain⟨e1,e2⟩:=afP (F:=63) hC hq hr (by omega);rw[show b-1-63=b-64 by omega]at e1 e2;exact⟨ScQ hC hq hr h1 h2 (by omega),e1.symm,e2.symm⟩
theorem Rep.ofE {N C u q b:Nat}(hC:0<C)(hq:N*2 ^ u=C*q)(h1:2 ^ (b-1)≤q)(h2:q<2 ^ b)(hb:1≤b)(hb2:b≤64) :
  Rep N C ((b:Int)-1-u) (q*2 ^ (64-b)) false:=by
 obtain⟨e1,e2⟩:=af0 (F:=63) hC hq hb (by omega);exact⟨ScQ (r:=0) hC (by rw[hq,Nat.add_zero]) hC h1 h2 hb,e1.symm,e2.symm⟩
theorem Rep.af2 {N C u q r b:Nat}(hC:0<C)(hq:N*2 ^ u=C*q+r)(hr:r<C)(h1:2 ^ (b-1)≤q)(h2:q<2 ^ b)(hb:128≤b) :
  Rep N C ((b:Int)-1-u) (q / 2 ^ (b-128) / 2 ^ 64) ((decide (q % 2 ^ (b-128)≠0) || decide (r≠0)) || decide (q / 2 ^ (b-128) % 2 ^ 64≠0)):=by
 obtain⟨e1,e2⟩:=afP (F:=127) hC hq hr (by omega);rw[show b-1-127=b-128 by omega]at e1 e2;exact Rep.agz (ScQ hC hq hr h1 h2 (by omega)) e1.symm e2.symm
theorem Rep.agw {N C u q b:Nat}(hC:0<C)(hq:N*2 ^ u=C*q)(h1:2 ^ (b-1)≤q)(h2:q<2 ^ b)(hb:1≤b)(hb2:b≤128) :
  Rep N C ((b:Int)-1-u) (q*2 ^ (128-b) / 2 ^ 64) (decide (q*2 ^ (128-b) % 2 ^ 64≠0)):=by
 obtain⟨e1,e2⟩:=af0 (F:=127) hC hq hb (by omega);have:=Rep.agz (c:=false) (ScQ (r:=0) hC (by rw[hq,Nat.add_zero]) hC h1 h2 hb) e1.symm e2.symm
 rwa [Bool.false_or]at this
end Go.Proofs.Yy.TA
end
section
namespace Go.Proofs.Yy.Bd
open Go.Shelf Go.RowKit
abbrev IsB (B b:Nat) (l:List UInt8) (w:World):Prop:=Lib.IsBuilderF 111 5 B b (Lib.byteCells l) w
theorem Gy (l:List UInt8):(Lib.byteCells l).length=l.length:=List.length_map ..
theorem write (B b:Nat)(l:List UInt8)(s:ByteArray)(w:World)(h:IsB B b l w)(hlen:l.length+s.size≤140737488355328)(hBw:B≤w.heap.size) :
  Calls Tryz.prog 68 #[.pointer (some ⟨b,0,none⟩),.string s] w fun e w'=>e=.returned (.tuple #[.int .i64 s.size,.nilIface])∧IsB B b (l++s.data.toList) w'∧Below B w w':=by
 refine (Any.Builder_WriteString_f { Tryz.lays105 with } Tryz.Builder_Extra_105 B b (Lib.byteCells l) s w h (by rw[Gy];exact hlen) hBw).mono ?_;rintro e w' ⟨he,h1,h2⟩;refine⟨he,.inr ?_,h2⟩
 have e2:Lib.byteCells (l++s.data.toList)=Lib.byteCells l++Lib.strCells s:=by simp[Lib.byteCells,Lib.strCells]
 rw[e2];exact h1
theorem made (w:World):IsB w.heap.size w.heap.size [] (w.alloc (.cells #[.pointer none,.slice none 0 0] 111)):=by
 rcases Lib.fresh_isBuilder 111 5 w with h|h
 ·exact .inl (Lib.BuilderAtF.of h)
 ·exact .inr (Lib.BuilderAtF.of h)
theorem NE {B b:Nat}{p:Value}{bs:List Value}{w w':World}(h:Lib.BuilderAtF 111 5 B b p bs w)(hb:Below w.heap.size w w'):Lib.BuilderAtF 111 5 B b p bs w':=by
 obtain⟨hB,v,hbk,hown,hne⟩:=h;have hlt:b<w.heap.size:=(Array.getElem?_eq_some_iff.1 hbk).1;refine⟨hB,v,by rw[hb.block b hlt];exact hbk,?_,hne⟩;obtain⟨h1,h2⟩:=hown;refine⟨h1,?_⟩;rcases h2 with h2|⟨g,cap,cur,fz,hv,hBg,hg,r⟩
 ·exact .inl h2
 ·exact .inr ⟨g,cap,cur,fz,hv,hBg,by rw[hb.block g (Array.getElem?_eq_some_iff.1 hg).1];exact hg,r⟩
theorem IsB.below {B b:Nat}{l:List UInt8}{w w':World}(h:IsB B b l w)(hb:Below w.heap.size w w'):IsB B b l w':=by
 rcases h with h|h
 ·exact .inl (NE h hb)
 ·exact .inr (NE h hb)
end Go.Proofs.Yy.Bd
end
section
namespace Go.Proofs.Yy.M
theorem LD {P:Program}(t e:TypeId)(kh km:IntKind){i:TypeInfo}(ht:P.underlying t=some (.slice e))(hi:P.info? e=some i)(A:Option Addr)(n c:Nat)(j:Int)(h0:0≤j)(hm:j≤n)(hc:n≤c) :
  ∀ W:World,(Instr.slice t (.slice A n c) none (some (.int kh j)) (some (.int km j))).run P W=.ok (.slice A j.toNat j.toNat) W:=by
 intro W
 have hel:P.elem t=e:=by simp[Program.elem,ht]
 have hu:P.underlying t=some (.slice (P.elem t)):=by rw[hel];exact ht
 have ha:(A.map fun x=>x.add 0)=A:=by cases A <;> simp[Addr.add]
 rw[run_slice_hm W t A n c hu kh km j j h0 (Int.le_refl _) (by omega),hel];simp[sizeOf,typeInfo,hi,sliced,Result.andThen,ha]
theorem Be {P:Program}{ops:Array Oper}{Q:Exit→Act→World→Prop}{rest:List Oper}{oi:Oper}{a:Act}{w:World}(N:Option Tmp)(hd:oi.dst=N)(hg:oi.guard=none){f:FuncId}{xs:Array Operand}{ts:Array TypeId}(args:Array Value)(v:Value)
  (hop:oi.op=.call { callee := .value (.func f),args:=xs,argTypes:=ts }) (hargs:xs.map a.eval=args) (hrun:∀ w:World,(callFunc f args).run P w=.ok (.value v) w)
  (h:wpList P ops Q rest (a.put N v) w):wpList P ops Q (oi::rest) a w:=by
 refine wpList_plain hg fun K hK=>?_
 have hr:(execOp a.eval oi).run P w=.ok (.value v) w:=by
  unfold execOp;simp[hop,resolve,Deferred.ofValue,invoke,Act.eval,hargs,hrun]
 unfold Oper.wp;rw[hr,Oper.upon_value];subst hd;exact hK _ _ h
def fK (x y c:Int):Int:=(((x.toNat+y.toNat+c.toNat) % 18446744073709551616:Nat):Int)
def iD (x y c:Int):Int:=(((x.toNat+y.toNat+c.toNat) / 18446744073709551616:Nat):Int)
def iV (x y b:Int):Int:=(((x.toNat+18446744073709551616-y.toNat-b.toNat) % 18446744073709551616:Nat):Int)
def jY (x y b:Int):Int:=((if x.toNat<y.toNat+b.toNat then 1 else 0:Nat):Int)
def Cm:Array Value→Sem Value:=fun args=>do
 let (x, y, b) ← Extern.MathBitsCarry.three "Sub64" args
 pure (Extern.MathBitsCarry.pair ((x+Extern.MathBitsCarry.m64-y-b) % Extern.MathBitsCarry.m64) (if x<y+b then 1 else 0))
theorem dG (x y c:Int)(hc:c≤1)(w:World) :
  (callFunc 191 #[.int .u64 x,.int .u64 y,.int .u64 c]).run Tryz.prog w=.ok (.value (.tuple #[.int .u64 (fK x y c),.int .u64 (iD x y c)])) w:=by
 rw[run_callFunc_extern Tryz.func191 (by kernel_rfl) (by kernel_rfl) (by kernel_rfl) (e:=add64Entry) (by kernel_rfl)]
 have key:(add64Entry #[.int .u64 x,.int .u64 y,.int .u64 c]).run Tryz.prog w=.ok (.tuple #[.int .u64 (fK x y c),.int .u64 (iD x y c)]) w:=by
  cases c with
  | ofNat k =>
   have:k=0∨k=1:=by have:(k:Int)≤1:=hc;omega
   rcases this with rfl|rfl <;> rfl
  | negSucc k=>rfl
 rw[key]
 rfl
theorem dP (x y b:Int)(hb:b≤1)(w:World) :
  (callFunc 215 #[.int .u64 x,.int .u64 y,.int .u64 b]).run Tryz.prog w=.ok (.value (.tuple #[.int .u64 (iV x y b),.int .u64 (jY x y b)])) w:=by
 rw[run_callFunc_extern Tryz.func215 (by kernel_rfl) (by kernel_rfl) (by kernel_rfl) (e:=Cm) (by kernel_rfl)]
 have key:(Cm #[.int .u64 x,.int .u64 y,.int .u64 b]).run Tryz.prog w=.ok (.tuple #[.int .u64 (iV x y b),.int .u64 (jY x y b)]) w:=by
  cases b with
  | ofNat k =>
   have:k=0∨k=1:=by have:(k:Int)≤1:=hb;omega
   rcases this with rfl|rfl <;> rfl
  | negSucc k=>rfl
 rw[key]
 rfl
theorem afH:Tryz.prog.underlying 27=some (.interface (Tryz.prog.methodsAt 27)):=by kernel_rfl
theorem abX:Tryz.prog.underlying 64=some (.int .i64):=by kernel_rfl
theorem aa4:(Tryz.prog.info? 64).map (·.comparable)=some true:=by kernel_rfl
theorem F6 (d:Nat)(a b:Int)(w:World):(Op.equalIn (d+2) 27 (.iface 64 (.int .i64 a)) (.iface 64 (.int .i64 b))).run Tryz.prog w=.ok (a == b) w:=by
 obtain⟨i,hinfo,hcomp⟩:=Option.map_eq_some_iff.1 aa4;simp[Op.equalIn,run_underlying afH,run_underlying abX,typeInfo,hinfo,hcomp]
theorem FN (d:Nat)(b:Int)(w:World):(Op.equalIn (d+1) 27 .nilIface (.iface 64 (.int .i64 b))).run Tryz.prog w=.ok false w:=by
 simp[Op.equalIn,run_underlying afH]
theorem kR (a b:Int)(w:World):(binOp .eql 27 (.iface 64 (.int .i64 a)) (.iface 64 (.int .i64 b))).run Tryz.prog w=.ok (.bool (a == b)) w:=by
 simp only[binOp];simp[Op.equal,Op.maxDepth,F6 9998 a b w]
theorem kW (a b:Int)(w:World):(binOp .neq 27 (.iface 64 (.int .i64 a)) (.iface 64 (.int .i64 b))).run Tryz.prog w=.ok (.bool (a != b)) w:=by
 simp only[binOp];simp[Op.equal,Op.maxDepth,F6 9998 a b w,bne]
theorem kT (b:Int)(w:World):(binOp .eql 27 .nilIface (.iface 64 (.int .i64 b))).run Tryz.prog w=.ok (.bool false) w:=by
 simp only[binOp];simp[Op.equal,Op.maxDepth,FN 9999 b w]
theorem kS (b:Int)(w:World):(binOp .neq 27 .nilIface (.iface 64 (.int .i64 b))).run Tryz.prog w=.ok (.bool true) w:=by
 simp only[binOp];simp[Op.equal,Op.maxDepth,FN 9999 b w]
end Go.Proofs.Yy.M
end
section
namespace Go.Proofs.Yw.PrintWords
theorem jW.one {α:Type}{R:α→List Value→Prop}{ps:List α}{cs:List Value}{p:α}{v:Value}(hp:R p [v])(h:jW R 1 ps cs):jW R 1 (p::ps) (v::cs):=by
 refine⟨by simp[h.1],fun j q hq=>?_⟩
 cases j with
 | zero =>
  simp only[List.getElem?_cons_zero,Option.some.injEq]at hq;subst hq
  simpa using hp
 | succ j =>
  simp only[List.getElem?_cons_succ]at hq;have h1:=h.2 j q hq
  simpa [Nat.mul_one] using h1
theorem jW.front {α:Type}{R:α→List Value→Prop}{size:Nat}{ps:List α}{cs c all:List Value}{p:α}(hp:R p c)(hc:c.length=size)(h:jW R size ps cs)(ha:c++cs=all):jW R size (p::ps) all:=by
 subst ha;refine⟨by rw[List.length_append,hc,h.1,List.length_cons,Nat.succ_mul,Nat.add_comm],fun j q hq=>?_⟩
 cases j with
 | zero =>
  simp only[List.getElem?_cons_zero,Option.some.injEq]at hq;subst hq;rw[Nat.zero_mul,List.drop_zero,List.take_append_of_le_length (by omega),List.take_of_length_le (by omega)];exact hp
 | succ j =>
  simp only[List.getElem?_cons_succ]at hq;have h1:=h.2 j q hq;rw[Nat.succ_mul,List.drop_append,List.drop_of_length_le (by rw[hc];exact Nat.le_add_left _ _),List.nil_append,hc,Nat.add_sub_cancel];exact h1
theorem jW.c2 {α:Type}{R:α→List Value→Prop}{ps:List α}{cs:List Value}{p:α}{va vb:Value}(hp:R p [va,vb])(h:jW R 2 ps cs):jW R 2 (p::ps) (va::vb::cs):=jW.front hp rfl h rfl
theorem jW.c3 {α:Type}{R:α→List Value→Prop}{ps:List α}{cs:List Value}{p:α}{va vb vc:Value}(hp:R p [va,vb,vc])(h:jW R 3 ps cs):jW R 3 (p::ps) (va::vb::vc::cs):=jW.front hp rfl h rfl
theorem jW.c4 {α:Type}{R:α→List Value→Prop}{ps:List α}{cs:List Value}{p:α}{va vb vc vd:Value}(hp:R p [va,vb,vc,vd])(h:jW R 4 ps cs):jW R 4 (p::ps) (va::vb::vc::vd::cs):=jW.front hp rfl h rfl
theorem jW.c5 {α:Type}{R:α→List Value→Prop}{ps:List α}{cs:List Value}{p:α}{va vb vc vd ve:Value}(hp:R p [va,vb,vc,vd,ve])(h:jW R 5 ps cs):jW R 5 (p::ps) (va::vb::vc::vd::ve::cs):=jW.front hp rfl h rfl
theorem jW.c6 {α:Type}{R:α→List Value→Prop}{ps:List α}{cs:List Value}{p:α}{va vb vc vd ve vf:Value}(hp:R p [va,vb,vc,vd,ve,vf])(h:jW R 6 ps cs):jW R 6 (p::ps) (va::vb::vc::vd::ve::vf::cs):=jW.front hp rfl h rfl
theorem jW.c7 {α:Type}{R:α→List Value→Prop}{ps:List α}{cs:List Value}{p:α}{va vb vc vd ve vf vg:Value}(hp:R p [va,vb,vc,vd,ve,vf,vg])(h:jW R 7 ps cs):jW R 7 (p::ps) (va::vb::vc::vd::ve::vf::vg::cs):=jW.front hp rfl h rfl
theorem jW.c8 {α:Type}{R:α→List Value→Prop}{ps:List α}{cs:List Value}{p:α}{va vb vc vd ve vf vg vh:Value}(hp:R p [va,vb,vc,vd,ve,vf,vg,vh])(h:jW R 8 ps cs):jW R 8 (p::ps) (va::vb::vc::vd::ve::vf::vg::vh::cs):=jW.front hp rfl h rfl
theorem jW.c9 {α:Type}{R:α→List Value→Prop}{ps:List α}{cs:List Value}{p:α}{va vb vc vd ve vf vg vh vi:Value}(hp:R p [va,vb,vc,vd,ve,vf,vg,vh,vi])(h:jW R 9 ps cs):jW R 9 (p::ps) (va::vb::vc::vd::ve::vf::vg::vh::vi::cs):=jW.front hp rfl h rfl
theorem jW.c10 {α:Type}{R:α→List Value→Prop}{ps:List α}{cs:List Value}{p:α}{va vb vc vd ve vf vg vh vi vj:Value}(hp:R p [va,vb,vc,vd,ve,vf,vg,vh,vi,vj])(h:jW R 10 ps cs):jW R 10 (p::ps) (va::vb::vc::vd::ve::vf::vg::vh::vi::vj::cs):=jW.front hp rfl h rfl
end Go.Proofs.Yw.PrintWords
end
section
namespace Go.Proofs.Yy.Fmt
open Go.Shelf Go.RowKit Go.Sort Go.Lib
def amr (w : World) : Prop := Lib.TabIs Tryz.prog w "internal/strconv.uint64pow10" .u64 Lib.pow10Tab
theorem below_grow (w:World)(k:Nat)(os:Array Obj):Below w.heap.size w (grow (w.drewN k) os) :=
 ⟨rfl,rfl,rfl,by show w.heap.size≤(w.heap++os).size;simp,fun i hi=>by show (w.heap++os)[i]? = _;rw[Array.getElem?_append_left hi]⟩
set_option maxHeartbeats 3200000 in
set_option maxRecDepth 100000 in
theorem Bl (u:Nat)(hu64:u<18446744073709551616)(w:World)(htab:amr w) :
  Calls Tryz.prog 165 #[.int .u64 u,.int .i64 10] w fun e w'=>e=.returned (.string ⟨(Lib.decDigits u).toArray⟩)∧∃ k os,w'=grow (w.drewN k) os:=by
 by_cases hs:u<100
 ·go_enter Tryz.func165,Tryz.ntmps165
  go_wp2_with (go_at_call 198;refine (Tryz.internal_strconv_small u hs _).mono ?_;rintro e w' ⟨rfl,rfl⟩)
  go_ret
  exact⟨rfl,0,#[],by simp[World.drewN_zero]⟩
 ·have hu1:1≤u:=by omega
  have hnd20:Lib.nDigits u≤20:=by have:=Lib.numDigits_eq u hu1 hu64;split at this <;> omega
  have hb3:Lib.nDigits u≤24:=by omega
  have hal:Tryz.prog.arrayLen 268=24:=by kernel_rfl
  have hsl1:∀ W,(Instr.sliceAt 268 (.pointer (some ⟨w.heap.size,0,none⟩)) none (some (.int .i64 (Lib.nDigits u:Int))) none).run Tryz.prog W=.ok (.slice (some ⟨w.heap.size,0,none⟩) (Lib.nDigits u) 24) W:=fun W=>by
   rw[run_sliceAt_array_h W 268 ⟨w.heap.size,0,none⟩ (by simp[Program.arrayLen,Program.elem,Tryz.underlying268]) .i64 (Lib.nDigits u:Int) (by omega) (by rw[hal];omega)]
   go_simp
  have hH0:=Lib.holds_zero0 w 268 (Lib.nDigits u) (by omega);have hfmt:=Tryz.internal_strconv_formatBase10 w.heap.size 0 24 u (Array.replicate (Lib.nDigits u) 0) (w.alloc (.cells Lib.zeros24 268)) hH0 (by rw[Array.size_replicate];exact Lib.lt_pow_nDigits u) hu64 (by rw[Array.size_replicate];omega);rw[Array.size_replicate]at hfmt;have HH0:=Lib.hid hH0;clear hH0 hal;have HT:=Lib.hid htab;clear htab
  go_enter Tryz.func165,Tryz.ntmps165
  go_wp2_with (first
   | (go_at_call 199;refine (Tryz.internal_strconv_numDigits u hu1 hu64 _ (Lib.tabIs_alloc HT.out _)).mono ?_;rintro e w' ⟨rfl,rfl⟩))
  go_at_call 200
  refine hfmt.mono ?_;rintro e w' ⟨rfl,k,v',dk,rfl,hF⟩
  have hcv:(convert 104 9 (.slice (some ⟨w.heap.size,0,none⟩) (Lib.nDigits u) 24)).run Tryz.prog ((putRow (fun (b:UInt8)=>Value.int .u8 (b.toNat:Int)) (w.alloc (.cells Lib.zeros24 268)) w.heap.size 0 dk).drewN k)=.ok (.string ⟨(Lib.decDigits u).toArray⟩) ((putRow (fun (b:UInt8)=>Value.int .u8 (b.toNat:Int)) (w.alloc (.cells Lib.zeros24 268)) w.heap.size 0 dk).drewN k):=by
   have h:=run_convert_bytes_back (P:=Tryz.prog) ((putRow (fun (b:UInt8)=>Value.int .u8 (b.toNat:Int)) (w.alloc (.cells Lib.zeros24 268)) w.heap.size 0 dk).drewN k) 104 9 5 ⟨w.heap.size,0,none⟩ 24 (Lib.decDigits u) Tryz.underlying104 Tryz.underlying5 Tryz.underlying9 (fun j hj=>by
    rw[Lib.row_is_numeral hF j hj,Lib.add_plain,World.cell?_drewN]
    exact cell?_putRow (fun (b:UInt8)=>Value.int .u8 (b.toNat:Int)) _ w.heap.size 0 _ dk HH0.out (by rw[hF.size,Array.size_replicate]) j (by rw[hF.size];rw[Lib.decDigits_length]at hj;exact hj))
   rw[Lib.decDigits_length]at h;exact h
  go_wp2
  go_ret
  obtain⟨os',_,e⟩:=putRow_grow_new (fun (b:UInt8)=>Value.int .u8 (b.toNat:Int)) w #[(.cells Lib.zeros24 268)] w.heap.size 0 dk (Nat.le_refl _);refine⟨rfl,k,os',?_⟩;rw[alloc_eq_grow,e]
  rfl
end Go.Proofs.Yy.Fmt
end
section
namespace Go.Proofs.Yy.TA
open Go.Proofs.Yy.SC (D)
def scl (N C:Nat):Int:=if C≤N then ((N / C).log2:Int) else -((((C-1) / N).log2:Int)+1)
theorem Rf {N C:Nat}(hN:0<N)(hC:0<C):Sc N C (scl N C):=by
 unfold scl
 by_cases h:C≤N
 ·rw[if_pos h]
  have h1:N / C≠0:=by have:=Nat.div_pos h hC;omega
  have a:=Nat.log2_self_le h1;have b:=Nat.lt_log2_self (n:=N / C)
  obtain⟨j,hj⟩:∃ j,(N / C).log2=j:=⟨_,rfl⟩
  rw[hj]at a b ⊢;unfold Sc up dn;rw[show (-(j:Int)).toNat=0 by omega,Int.toNat_natCast,Nat.pow_zero,Nat.mul_one]
  constructor
  ·rw[Nat.mul_comm];exact Nat.le_trans (Nat.mul_le_mul_right C a) (Nat.div_mul_le_self _ _)
  ·have h2:N<C*(N / C+1):=by have:=Nat.div_add_mod N C;have:=Nat.mod_lt N hC;rw[Nat.mul_add];omega
   have h3:C*(N / C+1)≤C*2 ^ (j+1):=Nat.mul_le_mul_left _ b;rw[Nat.pow_succ, ← Nat.mul_assoc]at h3
   omega
 ·rw[if_neg h]
  have h1:(C-1) / N≠0:=by have:=Nat.div_pos (a:=C-1) (b:=N) (by omega) hN;omega
  have a:=Nat.log2_self_le h1;have b:=Nat.lt_log2_self (n:=(C-1) / N)
  obtain⟨j,hj⟩:∃ j,((C-1) / N).log2=j:=⟨_,rfl⟩
  rw[hj]at a b ⊢;unfold Sc up dn;rw[show (-(-((j:Int)+1))).toNat=j+1 by omega,show (-((j:Int)+1)).toNat=0 by omega,Nat.pow_zero,Nat.mul_one];have d:=Nat.div_add_mod (C-1) N;have m:=Nat.mod_lt (C-1) hN
  constructor
  ·have h3:N*((C-1) / N+1)≤N*2 ^ (j+1):=Nat.mul_le_mul_left _ b
   rw[Nat.mul_add]at h3
   omega
  ·have h3:N*2 ^ j≤N*((C-1) / N):=Nat.mul_le_mul_left _ a
   rw[Nat.pow_succ, ← Nat.mul_assoc]
   omega
theorem agE {N C:Nat}{s:Int}(h:Sc N C s):scl N C=s:=abp (Rf (Fv h).2 (Fv h).1) h
def xx (l:List UInt8):Nat:=l.foldl (fun a c=>a*10+(c.toNat-48)) 0
def Ad (d:D):Nat:=xx d.ds*10 ^ d.e.toNat
def JK (d:D):Nat:=10 ^ (-d.e).toNat
def QF (n:Nat)(d:D):Nat:=pos n (scl (Ad d) (JK d)) (Ad d) (JK d)
def sgn (n:Nat)(neg:Bool)(p:Nat):Nat:=if neg=true then (2 ^ n-p) % 2 ^ n else p % 2 ^ n
def ofD (n:Nat)(d:D):Nat:=if (SC.nrm d).nar=true then 2 ^ (n-1) else if (SC.nrm d).ds=[48] then 0 else sgn n (SC.nrm d).neg (QF n (SC.nrm d))
theorem uD (d:D):0<JK d:=Nat.pow_pos (by omega)
theorem TT {n:Nat}{N C:Nat}{s:Int}{hi:Nat}{st:Bool}(h:Rep N C s hi st):pos n (scl N C) N C=pos n s N C:=by rw[agE h.sc]
theorem top_le {n:Nat}(hn:n≤64):top n≤248:=by unfold top;omega
theorem WU {n N C:Nat}(hn:n≤64)(hC:0<C)(h:2 ^ 248*C≤N):pos n (scl N C) N C=2 ^ (n-1)-1:=by
 have hN:0<N:=Nat.lt_of_lt_of_le (Nat.mul_pos (two_pos _) hC) h
 have hs:Sc (2 ^ 248) 1 248:=by unfold Sc up dn;decide +kernel
 have hle:=Yc hs (Rf hN hC) (by rw[Nat.mul_one];exact h);have:=top_le hn;unfold pos;rw[if_pos (by omega)]
theorem abC {n N C:Nat}(hn1:2≤n)(hn:n≤64)(hN:0<N)(h:N*2 ^ 249≤C):pos n (scl N C) N C=1:=by
 have hC:0<C:=Nat.lt_of_lt_of_le (Nat.mul_pos hN (two_pos _)) h
 have hs:Sc 1 (2 ^ 249) (-249):=by unfold Sc up dn;decide +kernel
 have hle:=Yc (Rf hN hC) hs (by rw[Nat.one_mul];exact h);have:=top_le hn
 have h8:0≤top n:=by unfold top;omega
 unfold pos;rw[if_neg (by omega),if_pos (by omega)]
end Go.Proofs.Yy.TA
end
section
namespace Go.Proofs.Yw.PrintWords
open Go.RowKit
namespace Kd
def tag {α:Type}(f:Nat→Nat)(d:Kd α):Kd (α × Nat) where
 sz:=d.sz
 E:=d.E
 K:=fun w x cs=>d.K w x.1 cs
 M:=fun w base ok x cs=>d.M w base (fun k=>ok k∧f k=x.2) x.1 cs
 K_len:=fun h=>d.K_len h
 K_one:=fun h=>d.K_one h
 K_below:=fun hb h=>d.K_below hb h
 K_of_M:=fun h=>d.K_of_M h
 M_mono:=fun hok h=>d.M_mono (fun k hk=>⟨hok k hk.1,hk.2⟩) h
 M_bound:=fun h=>d.M_mono (fun _ hk=>⟨⟨hk.1.1,hk.2⟩,hk.1.2⟩) (d.M_bound h)
 M_move:=fun hm h=>d.M_move (fun k hk=>hm k hk.1) h
 M_lower:=fun hb h=>d.M_lower hb h
def raw (sz:Nat):Kd (List Value) where
 sz:=sz
 E := []
 K:=fun _ x cs=>cs=x∧cs.length=sz∧∀ u ∈ cs,u.oneCell'=true
 M:=fun _ _ _ x cs=>cs=x∧cs.length=sz∧∀ u ∈ cs,u.oneCell'=true
 K_len:=fun h=>h.2.1
 K_one:=fun h=>h.2.2
 K_below:=fun _ h=>h
 K_of_M:=fun h=>h
 M_mono:=fun _ h=>h
 M_bound:=fun h=>h
 M_move:=fun _ h=>h
 M_lower:=fun _ h=>h
def S {α:Type}(d:Kd α)(e:Nat)(w:World)(base:Nat)(ok:Nat→Prop)(v:Value)(xs:List α):Prop := ∃ f,(tag f d).R e w base ok v xs.zipIdx
section
variable {α β:Type} {d:Kd α} {d':Kd β} {e e':Nat} {w w1 W:World} {base b:Nat} {ok ok' okv oku:Nat→Prop} {u v:Value} {xs:List α} {ys:List β}
theorem jX (hE:d.E=[])(h:d.R e w base ok v xs):d.R e w base (fun k=>some k=v.ownBlock) v xs:=by
 obtain⟨h0,inner,ho,hr⟩:=h;refine⟨fun k hk=>hk.symm,inner,ho,hr.Gz (fun p c hp=>d.M_mono (fun k hk=>?_) (d.M_bound hp))⟩;obtain⟨_,_,_,q,hq,_⟩:=hk;rw[hE]at hq
 cases hq
theorem XE (d:Kd α)(e:Nat)(w:World)(base:Nat)(ok:Nat→Prop):S d e w base ok (.slice none 0 0) []:=⟨fun _=>0,GN _ _ _ _ _⟩
end
def gap {α:Type}(f:Nat→Nat)(d:Kd α)(i:Nat)(c:List Value):Kd (α × Nat) where
 sz:=d.sz
 E:=d.E
 K:=fun w x cs=>(x.2=i→cs=c∧cs.length=d.sz∧∀ u ∈ cs,u.oneCell'=true)∧(x.2≠i→d.K w x.1 cs)
 M:=fun w base ok x cs=>(x.2=i→cs=c∧cs.length=d.sz∧∀ u ∈ cs,u.oneCell'=true)∧(x.2≠i→d.M w base (fun k=>ok k∧f k=x.2) x.1 cs)
 K_len:=fun {w x cs} h=>by
  by_cases hx:x.2=i
  ·exact (h.1 hx).2.1
  ·exact d.K_len (h.2 hx)
 K_one:=fun {w x cs} h=>by
  by_cases hx:x.2=i
  ·exact (h.1 hx).2.2
  ·exact d.K_one (h.2 hx)
 K_below:=fun hb h=>⟨h.1,fun hx=>d.K_below hb (h.2 hx)⟩
 K_of_M:=fun h=>⟨h.1,fun hx=>d.K_of_M (h.2 hx)⟩
 M_mono:=fun hok h=>⟨h.1,fun hx=>d.M_mono (fun k hk=>⟨hok k hk.1,hk.2⟩) (h.2 hx)⟩
 M_bound:=fun h=>⟨h.1,fun hx=>d.M_mono (fun _ hk=>⟨⟨hk.1.1,hk.2⟩,hk.1.2⟩) (d.M_bound (h.2 hx))⟩
 M_move:=fun hm h=>⟨h.1,fun hx=>d.M_move (fun k hk=>hm k hk.1) (h.2 hx)⟩
 M_lower:=fun hb h=>⟨h.1,fun hx=>d.M_lower hb (h.2 hx)⟩
def H {α:Type}(d:Kd α)(e:Nat)(w:World)(base:Nat)(ok:Nat→Prop)(v:Value)(xs:List α)(i:Int)(oki:Nat→Prop)(c:List Value):Prop :=
 (∀ k,oki k→ok k)∧∃ f,(gap f d i.toNat c).R e w base (fun k=>ok k∧¬ oki k) v xs.zipIdx
end Kd
end Go.Proofs.Yw.PrintWords
end
section
namespace Go.Proofs.Yw.PrintWords
open Go.RowKit
section
variable {P:Program} {d:Nat} {xs ys:Array Value} {f:Field} {fs:List Field} {a b:Value} {r s:Bool} {w:World}
theorem Gq (hn : (f.name == "_") = false) (ha : (part f.type xs f.offset).run P w = .ok a w) (hb : (part f.type ys f.offset).run P w = .ok b w) (he : (Op.equalIn d f.type a b).run P w = .ok r w) : (Op.eqFields d xs ys [f]).run P w = .ok r w := by
 have hn' : f.name ≠ "_" := by simpa using hn
 simp only[Op.eqFields,if_pos hn',Sem.run_bind,ha,hb,he,Result.andThen_ok]
 cases r <;> simp
theorem qY (hn : (f.name == "_") = false) (ha : (part f.type xs f.offset).run P w = .ok a w) (hb : (part f.type ys f.offset).run P w = .ok b w) (he : (Op.equalIn d f.type a b).run P w = .ok r w) (hr : (Op.eqFields d xs ys fs).run P w = .ok s w) : (Op.eqFields d xs ys (f :: fs)).run P w = .ok (r && s) w := by
 have hn' : f.name ≠ "_" := by simpa using hn
 rw[Op.eqFields];simp only[if_pos hn',Sem.run_bind,ha,hb,he,Result.andThen_ok]
 cases r
 ·simp
 ·simpa using hr
theorem Rq {t:TypeId}{fs:Array Field}(hu:P.underlying t=some (.struct fs))(hp:P.stoodInHeld t=false)(h:(Op.eqFields d xs ys fs.toList).run P w=.ok r w):(Op.equalIn (d+1) t (.agg xs) (.agg ys)).run P w=.ok r w:=by
 have hf:P.fieldsOf t=fs:=by simp[Program.fieldsOf,hu]
 rw[run_equalIn_struct (P:=P) w d t xs ys (by rw[hf];exact hu) hp,hf];exact h
end
section
variable {P:Program} {ops:Array Oper} {rest:List Oper} {o:Oper} {a:Act} {Q:Exit→Act→World→Prop} {W:World}
theorem nJ (hw:Region.wanted o (yielded ops a.tmps)=true)(h:wpList P ops Q ({ o with guard:=none } :: rest) a W):wpList P ops Q (o::rest) a W:=by
 have h1:Region.wanted { o with guard:=none } (yielded ops a.tmps)=true:=rfl;unfold wpList at h ⊢;rw[if_pos h1]at h;rw[if_pos hw];exact h
end
end Go.Proofs.Yw.PrintWords
end
section
namespace Go.Proofs.Yw.PrintWords
open Go.RowKit
namespace Kd
structure Heap {α:Type} (d:Kd α):Prop where
 K:∀ {w w1:World} {x:α} {cs:List Value},(∀ k,k<w.heap.size→w1.heap[k]? = w.heap[k]?)→d.K w x cs→d.K w1 x cs
theorem Sm {w w1:World}(hb:∀ k,k<w.heap.size→w1.heap[k]? = w.heap[k]?){a:Addr}{v:Value}(h:w.cell? a=some v):w1.cell? a=some v:=by
 have:=hb a.block (World.block_lt_of_cell? w a h)
 simpa [World.cell?, this] using h
theorem Heap.C {α:Type}{d:Kd α}(hd:Heap d){w w1:World}{A:Option Addr}{n:Nat}{xs:List α}(hb:∀ k,k<w.heap.size→w1.heap[k]? = w.heap[k]?)(h:d.C w A n xs):d.C w1 A n xs :=
 ⟨h.1,h.2.1,fun hn=>by
  obtain⟨ad,e,hc⟩:=h.2.2 hn;refine⟨ad,e,fun j p hj=>?_⟩;obtain⟨c,hs,hr,hcell⟩:=hc j p hj
  exact⟨c,hs,hd.K hb hr,fun i u hu=>Sm hb (hcell i u hu)⟩⟩
theorem pg (k:IntKind):Heap (Kd.int k):=⟨fun _ h=>h⟩
end Kd
end Go.Proofs.Yw.PrintWords
end
section
namespace Go.Proofs.Yw.PrintWords
open Go.RowKit
def Kept (w W:World)(S:Nat→Prop):Prop:=w.heap.size≤W.heap.size∧∀ i,i<w.heap.size→¬ S i→W.heap[i]? = w.heap[i]?
section
variable {w W W2:World} {S S2 S':Nat→Prop}
theorem Kept.refl (w:World)(S:Nat→Prop):Kept w w S:=⟨Nat.le_refl _,fun _ _ _=>rfl⟩
theorem Kept.of_below (h:Below w.heap.size w W)(S:Nat→Prop):Kept w W S:=⟨h.size,fun i hi _=>h.block i hi⟩
theorem Kept.mono (h:Kept w W S)(hs:∀ k,S k→S' k):Kept w W S':=⟨h.1,fun i hi hn=>h.2 i hi (fun hk=>hn (hs i hk))⟩
theorem Kept.aco (h:Kept w W S)(k:Kept W W2 S2)(hs:∀ k,S2 k→S k∨w.heap.size≤k):Kept w W2 S :=
 ⟨Nat.le_trans h.1 k.1,fun i hi hn=>(k.2 i (Nat.lt_of_lt_of_le hi h.1) (fun h2=>(hs i h2).elim hn (fun h3=>by omega))).trans (h.2 i hi hn)⟩
theorem Kept.y8 {row:Option Nat}(hg:W.grownBy W2 row)(h:Kept w W S)(hr:∀ k,row=some k→S k∨w.heap.size≤k):Kept w W2 S :=
 h.aco (S2:=fun k=>row=some k) ⟨hg.size,fun i hi hn=>hg.block i hi (fun he=>hn he.symm)⟩ hr
theorem Kept.below (h:Kept w W S)(hb:Below W.heap.size W W2):Kept w W2 S:=h.aco (Kept.of_below hb (fun _=>False)) (fun _ hk=>hk.elim)
theorem Kept.alloc (h:Kept w W S)(o:Obj):Kept w (W.alloc o) S:=h.below (bD (Below.refl _ _) o)
theorem Kept.drew (h:Kept w W S):Kept w W.drew S:=h
theorem Kept.drewN (h:Kept w W S)(m:Nat):Kept w (W.drewN m) S:=h
theorem Kept.setCell (h:Kept w W S){p:Addr}(hp:S p.block∨w.heap.size≤p.block)(u:Value):Kept w (W.setCell p u) S :=
 h.aco (S2:=fun k=>k=p.block) ⟨by simp[World.setCell],fun i _ hn=>Below.heap_setCell W p u i hn⟩ (fun k hk=>by rw[hk];exact hp)
theorem BU {g:Nat}{o:Obj}(hb:W.heap[g]? = some o)(hk:Kept W W2 S)(hne:¬ S g):W2.heap[g]? = some o:=(hk.2 g (AO hb) hne).trans hb
end
namespace Kd
section
variable {α:Type} {d:Kd α} {e base n c:Nat} {ok oki S S2:Nat→Prop} {w w0 W W1 W2:World} {v:Value} {A:Option Addr} {xs:List α} {i:Int} {cs:List Value}
theorem agI (h:d.R e W base ok v xs)(hk:Kept W W2 S)(hne:∀ k,ok k→¬ S k):d.R e W2 base ok v xs:=JC h (fun k ho hlt=>hk.2 k hlt (hne k ho))
theorem FX (h:∀ W',Kept w W' S→d.C W' A n xs)(hk:Kept w W S):d.C W A n xs:=h W hk
end
end Kd
def Bf (P:World→Prop)(W:World)(ok:Nat→Prop):Prop := ∀ W':World,(∀ k,ok k→k<W.heap.size→W'.heap[k]? = W.heap[k]?)→P W'
theorem acr {W W1:World}{k:Nat}(h:W1.heap[k]? = W.heap[k]?)(hlt:k<W.heap.size):k<W1.heap.size:=by
 rw[Array.getElem?_eq_getElem hlt]at h;exact (Array.getElem?_eq_some_iff.1 h).1
namespace Bf
variable {P Q:World→Prop} {W W1:World} {ok ok':Nat→Prop}
theorem now (h:Bf P W ok):P W:=h W (fun _ _ _=>rfl)
theorem mono (h:Bf P W ok)(hok:∀ k,ok k→ok' k):Bf P W ok':=fun W' hW=>h W' (fun k hk hlt=>hW k (hok k hk) hlt)
theorem bound (h:Bf P W ok):Bf P W (fun k=>ok k∧k<W.heap.size):=fun W' hW=>h W' (fun k hk hlt=>hW k ⟨hk,hlt⟩ hlt)
theorem step (h:Bf P W ok)(hm:∀ k,ok k→k<W.heap.size→W1.heap[k]? = W.heap[k]?):Bf P W1 ok:=fun W' hW=>h W' (fun k hk hlt=>(hW k hk (acr (hm k hk hlt) hlt)).trans (hm k hk hlt))
theorem imp (h:Bf P W ok)(hi:∀ W',P W'→Q W'):Bf Q W ok:=fun W' hW=>hi W' (h W' hW)
theorem old (h:Bf P W ok)(hb:Below W.heap.size W W1):Bf P W1 (fun k=>ok k∧k<W.heap.size):=(h.bound).step (fun k _ hlt=>hb.block k hlt)
end Bf
namespace Kd
def F {α:Type}(d:Kd α)(W:World)(ok:Nat→Prop)(A:Option Addr)(n:Nat)(xs:List α):Prop:=Bf (fun W=>d.C W A n xs) W ok
def FK {α:Type}(d:Kd α)(W:World)(ok:Nat→Prop)(x:α)(c:List Value):Prop:=Bf (fun W=>d.K W x c) W ok
section
variable {α β:Type} {d:Kd α} {e base n n' cc g N:Nat} {ok ok' okp S:Nat→Prop} {w w0 w1 W W1:World} {A A':Option Addr} {u v v1:Value} {xs:List α} {xs':List β} {d':Kd β} {x:α} {c:List Value}
theorem af8 (h:F d W ok A n xs):d.C W A n xs:=Bf.now h
theorem OA (h:F d W ok A n xs)(hok:∀ k,ok k→ok' k):F d W ok' A n xs:=Bf.mono h hok
theorem SS (h:F d W ok A n xs):F d W (fun k=>ok k∧k<W.heap.size) A n xs:=Bf.bound h
theorem ZR (h:F d W ok A n xs)(hm:∀ k,ok k→k<W.heap.size→W1.heap[k]? = W.heap[k]?):F d W1 ok A n xs:=Bf.step h hm
theorem agL (h:F d W ok A n xs)(hi:∀ W',d.C W' A n xs→d'.C W' A' n' xs'):F d' W ok A' n' xs':=Bf.imp h hi
theorem ou (h:F d W ok A n xs)(hb:Below W.heap.size W W1):F d W1 ok A n xs:=ZR h (fun k _ hlt=>hb.block k hlt)
theorem aa8 (h:F d W ok A n xs)(o:Obj):F d (W.alloc o) ok A n xs:=ou h (bD (Below.refl _ _) o)
theorem afD (h:F d W ok A n xs):F d W.drew ok A n xs:=ou h (wS (Below.refl _ _))
theorem abL (h:F d W ok A n xs)(m:Nat):F d (W.drewN m) ok A n xs:=ou h (aK (Below.refl _ _) m)
theorem age (h:F d W ok A n xs)(hk:Kept W W1 S)(hok:∀ k,ok k→¬ S k):F d W1 ok A n xs:=ZR h (fun k ho hlt=>hk.2 k hlt (hok k ho))
theorem amc (d:Kd α)(W:World)(ok:Nat→Prop):F d W ok none ([]:List α).length []:=fun W' _=>amg d W'
theorem WY (h:F d W ok A n xs)(hbase:∀ k,v.ownBlock=some k→W.heap.size≤k)(hb:Below W.heap.size W W1):F d W1 (fun k=>ok k∧some k≠v.ownBlock) A n xs :=
 OA (Bf.old h hb) (fun k hk=>⟨hk.1,fun he=>by have:=hbase k he.symm;have:=hk.2;omega⟩)
theorem abR (h:F d W (fun k=>ok k∧some k≠v.ownBlock) A n xs)(hg:W.grownBy W1 v.ownBlock)(hat:v1.ownBlock=v.ownBlock∨∃ b,v1.ownBlock=some b∧W.heap.size≤b):F d W1 (fun k=>ok k∧some k≠v1.ownBlock) A n xs:=by
 refine OA (Bf.step (SS h) (fun k hk hlt=>hg.block k hlt hk.1.2)) (fun k hk=>⟨hk.1.1,?_⟩);rcases hat with hat|⟨b,hb,hle⟩
 ·rw[hat];exact hk.1.2
 ·rw[hb]
  intro he
  injection he with he
  have:=hk.2
  omega
theorem Lp (h:F d W ok A n xs):F d W (fun k=>ok k∧some k≠(Value.slice none 0 0).ownBlock) A n xs:=OA h (fun k hk=>⟨hk,by simp[Value.ownBlock]⟩)
theorem C_F (hd:Heap d)(h:d.C w A n xs):F d w (fun k=>k<w.heap.size) A n xs:=fun _ hW=>hd.C (fun k hlt=>hW k hlt hlt) h
theorem R_F (h:d.R e W base ok (.slice A n cc) xs):F d W ok A n xs:=fun W' hW=>by
 have h2:=aA (JC h hW);rw[h2.1];exact h2.2.2
theorem F5 (h:FK d W ok x c):d.K W x c:=Bf.now h
theorem aaY (h:FK d W ok x c)(hok:∀ k,ok k→ok' k):FK d W ok' x c:=Bf.mono h hok
theorem X3 (h:FK d W ok x c):FK d W (fun k=>ok k∧k<W.heap.size) x c:=Bf.bound h
theorem Rl (h:FK d W ok x c)(hm:∀ k,ok k→k<W.heap.size→W1.heap[k]? = W.heap[k]?):FK d W1 ok x c:=Bf.step h hm
theorem aaU (h:d.M W base ok x c):FK d W ok x c:=fun _ hW=>d.K_of_M (Zz h hW)
theorem abj (W:World)(g:Nat):∃ W':World,(∀ k,k≠g→W'.heap[k]? = W.heap[k]?)∧∀ a:Addr,a.block=g→W'.cell? a=none:=by
 refine⟨{ W with heap:=W.heap.setIfInBounds g (.cells #[] 0) },fun k hk=>by simp[Ne.symm hk],fun a ha=>?_⟩;subst ha
 by_cases hlt:a.block<W.heap.size
 ·simp[World.cell?, hlt]
 ·simp[World.cell?, hlt]
end
end Kd
end Go.Proofs.Yw.PrintWords
end
