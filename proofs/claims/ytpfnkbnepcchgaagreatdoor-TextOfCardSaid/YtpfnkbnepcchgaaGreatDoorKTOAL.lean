/- Part 12. -/
import Derived.StillTailTactics
import Derived.Deep.RegionWith
import Derived.Test.YtpfnkbnepcchgaaGreatDoorKTOAK
set_option linter.unusedSimpArgs false
set_option linter.unusedVariables false
section
namespace Go.Proofs.Yy.PTx
open Go.RowKit Go.Proofs.Yw.PrintWords Go.Proofs.Yw.PrintLast Go.Proofs.Yw.PrintMore Go.Proofs.Yy.SC
theorem acm (l:List UInt8)(m:Nat)(h:m<l.length)(c:UInt8):(l.take (m+1)++List.replicate (l.length-(m+1)) 48).set m c=l.take m++c::List.replicate (l.length-(m+1)) 48:=by
 have h1:(l.take m).length=m:=by rw[List.length_take];omega
 rw[List.take_succ_eq_append_getElem h,List.append_assoc,List.set_append_right _ _ (by omega),h1,Nat.sub_self]
 rfl
def aa7:List UInt8→List UInt8
 | [] => [49]
 | c::r=>if c=57 then 48::aa7 r else (c+1)::r
def AU (l:List UInt8):List UInt8:=(aa7 l.reverse).reverse
def oU.f (fM fF:Bool)(iQ:ByteArray)(jd:Int):Option (Bool × Bool × ByteArray × Int):=if iQ.data.toList≠[]∧iQ.size≤1048576 then some (fM,fF,mkB (AU iQ.data.toList),jd) else none
structure aeW (w:World) (g:Nat) (l:List UInt8):Prop where
 cell:∀ (i:Nat) (h:i<l.length),w.cell? ⟨g,i,none⟩=some (.int .u8 ((l[i]'h).toNat:Int))
 frz:∀ i:Nat,i<l.length→w.frozen? ⟨g,i,none⟩=false
theorem aeW.set {w:World}{g:Nat}{l:List UInt8}(h:aeW w g l)(i:Nat)(hi:i<l.length)(c:UInt8):aeW (w.setCell ⟨g,i,none⟩ (.int .u8 (c.toNat:Int))) g (l.set i c):=by
 refine⟨fun j hj=>?_,fun j hj=>?_⟩
 ·rw[List.length_set]at hj
  by_cases e:i=j
  ·subst e
   rw[World.cell?_setCell_same' _ _ _ (by rw[h.cell i hi];rfl),List.getElem_set_self]
  ·rw[World.cell?_setCell_other (h:=by intro k;injection k with _ k;exact e k),h.cell j hj,List.getElem_set_ne e]
 ·rw[List.length_set]at hj
  rw[World.frozen?_setCell];exact h.frz j hj
theorem X8 (w:World)(e:TypeId)(s:ByteArray):aeW (Lib.bytesWorld w e s) w.heap.size s.data.toList:=by
 refine⟨fun i hi=>?_,fun i hi=>?_⟩
 ·rw[Lib.bytesWorld_cell w e s i (by simpa using hi),List.getD_eq_getElem?_getD,List.getElem?_eq_getElem hi];rfl
 ·simp only[World.frozen?, Lib.bytesWorld_at_new]
  have h1:i<s.size:=by simpa using hi
  have h2:s.size≤(Lib.bytesCells w e s).size:=by simp[Lib.bytesCells]
  simp
  omega
theorem CE {P:Program}{w:World}{g cap:Nat}{l:List UInt8}(h:aeW w g l)(src e dst:TypeId)(hs:P.underlying src=some (.slice e))(he:P.underlying e=some (.int .u8))(hd:P.underlying dst=some .string) :
  (convert src dst (.slice (some ⟨g,0,none⟩) l.length cap)).run P w=.ok (.string (mkB l)) w:=by
 have h2:=run_convert_bytes_arg (P:=P) (w:=w) src e hs he g 0 l.length cap (l.map fun c=>(c.toNat:Int)) (by simp) (fun i hi=>by
  rw[Nat.zero_add,h.cell i hi,List.getD_eq_getElem?_getD,List.getElem?_map,List.getElem?_eq_getElem hi];rfl) dst hd
 rw[h2]
 congr 2
 unfold strOfNums mkB
 congr 1
 rw[List.map_map]
 have:((fun n:Int=>UInt8.ofNat n.toNat) ∘ fun c:UInt8=>(c.toNat:Int))=id:=by funext c;simp
 rw[this,List.map_id]
theorem Dk (w:World)(e:TypeId)(s:ByteArray):Below w.heap.size w (Lib.bytesWorld w e s) :=
 ⟨rfl,rfl,rfl,by rw[Lib.bytesWorld_size];omega,fun i hi=>Lib.bytesWorld_at_old w e s i hi⟩
theorem I4 (l:List UInt8)(m:Nat)(h:m<l.length):(l.take (m+1)++List.replicate (l.length-(m+1)) 48).set m 48=l.take m++List.replicate (l.length-m) 48:=by
 have h1:(l.take m).length=m:=by rw[List.length_take];omega
 rw[List.take_succ_eq_append_getElem h,List.append_assoc,List.set_append_right _ _ (by omega),h1,Nat.sub_self,show l.length-m=(l.length-(m+1))+1 by omega,List.replicate_succ]
 rfl
theorem Dw (l:List UInt8)(m:Nat)(h:m≤l.length):(l.take m++List.replicate (l.length-m) (48:UInt8)).length=l.length:=by simp;omega
theorem aaY (l:List UInt8)(m:Nat)(h:m<l.length):(l.take (m+1)++List.replicate (l.length-(m+1)) (48:UInt8))[m]'(by rw[Dw _ _ (by omega)];exact h)=l[m]:=by
 rw[List.getElem_append_left (by simp;omega),List.getElem_take]
theorem FD (n:Nat)(r:List UInt8):aa7 (List.replicate n 57++r)=List.replicate n 48++aa7 r:=by
 induction n with
 | zero=>rfl
 | succ n ih=>rw[List.replicate_succ,List.cons_append,aa7,if_pos rfl,ih];rfl
theorem U1 {l:List UInt8}(h:l=List.replicate l.length 57):AU l=49::List.replicate l.length 48:=by
 unfold AU
 have e:l.reverse=List.replicate l.length 57 ++ []:=by rw[List.append_nil];conv=>lhs;rw[h];simp
 rw[e,FD];simp[aa7]
theorem Xv {l:List UInt8}{m:Nat}(hm:m<l.length)(h:l.drop (m+1)=List.replicate (l.length-(m+1)) 57)(hc:l[m]≠57):AU l=l.take m++(l[m]+1)::List.replicate (l.length-(m+1)) 48:=by
 have e:l=l.take m++l[m]::List.replicate (l.length-(m+1)) 57:=by
  rw[← h,List.getElem_cons_drop hm,List.take_append_drop]
 have e2:l.reverse=List.replicate (l.length-(m+1)) 57++(l[m]::(l.take m).reverse):=by
  conv=>lhs;rw[e]
  simp
 unfold AU;rw[e2,FD,aa7,if_neg hc];simp
structure Abv (w w':World) (a b:Bool) (s:ByteArray) (e:Int) (l:List UInt8):Prop where
 b0:w'.heap[w.heap.size]? = some (.cells #[.bool a,.bool b,.string s,.int .i64 e] 23 (0,0))
 b1:w'.heap[w.heap.size+1]? = some (.cells #[.bool false,.bool false,.string ⟨#[]⟩,.int .i64 0] 23 (0,0))
 row:aeW w' (w.heap.size+1+1) l
 bel:Below w.heap.size w w'
theorem Abv.set {w w':World}{a b:Bool}{s:ByteArray}{e:Int}{l:List UInt8}(h:Abv w w' a b s e l)(i:Nat)(hi:i<l.length)(c:UInt8):Abv w (w'.setCell ⟨w.heap.size+1+1,i,none⟩ (.int .u8 (c.toNat:Int))) a b s e (l.set i c) :=
 ⟨jg h.b0 (by show w.heap.size≠w.heap.size+1+1;omega) _,jg h.b1 (by show w.heap.size+1≠w.heap.size+1+1;omega) _,h.row.set i hi c,bF h.bel (by omega)⟩
set_option maxHeartbeats 4000000 in
set_option maxRecDepth 100000 in
theorem Qq (a0 a1:Bool)(s:ByteArray)(e0:Int)(w:World)(h0:s.data.toList≠[])(hs:s.size≤1048576) :
  Calls Tryz.prog 56 #[.agg #[.bool a0,.bool a1,.string s,.int .i64 e0]] w fun e w'=>e=.returned (.agg #[.bool a0,.bool a1,.string (mkB (AU s.data.toList)),.int .i64 e0])∧Below w.heap.size w w':=by
 have hcv:∀ W:World,(convert 9 104 (.string s)).run Tryz.prog W=.ok (.slice (some ⟨W.heap.size,0,none⟩) s.size (grownCap W s.size 0 5)) (Lib.bytesWorld W 5 s):=fun W=>Lib.run_convert_string_bytes W _ _ _ s Tryz.underlying9 Tryz.underlying104 Tryz.underlying5
 go_enter Tryz.func56,Tryz.ntmps56
 go_wp2
 go_loopw [4] (fun i w' => ∃ v:Int, -1≤v∧v<(s.size:Int)∧i=.int .i64 v∧ae (s.data.toList.drop (v+1).toNat=List.replicate (s.data.toList.length-(v+1).toNat) 57)∧ae (Abv w w' a0 a1 s e0 (s.data.toList.take (v+1).toNat++List.replicate (s.data.toList.length-(v+1).toNat) 48))) (fun i _=>(intOf i+1).toNat)
 case atStart =>
  have e1:((s.size:Int)-1+1).toNat=s.data.toList.length:=by simp
  refine⟨(s.size:Int)-1,by omega,by omega,rfl,⟨by rw[e1];simp⟩,⟨?_⟩⟩;rw[e1,Nat.sub_self,List.take_length,List.replicate_zero,List.append_nil];refine⟨?_,?_,?_,?_⟩
  ·rw[Lib.bytesWorld_at_old _ _ _ _ (by simp;omega)]
   exact kL (vS w _) _
  ·rw[Lib.bytesWorld_at_old _ _ _ _ (by simp)]
   exact wY (by simp)
  ·have h:=X8 ((w.alloc (.cells #[.bool a0,.bool a1,.string s,.int .i64 e0] 23)).alloc (.cells #[.bool false,.bool false,.string ⟨#[]⟩,.int .i64 0] 23)) 5 s
   simpa using h
  ·exact kE (bn (bn (Below.refl _ _) _) _) (Dk _ _ _)
 case round =>
  obtain⟨v,hv1,hv2,rfl,HD,HA⟩:=hrel;clear hcv
  by_cases hv:0≤v
  ·have HM:=Lib.hid (show (v+1).toNat=v.toNat+1 by omega)
   have HT:=Lib.hid (show v.toNat<s.data.toList.length by simp;omega)
   have hq:∃ c:UInt8,c=s.data.toList[v.toNat]'HT.out:=⟨_,rfl⟩
   obtain⟨c,hc⟩:=hq;have HC:=Lib.hid hc;have hcell:=HA.out.row.cell v.toNat (by rw[HM.out,Dw _ _ HT.out];exact HT.out);have hfrz:=HA.out.row.frz v.toNat (by rw[HM.out,Dw _ _ HT.out];exact HT.out)
   have hval:wr.cell? ⟨w.heap.size+1+1,v.toNat,none⟩=some (.int .u8 (c.toNat:Int)):=by
    rw[hcell,hc];simp only[HM.out];rw[aaY _ _ HT.out]
   clear hcell hc
   by_cases h57:c=57
   ·have heq:((c.toNat:Int) == 57)=true:=by rw[h57];rfl
    go_wp2
    go_roundw
    case rel =>
     refine⟨v-1,by omega,by omega,rfl,⟨?_⟩,⟨?_⟩⟩
     ·rw[show (v-1+1).toNat=v.toNat by omega, ← List.getElem_cons_drop HT.out, ← HC.out,h57,show v.toNat+1=(v+1).toNat by omega,HD.out,show s.data.toList.length-v.toNat=(s.data.toList.length-(v+1).toNat)+1 by have:=HT.out;omega,List.replicate_succ]
     ·rw[show (v-1+1).toNat=v.toNat by omega, ← I4 _ _ HT.out]
      have h:=HA.out;rw[HM.out]at h;exact h.set v.toNat (by rw[Dw _ _ HT.out];exact HT.out) 48
    case measure=>simp[intOf];omega
   ·have heq:((c.toNat:Int) == 57)=false:=by
     rw[beq_eq_false_iff_ne];intro h;exact h57 (UInt8.toNat_inj.1 (by show c.toNat=57;omega))
    have HN:=Lib.hid h57
    have e9:((c.toNat:Int)+1) % 256=((c+1).toNat:Int):=by rw[UInt8.toNat_add];simp
    have E9:=Lib.hid e9;clear h57 e9
    go_upto_region 9 with (fail)
    go_cut [] (fun wc=>ae (Abv w wc a0 a1 s e0 (s.data.toList.take v.toNat++(c+1)::List.replicate (s.data.toList.length-(v.toNat+1)) 48)))
    case first =>
     go_wp2
     go_meet
     case rel =>
      refine⟨?_⟩;have h:=HA.out.set v.toNat (by rw[HM.out,Dw _ _ HT.out];exact HT.out) (c+1);rw[HM.out]at h;rw[acm _ _ HT.out, ← E9.out]at h;exact h
    case rest =>
    clear heq hfrz hval;have K:=hcut;clear hcut
    rename_i wc
    have hl':(s.data.toList.take v.toNat++(c+1)::List.replicate (s.data.toList.length-(v.toNat+1)) 48).length=s.size:=by have:=HT.out;simp at this ⊢;omega
    have hcs:∀ cap,(convert 104 9 (.slice (some ⟨w.heap.size+1+1,0,none⟩) s.size cap)).run Tryz.prog wc=.ok (.string (mkB (s.data.toList.take v.toNat++(c+1)::List.replicate (s.data.toList.length-(v.toNat+1)) 48))) wc:=fun cap=>by
     have h:=CE (P:=Tryz.prog) (cap:=cap) K.out.row 104 5 9 Tryz.underlying104 Tryz.underlying5 Tryz.underlying9
     rwa [hl']at h
    have q0:∀ i,wc.cell? ⟨w.heap.size,i,none⟩=(_:Array Value)[i]?:=ag K.out.b0;have f0:∀ i,wc.frozen? ⟨w.heap.size,i,none⟩=false:=ak K.out.b0;have q1:∀ i,wc.cell? ⟨w.heap.size+1,i,none⟩=(_:Array Value)[i]?:=ag K.out.b1;have f1:∀ i,wc.frozen? ⟨w.heap.size+1,i,none⟩=false:=ak K.out.b1;clear hl';have HAb:=Lib.hid (show AU s.data.toList=s.data.toList.take v.toNat++(c+1)::List.replicate (s.data.toList.length-(v.toNat+1)) 48 by rw[Xv HT.out (by rw[← HM.out];exact HD.out) (by rw[← HC.out];exact HN.out), ← HC.out])
    go_wp2
    refine bodyPost_ret (results_cell_row rfl _ _ (w.heap.size+1) 23 #[.bool a0,.bool a1,.string (mkB (s.data.toList.take v.toNat++(c+1)::List.replicate (s.data.toList.length-(v.toNat+1)) 48)),.int .i64 e0] (0,0) _ rfl ?blk Tryz.underlying23 rfl (by kernel_rfl)) rfl ⟨by rw[HAb.out],?_⟩
    case blk =>
     apply Eq.trans
     ·repeat (first|(with_reducible exact K.out.b1)|(with_reducible apply qM)|(with_reducible apply jg (hp:=Nat.ne_of_lt (Nat.lt_succ_self _)))|(with_reducible apply jg (hp:=Nat.ne_of_gt (Nat.lt_succ_self _))))
     ·rfl
    repeat (first|(with_reducible exact K.out.bel)|(with_reducible refine bF ?_ (by first|exact Nat.le_refl _|exact Nat.le_succ _)))
  ·obtain rfl:v = -1:=by omega
   have hd:s.data.toList=List.replicate s.data.toList.length 57:=by simpa using HD.out
   have hk:Abv w wr a0 a1 s e0 (List.replicate s.size 48):=by simpa using HA.out
   have K:=Lib.hid hk;have HDD:=Lib.hid hd;have HAb:=Lib.hid (show AU s.data.toList=49::List.replicate s.size 48 by rw[U1 hd];simp);clear hd hk hv HD HA
   have hl':(List.replicate s.size (48:UInt8)).length=s.size:=by simp
   have hcs:∀ cap,(convert 104 9 (.slice (some ⟨w.heap.size+1+1,0,none⟩) s.size cap)).run Tryz.prog wr=.ok (.string (mkB (List.replicate s.size 48))) wr:=fun cap=>by
    have h:=CE (P:=Tryz.prog) (cap:=cap) K.out.row 104 5 9 Tryz.underlying104 Tryz.underlying5 Tryz.underlying9
    rwa [hl']at h
   have q0:∀ i,wr.cell? ⟨w.heap.size,i,none⟩=(_:Array Value)[i]?:=ag K.out.b0;have f0:∀ i,wr.frozen? ⟨w.heap.size,i,none⟩=false:=ak K.out.b0;have q1:∀ i,wr.cell? ⟨w.heap.size+1,i,none⟩=(_:Array Value)[i]?:=ag K.out.b1;have f1:∀ i,wr.frozen? ⟨w.heap.size+1,i,none⟩=false:=ak K.out.b1;clear hl';have hb1:((⟨#[49]⟩:ByteArray)++mkB (List.replicate s.size 48))=mkB (49::List.replicate s.size 48):=mf [49] _;have HB1:=Lib.hid hb1;clear hb1;have hz1:(9223372036854775807<1+(mkB (List.replicate s.size 48)).size)=False:=eq_false (by rw[cZ,List.length_replicate];omega)
   go_wp2
   refine bodyPost_ret (results_cell_row rfl _ _ (w.heap.size+1) 23 #[.bool a0,.bool a1,.string ((⟨#[49]⟩:ByteArray)++mkB (List.replicate s.size 48)),.int .i64 e0] (0,0) _ rfl ?blk Tryz.underlying23 rfl (by kernel_rfl)) rfl ⟨by rw[HAb.out,HB1.out],?_⟩
   case blk =>
    apply Eq.trans
    ·repeat (first|(with_reducible exact K.out.b1)|(with_reducible apply qM)|(with_reducible apply jg (hp:=Nat.ne_of_lt (Nat.lt_succ_self _)))|(with_reducible apply jg (hp:=Nat.ne_of_gt (Nat.lt_succ_self _))))
    ·rfl
   repeat (first|(with_reducible exact K.out.bel)|(with_reducible refine bF ?_ (by first|exact Nat.le_refl _|exact Nat.le_succ _)))
theorem oU.calls (fM fF:Bool)(iQ:ByteArray)(jd:Int)(r1 r2:Bool)(r3:ByteArray)(r4:Int)(w:World)(h:oU.f fM fF iQ jd=some (r1,r2,r3,r4)) :
  Calls Tryz.prog 56 #[.agg #[.bool fM,.bool fF,.string iQ,.int .i64 jd]] w fun e w'=>e=.returned (.agg #[.bool r1,.bool r2,.string r3,.int .i64 r4])∧Below w.heap.size w w':=by
 unfold oU.f at h
 by_cases hc:iQ.data.toList≠[]∧iQ.size≤1048576
 case neg=>rw[if_neg hc]at h;exact absurd h (by simp)
 rw[if_pos hc]at h;simp only[Option.some.injEq,Prod.mk.injEq]at h;obtain⟨rfl,rfl,rfl,rfl⟩:=h;exact Qq fM fF iQ jd w hc.1 hc.2
def Kt (g:Nat)(d:D)(w:World):Prop:=w.heap[g]? = some (.cells #[.bool d.nar,.bool d.neg,.string (mkB d.ds),.int .i64 d.e] 23 (0,0))
theorem dM {g:Nat}{d:D}{w:World}(h:Kt g d w):w.cell? ⟨g,0,none⟩=some (.bool d.nar)∧w.cell? ⟨g,1,none⟩=some (.bool d.neg)∧w.cell? ⟨g,2,none⟩=some (.string (mkB d.ds))∧w.cell? ⟨g,3,none⟩=some (.int .i64 d.e) ∧
  w.frozen? ⟨g,0,none⟩=false∧w.frozen? ⟨g,1,none⟩=false∧w.frozen? ⟨g,2,none⟩=false∧w.frozen? ⟨g,3,none⟩=false∧g<w.heap.size:=by
 unfold Kt at h;exact⟨(ag h 0).trans rfl,(ag h 1).trans rfl,(ag h 2).trans rfl,(ag h 3).trans rfl,ak h 0,ak h 1,ak h 2,ak h 3,(Array.getElem?_eq_some_iff.1 h).1⟩
theorem mi {g B:Nat}{d:D}{w w':World}(h:Kt g d w)(hb:Below B w w')(hg:g<B):Kt g d w':=by
 unfold Kt at *;rw[hb.block g hg];exact h
structure TS (w0:World) (g B:Nat) (d:D) (l:List UInt8) (w:World):Prop where
 bld:Bd.IsB B B l w
 var:Kt g d w
 lt:g<B
 base:w0.heap.size≤g
 low:Below w0.heap.size w0 w
 sz:B≤w.heap.size
 laid:Fx.Laid w
theorem TS.other {w0:World}{g B:Nat}{d:D}{l:List UInt8}{w w':World}(h:TS w0 g B d l w)(hb:Below w.heap.size w w'):TS w0 g B d l w' :=
 ⟨h.bld.below hb,mi h.var hb (by have:=h.lt;have:=h.sz;omega),h.lt,h.base,h.low.trans (hb.mono (by have:=h.lt;have:=h.sz;have:=h.base;omega)),Nat.le_trans h.sz hb.size,h.laid.below hb⟩
theorem TS.drewN {w0:World}{g B:Nat}{d:D}{l:List UInt8}{w:World}(h:TS w0 g B d l w)(n:Nat):TS w0 g B d l (w.drewN n):=h.other (aJ (Below.refl _ w) n)
theorem TS.drew {w0:World}{g B:Nat}{d:D}{l:List UInt8}{w:World}(h:TS w0 g B d l w):TS w0 g B d l w.drew:=h.drewN 1
theorem tsH {w0:World}{g B:Nat}{d:D}{l:List UInt8}{w W:World}(h:ae (TS w0 g B d l w))(k:TS w0 g B d l w→TS w0 g B d l W:=by first|exact (fun h_=>h_)|exact (fun h_=>h_.drew)|exact (fun h_=>h_.drewN _)):TS w0 g B d l W:=k h.out
theorem sZ {w0:World}{g B:Nat}{d:D}{l:List UInt8}{w:World}(h:TS w0 g B d l w)(hl0:Fx.Laid w0)(s:ByteArray)(hlen:l.length+s.size≤140737488355328) :
  Calls Tryz.prog 68 #[.pointer (some ⟨B,0,none⟩),.string s] w fun e w'=>e=.returned (.tuple #[.int .i64 s.size,.nilIface])∧TS w0 g B d (l++s.data.toList) w':=by
 refine (Bd.write B B l s w h.bld hlen h.sz).mono ?_;rintro e w' ⟨he,h1,h2⟩;have hlow:=h.low.trans (h2.mono (by have:=h.lt;have:=h.base;omega));exact⟨he,h1,mi h.var h2 h.lt,h.lt,h.base,hlow,Nat.le_trans h.sz h2.size,hl0.below hlow⟩
theorem CO {w0:World}{g B:Nat}{d:D}{l:List UInt8}{w:World}(h:TS w0 g B d l w)(hl0:Fx.Laid w0)(c:UInt8)(x:Int)(hx:x=(c.toNat:Int))(hlen:l.length+1≤140737488355328) :
  Calls Tryz.prog 67 #[.pointer (some ⟨B,0,none⟩),.int .u8 x] w fun e w'=>e=.returned .nilIface∧TS w0 g B d (l ++ [c]) w':=by
 subst hx;refine (Bd.writeByte B B l c w h.bld hlen h.sz).mono ?_;rintro e w' ⟨he,h1,h2⟩;have hlow:=h.low.trans (h2.mono (by have:=h.lt;have:=h.base;omega));exact⟨he,h1,mi h.var h2 h.lt,h.lt,h.base,hlow,Nat.le_trans h.sz h2.size,hl0.below hlow⟩
theorem qy {w0:World}{g B:Nat}{d:D}{l:List UInt8}{w:World}(h:TS w0 g B d l w) :
  Calls Tryz.prog 71 #[.pointer (some ⟨B,0,none⟩)] w fun e w'=>e=.returned (.string (mkB l))∧Below w0.heap.size w0 w':=by
 refine (Tryz.Builder_String_any_f B B l w h.bld h.sz).mono ?_;rintro e w' ⟨he,_,h2⟩;exact⟨he,h.low.trans (h2.mono (by have:=h.lt;have:=h.base;omega))⟩
theorem UQ (n:Nat):Lib.repeatL [48] n=List.replicate n 48:=by
 induction n with
 | zero=>rfl
 | succ n ih=>rw[Lib.repeatL,ih,List.replicate_succ];rfl
theorem zf {w0:World}{g B:Nat}{d:D}{l:List UInt8}{w:World}(h:TS w0 g B d l w)(n:Int)(h0:0≤n)(h1:n≤1000) :
  Calls Tryz.prog 69 #[.string (⟨#[48]⟩:ByteArray),.int .i64 n] w fun e w'=>e=.returned (.string (mkB (List.replicate n.toNat 48)))∧TS w0 g B d l w':=by
 obtain⟨k,rfl⟩:=Int.eq_ofNat_of_zero_le h0;refine (Tryz.strings_Repeat ⟨#[48]⟩ k w (by omega) (by have e:(⟨#[48]⟩:ByteArray).size=1:=rfl;rw[e];omega)).mono ?_;rintro e w' ⟨he,hb⟩;refine⟨?_,h.other hb⟩;rw[he];show Ending.returned (.string ⟨(Lib.repeatL [48] k).toArray⟩)=_;rw[UQ]
 rfl
theorem TG {w0:World}{g B:Nat}{d:D}{l:List UInt8}{w:World}(h:TS w0 g B d l w)(n:Int)(h0 : -9223372036854775808≤n)(h1:n≤9223372036854775807) :
  Calls Tryz.prog 70 #[.int .i64 n] w fun e w'=>e=.returned (.string (mkB (Lib.itoa n)))∧TS w0 g B d l w':=by
 refine (mZ.calls n (mkB (Lib.itoa n)) w (by unfold mZ.f;rw[if_pos ⟨h0,h1⟩];rfl) h.laid).mono ?_;rintro e w' ⟨he,hb⟩;exact⟨he,h.other hb⟩
theorem Yz (d:D)(h:formed d=false)(w:World) :
  Calls Tryz.prog 26 #[.agg #[.bool d.nar,.bool d.neg,.string (mkB d.ds),.int .i64 d.e]] w fun e w'=>e=.returned (.tuple #[.agg #[.bool false,.bool false,.string (⟨#[]⟩:ByteArray),.int .i64 0],.iface 64 (.int .i64 23)])∧Below w.heap.size w w':=by
 have hN:=vY d;rw[if_neg (by rw[h];decide)]at hN;exact lh.calls _ _ _ _ _ _ _ _ _ _ hN
theorem Jy (d:D)(h:formed d=true)(w:World) :
  Calls Tryz.prog 26 #[.agg #[.bool d.nar,.bool d.neg,.string (mkB d.ds),.int .i64 d.e]] w fun e w'=>e=.returned (.tuple #[.agg #[.bool (nrm d).nar,.bool (nrm d).neg,.string (mkB (nrm d).ds),.int .i64 (nrm d).e],.nilIface])∧Below w.heap.size w w':=by
 have hN:=vY d;rw[if_pos h]at hN;exact lh.calls _ _ _ _ _ _ _ _ _ _ hN
set_option maxHeartbeats 1000000 in
set_option maxRecDepth 100000 in
theorem Ue (d:D)(w:World)(h:formed d=false) :
  Calls Tryz.prog 30 #[.agg #[.bool d.nar,.bool d.neg,.string (mkB d.ds),.int .i64 d.e]] w fun e w'=>e=.returned (.tuple #[.string (⟨#[]⟩:ByteArray),.iface 64 (.int .i64 23)])∧Below w.heap.size w w':=by
 have hD:Kt w.heap.size d (w.alloc (.cells #[.bool d.nar,.bool d.neg,.string (mkB d.ds),.int .i64 d.e] 23)):=heap_alloc_new w _;have HD:=am hD;have HF:=am h;clear hD h
 go_enter Tryz.func30,Tryz.ntmps30
 go_wp2_with (go_at_call 26;refine (Yz d HF.out _).mono ?_;rintro e w1 ⟨rfl,hb⟩;obtain⟨c0,c1,c2,c3,f0,f1,f2,f3,hlt⟩:=dM (mi HD.out hb (by simp));have HB:=am hb;clear hb)
 go_ret2
 exact⟨rfl,((((((Below.refl _ w).alloc (Nat.le_refl _) _).trans (HB.out.mono (by simp))).setCell (p:=⟨w.heap.size,0,none⟩) (Nat.le_refl _) _).setCell (p:=⟨w.heap.size,1,none⟩) (Nat.le_refl _) _).setCell (p:=⟨w.heap.size,2,none⟩) (Nat.le_refl _) _).setCell (p:=⟨w.heap.size,3,none⟩) (Nat.le_refl _) _⟩
def chain (w:World)(g:Nat)(d:D):World:=(((w.setCell ⟨g,0,none⟩ (.bool d.nar)).setCell ⟨g,1,none⟩ (.bool d.neg)).setCell ⟨g,2,none⟩ (.string (mkB d.ds))).setCell ⟨g,3,none⟩ (.int .i64 d.e)
theorem UH {w:World}{g:Nat}{d0:D}(h:Kt g d0 w)(d:D):Kt g d (chain w g d) :=
 vT (vT (vT (vT h 0 (.bool d.nar) rfl) 1 (.bool d.neg) rfl) 2 (.string (mkB d.ds)) rfl) 3 (.int .i64 d.e) rfl
theorem Ae (w:World)(g:Nat)(d:D):(chain w g d).heap.size=w.heap.size:=by unfold chain;simp
theorem TD {w0 w:World}{g:Nat}(d:D)(h:Below w0.heap.size w0 w)(hg:w0.heap.size≤g):Below w0.heap.size w0 (chain w g d) :=
 (((h.setCell (p:=⟨g,0,none⟩) hg _).setCell (p:=⟨g,1,none⟩) hg _).setCell (p:=⟨g,2,none⟩) hg _).setCell (p:=⟨g,3,none⟩) hg _
theorem yR {w0 w1:World}{d0:D}(N:D)(h:Kt w0.heap.size d0 w1)(hb:Below w0.heap.size w0 w1)(hl:Fx.Laid w0) :
  TS w0 w0.heap.size w1.heap.size N [] ((chain w1 w0.heap.size N).alloc (.cells #[.pointer none,.slice none 0 0] 111)):=by
 have hlt:w0.heap.size<w1.heap.size:=(Array.getElem?_eq_some_iff.1 h).1;have hm:=Bd.made (chain w1 w0.heap.size N);rw[Ae]at hm;have hlow:=(TD N hb (Nat.le_refl _)).alloc (by rw[Ae];omega) (.cells #[.pointer none,.slice none 0 0] 111);refine⟨hm,?_,hlt,Nat.le_refl _,hlow,?_,hl.below hlow⟩
 ·exact kL (UH h N) _
 ·have:w1.heap.size≤(chain w1 w0.heap.size N).heap.size:=by rw[Ae];exact Nat.le_refl _
  simp only[World.size_alloc];omega
def vC (N:D)(w:World)(e:Ending)(w':World):Prop:=e=.returned (.tuple #[.string (mkB (Ac N)),.nilIface])∧Below w.heap.size w w'
theorem tu (s:ByteArray):s.data.toList.length=s.size:=Array.length_toList
theorem tV (n:Nat)(c:UInt8):(mkB (List.replicate n c)).size=n:=by rw[cZ,List.length_replicate]
theorem tK (n:Int):(mkB (Lib.itoa n)).size=(Lib.itoa n).length:=cZ _
theorem agn (u:Nat):Lib.nDigits u≤u+1:=by
 induction u using Nat.strongRecOn with
 | ind u ih =>
  rw[Lib.nDigits]
  by_cases h:u<10
  ·rw[dif_pos h];omega
  ·rw[dif_neg h]
   have:=ih (u / 10) (by omega)
   omega
theorem Fz (n:Int)(h:n.natAbs≤10000000):(Lib.itoa n).length≤140000000000:=by
 unfold Lib.itoa
 split
 ·have:=agn n.natAbs
  rw[List.length_cons,Lib.decDigits_length];omega
 ·have:=agn n.toNat
  rw[Lib.decDigits_length];omega
theorem FI (s:ByteArray)(a b:Nat):(s.extract a b).size≤s.size:=by rw[ByteArray.size_extract];omega
set_option maxHeartbeats 1000000 in
set_option maxRecDepth 100000 in
theorem XP (d:D)(w:World)(h:formed d=true)(hn:(nrm d).nar=true) :
  Calls Tryz.prog 30 #[.agg #[.bool d.nar,.bool d.neg,.string (mkB d.ds),.int .i64 d.e]] w fun e w'=>vC (nrm d) w e w':=by
 have hD:Kt w.heap.size d (w.alloc (.cells #[.bool d.nar,.bool d.neg,.string (mkB d.ds),.int .i64 d.e] 23)):=heap_alloc_new w _;have HD:=am hD;have HN:=am hn;have hg:=Jy d h;rw[hn]at hg;clear hD h hn
 go_enter Tryz.func30,Tryz.ntmps30
 go_wp2_with (go_at_call 26;refine (hg _).mono ?_;rintro e w1 ⟨rfl,hb⟩;obtain⟨c0,c1,c2,c3,f0,f1,f2,f3,hlt⟩:=dM (mi HD.out hb (by simp));have HB:=am hb;clear hb)
 go_ret2
 refine⟨?_,((((((Below.refl _ w).alloc (Nat.le_refl _) _).trans (HB.out.mono (by simp))).setCell (p:=⟨w.heap.size,0,none⟩) (Nat.le_refl _) _).setCell (p:=⟨w.heap.size,1,none⟩) (Nat.le_refl _) _).setCell (p:=⟨w.heap.size,2,none⟩) (Nat.le_refl _) _).setCell (p:=⟨w.heap.size,3,none⟩) (Nat.le_refl _) _⟩;unfold Ac;rw[if_pos HN.out]
 rfl
end Go.Proofs.Yy.PTx
end
section
set_option maxHeartbeats 16000000
set_option maxRecDepth 200000
namespace Go.Proofs.Yy.PTx
open Go.RowKit Go.Proofs.Yw.PrintWords Go.Proofs.Yw.PrintLast Go.Proofs.Yw.PrintMore Go.Proofs.Yy.SC
theorem Oh (d N:D)(w:World)(hl0:Fx.Laid w)(h0:∀ W,Calls Tryz.prog 26 #[.agg #[.bool d.nar,.bool d.neg,.string (mkB d.ds),.int .i64 d.e]] W fun e w'=>e=.returned (.tuple #[.agg #[.bool N.nar,.bool N.neg,.string (mkB N.ds),.int .i64 N.e],.nilIface])∧Below W.heap.size W w')
    (hn:N.nar=false) (hl1:N.ds.length≤4096) (he1 : -1000000≤N.e) (he2:N.e≤1000000) (a:Int) (ha:a=(N.ds.length:Int)+N.e) (h1:0≤N.e) (h2:a≤21) :
    Calls Tryz.prog 30 #[.agg #[.bool d.nar,.bool d.neg,.string (mkB d.ds),.int .i64 d.e]] w fun e w'=>vC N w e w':=by
  rcases Bool.eq_false_or_eq_true N.neg with hneg|hneg
  all_goals
   have hD:Kt w.heap.size d (w.alloc (.cells #[.bool d.nar,.bool d.neg,.string (mkB d.ds),.int .i64 d.e] 23)):=heap_alloc_new w _;have HD:=am hD;have hsz:=cZ N.ds
   have haw:wrap64 (((mkB N.ds).size:Int)+N.e)=a:=by rw[hsz, ← ha];exact kN (by omega) (by omega)
   have ak2:IntKind.i64.wrap (((mkB N.ds).size:Int)+N.e)=a:=(bW _).trans haw;have HL0:=am hl0;have HLN:=am hl1;have HSZ:=am hsz;have HN:=am hn;have HNEG:=am hneg;have q1:decide (0≤N.e)=true:=decide_eq_true h1;have q2:decide (a≤21)=true:=decide_eq_true h2
   have HX0:ae (0≤N.e):=⟨h1⟩
   have HX1:ae (N.e≤1000):=⟨by omega⟩
   have HX:ae (N.e.toNat≤1000):=⟨by omega⟩
   have HTK:=HX;have HDR:=HX;have HXS:=HX;have HYS:=HX
   obtain⟨sg,hsg⟩:∃ sg:List UInt8,(if N.neg=true then [45] else [])=sg:=⟨_,rfl⟩
   have HTX:ae (Ac N=sg++(N.ds++List.replicate N.e.toNat 48)):=⟨by
     unfold Ac;rw[if_neg (by rw[hn];decide),hsg];simp only[← ha,Bool.false_eq_true,if_false,if_true]
     rw[if_pos ⟨h1,h2⟩]⟩
   rw[hneg]at hsg;simp only[Bool.false_eq_true,if_false,if_true]at hsg;subst hsg;rw[hn,hneg]at h0;clear hD hn hneg hl1 he1 he2 ha hsz hl0
   go_enter Tryz.func30,Tryz.ntmps30
   go_upto_region 9 with (first|(go_at_call 26;refine (h0 _).mono ?_;rintro e w1 ⟨rfl,hb⟩;have hv1:=mi HD.out hb (by simp);obtain⟨c0,c1,c2,c3,f0,f1,f2,f3,hlt⟩:=dM hv1;have ht0:=yR N hv1 (((Below.refl _ w).alloc (Nat.le_refl _) _).trans (hb.mono (by simp))) HL0.out;unfold chain at ht0;rw[HN.out,HNEG.out]at ht0;have HT:=am ht0;obtain⟨k0,k1,k2,k3,g0,g1,g2,g3,hlt2⟩:=dM HT.out.var;rw[HN.out]at k0;rw[HNEG.out]at k1;clear hb hv1 ht0)|(go_at_call 67;refine (CO (tsH HT) HL0.out 45 _ rfl (by simp)).mono ?_;rintro e w2 ⟨rfl,ht⟩;have HT:=am ht;obtain⟨k0,k1,k2,k3,g0,g1,g2,g3,hlt2⟩:=dM HT.out.var;clear ht))
   try (obtain⟨W,hW⟩:∃ W,W=((((w1.setCell ⟨w.heap.size,0,none⟩ (.bool false)).setCell ⟨w.heap.size,1,none⟩ (.bool false)).setCell ⟨w.heap.size,2,none⟩ (.string (mkB N.ds))).setCell ⟨w.heap.size,3,none⟩ (.int .i64 N.e)).alloc (.cells #[.pointer none,.slice none 0 0] 111):=⟨_,rfl⟩;rw[← hW]at HT k0 k1 k2 k3 g0 g1 g2 g3 hlt2 ⊢;clear hW)
   clear c0 c1 c2 c3 f0 f1 f2 f3
   go_wp2_with (first|(go_at_call 68;refine (sZ (tsH HT) HL0.out _ (by have hq:=HLN.out;have hq2:=HSZ.out;have hq3:=HXS.out;have hq4:=HYS.out;have hq7:=HX.out;have hq8:(⟨#[46]⟩:ByteArray).size=1:=rfl;have hq9:(⟨#[48,46]⟩:ByteArray).size=2:=rfl;have hq0:(⟨#[101]⟩:ByteArray).size=1:=rfl;simp only[List.length_append,List.length_nil,List.length_cons,ByteArray.size_append,tu,tV,tK];omega)).mono ?_;rintro e w3 ⟨rfl,ht⟩;have HT:=am ht;obtain⟨k0,k1,k2,k3,g0,g1,g2,g3,hlt2⟩:=dM HT.out.var;clear ht)|(go_at_call 69;refine (zf (tsH HT) _ HX0.out HX1.out).mono ?_;rintro e w4 ⟨rfl,ht⟩;have HT:=am ht;obtain⟨k0,k1,k2,k3,g0,g1,g2,g3,hlt2⟩:=dM HT.out.var;clear ht)|(go_at_call 71;refine (qy (tsH HT)).mono ?_;rintro e w5 ⟨rfl,hb5⟩;have HB5:=am hb5;clear hb5))
   all_goals go_ret2
   all_goals
     unfold vC;rw[HTX.out];refine⟨?_,HB5.out⟩;refine congrArg (fun x=>Ending.returned (.tuple #[.string x,.nilIface])) ?_;have e46:(⟨#[46]⟩:ByteArray)=mkB [46]:=rfl;have Y3:(⟨#[101]⟩:ByteArray)=mkB [101]:=rfl;have Ib:(⟨#[48,46]⟩:ByteArray)=mkB [48,46]:=rfl;simp only[HTK.out,HDR.out,e46,Y3,Ib,mf,uG,List.nil_append,List.append_assoc,List.cons_append,List.append_nil]
theorem NL (d N:D)(w:World)(hl0:Fx.Laid w)(h0:∀ W,Calls Tryz.prog 26 #[.agg #[.bool d.nar,.bool d.neg,.string (mkB d.ds),.int .i64 d.e]] W fun e w'=>e=.returned (.tuple #[.agg #[.bool N.nar,.bool N.neg,.string (mkB N.ds),.int .i64 N.e],.nilIface])∧Below W.heap.size W w')
    (hn:N.nar=false) (hl1:N.ds.length≤4096) (he1 : -1000000≤N.e) (he2:N.e≤1000000) (a:Int) (ha:a=(N.ds.length:Int)+N.e) (h1:N.e<0) (h2:1≤a) (h3:a≤21) :
    Calls Tryz.prog 30 #[.agg #[.bool d.nar,.bool d.neg,.string (mkB d.ds),.int .i64 d.e]] w fun e w'=>vC N w e w':=by
  rcases Bool.eq_false_or_eq_true N.neg with hneg|hneg
  all_goals
   have hD:Kt w.heap.size d (w.alloc (.cells #[.bool d.nar,.bool d.neg,.string (mkB d.ds),.int .i64 d.e] 23)):=heap_alloc_new w _;have HD:=am hD;have hsz:=cZ N.ds
   have haw:wrap64 (((mkB N.ds).size:Int)+N.e)=a:=by rw[hsz, ← ha];exact kN (by omega) (by omega)
   have ak2:IntKind.i64.wrap (((mkB N.ds).size:Int)+N.e)=a:=(bW _).trans haw;have HL0:=am hl0;have HLN:=am hl1;have HSZ:=am hsz;have HN:=am hn;have HNEG:=am hneg;have q1:decide (0≤N.e)=false:=decide_eq_false (by omega);have q2:decide (1≤a)=true:=decide_eq_true h2;have q3:decide (a≤21)=true:=decide_eq_true h3;have p1:=eq_true (show (0:Int)≤a by omega);have p2:=eq_true (show a≤((mkB N.ds).size:Int) by rw[hsz];omega)
   have HX:ae (0≤(1:Nat)):=⟨by omega⟩
   have HX0:=HX;have HX1:=HX
   have HTK:ae ((mkB N.ds).extract 0 a.toNat=mkB (N.ds.take a.toNat)):=⟨xg _ _ (by omega)⟩
   have HDR:ae ((mkB N.ds).extract a.toNat (mkB N.ds).size=mkB (N.ds.drop a.toNat)):=⟨xu _ _⟩
   obtain⟨X,hX⟩:∃ X,(mkB N.ds).extract 0 a.toNat=X:=⟨_,rfl⟩
   obtain⟨Y,hY⟩:∃ Y,(mkB N.ds).extract a.toNat (mkB N.ds).size=Y:=⟨_,rfl⟩
   have HXS:ae (X.size≤(mkB N.ds).size):=⟨by rw[← hX];exact FI _ _ _⟩
   have HYS:ae (Y.size≤(mkB N.ds).size):=⟨by rw[← hY];exact FI _ _ _⟩
   rw[hX]at HTK;rw[hY]at HDR;have y1:(9223372036854775807<X.size+1)=False:=eq_false (by have hq:=HLN.out;have hq2:=HSZ.out;have hq3:=HXS.out;have hq4:=HYS.out;have hq7:=HX.out;have hq8:(⟨#[46]⟩:ByteArray).size=1:=rfl;have hq9:(⟨#[48,46]⟩:ByteArray).size=2:=rfl;have hq0:(⟨#[101]⟩:ByteArray).size=1:=rfl;omega);have y2:(9223372036854775807<X.size+1+Y.size)=False:=eq_false (by have hq:=HLN.out;have hq2:=HSZ.out;have hq3:=HXS.out;have hq4:=HYS.out;have hq7:=HX.out;have hq8:(⟨#[46]⟩:ByteArray).size=1:=rfl;have hq9:(⟨#[48,46]⟩:ByteArray).size=2:=rfl;have hq0:(⟨#[101]⟩:ByteArray).size=1:=rfl;omega)
   obtain⟨sg,hsg⟩:∃ sg:List UInt8,(if N.neg=true then [45] else [])=sg:=⟨_,rfl⟩
   have HTX:ae (Ac N=sg++(N.ds.take a.toNat ++ [46]++N.ds.drop a.toNat)):=⟨by
     unfold Ac;rw[if_neg (by rw[hn];decide),hsg];simp only[← ha,Bool.false_eq_true,if_false,if_true]
     rw[if_neg (by omega),if_pos ⟨h2,h3⟩]⟩
   rw[hneg]at hsg;simp only[Bool.false_eq_true,if_false,if_true]at hsg;subst hsg;rw[hn,hneg]at h0;clear hD hn hneg hl1 he1 he2 ha hsz hl0
   go_enter Tryz.func30,Tryz.ntmps30
   go_upto_region 9 with (first|(go_at_call 26;refine (h0 _).mono ?_;rintro e w1 ⟨rfl,hb⟩;have hv1:=mi HD.out hb (by simp);obtain⟨c0,c1,c2,c3,f0,f1,f2,f3,hlt⟩:=dM hv1;have ht0:=yR N hv1 (((Below.refl _ w).alloc (Nat.le_refl _) _).trans (hb.mono (by simp))) HL0.out;unfold chain at ht0;rw[HN.out,HNEG.out]at ht0;have HT:=am ht0;obtain⟨k0,k1,k2,k3,g0,g1,g2,g3,hlt2⟩:=dM HT.out.var;rw[HN.out]at k0;rw[HNEG.out]at k1;clear hb hv1 ht0)|(go_at_call 67;refine (CO (tsH HT) HL0.out 45 _ rfl (by simp)).mono ?_;rintro e w2 ⟨rfl,ht⟩;have HT:=am ht;obtain⟨k0,k1,k2,k3,g0,g1,g2,g3,hlt2⟩:=dM HT.out.var;clear ht))
   try (obtain⟨W,hW⟩:∃ W,W=((((w1.setCell ⟨w.heap.size,0,none⟩ (.bool false)).setCell ⟨w.heap.size,1,none⟩ (.bool false)).setCell ⟨w.heap.size,2,none⟩ (.string (mkB N.ds))).setCell ⟨w.heap.size,3,none⟩ (.int .i64 N.e)).alloc (.cells #[.pointer none,.slice none 0 0] 111):=⟨_,rfl⟩;rw[← hW]at HT k0 k1 k2 k3 g0 g1 g2 g3 hlt2 ⊢;clear hW)
   clear c0 c1 c2 c3 f0 f1 f2 f3
   go_wp2_with (first|(go_at_call 68;refine (sZ (tsH HT) HL0.out _ (by have hq:=HLN.out;have hq2:=HSZ.out;have hq3:=HXS.out;have hq4:=HYS.out;have hq7:=HX.out;have hq8:(⟨#[46]⟩:ByteArray).size=1:=rfl;have hq9:(⟨#[48,46]⟩:ByteArray).size=2:=rfl;have hq0:(⟨#[101]⟩:ByteArray).size=1:=rfl;simp only[List.length_append,List.length_nil,List.length_cons,ByteArray.size_append,tu,tV,tK];omega)).mono ?_;rintro e w3 ⟨rfl,ht⟩;have HT:=am ht;obtain⟨k0,k1,k2,k3,g0,g1,g2,g3,hlt2⟩:=dM HT.out.var;clear ht)|(go_at_call 71;refine (qy (tsH HT)).mono ?_;rintro e w5 ⟨rfl,hb5⟩;have HB5:=am hb5;clear hb5))
   go_still_tail 10,(by kernel_rfl)
   go_wp2_with (first|(go_at_call 68;refine (sZ (tsH HT) HL0.out _ (by have hq:=HLN.out;have hq2:=HSZ.out;have hq3:=HXS.out;have hq4:=HYS.out;have hq7:=HX.out;have hq8:(⟨#[46]⟩:ByteArray).size=1:=rfl;have hq9:(⟨#[48,46]⟩:ByteArray).size=2:=rfl;have hq0:(⟨#[101]⟩:ByteArray).size=1:=rfl;simp only[List.length_append,List.length_nil,List.length_cons,ByteArray.size_append,tu,tV,tK];omega)).mono ?_;rintro e w3 ⟨rfl,ht⟩;have HT:=am ht;obtain⟨k0,k1,k2,k3,g0,g1,g2,g3,hlt2⟩:=dM HT.out.var;clear ht)|(go_at_call 71;refine (qy (tsH HT)).mono ?_;rintro e w5 ⟨rfl,hb5⟩;have HB5:=am hb5;clear hb5))
   all_goals go_ret2
   all_goals
     unfold vC;rw[HTX.out];refine⟨?_,HB5.out⟩;refine congrArg (fun x=>Ending.returned (.tuple #[.string x,.nilIface])) ?_;have e46:(⟨#[46]⟩:ByteArray)=mkB [46]:=rfl;have Y3:(⟨#[101]⟩:ByteArray)=mkB [101]:=rfl;have Ib:(⟨#[48,46]⟩:ByteArray)=mkB [48,46]:=rfl;simp only[HTK.out,HDR.out,e46,Y3,Ib,mf,uG,List.nil_append,List.append_assoc,List.cons_append,List.append_nil]
theorem Fj (d N:D)(w:World)(hl0:Fx.Laid w)(h0:∀ W,Calls Tryz.prog 26 #[.agg #[.bool d.nar,.bool d.neg,.string (mkB d.ds),.int .i64 d.e]] W fun e w'=>e=.returned (.tuple #[.agg #[.bool N.nar,.bool N.neg,.string (mkB N.ds),.int .i64 N.e],.nilIface])∧Below W.heap.size W w')
    (hn:N.nar=false) (hl1:N.ds.length≤4096) (he1 : -1000000≤N.e) (he2:N.e≤1000000) (a:Int) (ha:a=(N.ds.length:Int)+N.e) (h1:N.e<0) (h2 : -5≤a) (h3:a≤0) :
    Calls Tryz.prog 30 #[.agg #[.bool d.nar,.bool d.neg,.string (mkB d.ds),.int .i64 d.e]] w fun e w'=>vC N w e w':=by
  rcases Bool.eq_false_or_eq_true N.neg with hneg|hneg
  all_goals
   have hD:Kt w.heap.size d (w.alloc (.cells #[.bool d.nar,.bool d.neg,.string (mkB d.ds),.int .i64 d.e] 23)):=heap_alloc_new w _;have HD:=am hD;have hsz:=cZ N.ds
   have haw:wrap64 (((mkB N.ds).size:Int)+N.e)=a:=by rw[hsz, ← ha];exact kN (by omega) (by omega)
   have ak2:IntKind.i64.wrap (((mkB N.ds).size:Int)+N.e)=a:=(bW _).trans haw;have HL0:=am hl0;have HLN:=am hl1;have HSZ:=am hsz;have HN:=am hn;have HNEG:=am hneg;have q1:decide (0≤N.e)=false:=decide_eq_false (by omega);have q2:decide (1≤a)=false:=decide_eq_false (by omega);have q3:decide (-5≤a)=true:=decide_eq_true h2;have q4:decide (a≤0)=true:=decide_eq_true h3;have hw1:wrap64 (-a) = -a:=kN (by omega) (by omega);have hw2:IntKind.i64.wrap (-a) = -a:=(bW _).trans hw1
   have HX0:ae (0 ≤ -a):=⟨by omega⟩
   have HX1:ae (-a≤1000):=⟨by omega⟩
   have HX:ae ((-a).toNat≤1000):=⟨by omega⟩
   have HTK:=HX;have HDR:=HX;have HXS:=HX;have HYS:=HX;have y1:(9223372036854775807<2+(mkB (List.replicate (-a).toNat 48)).size)=False:=eq_false (by have hq:=HLN.out;have hq2:=HSZ.out;have hq3:=HXS.out;have hq4:=HYS.out;have hq7:=HX.out;have hq8:(⟨#[46]⟩:ByteArray).size=1:=rfl;have hq9:(⟨#[48,46]⟩:ByteArray).size=2:=rfl;have hq0:(⟨#[101]⟩:ByteArray).size=1:=rfl;rw[tV];omega);have y2:(9223372036854775807<2+(mkB (List.replicate (-a).toNat 48)).size+(mkB N.ds).size)=False:=eq_false (by have hq:=HLN.out;have hq2:=HSZ.out;have hq3:=HXS.out;have hq4:=HYS.out;have hq7:=HX.out;have hq8:(⟨#[46]⟩:ByteArray).size=1:=rfl;have hq9:(⟨#[48,46]⟩:ByteArray).size=2:=rfl;have hq0:(⟨#[101]⟩:ByteArray).size=1:=rfl;rw[tV];omega)
   obtain⟨sg,hsg⟩:∃ sg:List UInt8,(if N.neg=true then [45] else [])=sg:=⟨_,rfl⟩
   have HTX:ae (Ac N=sg++([48,46]++List.replicate (-a).toNat 48++N.ds)):=⟨by
     unfold Ac;rw[if_neg (by rw[hn];decide),hsg];simp only[← ha,Bool.false_eq_true,if_false,if_true]
     rw[if_neg (by omega),if_neg (by omega),if_pos ⟨h2,h3⟩]⟩
   rw[hneg]at hsg;simp only[Bool.false_eq_true,if_false,if_true]at hsg;subst hsg;rw[hn,hneg]at h0;clear hD hn hneg hl1 he1 he2 ha hsz hl0
   go_enter Tryz.func30,Tryz.ntmps30
   go_upto_region 9 with (first|(go_at_call 26;refine (h0 _).mono ?_;rintro e w1 ⟨rfl,hb⟩;have hv1:=mi HD.out hb (by simp);obtain⟨c0,c1,c2,c3,f0,f1,f2,f3,hlt⟩:=dM hv1;have ht0:=yR N hv1 (((Below.refl _ w).alloc (Nat.le_refl _) _).trans (hb.mono (by simp))) HL0.out;unfold chain at ht0;rw[HN.out,HNEG.out]at ht0;have HT:=am ht0;obtain⟨k0,k1,k2,k3,g0,g1,g2,g3,hlt2⟩:=dM HT.out.var;rw[HN.out]at k0;rw[HNEG.out]at k1;clear hb hv1 ht0)|(go_at_call 67;refine (CO (tsH HT) HL0.out 45 _ rfl (by simp)).mono ?_;rintro e w2 ⟨rfl,ht⟩;have HT:=am ht;obtain⟨k0,k1,k2,k3,g0,g1,g2,g3,hlt2⟩:=dM HT.out.var;clear ht))
   try (obtain⟨W,hW⟩:∃ W,W=((((w1.setCell ⟨w.heap.size,0,none⟩ (.bool false)).setCell ⟨w.heap.size,1,none⟩ (.bool false)).setCell ⟨w.heap.size,2,none⟩ (.string (mkB N.ds))).setCell ⟨w.heap.size,3,none⟩ (.int .i64 N.e)).alloc (.cells #[.pointer none,.slice none 0 0] 111):=⟨_,rfl⟩;rw[← hW]at HT k0 k1 k2 k3 g0 g1 g2 g3 hlt2 ⊢;clear hW)
   clear c0 c1 c2 c3 f0 f1 f2 f3
   go_wp2_with (first|(go_at_call 68;refine (sZ (tsH HT) HL0.out _ (by have hq:=HLN.out;have hq2:=HSZ.out;have hq3:=HXS.out;have hq4:=HYS.out;have hq7:=HX.out;have hq8:(⟨#[46]⟩:ByteArray).size=1:=rfl;have hq9:(⟨#[48,46]⟩:ByteArray).size=2:=rfl;have hq0:(⟨#[101]⟩:ByteArray).size=1:=rfl;simp only[List.length_append,List.length_nil,List.length_cons,ByteArray.size_append,tu,tV,tK];omega)).mono ?_;rintro e w3 ⟨rfl,ht⟩;have HT:=am ht;obtain⟨k0,k1,k2,k3,g0,g1,g2,g3,hlt2⟩:=dM HT.out.var;clear ht)|(go_at_call 69;refine (zf (tsH HT) _ HX0.out HX1.out).mono ?_;rintro e w4 ⟨rfl,ht⟩;have HT:=am ht;obtain⟨k0,k1,k2,k3,g0,g1,g2,g3,hlt2⟩:=dM HT.out.var;clear ht)|(go_at_call 71;refine (qy (tsH HT)).mono ?_;rintro e w5 ⟨rfl,hb5⟩;have HB5:=am hb5;clear hb5))
   go_region_with (first|(go_at_call 68;refine (sZ (tsH HT) HL0.out _ (by have hq:=HLN.out;have hq2:=HSZ.out;have hq3:=HXS.out;have hq4:=HYS.out;have hq7:=HX.out;have hq8:(⟨#[46]⟩:ByteArray).size=1:=rfl;have hq9:(⟨#[48,46]⟩:ByteArray).size=2:=rfl;have hq0:(⟨#[101]⟩:ByteArray).size=1:=rfl;simp only[List.length_append,List.length_nil,List.length_cons,ByteArray.size_append,tu,tV,tK];omega)).mono ?_;rintro e w3 ⟨rfl,ht⟩;have HT:=am ht;obtain⟨k0,k1,k2,k3,g0,g1,g2,g3,hlt2⟩:=dM HT.out.var;clear ht)|(go_at_call 69;refine (zf (tsH HT) _ HX0.out HX1.out).mono ?_;rintro e w4 ⟨rfl,ht⟩;have HT:=am ht;obtain⟨k0,k1,k2,k3,g0,g1,g2,g3,hlt2⟩:=dM HT.out.var;clear ht)|(go_at_call 71;refine (qy (tsH HT)).mono ?_;rintro e w5 ⟨rfl,hb5⟩;have HB5:=am hb5;clear hb5))
   all_goals (go_wp2_with (first|(go_at_call 68;refine (sZ (tsH HT) HL0.out _ (by have hq:=HLN.out;have hq2:=HSZ.out;have hq3:=HXS.out;have hq4:=HYS.out;have hq7:=HX.out;have hq8:(⟨#[46]⟩:ByteArray).size=1:=rfl;have hq9:(⟨#[48,46]⟩:ByteArray).size=2:=rfl;have hq0:(⟨#[101]⟩:ByteArray).size=1:=rfl;simp only[List.length_append,List.length_nil,List.length_cons,ByteArray.size_append,tu,tV,tK];omega)).mono ?_;rintro e w3 ⟨rfl,ht⟩;have HT:=am ht;obtain⟨k0,k1,k2,k3,g0,g1,g2,g3,hlt2⟩:=dM HT.out.var;clear ht)|(go_at_call 69;refine (zf (tsH HT) _ HX0.out HX1.out).mono ?_;rintro e w4 ⟨rfl,ht⟩;have HT:=am ht;obtain⟨k0,k1,k2,k3,g0,g1,g2,g3,hlt2⟩:=dM HT.out.var;clear ht)|(go_at_call 71;refine (qy (tsH HT)).mono ?_;rintro e w5 ⟨rfl,hb5⟩;have HB5:=am hb5;clear hb5)))
   all_goals go_ret2
   all_goals
     unfold vC;rw[HTX.out];refine⟨?_,HB5.out⟩;refine congrArg (fun x=>Ending.returned (.tuple #[.string x,.nilIface])) ?_;have e46:(⟨#[46]⟩:ByteArray)=mkB [46]:=rfl;have Y3:(⟨#[101]⟩:ByteArray)=mkB [101]:=rfl;have Ib:(⟨#[48,46]⟩:ByteArray)=mkB [48,46]:=rfl;simp only[HTK.out,HDR.out,e46,Y3,Ib,mf,uG,List.nil_append,List.append_assoc,List.cons_append,List.append_nil]
theorem rF (d N:D)(w:World)(hl0:Fx.Laid w)(h0:∀ W,Calls Tryz.prog 26 #[.agg #[.bool d.nar,.bool d.neg,.string (mkB d.ds),.int .i64 d.e]] W fun e w'=>e=.returned (.tuple #[.agg #[.bool N.nar,.bool N.neg,.string (mkB N.ds),.int .i64 N.e],.nilIface])∧Below W.heap.size W w')
    (hn:N.nar=false) (hl1:N.ds.length≤4096) (he1 : -1000000≤N.e) (he2:N.e≤1000000) (a:Int) (ha:a=(N.ds.length:Int)+N.e) (hc:(0≤N.e∧21<a)∨(N.e<0∧21<a)∨(N.e<0∧a < -5)) (h9:1<N.ds.length) :
    Calls Tryz.prog 30 #[.agg #[.bool d.nar,.bool d.neg,.string (mkB d.ds),.int .i64 d.e]] w fun e w'=>vC N w e w':=by
  rcases Bool.eq_false_or_eq_true N.neg with hneg|hneg
  all_goals
   have hD:Kt w.heap.size d (w.alloc (.cells #[.bool d.nar,.bool d.neg,.string (mkB d.ds),.int .i64 d.e] 23)):=heap_alloc_new w _;have HD:=am hD;have hsz:=cZ N.ds
   have haw:wrap64 (((mkB N.ds).size:Int)+N.e)=a:=by rw[hsz, ← ha];exact kN (by omega) (by omega)
   have ak2:IntKind.i64.wrap (((mkB N.ds).size:Int)+N.e)=a:=(bW _).trans haw;have HL0:=am hl0;have HLN:=am hl1;have HSZ:=am hsz;have HN:=am hn;have HNEG:=am hneg;rcases hc with⟨h1,h2⟩|⟨h1,h2⟩|⟨h1,h2⟩;have q1:decide (0≤N.e)=true:=decide_eq_true h1;have q2:decide (a≤21)=false:=decide_eq_false (by omega);have q3:decide (1≤a)=true:=decide_eq_true (by omega);have q4:decide (-5≤a)=true:=decide_eq_true (by omega);have q5:decide (a≤0)=false:=decide_eq_false (by omega);rotate_left;have q1:decide (0≤N.e)=false:=decide_eq_false (by omega);have q2:decide (a≤21)=false:=decide_eq_false (by omega);have q3:decide (1≤a)=true:=decide_eq_true (by omega);have q4:decide (-5≤a)=true:=decide_eq_true (by omega);have q5:decide (a≤0)=false:=decide_eq_false (by omega);rotate_left;have q1:decide (0≤N.e)=false:=decide_eq_false (by omega);have q3:decide (1≤a)=false:=decide_eq_false (by omega);have q4:decide (-5≤a)=false:=decide_eq_false (by omega);rotate_left
   all_goals
    have q8:decide ((1:Int)<((mkB N.ds).size:Int))=true:=decide_eq_true (by rw[hsz];omega);have q9:decide (1<(mkB N.ds).size)=true:=decide_eq_true (by rw[hsz];omega);have hw1:wrap64 (a-1)=a-1:=kN (by omega) (by omega);have hw2:IntKind.i64.wrap (a-1)=a-1:=(bW _).trans hw1
    have HX0:ae (-9223372036854775808≤a-1):=⟨by omega⟩
    have HX1:ae (a-1≤9223372036854775807):=⟨by omega⟩
    have HX:ae ((Lib.itoa (a-1)).length≤140000000000):=⟨Fz _ (by omega)⟩
    have p2:=eq_true (show (1:Int)≤((mkB N.ds).size:Int) by rw[hsz];omega);have p3:=eq_true (show (1:Nat)≤(mkB N.ds).size by rw[hsz];omega)
    have HTK:ae ((mkB N.ds).extract 0 1=mkB (N.ds.take 1)):=⟨xg _ _ (by omega)⟩
    have HDR:ae ((mkB N.ds).extract 1 (mkB N.ds).size=mkB (N.ds.drop 1)):=⟨xu _ _⟩
    obtain⟨X,hX⟩:∃ X,(mkB N.ds).extract 0 1=X:=⟨_,rfl⟩
    obtain⟨Y,hY⟩:∃ Y,(mkB N.ds).extract 1 (mkB N.ds).size=Y:=⟨_,rfl⟩
    have HXS:ae (X.size≤(mkB N.ds).size):=⟨by rw[← hX];exact FI _ _ _⟩
    have HYS:ae (Y.size≤(mkB N.ds).size):=⟨by rw[← hY];exact FI _ _ _⟩
    rw[hX]at HTK;rw[hY]at HDR;have y1:(9223372036854775807<1+Y.size)=False:=eq_false (by have hq:=HLN.out;have hq2:=HSZ.out;have hq3:=HXS.out;have hq4:=HYS.out;have hq7:=HX.out;have hq8:(⟨#[46]⟩:ByteArray).size=1:=rfl;have hq9:(⟨#[48,46]⟩:ByteArray).size=2:=rfl;have hq0:(⟨#[101]⟩:ByteArray).size=1:=rfl;omega);have y2:(9223372036854775807<1+(mkB (Lib.itoa (a-1))).size)=False:=eq_false (by have hq:=HLN.out;have hq2:=HSZ.out;have hq3:=HXS.out;have hq4:=HYS.out;have hq7:=HX.out;have hq8:(⟨#[46]⟩:ByteArray).size=1:=rfl;have hq9:(⟨#[48,46]⟩:ByteArray).size=2:=rfl;have hq0:(⟨#[101]⟩:ByteArray).size=1:=rfl;rw[tK];omega)
    obtain⟨sg,hsg⟩:∃ sg:List UInt8,(if N.neg=true then [45] else [])=sg:=⟨_,rfl⟩
    have HTX:ae (Ac N=sg++(N.ds.take 1++([46]++N.ds.drop 1) ++ [101]++Lib.itoa (a-1))):=⟨by
      unfold Ac;rw[if_neg (by rw[hn];decide),hsg];simp only[← ha,Bool.false_eq_true,if_false,if_true]
      rw[if_neg (by omega),if_neg (by omega),if_neg (by omega),if_pos h9]⟩
    rw[hneg]at hsg;simp only[Bool.false_eq_true,if_false,if_true]at hsg;subst hsg;rw[hn,hneg]at h0;clear hD hn hneg hl1 he1 he2 ha hsz hl0
    go_enter Tryz.func30,Tryz.ntmps30
    go_upto_region 9 with (first|(go_at_call 26;refine (h0 _).mono ?_;rintro e w1 ⟨rfl,hb⟩;have hv1:=mi HD.out hb (by simp);obtain⟨c0,c1,c2,c3,f0,f1,f2,f3,hlt⟩:=dM hv1;have ht0:=yR N hv1 (((Below.refl _ w).alloc (Nat.le_refl _) _).trans (hb.mono (by simp))) HL0.out;unfold chain at ht0;rw[HN.out,HNEG.out]at ht0;have HT:=am ht0;obtain⟨k0,k1,k2,k3,g0,g1,g2,g3,hlt2⟩:=dM HT.out.var;rw[HN.out]at k0;rw[HNEG.out]at k1;clear hb hv1 ht0)|(go_at_call 67;refine (CO (tsH HT) HL0.out 45 _ rfl (by simp)).mono ?_;rintro e w2 ⟨rfl,ht⟩;have HT:=am ht;obtain⟨k0,k1,k2,k3,g0,g1,g2,g3,hlt2⟩:=dM HT.out.var;clear ht))
    try (obtain⟨W,hW⟩:∃ W,W=((((w1.setCell ⟨w.heap.size,0,none⟩ (.bool false)).setCell ⟨w.heap.size,1,none⟩ (.bool false)).setCell ⟨w.heap.size,2,none⟩ (.string (mkB N.ds))).setCell ⟨w.heap.size,3,none⟩ (.int .i64 N.e)).alloc (.cells #[.pointer none,.slice none 0 0] 111):=⟨_,rfl⟩;rw[← hW]at HT k0 k1 k2 k3 g0 g1 g2 g3 hlt2 ⊢;clear hW)
    clear c0 c1 c2 c3 f0 f1 f2 f3
    go_wp2_with (first|(go_at_call 68;refine (sZ (tsH HT) HL0.out _ (by have hq:=HLN.out;have hq2:=HSZ.out;have hq3:=HXS.out;have hq4:=HYS.out;have hq7:=HX.out;have hq8:(⟨#[46]⟩:ByteArray).size=1:=rfl;have hq9:(⟨#[48,46]⟩:ByteArray).size=2:=rfl;have hq0:(⟨#[101]⟩:ByteArray).size=1:=rfl;simp only[List.length_append,List.length_nil,List.length_cons,ByteArray.size_append,tu,tV,tK];omega)).mono ?_;rintro e w3 ⟨rfl,ht⟩;have HT:=am ht;obtain⟨k0,k1,k2,k3,g0,g1,g2,g3,hlt2⟩:=dM HT.out.var;clear ht)|(go_at_call 70;refine (TG (tsH HT) _ HX0.out HX1.out).mono ?_;rintro e w4 ⟨rfl,ht⟩;have HT:=am ht;obtain⟨k0,k1,k2,k3,g0,g1,g2,g3,hlt2⟩:=dM HT.out.var;clear ht)|(go_at_call 71;refine (qy (tsH HT)).mono ?_;rintro e w5 ⟨rfl,hb5⟩;have HB5:=am hb5;clear hb5))
    all_goals go_ret2
    all_goals
      unfold vC;rw[HTX.out];refine⟨?_,HB5.out⟩;refine congrArg (fun x=>Ending.returned (.tuple #[.string x,.nilIface])) ?_;have e46:(⟨#[46]⟩:ByteArray)=mkB [46]:=rfl;have Y3:(⟨#[101]⟩:ByteArray)=mkB [101]:=rfl;have Ib:(⟨#[48,46]⟩:ByteArray)=mkB [48,46]:=rfl;simp only[HTK.out,HDR.out,e46,Y3,Ib,mf,uG,List.nil_append,List.append_assoc,List.cons_append,List.append_nil]
theorem rE (d N:D)(w:World)(hl0:Fx.Laid w)(h0:∀ W,Calls Tryz.prog 26 #[.agg #[.bool d.nar,.bool d.neg,.string (mkB d.ds),.int .i64 d.e]] W fun e w'=>e=.returned (.tuple #[.agg #[.bool N.nar,.bool N.neg,.string (mkB N.ds),.int .i64 N.e],.nilIface])∧Below W.heap.size W w')
    (hn:N.nar=false) (hl1:N.ds.length≤4096) (he1 : -1000000≤N.e) (he2:N.e≤1000000) (a:Int) (ha:a=(N.ds.length:Int)+N.e) (hc:(0≤N.e∧21<a)∨(N.e<0∧21<a)∨(N.e<0∧a < -5)) (h9:N.ds.length=1) :
    Calls Tryz.prog 30 #[.agg #[.bool d.nar,.bool d.neg,.string (mkB d.ds),.int .i64 d.e]] w fun e w'=>vC N w e w':=by
  rcases Bool.eq_false_or_eq_true N.neg with hneg|hneg
  all_goals
   have hD:Kt w.heap.size d (w.alloc (.cells #[.bool d.nar,.bool d.neg,.string (mkB d.ds),.int .i64 d.e] 23)):=heap_alloc_new w _;have HD:=am hD;have hsz:=cZ N.ds
   have haw:wrap64 (((mkB N.ds).size:Int)+N.e)=a:=by rw[hsz, ← ha];exact kN (by omega) (by omega)
   have ak2:IntKind.i64.wrap (((mkB N.ds).size:Int)+N.e)=a:=(bW _).trans haw;have HL0:=am hl0;have HLN:=am hl1;have HSZ:=am hsz;have HN:=am hn;have HNEG:=am hneg;rcases hc with⟨h1,h2⟩|⟨h1,h2⟩|⟨h1,h2⟩;have q1:decide (0≤N.e)=true:=decide_eq_true h1;have q2:decide (a≤21)=false:=decide_eq_false (by omega);have q3:decide (1≤a)=true:=decide_eq_true (by omega);have q4:decide (-5≤a)=true:=decide_eq_true (by omega);have q5:decide (a≤0)=false:=decide_eq_false (by omega);rotate_left;have q1:decide (0≤N.e)=false:=decide_eq_false (by omega);have q2:decide (a≤21)=false:=decide_eq_false (by omega);have q3:decide (1≤a)=true:=decide_eq_true (by omega);have q4:decide (-5≤a)=true:=decide_eq_true (by omega);have q5:decide (a≤0)=false:=decide_eq_false (by omega);rotate_left;have q1:decide (0≤N.e)=false:=decide_eq_false (by omega);have q3:decide (1≤a)=false:=decide_eq_false (by omega);have q4:decide (-5≤a)=false:=decide_eq_false (by omega);rotate_left
   all_goals
    have q8:decide ((1:Int)<((mkB N.ds).size:Int))=false:=decide_eq_false (by rw[hsz];omega);have q9:decide (1<(mkB N.ds).size)=false:=decide_eq_false (by rw[hsz];omega);have hw1:wrap64 (a-1)=a-1:=kN (by omega) (by omega);have hw2:IntKind.i64.wrap (a-1)=a-1:=(bW _).trans hw1
    have HX0:ae (-9223372036854775808≤a-1):=⟨by omega⟩
    have HX1:ae (a-1≤9223372036854775807):=⟨by omega⟩
    have HX:ae ((Lib.itoa (a-1)).length≤140000000000):=⟨Fz _ (by omega)⟩
    have p2:=eq_true (show (1:Int)≤((mkB N.ds).size:Int) by rw[hsz];omega);have p3:=eq_true (show (1:Nat)≤(mkB N.ds).size by rw[hsz];omega)
    have HTK:ae ((mkB N.ds).extract 0 1=mkB (N.ds.take 1)):=⟨xg _ _ (by omega)⟩
    have HDR:ae ((mkB N.ds).extract 1 (mkB N.ds).size=mkB (N.ds.drop 1)):=⟨xu _ _⟩
    obtain⟨X,hX⟩:∃ X,(mkB N.ds).extract 0 1=X:=⟨_,rfl⟩
    obtain⟨Y,hY⟩:∃ Y,(mkB N.ds).extract 1 (mkB N.ds).size=Y:=⟨_,rfl⟩
    have HXS:ae (X.size≤(mkB N.ds).size):=⟨by rw[← hX];exact FI _ _ _⟩
    have HYS:ae (Y.size≤(mkB N.ds).size):=⟨by rw[← hY];exact FI _ _ _⟩
    rw[hX]at HTK;rw[hY]at HDR;have y2:(9223372036854775807<1+(mkB (Lib.itoa (a-1))).size)=False:=eq_false (by have hq:=HLN.out;have hq2:=HSZ.out;have hq3:=HXS.out;have hq4:=HYS.out;have hq7:=HX.out;have hq8:(⟨#[46]⟩:ByteArray).size=1:=rfl;have hq9:(⟨#[48,46]⟩:ByteArray).size=2:=rfl;have hq0:(⟨#[101]⟩:ByteArray).size=1:=rfl;rw[tK];omega)
    obtain⟨sg,hsg⟩:∃ sg:List UInt8,(if N.neg=true then [45] else [])=sg:=⟨_,rfl⟩
    have HTX:ae (Ac N=sg++(N.ds.take 1 ++ [] ++ [101]++Lib.itoa (a-1))):=⟨by
      unfold Ac;rw[if_neg (by rw[hn];decide),hsg];simp only[← ha,Bool.false_eq_true,if_false,if_true]
      rw[if_neg (by omega),if_neg (by omega),if_neg (by omega),if_neg (by omega)]⟩
    rw[hneg]at hsg;simp only[Bool.false_eq_true,if_false,if_true]at hsg;subst hsg;rw[hn,hneg]at h0;clear hD hn hneg hl1 he1 he2 ha hsz hl0
    go_enter Tryz.func30,Tryz.ntmps30
    go_upto_region 9 with (first|(go_at_call 26;refine (h0 _).mono ?_;rintro e w1 ⟨rfl,hb⟩;have hv1:=mi HD.out hb (by simp);obtain⟨c0,c1,c2,c3,f0,f1,f2,f3,hlt⟩:=dM hv1;have ht0:=yR N hv1 (((Below.refl _ w).alloc (Nat.le_refl _) _).trans (hb.mono (by simp))) HL0.out;unfold chain at ht0;rw[HN.out,HNEG.out]at ht0;have HT:=am ht0;obtain⟨k0,k1,k2,k3,g0,g1,g2,g3,hlt2⟩:=dM HT.out.var;rw[HN.out]at k0;rw[HNEG.out]at k1;clear hb hv1 ht0)|(go_at_call 67;refine (CO (tsH HT) HL0.out 45 _ rfl (by simp)).mono ?_;rintro e w2 ⟨rfl,ht⟩;have HT:=am ht;obtain⟨k0,k1,k2,k3,g0,g1,g2,g3,hlt2⟩:=dM HT.out.var;clear ht))
    try (obtain⟨W,hW⟩:∃ W,W=((((w1.setCell ⟨w.heap.size,0,none⟩ (.bool false)).setCell ⟨w.heap.size,1,none⟩ (.bool false)).setCell ⟨w.heap.size,2,none⟩ (.string (mkB N.ds))).setCell ⟨w.heap.size,3,none⟩ (.int .i64 N.e)).alloc (.cells #[.pointer none,.slice none 0 0] 111):=⟨_,rfl⟩;rw[← hW]at HT k0 k1 k2 k3 g0 g1 g2 g3 hlt2 ⊢;clear hW)
    clear c0 c1 c2 c3 f0 f1 f2 f3
    go_wp2_with (first|(go_at_call 68;refine (sZ (tsH HT) HL0.out _ (by have hq:=HLN.out;have hq2:=HSZ.out;have hq3:=HXS.out;have hq4:=HYS.out;have hq7:=HX.out;have hq8:(⟨#[46]⟩:ByteArray).size=1:=rfl;have hq9:(⟨#[48,46]⟩:ByteArray).size=2:=rfl;have hq0:(⟨#[101]⟩:ByteArray).size=1:=rfl;simp only[List.length_append,List.length_nil,List.length_cons,ByteArray.size_append,tu,tV,tK];omega)).mono ?_;rintro e w3 ⟨rfl,ht⟩;have HT:=am ht;obtain⟨k0,k1,k2,k3,g0,g1,g2,g3,hlt2⟩:=dM HT.out.var;clear ht)|(go_at_call 70;refine (TG (tsH HT) _ HX0.out HX1.out).mono ?_;rintro e w4 ⟨rfl,ht⟩;have HT:=am ht;obtain⟨k0,k1,k2,k3,g0,g1,g2,g3,hlt2⟩:=dM HT.out.var;clear ht)|(go_at_call 71;refine (qy (tsH HT)).mono ?_;rintro e w5 ⟨rfl,hb5⟩;have HB5:=am hb5;clear hb5))
    all_goals go_ret2
    all_goals
      unfold vC;rw[HTX.out];refine⟨?_,HB5.out⟩;refine congrArg (fun x=>Ending.returned (.tuple #[.string x,.nilIface])) ?_;have e46:(⟨#[46]⟩:ByteArray)=mkB [46]:=rfl;have Y3:(⟨#[101]⟩:ByteArray)=mkB [101]:=rfl;have Ib:(⟨#[48,46]⟩:ByteArray)=mkB [48,46]:=rfl;simp only[HTK.out,HDR.out,e46,Y3,Ib,mf,uG,List.nil_append,List.append_assoc,List.cons_append,List.append_nil]
end Go.Proofs.Yy.PTx
end
section
namespace Go.Proofs.Yy.PTx
open Go.RowKit Go.Proofs.Yw.PrintWords Go.Proofs.Yw.PrintLast Go.Proofs.Yw.PrintMore Go.Proofs.Yy.SC Go.Proofs.Yy.SR
theorem kK (a:Int)(w:World):Calls Tryz.prog 61 #[.int .i64 a] w fun e w' => ∃ gf,e=.returned (.iface 122 (.pointer (some ⟨gf,0,none⟩)))∧w.heap.size≤gf∧Fa.Gp w' gf 0 a 14∧Below w.heap.size w w':=by
  go_enter Tryz.func61,Tryz.ntmps61
  go_wp2
  go_ret
  exact⟨_,rfl,Nat.le_refl _,heap_alloc_new w _,(Below.refl _ w).alloc (Nat.le_refl _) _⟩
theorem xQ (B b k:Nat)(r:R)(w:World)(h:At B b r w)(hi:Inv k r):Calls Tryz.prog 63 #[.pointer (some ⟨b,0,none⟩)] w fun e w'=>e=.returned (.bool (whole r))∧w'=w:=by
  obtain⟨v,h⟩:=h;obtain⟨c0,c1,c2,c3,c4,c5,f0,f1,f2,f3,f4,f5,hlt⟩:=lN h.2.1;unfold whole
  rcases acb hi.st with hs|hs|hs|hs|hs|hs|hs|hs <;> rw[hs]at c0 ⊢ <;> (
    go_enter Tryz.func63,Tryz.ntmps63
    go_wp2
    go_ret
    exact⟨rfl,rfl⟩)
abbrev qR:Array Value:=#[.bool false,.bool false,.string (⟨#[]⟩:ByteArray),.int .i64 0]
def Oi (p:Nat)(w:World)(e:Ending)(w':World):Prop := ∃ g,e=.returned (.tuple #[.agg qR,.iface 122 (.pointer (some ⟨g,0,none⟩))])∧w.heap.size≤g∧Fa.Gp w' g 0 (p:Int) 14∧Below w.heap.size w w'
def JE (g:Nat)(w:World):Prop:=w.heap[g]? = some (.cells qR 23 (0,0))
def agt (w:World)(g:Nat)(v0 v1 v2 v3:Value):World:=(((w.setCell ⟨g,0,none⟩ v0).setCell ⟨g,1,none⟩ v1).setCell ⟨g,2,none⟩ v2).setCell ⟨g,3,none⟩ v3
theorem wu {w:World}{g:Nat}(h:JE g w)(v0 v1 v2 v3:Value):(agt w g v0 v1 v2 v3).heap[g]? = some (.cells #[v0,v1,v2,v3] 23 (0,0)) :=
  vT (vT (vT (vT h 0 v0 rfl) 1 v1 rfl) 2 v2 rfl) 3 v3 rfl
theorem Qg {w:World}{g k:Nat}(h:k≠g)(v0 v1 v2 v3:Value):(agt w g v0 v1 v2 v3).heap[k]? = w.heap[k]?:=by
  unfold agt;rw[heap_setCell_other _ _ _ _ h,heap_setCell_other _ _ _ _ h,heap_setCell_other _ _ _ _ h,heap_setCell_other _ _ _ _ h]
theorem xe {B:Nat}{w0 w:World}{g:Nat}(h:Below B w0 w)(hg:B≤g)(v0 v1 v2 v3:Value):Below B w0 (agt w g v0 v1 v2 v3) :=
  (((h.setCell (p:=⟨g,0,none⟩) hg v0).setCell (p:=⟨g,1,none⟩) hg v1).setCell (p:=⟨g,2,none⟩) hg v2).setCell (p:=⟨g,3,none⟩) hg v3
theorem jH {w:World}{g:Nat}(h:JE g w):w.cell? ⟨g,0,none⟩=some (.bool false)∧w.cell? ⟨g,1,none⟩=some (.bool false)∧w.cell? ⟨g,2,none⟩=some (.string (⟨#[]⟩:ByteArray))∧w.cell? ⟨g,3,none⟩=some (.int .i64 0) ∧
    w.frozen? ⟨g,0,none⟩=false∧w.frozen? ⟨g,1,none⟩=false∧w.frozen? ⟨g,2,none⟩=false∧w.frozen? ⟨g,3,none⟩=false:=by
  unfold JE at h;exact⟨(ag h 0).trans rfl,(ag h 1).trans rfl,(ag h 2).trans rfl,(ag h 3).trans rfl,ak h 0,ak h 1,ak h 2,ak h 3⟩
theorem NE (w:World):JE w.heap.size (w.alloc (.cells qR 23)):=heap_alloc_new w _
theorem gG {g:Nat}{w w':World}(h:JE g w)(hb:Below w.heap.size w w'):JE g w':=by
  unfold JE at *;rw[hb.block g (Array.getElem?_eq_some_iff.1 h).1];exact h
theorem wB {w0 w1 w2:World}{p gf:Nat}(h0:Below w0.heap.size w0 w1)(hr:JE w0.heap.size w1)(hg:w1.heap.size≤gf)(hF:Fa.Gp w2 gf 0 (p:Int) 14)(hb:Below w1.heap.size w1 w2) :
    Oi p w0 (.returned (.tuple #[.agg qR,.iface 122 (.pointer (some ⟨gf,0,none⟩))])) (agt w2 w0.heap.size (.bool false) (.bool false) (.string (⟨#[]⟩:ByteArray)) (.int .i64 0)):=by
  have hlt:w0.heap.size<w1.heap.size:=(Array.getElem?_eq_some_iff.1 hr).1;refine⟨gf,rfl,by omega,?_,xe (h0.trans (hb.mono (by omega))) (Nat.le_refl _) _ _ _ _⟩;unfold Fa.Gp at *;rw[Qg (by omega)];exact hF
set_option maxHeartbeats 1000000 in
theorem UC (s:ByteArray)(w:World)(h:4096<s.size):Calls Tryz.prog 25 #[.string s] w fun e w'=>e=.returned (.tuple #[.agg qR,.iface 64 (.int .i64 13)])∧Below w.heap.size w w':=by
  have hb1:decide (4096<(s.size:Int))=true:=decide_eq_true (by omega);have hb2:decide (4096<s.size)=true:=decide_eq_true h;clear h
  go_enter Tryz.func25,Tryz.ntmps25
  go_wp2
  refine bodyPost_ret (dh rfl _ _ w.heap.size 23 qR (0,0) _ rfl (heap_alloc_new w _) Tryz.underlying23 rfl (by kernel_rfl)) rfl ?_;exact⟨rfl,(Below.refl _ w).alloc (Nat.le_refl _) _⟩
theorem al5 {s:ByteArray}(hn:hd (· == 110) s.data.toList=true):bt s 0=110∧Lib.hasPrefix s.data.toList [110]=true:=by
  cases hl:s.data.toList with
  | nil=>rw[hl]at hn;cases hn
  | cons c l =>
    rw[hl]at hn
    have hc:c=110:=by simpa [hd] using hn
    subst hc;have h:=ZO 110 l;rw[← hl,Gq]at h;exact⟨by simpa using h,rfl⟩
theorem kC (s:ByteArray)(b:Bool)(h:Lib.hasPrefix s.data.toList [110]=b)(w:World) :
    Calls Tryz.prog 60 #[.string s,.string ((⟨#[110,97,114]⟩:ByteArray).extract 0 1)] w fun e w'=>e=.returned (.bool b)∧w'=w:=by
  subst h;exact Tryz.strings_HasPrefix s ⟨#[110]⟩ w
abbrev CU:ByteArray:=⟨#[110,97,114]⟩
theorem Ad (l:List UInt8)(i:Nat)(x:UInt8):hd (· == x) (l.drop i)=true ↔ i<l.length∧bt (mkB l) (i:Int)=(x.toNat:Int):=by
  by_cases h:i<l.length
  · rw[EG h,List.drop_eq_getElem_cons h]
    simp only[hd,beq_iff_eq,h,true_and]
    constructor
    · rintro rfl;rfl
    · intro h2
      exact UInt8.toNat_inj.1 (by omega)
  · rw[List.drop_eq_nil_iff.2 (by omega)]
    simp[hd,h]
theorem La (l:List UInt8):(∀ v:Nat,v<wordAt l→v<l.length∧bt (mkB l) (v:Int)=bt CU (v:Int))∧(wordAt l<3→wordAt l<l.length→bt (mkB l) (wordAt l:Int)≠bt CU (wordAt l:Int)):=by
  have z0:bt CU ((0:Nat):Int)=110:=by decide
  have z1:bt CU ((1:Nat):Int)=97:=by decide
  have z2:bt CU ((2:Nat):Int)=114:=by decide
  have h0:=Ad l 0 110;have h1:=Ad l 1 97;have h2:=Ad l 2 114;rw[List.drop_zero]at h0;have t0:((110:UInt8).toNat:Int)=110:=rfl;have t1:((97:UInt8).toNat:Int)=97:=rfl;have t2:((114:UInt8).toNat:Int)=114:=rfl;rw[t0, ← z0]at h0;rw[t1, ← z1]at h1;rw[t2, ← z2]at h2;unfold wordAt
  by_cases c0:hd (· == 110) l=true
  · rw[if_pos c0]
    obtain⟨a0,b0⟩:=h0.1 c0
    by_cases c1:hd (· == 97) (l.drop 1)=true
    · rw[if_pos c1]
      obtain⟨a1,b1⟩:=h1.1 c1
      by_cases c2:hd (· == 114) (l.drop 2)=true
      · rw[if_pos c2]
        obtain⟨a2,b2⟩:=h2.1 c2;refine⟨fun v hv=>?_,fun h=>absurd h (by decide)⟩
        have:v=0∨v=1∨v=2:=by omega
        rcases this with rfl|rfl|rfl
        · exact⟨a0,b0⟩
        · exact⟨a1,b1⟩
        · exact⟨a2,b2⟩
      · rw[if_neg c2]
        refine⟨fun v hv=>?_,fun _ hl hb=>c2 (h2.2 ⟨hl,hb⟩)⟩
        have:v=0∨v=1:=by omega
        rcases this with rfl|rfl
        · exact⟨a0,b0⟩
        · exact⟨a1,b1⟩
    · rw[if_neg c1]
      refine⟨fun v hv=>?_,fun _ hl hb=>c1 (h1.2 ⟨hl,hb⟩)⟩
      obtain rfl:v=0:=by omega
      exact⟨a0,b0⟩
  · rw[if_neg c0]
    exact⟨fun v hv=>absurd hv (Nat.not_lt_zero v),fun _ hl hb=>c0 (h0.2 ⟨hl,hb⟩)⟩
def FZ (l:List UInt8)(w:World)(e:Ending)(w':World):Prop :=
  if wordAt l<3∨3<l.length then Oi (wordAt l) w e w' else e=.returned (.tuple #[.agg #[.bool true,.bool false,.string (⟨#[]⟩:ByteArray),.int .i64 0],.nilIface])∧Below w.heap.size w w'
set_option maxHeartbeats 4000000 in
theorem TY (s:ByteArray)(w:World)(h:s.size≤4096)(hn:hd (· == 110) s.data.toList=true) :
    Calls Tryz.prog 25 #[.string s] w fun e w'=>FZ s.data.toList w e w':=by
  have hb1:decide (4096<(s.size:Int))=false:=decide_eq_false (by omega);have hb2:decide (4096<s.size)=false:=decide_eq_false (by omega);obtain⟨b0,hp⟩:=al5 hn;obtain⟨sp1,sp2⟩:=La s.data.toList;obtain⟨le1,le2⟩:=RG s.data.toList;have hlen:s.data.toList.length=s.size:=Array.length_toList;rw[hlen]at le2;have HP:=am hp;have HR0:=am (NE w);have S1:=am sp1;have S2:=am sp2;clear hp hn b0 sp1 sp2
  go_enter Tryz.func25,Tryz.ntmps25
  go_wp2_with (first|(go_at_call 60;refine (kC s _ HP.out _).mono ?_;rintro e w1 ⟨rfl,rfl⟩)|(go_at_call 61;refine (kK _ _).mono ?_;rintro e w2 ⟨gf,rfl,hgf,hFf,hbf⟩;obtain⟨k0,k1,k2,k3,k4,k5,k6,k7⟩:=jH (gG (by exact HR.out) hbf);have HF1:=am hgf;have HF2:=am hFf;have HF3:=am hbf;clear hgf hFf hbf))
  go_loopw [16] (fun i w' => ∃ v:Int,0≤v∧v≤(wordAt s.data.toList:Int)∧i=.int .i64 v∧ae (JE w.heap.size w')∧ae (Below w.heap.size w w')) (fun i _=>(4-intOf i).toNat)
  case atStart=>exact⟨0,by omega,by omega,rfl,HR0,⟨(Below.refl _ w).alloc (Nat.le_refl _) _⟩⟩
  case round =>
    obtain⟨v,hv0,hv1,rfl,HR,HBJ⟩:=hrel;clear HR0
    by_cases h3:v<3
    · have d3:decide (v<3)=true:=decide_eq_true h3
      by_cases hs:v=(s.size:Int)
      · have q1:(v == (s.size:Int))=true:=beq_iff_eq.mpr hs
        have q2:decide (v<(s.size:Int))=false:=decide_eq_false (by omega)
        have HV:ae (v=(wordAt s.data.toList:Int)):=⟨by omega⟩
        have HW:ae (wordAt s.data.toList<3):=⟨by omega⟩
        clear hs
        go_wp2_with (first|(go_at_call 60;refine (kC s _ HP.out _).mono ?_;rintro e w1 ⟨rfl,rfl⟩)|(go_at_call 61;refine (kK _ _).mono ?_;rintro e w2 ⟨gf,rfl,hgf,hFf,hbf⟩;obtain⟨k0,k1,k2,k3,k4,k5,k6,k7⟩:=jH (gG (by exact HR.out) hbf);have HF1:=am hgf;have HF2:=am hFf;have HF3:=am hbf;clear hgf hFf hbf))
        repeat (go_quiet (fail);try go_wp2_with (first|(go_at_call 60;refine (kC s _ HP.out _).mono ?_;rintro e w1 ⟨rfl,rfl⟩)|(go_at_call 61;refine (kK _ _).mono ?_;rintro e w2 ⟨gf,rfl,hgf,hFf,hbf⟩;obtain⟨k0,k1,k2,k3,k4,k5,k6,k7⟩:=jH (gG (by exact HR.out) hbf);have HF1:=am hgf;have HF2:=am hFf;have HF3:=am hbf;clear hgf hFf hbf)))
        refine bodyPost_ret (dh rfl _ _ w.heap.size 23 qR (0,0) _ rfl (wu (gG (by exact HR.out) HF3.out) (.bool false) (.bool false) (.string (⟨#[]⟩:ByteArray)) (.int .i64 0)) Tryz.underlying23 rfl (by kernel_rfl)) rfl ?_;unfold FZ;rw[if_pos (.inl HW.out)];refine wB (p:=wordAt s.data.toList) (by first|exact HBJ.out|exact aJ HBJ.out _) (by exact HR.out) HF1.out ?_ HF3.out;rw[← HV.out];exact HF2.out
      · have hlt:v<(s.size:Int):=by omega
        have q1:(v == (s.size:Int))=false:=beq_eq_false_iff_ne.mpr hs;have p6:=eq_true hv0;have q6:=eq_true hlt;have q6b:decide (v<(s.size:Int))=true:=decide_eq_true hlt;have hx6:=ru s v;have q7:=eq_true h3;have hx7:=ru CU v
        by_cases hm:bt s v=bt CU v
        · have hm1:(bt s v == bt CU v)=true:=beq_iff_eq.mpr hm
          have hm2:(bt s v != bt CU v)=false:=bne_eq_false_iff_eq.mpr hm
          have HV:ae (v<(wordAt s.data.toList:Int)):=⟨by
            by_cases h':v<(wordAt s.data.toList:Int)
            · exact h'
            · exfalso
              have e1:v=(wordAt s.data.toList:Int):=by omega
              refine S2.out (by omega) (by rw[hlen];omega) ?_
              rw[Gq, ← e1];exact hm⟩
          clear hs hm hlt
          go_wp2_with (first|(go_at_call 60;refine (kC s _ HP.out _).mono ?_;rintro e w1 ⟨rfl,rfl⟩)|(go_at_call 61;refine (kK _ _).mono ?_;rintro e w2 ⟨gf,rfl,hgf,hFf,hbf⟩;obtain⟨k0,k1,k2,k3,k4,k5,k6,k7⟩:=jH (gG (by exact HR.out) hbf);have HF1:=am hgf;have HF2:=am hFf;have HF3:=am hbf;clear hgf hFf hbf))
          repeat (go_quiet (fail);try go_wp2_with (first|(go_at_call 60;refine (kC s _ HP.out _).mono ?_;rintro e w1 ⟨rfl,rfl⟩)|(go_at_call 61;refine (kK _ _).mono ?_;rintro e w2 ⟨gf,rfl,hgf,hFf,hbf⟩;obtain⟨k0,k1,k2,k3,k4,k5,k6,k7⟩:=jH (gG (by exact HR.out) hbf);have HF1:=am hgf;have HF2:=am hFf;have HF3:=am hbf;clear hgf hFf hbf)))
          go_roundw
          case rel=>exact⟨v+1,by omega,by have:=HV.out;omega,by first|rfl|rw[kN (by omega) (by omega)],⟨by exact HR.out⟩,⟨by first|exact HBJ.out|exact aJ HBJ.out _⟩⟩
          case measure=>simp only[intOf];omega
        · have hm1:(bt s v == bt CU v)=false:=beq_eq_false_iff_ne.mpr hm
          have hm2:(bt s v != bt CU v)=true:=bne_iff_ne.mpr hm
          have HV:ae (v=(wordAt s.data.toList:Int)):=⟨by
            by_cases h':v<(wordAt s.data.toList:Int)
            · exfalso
              obtain⟨n,rfl⟩:=Int.eq_ofNat_of_zero_le hv0;exact hm (S1.out n (by omega)).2
            · omega⟩
          have HW:ae (wordAt s.data.toList<3):=⟨by have:=HV.out;omega⟩
          clear hs hm hlt
          go_wp2_with (first|(go_at_call 60;refine (kC s _ HP.out _).mono ?_;rintro e w1 ⟨rfl,rfl⟩)|(go_at_call 61;refine (kK _ _).mono ?_;rintro e w2 ⟨gf,rfl,hgf,hFf,hbf⟩;obtain⟨k0,k1,k2,k3,k4,k5,k6,k7⟩:=jH (gG (by exact HR.out) hbf);have HF1:=am hgf;have HF2:=am hFf;have HF3:=am hbf;clear hgf hFf hbf))
          repeat (go_quiet (fail);try go_wp2_with (first|(go_at_call 60;refine (kC s _ HP.out _).mono ?_;rintro e w1 ⟨rfl,rfl⟩)|(go_at_call 61;refine (kK _ _).mono ?_;rintro e w2 ⟨gf,rfl,hgf,hFf,hbf⟩;obtain⟨k0,k1,k2,k3,k4,k5,k6,k7⟩:=jH (gG (by exact HR.out) hbf);have HF1:=am hgf;have HF2:=am hFf;have HF3:=am hbf;clear hgf hFf hbf)))
          refine bodyPost_ret (dh rfl _ _ w.heap.size 23 qR (0,0) _ rfl (wu (gG (by exact HR.out) HF3.out) (.bool false) (.bool false) (.string (⟨#[]⟩:ByteArray)) (.int .i64 0)) Tryz.underlying23 rfl (by kernel_rfl)) rfl ?_;unfold FZ;rw[if_pos (.inl HW.out)];refine wB (p:=wordAt s.data.toList) (by first|exact HBJ.out|exact aJ HBJ.out _) (by exact HR.out) HF1.out ?_ HF3.out;rw[← HV.out];exact HF2.out
    · have d3:decide (v<3)=false:=decide_eq_false h3
      have HW:ae (wordAt s.data.toList=3):=⟨by omega⟩
      have HL:=am hlen
      by_cases hl:3<s.size
      · have r1:decide ((3:Int)<(s.size:Int))=true:=decide_eq_true (by omega)
        have r2:decide (3<s.size)=true:=decide_eq_true hl;have HL3:=am hl;clear hl
        go_wp2_with (first|(go_at_call 60;refine (kC s _ HP.out _).mono ?_;rintro e w1 ⟨rfl,rfl⟩)|(go_at_call 61;refine (kK _ _).mono ?_;rintro e w2 ⟨gf,rfl,hgf,hFf,hbf⟩;obtain⟨k0,k1,k2,k3,k4,k5,k6,k7⟩:=jH (gG (by exact HR.out) hbf);have HF1:=am hgf;have HF2:=am hFf;have HF3:=am hbf;clear hgf hFf hbf))
        refine bodyPost_ret (dh rfl _ _ w.heap.size 23 qR (0,0) _ rfl (wu (gG (by exact HR.out) HF3.out) (.bool false) (.bool false) (.string (⟨#[]⟩:ByteArray)) (.int .i64 0)) Tryz.underlying23 rfl (by kernel_rfl)) rfl ?_;unfold FZ;rw[if_pos (.inr (by rw[HL.out];exact HL3.out))];refine wB (p:=wordAt s.data.toList) (by first|exact HBJ.out|exact aJ HBJ.out _) (by exact HR.out) HF1.out ?_ HF3.out;rw[HW.out];exact HF2.out
      · have r1:decide ((3:Int)<(s.size:Int))=false:=decide_eq_false (by omega)
        have r2:decide (3<s.size)=false:=decide_eq_false hl;have HL3:=am hl;obtain⟨k0,k1,k2,k3,k4,k5,k6,k7⟩:=jH HR.out;clear hl
        go_wp2_with (first|(go_at_call 60;refine (kC s _ HP.out _).mono ?_;rintro e w1 ⟨rfl,rfl⟩)|(go_at_call 61;refine (kK _ _).mono ?_;rintro e w2 ⟨gf,rfl,hgf,hFf,hbf⟩;obtain⟨k0,k1,k2,k3,k4,k5,k6,k7⟩:=jH (gG (by exact HR.out) hbf);have HF1:=am hgf;have HF2:=am hFf;have HF3:=am hbf;clear hgf hFf hbf))
        refine bodyPost_ret (dh rfl _ _ w.heap.size 23 #[.bool true,.bool false,.string (⟨#[]⟩:ByteArray),.int .i64 0] (0,0) _ rfl (wu HR.out (.bool true) (.bool false) (.string (⟨#[]⟩:ByteArray)) (.int .i64 0)) Tryz.underlying23 rfl (by kernel_rfl)) rfl ?_;unfold FZ
        rw [if_neg (by rw [HL.out, HW.out]; intro h'; rcases h' with h' | h'; · omega
                       · exact HL3.out h')]
        exact⟨rfl,xe HBJ.out (Nat.le_refl _) _ _ _ _⟩
end Go.Proofs.Yy.PTx
end
