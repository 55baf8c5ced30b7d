/- Part 13 of what the proof needs. -/
import Derived.Lib.Strings
import Derived.Lib.Hide
import Derived.StillTailTactics
import Derived.Deep.RegionWith
import Derived.Test.YtpfnkbnepcchgaaGreatDoorKTEAI
set_option linter.unusedSimpArgs false
set_option linter.unusedVariables false
section
namespace Go.Proofs.Yy.PTx
open Go.RowKit Go.Proofs.Yw.PrintWords Go.Proofs.Yw.PrintLast Go.Proofs.Yw.PrintMore Go.Proofs.Yy.SC
def mkB (l:List UInt8):ByteArray:=⟨l.toArray⟩
theorem aY (l:List UInt8):(mkB l).size=l.length:=List.size_toArray ..
theorem qF (l:List UInt8):(mkB l).data.toList=l:=rfl
theorem pO (l:List UInt8):(mkB l).toList=l:=by rw [Lib.toList_data];rfl
theorem Gu (s:ByteArray):mkB s.data.toList=s:=rfl
theorem fO (a b:List UInt8):mkB a ++ mkB b=mkB (a ++ b):=by
 apply ByteArray.ext
 rw [ByteArray.data_append]
 simp [mkB]
theorem TI (l:List UInt8) (a b:Nat) (hb:b≤l.length):(mkB l).extract a b=mkB ((l.take b).drop a):=by
 apply ByteArray.ext
 rw [ByteArray.data_extract]
 simp only [mkB]
 rw [List.extract_toArray]
 congr 1
 rw [List.extract_eq_drop_take',List.drop_take] <;> rfl
theorem qH (l:List UInt8) (n:Nat) (h:n≤l.length):(mkB l).extract 0 n=mkB (l.take n):=by rw [TI l 0 n h,List.drop_zero]
theorem qC (l:List UInt8) (n:Nat):(mkB l).extract n (mkB l).size=mkB (l.drop n):=by rw [aY,TI l n l.length (Nat.le_refl _),List.take_length]
theorem Cf {l:List UInt8} {i:Nat} (h:i<l.length):bt (mkB l) (i:Int)=((l[i]'h).toNat:Int):=by
 unfold bt
 rw [Int.toNat_natCast,dif_pos (by rw [aY];exact h)]
 rfl
theorem Uo (c:UInt8) (l:List UInt8):bt (mkB (c :: l)) 0=(c.toNat:Int):=by
 have:=Cf (l:=c :: l) (i:=0) (by simp)
 simpa using this
def zX (d:D):Bool × Bool × ByteArray × Int:=(d.nar,d.neg,mkB d.ds,d.e)
theorem jb {n:Int} (h1 : -9223372036854775808≤n) (h2:n≤9223372036854775807):wrap64 n=n:=by unfold wrap64;omega
theorem Aw (d:D) (hl:d.ds.length≤9223372036854775807) (h1 : -1000000≤d.e) (h2:d.e≤1000000):iH.f d.nar d.neg (mkB d.ds) d.e=some (zX (nrm d)):=by
 obtain ⟨nar,neg,ds,e⟩:=d
 simp only at hl h1 h2
 unfold iH.f nrm zX
 cases nar with
 | true=>rfl
 | false =>
  simp only [Bool.false_eq_true,if_false]
  have hs:jC.f (mkB ds) (⟨#[48]⟩:ByteArray)=some (mkB (lz ds)):=rfl
  rw [hs]
  simp only [Option.bind_some]
  have hll:=Uz ds
  by_cases h0:lz ds = []
  ·rw [if_pos (by rw [pO];exact h0),if_pos h0]
   rfl
  ·rw [if_neg (by rw [pO];exact h0),if_neg h0]
   have hr:iZ.f (mkB (lz ds)) (⟨#[48]⟩:ByteArray)=some (mkB (rz (lz ds))):=by
    unfold iZ.f
    rw [if_pos ⟨rfl,by rw [aY];omega⟩]
    rfl
   rw [hr]
   simp only [Option.bind_some,aY]
   have hrl:=XH (lz ds)
   have hm:kQ=1000000:=rfl
   have e1:mn (wrap64 (((lz ds).length:Int) - ((rz (lz ds)).length:Int))) (wrap64 (1000000 - e))=((min (tz (lz ds)) (kQ - e).toNat:Nat):Int):=by
    rw [jb (by omega) (by omega),jb (by omega) (by omega)]
    unfold mn tz
    split <;> omega
   rw [e1]
   have hk:min (tz (lz ds)) (kQ - e).toNat≤(lz ds).length:=by unfold tz;omega
   have hk2:min (tz (lz ds)) (kQ - e).toNat≤(kQ - e).toNat:=Nat.min_le_right _ _
   generalize min (tz (lz ds)) (kQ - e).toNat=k at *
   rw [jb (n:=((lz ds).length:Int) - (k:Int)) (by omega) (by omega),if_pos (by omega),if_pos (by omega),jb (n:=e+(k:Int)) (by omega) (by omega)]
   have e2:(((lz ds).length:Int) - (k:Int)).toNat=(lz ds).length - k:=by omega
   rw [e2,qH _ _ (by omega)]
theorem aeB (c:UInt8):qh.contains c=dg c:=by
 have h:∀ n:Fin 256,qh.contains (UInt8.ofNat n.val)=dg (UInt8.ofNat n.val):=by decide +kernel
 have:=h ⟨c.toNat,c.toNat_lt⟩
 simpa using this
theorem TG {p:UInt8→Bool} {l:List UInt8}:l.dropWhile p = [] ↔ ∀ x ∈ l,p x=true:=by
 induction l with
 | nil=>simp
 | cons c l ih =>
  rw [List.dropWhile_cons]
  by_cases hc:p c=true
  ·rw [if_pos hc,ih];simp [hc]
  ·rw [if_neg hc];simp [hc]
theorem SN (l:List UInt8):(Lib.trimS l qh = []) ↔ l.all dg=true:=by
 have hf:(fun c=>qh.contains c)=dg:=funext aeB
 unfold Lib.trimS Lib.trimLeftS Lib.trimRightS
 rw [hf]
 constructor
 ·intro h
  have h1:∀ x ∈ (l.reverse.dropWhile dg).reverse,dg x=true:=by
   intro x hx
   have:=TG.1 h x hx
   exact this
  by_cases hr:l.reverse.dropWhile dg = []
  ·have:=TG.1 hr
   exact List.all_eq_true.2 fun x hx=>this x (List.mem_reverse.2 hx)
  ·exfalso
   have h2:=List.head_dropWhile_not dg hr
   have h3:=h1 _ (List.mem_reverse.2 (List.head_mem hr))
   rw [h2] at h3
   cases h3
 ·intro h
  have h2:l.reverse.dropWhile dg = []:=TG.2 fun x hx=>List.all_eq_true.1 h x (List.mem_reverse.1 hx)
  rw [h2];rfl
theorem Ej (d:D):nT.f d.nar d.neg (mkB d.ds) d.e=some (formed d):=by
 obtain ⟨nar,neg,ds,e⟩:=d
 unfold nT.f formed
 cases nar with
 | true =>
  simp only [if_true,pO,Bool.true_and]
  rw [show (ds == ([]:List UInt8))=ds.isEmpty by cases ds <;> rfl]
  rfl
 | false =>
  simp only [Bool.false_eq_true,if_false,pO,aY]
  by_cases h0:ds = []
  ·rw [if_pos h0];subst h0;rfl
  ·rw [if_neg h0]
   have hm:kQ=1000000:=rfl
   have e0:ds.isEmpty=false:=List.isEmpty_eq_false_iff.2 h0
   by_cases h1:(ds.length:Int) > 4096
   ·rw [if_pos h1,decide_eq_false (by omega:¬ ds.length≤4096),Bool.false_and,Bool.and_false]
   ·rw [if_neg h1,decide_eq_true (by omega:ds.length≤4096),e0]
    by_cases h2:e < -1000000
    ·rw [if_pos h2,decide_eq_false (by omega:¬ -kQ≤e)];simp
    ·rw [if_neg h2,decide_eq_true (by omega : -kQ≤e)]
     by_cases h3:e > 1000000
     ·rw [if_pos h3,decide_eq_false (by omega:¬ e≤kQ)];simp
     ·rw [if_neg h3,decide_eq_true (by omega:e≤kQ)]
      have ht:mr.f (mkB ds) (⟨#[48,49,50,51,52,53,54,55,56,57]⟩:ByteArray)=some (mkB (Lib.trimS ds qh)):=by
       unfold mr.f
       rw [if_pos ⟨rfl,by rw [aY];omega⟩]
       rfl
      rw [ht]
      simp only [Option.bind_some,pO]
      congr 1
      rw [Bool.eq_iff_iff]
      simp only [Bool.not_false,Bool.true_and,Bool.and_true,beq_iff_eq]
      exact SN ds
theorem oO {d:D} (h:formed d=true):d.ds.length≤4096 ∧ -1000000≤d.e∧d.e≤1000000:=by
 obtain ⟨nar,neg,ds,e⟩:=d
 unfold formed at h
 cases nar with
 | true =>
  simp only [if_true,Bool.and_eq_true,decide_eq_true_iff,List.isEmpty_iff] at h
  obtain ⟨_,h1,h2⟩:=h
  subst h1 h2
  exact ⟨Nat.zero_le _,by show (-1000000:Int)≤0;decide,by show (0:Int)≤1000000;decide⟩
 | false =>
  simp only [Bool.false_eq_true,if_false,Bool.and_eq_true,decide_eq_true_iff] at h
  obtain ⟨_,h1,_,h2,h3⟩:=h
  exact ⟨h1,h2,h3⟩
theorem vF (d:D):kF.f d.nar d.neg (mkB d.ds) d.e=some (if formed d=true then ((nrm d).nar,(nrm d).neg,mkB (nrm d).ds,(nrm d).e,none) else (false,false,mkB [],0,some 23)):=by
 unfold kF.f
 rw [Ej]
 simp only [Option.bind_some]
 by_cases h:formed d=true
 ·obtain ⟨h1,h2,h3⟩:=oO h
  rw [if_pos h,if_pos h,Aw d (by omega) h2 h3]
  rfl
 ·rw [if_neg h,if_neg h];rfl
theorem aaO (l:List UInt8) (m:Nat) (h:m<l.length) (c:UInt8):(l.take (m+1) ++ List.replicate (l.length - (m+1)) 48).set m c=l.take m ++ c :: List.replicate (l.length - (m+1)) 48:=by
 have h1:(l.take m).length=m:=by rw [List.length_take];omega
 rw [List.take_succ_eq_append_getElem h,List.append_assoc,List.set_append_right _ _ (by omega),h1,Nat.sub_self]
 rfl
def aaA:List UInt8→List UInt8
 | [] => [49]
 | c :: r=>if c=57 then 48 :: aaA r else (c+1) :: r
def Au (l:List UInt8):List UInt8:=(aaA l.reverse).reverse
def oz.f (dW dK:Bool) (gI:ByteArray) (gW:Int):Option (Bool × Bool × ByteArray × Int):=if gI.data.toList ≠ []∧gI.size≤1048576 then some (dW,dK,mkB (Au gI.data.toList),gW) else none
structure adR (w:World) (g:Nat) (l:List UInt8):Prop where
 cell:∀ (i:Nat) (h:i<l.length),w.cell? ⟨g,i,none⟩=some (.int .u8 ((l[i]'h).toNat:Int))
 frz:∀ i:Nat,i<l.length→w.frozen? ⟨g,i,none⟩=false
theorem adR.set {w:World} {g:Nat} {l:List UInt8} (h:adR w g l) (i:Nat) (hi:i<l.length) (c:UInt8):adR (w.setCell ⟨g,i,none⟩ (.int .u8 (c.toNat:Int))) g (l.set i c):=by
 refine ⟨fun j hj=>?_,fun j hj=>?_⟩
 ·rw [List.length_set] at hj
  by_cases e:i=j
  ·subst e
   rw [World.cell?_setCell_same' _ _ _ (by rw [h.cell i hi];rfl),List.getElem_set_self]
  ·rw [World.cell?_setCell_other (h:=by intro k;injection k with _ k;exact e k),h.cell j hj,List.getElem_set_ne e]
 ·rw [List.length_set] at hj
  rw [World.frozen?_setCell];exact h.frz j hj
theorem XY (w:World) (e:TypeId) (s:ByteArray):adR (Lib.bytesWorld w e s) w.heap.size s.data.toList:=by
 refine ⟨fun i hi=>?_,fun i hi=>?_⟩
 ·rw [Lib.bytesWorld_cell w e s i (by simpa using hi),List.getD_eq_getElem?_getD,List.getElem?_eq_getElem hi];rfl
 ·simp only [World.frozen?, Lib.bytesWorld_at_new]
  have h1:i<s.size:=by simpa using hi
  have h2:s.size≤(Lib.bytesCells w e s).size:=by simp [Lib.bytesCells]
  simp
  omega
theorem Dh {P:Program} {w:World} {g cap:Nat} {l:List UInt8} (h:adR w g l) (src e dst:TypeId) (hs:P.underlying src=some (.slice e)) (he:P.underlying e=some (.int .u8)) (hd:P.underlying dst=some .string) :
  (convert src dst (.slice (some ⟨g,0,none⟩) l.length cap)).run P w = .ok (.string (mkB l)) w:=by
 have h2:=run_convert_bytes_arg (P:=P) (w:=w) src e hs he g 0 l.length cap (l.map fun c=>(c.toNat:Int)) (by simp) (fun i hi=>by
  rw [Nat.zero_add,h.cell i hi,List.getD_eq_getElem?_getD,List.getElem?_map,List.getElem?_eq_getElem hi];rfl) dst hd
 rw [h2]
 congr 2
 unfold strOfNums mkB
 congr 1
 rw [List.map_map]
 have:((fun n:Int=>UInt8.ofNat n.toNat) ∘ fun c:UInt8=>(c.toNat:Int))=id:=by funext c;simp
 rw [this,List.map_id]
theorem BX (w:World) (e:TypeId) (s:ByteArray):Below w.heap.size w (Lib.bytesWorld w e s) :=
 ⟨rfl,rfl,rfl,by rw [Lib.bytesWorld_size];omega,fun i hi=>Lib.bytesWorld_at_old w e s i hi⟩
theorem IK (l:List UInt8) (m:Nat) (h:m<l.length):(l.take (m+1) ++ List.replicate (l.length - (m+1)) 48).set m 48=l.take m ++ List.replicate (l.length - m) 48:=by
 have h1:(l.take m).length=m:=by rw [List.length_take];omega
 rw [List.take_succ_eq_append_getElem h,List.append_assoc,List.set_append_right _ _ (by omega),h1,Nat.sub_self,show l.length - m=(l.length - (m+1))+1 by omega,List.replicate_succ]
 rfl
theorem CG (l:List UInt8) (m:Nat) (h:m≤l.length):(l.take m ++ List.replicate (l.length - m) (48:UInt8)).length=l.length:=by simp;omega
theorem aa9 (l:List UInt8) (m:Nat) (h:m<l.length):(l.take (m+1) ++ List.replicate (l.length - (m+1)) (48:UInt8))[m]'(by rw [CG _ _ (by omega)];exact h)=l[m]:=by
 rw [List.getElem_append_left (by simp;omega),List.getElem_take]
theorem FB (n:Nat) (r:List UInt8):aaA (List.replicate n 57 ++ r)=List.replicate n 48 ++ aaA r:=by
 induction n with
 | zero=>rfl
 | succ n ih=>rw [List.replicate_succ,List.cons_append,aaA,if_pos rfl,ih];rfl
theorem TP {l:List UInt8} (h:l=List.replicate l.length 57):Au l=49 :: List.replicate l.length 48:=by
 unfold Au
 have e:l.reverse=List.replicate l.length 57 ++ []:=by rw [List.append_nil];conv=>lhs;rw [h];simp
 rw [e,FB]
 simp [aaA]
theorem Xd {l:List UInt8} {m:Nat} (hm:m<l.length) (h:l.drop (m+1)=List.replicate (l.length - (m+1)) 57) (hc:l[m]≠57):Au l=l.take m ++ (l[m]+1) :: List.replicate (l.length - (m+1)) 48:=by
 have e:l=l.take m ++ l[m] :: List.replicate (l.length - (m+1)) 57:=by
  rw [← h,List.getElem_cons_drop hm,List.take_append_drop]
 have e2:l.reverse=List.replicate (l.length - (m+1)) 57 ++ (l[m] :: (l.take m).reverse):=by
  conv=>lhs;rw [e]
  simp
 unfold Au
 rw [e2,FB,aaA,if_neg hc]
 simp
theorem wH {W:World} {o:Obj} {g:Nat} (h:W.heap.size=g):(W.alloc o).heap[g]? = some o:=by subst h;exact sJ W o
structure Abv (w w':World) (a b:Bool) (s:ByteArray) (e:Int) (l:List UInt8):Prop where
 b0:w'.heap[w.heap.size]? = some (.cells #[.bool a, .bool b, .string s, .int .i64 e] 23 (0,0))
 b1:w'.heap[w.heap.size+1]? = some (.cells #[.bool false, .bool false, .string ⟨#[]⟩, .int .i64 0] 23 (0,0))
 row:adR w' (w.heap.size+1+1) l
 bel:Below w.heap.size w w'
theorem Abv.set {w w':World} {a b:Bool} {s:ByteArray} {e:Int} {l:List UInt8} (h:Abv w w' a b s e l) (i:Nat) (hi:i<l.length) (c:UInt8):Abv w (w'.setCell ⟨w.heap.size+1+1,i,none⟩ (.int .u8 (c.toNat:Int))) a b s e (l.set i c) :=
 ⟨gG h.b0 (by show w.heap.size≠w.heap.size+1+1;omega) _,gG h.b1 (by show w.heap.size+1≠w.heap.size+1+1;omega) _,h.row.set i hi c,bu h.bel (by omega)⟩
set_option maxHeartbeats 4000000 in
set_option maxRecDepth 100000 in
theorem Qe (a0 a1:Bool) (s:ByteArray) (e0:Int) (w:World) (h0:s.data.toList ≠ []) (hs:s.size≤1048576) :
  Calls Tryz.prog 56 #[.agg #[.bool a0, .bool a1, .string s, .int .i64 e0]] w fun e w'=>e = .returned (.agg #[.bool a0, .bool a1, .string (mkB (Au s.data.toList)), .int .i64 e0])∧Below w.heap.size w w':=by
 have hcv:∀ W:World,(convert 9 104 (.string s)).run Tryz.prog W = .ok (.slice (some ⟨W.heap.size,0,none⟩) s.size (grownCap W s.size 0 5)) (Lib.bytesWorld W 5 s):=fun W=>Lib.run_convert_string_bytes W _ _ _ s Tryz.underlying9 Tryz.underlying104 Tryz.underlying5
 go_enter Tryz.func56,Tryz.ntmps56
 go_wp2
 go_loopw [4] (fun i w' => ∃ v:Int, -1≤v∧v<(s.size:Int)∧i = .int .i64 v∧ae (s.data.toList.drop (v+1).toNat=List.replicate (s.data.toList.length - (v+1).toNat) 57)∧ae (Abv w w' a0 a1 s e0 (s.data.toList.take (v+1).toNat ++ List.replicate (s.data.toList.length - (v+1).toNat) 48))) (fun i _=>(intOf i+1).toNat)
 case atStart =>
  have e1:((s.size:Int) - 1+1).toNat=s.data.toList.length:=by simp
  refine ⟨(s.size:Int) - 1,by omega,by omega,rfl,⟨by rw [e1];simp⟩,⟨?_⟩⟩
  rw [e1,Nat.sub_self,List.take_length,List.replicate_zero,List.append_nil]
  refine ⟨?_,?_,?_,?_⟩
  ·rw [Lib.bytesWorld_at_old _ _ _ _ (by simp;omega)]
   exact jR (sJ w _) _
  ·rw [Lib.bytesWorld_at_old _ _ _ _ (by simp)]
   exact wH (by simp)
  ·have h:=XY ((w.alloc (.cells #[.bool a0, .bool a1, .string s, .int .i64 e0] 23)).alloc (.cells #[.bool false, .bool false, .string ⟨#[]⟩, .int .i64 0] 23)) 5 s
   simpa using h
  ·exact gq (bz (bz (Below.refl _ _) _) _) (BX _ _ _)
 case round =>
  obtain ⟨v,hv1,hv2,rfl,HD,HA⟩:=hrel
  clear hcv
  by_cases hv:0≤v
  ·have HM:=Lib.hid (show (v+1).toNat=v.toNat+1 by omega)
   have HT:=Lib.hid (show v.toNat<s.data.toList.length by simp;omega)
   have hq:∃ c:UInt8,c=s.data.toList[v.toNat]'HT.out:=⟨_,rfl⟩
   obtain ⟨c,hc⟩:=hq
   have HC:=Lib.hid hc
   have hcell:=HA.out.row.cell v.toNat (by rw [HM.out,CG _ _ HT.out];exact HT.out)
   have hfrz:=HA.out.row.frz v.toNat (by rw [HM.out,CG _ _ HT.out];exact HT.out)
   have hval:wr.cell? ⟨w.heap.size+1+1,v.toNat,none⟩=some (.int .u8 (c.toNat:Int)):=by
    rw [hcell,hc]
    simp only [HM.out]
    rw [aa9 _ _ HT.out]
   clear hcell hc
   by_cases h57:c=57
   ·have heq:((c.toNat:Int) == 57)=true:=by rw [h57];rfl
    go_wp2
    go_roundw
    case rel =>
     refine ⟨v - 1,by omega,by omega,rfl,⟨?_⟩,⟨?_⟩⟩
     ·rw [show (v - 1+1).toNat=v.toNat by omega, ← List.getElem_cons_drop HT.out, ← HC.out,h57,show v.toNat+1=(v+1).toNat by omega,HD.out,show s.data.toList.length - v.toNat=(s.data.toList.length - (v+1).toNat)+1 by have:=HT.out;omega,List.replicate_succ]
     ·rw [show (v - 1+1).toNat=v.toNat by omega, ← IK _ _ HT.out]
      have h:=HA.out
      rw [HM.out] at h
      exact h.set v.toNat (by rw [CG _ _ HT.out];exact HT.out) 48
    case measure=>simp [intOf];omega
   ·have heq:((c.toNat:Int) == 57)=false:=by
     rw [beq_eq_false_iff_ne]
     intro h
     exact h57 (UInt8.toNat_inj.1 (by show c.toNat=57;omega))
    have HN:=Lib.hid h57
    have e9:((c.toNat:Int)+1) % 256=((c+1).toNat:Int):=by rw [UInt8.toNat_add];simp
    have E9:=Lib.hid e9
    clear h57 e9
    go_upto_region 9 with (fail)
    go_cut [] (fun wc=>ae (Abv w wc a0 a1 s e0 (s.data.toList.take v.toNat ++ (c+1) :: List.replicate (s.data.toList.length - (v.toNat+1)) 48)))
    case first =>
     go_wp2
     go_meet
     case rel =>
      refine ⟨?_⟩
      have h:=HA.out.set v.toNat (by rw [HM.out,CG _ _ HT.out];exact HT.out) (c+1)
      rw [HM.out] at h
      rw [aaO _ _ HT.out, ← E9.out] at h
      exact h
    case rest =>
    clear heq hfrz hval
    have K:=hcut
    clear hcut
    rename_i wc
    have hl':(s.data.toList.take v.toNat ++ (c+1) :: List.replicate (s.data.toList.length - (v.toNat+1)) 48).length=s.size:=by have:=HT.out;simp at this ⊢;omega
    have hcs:∀ cap,(convert 104 9 (.slice (some ⟨w.heap.size+1+1,0,none⟩) s.size cap)).run Tryz.prog wc = .ok (.string (mkB (s.data.toList.take v.toNat ++ (c+1) :: List.replicate (s.data.toList.length - (v.toNat+1)) 48))) wc:=fun cap=>by
     have h:=Dh (P:=Tryz.prog) (cap:=cap) K.out.row 104 5 9 Tryz.underlying104 Tryz.underlying5 Tryz.underlying9
     rwa [hl'] at h
    have q0:∀ i,wc.cell? ⟨w.heap.size,i,none⟩=(_:Array Value)[i]?:=ag K.out.b0
    have f0:∀ i,wc.frozen? ⟨w.heap.size,i,none⟩=false:=au K.out.b0
    have q1:∀ i,wc.cell? ⟨w.heap.size+1,i,none⟩=(_:Array Value)[i]?:=ag K.out.b1
    have f1:∀ i,wc.frozen? ⟨w.heap.size+1,i,none⟩=false:=au K.out.b1
    clear hl'
    have HAb:=Lib.hid (show Au s.data.toList=s.data.toList.take v.toNat ++ (c+1) :: List.replicate (s.data.toList.length - (v.toNat+1)) 48 by rw [Xd HT.out (by rw [← HM.out];exact HD.out) (by rw [← HC.out];exact HN.out), ← HC.out])
    go_wp2
    refine bodyPost_ret (results_cell_row rfl _ _ (w.heap.size+1) 23 #[.bool a0, .bool a1, .string (mkB (s.data.toList.take v.toNat ++ (c+1) :: List.replicate (s.data.toList.length - (v.toNat+1)) 48)), .int .i64 e0] (0,0) _ rfl ?blk Tryz.underlying23 rfl (by kernel_rfl)) rfl ⟨by rw [HAb.out],?_⟩
    case blk =>
     apply Eq.trans
     ·repeat (first|(with_reducible exact K.out.b1)|(with_reducible apply lK)|(with_reducible apply gG (hp:=Nat.ne_of_lt (Nat.lt_succ_self _)))|(with_reducible apply gG (hp:=Nat.ne_of_gt (Nat.lt_succ_self _))))
     ·rfl
    repeat (first|(with_reducible exact K.out.bel)|(with_reducible refine bu ?_ (by first|exact Nat.le_refl _|exact Nat.le_succ _)))
  ·obtain rfl:v = -1:=by omega
   have hd:s.data.toList=List.replicate s.data.toList.length 57:=by simpa using HD.out
   have hk:Abv w wr a0 a1 s e0 (List.replicate s.size 48):=by simpa using HA.out
   have K:=Lib.hid hk
   have HDD:=Lib.hid hd
   have HAb:=Lib.hid (show Au s.data.toList=49 :: List.replicate s.size 48 by rw [TP hd];simp)
   clear hd hk hv HD HA
   have hl':(List.replicate s.size (48:UInt8)).length=s.size:=by simp
   have hcs:∀ cap,(convert 104 9 (.slice (some ⟨w.heap.size+1+1,0,none⟩) s.size cap)).run Tryz.prog wr = .ok (.string (mkB (List.replicate s.size 48))) wr:=fun cap=>by
    have h:=Dh (P:=Tryz.prog) (cap:=cap) K.out.row 104 5 9 Tryz.underlying104 Tryz.underlying5 Tryz.underlying9
    rwa [hl'] at h
   have q0:∀ i,wr.cell? ⟨w.heap.size,i,none⟩=(_:Array Value)[i]?:=ag K.out.b0
   have f0:∀ i,wr.frozen? ⟨w.heap.size,i,none⟩=false:=au K.out.b0
   have q1:∀ i,wr.cell? ⟨w.heap.size+1,i,none⟩=(_:Array Value)[i]?:=ag K.out.b1
   have f1:∀ i,wr.frozen? ⟨w.heap.size+1,i,none⟩=false:=au K.out.b1
   clear hl'
   have hb1:((⟨#[49]⟩:ByteArray) ++ mkB (List.replicate s.size 48))=mkB (49 :: List.replicate s.size 48):=fO [49] _
   have HB1:=Lib.hid hb1
   clear hb1
   have hz1:(9223372036854775807<1+(mkB (List.replicate s.size 48)).size)=False:=eq_false (by rw [aY,List.length_replicate];omega)
   go_wp2
   refine bodyPost_ret (results_cell_row rfl _ _ (w.heap.size+1) 23 #[.bool a0, .bool a1, .string ((⟨#[49]⟩:ByteArray) ++ mkB (List.replicate s.size 48)), .int .i64 e0] (0,0) _ rfl ?blk Tryz.underlying23 rfl (by kernel_rfl)) rfl ⟨by rw [HAb.out,HB1.out],?_⟩
   case blk =>
    apply Eq.trans
    ·repeat (first|(with_reducible exact K.out.b1)|(with_reducible apply lK)|(with_reducible apply gG (hp:=Nat.ne_of_lt (Nat.lt_succ_self _)))|(with_reducible apply gG (hp:=Nat.ne_of_gt (Nat.lt_succ_self _))))
    ·rfl
   repeat (first|(with_reducible exact K.out.bel)|(with_reducible refine bu ?_ (by first|exact Nat.le_refl _|exact Nat.le_succ _)))
theorem oz.calls (dW dK:Bool) (gI:ByteArray) (gW:Int) (r1 r2:Bool) (r3:ByteArray) (r4:Int) (w:World) (h:oz.f dW dK gI gW=some (r1,r2,r3,r4)) :
  Calls Tryz.prog 56 #[.agg #[.bool dW, .bool dK, .string gI, .int .i64 gW]] w fun e w'=>e = .returned (.agg #[.bool r1, .bool r2, .string r3, .int .i64 r4])∧Below w.heap.size w w':=by
 unfold oz.f at h
 by_cases hc:gI.data.toList ≠ []∧gI.size≤1048576
 case neg=>rw [if_neg hc] at h;exact absurd h (by simp)
 rw [if_pos hc] at h
 simp only [Option.some.injEq,Prod.mk.injEq] at h
 obtain ⟨rfl,rfl,rfl,rfl⟩:=h
 exact Qe dW dK gI gW w hc.1 hc.2
def JZ (g:Nat) (d:D) (w:World):Prop:=w.heap[g]? = some (.cells #[.bool d.nar, .bool d.neg, .string (mkB d.ds), .int .i64 d.e] 23 (0,0))
theorem aC {g:Nat} {d:D} {w:World} (h:JZ g d w):w.cell? ⟨g,0,none⟩=some (.bool d.nar)∧w.cell? ⟨g,1,none⟩=some (.bool d.neg)∧w.cell? ⟨g,2,none⟩=some (.string (mkB d.ds))∧w.cell? ⟨g,3,none⟩=some (.int .i64 d.e) ∧
  w.frozen? ⟨g,0,none⟩=false∧w.frozen? ⟨g,1,none⟩=false∧w.frozen? ⟨g,2,none⟩=false∧w.frozen? ⟨g,3,none⟩=false∧g<w.heap.size:=by
 unfold JZ at h
 exact ⟨(ag h 0).trans rfl,(ag h 1).trans rfl,(ag h 2).trans rfl,(ag h 3).trans rfl,au h 0,au h 1,au h 2,au h 3,(Array.getElem?_eq_some_iff.1 h).1⟩
theorem iq {g B:Nat} {d:D} {w w':World} (h:JZ g d w) (hb:Below B w w') (hg:g<B):JZ g d w':=by
 unfold JZ at *
 rw [hb.block g hg];exact h
structure TS (w0:World) (g B:Nat) (d:D) (l:List UInt8) (w:World):Prop where
 bld:Bd.IsB B B l w
 var:JZ g d w
 lt:g<B
 base:w0.heap.size≤g
 low:Below w0.heap.size w0 w
 sz:B≤w.heap.size
 laid:Fx.Laid w
theorem TS.other {w0:World} {g B:Nat} {d:D} {l:List UInt8} {w w':World} (h:TS w0 g B d l w) (hb:Below w.heap.size w w'):TS w0 g B d l w' :=
 ⟨h.bld.below hb,iq h.var hb (by have:=h.lt;have:=h.sz;omega),h.lt,h.base,h.low.trans (hb.mono (by have:=h.lt;have:=h.sz;have:=h.base;omega)),Nat.le_trans h.sz hb.size,h.laid.below hb⟩
theorem TS.drewN {w0:World} {g B:Nat} {d:D} {l:List UInt8} {w:World} (h:TS w0 g B d l w) (n:Nat):TS w0 g B d l (w.drewN n):=h.other (aI (Below.refl _ w) n)
theorem TS.drew {w0:World} {g B:Nat} {d:D} {l:List UInt8} {w:World} (h:TS w0 g B d l w):TS w0 g B d l w.drew:=h.drewN 1
theorem tsH {w0:World} {g B:Nat} {d:D} {l:List UInt8} {w W:World} (h:ae (TS w0 g B d l w)) (k:TS w0 g B d l w→TS w0 g B d l W:=by first|exact (fun h_=>h_)|exact (fun h_=>h_.drew)|exact (fun h_=>h_.drewN _)):TS w0 g B d l W:=k h.out
theorem mQ {w0:World} {g B:Nat} {d:D} {l:List UInt8} {w:World} (h:TS w0 g B d l w) (hl0:Fx.Laid w0) (s:ByteArray) (hlen:l.length+s.size≤140737488355328) :
  Calls Tryz.prog 68 #[.pointer (some ⟨B,0,none⟩), .string s] w fun e w'=>e = .returned (.tuple #[.int .i64 s.size, .nilIface])∧TS w0 g B d (l ++ s.data.toList) w':=by
 refine (Bd.write B B l s w h.bld hlen h.sz).mono ?_
 rintro e w' ⟨he,h1,h2⟩
 have hlow:=h.low.trans (h2.mono (by have:=h.lt;have:=h.base;omega))
 exact ⟨he,h1,iq h.var h2 h.lt,h.lt,h.base,hlow,Nat.le_trans h.sz h2.size,hl0.below hlow⟩
theorem pz {w0:World} {g B:Nat} {d:D} {l:List UInt8} {w:World} (h:TS w0 g B d l w) (hl0:Fx.Laid w0) (c:UInt8) (x:Int) (hx:x=(c.toNat:Int)) (hlen:l.length+1≤140737488355328) :
  Calls Tryz.prog 67 #[.pointer (some ⟨B,0,none⟩), .int .u8 x] w fun e w'=>e = .returned .nilIface∧TS w0 g B d (l ++ [c]) w':=by
 subst hx
 refine (Bd.writeByte B B l c w h.bld hlen h.sz).mono ?_
 rintro e w' ⟨he,h1,h2⟩
 have hlow:=h.low.trans (h2.mono (by have:=h.lt;have:=h.base;omega))
 exact ⟨he,h1,iq h.var h2 h.lt,h.lt,h.base,hlow,Nat.le_trans h.sz h2.size,hl0.below hlow⟩
theorem kX {w0:World} {g B:Nat} {d:D} {l:List UInt8} {w:World} (h:TS w0 g B d l w) :
  Calls Tryz.prog 71 #[.pointer (some ⟨B,0,none⟩)] w fun e w'=>e = .returned (.string (mkB l))∧Below w0.heap.size w0 w':=by
 refine (Tryz.Builder_String_any_f B B l w h.bld h.sz).mono ?_
 rintro e w' ⟨he,_,h2⟩
 exact ⟨he,h.low.trans (h2.mono (by have:=h.lt;have:=h.base;omega))⟩
theorem RS (n:Nat):Lib.repeatL [48] n=List.replicate n 48:=by
 induction n with
 | zero=>rfl
 | succ n ih=>rw [Lib.repeatL,ih,List.replicate_succ];rfl
theorem kZ {w0:World} {g B:Nat} {d:D} {l:List UInt8} {w:World} (h:TS w0 g B d l w) (n:Int) (h0:0≤n) (h1:n≤1000) :
  Calls Tryz.prog 69 #[.string (⟨#[48]⟩:ByteArray), .int .i64 n] w fun e w'=>e = .returned (.string (mkB (List.replicate n.toNat 48)))∧TS w0 g B d l w':=by
 obtain ⟨k,rfl⟩:=Int.eq_ofNat_of_zero_le h0
 refine (Tryz.strings_Repeat ⟨#[48]⟩ k w (by omega) (by have e:(⟨#[48]⟩:ByteArray).size=1:=rfl;rw [e];omega)).mono ?_
 rintro e w' ⟨he,hb⟩
 refine ⟨?_,h.other hb⟩
 rw [he]
 show Ending.returned (.string ⟨(Lib.repeatL [48] k).toArray⟩)=_
 rw [RS]
 rfl
theorem pI {w0:World} {g B:Nat} {d:D} {l:List UInt8} {w:World} (h:TS w0 g B d l w) (n:Int) (h0 : -9223372036854775808≤n) (h1:n≤9223372036854775807) :
  Calls Tryz.prog 70 #[.int .i64 n] w fun e w'=>e = .returned (.string (mkB (Lib.itoa n)))∧TS w0 g B d l w':=by
 refine (dM.calls n (mkB (Lib.itoa n)) w (by unfold dM.f;rw [if_pos ⟨h0,h1⟩];rfl) h.laid).mono ?_
 rintro e w' ⟨he,hb⟩
 exact ⟨he,h.other hb⟩
theorem XP (d:D) (h:formed d=false) (w:World) :
  Calls Tryz.prog 26 #[.agg #[.bool d.nar, .bool d.neg, .string (mkB d.ds), .int .i64 d.e]] w fun e w'=>e = .returned (.tuple #[.agg #[.bool false, .bool false, .string (⟨#[]⟩:ByteArray), .int .i64 0], .iface 64 (.int .i64 23)])∧Below w.heap.size w w':=by
 have hN:=vF d
 rw [if_neg (by rw [h];decide)] at hN
 exact kF.calls _ _ _ _ _ _ _ _ _ _ hN
theorem Io (d:D) (h:formed d=true) (w:World) :
  Calls Tryz.prog 26 #[.agg #[.bool d.nar, .bool d.neg, .string (mkB d.ds), .int .i64 d.e]] w fun e w'=>e = .returned (.tuple #[.agg #[.bool (nrm d).nar, .bool (nrm d).neg, .string (mkB (nrm d).ds), .int .i64 (nrm d).e], .nilIface])∧Below w.heap.size w w':=by
 have hN:=vF d
 rw [if_pos h] at hN
 exact kF.calls _ _ _ _ _ _ _ _ _ _ hN
set_option maxHeartbeats 1000000 in
set_option maxRecDepth 100000 in
theorem Sz (d:D) (w:World) (h:formed d=false) :
  Calls Tryz.prog 30 #[.agg #[.bool d.nar, .bool d.neg, .string (mkB d.ds), .int .i64 d.e]] w fun e w'=>e = .returned (.tuple #[.string (⟨#[]⟩:ByteArray), .iface 64 (.int .i64 23)])∧Below w.heap.size w w':=by
 have hD:JZ w.heap.size d (w.alloc (.cells #[.bool d.nar, .bool d.neg, .string (mkB d.ds), .int .i64 d.e] 23)):=heap_alloc_new w _
 have HD:=am hD
 have HF:=am h
 clear hD h
 go_enter Tryz.func30,Tryz.ntmps30
 go_wp2_with (go_at_call 26;refine (XP d HF.out _).mono ?_;rintro e w1 ⟨rfl,hb⟩;obtain ⟨c0,c1,c2,c3,f0,f1,f2,f3,hlt⟩:=aC (iq HD.out hb (by simp));have HB:=am hb;clear hb)
 go_ret2
 exact ⟨rfl,((((((Below.refl _ w).alloc (Nat.le_refl _) _).trans (HB.out.mono (by simp))).setCell (p:=⟨w.heap.size,0,none⟩) (Nat.le_refl _) _).setCell (p:=⟨w.heap.size,1,none⟩) (Nat.le_refl _) _).setCell (p:=⟨w.heap.size,2,none⟩) (Nat.le_refl _) _).setCell (p:=⟨w.heap.size,3,none⟩) (Nat.le_refl _) _⟩
def chain (w:World) (g:Nat) (d:D):World:=(((w.setCell ⟨g,0,none⟩ (.bool d.nar)).setCell ⟨g,1,none⟩ (.bool d.neg)).setCell ⟨g,2,none⟩ (.string (mkB d.ds))).setCell ⟨g,3,none⟩ (.int .i64 d.e)
theorem Um {w:World} {g:Nat} {d0:D} (h:JZ g d0 w) (d:D):JZ g d (chain w g d) :=
 vM (vM (vM (vM h 0 (.bool d.nar) rfl) 1 (.bool d.neg) rfl) 2 (.string (mkB d.ds)) rfl) 3 (.int .i64 d.e) rfl
theorem zy (w:World) (g:Nat) (d:D):(chain w g d).heap.size=w.heap.size:=by unfold chain;simp
theorem RD {w0 w:World} {g:Nat} (d:D) (h:Below w0.heap.size w0 w) (hg:w0.heap.size≤g):Below w0.heap.size w0 (chain w g d) :=
 (((h.setCell (p:=⟨g,0,none⟩) hg _).setCell (p:=⟨g,1,none⟩) hg _).setCell (p:=⟨g,2,none⟩) hg _).setCell (p:=⟨g,3,none⟩) hg _
theorem mW {w0 w1:World} {d0:D} (N:D) (h:JZ w0.heap.size d0 w1) (hb:Below w0.heap.size w0 w1) (hl:Fx.Laid w0) :
  TS w0 w0.heap.size w1.heap.size N [] ((chain w1 w0.heap.size N).alloc (.cells #[.pointer none, .slice none 0 0] 111)):=by
 have hlt:w0.heap.size<w1.heap.size:=(Array.getElem?_eq_some_iff.1 h).1
 have hm:=Bd.made (chain w1 w0.heap.size N)
 rw [zy] at hm
 have hlow:=(RD N hb (Nat.le_refl _)).alloc (by rw [zy];omega) (.cells #[.pointer none, .slice none 0 0] 111)
 refine ⟨hm,?_,hlt,Nat.le_refl _,hlow,?_,hl.below hlow⟩
 ·exact jR (Um h N) _
 ·have:w1.heap.size≤(chain w1 w0.heap.size N).heap.size:=by rw [zy];exact Nat.le_refl _
  simp only [World.size_alloc];omega
def uP (N:D) (w:World) (e:Ending) (w':World):Prop:=e = .returned (.tuple #[.string (mkB (qp N)), .nilIface])∧Below w.heap.size w w'
theorem mP (s:ByteArray):s.data.toList.length=s.size:=Array.length_toList
theorem og (n:Nat) (c:UInt8):(mkB (List.replicate n c)).size=n:=by rw [aY,List.length_replicate]
theorem nV (n:Int):(mkB (Lib.itoa n)).size=(Lib.itoa n).length:=aY _
theorem aeN (u:Nat):Lib.nDigits u≤u+1:=by
 induction u using Nat.strongRecOn with
 | ind u ih =>
  rw [Lib.nDigits]
  by_cases h:u<10
  ·rw [dif_pos h];omega
  ·rw [dif_neg h]
   have:=ih (u / 10) (by omega)
   omega
theorem zW (n:Int) (h:n.natAbs≤10000000):(Lib.itoa n).length≤140000000000:=by
 unfold Lib.itoa
 split
 ·have:=aeN n.natAbs
  rw [List.length_cons,Lib.decDigits_length];omega
 ·have:=aeN n.toNat
  rw [Lib.decDigits_length];omega
theorem ET (s:ByteArray) (a b:Nat):(s.extract a b).size≤s.size:=by rw [ByteArray.size_extract];omega
set_option maxHeartbeats 1000000 in
set_option maxRecDepth 100000 in
theorem Yb (d:D) (w:World) (h:formed d=true) (hn:(nrm d).nar=true) :
  Calls Tryz.prog 30 #[.agg #[.bool d.nar, .bool d.neg, .string (mkB d.ds), .int .i64 d.e]] w fun e w'=>uP (nrm d) w e w':=by
 have hD:JZ w.heap.size d (w.alloc (.cells #[.bool d.nar, .bool d.neg, .string (mkB d.ds), .int .i64 d.e] 23)):=heap_alloc_new w _
 have HD:=am hD
 have HN:=am hn
 have hg:=Io d h
 rw [hn] at hg
 clear hD h hn
 go_enter Tryz.func30,Tryz.ntmps30
 go_wp2_with (go_at_call 26;refine (hg _).mono ?_;rintro e w1 ⟨rfl,hb⟩;obtain ⟨c0,c1,c2,c3,f0,f1,f2,f3,hlt⟩:=aC (iq HD.out hb (by simp));have HB:=am hb;clear hb)
 go_ret2
 refine ⟨?_,((((((Below.refl _ w).alloc (Nat.le_refl _) _).trans (HB.out.mono (by simp))).setCell (p:=⟨w.heap.size,0,none⟩) (Nat.le_refl _) _).setCell (p:=⟨w.heap.size,1,none⟩) (Nat.le_refl _) _).setCell (p:=⟨w.heap.size,2,none⟩) (Nat.le_refl _) _).setCell (p:=⟨w.heap.size,3,none⟩) (Nat.le_refl _) _⟩
 unfold qp
 rw [if_pos HN.out]
 rfl
end Go.Proofs.Yy.PTx
end
