/- Part 13 of what the proof needs. -/
import Derived.Lib.Strings
import Derived.Lib.Hide
import Derived.StillTailTactics
import Derived.Deep.RegionWith
import Derived.Test.YtpfnkbnepcchgaaGreatDoorKTBAI
set_option linter.unusedSimpArgs false
set_option linter.unusedVariables false
section
namespace Go.Proofs.Yy.PTx
open Go.RowKit Go.Proofs.Yw.PrintWords Go.Proofs.Yw.PrintLast Go.Proofs.Yw.PrintMore Go.Proofs.Yy.SC
def mkB (l:List UInt8):ByteArray:=⟨l.toArray⟩
theorem mkB_size (l:List UInt8):(mkB l).size=l.length:=List.size_toArray ..
theorem mkB_list (l:List UInt8):(mkB l).data.toList=l:=rfl
theorem mkB_toList (l:List UInt8):(mkB l).toList=l:=by rw [Lib.toList_data];rfl
theorem mkB_self (s:ByteArray):mkB s.data.toList=s:=rfl
theorem mkB_append (a b:List UInt8):mkB a ++ mkB b=mkB (a ++ b):=by
 apply ByteArray.ext
 rw [ByteArray.data_append]
 simp [mkB]
theorem mkB_ext (l:List UInt8) (a b:Nat) (hb:b≤l.length):(mkB l).extract a b=mkB ((l.take b).drop a):=by
 apply ByteArray.ext
 rw [ByteArray.data_extract]
 simp only [mkB]
 rw [List.extract_toArray]
 congr 1
 rw [List.extract_eq_drop_take',List.drop_take] <;> rfl
theorem mkB_take (l:List UInt8) (n:Nat) (h:n≤l.length):(mkB l).extract 0 n=mkB (l.take n):=by rw [mkB_ext l 0 n h,List.drop_zero]
theorem mkB_drop (l:List UInt8) (n:Nat):(mkB l).extract n (mkB l).size=mkB (l.drop n):=by rw [mkB_size,mkB_ext l n l.length (Nat.le_refl _),List.take_length]
theorem bt_mk {l:List UInt8} {i:Nat} (h:i<l.length):bt (mkB l) (i:Int)=((l[i]'h).toNat:Int):=by
 unfold bt
 rw [Int.toNat_natCast,dif_pos (by rw [mkB_size];exact h)]
 rfl
theorem bt_mk0 (c:UInt8) (l:List UInt8):bt (mkB (c :: l)) 0=(c.toNat:Int):=by
 have:=bt_mk (l:=c :: l) (i:=0) (by simp)
 simpa using this
def flatD (d:D):Bool × Bool × ByteArray × Int:=(d.nar,d.neg,mkB d.ds,d.e)
theorem wrap_id {n:Int} (h1 : -9223372036854775808≤n) (h2:n≤9223372036854775807):wrap64 n=n:=by unfold wrap64;omega
theorem scan_trim_ev (d:D) (hl:d.ds.length≤9223372036854775807) (h1 : -1000000≤d.e) (h2:d.e≤1000000):scan_trim.f d.nar d.neg (mkB d.ds) d.e=some (flatD (nrm d)):=by
 obtain ⟨nar,neg,ds,e⟩:=d
 simp only at hl h1 h2
 unfold scan_trim.f nrm flatD
 cases nar with
 | true=>rfl
 | false =>
  simp only [Bool.false_eq_true,if_false]
  have hs:strings_TrimLeft.f (mkB ds) (⟨#[48]⟩:ByteArray)=some (mkB (lz ds)):=rfl
  rw [hs]
  simp only [Option.bind_some]
  have hll:=lz_le ds
  by_cases h0:lz ds = []
  ·rw [if_pos (by rw [mkB_toList];exact h0),if_pos h0]
   rfl
  ·rw [if_neg (by rw [mkB_toList];exact h0),if_neg h0]
   have hr:strings_TrimRight.f (mkB (lz ds)) (⟨#[48]⟩:ByteArray)=some (mkB (rz (lz ds))):=by
    unfold strings_TrimRight.f
    rw [if_pos ⟨rfl,by rw [mkB_size];omega⟩]
    rfl
   rw [hr]
   simp only [Option.bind_some,mkB_size]
   have hrl:=rz_le (lz ds)
   have hm:mostE=1000000:=rfl
   have e1:mn (wrap64 (((lz ds).length:Int) - ((rz (lz ds)).length:Int))) (wrap64 (1000000 - e))=((min (tz (lz ds)) (mostE - e).toNat:Nat):Int):=by
    rw [wrap_id (by omega) (by omega),wrap_id (by omega) (by omega)]
    unfold mn tz
    split <;> omega
   rw [e1]
   have hk:min (tz (lz ds)) (mostE - e).toNat≤(lz ds).length:=by unfold tz;omega
   have hk2:min (tz (lz ds)) (mostE - e).toNat≤(mostE - e).toNat:=Nat.min_le_right _ _
   generalize min (tz (lz ds)) (mostE - e).toNat=k at *
   rw [wrap_id (n:=((lz ds).length:Int) - (k:Int)) (by omega) (by omega),if_pos (by omega),if_pos (by omega),wrap_id (n:=e+(k:Int)) (by omega) (by omega)]
   have e2:(((lz ds).length:Int) - (k:Int)).toNat=(lz ds).length - k:=by omega
   rw [e2,mkB_take _ _ (by omega)]
theorem ten_dg (c:UInt8):tenDigits.contains c=dg c:=by
 have h:∀ n:Fin 256,tenDigits.contains (UInt8.ofNat n.val)=dg (UInt8.ofNat n.val):=by decide +kernel
 have:=h ⟨c.toNat,c.toNat_lt⟩
 simpa using this
theorem dw_nil {p:UInt8→Bool} {l:List UInt8}:l.dropWhile p = [] ↔ ∀ x ∈ l,p x=true:=by
 induction l with
 | nil=>simp
 | cons c l ih =>
  rw [List.dropWhile_cons]
  by_cases hc:p c=true
  ·rw [if_pos hc,ih];simp [hc]
  ·rw [if_neg hc];simp [hc]
theorem trimS_nil (l:List UInt8):(Lib.trimS l tenDigits = []) ↔ l.all dg=true:=by
 have hf:(fun c=>tenDigits.contains c)=dg:=funext ten_dg
 unfold Lib.trimS Lib.trimLeftS Lib.trimRightS
 rw [hf]
 constructor
 ·intro h
  have h1:∀ x ∈ (l.reverse.dropWhile dg).reverse,dg x=true:=by
   intro x hx
   have:=dw_nil.1 h x hx
   exact this
  by_cases hr:l.reverse.dropWhile dg = []
  ·have:=dw_nil.1 hr
   exact List.all_eq_true.2 fun x hx=>this x (List.mem_reverse.2 hx)
  ·exfalso
   have h2:=List.head_dropWhile_not dg hr
   have h3:=h1 _ (List.mem_reverse.2 (List.head_mem hr))
   rw [h2] at h3
   cases h3
 ·intro h
  have h2:l.reverse.dropWhile dg = []:=dw_nil.2 fun x hx=>List.all_eq_true.1 h x (List.mem_reverse.1 hx)
  rw [h2];rfl
theorem scan_formed_ev (d:D):scan_formed.f d.nar d.neg (mkB d.ds) d.e=some (formed d):=by
 obtain ⟨nar,neg,ds,e⟩:=d
 unfold scan_formed.f formed
 cases nar with
 | true =>
  simp only [if_true,mkB_toList,Bool.true_and]
  rw [show (ds == ([]:List UInt8))=ds.isEmpty by cases ds <;> rfl]
  rfl
 | false =>
  simp only [Bool.false_eq_true,if_false,mkB_toList,mkB_size]
  by_cases h0:ds = []
  ·rw [if_pos h0];subst h0;rfl
  ·rw [if_neg h0]
   have hm:mostE=1000000:=rfl
   have e0:ds.isEmpty=false:=List.isEmpty_eq_false_iff.2 h0
   by_cases h1:(ds.length:Int) > 4096
   ·rw [if_pos h1,decide_eq_false (by omega:¬ ds.length≤4096),Bool.false_and,Bool.and_false]
   ·rw [if_neg h1,decide_eq_true (by omega:ds.length≤4096),e0]
    by_cases h2:e < -1000000
    ·rw [if_pos h2,decide_eq_false (by omega:¬ -mostE≤e)];simp
    ·rw [if_neg h2,decide_eq_true (by omega : -mostE≤e)]
     by_cases h3:e > 1000000
     ·rw [if_pos h3,decide_eq_false (by omega:¬ e≤mostE)];simp
     ·rw [if_neg h3,decide_eq_true (by omega:e≤mostE)]
      have ht:strings_Trim.f (mkB ds) (⟨#[48,49,50,51,52,53,54,55,56,57]⟩:ByteArray)=some (mkB (Lib.trimS ds tenDigits)):=by
       unfold strings_Trim.f
       rw [if_pos ⟨rfl,by rw [mkB_size];omega⟩]
       rfl
      rw [ht]
      simp only [Option.bind_some,mkB_toList]
      congr 1
      rw [Bool.eq_iff_iff]
      simp only [Bool.not_false,Bool.true_and,Bool.and_true,beq_iff_eq]
      exact trimS_nil ds
theorem formed_bounds {d:D} (h:formed d=true):d.ds.length≤4096 ∧ -1000000≤d.e∧d.e≤1000000:=by
 obtain ⟨nar,neg,ds,e⟩:=d
 unfold formed at h
 cases nar with
 | true =>
  simp only [if_true,Bool.and_eq_true,decide_eq_true_iff,List.isEmpty_iff] at h
  obtain ⟨_,h1,h2⟩:=h
  subst h1 h2
  exact ⟨Nat.zero_le _,by show (-1000000:Int)≤0;decide,by show (0:Int)≤1000000;decide⟩
 | false =>
  simp only [Bool.false_eq_true,if_false,Bool.and_eq_true,decide_eq_true_iff] at h
  obtain ⟨_,h1,_,h2,h3⟩:=h
  exact ⟨h1,h2,h3⟩
theorem scan_Norm_ev (d:D):scan_Norm.f d.nar d.neg (mkB d.ds) d.e=some (if formed d=true then ((nrm d).nar,(nrm d).neg,mkB (nrm d).ds,(nrm d).e,none) else (false,false,mkB [],0,some 23)):=by
 unfold scan_Norm.f
 rw [scan_formed_ev]
 simp only [Option.bind_some]
 by_cases h:formed d=true
 ·obtain ⟨h1,h2,h3⟩:=formed_bounds h
  rw [if_pos h,if_pos h,scan_trim_ev d (by omega) h2 h3]
  rfl
 ·rw [if_neg h,if_neg h];rfl
theorem set_rep (l:List UInt8) (m:Nat) (h:m<l.length) (c:UInt8):(l.take (m+1) ++ List.replicate (l.length - (m+1)) 48).set m c=l.take m ++ c :: List.replicate (l.length - (m+1)) 48:=by
 have h1:(l.take m).length=m:=by rw [List.length_take];omega
 rw [List.take_succ_eq_append_getElem h,List.append_assoc,List.set_append_right _ _ (by omega),h1,Nat.sub_self]
 rfl
def incR:List UInt8→List UInt8
 | [] => [49]
 | c :: r=>if c=57 then 48 :: incR r else (c+1) :: r
def aboveL (l:List UInt8):List UInt8:=(incR l.reverse).reverse
def text_above.f (a0_0 a0_1:Bool) (a0_2:ByteArray) (a0_3:Int):Option (Bool × Bool × ByteArray × Int):=if a0_2.data.toList ≠ []∧a0_2.size≤1048576 then some (a0_0,a0_1,mkB (aboveL a0_2.data.toList),a0_3) else none
structure Row8 (w:World) (g:Nat) (l:List UInt8):Prop where
 cell:∀ (i:Nat) (h:i<l.length),w.cell? ⟨g,i,none⟩=some (.int .u8 ((l[i]'h).toNat:Int))
 frz:∀ i:Nat,i<l.length→w.frozen? ⟨g,i,none⟩=false
theorem Row8.set {w:World} {g:Nat} {l:List UInt8} (h:Row8 w g l) (i:Nat) (hi:i<l.length) (c:UInt8):Row8 (w.setCell ⟨g,i,none⟩ (.int .u8 (c.toNat:Int))) g (l.set i c):=by
 refine ⟨fun j hj=>?_,fun j hj=>?_⟩
 ·rw [List.length_set] at hj
  by_cases e:i=j
  ·subst e
   rw [World.cell?_setCell_same' _ _ _ (by rw [h.cell i hi];rfl),List.getElem_set_self]
  ·rw [World.cell?_setCell_other (h:=by intro k;injection k with _ k;exact e k),h.cell j hj,List.getElem_set_ne e]
 ·rw [List.length_set] at hj
  rw [World.frozen?_setCell];exact h.frz j hj
theorem row8_new (w:World) (e:TypeId) (s:ByteArray):Row8 (Lib.bytesWorld w e s) w.heap.size s.data.toList:=by
 refine ⟨fun i hi=>?_,fun i hi=>?_⟩
 ·rw [Lib.bytesWorld_cell w e s i (by simpa using hi),List.getD_eq_getElem?_getD,List.getElem?_eq_getElem hi];rfl
 ·simp only [World.frozen?, Lib.bytesWorld_at_new]
  have h1:i<s.size:=by simpa using hi
  have h2:s.size≤(Lib.bytesCells w e s).size:=by simp [Lib.bytesCells]
  simp
  omega
theorem row8_string {P:Program} {w:World} {g cap:Nat} {l:List UInt8} (h:Row8 w g l) (src e dst:TypeId) (hs:P.underlying src=some (.slice e)) (he:P.underlying e=some (.int .u8)) (hd:P.underlying dst=some .string) :
  (convert src dst (.slice (some ⟨g,0,none⟩) l.length cap)).run P w = .ok (.string (mkB l)) w:=by
 have h2:=run_convert_bytes_arg (P:=P) (w:=w) src e hs he g 0 l.length cap (l.map fun c=>(c.toNat:Int)) (by simp) (fun i hi=>by
  rw [Nat.zero_add,h.cell i hi,List.getD_eq_getElem?_getD,List.getElem?_map,List.getElem?_eq_getElem hi];rfl) dst hd
 rw [h2]
 congr 2
 unfold strOfNums mkB
 congr 1
 rw [List.map_map]
 have:((fun n:Int=>UInt8.ofNat n.toNat) ∘ fun c:UInt8=>(c.toNat:Int))=id:=by funext c;simp
 rw [this,List.map_id]
theorem bytes_below (w:World) (e:TypeId) (s:ByteArray):Below w.heap.size w (Lib.bytesWorld w e s) :=
 ⟨rfl,rfl,rfl,by rw [Lib.bytesWorld_size];omega,fun i hi=>Lib.bytesWorld_at_old w e s i hi⟩
theorem take_rep_set (l:List UInt8) (m:Nat) (h:m<l.length):(l.take (m+1) ++ List.replicate (l.length - (m+1)) 48).set m 48=l.take m ++ List.replicate (l.length - m) 48:=by
 have h1:(l.take m).length=m:=by rw [List.length_take];omega
 rw [List.take_succ_eq_append_getElem h,List.append_assoc,List.set_append_right _ _ (by omega),h1,Nat.sub_self,show l.length - m=(l.length - (m+1))+1 by omega,List.replicate_succ]
 rfl
theorem rep_len (l:List UInt8) (m:Nat) (h:m≤l.length):(l.take m ++ List.replicate (l.length - m) (48:UInt8)).length=l.length:=by simp;omega
theorem rep_get (l:List UInt8) (m:Nat) (h:m<l.length):(l.take (m+1) ++ List.replicate (l.length - (m+1)) (48:UInt8))[m]'(by rw [rep_len _ _ (by omega)];exact h)=l[m]:=by
 rw [List.getElem_append_left (by simp;omega),List.getElem_take]
theorem incR_nines (n:Nat) (r:List UInt8):incR (List.replicate n 57 ++ r)=List.replicate n 48 ++ incR r:=by
 induction n with
 | zero=>rfl
 | succ n ih=>rw [List.replicate_succ,List.cons_append,incR,if_pos rfl,ih];rfl
theorem above_all {l:List UInt8} (h:l=List.replicate l.length 57):aboveL l=49 :: List.replicate l.length 48:=by
 unfold aboveL
 have e:l.reverse=List.replicate l.length 57 ++ []:=by rw [List.append_nil];conv=>lhs;rw [h];simp
 rw [e,incR_nines]
 simp [incR]
theorem above_at {l:List UInt8} {m:Nat} (hm:m<l.length) (h:l.drop (m+1)=List.replicate (l.length - (m+1)) 57) (hc:l[m]≠57):aboveL l=l.take m ++ (l[m]+1) :: List.replicate (l.length - (m+1)) 48:=by
 have e:l=l.take m ++ l[m] :: List.replicate (l.length - (m+1)) 57:=by
  rw [← h,List.getElem_cons_drop hm,List.take_append_drop]
 have e2:l.reverse=List.replicate (l.length - (m+1)) 57 ++ (l[m] :: (l.take m).reverse):=by
  conv=>lhs;rw [e]
  simp
 unfold aboveL
 rw [e2,incR_nines,incR,if_neg hc]
 simp
theorem blk_new' {W:World} {o:Obj} {g:Nat} (h:W.heap.size=g):(W.alloc o).heap[g]? = some o:=by subst h;exact blk_new W o
structure Abv (w w':World) (a b:Bool) (s:ByteArray) (e:Int) (l:List UInt8):Prop where
 b0:w'.heap[w.heap.size]? = some (.cells #[.bool a, .bool b, .string s, .int .i64 e] 23 (0,0))
 b1:w'.heap[w.heap.size+1]? = some (.cells #[.bool false, .bool false, .string ⟨#[]⟩, .int .i64 0] 23 (0,0))
 row:Row8 w' (w.heap.size+1+1) l
 bel:Below w.heap.size w w'
theorem Abv.set {w w':World} {a b:Bool} {s:ByteArray} {e:Int} {l:List UInt8} (h:Abv w w' a b s e l) (i:Nat) (hi:i<l.length) (c:UInt8):Abv w (w'.setCell ⟨w.heap.size+1+1,i,none⟩ (.int .u8 (c.toNat:Int))) a b s e (l.set i c) :=
 ⟨blk_far h.b0 (by show w.heap.size≠w.heap.size+1+1;omega) _,blk_far h.b1 (by show w.heap.size+1≠w.heap.size+1+1;omega) _,h.row.set i hi c,below_set h.bel (by omega)⟩
set_option maxHeartbeats 4000000 in
set_option maxRecDepth 100000 in
theorem above_walk (a0 a1:Bool) (s:ByteArray) (e0:Int) (w:World) (h0:s.data.toList ≠ []) (hs:s.size≤1048576) :
  Calls Tryz.prog 56 #[.agg #[.bool a0, .bool a1, .string s, .int .i64 e0]] w fun e w'=>e = .returned (.agg #[.bool a0, .bool a1, .string (mkB (aboveL s.data.toList)), .int .i64 e0])∧Below w.heap.size w w':=by
 have hcv:∀ W:World,(convert 9 104 (.string s)).run Tryz.prog W = .ok (.slice (some ⟨W.heap.size,0,none⟩) s.size (grownCap W s.size 0 5)) (Lib.bytesWorld W 5 s):=fun W=>Lib.run_convert_string_bytes W _ _ _ s Tryz.underlying9 Tryz.underlying104 Tryz.underlying5
 go_enter Tryz.func56,Tryz.ntmps56
 go_wp2
 go_loopw [4] (fun i w' => ∃ v:Int, -1≤v∧v<(s.size:Int)∧i = .int .i64 v∧Aside0 (s.data.toList.drop (v+1).toNat=List.replicate (s.data.toList.length - (v+1).toNat) 57)∧Aside0 (Abv w w' a0 a1 s e0 (s.data.toList.take (v+1).toNat ++ List.replicate (s.data.toList.length - (v+1).toNat) 48))) (fun i _=>(intOf i+1).toNat)
 case atStart =>
  have e1:((s.size:Int) - 1+1).toNat=s.data.toList.length:=by simp
  refine ⟨(s.size:Int) - 1,by omega,by omega,rfl,⟨by rw [e1];simp⟩,⟨?_⟩⟩
  rw [e1,Nat.sub_self,List.take_length,List.replicate_zero,List.append_nil]
  refine ⟨?_,?_,?_,?_⟩
  ·rw [Lib.bytesWorld_at_old _ _ _ _ (by simp;omega)]
   exact blk_alloc (blk_new w _) _
  ·rw [Lib.bytesWorld_at_old _ _ _ _ (by simp)]
   exact blk_new' (by simp)
  ·have h:=row8_new ((w.alloc (.cells #[.bool a0, .bool a1, .string s, .int .i64 e0] 23)).alloc (.cells #[.bool false, .bool false, .string ⟨#[]⟩, .int .i64 0] 23)) 5 s
   simpa using h
  ·exact below_step (below_alloc (below_alloc (Below.refl _ _) _) _) (bytes_below _ _ _)
 case round =>
  obtain ⟨v,hv1,hv2,rfl,HD,HA⟩:=hrel
  clear hcv
  by_cases hv:0≤v
  ·have HM:=Lib.hid (show (v+1).toNat=v.toNat+1 by omega)
   have HT:=Lib.hid (show v.toNat<s.data.toList.length by simp;omega)
   have hq:∃ c:UInt8,c=s.data.toList[v.toNat]'HT.out:=⟨_,rfl⟩
   obtain ⟨c,hc⟩:=hq
   have HC:=Lib.hid hc
   have hcell:=HA.out.row.cell v.toNat (by rw [HM.out,rep_len _ _ HT.out];exact HT.out)
   have hfrz:=HA.out.row.frz v.toNat (by rw [HM.out,rep_len _ _ HT.out];exact HT.out)
   have hval:wr.cell? ⟨w.heap.size+1+1,v.toNat,none⟩=some (.int .u8 (c.toNat:Int)):=by
    rw [hcell,hc]
    simp only [HM.out]
    rw [rep_get _ _ HT.out]
   clear hcell hc
   by_cases h57:c=57
   ·have heq:((c.toNat:Int) == 57)=true:=by rw [h57];rfl
    go_wp2
    go_roundw
    case rel =>
     refine ⟨v - 1,by omega,by omega,rfl,⟨?_⟩,⟨?_⟩⟩
     ·rw [show (v - 1+1).toNat=v.toNat by omega, ← List.getElem_cons_drop HT.out, ← HC.out,h57,show v.toNat+1=(v+1).toNat by omega,HD.out,show s.data.toList.length - v.toNat=(s.data.toList.length - (v+1).toNat)+1 by have:=HT.out;omega,List.replicate_succ]
     ·rw [show (v - 1+1).toNat=v.toNat by omega, ← take_rep_set _ _ HT.out]
      have h:=HA.out
      rw [HM.out] at h
      exact h.set v.toNat (by rw [rep_len _ _ HT.out];exact HT.out) 48
    case measure=>simp [intOf];omega
   ·have heq:((c.toNat:Int) == 57)=false:=by
     rw [beq_eq_false_iff_ne]
     intro h
     exact h57 (UInt8.toNat_inj.1 (by show c.toNat=57;omega))
    have HN:=Lib.hid h57
    have e9:((c.toNat:Int)+1) % 256=((c+1).toNat:Int):=by rw [UInt8.toNat_add];simp
    have E9:=Lib.hid e9
    clear h57 e9
    go_upto_region 9 with (fail)
    go_cut [] (fun wc=>Aside0 (Abv w wc a0 a1 s e0 (s.data.toList.take v.toNat ++ (c+1) :: List.replicate (s.data.toList.length - (v.toNat+1)) 48)))
    case first =>
     go_wp2
     go_meet
     case rel =>
      refine ⟨?_⟩
      have h:=HA.out.set v.toNat (by rw [HM.out,rep_len _ _ HT.out];exact HT.out) (c+1)
      rw [HM.out] at h
      rw [set_rep _ _ HT.out, ← E9.out] at h
      exact h
    case rest =>
    clear heq hfrz hval
    have K:=hcut
    clear hcut
    rename_i wc
    have hl':(s.data.toList.take v.toNat ++ (c+1) :: List.replicate (s.data.toList.length - (v.toNat+1)) 48).length=s.size:=by have:=HT.out;simp at this ⊢;omega
    have hcs:∀ cap,(convert 104 9 (.slice (some ⟨w.heap.size+1+1,0,none⟩) s.size cap)).run Tryz.prog wc = .ok (.string (mkB (s.data.toList.take v.toNat ++ (c+1) :: List.replicate (s.data.toList.length - (v.toNat+1)) 48))) wc:=fun cap=>by
     have h:=row8_string (P:=Tryz.prog) (cap:=cap) K.out.row 104 5 9 Tryz.underlying104 Tryz.underlying5 Tryz.underlying9
     rwa [hl'] at h
    have q0:∀ i,wc.cell? ⟨w.heap.size,i,none⟩=(_:Array Value)[i]?:=blk_cell K.out.b0
    have f0:∀ i,wc.frozen? ⟨w.heap.size,i,none⟩=false:=blk_frozen K.out.b0
    have q1:∀ i,wc.cell? ⟨w.heap.size+1,i,none⟩=(_:Array Value)[i]?:=blk_cell K.out.b1
    have f1:∀ i,wc.frozen? ⟨w.heap.size+1,i,none⟩=false:=blk_frozen K.out.b1
    clear hl'
    have HAb:=Lib.hid (show aboveL s.data.toList=s.data.toList.take v.toNat ++ (c+1) :: List.replicate (s.data.toList.length - (v.toNat+1)) 48 by rw [above_at HT.out (by rw [← HM.out];exact HD.out) (by rw [← HC.out];exact HN.out), ← HC.out])
    go_wp2
    refine bodyPost_ret (results_cell_row rfl _ _ (w.heap.size+1) 23 #[.bool a0, .bool a1, .string (mkB (s.data.toList.take v.toNat ++ (c+1) :: List.replicate (s.data.toList.length - (v.toNat+1)) 48)), .int .i64 e0] (0,0) _ rfl ?blk Tryz.underlying23 rfl (by kernel_rfl)) rfl ⟨by rw [HAb.out],?_⟩
    case blk =>
     apply Eq.trans
     ·repeat (first|(with_reducible exact K.out.b1)|(with_reducible apply blk_set)|(with_reducible apply blk_far (hp:=Nat.ne_of_lt (Nat.lt_succ_self _)))|(with_reducible apply blk_far (hp:=Nat.ne_of_gt (Nat.lt_succ_self _))))
     ·rfl
    repeat (first|(with_reducible exact K.out.bel)|(with_reducible refine below_set ?_ (by first|exact Nat.le_refl _|exact Nat.le_succ _)))
  ·obtain rfl:v = -1:=by omega
   have hd:s.data.toList=List.replicate s.data.toList.length 57:=by simpa using HD.out
   have hk:Abv w wr a0 a1 s e0 (List.replicate s.size 48):=by simpa using HA.out
   have K:=Lib.hid hk
   have HDD:=Lib.hid hd
   have HAb:=Lib.hid (show aboveL s.data.toList=49 :: List.replicate s.size 48 by rw [above_all hd];simp)
   clear hd hk hv HD HA
   have hl':(List.replicate s.size (48:UInt8)).length=s.size:=by simp
   have hcs:∀ cap,(convert 104 9 (.slice (some ⟨w.heap.size+1+1,0,none⟩) s.size cap)).run Tryz.prog wr = .ok (.string (mkB (List.replicate s.size 48))) wr:=fun cap=>by
    have h:=row8_string (P:=Tryz.prog) (cap:=cap) K.out.row 104 5 9 Tryz.underlying104 Tryz.underlying5 Tryz.underlying9
    rwa [hl'] at h
   have q0:∀ i,wr.cell? ⟨w.heap.size,i,none⟩=(_:Array Value)[i]?:=blk_cell K.out.b0
   have f0:∀ i,wr.frozen? ⟨w.heap.size,i,none⟩=false:=blk_frozen K.out.b0
   have q1:∀ i,wr.cell? ⟨w.heap.size+1,i,none⟩=(_:Array Value)[i]?:=blk_cell K.out.b1
   have f1:∀ i,wr.frozen? ⟨w.heap.size+1,i,none⟩=false:=blk_frozen K.out.b1
   clear hl'
   have hb1:((⟨#[49]⟩:ByteArray) ++ mkB (List.replicate s.size 48))=mkB (49 :: List.replicate s.size 48):=mkB_append [49] _
   have HB1:=Lib.hid hb1
   clear hb1
   have hz1:(9223372036854775807<1+(mkB (List.replicate s.size 48)).size)=False:=eq_false (by rw [mkB_size,List.length_replicate];omega)
   go_wp2
   refine bodyPost_ret (results_cell_row rfl _ _ (w.heap.size+1) 23 #[.bool a0, .bool a1, .string ((⟨#[49]⟩:ByteArray) ++ mkB (List.replicate s.size 48)), .int .i64 e0] (0,0) _ rfl ?blk Tryz.underlying23 rfl (by kernel_rfl)) rfl ⟨by rw [HAb.out,HB1.out],?_⟩
   case blk =>
    apply Eq.trans
    ·repeat (first|(with_reducible exact K.out.b1)|(with_reducible apply blk_set)|(with_reducible apply blk_far (hp:=Nat.ne_of_lt (Nat.lt_succ_self _)))|(with_reducible apply blk_far (hp:=Nat.ne_of_gt (Nat.lt_succ_self _))))
    ·rfl
   repeat (first|(with_reducible exact K.out.bel)|(with_reducible refine below_set ?_ (by first|exact Nat.le_refl _|exact Nat.le_succ _)))
theorem text_above.calls (a0_0 a0_1:Bool) (a0_2:ByteArray) (a0_3:Int) (r1 r2:Bool) (r3:ByteArray) (r4:Int) (w:World) (h:text_above.f a0_0 a0_1 a0_2 a0_3=some (r1,r2,r3,r4)) :
  Calls Tryz.prog 56 #[.agg #[.bool a0_0, .bool a0_1, .string a0_2, .int .i64 a0_3]] w fun e w'=>e = .returned (.agg #[.bool r1, .bool r2, .string r3, .int .i64 r4])∧Below w.heap.size w w':=by
 unfold text_above.f at h
 by_cases hc:a0_2.data.toList ≠ []∧a0_2.size≤1048576
 case neg=>rw [if_neg hc] at h;exact absurd h (by simp)
 rw [if_pos hc] at h
 simp only [Option.some.injEq,Prod.mk.injEq] at h
 obtain ⟨rfl,rfl,rfl,rfl⟩:=h
 exact above_walk a0_0 a0_1 a0_2 a0_3 w hc.1 hc.2
def DVar (g:Nat) (d:D) (w:World):Prop:=w.heap[g]? = some (.cells #[.bool d.nar, .bool d.neg, .string (mkB d.ds), .int .i64 d.e] 23 (0,0))
theorem dvar_cells {g:Nat} {d:D} {w:World} (h:DVar g d w):w.cell? ⟨g,0,none⟩=some (.bool d.nar)∧w.cell? ⟨g,1,none⟩=some (.bool d.neg)∧w.cell? ⟨g,2,none⟩=some (.string (mkB d.ds))∧w.cell? ⟨g,3,none⟩=some (.int .i64 d.e) ∧
  w.frozen? ⟨g,0,none⟩=false∧w.frozen? ⟨g,1,none⟩=false∧w.frozen? ⟨g,2,none⟩=false∧w.frozen? ⟨g,3,none⟩=false∧g<w.heap.size:=by
 unfold DVar at h
 exact ⟨(blk_cell h 0).trans rfl,(blk_cell h 1).trans rfl,(blk_cell h 2).trans rfl,(blk_cell h 3).trans rfl,blk_frozen h 0,blk_frozen h 1,blk_frozen h 2,blk_frozen h 3,(Array.getElem?_eq_some_iff.1 h).1⟩
theorem dvar_below {g B:Nat} {d:D} {w w':World} (h:DVar g d w) (hb:Below B w w') (hg:g<B):DVar g d w':=by
 unfold DVar at *
 rw [hb.block g hg];exact h
structure TS (w0:World) (g B:Nat) (d:D) (l:List UInt8) (w:World):Prop where
 bld:Bd.IsB B B l w
 var:DVar g d w
 lt:g<B
 base:w0.heap.size≤g
 low:Below w0.heap.size w0 w
 sz:B≤w.heap.size
 laid:Fx.Laid w
theorem TS.other {w0:World} {g B:Nat} {d:D} {l:List UInt8} {w w':World} (h:TS w0 g B d l w) (hb:Below w.heap.size w w'):TS w0 g B d l w' :=
 ⟨h.bld.below hb,dvar_below h.var hb (by have:=h.lt;have:=h.sz;omega),h.lt,h.base,h.low.trans (hb.mono (by have:=h.lt;have:=h.sz;have:=h.base;omega)),Nat.le_trans h.sz hb.size,h.laid.below hb⟩
theorem TS.drewN {w0:World} {g B:Nat} {d:D} {l:List UInt8} {w:World} (h:TS w0 g B d l w) (n:Nat):TS w0 g B d l (w.drewN n):=h.other (pw_below_drewN (Below.refl _ w) n)
theorem TS.drew {w0:World} {g B:Nat} {d:D} {l:List UInt8} {w:World} (h:TS w0 g B d l w):TS w0 g B d l w.drew:=h.drewN 1
theorem tsH {w0:World} {g B:Nat} {d:D} {l:List UInt8} {w W:World} (h:Aside0 (TS w0 g B d l w)) (k:TS w0 g B d l w→TS w0 g B d l W:=by first|exact (fun h_=>h_)|exact (fun h_=>h_.drew)|exact (fun h_=>h_.drewN _)):TS w0 g B d l W:=k h.out
theorem ts_write {w0:World} {g B:Nat} {d:D} {l:List UInt8} {w:World} (h:TS w0 g B d l w) (hl0:Fx.Laid w0) (s:ByteArray) (hlen:l.length+s.size≤140737488355328) :
  Calls Tryz.prog 68 #[.pointer (some ⟨B,0,none⟩), .string s] w fun e w'=>e = .returned (.tuple #[.int .i64 s.size, .nilIface])∧TS w0 g B d (l ++ s.data.toList) w':=by
 refine (Bd.write B B l s w h.bld hlen h.sz).mono ?_
 rintro e w' ⟨he,h1,h2⟩
 have hlow:=h.low.trans (h2.mono (by have:=h.lt;have:=h.base;omega))
 exact ⟨he,h1,dvar_below h.var h2 h.lt,h.lt,h.base,hlow,Nat.le_trans h.sz h2.size,hl0.below hlow⟩
theorem ts_byte {w0:World} {g B:Nat} {d:D} {l:List UInt8} {w:World} (h:TS w0 g B d l w) (hl0:Fx.Laid w0) (c:UInt8) (x:Int) (hx:x=(c.toNat:Int)) (hlen:l.length+1≤140737488355328) :
  Calls Tryz.prog 67 #[.pointer (some ⟨B,0,none⟩), .int .u8 x] w fun e w'=>e = .returned .nilIface∧TS w0 g B d (l ++ [c]) w':=by
 subst hx
 refine (Bd.writeByte B B l c w h.bld hlen h.sz).mono ?_
 rintro e w' ⟨he,h1,h2⟩
 have hlow:=h.low.trans (h2.mono (by have:=h.lt;have:=h.base;omega))
 exact ⟨he,h1,dvar_below h.var h2 h.lt,h.lt,h.base,hlow,Nat.le_trans h.sz h2.size,hl0.below hlow⟩
theorem ts_string {w0:World} {g B:Nat} {d:D} {l:List UInt8} {w:World} (h:TS w0 g B d l w) :
  Calls Tryz.prog 71 #[.pointer (some ⟨B,0,none⟩)] w fun e w'=>e = .returned (.string (mkB l))∧Below w0.heap.size w0 w':=by
 refine (Tryz.Builder_String_any_f B B l w h.bld h.sz).mono ?_
 rintro e w' ⟨he,_,h2⟩
 exact ⟨he,h.low.trans (h2.mono (by have:=h.lt;have:=h.base;omega))⟩
theorem repeat_48 (n:Nat):Lib.repeatL [48] n=List.replicate n 48:=by
 induction n with
 | zero=>rfl
 | succ n ih=>rw [Lib.repeatL,ih,List.replicate_succ];rfl
theorem ts_repeat {w0:World} {g B:Nat} {d:D} {l:List UInt8} {w:World} (h:TS w0 g B d l w) (n:Int) (h0:0≤n) (h1:n≤1000) :
  Calls Tryz.prog 69 #[.string (⟨#[48]⟩:ByteArray), .int .i64 n] w fun e w'=>e = .returned (.string (mkB (List.replicate n.toNat 48)))∧TS w0 g B d l w':=by
 obtain ⟨k,rfl⟩:=Int.eq_ofNat_of_zero_le h0
 refine (Tryz.strings_Repeat ⟨#[48]⟩ k w (by omega) (by have e:(⟨#[48]⟩:ByteArray).size=1:=rfl;rw [e];omega)).mono ?_
 rintro e w' ⟨he,hb⟩
 refine ⟨?_,h.other hb⟩
 rw [he]
 show Ending.returned (.string ⟨(Lib.repeatL [48] k).toArray⟩)=_
 rw [repeat_48]
 rfl
theorem ts_itoa {w0:World} {g B:Nat} {d:D} {l:List UInt8} {w:World} (h:TS w0 g B d l w) (n:Int) (h0 : -9223372036854775808≤n) (h1:n≤9223372036854775807) :
  Calls Tryz.prog 70 #[.int .i64 n] w fun e w'=>e = .returned (.string (mkB (Lib.itoa n)))∧TS w0 g B d l w':=by
 refine (strconv_Itoa_70.calls n (mkB (Lib.itoa n)) w (by unfold strconv_Itoa_70.f;rw [if_pos ⟨h0,h1⟩];rfl) h.laid).mono ?_
 rintro e w' ⟨he,hb⟩
 exact ⟨he,h.other hb⟩
theorem norm_bad (d:D) (h:formed d=false) (w:World) :
  Calls Tryz.prog 26 #[.agg #[.bool d.nar, .bool d.neg, .string (mkB d.ds), .int .i64 d.e]] w fun e w'=>e = .returned (.tuple #[.agg #[.bool false, .bool false, .string (⟨#[]⟩:ByteArray), .int .i64 0], .iface 64 (.int .i64 23)])∧Below w.heap.size w w':=by
 have hN:=scan_Norm_ev d
 rw [if_neg (by rw [h];decide)] at hN
 exact scan_Norm.calls _ _ _ _ _ _ _ _ _ _ hN
theorem norm_good (d:D) (h:formed d=true) (w:World) :
  Calls Tryz.prog 26 #[.agg #[.bool d.nar, .bool d.neg, .string (mkB d.ds), .int .i64 d.e]] w fun e w'=>e = .returned (.tuple #[.agg #[.bool (nrm d).nar, .bool (nrm d).neg, .string (mkB (nrm d).ds), .int .i64 (nrm d).e], .nilIface])∧Below w.heap.size w w':=by
 have hN:=scan_Norm_ev d
 rw [if_pos h] at hN
 exact scan_Norm.calls _ _ _ _ _ _ _ _ _ _ hN
set_option maxHeartbeats 1000000 in
set_option maxRecDepth 100000 in
theorem text_form (d:D) (w:World) (h:formed d=false) :
  Calls Tryz.prog 30 #[.agg #[.bool d.nar, .bool d.neg, .string (mkB d.ds), .int .i64 d.e]] w fun e w'=>e = .returned (.tuple #[.string (⟨#[]⟩:ByteArray), .iface 64 (.int .i64 23)])∧Below w.heap.size w w':=by
 have hD:DVar w.heap.size d (w.alloc (.cells #[.bool d.nar, .bool d.neg, .string (mkB d.ds), .int .i64 d.e] 23)):=heap_alloc_new w _
 have HD:=am hD
 have HF:=am h
 clear hD h
 go_enter Tryz.func30,Tryz.ntmps30
 go_wp2_with (go_at_call 26;refine (norm_bad d HF.out _).mono ?_;rintro e w1 ⟨rfl,hb⟩;obtain ⟨c0,c1,c2,c3,f0,f1,f2,f3,hlt⟩:=dvar_cells (dvar_below HD.out hb (by simp));have HB:=am hb;clear hb)
 go_ret2
 exact ⟨rfl,((((((Below.refl _ w).alloc (Nat.le_refl _) _).trans (HB.out.mono (by simp))).setCell (p:=⟨w.heap.size,0,none⟩) (Nat.le_refl _) _).setCell (p:=⟨w.heap.size,1,none⟩) (Nat.le_refl _) _).setCell (p:=⟨w.heap.size,2,none⟩) (Nat.le_refl _) _).setCell (p:=⟨w.heap.size,3,none⟩) (Nat.le_refl _) _⟩
def chain (w:World) (g:Nat) (d:D):World:=(((w.setCell ⟨g,0,none⟩ (.bool d.nar)).setCell ⟨g,1,none⟩ (.bool d.neg)).setCell ⟨g,2,none⟩ (.string (mkB d.ds))).setCell ⟨g,3,none⟩ (.int .i64 d.e)
theorem chain_var {w:World} {g:Nat} {d0:D} (h:DVar g d0 w) (d:D):DVar g d (chain w g d) :=
 blk_put (blk_put (blk_put (blk_put h 0 (.bool d.nar) rfl) 1 (.bool d.neg) rfl) 2 (.string (mkB d.ds)) rfl) 3 (.int .i64 d.e) rfl
theorem chain_size (w:World) (g:Nat) (d:D):(chain w g d).heap.size=w.heap.size:=by unfold chain;simp
theorem chain_low {w0 w:World} {g:Nat} (d:D) (h:Below w0.heap.size w0 w) (hg:w0.heap.size≤g):Below w0.heap.size w0 (chain w g d) :=
 (((h.setCell (p:=⟨g,0,none⟩) hg _).setCell (p:=⟨g,1,none⟩) hg _).setCell (p:=⟨g,2,none⟩) hg _).setCell (p:=⟨g,3,none⟩) hg _
theorem ts_start {w0 w1:World} {d0:D} (N:D) (h:DVar w0.heap.size d0 w1) (hb:Below w0.heap.size w0 w1) (hl:Fx.Laid w0) :
  TS w0 w0.heap.size w1.heap.size N [] ((chain w1 w0.heap.size N).alloc (.cells #[.pointer none, .slice none 0 0] 111)):=by
 have hlt:w0.heap.size<w1.heap.size:=(Array.getElem?_eq_some_iff.1 h).1
 have hm:=Bd.made (chain w1 w0.heap.size N)
 rw [chain_size] at hm
 have hlow:=(chain_low N hb (Nat.le_refl _)).alloc (by rw [chain_size];omega) (.cells #[.pointer none, .slice none 0 0] 111)
 refine ⟨hm,?_,hlt,Nat.le_refl _,hlow,?_,hl.below hlow⟩
 ·exact blk_alloc (chain_var h N) _
 ·have:w1.heap.size≤(chain w1 w0.heap.size N).heap.size:=by rw [chain_size];exact Nat.le_refl _
  simp only [World.size_alloc];omega
def Texted (N:D) (w:World) (e:Ending) (w':World):Prop:=e = .returned (.tuple #[.string (mkB (textN N)), .nilIface])∧Below w.heap.size w w'
theorem len_data (s:ByteArray):s.data.toList.length=s.size:=Array.length_toList
theorem mkB_rep (n:Nat) (c:UInt8):(mkB (List.replicate n c)).size=n:=by rw [mkB_size,List.length_replicate]
theorem mkB_ito (n:Int):(mkB (Lib.itoa n)).size=(Lib.itoa n).length:=mkB_size _
theorem nd_le (u:Nat):Lib.nDigits u≤u+1:=by
 induction u using Nat.strongRecOn with
 | ind u ih =>
  rw [Lib.nDigits]
  by_cases h:u<10
  ·rw [dif_pos h];omega
  ·rw [dif_neg h]
   have:=ih (u / 10) (by omega)
   omega
theorem itoa_short (n:Int) (h:n.natAbs≤10000000):(Lib.itoa n).length≤140000000000:=by
 unfold Lib.itoa
 split
 ·have:=nd_le n.natAbs
  rw [List.length_cons,Lib.decDigits_length];omega
 ·have:=nd_le n.toNat
  rw [Lib.decDigits_length];omega
theorem ext_le (s:ByteArray) (a b:Nat):(s.extract a b).size≤s.size:=by rw [ByteArray.size_extract];omega
set_option maxHeartbeats 1000000 in
set_option maxRecDepth 100000 in
theorem text_nar (d:D) (w:World) (h:formed d=true) (hn:(nrm d).nar=true) :
  Calls Tryz.prog 30 #[.agg #[.bool d.nar, .bool d.neg, .string (mkB d.ds), .int .i64 d.e]] w fun e w'=>Texted (nrm d) w e w':=by
 have hD:DVar w.heap.size d (w.alloc (.cells #[.bool d.nar, .bool d.neg, .string (mkB d.ds), .int .i64 d.e] 23)):=heap_alloc_new w _
 have HD:=am hD
 have HN:=am hn
 have hg:=norm_good d h
 rw [hn] at hg
 clear hD h hn
 go_enter Tryz.func30,Tryz.ntmps30
 go_wp2_with (go_at_call 26;refine (hg _).mono ?_;rintro e w1 ⟨rfl,hb⟩;obtain ⟨c0,c1,c2,c3,f0,f1,f2,f3,hlt⟩:=dvar_cells (dvar_below HD.out hb (by simp));have HB:=am hb;clear hb)
 go_ret2
 refine ⟨?_,((((((Below.refl _ w).alloc (Nat.le_refl _) _).trans (HB.out.mono (by simp))).setCell (p:=⟨w.heap.size,0,none⟩) (Nat.le_refl _) _).setCell (p:=⟨w.heap.size,1,none⟩) (Nat.le_refl _) _).setCell (p:=⟨w.heap.size,2,none⟩) (Nat.le_refl _) _).setCell (p:=⟨w.heap.size,3,none⟩) (Nat.le_refl _) _⟩
 unfold textN
 rw [if_pos HN.out]
 rfl
end Go.Proofs.Yy.PTx
end
