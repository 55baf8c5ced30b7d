/- Part 28 of what the proof needs. -/
import Derived.Laws.Strings2
import Derived.Laws.RangeString
import Derived.Test.YtpfnkbnepcchgaaGreatDoorKTBBA
set_option linter.unusedSimpArgs false
set_option linter.unusedVariables false
section
namespace Go.Proofs.Yy.PTx
open Go.RowKit Go.Proofs.Yw.PrintWords Go.Proofs.Yw.PrintLast Go.Proofs.Yw.PrintMore Go.Proofs.Yy.M Go.Proofs.Yy.NM
attribute [local irreducible] add64Lo add64Hi sub64Lo sub64Hi val
def dgt (c:UInt8):Bool:=decide (48≤c.toNat) && decide (c.toNat≤57)
def lead:List UInt8→Nat
 | []=>0
 | c :: r=>if dgt c=true then lead r+1 else 0
theorem lead_all {l:List UInt8} (h:∀ c ∈ l,dgt c=true):lead l=l.length:=by
 induction l with
 | nil=>rfl
 | cons c r ih =>
  unfold lead
  rw [if_pos (h c List.mem_cons_self),ih (fun x hx=>h x (List.mem_cons_of_mem _ hx)),List.length_cons]
theorem decode_high (s:ByteArray) (i:Nat) (h:¬ (s.get! i).toNat<128):128≤(Utf8.decode s i).1:=by
 unfold Utf8.decode Utf8.runeError
 simp only [Nat.add_zero]
 repeat' split
 all_goals first|omega|(dsimp only;omega)|(simp_all;done)|(simp_all;omega)
theorem noDigit_of_not {c:UInt8} (h:¬ dgt c=true):noDigit c.toNat=true:=by
 unfold noDigit dgt at *
 by_cases h1:c.toNat<48
 ·simp [h1]
 ·by_cases h2:57<c.toNat
  ·simp [h2]
  ·exact absurd (by simp;omega) h
theorem noDigit_of {c:UInt8} (h:dgt c=true):noDigit c.toNat=false:=by
 unfold noDigit dgt at *
 simp at h ⊢
 omega
theorem idx_from (l:List UInt8):∀ (f pos:Nat),l.length≤pos+f→Lib.idxFuncFrom noDigit true (mkB l) f pos=if pos+lead (l.drop pos)<l.length then ((pos+lead (l.drop pos):Nat):Int) else -1:=by
 intro f
 induction f with
 | zero =>
  intro pos h
  rw [List.drop_of_length_le (by omega)]
  unfold Lib.idxFuncFrom
  rw [if_neg (by simp [lead];omega)]
 | succ f ih =>
  intro pos h
  unfold Lib.idxFuncFrom
  rw [mkB_size]
  by_cases hp:pos<l.length
  ·have hps:pos<(mkB l).size:=by rw [mkB_size];exact hp
   obtain ⟨c,hc⟩:∃ c,l[pos]'hp=c:=⟨_,rfl⟩
   have hdrop:l.drop pos=c :: l.drop (pos+1):=by rw [← hc];exact List.drop_eq_getElem_cons hp
   have hgc:(mkB l)[pos]'hps=c:=hc
   rw [if_pos hp,hdrop]
   by_cases hd:dgt c=true
   ·have h128:c.toNat<128:=by
     have hd2:=hd
     unfold dgt at hd2;simp at hd2;omega
    rw [decode_ascii (mkB l) pos hps (by rw [hgc];exact h128)]
    dsimp only
    rw [hgc,noDigit_of hd,if_neg (by decide),ih (pos+1) (by omega)]
    have e:lead (c :: l.drop (pos+1))=lead (l.drop (pos+1))+1:=by rw [lead,if_pos hd]
    rw [e,show pos+(lead (l.drop (pos+1))+1)=pos+1+lead (l.drop (pos+1)) by omega]
   ·have hn:noDigit (Utf8.decode (mkB l) pos).1=true:=by
     by_cases h128:c.toNat<128
     ·rw [decode_ascii (mkB l) pos hps (by rw [hgc];exact h128)]
      dsimp only
      rw [hgc]
      exact noDigit_of_not hd
     ·have hg:(mkB l).get! pos=(mkB l)[pos]'hps:=by
       show (mkB l).data[pos]! = _
       rw [getElem!_pos (mkB l).data pos hps];rfl
      have:=decode_high (mkB l) pos (by rw [hg,hgc];exact h128)
      unfold noDigit
      simp
      omega
    rw [hn,if_pos rfl]
    have e:lead (c :: l.drop (pos+1))=0:=by rw [lead,if_neg hd]
    rw [e,Nat.add_zero,if_pos hp]
  ·rw [if_neg hp,List.drop_of_length_le (by omega),if_neg (by simp [lead];omega)]
theorem idx_zero (l:List UInt8):Lib.idxFuncFrom noDigit true (mkB l) (mkB l).size 0=if lead l<l.length then ((lead l:Nat):Int) else -1:=by
 have h:=idx_from l (mkB l).size 0 (by rw [mkB_size];omega)
 rw [List.drop_zero,Nat.zero_add] at h
 exact h
theorem idx_f (s:ByteArray):strings_IndexFunc.f s=some (Lib.idxFuncFrom noDigit true s s.size 0):=by unfold strings_IndexFunc.f Lib.idxFunc;exact congrArg some rfl
theorem idx_mkB (l:List UInt8):strings_IndexFunc.f (mkB l)=some (if lead l<l.length then ((lead l:Nat):Int) else -1):=(idx_f _).trans (congrArg some (idx_zero l))
def numF (V:Nat) (l:List UInt8):Nat:=l.foldl (fun a c=>a * 10+(c.toNat - 48)) V
theorem numF_cons (V:Nat) (c:UInt8) (r:List UInt8):numF V (c :: r)=numF (V * 10+(c.toNat - 48)) r:=by unfold numF;rw [List.foldl_cons]
theorem numF_append (V:Nat) (a b:List UInt8):numF V (a ++ b)=numF (numF V a) b:=by unfold numF;rw [List.foldl_append]
theorem numF_ge (l:List UInt8):∀ V,V≤numF V l:=by
 induction l with
 | nil=>intro V;exact Nat.le_refl _
 | cons c r ih=>intro V;rw [numF_cons];have:=ih (V * 10+(c.toNat - 48));omega
theorem numF_split (l:List UInt8):∀ V,numF V l=V * 10 ^ l.length+numF 0 l:=by
 induction l with
 | nil=>intro V;simp [numF]
 | cons c r ih =>
  intro V
  rw [numF_cons,numF_cons,ih,ih (0 * 10+(c.toNat - 48)),List.length_cons,Nat.pow_succ]
  have e1:(V * 10+(c.toNat - 48)) * 10 ^ r.length=V * 10 * 10 ^ r.length+(c.toNat - 48) * 10 ^ r.length:=Nat.add_mul ..
  have e2:(0 * 10+(c.toNat - 48)) * 10 ^ r.length=(c.toNat - 48) * 10 ^ r.length:=by rw [Nat.zero_mul,Nat.zero_add]
  have e3:V * (10 ^ r.length * 10)=V * 10 * 10 ^ r.length:=by rw [Nat.mul_comm (10 ^ r.length),Nat.mul_assoc]
  rw [e1,e2,e3]
  omega
theorem numF_lt {l:List UInt8} (h:∀ c ∈ l,dgt c=true):numF 0 l<10 ^ l.length:=by
 induction l with
 | nil=>simp [numF]
 | cons c r ih =>
  have hc:=h c List.mem_cons_self
  have hr:=ih (fun x hx=>h x (List.mem_cons_of_mem _ hx))
  rw [numF_cons,numF_split,List.length_cons,Nat.pow_succ]
  unfold dgt at hc
  simp at hc
  have h9:(0 * 10+(c.toNat - 48)) * 10 ^ r.length≤9 * 10 ^ r.length:=Nat.mul_le_mul_right _ (by omega)
  omega
theorem parse_ok (M:Nat) (hM:M≤18446744073709551615) (l:List UInt8):∀ acc,(∀ c ∈ l,dgt c=true)→numF acc l≤M→Lib.parseUintM M acc l = .ok (numF acc l):=by
 induction l with
 | nil=>intro acc _ _;rfl
 | cons c r ih =>
  intro acc hd hle
  have hc:=hd c List.mem_cons_self
  unfold dgt at hc
  simp at hc
  rw [numF_cons] at hle
  have hge:=numF_ge r (acc * 10+(c.toNat - 48))
  unfold Lib.parseUintM
  rw [if_pos hc,if_neg (by omega),if_neg (by omega),ih _ (fun x hx=>hd x (List.mem_cons_of_mem _ hx)) hle,numF_cons]
theorem parse_chunk {l:List UInt8} (h:∀ c ∈ l,dgt c=true) (h0:l ≠ []) (h19:l.length≤19):strconv_ParseUint_149.f (mkB l) 10 64=some ((numF 0 l:Int),none):=by
 have hlt:=numF_lt h
 have hp:10 ^ l.length≤10 ^ 19:=Nat.pow_le_pow_right (by decide) h19
 have e19:(10:Nat) ^ 19=10000000000000000000:=by decide
 unfold strconv_ParseUint_149.f
 rw [if_pos ⟨rfl,rfl,by rw [mkB_size];omega⟩]
 have hpu:Lib.parseUintB 64 (mkB l).data.toList = .ok (numF 0 l):=by
  rw [mkB_list]
  unfold Lib.parseUintB
  rw [if_neg h0]
  exact parse_ok _ (by decide) l 0 h (by omega)
 rw [hpu]
theorem read_scale (s:ByteArray) (x5:List Int) (n v:Int) (nn:Nat) (h19:nn≤19) (R:List Int × Option Int)
  (next:Ev (fun k=>(nat_times.f k x5 [pw 10 nn]).bind fun t=>(nat_Of.f k v).bind fun u=>(nat_plus.f k t u).bind fun z=>(if 0≤n then (if n≤(s.size:Int) then nat_Read.l0 k (s.extract n.toNat s.size) z else none) else none)) R) :
  ∀ (d i:Nat),i+d=nn→Ev (fun k=>nat_Read.l1 k s x5 n v (pw 10 i) (nn:Int) (i:Int)) R:=by
 intro d
 induction d with
 | zero =>
  intro i hi
  obtain rfl:i=nn:=by omega
  refine Ev.step (fun k=>?_) next
  simp only [nat_Read.l1]
  rw [if_neg (by omega)]
 | succ d ih =>
  intro i hi
  have hw:Aside0 (wrap64 ((i:Int)+1)=((i+1:Nat):Int)):=⟨by rw [w64 (by omega) (by omega)];omega⟩
  have hp0:=pw10_pos i
  have hp:pw 10 i * 10≤10000000000000000000:=by
   rw [← pw10_19, ← pw_succ];exact pw_le (by decide) (by omega)
  have hw2:Aside0 (IntKind.u64.wrap (pw 10 i * 10)=pw 10 (i+1)):=⟨by rw [u64w (by omega) (by omega),pw_succ]⟩
  refine Ev.step (fun k=>?_) (ih (i+1) (by omega))
  simp only [nat_Read.l1]
  rw [if_pos (by omega),hw.out,hw2.out]
theorem read_l0:∀ (m:Nat) (l:List UInt8) (V:Int),(∀ c ∈ l,dgt c=true)→l.length≤m→0≤V→(enc B V).length+l.length≤1073741824 →
  Ev (fun k=>nat_Read.l0 k (mkB l) (enc B V)) (enc B (V * pw 10 l.length+(numF 0 l:Int)),none):=by
 intro m
 induction m with
 | zero =>
  intro l V hd hl hV hL
  obtain rfl:l = []:=List.length_eq_zero_iff.1 (by omega)
  refine Ev.step (f:=fun _=>some (enc B V,none)) (fun k=>?_) (by rw [List.length_nil,pw_zero,Int.mul_one];exact (by simp [numF];exact Ev.now _))
  simp only [nat_Read.l0]
  rw [mkB_size,if_neg (by simp)]
 | succ m ih =>
  intro l V hd hl hV hL
  by_cases h0:l = []
  ·subst h0
   refine Ev.step (f:=fun _=>some (enc B V,none)) (fun k=>?_) (by rw [List.length_nil,pw_zero,Int.mul_one];exact (by simp [numF];exact Ev.now _))
   simp only [nat_Read.l0]
   rw [mkB_size,if_neg (by simp)]
  ·have hlp:0<l.length:=List.length_pos_iff.2 h0
   obtain ⟨n,hn⟩:∃ n:Nat,n=min l.length 19:=⟨_,rfl⟩
   have hmn:mn ((mkB l).size:Int) 19=(n:Int):=by rw [mkB_size];unfold mn;split <;> omega
   have hda:∀ c ∈ l.take n,dgt c=true:=fun c hc=>hd c (List.mem_of_mem_take hc)
   have hdb:∀ c ∈ l.drop n,dgt c=true:=fun c hc=>hd c (List.mem_of_mem_drop hc)
   have hla:(l.take n).length=n:=by rw [List.length_take];omega
   have hpc:=parse_chunk hda (by intro h;rw [h] at hla;simp at hla;omega) (by omega)
   have hext:(mkB l).extract 0 n=mkB (l.take n):=by
    unfold mkB
    rw [ByteArray.extract_mk,List.drop_zero,Nat.sub_zero]
   have hext2:(mkB l).extract n l.length=mkB (l.drop n):=by
    unfold mkB
    rw [ByteArray.extract_mk,List.take_of_length_le (by rw [List.length_drop];omega)]
   have hlt:=numF_lt hda
   rw [hla] at hlt
   have hvB:((numF 0 (l.take n):Nat):Int)<B:=by
    have hp:10 ^ n≤10 ^ 19:=Nat.pow_le_pow_right (by decide) (by omega)
    have e19:(10:Nat) ^ 19=10000000000000000000:=by decide
    rw [Bdef];omega
   have hsB:pw 10 n<B:=by
    have:=pw_le (b:=10) (by decide) (show n≤19 by omega)
    rw [pw10_19] at this
    rw [Bdef];omega
   have hs0:=pw10_pos n
   have ht:=times_ev (dig_enc' B1 V) (Dig_one (b:=B) (Int.le_of_lt hs0) hsB) (by simp;omega)
   rw [val_enc' B1 hV,val_one] at ht
   have hVs:0≤V * pw 10 n:=Int.mul_nonneg hV (Int.le_of_lt hs0)
   have hl1:(enc B (V * pw 10 n)).length≤(enc B V).length+1:=by
    refine penc_len B1 ?_
    rw [pw_succ]
    have h1:=pval_lt Bpos (dig_enc' B1 V)
    rw [val_enc' B1 hV] at h1
    have h2:V * pw 10 n≤V * B:=Int.mul_le_mul_of_nonneg_left (Int.le_of_lt hsB) hV
    have h3:V * B<pw B (enc B V).length * B:=Int.mul_lt_mul_of_pos_right h1 Bpos
    omega
   have hof:=nOf_ev (v:=((numF 0 (l.take n):Nat):Int)) (by omega) hvB
   have hl2:(enc B ((numF 0 (l.take n):Nat):Int)).length≤1:=penc_len B1 (by rw [pw_one];exact hvB)
   have hpl:=plus_ev (dig_enc' B1 (V * pw 10 n)) (dig_enc' B1 ((numF 0 (l.take n):Nat):Int)) (by omega) (by omega)
   rw [val_enc' B1 hVs,val_enc' B1 (by omega)] at hpl
   have hnew:0≤V * pw 10 n+((numF 0 (l.take n):Nat):Int):=by omega
   have hl3:(enc B (V * pw 10 n+((numF 0 (l.take n):Nat):Int))).length≤(enc B V).length+1:=by
    refine penc_len B1 ?_
    rw [pw_succ]
    have h1:=pval_lt Bpos (dig_enc' B1 V)
    rw [val_enc' B1 hV] at h1
    have h4:((numF 0 (l.take n):Nat):Int)<pw 10 n:=by
     rw [pw_def]
     have e:((10 ^ n:Nat):Int)=(10:Int) ^ n:=by simp
     omega
    have h5:(V+1) * pw 10 n≤pw B (enc B V).length * pw 10 n:=Int.mul_le_mul_of_nonneg_right (by omega) (Int.le_of_lt hs0)
    have h6:pw B (enc B V).length * pw 10 n≤pw B (enc B V).length * B:=Int.mul_le_mul_of_nonneg_left (Int.le_of_lt hsB) (Int.le_of_lt (pw_pos Bpos _))
    rw [Int.add_mul,Int.one_mul] at h5
    omega
   have key:=ih (l.drop n) _ hdb (by rw [List.length_drop];omega) hnew (by rw [List.length_drop];omega)
   have hfin:(V * pw 10 n+((numF 0 (l.take n):Nat):Int)) * pw 10 (l.drop n).length+((numF 0 (l.drop n):Nat):Int)=V * pw 10 l.length+((numF 0 l:Nat):Int):=by
    have e1:l.length=n+(l.drop n).length:=by rw [List.length_drop];omega
    have e2:numF 0 l=numF 0 (l.take n) * 10 ^ (l.drop n).length+numF 0 (l.drop n):=by
     rw [← numF_split, ← numF_append,List.take_append_drop]
    have e3:((10 ^ (l.drop n).length:Nat):Int)=pw 10 (l.drop n).length:=by rw [pw_def];simp
    rw [e2,Int.natCast_add,Int.natCast_mul,e3,e1,pw_add]
    simp only [List.length_drop]
    grind
   rw [hfin] at key
   have hsc:=read_scale (mkB l) (enc B V) (n:Int) ((numF 0 (l.take n):Nat):Int) n (by omega) (enc B (V * pw 10 l.length+((numF 0 l:Nat):Int)),none) (by
    refine Ev.bind ht (Ev.bind hof (Ev.bind hpl ?_))
    refine Ev.congr (fun k=>?_) key
    rw [if_pos (by omega),mkB_size,if_pos (by omega),Int.toNat_natCast,hext2]) n 0 (by omega)
   rw [pw_zero] at hsc
   refine Ev.step (fun k=>?_) hsc
   simp only [nat_Read.l0]
   rw [hmn,mkB_size,if_pos (by omega),if_pos (by omega),if_pos (by omega),Int.toNat_natCast,hext,hpc]
   simp only [Option.bind_some]
   rw [if_pos (by rfl)]
   rfl
theorem nRead_ev {l:List UInt8} (hd:∀ c ∈ l,dgt c=true) (h0:l ≠ []) (hl:l.length≤4096):Ev (fun k=>nat_Read.f k (mkB l)) (enc B (numF 0 l:Int),none):=by
 have h:=read_l0 l.length l 0 hd (Nat.le_refl _) (Int.le_refl _) (by rw [enc_zero];simp;omega)
 rw [Int.zero_mul,Int.zero_add,enc_zero] at h
 refine Ev.congr (f:=fun k=>nat_Read.j0 k (mkB l) (-1)) (fun k=>?_) (Ev.step (fun k=>?_) h)
 ·unfold nat_Read.f
  rw [mkB_size,if_neg (by omega),idx_mkB,if_neg (by rw [lead_all hd];omega)]
  simp only [Option.bind_some]
  rw [if_neg (by rw [Lib.toList_data,mkB_list];exact h0)]
 ·simp only [nat_Read.j0]
  rw [if_neg (by decide)]
end Go.Proofs.Yy.PTx
end
section
set_option maxHeartbeats 8000000
set_option maxRecDepth 100000
namespace Go.Proofs.Yy.PTx
open Go.RowKit Go.Proofs.Yy.Z Go.Proofs.Yw.PrintWords Go.Proofs.Yw.PrintLast Go.Proofs.Yw.PrintMore
open Go.Proofs.Yy.M
attribute [local go_sem] runx_add64 runx_sub64 eql_cc eql_nc neq_cc neq_nc
attribute [local go_sem] max2_int min2_int max_two min_two max_three min_three max_four min_four
def vernierlaw19_shown.f (k:Nat)  : Option (Bool):=(text_Parse.f k 8 (⟨#[49,56,46,48,48,48,48,48,48,48,48,48,48,48,48,48,48,48,49]⟩:ByteArray)).bind fun bt664=>((text_Parse.f k 8 (⟨#[49,56]⟩:ByteArray)).bind fun bt666=>((text_Exact.f k 8 1).bind fun bt668=>((text_Short.f k 8 127).bind fun bt670=>(if bt664.1=97 then (if bt664.2.isNone=true then (if bt666.1=96 then (if bt666.2.isNone=true then (if bt668.1.toList=([53,46,57,54,48,52,54,52,52,55,55,53,51,57,48,54,50,53,101,45,56]:List UInt8) then (if bt668.2.isNone=true then (if bt670.1.toList=([50,48,48,48,48,48,48,48]:List UInt8) then (if bt670.2.isNone=true then (some true) else (some false)) else (some false)) else (some false)) else (some false)) else (some false)) else (some false)) else (some false)) else (some false)))))
theorem vernierlaw19_shown.mono:∀ k,LeO (vernierlaw19_shown.f k ) (vernierlaw19_shown.f (k+1) ):=by
  intro  k
  unfold vernierlaw19_shown.f
  repeat' (with_reducible first|exact text_Exact.mono _ _ _|exact text_Parse.mono _ _ _|exact text_Short.mono _ _ _|exact zm|exact zv|refine zI ?_ ?_|refine zO ?_ fun _=>?_)
theorem vernierlaw19_shown.calls (k:Nat)  (r:Bool) (w:World) (h:vernierlaw19_shown.f k  = some r) (htab:Fx.Laid w:=by exact Fx.Laid.below HTAB.out (by repeat (first|(with_reducible first|exact HB.out|apply below_alloc|apply pw_below_drewN|apply below_drew1|refine below_set ?_ (Aside0.out (by assumption)))|exact HB.out))) :
    Calls Tryz.prog 12 #[] w fun e w'=>e = .returned (.bool r)∧Below w.heap.size w w':=by
 have HTAB:=am htab
 clear htab
 have HRT:Aside0 (r=true):=⟨Option.some.inj ((at_rounds vernierlaw19_shown.mono (Nat.le_max_left k 40) h).symm.trans (at_rounds vernierlaw19_shown.mono (Nat.le_max_right k 40) (show vernierlaw19_shown.f 40=some true by decide +kernel)))⟩
 have hu27:=Tryz.underlying27
 have hu64:=Tryz.underlying64
 have HB:=am (Below.refl w.heap.size w)
 have H:=am h
 unfold vernierlaw19_shown.f at H
 clear h
 replace H:=zo H
 obtain ⟨⟨t664,t665⟩,A1,H⟩:=H
 try dsimp only at H
 replace H:=zo H
 obtain ⟨⟨t666,t667⟩,A2,H⟩:=H
 try dsimp only at H
 replace H:=zo H
 obtain ⟨⟨t668,t669⟩,A3,H⟩:=H
 try dsimp only at H
 replace H:=zo H
 obtain ⟨⟨t670,t671⟩,A4,H⟩:=H
 try dsimp only at H
 replace H:=zsk H
 rcases H with ⟨c5b0,c5b1,H⟩|⟨c5b0,c5b1,c5,H⟩
 ·rcases t665 with _|q672
  ·replace H:=zb1 H
   try simp only [errW_none,errW_some]
   replace H:=zsk H
   rcases H with ⟨c6b0,c6b1,H⟩|⟨c6b0,c6b1,c6,H⟩
   ·rcases t667 with _|q673
    ·replace H:=zb1 H
     try simp only [errW_none,errW_some]
     replace H:=zsk H
     rcases H with ⟨c7b0,c7b1,H⟩|⟨c7b0,c7b1,c7,H⟩
     ·rcases t669 with _|q674
      ·replace H:=zb1 H
       try simp only [errW_none,errW_some]
       replace H:=zsk H
       rcases H with ⟨c8b0,c8b1,H⟩|⟨c8b0,c8b1,c8,H⟩
       ·rcases t671 with _|q675
        ·replace H:=zb1 H
         try simp only [errW_none,errW_some]
         clear HRT
         obtain rfl:=Option.some.inj H.out
         go_enter Tryz.func12,Tryz.ntmps12
         go_wp2_with (first|((with_reducible refine gate_callee (f:=24) rfl ?_);refine zc (some 10) Tryz.func24 _ (text_Parse.calls _ _ _ _ _ _ A1.out) ?_;rintro e w9 ⟨rfl,hb⟩;refine ⟨_,rfl,?_⟩;replace HB:=zBs HB hb;clear hb;(try simp only [errW_none,errW_some]))|((with_reducible refine gate_callee (f:=24) rfl ?_);refine zc (some 14) Tryz.func24 _ (text_Parse.calls _ _ _ _ _ _ A2.out) ?_;rintro e w10 ⟨rfl,hb⟩;refine ⟨_,rfl,?_⟩;replace HB:=zBs HB hb;clear hb;(try simp only [errW_none,errW_some]))|((with_reducible refine gate_callee (f:=17) rfl ?_);refine zc (some 18) Tryz.func17 _ (text_Exact.calls _ _ _ _ _ _ A3.out) ?_;rintro e w11 ⟨rfl,hb⟩;refine ⟨_,rfl,?_⟩;replace HB:=zBs HB hb;clear hb;(try simp only [errW_none,errW_some]))|((with_reducible refine gate_callee (f:=20) rfl ?_);refine zc (some 22) Tryz.func20 _ (text_Short.calls _ _ _ _ _ _ A4.out) ?_;rintro e w12 ⟨rfl,hb⟩;refine ⟨_,rfl,?_⟩;replace HB:=zBs HB hb;clear hb;(try simp only [errW_none,errW_some])))
         go_ret
         exact ⟨z2,zB HB⟩
        replace H:=zb0 H
        try simp only [Option.getD_some] at H
        try simp only [errW_none,errW_some]
        exact absurd (Option.some.inj H.out) (by rw [HRT.out];decide)
       exact absurd (Option.some.inj H.out) (by rw [HRT.out];decide)
      replace H:=zb0 H
      try simp only [Option.getD_some] at H
      try simp only [errW_none,errW_some]
      exact absurd (Option.some.inj H.out) (by rw [HRT.out];decide)
     exact absurd (Option.some.inj H.out) (by rw [HRT.out];decide)
    replace H:=zb0 H
    try simp only [Option.getD_some] at H
    try simp only [errW_none,errW_some]
    exact absurd (Option.some.inj H.out) (by rw [HRT.out];decide)
   exact absurd (Option.some.inj H.out) (by rw [HRT.out];decide)
  replace H:=zb0 H
  try simp only [Option.getD_some] at H
  try simp only [errW_none,errW_some]
  exact absurd (Option.some.inj H.out) (by rw [HRT.out];decide)
 exact absurd (Option.some.inj H.out) (by rw [HRT.out];decide)
end Go.Proofs.Yy.PTx
end
section
namespace Go.Proofs.Yy.PTx
open Go.RowKit Go.Proofs.Yw.PrintWords Go.Proofs.Yw.PrintLast Go.Proofs.Yw.PrintMore Go.Proofs.Yy.M Go.Proofs.Yy.TA Go.Proofs.Yy.NM
attribute [local irreducible] add64Lo add64Hi sub64Lo sub64Hi val
theorem pw2c (n:Nat):pw 2 n=((2 ^ n:Nat):Int):=by rw [pw_def,Int.natCast_pow];rfl
theorem bl_of {V b:Nat} (h1:V<2 ^ b) (h2:b≠0→2 ^ (b - 1)≤V):bl (V:Int)=b:=by
 apply Nat.le_antisymm
 ·exact bl_le (by rw [pw2c];exact_mod_cast h1)
 ·by_cases h:b=0
  ·omega
  ·have:=(bl_lt (A:=(V:Int)) (by omega) (b - 1)).2 (by rw [pw2c];exact_mod_cast Nat.div_pos (h2 h) (two_pos _))
   omega
theorem hi_mul (t:Nat):hiI (t * 2 ^ 64)=(t:Int):=by unfold hiI;rw [Nat.mul_div_cancel _ (two_pos _)]
theorem lo_mul (t:Nat):loI (t * 2 ^ 64)=0:=by unfold loI;rw [Nat.mul_mod_left];rfl
theorem top_bits {V b:Nat} (hb1:1≤b) (h1:V<2 ^ b) (h2:2 ^ (b - 1)≤V):V / 2 ^ (b - 64)<2 ^ min b 64∧2 ^ (min b 64 - 1)≤V / 2 ^ (b - 64):=by
 have e1:2 ^ b=2 ^ min b 64 * 2 ^ (b - 64):=by rw [← Nat.pow_add];congr 1;omega
 have e2:2 ^ (b - 1)=2 ^ (min b 64 - 1) * 2 ^ (b - 64):=by rw [← Nat.pow_add];congr 1;omega
 rw [e1] at h1
 rw [e2] at h2
 exact ⟨(Nat.div_lt_iff_lt_mul (two_pos _)).2 h1,(Nat.le_div_iff_mul_le (two_pos _)).2 h2⟩
def topT (V b:Nat):Nat:=V / 2 ^ (b - 64) * 2 ^ 64 * 2 ^ (64 - min b 64)
theorem topT_hi (V b:Nat):topT V b / 2 ^ 64=V / 2 ^ (b - 64) * 2 ^ (64 - min b 64)∧topT V b % 2 ^ 64=0:=by
 have e:topT V b=V / 2 ^ (b - 64) * 2 ^ (64 - min b 64) * 2 ^ 64:=by unfold topT;rw [Nat.mul_right_comm]
 rw [e]
 exact ⟨Nat.mul_div_cancel _ (two_pos _),Nat.mul_mod_left _ _⟩
theorem topT_bounds {V b:Nat} (hb1:1≤b) (h1:V<2 ^ b) (h2:2 ^ (b - 1)≤V):2 ^ 127≤topT V b∧topT V b<2 ^ 128:=by
 obtain ⟨q1,q2⟩:=top_bits hb1 h1 h2
 have e1:(2:Nat) ^ 128=2 ^ min b 64 * 2 ^ 64 * 2 ^ (64 - min b 64):=by rw [← Nat.pow_add, ← Nat.pow_add];congr 1;omega
 have e2:(2:Nat) ^ 127=2 ^ (min b 64 - 1) * 2 ^ 64 * 2 ^ (64 - min b 64):=by rw [← Nat.pow_add, ← Nat.pow_add];congr 1;omega
 unfold topT
 rw [e1,e2]
 exact ⟨Nat.mul_le_mul_right _ (Nat.mul_le_mul_right _ q2),Nat.mul_lt_mul_of_pos_right (Nat.mul_lt_mul_of_pos_right q1 (two_pos _)) (two_pos _)⟩
theorem upper_ev {a:List Int} (ha:Dig B a) (hL:a.length≤1073741824) {V b:Nat} (hV:val B a=(V:Int)) (hb1:1≤b) (h1:V<2 ^ b) (h2:2 ^ (b - 1)≤V) (neg c:Bool) (hc:c=true→64≤b) (hbb:b≤500000) {x:Int} (hx1 : -400000≤x) (hx2:x≤400000) :
  Ev (fun k=>text_upper.f k neg a x c) (1,neg,x+b - 1,hiI (topT V b),loI (topT V b),(c || decide (V % 2 ^ (b - 64)≠0)),none):=by
 obtain ⟨q1,q2⟩:=top_bits hb1 h1 h2
 have hu:under (val B a) 64=b - 64:=by unfold under;rw [hV,bl_of h1 (fun _=>h2)]
 have ht:=nTop_ev ha hL 64 (by decide) (Nat.le_refl _)
 rw [hu,hV,pw2c] at ht
 have e1:((V:Int) / ((2 ^ (b - 64):Nat):Int)) % B=((V / 2 ^ (b - 64):Nat):Int):=by
  rw [← Int.natCast_ediv,Bdef]
  have:V / 2 ^ (b - 64)<2 ^ 64:=Nat.lt_of_lt_of_le q1 (Nat.pow_le_pow_right (by omega) (Nat.min_le_right _ _))
  rw [p64] at this
  obtain ⟨y,hy⟩:∃ y,V / 2 ^ (b - 64)=y:=⟨_,rfl⟩
  rw [hy] at this ⊢
  clear hy q1 q2 h1 h2
  omega
 have e2:decide ((V:Int) % ((2 ^ (b - 64):Nat):Int)≠0)=decide (V % 2 ^ (b - 64)≠0):=by
  rw [← Int.natCast_emod]
  exact decide_eq_decide.2 (by omega)
 rw [e1,e2] at ht
 have hmk:∀ c':Bool,(c'=true→min b 64=64)→Ev (fun k=>round_Make.f k neg ((V / 2 ^ (b - 64):Nat):Int) 0 (x+((b - 64:Nat):Int) - 64) c') (1,neg,x+b - 1,hiI (topT V b),loI (topT V b),c',none):=by
  intro c' hc'
  have h:=Make_ev (V:=V / 2 ^ (b - 64) * 2 ^ 64) (b:=min b 64+64) (by omega) (by omega) (by rw [Nat.pow_add];exact Nat.mul_lt_mul_of_pos_right q1 (two_pos _))
   (by rw [show min b 64+64 - 1=(min b 64 - 1)+64 by omega,Nat.pow_add];exact Nat.mul_le_mul_right _ q2) neg c' (fun h=>by have:=hc' h;omega) (x:=x+((b - 64:Nat):Int) - 64) (by omega) (by omega)
  rw [hi_mul,lo_mul,show x+((b - 64:Nat):Int) - 64+((min b 64+64:Nat):Int) - 1=x+b - 1 by omega,show 128 - (min b 64+64)=64 - min b 64 by omega] at h
  exact h
 unfold text_upper.f
 refine Ev.bind ht ?_
 simp only [Option.isNone_none,if_true]
 rw [tw64 (x:=x+((b - 64:Nat):Int)) (by omega) (by omega),tw64 (by omega) (by omega)]
 by_cases hs:V % 2 ^ (b - 64)≠0
 ·have hb64:min b 64=64:=by
   apply Nat.min_eq_right
   apply Nat.le_of_not_lt
   intro h
   rw [show b - 64=0 by omega,Nat.pow_zero,Nat.mod_one] at hs
   exact hs rfl
  rw [decide_eq_true hs,Bool.or_true]
  simp only [if_true]
  exact Ev.bind (hmk true (fun _=>hb64)) (Ev.now _)
 ·rw [decide_eq_false hs,Bool.or_false]
  simp only [Bool.false_eq_true,if_false]
  exact Ev.bind (hmk c (fun h=>by have:=hc h;omega)) (Ev.now _)
end Go.Proofs.Yy.PTx
end
section
namespace Go.Proofs.Yy.PTx
open Go.RowKit Go.Proofs.Yw.PrintWords Go.Proofs.Yw.PrintLast Go.Proofs.Yw.PrintMore Go.Proofs.Yy.M Go.Proofs.Yy.TA
open Go.Proofs.Yy.SC (D)
theorem rep_top {N C u q r b:Nat} (hC:0<C) (hq:N * 2 ^ u=C * q+r) (hr:r<C) (hb1:1≤b) (h1:q<2 ^ b) (h2:2 ^ (b - 1)≤q) (h:r≠0→64≤b) :
  Rep N C (-(u:Int)+b - 1) (topT q b / 2 ^ 64) ((decide (r≠0) || decide (q % 2 ^ (b - 64)≠0)) || decide (topT q b % 2 ^ 64≠0)):=by
 rw [(topT_hi q b).1,(topT_hi q b).2,show -(u:Int)+b - 1=(b:Int) - 1 - u by omega]
 by_cases hb:64≤b
 ·have e:=Rep.ofQ hC hq hr h2 h1 hb
  rw [Nat.min_eq_right hb,Nat.sub_self,Nat.pow_zero,Nat.mul_one]
  rw [Bool.or_comm] at e
  simpa using e
 ·have hr0:r=0:=by
   apply Classical.byContradiction
   intro h3
   exact hb (h h3)
  subst hr0
  have e:=Rep.ofE hC (by rw [hq,Nat.add_zero]) h2 h1 hb1 (by omega)
  rw [show b - 64=0 by omega,Nat.pow_zero,Nat.mod_one,Nat.div_one,Nat.min_eq_left (by omega)]
  simpa using e
theorem posC_top {n N C u q r b:Nat} (hn:8≤n) (hn2:n≤64) (hC:0<C) (hq:N * 2 ^ u=C * q+r) (hr:r<C) (hb1:1≤b) (h1:q<2 ^ b) (h2:2 ^ (b - 1)≤q) (h:r≠0→64≤b) :
  posC n (-(u:Int)+b - 1) (topT q b) (decide (r≠0) || decide (q % 2 ^ (b - 64)≠0))=pos n (scl N C) N C:=by
 have e:=rep_top hC hq hr hb1 h1 h2 h
 rw [posC_pos hn hn2 (topT_bounds hb1 h1 h2).1 e,pos_rep e]
theorem posC_far {n:Nat} (hn:8≤n) (hn2:n≤64) (T:Nat) (c:Bool):posC n 1000 T c=2 ^ (n - 1) - 1∧posC n (-1000) T c=1:=by
 have:=top_le hn2
 have h8:0≤top n:=by unfold top;omega
 unfold posC
 exact ⟨by rw [if_pos (by omega)],by rw [if_neg (by omega),if_pos (by omega)]⟩
theorem numL_lt:∀ (l:List UInt8) (a:Nat),(∀ c ∈ l,48≤c.toNat∧c.toNat≤57)→l.foldl (fun a c=>a * 10+(c.toNat - 48)) a<(a+1) * 10 ^ l.length
 | [],a,_=>by simp
 | c :: l,a,h=>by
  have h1:=h c (List.mem_cons_self ..)
  have ih:=numL_lt l (a * 10+(c.toNat - 48)) (fun x hx=>h x (List.mem_cons_of_mem _ hx))
  rw [List.foldl_cons,List.length_cons,Nat.pow_succ]
  refine Nat.lt_of_lt_of_le ih ?_
  rw [Nat.mul_comm (10 ^ l.length) 10, ← Nat.mul_assoc]
  exact Nat.mul_le_mul_right _ (by omega)
theorem numL_ge:∀ (l:List UInt8) (a:Nat),a * 10 ^ l.length≤l.foldl (fun a c=>a * 10+(c.toNat - 48)) a
 | [],a=>by simp
 | c :: l,a=>by
  have ih:=numL_ge l (a * 10+(c.toNat - 48))
  rw [List.foldl_cons,List.length_cons,Nat.pow_succ]
  refine Nat.le_trans ?_ ih
  rw [Nat.mul_comm (10 ^ l.length) 10, ← Nat.mul_assoc]
  exact Nat.mul_le_mul_right _ (by omega)
theorem numL_head {c:UInt8} {l:List UInt8} (hc:49≤c.toNat):10 ^ l.length≤numL (c :: l):=by
 have h:=numL_ge l (0 * 10+(c.toNat - 48))
 unfold numL
 rw [List.foldl_cons]
 refine Nat.le_trans ?_ h
 exact Nat.le_mul_of_pos_left _ (by omega)
theorem posD_high {n:Nat} (hn:n≤64) {d:D} {c:UInt8} {l:List UInt8} (hd:d.ds=c :: l) (hc:49≤c.toNat) (h:(101:Int)≤d.ds.length+d.e):posD n d=2 ^ (n - 1) - 1:=by
 unfold posD
 refine pos_high hn (denD_pos d) ?_
 have h1:=numL_head (l:=l) hc
 rw [← hd] at h1
 have hl:d.ds.length=l.length+1:=by rw [hd];rfl
 have h100:(2:Nat) ^ 248≤10 ^ 100:=by decide +kernel
 unfold numD denD
 have e1:10 ^ 100 * 10 ^ (-d.e).toNat≤10 ^ l.length * 10 ^ d.e.toNat:=by
  rw [← Nat.pow_add, ← Nat.pow_add]
  exact Nat.pow_le_pow_right (by decide) (by omega)
 exact Nat.le_trans (Nat.mul_le_mul_right _ h100) (Nat.le_trans e1 (Nat.mul_le_mul_right _ h1))
theorem posD_low {n:Nat} (hn1:2≤n) (hn:n≤64) {d:D} {c:UInt8} {l:List UInt8} (hd:d.ds=c :: l) (hc:49≤c.toNat) (hg:∀ c ∈ d.ds,48≤c.toNat∧c.toNat≤57) (h:d.ds.length+d.e ≤ -101):posD n d=1:=by
 have h1:=numL_head (l:=l) hc
 rw [← hd] at h1
 have h2:=numL_lt d.ds 0 hg
 rw [Nat.zero_add,Nat.one_mul] at h2
 have h3:numL d.ds<10 ^ d.ds.length:=h2
 have hp:=Nat.pow_pos (a:=10) (n:=l.length) (by decide)
 have h249:(2:Nat) ^ 249≤10 ^ 101:=by decide +kernel
 unfold posD
 refine pos_low hn1 hn ?_ ?_
 ·unfold numD
  exact Nat.mul_pos (by omega) (Nat.pow_pos (by decide))
 ·unfold numD denD
  rw [show d.e.toNat=0 by omega,Nat.pow_zero,Nat.mul_one]
  have e1:10 ^ d.ds.length * 10 ^ 101≤10 ^ (-d.e).toNat:=by
   rw [← Nat.pow_add]
   exact Nat.pow_le_pow_right (by decide) (by omega)
  exact Nat.le_trans (Nat.mul_le_mul (Nat.le_of_lt h3) h249) e1
end Go.Proofs.Yy.PTx
end
section
namespace Go.Proofs.Yy.PTx
open Go.RowKit Go.Proofs.Yw.PrintWords Go.Proofs.Yw.PrintLast Go.Proofs.Yw.PrintMore Go.Proofs.Yy.M Go.Proofs.Yy.TA Go.Proofs.Yy.NM
open Go.Proofs.Yy.SC (D)
attribute [local irreducible] add64Lo add64Hi sub64Lo sub64Hi val
theorem pw10c (n:Nat):pw 10 n=((10 ^ n:Nat):Int):=by rw [pw_def,Int.natCast_pow];rfl
theorem numF_numL (l:List UInt8):numF 0 l=numL l:=rfl
theorem bits_of {V:Nat} (h:0<V):∃ b,1≤b∧V<2 ^ b∧2 ^ (b - 1)≤V∧bl (V:Int)=b:=by
 refine ⟨V.log2+1,by omega,Nat.lt_log2_self,?_,?_⟩
 ·rw [Nat.add_sub_cancel];exact Nat.log2_self_le (by omega)
 ·exact bl_of Nat.lt_log2_self (fun _=>by rw [Nat.add_sub_cancel];exact Nat.log2_self_le (by omega))
theorem bits_le {V b m:Nat} (hb1:1≤b) (h2:2 ^ (b - 1)≤V) (h:V<2 ^ m):b≤m:=by
 apply Nat.le_of_not_lt
 intro hc
 have:2 ^ m≤2 ^ (b - 1):=Nat.pow_le_pow_right (by omega) (by omega)
 omega
theorem ten_lt (k:Nat):10 ^ k<2 ^ (4 * k+1):=by
 have h:10 ^ k≤16 ^ k:=Nat.pow_le_pow_left (by omega) k
 rw [show (16:Nat)=2 ^ 4 by rfl, ← Nat.pow_mul] at h
 have:2 ^ (4 * k)<2 ^ (4 * k+1):=Nat.pow_lt_pow_right (by omega) (by omega)
 omega
theorem pow_up {a m n:Nat} (h1:a<2 ^ m) (h2:m≤n):a<2 ^ n:=Nat.lt_of_lt_of_le h1 (Nat.pow_le_pow_right Nat.two_pos h2)
theorem pow_two {a c m n k:Nat} (h1:a<2 ^ m) (h2:c<2 ^ n) (h3:m+n=k):a * c<2 ^ k:=by
 rw [← h3,Nat.pow_add]
 exact Nat.mul_lt_mul_of_lt_of_lt h1 h2
def Told (f:Nat→Option (Int × Bool × Int × Int × Int × Bool × Option Int)) (d:D):Prop :=
 ∃ (s:Int) (T:Nat) (c:Bool), -1000000≤s∧s≤1000000∧2 ^ 127≤T∧T<2 ^ 128∧Ev f (1,d.neg,s,hiI T,loI T,c,none) ∧ ∀ n,8≤n→n≤64→posC n s T c=posD n d
theorem far_make (neg:Bool) {x:Int} (h1 : -1000000≤x) (h2:x≤1000000):Ev (fun k=>round_Make.f k neg 0 1 x false) (1,neg,x,hiI (2 ^ 127),loI (2 ^ 127),false,none):=by
 have h:=Make_ev (V:=1) (b:=1) (Nat.le_refl _) (by decide) (by decide) (by decide) neg false (by simp) h1 h2
 rw [show hiI 1=0 by rfl,show loI 1=1 by rfl,show x+((1:Nat):Int) - 1=x by omega,Nat.one_mul] at h
 exact h
theorem nn_dig {v:Nat}:Dig B (enc B (v:Int)):=dig_enc' B1 _
theorem nn_val {v:Nat}:val B (enc B (v:Int))=(v:Int):=val_enc' B1 (Int.natCast_nonneg v)
theorem nn_len {v m:Nat} (h:v<2 ^ (64 * m)):(enc B (v:Int)).length≤m:=penc_len B1 (by rw [pwB,pw2c];exact_mod_cast h)
theorem exact_ev {d:D} (hn:d.nar=false) {c0:UInt8} {l0:List UInt8} (hd:d.ds=c0 :: l0) (hc0:49≤c0.toNat) (hg:∀ c ∈ d.ds,48≤c.toNat∧c.toNat≤57) (hl:d.ds.length≤4096) (he1 : -1000000≤d.e) (he2:d.e≤1000000) :
  Told (fun k=>text_exact.f k d.nar d.neg (mkB d.ds) d.e) d:=by
 have hl1:d.ds.length=l0.length+1:=by rw [hd];rfl
 obtain ⟨A_,hA_⟩:∃ x:Nat,x=260:=⟨_,rfl⟩
 obtain ⟨T_,hT_⟩:∃ x:Nat,x=270:=⟨_,rfl⟩
 obtain ⟨U_,hU_⟩:∃ x:Nat,x=340:=⟨_,rfl⟩
 obtain ⟨S_,hS_⟩:∃ x:Nat,x=600:=⟨_,rfl⟩
 obtain ⟨X_,hX_⟩:∃ x:Nat,x=10:=⟨_,rfl⟩
 have hsz:((mkB d.ds).size:Int)=d.ds.length:=by rw [mkB_size]
 by_cases h1:(100:Int)<d.ds.length+d.e
 ·refine ⟨1000,2 ^ 127,false,by omega,by omega,by decide,by decide,?_,fun n h8 h64=>by rw [(posC_far h8 h64 _ _).1,posD_high h64 hd hc0 (by omega)]⟩
  unfold text_exact.f
  rw [hsz,tw64 (by omega) (by omega)]
  simp only [show (d.ds.length:Int)+d.e > 100 from h1,if_true]
  exact Ev.bind (far_make _ (by omega) (by omega)) (Ev.now _)
 by_cases h2:(d.ds.length:Int)+d.e < -100
 ·refine ⟨-1000,2 ^ 127,false,by omega,by omega,by decide,by decide,?_,fun n h8 h64=>by rw [(posC_far h8 h64 _ _).2,posD_low (by omega) h64 hd hc0 hg (by omega)]⟩
  unfold text_exact.f
  rw [hsz,tw64 (by omega) (by omega)]
  simp only [show ¬ ((d.ds.length:Int)+d.e > 100) by omega,show (d.ds.length:Int)+d.e < -100 from h2,if_true,if_false]
  exact Ev.bind (far_make _ (by omega) (by omega)) (Ev.now _)
 have hdg:∀ c ∈ d.ds,dgt c=true:=fun c hc=>by unfold dgt;rw [decide_eq_true (hg c hc).1,decide_eq_true (hg c hc).2];rfl
 have hread:=nRead_ev hdg (by rw [hd];simp) hl
 rw [numF_numL] at hread
 have hm0:0<numL d.ds:=by
  have:=numL_head (l:=l0) hc0
  rw [← hd] at this
  have:=Nat.pow_pos (a:=10) (n:=l0.length) (by decide)
  omega
 have hmlt:numL d.ds<2 ^ (64 * A_):=by
  have h3:=numL_lt d.ds 0 hg
  rw [Nat.zero_add,Nat.one_mul] at h3
  have h4:numL d.ds<10 ^ d.ds.length:=h3
  have h5:=ten_lt d.ds.length
  exact pow_up (Nat.lt_trans h4 h5) (by omega)
 by_cases he:0≤d.e
 ·obtain ⟨k,hk⟩:=Int.eq_ofNat_of_zero_le he
  have hk99:k≤99:=by omega
  have hmx:mx d.e (wrap64 (-d.e))=(k:Int):=by rw [tw64 (by omega) (by omega)];unfold mx;split <;> omega
  have hten:=nTen_ev k (by omega)
  rw [pw10c] at hten
  have hV:numD d=numL d.ds * 10 ^ k:=by unfold numD;rw [hk,Int.toNat_natCast]
  have hC:denD d=1:=by unfold denD;rw [show (-d.e).toNat=0 by omega,Nat.pow_zero]
  have hp:=Nat.pow_pos (a:=10) (n:=k) (by decide)
  have hV0:0<numD d:=by rw [hV];exact Nat.mul_pos hm0 hp
  have htlt:10 ^ k<2 ^ (64 * X_):=pow_up (ten_lt k) (by omega)
  have hVlt:numD d<2 ^ (64 * T_):=by
   rw [hV]
   exact pow_two hmlt htlt (by omega)
  have hmul:Ev (fun n=>nat_Mul.f n [enc B (numL d.ds:Int),enc B ((10 ^ k:Nat):Int)]) (enc B (numD d:Int)):=by
   have h:=Mul_ev (l := [enc B (numL d.ds:Int),enc B ((10 ^ k:Nat):Int)]) (by intro x hx;simp only [List.mem_cons,List.mem_nil_iff,or_false] at hx;rcases hx with rfl|rfl <;> exact nn_dig) (by
    have a1:=nn_len hmlt
    have a2:=nn_len htlt
    simp only [List.map_cons,List.map_nil,List.sum_cons,List.sum_nil,List.length_cons,List.length_nil]
    omega)
   unfold prodV at h
   simp only [List.foldl_cons,List.foldl_nil,nn_val,Int.one_mul] at h
   rw [← Int.natCast_mul, ← hV] at h
   exact h
  obtain ⟨b,hb1,hb2,hb3,_⟩:=bits_of hV0
  have hbb:=bits_le hb1 hb3 hVlt
  have hup:=upper_ev (a:=enc B (numD d:Int)) nn_dig (Nat.le_trans (nn_len hVlt) (by omega)) nn_val hb1 hb2 hb3 d.neg false (by simp) (by omega) (x:=0) (by omega) (by omega)
  obtain ⟨t1,t2⟩:=topT_bounds hb1 hb2 hb3
  refine ⟨0+b - 1,topT (numD d) b,false || decide (numD d % 2 ^ (b - 64)≠0),by omega,by omega,t1,t2,?_,fun n h8 h64=>?_⟩
  ·unfold text_exact.f
   rw [hsz,tw64 (by omega) (by omega)]
   simp only [show ¬ ((d.ds.length:Int)+d.e > 100) by omega,show ¬ ((d.ds.length:Int)+d.e < -100) by omega,if_false,hmx]
   refine Ev.bind hread ?_
   simp only [Option.isNone_none,if_true]
   refine Ev.bind hten ?_
   simp only [Option.isNone_none,if_true,show d.e ≥ 0 from he]
   refine Ev.bind hmul ?_
   exact Ev.bind hup (Ev.now _)
  ·have h:=posC_top (n:=n) (N:=numD d) (C:=denD d) (u:=0) (q:=numD d) (r:=0) (b:=b) h8 h64 (denD_pos d) (by rw [hC];simp) (denD_pos d) hb1 hb2 hb3 (by simp)
   unfold posD
   rw [← h]
   rfl
 ·obtain ⟨k,hk⟩:=Int.eq_ofNat_of_zero_le (show 0 ≤ -d.e by omega)
  have hk1:k≤4196:=by omega
  have hmx:mx d.e (wrap64 (-d.e))=(k:Int):=by rw [tw64 (by omega) (by omega)];unfold mx;split <;> omega
  have hten:=nTen_ev k (by omega)
  rw [pw10c] at hten
  have hN:numD d=numL d.ds:=by unfold numD;rw [show d.e.toNat=0 by omega,Nat.pow_zero,Nat.mul_one]
  have hC:denD d=10 ^ k:=by unfold denD;rw [hk,Int.toNat_natCast]
  have hp:=Nat.pow_pos (a:=10) (n:=k) (by decide)
  have htlt:10 ^ k<2 ^ (64 * T_):=pow_up (ten_lt k) (by omega)
  obtain ⟨bm,m1,m2,m3,m4⟩:=bits_of hm0
  obtain ⟨bt_,t1,t2,t3,t4⟩:=bits_of hp
  have bm1:=bits_le m1 m3 hmlt
  have bt1:=bits_le t1 t3 htlt
  obtain ⟨up,hup⟩:∃ up,bt_+66 - bm=up:=⟨_,rfl⟩
  have humx:mx 0 (wrap64 (wrap64 ((bt_:Int) - (bm:Int))+66))=(up:Int):=by
   rw [tw64 (x:=(bt_:Int) - (bm:Int)) (by omega) (by omega),tw64 (by omega) (by omega)]
   unfold mx
   split <;> omega
  have hbt:=nBits_ev (a:=enc B ((10 ^ k:Nat):Int)) nn_dig (Nat.le_trans (nn_len htlt) (by omega))
  have hbm:=nBits_ev (a:=enc B (numL d.ds:Int)) nn_dig (Nat.le_trans (nn_len hmlt) (by omega))
  rw [nn_val,t4] at hbt
  rw [nn_val,m4] at hbm
  have hshl:=nShl_ev (a:=enc B (numL d.ds:Int)) nn_dig (Nat.le_trans (nn_len hmlt) (by omega)) up (by omega)
  rw [nn_val,pw2c, ← Int.natCast_mul] at hshl
  have hnlt:numL d.ds * 2 ^ up<2 ^ (64 * S_):=by
   have h3:2 ^ up<2 ^ (up+1):=by rw [Nat.pow_succ];have:=two_pos up;omega
   exact pow_two hmlt (pow_up (n:=64 * U_) h3 (by omega)) (by omega)
  have hdiv:=nDiv_ev (a:=enc B ((numL d.ds * 2 ^ up:Nat):Int)) (b:=enc B ((10 ^ k:Nat):Int)) nn_dig nn_dig (Nat.le_trans (nn_len hnlt) (by omega)) (Nat.le_trans (nn_len htlt) (by omega)) (by rw [nn_val];omega)
  rw [nn_val,nn_val, ← Int.natCast_ediv, ← Int.natCast_emod] at hdiv
  obtain ⟨q,hq⟩:∃ q,numL d.ds * 2 ^ up / 10 ^ k=q:=⟨_,rfl⟩
  obtain ⟨r,hr⟩:∃ r,numL d.ds * 2 ^ up % 10 ^ k=r:=⟨_,rfl⟩
  have hqr:numL d.ds * 2 ^ up=10 ^ k * q+r:=by rw [← hq, ← hr];exact (Nat.div_add_mod _ _).symm
  have hrlt:r<10 ^ k:=by rw [← hr];exact Nat.mod_lt _ hp
  rw [hq,hr] at hdiv
  have hq65:2 ^ 65≤q:=by
   rw [← hq,Nat.le_div_iff_mul_le hp]
   have e1:2 ^ 65 * 10 ^ k≤2 ^ 65 * 2 ^ bt_:=Nat.mul_le_mul_left _ (Nat.le_of_lt t2)
   have e2:2 ^ 65 * 2 ^ bt_≤2 ^ (bm - 1) * 2 ^ up:=by
    rw [← Nat.pow_add, ← Nat.pow_add]
    exact Nat.pow_le_pow_right (by omega) (by omega)
   exact Nat.le_trans e1 (Nat.le_trans e2 (Nat.mul_le_mul_right _ m3))
  obtain ⟨b,hb1,hb2,hb3,_⟩:=bits_of (V:=q) (by omega)
  have hb64:64≤b:=by
   apply Nat.le_of_not_lt
   intro hc
   have:2 ^ b≤2 ^ 64:=Nat.pow_le_pow_right (by omega) (by omega)
   omega
  have hqlt:q<2 ^ (64 * S_):=Nat.lt_of_le_of_lt (by rw [← hq];exact Nat.div_le_self _ _) hnlt
  have hbb:=bits_le hb1 hb3 hqlt
  have hrest:decide (((enc B (r:Int)).length:Int) > 0)=decide (r≠0):=by
   apply decide_eq_decide.2
   constructor
   ·intro h h0
    rw [h0] at h
    rw [show ((0:Nat):Int)=0 by rfl,enc_zero] at h
    exact absurd h (by decide)
   ·intro h
    have:=enc_pos_len B1 (n:=(r:Int)) (by omega)
    omega
  have hup2:=upper_ev (a:=enc B (q:Int)) nn_dig (Nat.le_trans (nn_len hqlt) (by omega)) nn_val hb1 hb2 hb3 d.neg (decide (r≠0)) (fun _=>hb64) (by omega) (x := -(up:Int)) (by omega) (by omega)
  obtain ⟨tt1,tt2⟩:=topT_bounds hb1 hb2 hb3
  refine ⟨-(up:Int)+b - 1,topT q b,decide (r≠0) || decide (q % 2 ^ (b - 64)≠0),by omega,by omega,tt1,tt2,?_,fun n h8 h64=>?_⟩
  ·unfold text_exact.f
   rw [hsz,tw64 (by omega) (by omega)]
   simp only [show ¬ ((d.ds.length:Int)+d.e > 100) by omega,show ¬ ((d.ds.length:Int)+d.e < -100) by omega,if_false,hmx]
   refine Ev.bind hread ?_
   simp only [Option.isNone_none,if_true]
   refine Ev.bind hten ?_
   simp only [Option.isNone_none,if_true,show ¬ (d.e ≥ 0) from he,if_false]
   refine Ev.bind hbt ?_
   refine Ev.bind hbm ?_
   simp only [humx]
   refine Ev.bind hshl ?_
   simp only [Option.isNone_none,if_true]
   refine Ev.bind hdiv ?_
   simp only [Option.isNone_none,if_true,hrest]
   rw [tw64 (x := -(up:Int)) (by omega) (by omega)]
   exact Ev.bind hup2 (Ev.now _)
  ·have h:=posC_top (n:=n) (N:=numD d) (C:=denD d) (u:=up) (q:=q) (r:=r) (b:=b) h8 h64 (denD_pos d) (by rw [hC,hN];exact hqr) (by rw [hC];exact hrlt) hb1 hb2 hb3 (fun _=>hb64)
   unfold posD
   rw [← h]
end Go.Proofs.Yy.PTx
end
section
namespace Go.Proofs.Yy.PTx
open Go.RowKit Go.Proofs.Yw.PrintWords Go.Proofs.Yw.PrintLast Go.Proofs.Yw.PrintMore Go.Proofs.Yy.M Go.Proofs.Yy.TA Go.Proofs.Yy.NM Go.Proofs.Yy.SC
theorem decode0 {n:Nat} (hw:Wd n) (k:Nat):codec_Decode.f k (n:Int) 0=some (0,false,0,0,none):=by
 unfold codec_Decode.f
 have h:=Kind_spec hw 0 (Nat.two_pow_pos _)
 rw [show ((0:Nat):Int)=0 by rfl,Nat.zero_mod,if_pos rfl] at h
 rw [h]
 rfl
theorem dgs {l:List UInt8} (h:l.all dg=true):∀ c ∈ l,48≤c.toNat∧c.toNat≤57:=fun c hc=>by
 have:=List.all_eq_true.1 h c hc
 unfold dg at this
 simpa using this
theorem norm_digits {d:D} (hN:Norm d) (hn:d.nar=false) (h0:d.ds ≠ [48]):∃ c l,d.ds=c :: l∧49≤c.toNat∧(∀ c ∈ d.ds,48≤c.toNat∧c.toNat≤57)∧d.ds.length≤4096 ∧ -1000000≤d.e∧d.e≤1000000:=by
 rcases hN with h|⟨_,h1,h2,h3,h4,h5,h6⟩
 ·rw [h] at hn;exact absurd hn (by decide)
 rcases h6 with ⟨_,h7,_⟩|⟨h7,_⟩
 ·exact absurd h7 h0
 cases hd_:d.ds with
 | nil=>exact absurd hd_ h2
 | cons c l =>
  have hg:=dgs h1
  have hc:=hg c (by rw [hd_];exact List.mem_cons_self)
  refine ⟨c,l,rfl,?_,by rw [← hd_];exact hg,by rw [← hd_];exact h3,h4,h5⟩
  rw [hd_] at h7
  have:c≠48:=fun e=>by rw [e] at h7;simp [SC.hd] at h7
  have:c.toNat≠48:=fun e=>this (UInt8.toNat_inj.1 e)
  omega
theorem mkB_48 {l:List UInt8}:(mkB l).toList=([48]:List UInt8) ↔ l = [48]:=by rw [mkB_toList]
theorem pow_i {n:Nat} (hw:Wd n):shl .u64 1 (wrap64 ((n:Int) - 1))=((2 ^ (n - 1):Nat):Int)∧0≤wrap64 ((n:Int) - 1):=by
 obtain ⟨h8,h64⟩:=hw.bounds
 have hm:2 ^ (n - 1)<2 ^ 64:=Nat.pow_lt_pow_right (by omega) (by omega)
 rw [tw64 (by omega) (by omega),show ((n:Int) - 1)=((n - 1:Nat):Int) by omega]
 refine ⟨?_,Int.natCast_nonneg _⟩
 have h:=shl_nat 1 (n - 1)
 rw [Nat.one_mul,Nat.mod_eq_of_lt hm] at h
 exact h
theorem tOf_ev {n:Nat} (hw:Wd n) (d:D):Ev (fun k=>text_Of.f k (n:Int) d.nar d.neg (mkB d.ds) d.e) (if formed d=true then (((ofD n d:Nat):Int),none) else (0,some 23)):=by
 obtain ⟨h8,h64⟩:=hw.bounds
 refine Ev.congr (f:=fun k=>(scan_Norm.f d.nar d.neg (mkB d.ds) d.e).bind fun bt631=>(if bt631.2.2.2.2.isNone=true then (if bt631.1=true then (if 0≤(wrap64 ((n:Int) - 1)) then (some (shl .u64 1 (wrap64 ((n:Int) - 1)),none)) else (none)) else (if bt631.2.2.1.toList=([48]:List UInt8) then (some (0,none)) else ((text_exact.f k bt631.1 bt631.2.1 bt631.2.2.1 bt631.2.2.2.1).bind fun bt637=>(if bt637.2.2.2.2.2.2.isNone=true then ((round_Round.f k (n:Int) bt637.1 bt637.2.1 bt637.2.2.1 bt637.2.2.2.1 bt637.2.2.2.2.1 bt637.2.2.2.2.2.1).bind fun bt646=>(some (bt646.1,bt646.2))) else (some (0,some (bt637.2.2.2.2.2.2.getD 0))))))) else (some (0,some (bt631.2.2.2.2.getD 0))))) (fun k=>by unfold text_Of.f;rw [decode0 hw];rfl) ?_
 rw [scan_Norm_ev]
 by_cases hf:formed d=true
 ·simp only [if_pos hf,Option.bind_some,Option.isNone_none,if_true]
  have hN:=norm_nrm hf
  unfold ofD
  by_cases hnar:(nrm d).nar=true
  ·simp only [if_pos hnar]
   rw [(pow_i hw).1,if_pos (pow_i hw).2]
   exact Ev.now _
  ·simp only [if_neg hnar,mkB_48]
   by_cases h0:(nrm d).ds = [48]
   ·simp only [if_pos h0]
    exact Ev.now _
   ·simp only [if_neg h0]
    have hn:(nrm d).nar=false:=by simpa using hnar
    obtain ⟨c,l,e1,e2,e3,e4,e5,e6⟩:=norm_digits hN hn h0
    obtain ⟨s,T,c',s1,s2,t1,t2,hev,hpos⟩:=exact_ev hn e1 e2 e3 e4 e5 e6
    refine Ev.bind hev ?_
    simp only [Option.isNone_none,if_true]
    have hr:=Round_ev hw (nrm d).neg s1 s2 t1 t2 c'
    rw [hpos n h8 h64] at hr
    exact Ev.bind hr (Ev.now _)
 ·simp only [if_neg hf,Option.bind_some]
  exact Ev.now _
theorem shown_ev:Ev (fun k=>vernierlaw19_shown.f k) true:=Ev.of vernierlaw19_shown.mono (k:=40) (by decide +kernel)
theorem tmod_lt (a:Int) {m:Int} (hm:0<m) : -m<Int.tmod a m∧Int.tmod a m<m:=by
 have h:=Int.natAbs_tmod a m
 have h2:=Nat.mod_lt a.natAbs (show 0<m.natAbs by omega)
 omega
theorem pick_some (a m:Int) (hm:0<m):∃ t,vernierlaw19_pick.f a m=some t ∧ -m<t∧t<m:=by
 unfold vernierlaw19_pick.f
 rw [if_neg (show ¬ m=0 by omega),if_neg (show ¬ m=0 by omega)]
 by_cases h:a<0
 ·rw [if_pos h];exact ⟨_,rfl,tmod_lt _ hm⟩
 ·rw [if_neg h];exact ⟨_,rfl,tmod_lt _ hm⟩
theorem width_ev (raw:Int):∃ n,Wd n∧Ev (fun k=>vernierlaw19_width.f k raw) (n:Int):=by
 obtain ⟨t,e,h3,h4⟩:=pick_some raw 4 (by decide)
 have hl:∃ n,Wd n∧Ev (fun k=>vernierlaw19_width.l0 k 8 t) (n:Int):=by
  by_cases h:0<t
  ·have ht:t=1∨t=2∨t=3:=by omega
   rcases ht with rfl|rfl|rfl
   ·exact ⟨16, .inr (.inl rfl),5,fun k hk=>by obtain ⟨m,rfl⟩:∃ m,k=m+5:=⟨k - 5,by omega⟩;simp [vernierlaw19_width.l0,wrap64]⟩
   ·exact ⟨32, .inr (.inr (.inl rfl)),5,fun k hk=>by obtain ⟨m,rfl⟩:∃ m,k=m+5:=⟨k - 5,by omega⟩;simp [vernierlaw19_width.l0,wrap64]⟩
   ·exact ⟨64, .inr (.inr (.inr rfl)),5,fun k hk=>by obtain ⟨m,rfl⟩:∃ m,k=m+5:=⟨k - 5,by omega⟩;simp [vernierlaw19_width.l0,wrap64]⟩
  ·exact ⟨8, .inl rfl,1,fun k hk=>by obtain ⟨m,rfl⟩:∃ m,k=m+1:=⟨k - 1,by omega⟩;simp only [vernierlaw19_width.l0];rw [if_neg (by omega)];rfl⟩
 obtain ⟨n,hw,hev⟩:=hl
 exact ⟨n,hw,Ev.congr (fun k=>by unfold vernierlaw19_width.f;rw [e];rfl) hev⟩
theorem tParse_ev {n:Nat} (hw:Wd n) {l:List UInt8} {d:D} (h:scanF l = .ok d):Ev (fun k=>text_Parse.f k (n:Int) (mkB l)) (((ofD n d:Nat):Int),none):=by
 have hN:=scanF_norm h
 have ht:=tOf_ev hw d
 rw [if_pos (formed_of_norm hN)] at ht
 refine Ev.congr (f:=fun k=>(text_Of.f k (n:Int) d.nar d.neg (mkB d.ds) d.e).bind fun bt662=>(some (bt662.1,bt662.2))) (fun k=>?_) (Ev.bind ht (Ev.now _))
 unfold text_Parse.f scan_Scan.f
 rw [decode0 hw,mkB_list,h]
 rfl
theorem text_f (d:D):scan_Text.f d.nar d.neg (mkB d.ds) d.e=if formed d=true then some (mkB (textN (nrm d)),none) else some ((⟨#[]⟩:ByteArray),some 23):=rfl
end Go.Proofs.Yy.PTx
end
section
namespace Go.Proofs.Yy.PTx
open Go.RowKit Go.Proofs.Yw.PrintWords Go.Proofs.Yw.PrintLast Go.Proofs.Yw.PrintMore Go.Proofs.Yy.TA
open Go.Proofs.Yy.SC (D)
theorem fold_num (l:List UInt8):∀ a:Nat,l.foldl (fun a c=>a * 10+(c.toNat - 48)) a=a * 10 ^ l.length+numL l:=by
 induction l with
 | nil=>intro a;simp [numL]
 | cons c l ih =>
  intro a
  unfold numL
  rw [List.foldl_cons,List.foldl_cons,ih,ih (0 * 10+(c.toNat - 48)),List.length_cons,Nat.pow_succ,Nat.add_mul,Nat.add_mul,Nat.mul_assoc a 10,Nat.mul_comm 10,Nat.zero_mul]
  omega
theorem numL_cons (c:UInt8) (l:List UInt8):numL (c :: l)=(c.toNat - 48) * 10 ^ l.length+numL l:=by
 have:=fold_num l (0 * 10+(c.toNat - 48))
 rw [Nat.zero_mul,Nat.zero_add] at this
 unfold numL
 rw [List.foldl_cons,Nat.zero_mul,Nat.zero_add]
 exact this
theorem numL_lt' {l:List UInt8} (h:∀ c ∈ l,48≤c.toNat∧c.toNat≤57):numL l<10 ^ l.length:=by
 have:=numL_lt l 0 h
 rw [Nat.zero_add,Nat.one_mul] at this
 exact this
abbrev Dgs (l:List UInt8):Prop := ∀ c ∈ l,48≤c.toNat∧c.toNat≤57
theorem scale_num (d:D) (K:Nat) (h:0≤d.e+K):numD d * 10 ^ K=numL d.ds * 10 ^ (d.e+K).toNat * denD d:=by
 unfold numD denD
 by_cases h0:0≤d.e
 ·rw [show (-d.e).toNat=0 by omega,Nat.pow_zero,Nat.mul_one,show (d.e+K).toNat=d.e.toNat+K by omega,Nat.pow_add, ← Nat.mul_assoc]
 ·rw [show d.e.toNat=0 by omega,Nat.pow_zero,Nat.mul_one,Nat.mul_assoc, ← Nat.pow_add,show (d.e+K).toNat+(-d.e).toNat=K by omega]
structure Lead (d:D):Prop where
 dgs:Dgs d.ds
 ne:0<d.ds.length
 le:10 ^ (d.ds.length - 1)≤numL d.ds
theorem lead_of {d:D} {c:UInt8} {l:List UInt8} (hd:d.ds=c :: l) (hc:49≤c.toNat) (hg:Dgs d.ds):Lead d :=
 ⟨hg,by rw [hd];simp,by rw [hd,List.length_cons,Nat.add_sub_cancel];exact numL_head hc⟩
theorem Lead.pos {d:D} (h:Lead d):0<numD d:=by
 unfold numD
 have:=Nat.pow_pos (a:=10) (n:=d.ds.length - 1) (by decide)
 exact Nat.mul_pos (by have:=h.le;omega) (Nat.pow_pos (by decide))
theorem posD_mono {n:Nat} (hn:3≤n) {x y:D} (hx:Lead x) (hy:Lead y) (h:numD x * denD y≤numD y * denD x):posD n x≤posD n y :=
 pos_mono hn (scl_sc hx.pos (denD_pos x)) (scl_sc hy.pos (denD_pos y)) h
end Go.Proofs.Yy.PTx
end
section
namespace Go.Proofs.Yy.PTx
open Go.RowKit Go.Proofs.Yw.PrintWords Go.Proofs.Yw.PrintLast Go.Proofs.Yw.PrintMore Go.Proofs.Yy.TA Go.Proofs.Yy.SC
def sgD (d:D):Int:=if d.ds = [48] then 0 else if d.neg=true then -1 else 1
end Go.Proofs.Yy.PTx
end
section
namespace Go.Proofs.Yy.PTx
open Go.RowKit Go.Proofs.Yw.PrintWords Go.Proofs.Yw.PrintLast Go.Proofs.Yw.PrintMore Go.Proofs.Yy.M Go.Proofs.Yy.TA Go.Proofs.Yy.SC
def rnk (n p:Nat):Int:=if p<2 ^ (n - 1) then (p:Int) else (p:Int) - ((2 ^ n:Nat):Int)
theorem nrm_nar {d:D} (h:d.nar=false):(nrm d).nar=false:=by
 unfold nrm
 rw [h]
 simp only [Bool.false_eq_true,if_false]
 split <;> rfl
theorem lead_norm {d:D} (hf:formed d=true) (h:d.nar=false) (hs:sgD (nrm d)≠0):Lead (nrm d):=by
 have h0:(nrm d).ds ≠ [48]:=fun e=>hs (by unfold sgD;rw [if_pos e])
 obtain ⟨c,l,e1,e2,e3,_⟩:=norm_digits (norm_nrm hf) (nrm_nar h) h0
 exact lead_of e1 e2 e3
theorem ofD_rnk {n:Nat} (hw:Wd n) {d:D} (hf:formed d=true) (h:d.nar=false):ofD n d<2 ^ n∧rnk n (ofD n d)=sgD (nrm d) * (posD n (nrm d):Int):=by
 obtain ⟨h8,h64⟩:=hw.bounds
 have hz:2 ^ (n - 1) * 2=2 ^ n:=by rw [← Nat.pow_succ,show (n - 1).succ=n by omega]
 have hp:=Nat.two_pow_pos (n - 1)
 unfold ofD
 rw [nrm_nar h,if_neg (by decide)]
 by_cases h0:(nrm d).ds = [48]
 ·have e:sgD (nrm d)=0:=by unfold sgD;rw [if_pos h0]
  rw [if_pos h0,e]
  unfold rnk
  rw [if_pos hp]
  omega
 ·rw [if_neg h0]
  have hs:sgD (nrm d)=if (nrm d).neg=true then -1 else 1:=by unfold sgD;rw [if_neg h0]
  have L:=lead_norm hf h (by rw [hs];split <;> decide)
  have hb:1≤posD n (nrm d)∧posD n (nrm d)≤2 ^ (n - 1) - 1:=pos_bounds (by omega) (scl_sc L.pos (denD_pos _))
  rw [hs]
  unfold sgn rnk
  by_cases hg:(nrm d).neg=true
  ·rw [if_pos hg,if_pos hg,Nat.mod_eq_of_lt (by omega),if_neg (by omega)]
   omega
  ·rw [if_neg hg,if_neg hg,Nat.mod_eq_of_lt (by omega),if_pos (by omega)]
   omega
end Go.Proofs.Yy.PTx
end
