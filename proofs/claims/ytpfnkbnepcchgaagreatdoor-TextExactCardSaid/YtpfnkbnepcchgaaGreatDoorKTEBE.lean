/- Part 31 of what the proof needs. -/
import Derived.Test.YtpfnkbnepcchgaaGreatDoorKTEBD
set_option linter.unusedSimpArgs false
set_option linter.unusedVariables false
section
namespace Go.Proofs.Yy.PTx
open Go.RowKit Go.Proofs.Yw.PrintWords Go.Proofs.Yw.PrintLast Go.Proofs.Yw.PrintMore Go.Proofs.Yy.M Go.Proofs.Yy.TA Go.Proofs.Yy.SC
theorem xZ (l:List UInt8) (h:∀ c ∈ l,c=48∨c=49) (hl:l.length≤64):Ev (fun k=>aV.f k (mkB l)) ((num l:Nat):Int):=by
 have h2:=Rq l h hl l.length 0 (by omega)
 exact Ev.congr (fun k=>by unfold aV.f;rfl) h2
theorem Rw {n:Nat} (hw:Wd n) (p:Nat) (hp:p<2 ^ 64):Ev (fun k=>je.f k (n:Int) (p:Int)) (((p % 2 ^ n:Nat):Int),0):=by
 obtain ⟨h8,h64⟩:=hw.bounds
 have h1:=uZ p hp n h64
 have h2:=xZ (bs n p) (FV n p) (by rw [bs_len];exact h64)
 rw [Oh] at h2
 refine Ev.congr (f:=fun k=>(bf.f k (p:Int) (n:Int)).bind fun ajW=>((aV.f k ajW).bind fun ajX=>(some (ajX,(0:Int))))) (fun k=>?_) (Ev.bind h1 (Ev.bind h2 (Ev.now _)))
 unfold je.f
 rw [aaC hw]
 rfl
theorem BU {n:Nat} (hw:Wd n) (p:Nat) (hp:p<2 ^ 64):Ev (fun k=>fM.f k (n:Int) (p:Int)) (if p % 2 ^ n=0 then 0 else if p % 2 ^ n=2 ^ (n - 1) then 2 else 1,0):=by
 unfold fM.f
 refine Ev.bind (Rw hw p hp) ?_
 simp only [if_true]
 by_cases h0:p % 2 ^ n=0
 ·simp only [if_pos (show ((p % 2 ^ n:Nat):Int)=0 by omega),if_pos h0]
  exact Ev.now _
 ·simp only [if_neg (show ¬ ((p % 2 ^ n:Nat):Int)=0 by omega),if_neg h0]
  refine Ev.bind (XW hw) ?_
  by_cases h1:p % 2 ^ n=2 ^ (n - 1)
  ·rw [if_pos (by rw [h1]),if_pos h1]
   exact Ev.now _
  ·rw [if_neg (fun e=>h1 (Int.natCast_inj.1 e)),if_neg h1]
   exact Ev.now _
theorem aaH {n p:Nat} (hn:1≤n):(p / 2 ^ (n - 1) % 2=1) ↔ 2 ^ (n - 1)≤p % 2 ^ n:=by
 have hpw:2 ^ n=2 ^ (n - 1) * 2:=by rw [← Nat.pow_succ];congr 1;omega
 have e:p / 2 ^ (n - 1) % 2=p % 2 ^ n / 2 ^ (n - 1):=by rw [hpw,Nat.mod_mul_right_div_self]
 have hlt:p % 2 ^ n<2 ^ n:=Nat.mod_lt _ (jy _)
 have hp:=jy (n - 1)
 obtain ⟨K,hK⟩:∃ K,2 ^ (n - 1)=K:=⟨_,rfl⟩
 rw [e]
 rw [hK] at hpw hp ⊢
 rw [hpw] at hlt
 constructor
 ·intro h
  apply Nat.le_of_not_lt
  intro h2
  rw [Nat.div_eq_of_lt h2] at h
  omega
 ·intro h
  have h1:p % 2 ^ n / K<2:=by rw [Nat.div_lt_iff_lt_mul hp];omega
  have h2:1≤p % 2 ^ n / K:=by rw [Nat.le_div_iff_mul_le hp];omega
  omega
theorem Ot {n p:Nat} (hn:1≤n):bs n p=IB (p / 2 ^ (n - 1)) :: bs (n - 1) p:=by
 have h:=Zz (n - 1) p
 rwa [show n - 1+1=n by omega] at h
theorem Gz {n p:Nat} (hn:1≤n):(bt (mkB (bs n p)) 0=49) ↔ 2 ^ (n - 1)≤p % 2 ^ n:=by
 rw [Ot hn,Uo,Cj, ← aaH hn]
 omega
theorem Tj {n p:Nat} (hn:1≤n):(mkB (bs n p)).extract 1 (mkB (bs n p)).size=mkB (bs (n - 1) p):=by
 rw [qC,Ot hn];rfl
theorem Lc {n:Nat} (hw:Wd n) (p:Nat) (hp:p<2 ^ 64) (h1:p % 2 ^ n≠2 ^ (n - 1)) :
  Ev (fun k=>gB.f k (n:Int) (p:Int)) (mkB (bs (n - 1) (if 2 ^ (n - 1)≤p % 2 ^ n then 2 ^ n - p % 2 ^ n else p % 2 ^ n))):=by
 obtain ⟨h8,h64⟩:=hw.bounds
 obtain ⟨hm,hq⟩:=Gh h8 h64 hp h1
 rw [← hm,ZI _ _ _ (Nat.le_refl _)]
 have hsz:∀ q:Nat,((mkB (bs n q)).size:Int)=n:=fun q=>by rw [aY,bs_len]
 unfold gB.f
 refine Ev.bind (uZ p hp n h64) ?_
 simp only [if_pos (show 0<((mkB (bs n p)).size:Int) by rw [hsz];omega)]
 by_cases h:2 ^ (n - 1)≤p % 2 ^ n
 ·simp only [if_pos ((Gz (p:=p) (n:=n) (by omega)).2 h)]
  have e:WP n p=(2 ^ 64 - p) % 2 ^ 64:=by unfold WP;rw [if_pos h]
  have ht:=uZ ((2 ^ 64 - p) % 2 ^ 64) (Nat.mod_lt _ (jy _)) n h64
  rw [← Om hp] at ht
  refine Ev.bind ht ?_
  rw [if_pos (by rw [hsz];omega),Tj (by omega),e]
  exact Ev.now _
 ·simp only [if_neg (show ¬ bt (mkB (bs n p)) 0=49 from fun e=>h ((Gz (by omega)).1 e)),if_pos (show 1≤((mkB (bs n p)).size:Int) by rw [hsz];omega)]
  rw [Tj (by omega)]
  have e:WP n p=p:=by unfold WP;rw [if_neg h]
  rw [e]
  exact Ev.now _
theorem aex {s:List UInt8} {b:UInt8} {r:Nat} {rest:List UInt8} (hs:s=List.replicate r b ++ rest) (hr:1≤r) (hl:s.length≤64) (hrest:∀ c l,rest=c :: l→c≠b):∀ d i:Nat,i+d=r →
  Ev (fun k=>dm.l0 k (mkB s) (i:Int)) (r:Int):=by
 have hlen:s.length=r+rest.length:=by rw [hs,List.length_append,List.length_replicate]
 have h0:bt (mkB s) 0=(b.toNat:Int):=by
  have h:=Cf (l:=s) (i:=0) (by omega)
  rw [show ((0:Nat):Int)=0 from rfl] at h
  rw [h]
  congr 2
  simp only [hs]
  rw [List.getElem_append_left (by rw [List.length_replicate];omega),List.getElem_replicate]
 intro d
 induction d with
 | zero =>
  intro i hi
  obtain rfl:i=r:=by omega
  refine Ev.step (f:=fun _=>some (i:Int)) (fun k=>?_) (Ev.now _)
  simp only [dm.l0]
  by_cases hx:i<s.length
  ·rw [if_pos (by rw [aY];omega),if_pos (by omega),if_pos (by rw [aY];omega),h0,Cf hx]
   have hg:s[i]=rest[0]'(by omega):=by
    simp only [hs]
    rw [List.getElem_append_right (by rw [List.length_replicate];exact Nat.le_refl _)]
    congr 1
    rw [List.length_replicate];omega
   cases hr2:rest with
   | nil=>rw [hr2] at hlen;simp at hlen;omega
   | cons c l =>
    have hne:=hrest c l hr2
    have hg2:s[i]=c:=by rw [hg];simp only [hr2,List.getElem_cons_zero]
    rw [hg2,if_neg (fun e=>hne (UInt8.toNat_inj.1 (Int.natCast_inj.1 e)))]
  ·rw [if_neg (by rw [aY];omega)]
 | succ d ih =>
  intro i hi
  refine Ev.step (f:=fun k=>dm.l0 k (mkB s) ((i+1:Nat):Int)) (fun k=>?_) (ih (i+1) (by omega))
  simp only [dm.l0]
  have hx:i<s.length:=by omega
  have hg:s[i]=b:=by
   simp only [hs]
   rw [List.getElem_append_left (by rw [List.length_replicate];omega),List.getElem_replicate]
  rw [if_pos (by rw [aY];omega),if_pos (by omega),if_pos (by rw [aY];omega),h0,Cf hx,hg,if_pos rfl,y8 (by omega) (by omega)]
  rfl
theorem XX (L eb m:Nat) (heb:eb=min L 2):num ((bs eb (m / 2 ^ (L - eb)) ++ [48,48]).take 2)=m / 2 ^ (L - eb) % 2 ^ eb * 2 ^ (2 - eb):=by
 have e0:([48,48]:List UInt8)=bs 2 0:=by decide
 rw [e0,yA,Nat.zero_mod,Nat.add_zero,Ko _ _ 2 (by omega),Oh]
 obtain ⟨x,hx⟩:∃ x,m / 2 ^ (L - eb)=x:=⟨_,rfl⟩
 rw [hx]
 have h3:eb=0∨eb=1∨eb=2:=by omega
 rcases h3 with h|h|h <;> subst h
 ·simp only [Nat.zero_add,Nat.sub_self,Nat.pow_zero,Nat.div_one];omega
 ·show x * 2 ^ 2 / 2 ^ (1+2 - 2) % 2 ^ 2=x % 2 ^ 1 * 2 ^ (2 - 1)
  simp only [show (1+2 - 2)=1 from rfl,show (2 - 1)=1 from rfl,Nat.pow_one,show (2:Nat) ^ 2=4 from rfl];omega
 ·show x * 2 ^ 2 / 2 ^ (2+2 - 2) % 2 ^ 2=x % 2 ^ 2 * 2 ^ (2 - 2)
  simp only [show (2+2 - 2)=2 from rfl,show (2 - 2)=0 from rfl,Nat.pow_zero,show (2:Nat) ^ 2=4 from rfl];omega
theorem Pm {n:Nat} (hw:Wd n) (p:Nat) (hp:p<2 ^ 64) (h0:p % 2 ^ n≠0) (h1:p % 2 ^ n≠2 ^ (n - 1)) {m:Nat} (hm:(if 2 ^ (n - 1)≤p % 2 ^ n then 2 ^ n - p % 2 ^ n else p % 2 ^ n)=m)
  {ones:Bool} {r L eb:Nat} {rest:List UInt8} (hs:bs (n - 1) m=List.replicate r (if ones=true then 49 else 48) ++ rest) (hr:1≤r) (hrest:∀ c l,rest=c :: l→c≠(if ones=true then 49 else 48))
  (hd:rest.drop 1=bs L m) (hL:L≤62) (heb:eb=min L 2) :
  Ev (fun k=>gZ.f k (n:Int) (p:Int)) (decide (2 ^ (n - 1)≤p % 2 ^ n),ones,(r:Int),(if ones=true then (r:Int) - 1 else -(r:Int)),(eb:Int),((m / 2 ^ (L - eb) % 2 ^ eb * 2 ^ (2 - eb):Nat):Int),((L - eb:Nat):Int),((m % 2 ^ (L - eb):Nat):Int),0):=by
 obtain ⟨h8,h64⟩:=hw.bounds
 have hk:=BU hw p hp
 rw [if_neg h0,if_neg h1] at hk
 have hst:=Lc hw p hp h1
 rw [hm,hs] at hst
 have hlen:r+rest.length=n - 1:=by
  have h:=congrArg List.length hs
  rw [bs_len,List.length_append,List.length_replicate] at h
  omega
 have hrun:Ev (fun k=>dm.f k (mkB (List.replicate r (if ones=true then 49 else 48) ++ rest))) (r:Int):=by
  have h:=aex rfl hr (by rw [List.length_append,List.length_replicate];omega) hrest r 0 (by omega)
  exact Ev.congr (fun k=>by unfold dm.f;rfl) h
 have hsz:(mkB (List.replicate r (if ones=true then (49:UInt8) else 48) ++ rest)).size=n - 1:=by rw [aY,List.length_append,List.length_replicate];omega
 have hb0:bt (mkB (List.replicate r (if ones=true then (49:UInt8) else 48) ++ rest)) 0=if ones=true then 49 else 48:=by
  obtain ⟨r',rfl⟩:∃ r',r=r'+1:=⟨r - 1,by omega⟩
  rw [List.replicate_succ,List.cons_append,Uo]
  cases ones <;> rfl
 have hre:jD (mkB (List.replicate r (if ones=true then (49:UInt8) else 48) ++ rest)) (r:Int)=mkB (bs L m):=by
  unfold jD
  by_cases hx:rest = []
  ·rw [if_neg (by rw [hsz];rw [hx] at hlen;simp at hlen;omega)]
   rw [hx] at hd
   rw [← hd];rfl
  ·have hpos:0<rest.length:=List.length_pos_iff.2 hx
   rw [if_pos (by rw [hsz];omega),show ((r:Int)+1).toNat=r+1 by omega,qC, ← hd,List.drop_append,List.length_replicate,show r+1 - r=1 by omega,List.drop_of_length_le (by rw [List.length_replicate];omega),List.nil_append]
 have awn:qX (mkB (bs L m))=eb:=by unfold qX;rw [aY,bs_len,heb]
 have heL:eb≤L:=by omega
 have he1:((mkB (bs L m)).extract 0 eb ++ (⟨#[48,48]⟩:ByteArray)).extract 0 2=mkB ((bs eb (m / 2 ^ (L - eb)) ++ [48,48]).take 2):=by
  have e4:(⟨#[48,48]⟩:ByteArray)=mkB [48,48]:=rfl
  rw [qH _ _ (by rw [bs_len];exact heL),Ko _ _ _ heL,e4,fO,qH _ _ (by rw [List.length_append];simp)]
 have he2:(mkB (bs L m)).extract eb (mkB (bs L m)).size=mkB (bs (L - eb) m):=by rw [qC,TV _ _ _ heL]
 have hn1:=xZ ((bs eb (m / 2 ^ (L - eb)) ++ [48,48]).take 2) (fun c hc=>by
  rcases List.mem_append.1 (List.mem_of_mem_take hc) with h|h
  ·exact FV _ _ c h
  ·left;simpa using h) (by rw [List.length_take];omega)
 have hn2:=xZ (bs (L - eb) m) (FV _ _) (by rw [bs_len];omega)
 rw [XX L eb m heb] at hn1
 rw [Oh] at hn2
 have hE:m / 2 ^ (L - eb) % 2 ^ eb * 2 ^ (2 - eb)<4:=by
  have h1:=Nat.mod_lt (m / 2 ^ (L - eb)) (jy eb)
  have h2:m / 2 ^ (L - eb) % 2 ^ eb * 2 ^ (2 - eb)<2 ^ eb * 2 ^ (2 - eb):=Nat.mul_lt_mul_of_pos_right h1 (jy _)
  rwa [← Nat.pow_add,show eb+(2 - eb)=2 by omega] at h2
 unfold gZ.f
 refine Ev.bind hk ?_
 simp only [and_self,if_true]
 refine Ev.bind hst (Ev.bind (uZ p hp n h64) (Ev.bind hrun ?_))
 simp only [if_pos (show 0<(mkB (bs n p)).size∧0<(mkB (List.replicate r (if ones=true then (49:UInt8) else 48) ++ rest)).size∧(mkB (List.replicate r (if ones=true then (49:UInt8) else 48) ++ rest)).size≤64∧0≤(r:Int)∧(r:Int)≤64 from
  ⟨by rw [aY,bs_len];omega,by rw [hsz];omega,by rw [hsz];omega,by omega,by omega⟩)]
 simp only [hre,awn,he1,he2]
 refine Ev.bind hn1 (Ev.bind hn2 ?_)
 rw [if_pos ⟨by omega,by omega⟩,hb0,aY,bs_len]
 have g1:decide (bt (mkB (bs n p)) 0=49)=decide (2 ^ (n - 1)≤p % 2 ^ n):=decide_eq_decide.2 (Gz (by omega))
 have g2:decide ((if ones=true then (49:Int) else 48)=49)=ones:=by cases ones <;> rfl
 have g3:(if (if ones=true then (49:Int) else 48)=49 then (r:Int) - 1 else -(r:Int))=if ones=true then (r:Int) - 1 else -(r:Int):=by cases ones <;> rfl
 have g4:((L:Int) - (eb:Int))=((L - eb:Nat):Int):=by omega
 rw [g1,g2,g3,g4]
 exact Ev.now _
theorem Uj (fb g:Nat) (hfb:fb≤62):∀ d i:Nat,i+d=63 - fb→(mkB (49 :: bs fb g ++ List.replicate i 48)).size=1+fb+i:=by
 intro d i h
 rw [aY,List.length_append,List.length_cons,bs_len,List.length_replicate];omega
theorem Xr (fb g:Nat) (hfb:fb≤62):num (49 :: bs fb g ++ List.replicate (63 - fb) 48)=2 ^ 63+g % 2 ^ fb * 2 ^ (63 - fb):=by
 have e1:(49 :: bs fb g:List UInt8)=bs (1+fb) (2 ^ fb+g % 2 ^ fb):=by
  have h:=yA 1 1 fb g
  rw [Nat.one_mul] at h
  rw [← h];rfl
 have hg:=Nat.mod_lt g (jy fb)
 rw [e1,Ru,yA,Nat.zero_mod,Nat.add_zero,Oh,Nat.add_mul, ← Nat.pow_add,show fb+(63 - fb)=63 by omega,show 1+fb+(63 - fb)=64 by omega]
 apply Nat.mod_eq_of_lt
 have h2:g % 2 ^ fb * 2 ^ (63 - fb)<2 ^ fb * 2 ^ (63 - fb):=Nat.mul_lt_mul_of_pos_right hg (jy _)
 rw [← Nat.pow_add,show fb+(63 - fb)=63 by omega] at h2
 rw [Nat.pow_succ 2 63,Nat.mul_two]
 exact Nat.add_lt_add_left h2 _
theorem Xb (fb g:Nat) (hfb:fb≤62) (kd:Int) (neg:Bool) (sc ex:Int):∀ d i:Nat,i+d=63 - fb →
  Ev (fun k=>aK.l0 k (mkB (49 :: bs fb g ++ List.replicate i 48)) kd neg sc ex) (kd,neg,sc,((2 ^ 63+g % 2 ^ fb * 2 ^ (63 - fb):Nat):Int),0):=by
 intro d
 induction d with
 | zero =>
  intro i hi
  obtain rfl:i=63 - fb:=by omega
  have hsz:=Uj fb g hfb 0 (63 - fb) (by omega)
  have hn:=xZ (49 :: bs fb g ++ List.replicate (63 - fb) 48) (fun c hc=>by
   rcases List.mem_append.1 hc with h|h
   ·rcases List.mem_cons.1 h with h|h
    ·exact .inr h
    ·exact FV _ _ c h
   ·exact .inl (List.eq_of_mem_replicate h)) (by rw [aY] at hsz;omega)
  rw [Xr fb g hfb] at hn
  refine Ev.step (f:=fun k=>(aV.f k (mkB (49 :: bs fb g ++ List.replicate (63 - fb) 48))).bind fun ajn=>some (kd,neg,sc,ajn,(0:Int))) (fun k=>?_) (Ev.bind hn (Ev.now _))
  simp only [aK.l0]
  rw [if_neg (by rw [hsz];omega)]
 | succ d ih =>
  intro i hi
  have hsz:=Uj fb g hfb (d+1) i hi
  refine Ev.step (f:=fun k=>aK.l0 k (mkB (49 :: bs fb g ++ List.replicate (i+1) 48)) kd neg sc ex) (fun k=>?_) (ih (i+1) (by omega))
  simp only [aK.l0]
  have e4:(⟨#[48]⟩:ByteArray)=mkB [48]:=rfl
  rw [if_pos (by rw [hsz];omega),if_pos (by rw [hsz];omega),e4,fO,List.append_assoc, ← List.replicate_succ']
theorem Kv {n:Nat} (hw:Wd n) (p:Nat) (hp:p<2 ^ 64) (h0:p % 2 ^ n≠0) (h1:p % 2 ^ n≠2 ^ (n - 1)) :
  ∃ s M,xY n (if 2 ^ (n - 1)≤p % 2 ^ n then 2 ^ n - p % 2 ^ n else p % 2 ^ n) s M∧Ev (fun k=>fJ.f k (n:Int) (p:Int)) (1,decide (2 ^ (n - 1)≤p % 2 ^ n),s,(M:Int)):=by
 obtain ⟨h8,h64⟩:=hw.bounds
 obtain ⟨hm,hq⟩:=Gh h8 h64 hp h1
 have hk:=BU hw p hp
 rw [if_neg h0,if_neg h1] at hk
 obtain ⟨m,hmm⟩:∃ m,(if 2 ^ (n - 1)≤p % 2 ^ n then 2 ^ n - p % 2 ^ n else p % 2 ^ n)=m:=⟨_,rfl⟩
 have hpw:2 ^ n=2 * 2 ^ (n - 1):=by rw [show n=(n - 1)+1 by omega,Nat.pow_succ];simp;omega
 have hlt:p % 2 ^ n<2 ^ n:=Nat.mod_lt _ (Nat.two_pow_pos _)
 have hm0:m≠0:=by rw [← hmm];split <;> omega
 rw [hmm] at hm ⊢
 have hm1:m<2 ^ (n - 1):=by rw [← hm];exact Nat.mod_lt _ (Nat.two_pow_pos _)
 have key:∀ (ones:Bool) (r L eb:Nat) (rest:List UInt8),bs (n - 1) m=List.replicate r (if ones=true then 49 else 48) ++ rest→1≤r→r≤64→(∀ c l,rest=c :: l→c≠(if ones=true then 49 else 48)) →
   rest.drop 1=bs L m→L≤62→eb=min L 2 →
   Ev (fun k=>fJ.f k (n:Int) (p:Int)) (1,decide (2 ^ (n - 1)≤p % 2 ^ n),4 * (if ones=true then (r:Int) - 1 else -(r:Int))+((m / 2 ^ (L - eb) % 2 ^ eb * 2 ^ (2 - eb):Nat):Int),((2 ^ 63+m % 2 ^ (L - eb) * 2 ^ (63 - (L - eb)):Nat):Int)):=by
  intro ones r L eb rest hs hr arS hrest hd hL heb
  have hsp:=Pm hw p hp h0 h1 hmm hs hr hrest hd hL heb
  have hE:m / 2 ^ (L - eb) % 2 ^ eb * 2 ^ (2 - eb)<4:=by
   have h1:=Nat.mod_lt (m / 2 ^ (L - eb)) (jy eb)
   have h2:m / 2 ^ (L - eb) % 2 ^ eb * 2 ^ (2 - eb)<2 ^ eb * 2 ^ (2 - eb):=Nat.mul_lt_mul_of_pos_right h1 (jy _)
   rwa [← Nat.pow_add,show eb+(2 - eb)=2 by omega] at h2
  obtain ⟨E,hEe⟩:∃ E,m / 2 ^ (L - eb) % 2 ^ eb * 2 ^ (2 - eb)=E:=⟨_,rfl⟩
  rw [hEe] at hsp hE ⊢
  have hg:m % 2 ^ (L - eb)<2 ^ 64:=Nat.lt_of_lt_of_le (Nat.mod_lt _ (jy _)) (Nat.pow_le_pow_right (by decide) (by omega))
  have ht:=uZ (m % 2 ^ (L - eb)) hg (L - eb) (by omega)
  rw [ZI _ _ _ (Nat.le_refl _)] at ht
  have hl:=Xb (L - eb) m (by omega) 1 (decide (2 ^ (n - 1)≤p % 2 ^ n)) (4 * (if ones=true then (r:Int) - 1 else -(r:Int))+(E:Int)) 0 (63 - (L - eb)) 0 (by omega)
  rw [List.replicate_zero,List.append_nil] at hl
  have hsc:wrap64 (wrap64 (4 * (if ones=true then (r:Int) - 1 else -(r:Int)))+(E:Int))=4 * (if ones=true then (r:Int) - 1 else -(r:Int))+(E:Int):=by
   cases ones
   ·simp only [Bool.false_eq_true,if_false]
    rw [y8 (x:=4 * -(r:Int)) (by omega) (by omega),y8 (by omega) (by omega)]
   ·simp only [if_true]
    rw [y8 (x:=4 * ((r:Int) - 1)) (by omega) (by omega),y8 (by omega) (by omega)]
  have e49:(⟨#[49]⟩:ByteArray)=mkB [49]:=rfl
  have hj:Ev (fun k=>aK.j0 k (n:Int) (p:Int) 1 0 false) (1,decide (2 ^ (n - 1)≤p % 2 ^ n),4 * (if ones=true then (r:Int) - 1 else -(r:Int))+(E:Int),((2 ^ 63+m % 2 ^ (L - eb) * 2 ^ (63 - (L - eb)):Nat):Int),0):=by
   refine Ev.step (f:=fun k=>(gZ.f k (n:Int) (p:Int)).bind fun D9=>((bf.f k D9.2.2.2.2.2.2.2.1 D9.2.2.2.2.2.2.1).bind fun Wx=>(if 1+Wx.size≤9223372036854775807 then (aK.l0 k ((⟨#[49]⟩:ByteArray) ++ Wx) 1 D9.1 (wrap64 ((wrap64 (4 * D9.2.2.2.1))+D9.2.2.2.2.2.1)) 0) else (none)))) (fun k=>?_) ?_
   ·simp only [aK.j0,Bool.false_eq_true,if_false]
   ·refine Ev.bind hsp (Ev.bind ht ?_)
    simp only [if_pos (show 1+(mkB (bs (L - eb) m)).size≤9223372036854775807 by rw [aY,bs_len];omega),e49,fO,hsc]
    exact hl
  refine Ev.congr (f:=fun k=>(aK.f k (n:Int) (p:Int)).bind fun yU=>some (yU.1,yU.2.1,yU.2.2.1,yU.2.2.2.1)) (fun k=>rfl) ?_
  refine Ev.bind (a:=(1,decide (2 ^ (n - 1)≤p % 2 ^ n),4 * (if ones=true then (r:Int) - 1 else -(r:Int))+(E:Int),((2 ^ 63+m % 2 ^ (L - eb) * 2 ^ (63 - (L - eb)):Nat):Int),0)) ?_ (Ev.now _)
  unfold aK.f
  refine Ev.bind hk ?_
  simp only [if_true]
  exact hj
 have hcut:∀ r:Nat,r+1≤n - 1→bs (n - 1) m=bs (r+1) (m / 2 ^ (n - 2 - r)) ++ bs (n - 2 - r) m:=by
  intro r hr
  have h1:=Ko (n - 1) m (r+1) hr
  have h2:=TV (n - 1) m (r+1) hr
  rw [show n - 1 - (r+1)=n - 2 - r by omega] at h1 h2
  rw [← h1, ← h2,List.take_append_drop]
 by_cases hlow:m<2 ^ (n - 2)
 ·obtain ⟨r,r1,r2,r3,_⟩:=CB h8 h64 hq hm.symm hm0 hlow
  have hs:=hcut r (by omega)
  rw [r3] at hs
  have e1:bs (r+1) 1=List.replicate r 48 ++ [49]:=by rw [Ru];rfl
  rw [e1,List.append_assoc] at hs
  have k:=key false r (n - 2 - r) (min (n - 2 - r) 2) ([49] ++ bs (n - 2 - r) m) hs r1 (by omega) (fun c l h=>by
   have:c=49:=(List.cons.inj h).1.symm
   rw [this];decide) rfl (by omega) rfl
  exact ⟨_,_,uu (n:=n) (p:=m) (r:=r) (ones:=false) (by omega) h64 r1 r2 r3 rfl rfl,k⟩
 ·obtain ⟨r,r1,r2,r3,r4,_⟩:=NW h8 h64 hq hm.symm (by omega)
  by_cases hr:r+1=n
  ·have hmo:=r3 hr
   have hs:bs (n - 1) m=List.replicate r 49 ++ []:=by
    rw [hmo, ← Uk,List.append_nil]
    congr 1;omega
   have k:=key true r 0 0 [] hs r1 (by omega) (fun c l h=>by cases h) rfl (by omega) rfl
   have e1:(4 * (if true=true then (r:Int) - 1 else -(r:Int))+((m / 2 ^ (0 - 0) % 2 ^ 0 * 2 ^ (2 - 0):Nat):Int))=top n:=by
    have:m / 2 ^ (0 - 0) % 2 ^ 0=0:=by rw [Nat.pow_zero];exact Nat.mod_one _
    rw [this,Nat.zero_mul,if_pos rfl]
    unfold top;omega
   have e2:2 ^ 63+m % 2 ^ (0 - 0) * 2 ^ (63 - (0 - 0))=2 ^ 63:=by
    have:m % 2 ^ (0 - 0)=0:=by rw [Nat.sub_self,Nat.pow_zero];exact Nat.mod_one _
    rw [this,Nat.zero_mul,Nat.add_zero]
   rw [e1,e2] at k
   rw [hmo]
   exact ⟨_,_,Fb (by omega),k⟩
  ·have hs:=hcut r (by omega)
   have r4:=r4 (by omega)
   rw [r4] at hs
   have e1:bs (r+1) (2 ^ (r+1) - 2)=List.replicate r 49 ++ [48]:=by
    have hp2:=jy r
    rw [Uk,bs,show (2 ^ (r+1) - 2) / 2=2 ^ r - 1 by rw [Nat.pow_succ];omega]
    congr 1
    unfold IB
    rw [show (2 ^ (r+1) - 2) % 2=0 by rw [Nat.pow_succ];omega]
    rfl
   rw [e1,List.append_assoc] at hs
   have k:=key true r (n - 2 - r) (min (n - 2 - r) 2) ([48] ++ bs (n - 2 - r) m) hs r1 (by omega) (fun c l h=>by
    have:c=48:=(List.cons.inj h).1.symm
    rw [this];decide) rfl (by omega) rfl
   exact ⟨_,_,uu (n:=n) (p:=m) (r:=r) (ones:=true) (by omega) h64 r1 (by omega) (by rw [if_pos rfl];exact r4) rfl rfl,k⟩
end Go.Proofs.Yy.PTx
end
section
namespace Go.Proofs.Yy.PTx
open Go.RowKit Go.Proofs.Yw.PrintWords Go.Proofs.Yw.PrintLast Go.Proofs.Yw.PrintMore Go.Proofs.Yy.SC
theorem aeM {c:UInt8}:dg c=true ↔ (48≤(c.toNat:Int)∧(c.toNat:Int)≤57):=by
 unfold dg;simp only [Bool.and_eq_true,decide_eq_true_iff];omega
theorem abx (l:List UInt8) (hl:l.length≤9223372036854775807):∀ (d i:Nat),i+d=l.length→Ev (fun k=>cO.l0 k (mkB l) (i:Int)) ((i+ld (l.drop i):Nat):Int):=by
 intro d
 induction d with
 | zero =>
  intro i hi
  refine Ev.step (f:=fun _=>some ((i+ld (l.drop i):Nat):Int)) (fun k=>?_) (Ev.now _)
  simp only [cO.l0]
  rw [if_neg (by rw [aY];omega),List.drop_eq_nil_iff.2 (by omega)]
  rfl
 | succ d ih =>
  intro i hi
  have hlt:i<l.length:=by omega
  have hb:=Cf hlt
  have hd:=List.drop_eq_getElem_cons hlt
  by_cases hc:dg (l[i]'hlt)=true
  ·obtain ⟨h1,h2⟩:=aeM.1 hc
   have:=ih (i+1) (by omega)
   refine Ev.step (f:=fun k=>cO.l0 k (mkB l) ((i+1:Nat):Int)) (fun k=>?_) ?_
   ·simp only [cO.l0]
    rw [if_pos (by rw [aY];omega),if_pos (by omega),if_pos (by rw [hb];omega),if_pos (by rw [hb];omega),jb (by omega) (by omega)]
    rfl
   ·have e:i+ld (l.drop i)=i+1+ld (l.drop (i+1)):=by rw [hd,ld,if_pos hc];omega
    rw [e];exact this
  ·refine Ev.step (f:=fun _=>some ((i+ld (l.drop i):Nat):Int)) (fun k=>?_) (Ev.now _)
   have e:i+ld (l.drop i)=i:=by rw [hd,ld,if_neg hc];rfl
   rw [e]
   simp only [cO.l0]
   rw [if_pos (by rw [aY];omega),if_pos (by omega)]
   by_cases h1:(bt (mkB l) (i:Int)) ≥ 48
   ·rw [if_pos h1,if_neg]
    intro h2
    exact hc (aeM.2 ⟨by rw [hb] at h1;omega,by rw [hb] at h2;omega⟩)
   ·rw [if_neg h1]
theorem aaR (l:List UInt8) (i:Nat) (hi:i≤l.length) (hl:l.length≤9223372036854775807):Ev (fun k=>cO.f k (mkB l) (i:Int)) ((i+ld (l.drop i):Nat):Int) :=
 abx l hl (l.length - i) i (by omega)
theorem aeJ {l:List UInt8}:ld l=l.length ↔ l.all dg=true:=by
 induction l with
 | nil=>simp [ld]
 | cons c l ih =>
  by_cases hc:dg c=true
  ·rw [ld,if_pos hc,List.length_cons,List.all_cons,hc,Bool.true_and, ← ih];omega
  ·rw [ld,if_neg hc,List.length_cons,List.all_cons,Bool.eq_false_iff.2 hc];simp
theorem Ud (d:D) (hl:d.ds.length≤9223372036854775807):Ev (fun k=>bW.f k d.nar d.neg (mkB d.ds) d.e) (formed d):=by
 obtain ⟨nar,neg,ds,e⟩:=d
 simp only at hl
 unfold formed
 cases nar with
 | true =>
  refine Ev.congr (f:=fun _=>some (!neg && (ds.isEmpty && decide (e=0)))) (fun k=>?_) (Ev.now _)
  simp only [bW.f,if_true,pO]
  cases neg with
  | true=>rfl
  | false =>
   simp only [Bool.false_eq_true,if_false]
   by_cases h0:ds = []
   ·rw [if_pos h0];subst h0;rfl
   ·rw [if_neg h0,List.isEmpty_eq_false_iff.2 h0];rfl
 | false =>
  have ho:=aaR ds 0 (Nat.zero_le _) hl
  rw [Nat.zero_add,List.drop_zero] at ho
  refine Ev.congr (f:=fun k=>(cO.f k (mkB ds) 0).bind fun t=>(if (mkB ds).toList=([]:List UInt8) then (some false) else (if ((mkB ds).size:Int)≤4096 then (if t=((mkB ds).size:Int) then (if e ≥ (-1000000) then (some (decide (e≤1000000))) else (some false)) else (some false)) else (some false)))) (fun k=>?_) ?_
  ·simp only [bW.f,Bool.false_eq_true,if_false]
  ·refine Ev.bind ho ?_
   refine Ev.congr (fun k=>?_) (Ev.now _)
   simp only [Bool.false_eq_true,if_false,pO,aY]
   have hm:kQ=1000000:=rfl
   by_cases h0:ds = []
   ·rw [if_pos h0];subst h0;rfl
   ·rw [if_neg h0,List.isEmpty_eq_false_iff.2 h0]
    by_cases h1:(ds.length:Int)≤4096
    ·rw [if_pos h1,decide_eq_true (by omega:ds.length≤4096)]
     by_cases h2:ds.all dg=true
     ·rw [if_pos (by rw [aeJ.2 h2]),h2]
      by_cases h3:e ≥ -1000000
      ·rw [if_pos h3,decide_eq_true (by omega : -kQ≤e)]
       rfl
      ·rw [if_neg h3,decide_eq_false (by omega:¬ -kQ≤e)]
       rfl
     ·rw [if_neg (fun h=>h2 (aeJ.1 (by omega))),Bool.eq_false_iff.2 h2]
      rfl
    ·rw [if_neg h1,decide_eq_false (by omega:¬ ds.length≤4096)]
     rfl
theorem Uh (nar neg:Bool):∀ (n:Nat) (l:List UInt8) (e:Int),n=min (tz l) (kQ - e).toNat→hd (· == 48) l=false→l ≠ []→l.length≤9223372036854775807 → -1000000≤e→e≤1000000 →
  Ev (fun k=>ah.l1 k nar neg (mkB l) e) (nar,neg,mkB (l.take (l.length - n)),e+n):=by
 intro n
 induction n with
 | zero =>
  intro l e hn hh h0 hl he1 he2
  have hp:=List.length_pos_iff.2 h0
  have hm:kQ=1000000:=rfl
  refine Ev.step (f:=fun _=>some (nar,neg,mkB (l.take (l.length - 0)),e+((0:Nat):Int))) (fun k=>?_) (Ev.now _)
  simp only [ah.l1]
  rw [Nat.sub_zero,List.take_length,show e+((0:Nat):Int)=e by omega,aY,jb (by omega) (by omega),if_pos (by omega),if_pos (by omega)]
  by_cases hz:tz l=0
  ·have hlast:l.getLast? ≠ some 48:=by
    intro h
    rcases List.eq_nil_or_concat l with h2|⟨q,c,rfl⟩
    ·exact h0 h2
    ·have hc:c=48:=by simpa using h
     subst hc
     have h3:=XH q
     unfold tz at hz
     rw [List.concat_eq_append,BR,List.length_append] at hz
     simp at hz
     omega
   rw [if_neg]
   intro hb
   apply hlast
   have e1:((l.length:Int) - 1)=((l.length - 1:Nat):Int):=by omega
   rw [e1,Cf (by omega:l.length - 1<l.length)] at hb
   rw [List.getLast?_eq_getElem?, List.getElem?_eq_getElem (by omega:l.length - 1<l.length)]
   congr 1
   exact UInt8.toNat_inj.1 (by have:(48:UInt8).toNat=48:=rfl;omega)
  ·have:¬ e<1000000:=by omega
   by_cases hb:bt (mkB l) ((l.length:Int) - 1)=48
   ·rw [if_pos hb,if_neg this]
   ·rw [if_neg hb]
 | succ n ih =>
  intro l e hn hh h0 hl he1 he2
  have hp:=List.length_pos_iff.2 h0
  have hm:kQ=1000000:=rfl
  have hz:tz l≠0:=by omega
  obtain ⟨q,c,rfl⟩:∃ q c,l=q ++ [c]:=by
   rcases List.eq_nil_or_concat l with h2|⟨q,c,h2⟩
   ·exact absurd h2 h0
   ·exact ⟨q,c,by rw [h2,List.concat_eq_append]⟩
  have hc:c=48:=by
   by_cases hc:c=48
   ·exact hc
   ·exact absurd (aa2 (by simpa using hc)) hz
  subst hc
  have hq0:q ≠ []:=by
   rintro rfl
   simp [hd] at hh
  have hlen:(q ++ [48]).length=q.length+1:=by simp
  have htz:tz (q ++ [48])=tz q+1:=by
   have:=XH q
   unfold tz;rw [BR,hlen];omega
  have hq:hd (· == 48) q=false:=by
   cases q with
   | nil=>exact absurd rfl hq0
   | cons a q=>exact hh
  have key:=ih q (e+1) (by rw [htz] at hn;omega) hq hq0 (by omega) (by omega) (by rw [htz] at hn;omega)
  have hb:bt (mkB (q ++ [48])) (((q ++ [48]).length:Int) - 1)=48:=by
   have e1:(((q ++ [48]).length:Int) - 1)=(q.length:Int):=by rw [hlen];omega
   rw [e1,Cf (by rw [hlen];omega)]
   simp
  have ew:wrap64 (((q ++ [48]).length:Int) - 1)=((q ++ [48]).length:Int) - 1:=jb (by omega) (by omega)
  refine Ev.step (f:=fun k=>ah.l1 k nar neg (mkB q) (e+1)) (fun k=>?_) ?_
  ·simp only [ah.l1]
   rw [aY,ew,if_pos (by omega),if_pos (by omega),if_pos hb,if_pos (by omega),if_pos (by omega),jb (n:=e+1) (by omega) (by omega)]
   have e2:(((q ++ [48]).length:Int) - 1).toNat=q.length:=by rw [hlen];omega
   rw [e2,qH _ _ (by rw [hlen];omega),List.take_left' rfl]
  ·have e3:(q ++ [48]).take ((q ++ [48]).length - (n+1))=q.take (q.length - n):=by
    rw [hlen,show q.length+1 - (n+1)=q.length - n by omega,List.take_append_of_le_length (by omega)]
   rw [e3,show e+((n+1:Nat):Int)=e+1+(n:Int) by omega]
   exact key
theorem UC (neg:Bool) (e:Int) (ds:List UInt8) (hl:ds.length≤9223372036854775807) (he1 : -1000000≤e) (he2:e≤1000000):∀ (d i:Nat),i+d=ds.length→lz (ds.drop i)=lz ds →
  Ev (fun k=>ah.l0 k (i:Int) false neg (mkB ds) e) (zX (nrm ⟨false,neg,ds,e⟩)):=by
 have stop:∀ i:Nat,i≤ds.length→ds.drop i=lz ds→Ev (fun k=>ah.j1 k (i:Int) false neg (mkB ds) e) (zX (nrm ⟨false,neg,ds,e⟩)):=by
  intro i hi hd
  unfold zX nrm
  simp only [Bool.false_eq_true,if_false]
  by_cases h0:lz ds = []
  ·rw [if_pos h0]
   have:i=ds.length:=by rw [h0,List.drop_eq_nil_iff] at hd;omega
   refine Ev.step (f:=fun _=>some (false,false,mkB [48],0)) (fun k=>?_) (Ev.now _)
   simp only [ah.j1]
   rw [if_pos (by rw [aY,this])]
   rfl
  ·rw [if_neg h0]
   have hne:¬ (i:Int)=((mkB ds).size:Int):=by
    intro h
    rw [aY] at h
    apply h0
    rw [← hd,List.drop_eq_nil_iff];omega
   have hll:=Uz ds
   refine Ev.step (f:=fun k=>ah.l1 k false neg (mkB (lz ds)) e) (fun k=>?_) (Uh false neg _ (lz ds) e rfl (Zw ds) h0 (by omega) he1 he2)
   simp only [ah.j1]
   rw [if_neg hne,if_pos (by omega),if_pos (by rw [aY];omega),Int.toNat_natCast,qC,hd]
 intro d
 induction d with
 | zero =>
  intro i hi hz
  have hn:ds.drop i = []:=List.drop_eq_nil_iff.2 (by omega)
  refine Ev.step (f:=fun k=>ah.j1 k (i:Int) false neg (mkB ds) e) (fun k=>?_) (stop i (by omega) (by rw [← hz,hn];rfl))
  simp only [ah.l0]
  rw [if_neg (by rw [aY];omega)]
 | succ d ih =>
  intro i hi hz
  have hlt:i<ds.length:=by omega
  have hb:=Cf hlt
  have hdr:=List.drop_eq_getElem_cons hlt
  by_cases hc:ds[i]'hlt=48
  ·have hc2:bt (mkB ds) (i:Int)=48:=by rw [hb,hc];rfl
   refine Ev.step (f:=fun k=>ah.l0 k ((i+1:Nat):Int) false neg (mkB ds) e) (fun k=>?_) (ih (i+1) (by omega) ?_)
   ·simp only [ah.l0]
    rw [if_pos (by rw [aY];omega),if_pos (by omega),if_pos hc2,jb (by omega) (by omega)]
    rfl
   ·rw [← hz,hdr,hc]
    have:=Fh 1 (ds.drop (i+1))
    simpa using this.symm
  ·have hc2:¬ bt (mkB ds) (i:Int)=48:=by
    intro h
    rw [hb] at h
    exact hc (UInt8.toNat_inj.1 (by have:(48:UInt8).toNat=48:=rfl;omega))
   have hcb:((ds[i]'hlt) == 48)=false:=beq_eq_false_iff_ne.2 hc
   refine Ev.step (f:=fun k=>ah.j1 k (i:Int) false neg (mkB ds) e) (fun k=>?_) (stop i (by omega) ?_)
   ·simp only [ah.l0]
    rw [if_pos (by rw [aY];omega),if_pos (by omega),if_neg hc2]
   ·rw [← hz]
    exact (aeF (by rw [hdr];exact hcb)).symm
theorem IJ (d:D) (hl:d.ds.length≤9223372036854775807) (he1 : -1000000≤d.e) (he2:d.e≤1000000):Ev (fun k=>ah.f k d.nar d.neg (mkB d.ds) d.e) (zX (nrm d)):=by
 obtain ⟨nar,neg,ds,e⟩:=d
 cases nar with
 | true =>
  refine Ev.congr (fun k=>?_) (Ev.now _)
  simp only [ah.f,if_true]
  rfl
 | false =>
  refine Ev.congr (f:=fun k=>ah.l0 k ((0:Nat):Int) false neg (mkB ds) e) (fun k=>?_) (UC neg e ds hl he1 he2 ds.length 0 (by omega) (by rw [List.drop_zero]))
  simp only [ah.f,Bool.false_eq_true,if_false]
  rfl
theorem PR (n:Nat) (hn:n≤1000000):∀ (d i:Nat),i+d=n→Ev (fun k=>bC.l0 k (n:Int) (mkB (List.replicate i 48)) (i:Int)) (mkB (List.replicate n 48)):=by
  intro d
  induction d with
  | zero =>
    intro i hi
    obtain rfl:i=n:=by omega
    refine Ev.step (fun k=>rfl) ?_
    simp only [bC.l0]
    have c:¬ (i:Int)<(i:Int):=by omega
    simp only [if_neg c]
    exact Ev.now _
  | succ d ih =>
    intro i hi
    refine Ev.step (fun k=>rfl) ?_
    simp only [bC.l0]
    have c:(i:Int)<(n:Int):=by omega
    have c2:(mkB (List.replicate i 48)).size+1≤9223372036854775807:=by rw [aY,List.length_replicate];omega
    have hw:wrap64 ((i:Int)+1)=((i+1:Nat):Int):=jb (by omega) (by omega)
    have e1:mkB (List.replicate i 48) ++ (⟨#[48]⟩:ByteArray)=mkB (List.replicate (i+1) 48):=by
      have:(⟨#[48]⟩:ByteArray)=mkB [48]:=rfl
      rw [this,fO,List.replicate_succ']
    simp only [if_pos c,if_pos c2,hw,e1]
    exact ih (i+1) (by omega)
theorem EZ (n:Nat) (hn:n≤1000000):Ev (fun k=>bC.f k (n:Int)) (mkB (List.replicate n 48)):=PR n hn n 0 (by omega)
def zq (b:Bool):List UInt8:=if b=true then [45] else []
theorem aav (b:Bool):(zq b).length≤1:=by cases b <;> decide
theorem e46:(⟨#[46]⟩:ByteArray)=mkB [46]:=rfl
theorem SK:(⟨#[101]⟩:ByteArray)=mkB [101]:=rfl
theorem zI:(⟨#[48,46]⟩:ByteArray)=mkB [48,46]:=rfl
theorem aff (n:Int) (h0 : -9223372036854775808≤n) (h1:n≤9223372036854775807):dM.f n=some (mkB (Lib.itoa n)):=by
  unfold dM.f
  rw [if_pos ⟨h0,h1⟩]
  rfl
theorem Sv (N:D) (hnar:N.nar=false) (hl:N.ds.length≤4096) (h1:0<N.ds.length) (he1 : -1000000≤N.e) (he2:N.e≤1000000) :
    Ev (fun k=>aG.j0 k (mkB (zq N.neg)) N.nar N.neg (mkB N.ds) N.e) (mkB (qp N),0):=by
  have hsg:=aav N.neg
  have htx:qp N=zq N.neg ++ (let a:Int:=N.ds.length+N.e
     if 0≤N.e∧a≤21 then N.ds ++ List.replicate N.e.toNat 48
     else if 1≤a∧a≤21 then N.ds.take a.toNat ++ [46] ++ N.ds.drop a.toNat
     else if -5≤a∧a≤0 then [48,46] ++ List.replicate (-a).toNat 48 ++ N.ds
     else N.ds.take 1 ++ (if 1<N.ds.length then [46] ++ N.ds.drop 1 else []) ++ [101] ++ Lib.itoa (a - 1)):=by
    unfold qp zq
    rw [if_neg (by rw [hnar];decide)]
  obtain ⟨a,ha⟩:∃ a:Int,a=(N.ds.length:Int)+N.e:=⟨_,rfl⟩
  have hw:wrap64 (((mkB N.ds).size:Int)+N.e)=a:=by rw [aY, ← ha];exact jb (by omega) (by omega)
  simp only [← ha] at htx
  -- the last form
  have last:(¬ (0≤N.e∧a≤21))→(¬ (1≤a∧a≤21))→(¬ (-5≤a∧a≤0))→Ev (fun k=>aG.j3 k (mkB (zq N.neg)) a false N.nar N.neg (mkB N.ds) N.e) (mkB (qp N),0):=by
    intro n1 n2 n3
    rw [if_neg n1,if_neg n2,if_neg n3] at htx
    refine Ev.step (fun k=>rfl) ?_
    simp only [aG.j3]
    have c0:¬ (false=true):=by decide
    have c1:(1:Int)≤((mkB N.ds).size:Int):=by rw [aY];omega
    have hi:dM.f (wrap64 (a - 1))=some (mkB (Lib.itoa (a - 1))):=by rw [jb (by omega) (by omega)];exact aff _ (by omega) (by omega)
    have ht:(mkB N.ds).extract 0 1=mkB (N.ds.take 1):=qH _ _ (by omega)
    have hd:(mkB N.ds).extract 1 (mkB N.ds).size=mkB (N.ds.drop 1):=qC _ _
    have hil:=zW (a - 1) (by omega)
    have t1:(N.ds.take 1).length=1:=by rw [List.length_take];omega
    have d1:(N.ds.drop 1).length=N.ds.length - 1:=List.length_drop ..
    rw [ht,hd,hi]
    have k1:(mkB (zq N.neg)).size+(mkB (N.ds.take 1)).size≤9223372036854775807:=by rw [aY,aY];omega
    simp only [if_neg c0,if_pos (show (0:Int)≤1 by decide),if_pos c1,if_pos k1,e46,SK,fO,Option.bind_some]
    by_cases hlong:1<N.ds.length
    · have c2:((mkB N.ds).size:Int) > 1:=by rw [aY];omega
      have k2:(mkB (zq N.neg ++ N.ds.take 1)).size+1≤9223372036854775807:=by rw [aY,List.length_append];omega
      have k3:(mkB (zq N.neg ++ N.ds.take 1 ++ [46])).size+(mkB (N.ds.drop 1)).size≤9223372036854775807:=by rw [aY,aY,List.length_append,List.length_append];simp only [List.length_singleton];omega
      have k4:(mkB (zq N.neg ++ N.ds.take 1 ++ [46] ++ N.ds.drop 1)).size+1≤9223372036854775807:=by rw [aY,List.length_append,List.length_append,List.length_append];simp only [List.length_singleton];omega
      have k5:(mkB (zq N.neg ++ N.ds.take 1 ++ [46] ++ N.ds.drop 1 ++ [101])).size+(mkB (Lib.itoa (a - 1))).size≤9223372036854775807:=by rw [aY,aY,List.length_append,List.length_append,List.length_append,List.length_append];simp only [List.length_singleton];omega
      simp only [if_pos c2,if_pos k2,if_pos k3,if_pos k4,if_pos k5]
      rw [if_pos hlong] at htx
      refine Ev.congr (fun k=>?_) (Ev.now _)
      rw [htx]
      simp only [List.append_assoc]
      rfl
    · have c2:¬ ((mkB N.ds).size:Int) > 1:=by rw [aY];omega
      have k2:(mkB (zq N.neg ++ N.ds.take 1)).size+1≤9223372036854775807:=by rw [aY,List.length_append];omega
      have k5:(mkB (zq N.neg ++ N.ds.take 1 ++ [101])).size+(mkB (Lib.itoa (a - 1))).size≤9223372036854775807:=by rw [aY,aY,List.length_append,List.length_append];simp only [List.length_singleton];omega
      simp only [if_neg c2,if_pos k2,if_pos k5]
      rw [if_neg hlong] at htx
      refine Ev.congr (fun k=>?_) (Ev.now _)
      rw [htx]
      simp only [List.append_assoc,List.nil_append,List.append_nil]
      rfl
  have j3t:¬ (0≤N.e∧a≤21) → ¬ (1≤a∧a≤21) → -5≤a→Ev (fun k=>aG.j3 k (mkB (zq N.neg)) a (decide (a≤0)) N.nar N.neg (mkB N.ds) N.e) (mkB (qp N),0):=by
    intro n1 n2 h3
    by_cases h4:a≤0
    · rw [if_neg n1,if_neg n2,if_pos ⟨h3,h4⟩] at htx
      rw [decide_eq_true h4]
      refine Ev.step (fun k=>rfl) ?_
      simp only [aG.j3,if_true]
      have k1:(mkB (zq N.neg)).size+2≤9223372036854775807:=by rw [aY];omega
      have hwn:wrap64 (-a)=(((-a).toNat:Nat):Int):=by rw [jb (by omega) (by omega)];omega
      simp only [if_pos k1,hwn]
      refine Ev.bind (EZ (-a).toNat (by omega)) ?_
      have k2:(mkB (zq N.neg) ++ (⟨#[48,46]⟩:ByteArray)).size+(mkB (List.replicate (-a).toNat 48)).size≤9223372036854775807:=by rw [zI,fO,aY,aY,List.length_append,List.length_replicate];simp only [List.length_cons,List.length_nil];omega
      have k3:((mkB (zq N.neg) ++ (⟨#[48,46]⟩:ByteArray)) ++ mkB (List.replicate (-a).toNat 48)).size+(mkB N.ds).size≤9223372036854775807:=by rw [zI,fO,fO,aY,aY,List.length_append,List.length_append,List.length_replicate];simp only [List.length_cons,List.length_nil];omega
      simp only [if_pos k2,if_pos k3]
      refine Ev.congr (fun k=>?_) (Ev.now _)
      rw [htx,zI]
      simp only [fO,List.append_assoc]
    · rw [decide_eq_false h4]
      exact last n1 n2 (by omega)
  have j2a:¬ (0≤N.e∧a≤21) → ∀ b:Bool,(b=true ↔ (1≤a∧a≤21))→Ev (fun k=>aG.j2 k (mkB (zq N.neg)) a b N.nar N.neg (mkB N.ds) N.e) (mkB (qp N),0):=by
    intro n1 b hb
    refine Ev.step (fun k=>rfl) ?_
    simp only [aG.j2]
    by_cases h:1≤a∧a≤21
    · rw [if_neg n1,if_pos h] at htx
      have hbt:=hb.2 h
      have k0:(0:Int)≤a:=by omega
      have k1:a≤((mkB N.ds).size:Int):=by rw [aY];omega
      have ht:(mkB N.ds).extract 0 a.toNat=mkB (N.ds.take a.toNat):=qH _ _ (by omega)
      have hd:(mkB N.ds).extract a.toNat (mkB N.ds).size=mkB (N.ds.drop a.toNat):=qC _ _
      have tl:(N.ds.take a.toNat).length≤N.ds.length:=by rw [List.length_take];omega
      have dl:(N.ds.drop a.toNat).length≤N.ds.length:=by rw [List.length_drop];omega
      rw [ht,hd]
      have k2:(mkB (zq N.neg)).size+(mkB (N.ds.take a.toNat)).size≤9223372036854775807:=by rw [aY,aY];omega
      have k3:(mkB (zq N.neg ++ N.ds.take a.toNat)).size+1≤9223372036854775807:=by rw [aY,List.length_append];omega
      have k4:(mkB (zq N.neg ++ N.ds.take a.toNat ++ [46])).size+(mkB (N.ds.drop a.toNat)).size≤9223372036854775807:=by rw [aY,aY,List.length_append,List.length_append];simp only [List.length_singleton];omega
      simp only [if_pos hbt,if_pos k0,if_pos k1,if_pos k2,e46,fO,if_pos k3,if_pos k4]
      refine Ev.congr (fun k=>?_) (Ev.now _)
      rw [htx]
      simp only [List.append_assoc]
    · have hbf:¬ b=true:=fun h'=>h (hb.1 h')
      simp only [if_neg hbf]
      by_cases h3:a ≥ -5
      · simp only [if_pos h3]
        exact j3t n1 h h3
      · simp only [if_neg h3]
        exact last n1 h (by omega)
  have j1a:∀ b:Bool,(b=true ↔ (0≤N.e∧a≤21))→Ev (fun k=>aG.j1 k (mkB (zq N.neg)) a b N.nar N.neg (mkB N.ds) N.e) (mkB (qp N),0):=by
    intro b hb
    refine Ev.step (fun k=>rfl) ?_
    simp only [aG.j1]
    by_cases h:0≤N.e∧a≤21
    · rw [if_pos h] at htx
      have hbt:=hb.2 h
      have hen:N.e=((N.e.toNat:Nat):Int):=by omega
      have k1:(mkB (zq N.neg)).size+(mkB N.ds).size≤9223372036854775807:=by rw [aY,aY];omega
      simp only [if_pos hbt,if_pos k1]
      have hno:=EZ N.e.toNat (by omega)
      rw [← hen] at hno
      refine Ev.bind hno ?_
      have k2:(mkB (zq N.neg) ++ mkB N.ds).size+(mkB (List.replicate N.e.toNat 48)).size≤9223372036854775807:=by rw [fO,aY,aY,List.length_append,List.length_replicate];omega
      simp only [if_pos k2]
      refine Ev.congr (fun k=>?_) (Ev.now _)
      rw [htx]
      simp only [fO,List.append_assoc]
    · have hbf:¬ b=true:=fun h'=>h (hb.1 h')
      simp only [if_neg hbf]
      by_cases h3:a ≥ 1
      · simp only [if_pos h3]
        exact j2a h (decide (a≤21)) (by rw [decide_eq_true_iff];omega)
      · simp only [if_neg h3]
        exact j2a h false (by constructor <;> intro h'; · cases h'
                              · omega)
  refine Ev.step (fun k=>rfl) ?_
  simp only [aG.j0,hw]
  by_cases h:N.e ≥ 0
  · simp only [if_pos h]
    exact j1a (decide (a≤21)) (by rw [decide_eq_true_iff];omega)
  · simp only [if_neg h]
    exact j1a false (by constructor <;> intro h'; · cases h'
                        · omega)
theorem OZ (d:D) (hl:d.ds.length≤9223372036854775807):Ev (fun k=>aG.f k d.nar d.neg (mkB d.ds) d.e) (if formed d=true then (mkB (qp (nrm d)),0) else (mkB [],23)):=by
  unfold aG.f
  refine Ev.bind (Ud d hl) ?_
  by_cases h:formed d=true
  · obtain ⟨h1,h2,h3⟩:=oO h
    rw [if_pos h]
    simp only [if_pos h]
    refine Ev.bind (IJ d hl h2 h3) ?_
    have hN:=GN h
    obtain ⟨n1,n2,n3⟩:=oO (sG hN)
    unfold zX
    simp only
    by_cases hn:(nrm d).nar=true
    · simp only [if_pos hn]
      refine Ev.congr (fun k=>?_) (Ev.now _)
      unfold qp
      rw [if_pos hn]
      rfl
    · have hnf:(nrm d).nar=false:=Bool.eq_false_iff.2 hn
      have hne:0<(nrm d).ds.length:=by
        rcases hN with h1|⟨_,_,h1,_⟩
        · rw [h1] at hn;exact absurd rfl hn
        · exact List.length_pos_iff.2 h1
      have key:=Sv (nrm d) hnf n1 hne n2 n3
      simp only [if_neg hn]
      by_cases hg:(nrm d).neg=true
      · simp only [if_pos hg]
        have:zq (nrm d).neg = [45]:=by unfold zq;rw [if_pos hg]
        rw [this] at key
        exact key
      · simp only [if_neg hg]
        have:zq (nrm d).neg = []:=by unfold zq;rw [if_neg hg]
        rw [this] at key
        exact key
  · rw [if_neg h]
    simp only [if_neg h]
    exact Ev.now _
end Go.Proofs.Yy.PTx
end
section
set_option maxHeartbeats 8000000
set_option maxRecDepth 100000
namespace Go.Proofs.Yy.PTx
open Go.RowKit Go.Proofs.Yy.Z Go.Proofs.Yw.PrintWords Go.Proofs.Yw.PrintLast Go.Proofs.Yw.PrintMore
open Go.Proofs.Yy.M
attribute [local go_sem] dw dQ lD lF lC lG
attribute [local go_sem] gy gz ja jc fC fD gQ gK
attribute [local go_sem high] aeT
def fZ.f (k:Nat) (a0:Int) (a1:Int):Option (ByteArray × Int):=(fK.f a0).bind fun adM=>(if adM=true then ((aA.f k a0 a1).bind fun OQ=>((aG.f k OQ.1 OQ.2.1 OQ.2.2.1 OQ.2.2.2).bind fun aal=>(some (aal.1,aal.2)))) else (some ((⟨#[]⟩:ByteArray),2)))
theorem fZ.calls (k:Nat) (a0:Int) (a1:Int) (r1:ByteArray) (r2:Int) (w:World) (h:fZ.f k a0 a1=some (r1,r2)) (htab:Fx.Laid w:=by exact Fx.Laid.below HTAB.out (by repeat (first|(with_reducible first|exact HB.out|apply bz|apply aI|apply aZ|refine bu ?_ (ae.out (by assumption)))|exact HB.out))) :
    Calls Tryz.prog 19 #[.int .i64 a0, .int .u64 a1] w fun e w'=>e = .returned (.tuple #[.string r1, .int .i64 r2])∧Below w.heap.size w w':=by
 have HTAB:=am htab
 clear htab
 have HB:=am (Below.refl w.heap.size w)
 have H:=am h
 unfold fZ.f at H
 clear h
 replace H:=zo H
 obtain ⟨adM,A3,H⟩:=H
 cases adM
 replace H:=zb0 H
 obtain ⟨rfl,rfl⟩:=zJ2 H
 rotate_left
 replace H:=zb1 H
 replace H:=zo H
 obtain ⟨⟨aFa,aFb,aFc,aFd⟩,A5,H⟩:=H
 try dsimp only at H
 replace H:=zo H
 obtain ⟨⟨aFe,aFf⟩,A6,H⟩:=H
 try dsimp only at H
 obtain ⟨rfl,rfl⟩:=zJ2 H
 rotate_left
 all_goals (go_enter Tryz.func19,Tryz.ntmps19;go_wp2_with (first|((with_reducible refine af (f:=36) rfl ?_);refine zc (some 8) Tryz.func36 _ (fK.calls _ _ _ A3.out) ?_;rintro e w' ⟨rfl,⟨nd,rfl⟩⟩;refine ⟨_,rfl,?_⟩)|((with_reducible refine af (f:=54) rfl ?_);refine zc (some 13) Tryz.func54 _ (aA.calls _ _ _ _ _ _ _ _ A5.out) ?_;rintro e w7 ⟨rfl,hb⟩;refine ⟨_,rfl,?_⟩;replace HB:=zBs HB hb;clear hb)|((with_reducible refine af (f:=55) rfl ?_);refine zc (some 14) Tryz.func55 _ (aG.calls _ _ _ _ _ _ _ _ A6.out) ?_;rintro e w8 ⟨rfl,hb⟩;refine ⟨_,rfl,?_⟩;replace HB:=zBs HB hb;clear hb)))
 ·go_ret2
  exact ⟨z2,zB HB⟩
 go_ret2
 exact ⟨z2,zB HB⟩
def dZ.f (k:Nat) (a0:Int) (a1:Int):Option (Bool):=(dJ.f k).bind fun adN=>((aN.f k a0 a1).bind fun JX=>((lm.f k a0 a1).bind fun aam=>((fB.f k a0 a1).bind fun JY=>((fZ.f k a0 a1).bind fun aan=>(if adN=true then (if (JX.1 == JY.1 && (JX.2.1 == JY.2.1 && (JX.2.2.1.toList == JY.2.2.1.toList && (JX.2.2.2.1 == JY.2.2.2.1))))=true then (if aam.1.toList=aan.1.toList then ((gU.f JX.2.2.2.2).bind fun adO=>(if adO=JY.2.2.2.2 then ((gU.f aam.2).bind fun adP=>(some (adP == aan.2))) else (some false))) else (some false)) else (some false)) else (some false))))))
theorem dZ.calls (k:Nat) (a0:Int) (a1:Int) (r:Bool) (w:World) (h:dZ.f k a0 a1=some r) (hr_:r=true:=by rfl) (htab:Fx.Laid w:=by exact Fx.Laid.below HTAB.out (by repeat (first|(with_reducible first|exact HB.out|apply bz|apply aI|apply aZ|refine bu ?_ (ae.out (by assumption)))|exact HB.out))) :
    Calls Tryz.prog 4 #[.int .i64 a0, .int .u64 a1] w fun e w'=>e = .returned (.bool r)∧Below w.heap.size w w':=by
 have HTAB:=am htab
 clear htab
 have HRT:=am hr_
 clear hr_
 have Ql:=Tryz.underlying23
 have HB:=am (Below.refl w.heap.size w)
 have H:=am h
 unfold dZ.f at H
 clear h
 replace H:=zo H
 obtain ⟨adN,A3,H⟩:=H
 replace H:=zo H
 obtain ⟨⟨Np,Nq,Nr,Ns,asj⟩,A4,H⟩:=H
 try dsimp only at H
 replace H:=zo H
 obtain ⟨⟨aFg,asl⟩,A5,H⟩:=H
 try dsimp only at H
 replace H:=zo H
 obtain ⟨⟨Nu,Nv,Nw,Ny,aFh⟩,A6,H⟩:=H
 try dsimp only at H
 replace H:=zo H
 obtain ⟨⟨aFi,aFj⟩,A7,H⟩:=H
 try dsimp only at H
 cases adN
 ·replace H:=zb0 H
  exact absurd (Option.some.inj H.out) (by rw [HRT.out];decide)
 replace H:=zb1 H
 replace H:=zs H
 rcases H with ⟨c9,H⟩|⟨c9,H⟩
 ·have yI:(Np == Nu && (Nq == Nv && (Nr.toList == Nw.toList && (Ns == Ny))))=true:=c9
  (try (have Ed:decide (Np=Nu && (Nq == Nv && (Nr.toList == Nw.toList && (Ns == Ny))))=true:=by simpa using c9))
  (try (have aow:(Np == Nu && (Nq == Nv && (Nr.toList == Nw.toList && (Ns == Ny))))=true:=by simpa using c9))
  clear c9
  replace H:=zsk H
  rcases H with ⟨qx,xx,H⟩|⟨qx,xx,c10,H⟩
  ·replace H:=zo H
   obtain ⟨adO,A11,H⟩:=H
   replace H:=zsk H
   rcases H with ⟨nO,rH,H⟩|⟨nO,rH,c12,H⟩
   ·replace H:=zo H
    obtain ⟨adP,A13,H⟩:=H
    clear HRT
    obtain rfl:=Option.some.inj H.out
    go_enter Tryz.func4,Tryz.ntmps4
    go_wp2_with (first|((with_reducible refine af (f:=12) rfl ?_);refine zc (some 14) Tryz.func12 _ (dJ.calls _ _ _ A3.out) ?_;rintro e w14 ⟨rfl,hb⟩;refine ⟨_,rfl,?_⟩;replace HB:=zBs HB hb;clear hb)|((with_reducible refine af (f:=16) rfl ?_);refine zc (some 18) Tryz.func16 _ (aN.calls _ _ _ _ _ _ _ _ _ A4.out) ?_;rintro e w15 ⟨rfl,hb⟩;refine ⟨_,rfl,?_⟩;replace HB:=zBs HB hb;clear hb;(try simp only [ak,aj]))|((with_reducible refine ay (N:=6) rfl ?_);refine zx 6 23 #[.bool false, .bool false, .string (⟨#[]⟩:ByteArray), .int .i64 0] ?_;intro awF hg w16 hbox hb;have uT:=am (hbox);have awG:=zG hg HB;have awH:=zG hg HB;replace HB:=zBs HB hb;clear hb hbox hg;obtain ⟨_,_,_,_,_,_,_,_⟩:=zf4 uT)|((with_reducible refine af (f:=17) rfl ?_);refine zc (some 24) Tryz.func17 _ (lm.calls _ _ _ _ _ _ A5.out) ?_;rintro e w18 ⟨rfl,hb⟩;refine ⟨_,rfl,?_⟩;replace uT:=am (bU (zKp uT) hb);replace HB:=zBs HB hb;clear hb;(try simp only [ak,aj]))|((with_reducible refine af (f:=18) rfl ?_);refine zc (some 30) Tryz.func18 _ (fB.calls _ _ _ _ _ _ _ _ _ A6.out) ?_;rintro e w19 ⟨rfl,hb⟩;refine ⟨_,rfl,?_⟩;replace uT:=zKb uT hb;replace HB:=zBs HB hb;clear hb)|((with_reducible refine ay (N:=10) rfl ?_);refine zx 10 23 #[.bool false, .bool false, .string (⟨#[]⟩:ByteArray), .int .i64 0] ?_;intro awI hg w20 hbox hb;have OT:=am (hbox);have awJ:=zG hg HB;have awK:=zG hg HB;replace HB:=zBs HB hb;have Nz:=zNl hg uT;have NC:=zNg hg uT;replace uT:=zKb uT hb;clear hb hbox hg;have als:=NC.out;have alu:=Nz.out;obtain ⟨_,_,_,_,_,_,_,_⟩:=zf4 OT)|((with_reducible refine af (f:=19) rfl ?_);refine zc (some 36) Tryz.func19 _ (fZ.calls _ _ _ _ _ _ A7.out) ?_;rintro e w23 ⟨rfl,hb⟩;refine ⟨_,rfl,?_⟩;replace uT:=zKb uT hb;replace OT:=am (bU (zKp OT) hb);replace HB:=zBs HB hb;clear hb;obtain ⟨_,_,_,_,_,_,_,_⟩:=zf4 uT;obtain ⟨_,_,_,_,_,_,_,_⟩:=zf4 OT;have awL:=fun W=>gU.calls asj adO W A11.out;try simp only [ak,aj] at awL)|(go_at_call 15;(with_reducible refine (awL _).mono ?_);rintro e w' ⟨rfl,⟨nd,rfl⟩⟩;have awM:=fun W=>gU.calls asl adP W A13.out;try simp only [ak,aj] at awM)|(go_at_call 15;(with_reducible refine (awM _).mono ?_);rintro e w' ⟨rfl,⟨nd,rfl⟩⟩))
    go_ret
    exact ⟨z2,zB HB⟩
   exact absurd (Option.some.inj H.out) (by rw [HRT.out];decide)
  exact absurd (Option.some.inj H.out) (by rw [HRT.out];decide)
 have yI:(Np == Nu && (Nq == Nv && (Nr.toList == Nw.toList && (Ns == Ny))))=false:=by simpa using c9
 (try (have Ed:decide (Np=Nu && (Nq == Nv && (Nr.toList == Nw.toList && (Ns == Ny))))=false:=by simpa using c9))
 (try (have aow:(Np == Nu && (Nq == Nv && (Nr.toList == Nw.toList && (Ns == Ny))))=false:=by simpa using c9))
 (try (have aKt:¬ (Np=Nu && (Nq == Nv && (Nr.toList == Nw.toList && (Ns == Ny)))):=by simpa using c9))
 clear c9
 exact absurd (Option.some.inj H.out) (by rw [HRT.out];decide)
end Go.Proofs.Yy.PTx
end
