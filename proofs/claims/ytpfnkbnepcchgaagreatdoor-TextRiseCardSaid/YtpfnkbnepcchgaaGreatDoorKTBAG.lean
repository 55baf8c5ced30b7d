/- Part 7 of what the proof needs. -/
import Derived.Lib.TrailingZeros
import Derived.LaidEql
import Derived.Stop.Asserts
import Derived.Lib.LaidTab
import Derived.Test.YtpfnkbnepcchgaaGreatDoorKTBAF
set_option linter.unusedSimpArgs false
set_option linter.unusedVariables false
section
namespace Go.Proofs.Yw.PrintMore
open Go.RowKit Go.Proofs.Yw.PrintWords
namespace Kd
open Go.Proofs.Yw.PrintWords.Kd
end Kd
namespace Kd
open Go.Proofs.Yw.PrintWords.Kd
end Kd
theorem max2_int (k k':IntKind) (x y:Int):Builtin.max2 (.int k x) (.int k' y)=pure (.int k (if x<y then y else x)):=by simp only [Builtin.max2,gt_iff_lt]
theorem min2_int (k k':IntKind) (x y:Int):Builtin.min2 (.int k x) (.int k' y)=pure (.int k (if y<x then y else x)):=by simp only [Builtin.min2]
theorem max_two (ats:Array TypeId) (ty:TypeId) (a b:Value):Builtin.max_ ats ty #[a,b]=(Builtin.max2 a b >>= fun s=>pure s):=by simp only [Builtin.max_,List.foldlM_cons,List.foldlM_nil]
theorem min_two (ats:Array TypeId) (ty:TypeId) (a b:Value):Builtin.min_ ats ty #[a,b]=(Builtin.min2 a b >>= fun s=>pure s):=by simp only [Builtin.min_,List.foldlM_cons,List.foldlM_nil]
theorem max_three (ats:Array TypeId) (ty:TypeId) (a b c:Value):Builtin.max_ ats ty #[a,b,c]=(Builtin.max2 a b >>= fun s=>Builtin.max2 s c >>= fun s=>pure s):=by simp only [Builtin.max_,List.foldlM_cons,List.foldlM_nil]
theorem min_three (ats:Array TypeId) (ty:TypeId) (a b c:Value):Builtin.min_ ats ty #[a,b,c]=(Builtin.min2 a b >>= fun s=>Builtin.min2 s c >>= fun s=>pure s):=by simp only [Builtin.min_,List.foldlM_cons,List.foldlM_nil]
theorem max_four (ats:Array TypeId) (ty:TypeId) (a b c d:Value):Builtin.max_ ats ty #[a,b,c,d]=(Builtin.max2 a b >>= fun s=>Builtin.max2 s c >>= fun s=>Builtin.max2 s d >>= fun s=>pure s):=by simp only [Builtin.max_,List.foldlM_cons,List.foldlM_nil]
theorem min_four (ats:Array TypeId) (ty:TypeId) (a b c d:Value):Builtin.min_ ats ty #[a,b,c,d]=(Builtin.min2 a b >>= fun s=>Builtin.min2 s c >>= fun s=>Builtin.min2 s d >>= fun s=>pure s):=by simp only [Builtin.min_,List.foldlM_cons,List.foldlM_nil]
end Go.Proofs.Yw.PrintMore
namespace Go.Proofs.Yw.PrintWords
open Go.RowKit
section
variable {P:Program} {ops:Array Oper} {rest:List Oper} {o:Oper} {a:Act} {Q:Exit→Act→World→Prop} {W:World}
theorem gate_callee {f:FuncId} {as_:Array Operand} {ts:Array TypeId} (_ho:o.op = .call { callee := .value (.func f),args:=as_,argTypes:=ts }) (h:wpList P ops Q (o :: rest) a W):wpList P ops Q (o :: rest) a W:=h
theorem gate_builtin {b:Builtin} {xs:Array Operand} {ts:Array TypeId} (_ho:o.op = .call { callee := .builtin b,args:=xs,argTypes:=ts }) (h:wpList P ops Q (o :: rest) a W):wpList P ops Q (o :: rest) a W:=h
end
def mx (a b:Int):Int:=if a<b then b else a
def mn (a b:Int):Int:=if b<a then b else a
def shl (k:IntKind) (x y:Int):Int:=k.wrap (x * 2 ^ min y.toNat k.bits)
def shr (k:IntKind) (x y:Int):Int:=x / 2 ^ min y.toNat k.bits
theorem shl_small {k:IntKind} {x y j:Int} (h:shl k x y=j) (hy:y≤k.bits):k.wrap (x * 2 ^ y.toNat)=j:=by rw [← h];unfold shl;rw [Nat.min_eq_left (by omega)]
theorem shr_small {k:IntKind} {x y j:Int} (h:shr k x y=j) (hy:y≤k.bits):x / 2 ^ y.toNat=j:=by rw [← h];unfold shr;rw [Nat.min_eq_left (by omega)]
theorem drewN_self (w:World) (n:Nat):w.drewN n=w.drewN n:=rfl
namespace Kd
section
variable {α:Type} {d:Kd α} {e base b b' g N:Nat} {ok ok1:Nat→Prop} {W W2 w1:World} {u v:Value} {xs ys:List α} {S:Nat→Prop}
theorem R_reok (hE:d.E = []) (h:d.R e W base ok1 v xs) (hok:∀ k,v.ownBlock=some k→ok k):d.R e W base ok v xs:=R_mono (R_tight hE h) (fun k hk=>hok k hk.symm)
theorem R_keptB (h:d.R e W base ok v xs) (hk:Kept W W2 S) (hne:∀ k,ok k → ¬ S k):d.R e W2 base (fun k=>ok k∧(¬ S k∧k<W.heap.size)) v xs :=
 R_kept (R_mono (R_bound h) (fun k hk=>⟨hk.1,hne k hk.1,hk.2.2.1⟩)) hk (fun _ hk=>hk.2.1)
end
end Kd
end Go.Proofs.Yw.PrintWords
namespace Go.Proofs.Yw.PrintWords
open Go.RowKit
namespace Kd
def V {α:Type} (d:Kd α) (_e:Nat) (W:World) (_base:Nat) (ok:Nat→Prop) (v:Value) (xs:List α):Prop := ∃ A c,v = .slice A xs.length c∧xs.length≤c∧F d W ok A xs.length xs
section
variable {α β:Type} {d:Kd α} {e base base' n m c g N' lo hi:Nat} {ok ok' S:Nat→Prop} {w W w1:World} {A:Option Addr} {ad:Addr} {u v v1:Value} {xs:List α}
theorem V_map (h:V d e W base ok v xs) (hF:∀ A,F d W ok A xs.length xs→F d w1 ok' A xs.length xs):V d e w1 base' ok' v xs:=by
 obtain ⟨A,c,hv,hl,hf⟩:=h
 exact ⟨A,c,hv,hl,hF A hf⟩
theorem V_mk (hl:xs.length≤c) (hf:F d W ok A xs.length xs):V d e W base ok (.slice A xs.length c) xs:=⟨A,c,rfl,hl,hf⟩
theorem V_slice (h:V d e W base ok v xs):∃ A c,v = .slice A xs.length c:=by
 obtain ⟨A,c,hv,_⟩:=h
 exact ⟨A,c,hv⟩
theorem V_at (h:V d e W base ok (.slice A n c) xs):n=xs.length∧n≤c∧F d W ok A xs.length xs:=by
 obtain ⟨A',c',hv,hl,hf⟩:=h
 injection hv with ha hn hc
 subst ha;subst hc
 exact ⟨hn,by rw [hn];exact hl,hf⟩
theorem V_reads' (h:V d e W base ok (.slice A n c) xs):n=xs.length∧n≤c∧d.C W A xs.length xs:=⟨(V_at h).1,(V_at h).2.1,F_now (V_at h).2.2⟩
theorem V_F (h:V d e W base ok (.slice A n c) xs):F d W ok A n xs:=by
 obtain ⟨hn,_,hf⟩:=V_at h
 rw [hn]
 exact hf
theorem V_nil (d:Kd α) (e:Nat) (W:World) (base:Nat) (ok:Nat→Prop):V d e W base ok (.slice none 0 0) []:=⟨none,0,rfl,Nat.le_refl _,F_nil d W ok⟩
theorem R_V (h:d.R e W base ok v xs):V d e W base' ok v xs:=by
 obtain ⟨A,c,rfl⟩:=R_slice h
 exact ⟨A,c,rfl,(R_reads' h).2.1,R_F h⟩
theorem N_V (h:N d e W base ok v xs):V d e W base' ok v xs:=by
 obtain ⟨A,c,rfl⟩:=N_slice h
 exact ⟨A,c,rfl,(N_reads' h).2.1,N_F h⟩
theorem V_mono (h:V d e W base ok v xs) (hok:∀ k,ok k→ok' k):V d e W base ok' v xs:=V_map h (fun _ hf=>F_mono hf hok)
theorem V_bound (h:V d e W base ok v xs):V d e W base (fun k=>ok k∧k<W.heap.size) v xs:=V_map h (fun _ hf=>F_bound hf)
theorem V_lower (h:V d e W base ok v xs) (_:base'≤base):V d e W base' ok v xs:=h
theorem V_below (h:V d e W base ok v xs) (hb:Below W.heap.size W w1):V d e w1 base ok v xs:=V_map h (fun _ hf=>F_below hf hb)
theorem V_alloc (h:V d e W base ok v xs) (o:Obj):V d e (W.alloc o) base ok v xs:=V_map h (fun _ hf=>F_alloc hf o)
theorem V_drew (h:V d e W base ok v xs):V d e W.drew base ok v xs:=V_map h (fun _ hf=>F_drew hf)
theorem V_drewN (h:V d e W base ok v xs) (m:Nat):V d e (W.drewN m) base ok v xs:=V_map h (fun _ hf=>F_drewN hf m)
theorem V_kept (h:V d e W base ok v xs) (hk:Kept W w1 S) (hok:∀ k,ok k → ¬ S k):V d e w1 base ok v xs:=V_map h (fun _ hf=>F_kept hf hk hok)
theorem V_after (h:V d e W base (fun k=>ok k∧some k≠u.ownBlock) v xs) (hg:W.grownBy w1 u.ownBlock) (hat:v1.ownBlock=u.ownBlock ∨ ∃ b,v1.ownBlock=some b∧W.heap.size≤b):V d e w1 base (fun k=>ok k∧some k≠v1.ownBlock) v xs:=V_map h (fun _ hf=>F_after hf hg hat)
theorem V_afterv (h:V d e W base (fun k=>ok k∧some k≠v.ownBlock) u xs) (hg:W.grownBy w1 v.ownBlock) (hat:v1.ownBlock=v.ownBlock ∨ ∃ b,v1.ownBlock=some b∧W.heap.size≤b):V d e w1 base (fun k=>ok k∧some k≠v1.ownBlock) u xs:=V_after h hg hat
theorem V_apart_nil (h:V d e W base ok v xs):V d e W base (fun k=>ok k∧some k≠(Value.slice none 0 0).ownBlock) v xs:=V_map h (fun _ hf=>F_apart_nil hf)
theorem V_elder' (h:V d e W base ok v xs) (hbase:∀ k,u.ownBlock=some k→W.heap.size≤k) (hb:Below W.heap.size W w1):V d e w1 base (fun k=>ok k∧some k≠u.ownBlock) v xs:=V_map h (fun _ hf=>F_elder' hf hbase hb)
theorem V_keptB (h:V d e W base ok v xs) (hk:Kept W w1 S) (hne:∀ k,ok k → ¬ S k):V d e w1 base (fun k=>ok k∧(¬ S k∧k<W.heap.size)) v xs :=
 V_kept (V_mono (V_bound h) (fun k hk=>⟨hk.1,hne k hk.1,hk.2⟩)) hk (fun _ hk=>hk.2.1)
theorem V_get (h:V d e W base ok (.slice (some ad) n c) xs) (z:α) (i:Int) (h0:0≤i) (h1:i<n) :
  ∃ cs,cs.length=d.sz∧FK d W ok (xs.getD i.toNat z) cs ∧ ∀ j u,cs[j]? = some u→W.cell? (ad.add (i.toNat * d.sz+j))=some u:=by
 obtain ⟨ad',cs,he,hcl,hK,hcc,_⟩:=F_get (V_F h) z i h0 h1
 injection he with he
 subst he
 exact ⟨cs,hcl,hK,hcc⟩
theorem F_take (h:F d W ok A xs.length xs) (hm:m≤xs.length):F d W ok A (xs.take m).length (xs.take m):=F_imp h (fun _ hC=>C_take hC hm)
theorem F_cut (h:F d W ok A xs.length xs) (hm:m≤xs.length) (hc:xs.length≤c):F d W ok (if c=m then A else A.map (·.add (m * d.sz))) (xs.drop m).length (xs.drop m):=F_imp h (fun _ hC=>C_drop hC hm hc)
theorem FK_slice_open {l:List α} {cs:List Value} (h:FK (Kd.slice e d) W ok l cs):∃ A c,cs = [.slice A l.length c]∧l.length≤c∧F d W ok A l.length l:=by
 obtain ⟨A,c,rfl,hl,_⟩:=FK_now h
 refine ⟨A,c,rfl,hl,fun W' hW=>?_⟩
 obtain ⟨A',c',he,_,g'⟩:=h W' hW
 injection he with he _
 injection he with ha _ _
 rw [ha]
 exact g'
theorem FK_slice_mk {l:List α} (hl:l.length≤c) (hf:F d W ok A l.length l):FK (Kd.slice e d) W ok l [.slice A l.length c]:=fun W' hW=>⟨A,c,rfl,hl,hf W' hW⟩
theorem C_kept_ownV (h:V d e W base ok (.slice A n c) xs) (hok:∀ k,ok k → ¬ S k):∀ W',Kept W W' S→d.C W' A n xs:=fun W' hk=>by
 have h2:=V_reads' (V_kept h hk hok)
 rw [h2.1]
 exact h2.2.2
theorem R_newM {M:Nat→Prop} (h:d.R e w1 W.heap.size ok v xs) (hle:w.heap.size≤W.heap.size) (hM:∀ k,w.heap.size≤k→M k):d.R e w1 W.heap.size (fun k=>M k∧ok k) v xs:=R_mono (R_bound h) (fun k hk=>⟨hM k (Nat.le_trans hle hk.2.1),hk.1⟩)
end
end Kd
end Go.Proofs.Yw.PrintWords
end
section
namespace Go.Proofs.Yy.Z
open Go.RowKit Go.Proofs.Yw.PrintWords Go.Proofs.Yw.PrintLast Go.Proofs.Yw.PrintMore
section
variable {p:Prop} {α β:Type} {d:Kd α} {e base n g i:Nat} {ok:Nat→Prop} {w w0 W W1:World} {A:Option Addr} {u v:Value} {xs:List α} {o:Obj} {t:TypeId} {cs:Array Value}
theorem z1 (h:p:=by first|rfl|(simp;done)|(simp [*];done)):p:=h
theorem z2 (h:p:=by first|rfl|(simp [errW_none,errW_some] <;> rfl)|(simp [*, errW_none,errW_some] <;> rfl)):p:=h
theorem z3 (h:p:=by first|rfl|(simp [errW_none,errW_some] <;> rfl)):p:=h
theorem z5 (h:p:=by first|omega|exact Nat.le_refl _):p:=h
theorem zD [Decidable p] (h:decide p=true:=by first|(with_reducible assumption)|assumption):p:=of_decide_eq_true h
theorem z4 (h:p:=by repeat (first|exact Drawn0.refl _|apply Drawn0.step)):p:=h
theorem zN (h:p:=by first|exact Kd.R_nil _ _ _ _ _|exact Kd.N_nil _ _ _ _ _|exact Kd.V_nil _ _ _ _ _|exact Kd.Q_nil _ _ _ _ _|exact Kd.S_nil _ _ _ _ _):p:=h
theorem zL:Aside0 (n≤n):=⟨Nat.le_refl n⟩
theorem zH {a b:Nat} (h:Aside0 (a+1≤b)):Aside0 (a≤b):=⟨Nat.le_of_succ_le h.out⟩
theorem zB (h:Aside0 (Below base w w0)) (k:Below base w w0→Below base w W:=by (intro h_;repeat (first|(with_reducible first|exact h_|apply below_alloc|apply pw_below_drewN|apply below_drew1|refine below_set ?_ (Aside0.out (by assumption)))|exact h_))):Below base w W:=k h.out
theorem zS (h:Aside0 (Below w.heap.size w w0)) (k:Below w.heap.size w w0→Below w.heap.size w W:=by (intro h_;repeat (first|(with_reducible first|exact h_|apply below_alloc|apply pw_below_drewN|apply below_drew1|refine below_set ?_ (Aside0.out (by assumption)))|exact h_))):w.heap.size≤W.heap.size:=below_size (k h.out)
theorem zBs (h:Aside0 (Below w.heap.size w w0)) (hb:Below W.heap.size W W1) (k:Below w.heap.size w w0→Below w.heap.size w W:=by (intro h_;repeat (first|(with_reducible first|exact h_|apply below_alloc|apply pw_below_drewN|apply below_drew1|refine below_set ?_ (Aside0.out (by assumption)))|exact h_))):Aside0 (Below w.heap.size w W1):=⟨below_step (k h.out) hb⟩
theorem zR (h:Aside0 (d.R e w base ok v xs)) (k:d.R e w base ok v xs→d.R e W base ok v xs:=by (intro h_;(with_reducible repeat (first|apply Kd.R_alloc|apply Kd.R_drewN|apply Kd.R_drew));exact h_)):d.R e W base ok v xs:=k h.out
theorem zV (h:Aside0 (d.V e w base ok v xs)) (k:d.V e w base ok v xs→d.V e W base ok v xs:=by (intro h_;(with_reducible repeat (first|apply Kd.V_alloc|apply Kd.V_drewN|apply Kd.V_drew));exact h_)):d.V e W base ok v xs:=k h.out
theorem zRb (h:Aside0 (d.R e w base ok v xs)) (hb:Below W.heap.size W W1) (k:d.R e w base ok v xs→d.R e W base ok v xs:=by (intro h_;(with_reducible repeat (first|apply Kd.R_alloc|apply Kd.R_drewN|apply Kd.R_drew));exact h_)):Aside0 (d.R e W1 base ok v xs):=⟨Kd.R_below (k h.out) hb⟩
theorem zVb (h:Aside0 (d.V e w base ok v xs)) (hb:Below W.heap.size W W1) (k:d.V e w base ok v xs→d.V e W base ok v xs:=by (intro h_;(with_reducible repeat (first|apply Kd.V_alloc|apply Kd.V_drewN|apply Kd.V_drew));exact h_)):Aside0 (d.V e W1 base ok v xs):=⟨Kd.V_below (k h.out) hb⟩
theorem zC (h:d.C w A n xs) (k:d.C w A n xs→d.C W A n xs:=by (intro h_;repeat (first|(with_reducible exact h_)|(with_reducible refine Kd.C_alloc ?_ _)|(with_reducible refine Kd.C_drewN ?_ _)|(with_reducible refine Kd.C_drew ?_)|exact h_))):d.C W A n xs:=k h
theorem zK (h:Aside0 (w.heap[g]? = some o)) (k:w.heap[g]? = some o→W.heap[g]? = some o:=by (intro h_;repeat (first|with_reducible exact h_|with_reducible refine blk_drewN ?_ _|with_reducible refine blk_drew ?_|with_reducible refine blk_alloc ?_ _|refine blk_far ?_ (Aside0.out (by assumption)) _|exact h_))):W.heap[g]? = some o:=k h.out
theorem zKb (h:Aside0 (w.heap[g]? = some o)) (hb:Below W.heap.size W W1) (k:w.heap[g]? = some o→W.heap[g]? = some o:=by (intro h_;repeat (first|with_reducible exact h_|with_reducible refine blk_drewN ?_ _|with_reducible refine blk_drew ?_|with_reducible refine blk_alloc ?_ _|refine blk_far ?_ (Aside0.out (by assumption)) _|exact h_))):Aside0 (W1.heap[g]? = some o):=⟨blk_below (k h.out) hb⟩
theorem zG (hg:g=W.heap.size) (h:Aside0 (Below w.heap.size w w0)) (k:Below w.heap.size w w0→Below w.heap.size w W:=by (intro h_;repeat (first|(with_reducible first|exact h_|apply below_alloc|apply pw_below_drewN|apply below_drew1|refine below_set ?_ (Aside0.out (by assumption)))|exact h_))):Aside0 (w.heap.size≤g):=⟨by rw [hg];exact below_size (k h.out)⟩
theorem zNl {g':Nat} (hg:g'=W.heap.size) (h:Aside0 (w.heap[g]? = some o)) (k:w.heap[g]? = some o→W.heap[g]? = some o:=by (intro h_;repeat (first|with_reducible exact h_|with_reducible refine blk_drewN ?_ _|with_reducible refine blk_drew ?_|with_reducible refine blk_alloc ?_ _|refine blk_far ?_ (Aside0.out (by assumption)) _|exact h_))):Aside0 (g≠g'):=⟨by rw [hg];exact Nat.ne_of_lt (blk_lt (k h.out))⟩
theorem zNg {g':Nat} (hg:g'=W.heap.size) (h:Aside0 (w.heap[g]? = some o)) (k:w.heap[g]? = some o→W.heap[g]? = some o:=by (intro h_;repeat (first|with_reducible exact h_|with_reducible refine blk_drewN ?_ _|with_reducible refine blk_drew ?_|with_reducible refine blk_alloc ?_ _|refine blk_far ?_ (Aside0.out (by assumption)) _|exact h_))):Aside0 (g'≠g):=⟨by rw [hg];exact Nat.ne_of_gt (blk_lt (k h.out))⟩
theorem zl (h:Aside0 (w.heap[g]? = some (.cells cs t (0,0)))) (i:Nat) (k:cs[i]? = some v:=by exact rfl):w.cell? ⟨g,i,none⟩=some v:=(blk_cell h.out i).trans k
theorem zA {q r:Prop} [Decidable p] [Decidable q] (f:p→q→r) (hp:decide p=true:=by first|(with_reducible assumption)|assumption) (hq:decide q=true:=by first|(with_reducible assumption)|assumption):(p=True)∧(q=True)∧r:=⟨eq_true (of_decide_eq_true hp),eq_true (of_decide_eq_true hq),f (of_decide_eq_true hp) (of_decide_eq_true hq)⟩
theorem zY {x y:β} (h:x=y):Aside0 (y=x):=⟨h.symm⟩
end
section
variable {α β:Type} {P Q:Prop} [Decidable P] {a b:α} {r:Option β} {x y:Option β} {s:β}
theorem zz {q:Prop} (h:Aside0 (x=some s)) (k:x=none):q:=nomatch k.symm.trans h.out
theorem zi (h:Aside0 ((if P then x else none)=some s)):P∧Aside0 (x=some s):=by
 have k:=h.out
 by_cases c:P
 ·rw [if_pos c] at k;exact ⟨c,⟨k⟩⟩
 ·rw [if_neg c] at k;exact nomatch k
theorem zj (h:Aside0 ((if P then none else x)=some s)):¬ P∧Aside0 (x=some s):=by
 have k:=h.out
 by_cases c:P
 ·rw [if_pos c] at k;exact nomatch k
 ·rw [if_neg c] at k;exact ⟨c,⟨k⟩⟩
theorem zs (h:Aside0 ((if P then x else y)=r)):P∧Aside0 (x=r) ∨ ¬ P∧Aside0 (y=r):=by
 have k:=h.out
 by_cases c:P
 ·rw [if_pos c] at k;exact .inl ⟨c,⟨k⟩⟩
 ·rw [if_neg c] at k;exact .inr ⟨c,⟨k⟩⟩
theorem zid (h:Aside0 ((if P then x else none)=some s)):decide P=true∧Aside0 (x=some s):=⟨decide_eq_true (zi h).1,(zi h).2⟩
theorem zit (h:Aside0 ((if P then x else none)=some s)):(P=True)∧decide P=true∧Aside0 (x=some s):=⟨eq_true (zi h).1,decide_eq_true (zi h).1,(zi h).2⟩
theorem zil (h:Aside0 ((if P then x else none)=some s)):Aside0 P∧Aside0 (x=some s):=⟨⟨(zi h).1⟩,(zi h).2⟩
theorem zjd (h:Aside0 ((if P then none else x)=some s)):decide P=false∧Aside0 (x=some s):=⟨decide_eq_false (zj h).1,(zj h).2⟩
theorem zsd (h:Aside0 ((if P then x else y)=r)):decide P=true∧Aside0 (x=r)∨decide P=false∧Aside0 (y=r):=(zs h).imp (fun k=>⟨decide_eq_true k.1,k.2⟩) (fun k=>⟨decide_eq_false k.1,k.2⟩)
theorem zb1 (h:Aside0 ((if P then x else y)=r)) (k:P:=by first|rfl|trivial|simp):Aside0 (x=r):=⟨by have k':=h.out;rw [if_pos k] at k';exact k'⟩
theorem zb0 (h:Aside0 ((if P then x else y)=r)) (k:¬ P:=by first|decide|simp):Aside0 (y=r):=⟨by have k':=h.out;rw [if_neg k] at k';exact k'⟩
theorem zo {f:α→Option β} {o:Option α} (h:Aside0 (o.bind f=some s)):∃ t,Aside0 (o=some t)∧Aside0 (f t=some s):=by obtain ⟨t,h1,h2⟩:=Option.bind_eq_some_iff.mp h.out;exact ⟨t,⟨h1⟩,⟨h2⟩⟩
end
section
variable {β:Type} {a b:Int} {r x y:Option β} {s:β}
theorem zjde [Decidable (a ≥ b)] (h:Aside0 ((if a ≥ b then none else x)=some s)):decide (b≤a)=false∧Aside0 (x=some s):=⟨decide_eq_false (zj h).1,(zj h).2⟩
theorem zsdg [Decidable (a > b)] (h:Aside0 ((if a > b then x else y)=r)):decide (b<a)=true∧Aside0 (x=r)∨decide (b<a)=false∧Aside0 (y=r):=(zs h).imp (fun k=>⟨decide_eq_true k.1,k.2⟩) (fun k=>⟨decide_eq_false k.1,k.2⟩)
theorem zsde [Decidable (a ≥ b)] (h:Aside0 ((if a ≥ b then x else y)=r)):decide (b≤a)=true∧Aside0 (x=r)∨decide (b≤a)=false∧Aside0 (y=r):=(zs h).imp (fun k=>⟨decide_eq_true k.1,k.2⟩) (fun k=>⟨decide_eq_false k.1,k.2⟩)
end
section
variable {P:Program} {ops:Array Oper} {Q:Exit→Act→World→Prop} {md:Region.Mode} {S:World→Prop} {ds:List Nat} {rest:List Oper} {oi:Oper} {a a':Act} {w:World}
theorem zc (N:Option Tmp) {f:FuncId} {fn:Func} (hf:P.funcs[f]? = some fn) (args:Array Value) {os:Array Operand} {ts:Array TypeId} {q:Ending→World→Prop} (hc:Calls P f args w q)
  (h:∀ e w',q e w' → ∃ v,e = .returned v∧wpList P ops Q rest (a.put N v) w')
  (hd : oi.dst = N := by exact rfl) (hg : oi.guard = none := by exact rfl) (hname : (fn.name == "runtime.NumGoroutine") = false := by kernel_rfl) (hb : fn.body.isSome = true := by exact rfl)
  (hop:oi.op = .call { callee := .value (.func f),args:=os,argTypes:=ts }:=by exact rfl)
  (hargs:os.map a.eval=args:=by (try simp only [List.map_toArray,List.map_cons,List.map_nil]);first|done|rfl|(simp only [List.length_drop,List.length_take];rfl)):wpList P ops Q (oi :: rest) a w :=
 goesL_ N hd hg hf hname hb args hop hargs (hc.mono h)
theorem zp {T:Bool × List (List Nat × List Nat)} (hT:Aside0 (rtab md ops=T)) (i:Nat) (N:Option Tmp) {v:Value} {fuel:Nat} {l:Array Bool}
  (h:wpAnyLast P md ops Q S ds fuel (l.setIfInBounds i true) a' w)
  (hi:ops[i]? = some oi:=by exact rfl) (hN:oi.dst=N:=by exact rfl) (hc:anyT T l.toList (l.setIfInBounds i true).toList i=true:=by kernel_rfl)
  (hQ:∀ c a w,Q (.panic c) (a.put oi.dst v) w→Q (.panic c) a w:=by exact (fun _ _ _ h=>h)) (hy:Yields P ops oi v a:=by (refine Or.inl ⟨by rfl,?_⟩;intro w';go_simp;with_reducible rfl)) (ha:a.put N v=a':=by (simp only [Act.put,List.setIfInBounds_toArray,List.set_cons_zero,List.set_cons_succ,i64_w,i32_w];rfl)):wpAnyLast P md ops Q S ds (fuel+1) l a w :=
 pure_ (l.setIfInBounds i true) hi hN (any_of hT.out hc) hQ hy ha h
theorem zt {T:Bool × List (List Nat × List Nat)} {B:List Nat} (hT:Aside0 (rtab md ops=T)) (hW:Aside0 (waitsOk T.2 B=true)) (i:Nat) (N:Option Tmp) (hS:S w) {v:Value} {fuel:Nat} {l:Array Bool}
  (h:wpAnyLast P md ops Q S ds fuel (l.setIfInBounds i true) a' w)
  (hi:ops[i]? = some oi:=by exact rfl) (hN:oi.dst=N:=by exact rfl) (hc:takeW T B ds l.toList (l.setIfInBounds i true).toList i=true:=by kernel_rfl)
  (hQ:∀ c a w,Q (.panic c) (a.put oi.dst v) w→Q (.panic c) a w:=by exact (fun _ _ _ h=>h)) (hy:YieldsIf P ops S oi v a:=by (refine Or.inl ⟨by rfl,?_⟩;intro w' hs_;(repeat (obtain ⟨_,hs_⟩:=hs_));go_simp;with_reducible rfl)) (ha:a.put N v=a':=by (simp only [Act.put,List.setIfInBounds_toArray,List.set_cons_zero,List.set_cons_succ,i64_w,i32_w];rfl)):wpAnyLast P md ops Q S ds (fuel+1) l a w :=
 take_ (l.setIfInBounds i true) hi hN (take_ofW hT.out hW.out hc) hQ hy hS ha h
end
theorem zw {α β:Type} {r:Option β} {f:α→Option β} {o:α} (h:Aside0 ((some o).bind f=r)):∃ y,Aside0 (y=o)∧Aside0 (f y=r):=⟨o,⟨rfl⟩,⟨h.out⟩⟩
theorem blk_farO {w:World} {g:Nat} {o:Obj} (h:w.heap[g]? = some o) {p:Addr} (hp:g≠p.block) (u:Value):(w.setCell p u).heap[g]? = some o:=(Below.heap_setCell w p u g hp).trans h
theorem zKp {w W:World} {g:Nat} {t:TypeId} {cs cs1 cs2:Array Value} (h:Aside0 (w.heap[g]? = some (.cells cs t (0,0)))) (k:w.heap[g]? = some (.cells cs t (0,0))→W.heap[g]? = some (.cells cs1 t (0,0)):=by (intro h_;repeat (first|with_reducible exact h_|with_reducible refine blk_drewN ?_ _|with_reducible refine blk_drew ?_|with_reducible refine blk_alloc ?_ _|apply blk_set|refine blk_farO ?_ (Aside0.out (by assumption)) _|exact h_))) (e:cs1=cs2:=by exact rfl):W.heap[g]? = some (.cells cs2 t (0,0)):=e ▸ k h.out
section
variable {α β:Type} [BEq α] [LawfulBEq α] {a b:α} [Decidable (a=b)] {r x y:Option β} {s:β}
theorem zjk (h:Aside0 ((if a=b then none else x)=some s)):(a == b)=false∧(a != b)=true ∧ ¬ a=b∧Aside0 (x=some s):=⟨beq_eq_false_iff_ne.mpr (zj h).1,bne_iff_ne.mpr (zj h).1,(zj h).1,(zj h).2⟩
theorem zsk (h:Aside0 ((if a=b then x else y)=r)):(a == b)=true∧(a != b)=false∧Aside0 (x=r)∨(a == b)=false∧(a != b)=true ∧ ¬ a=b∧Aside0 (y=r):=(zs h).imp (fun k=>⟨beq_iff_eq.mpr k.1,bne_eq_false_iff_eq.mpr k.1,k.2⟩) (fun k=>⟨beq_eq_false_iff_ne.mpr k.1,bne_iff_ne.mpr k.1,k.1,k.2⟩)
end
theorem zf2 {w:World} {g:Nat} {t:TypeId} {a0 a1:Value} (h:Aside0 (w.heap[g]? = some (.cells #[a0,a1] t (0,0)))):w.cell? ⟨g,0,none⟩=some a0∧w.cell? ⟨g,1,none⟩=some a1∧w.frozen? ⟨g,0,none⟩=false∧w.frozen? ⟨g,1,none⟩=false:=⟨(blk_cell h.out 0).trans rfl,(blk_cell h.out 1).trans rfl,blk_frozen h.out 0,blk_frozen h.out 1⟩
theorem zf4 {w:World} {g:Nat} {t:TypeId} {a0 a1 a2 a3:Value} (h:Aside0 (w.heap[g]? = some (.cells #[a0,a1,a2,a3] t (0,0)))):w.cell? ⟨g,0,none⟩=some a0∧w.cell? ⟨g,1,none⟩=some a1∧w.cell? ⟨g,2,none⟩=some a2∧w.cell? ⟨g,3,none⟩=some a3∧w.frozen? ⟨g,0,none⟩=false∧w.frozen? ⟨g,1,none⟩=false∧w.frozen? ⟨g,2,none⟩=false∧w.frozen? ⟨g,3,none⟩=false:=⟨(blk_cell h.out 0).trans rfl,(blk_cell h.out 1).trans rfl,(blk_cell h.out 2).trans rfl,(blk_cell h.out 3).trans rfl,blk_frozen h.out 0,blk_frozen h.out 1,blk_frozen h.out 2,blk_frozen h.out 3⟩
theorem zf5 {w:World} {g:Nat} {t:TypeId} {a0 a1 a2 a3 a4:Value} (h:Aside0 (w.heap[g]? = some (.cells #[a0,a1,a2,a3,a4] t (0,0)))):w.cell? ⟨g,0,none⟩=some a0∧w.cell? ⟨g,1,none⟩=some a1∧w.cell? ⟨g,2,none⟩=some a2∧w.cell? ⟨g,3,none⟩=some a3∧w.cell? ⟨g,4,none⟩=some a4∧w.frozen? ⟨g,0,none⟩=false∧w.frozen? ⟨g,1,none⟩=false∧w.frozen? ⟨g,2,none⟩=false∧w.frozen? ⟨g,3,none⟩=false∧w.frozen? ⟨g,4,none⟩=false:=⟨(blk_cell h.out 0).trans rfl,(blk_cell h.out 1).trans rfl,(blk_cell h.out 2).trans rfl,(blk_cell h.out 3).trans rfl,(blk_cell h.out 4).trans rfl,blk_frozen h.out 0,blk_frozen h.out 1,blk_frozen h.out 2,blk_frozen h.out 3,blk_frozen h.out 4⟩
theorem zf6 {w:World} {g:Nat} {t:TypeId} {a0 a1 a2 a3 a4 a5:Value} (h:Aside0 (w.heap[g]? = some (.cells #[a0,a1,a2,a3,a4,a5] t (0,0)))):w.cell? ⟨g,0,none⟩=some a0∧w.cell? ⟨g,1,none⟩=some a1∧w.cell? ⟨g,2,none⟩=some a2∧w.cell? ⟨g,3,none⟩=some a3∧w.cell? ⟨g,4,none⟩=some a4∧w.cell? ⟨g,5,none⟩=some a5∧w.frozen? ⟨g,0,none⟩=false∧w.frozen? ⟨g,1,none⟩=false∧w.frozen? ⟨g,2,none⟩=false∧w.frozen? ⟨g,3,none⟩=false∧w.frozen? ⟨g,4,none⟩=false∧w.frozen? ⟨g,5,none⟩=false:=⟨(blk_cell h.out 0).trans rfl,(blk_cell h.out 1).trans rfl,(blk_cell h.out 2).trans rfl,(blk_cell h.out 3).trans rfl,(blk_cell h.out 4).trans rfl,(blk_cell h.out 5).trans rfl,blk_frozen h.out 0,blk_frozen h.out 1,blk_frozen h.out 2,blk_frozen h.out 3,blk_frozen h.out 4,blk_frozen h.out 5⟩
theorem zf8 {w:World} {g:Nat} {t:TypeId} {a0 a1 a2 a3 a4 a5 a6 a7:Value} (h:Aside0 (w.heap[g]? = some (.cells #[a0,a1,a2,a3,a4,a5,a6,a7] t (0,0)))):w.cell? ⟨g,0,none⟩=some a0∧w.cell? ⟨g,1,none⟩=some a1∧w.cell? ⟨g,2,none⟩=some a2∧w.cell? ⟨g,3,none⟩=some a3∧w.cell? ⟨g,4,none⟩=some a4∧w.cell? ⟨g,5,none⟩=some a5∧w.cell? ⟨g,6,none⟩=some a6∧w.cell? ⟨g,7,none⟩=some a7∧w.frozen? ⟨g,0,none⟩=false∧w.frozen? ⟨g,1,none⟩=false∧w.frozen? ⟨g,2,none⟩=false∧w.frozen? ⟨g,3,none⟩=false∧w.frozen? ⟨g,4,none⟩=false∧w.frozen? ⟨g,5,none⟩=false∧w.frozen? ⟨g,6,none⟩=false∧w.frozen? ⟨g,7,none⟩=false:=⟨(blk_cell h.out 0).trans rfl,(blk_cell h.out 1).trans rfl,(blk_cell h.out 2).trans rfl,(blk_cell h.out 3).trans rfl,(blk_cell h.out 4).trans rfl,(blk_cell h.out 5).trans rfl,(blk_cell h.out 6).trans rfl,(blk_cell h.out 7).trans rfl,blk_frozen h.out 0,blk_frozen h.out 1,blk_frozen h.out 2,blk_frozen h.out 3,blk_frozen h.out 4,blk_frozen h.out 5,blk_frozen h.out 6,blk_frozen h.out 7⟩
theorem zx {P:Program} {ops:Array Oper} {rest:List Oper} {o:Oper} {a:Act} {Q:Exit→Act→World→Prop} {W:World} (N:Tmp) (t:TypeId) (cs:Array Value)
  (h:∀ g,g=W.heap.size → ∀ w1,w1.heap[g]? = some (.cells cs t (0,0))→Below W.heap.size W w1→wpList P ops Q rest (a.put o.dst (.pointer (some ⟨g,0,none⟩))) w1)
  (hgd:o.guard=none:=by exact rfl) (hd:o.dst=some N:=by exact rfl) (hrun:(execOp a.eval o).run P W = .ok (.value (.pointer (some ⟨W.heap.size,0,none⟩))) (W.alloc (.cells cs t (0,0))):=by first|(go_simp;done)|(go_simp;rfl)):wpList P ops Q (o :: rest) a W :=
 box_event hgd hd hrun h
theorem zJ2 {α0 α1:Type} {a0 b0:α0} {a1 b1:α1} (h:Aside0 (some (a0,a1)=some (b0,b1))):a0=b0∧a1=b1:=by simpa only [Option.some.injEq,Prod.mk.injEq] using h.out
theorem zJ3 {α0 α1 α2:Type} {a0 b0:α0} {a1 b1:α1} {a2 b2:α2} (h:Aside0 (some (a0,a1,a2)=some (b0,b1,b2))):a0=b0∧a1=b1∧a2=b2:=by simpa only [Option.some.injEq,Prod.mk.injEq] using h.out
theorem zJ4 {α0 α1 α2 α3:Type} {a0 b0:α0} {a1 b1:α1} {a2 b2:α2} {a3 b3:α3} (h:Aside0 (some (a0,a1,a2,a3)=some (b0,b1,b2,b3))):a0=b0∧a1=b1∧a2=b2∧a3=b3:=by simpa only [Option.some.injEq,Prod.mk.injEq] using h.out
theorem zJ5 {α0 α1 α2 α3 α4:Type} {a0 b0:α0} {a1 b1:α1} {a2 b2:α2} {a3 b3:α3} {a4 b4:α4} (h:Aside0 (some (a0,a1,a2,a3,a4)=some (b0,b1,b2,b3,b4))):a0=b0∧a1=b1∧a2=b2∧a3=b3∧a4=b4:=by simpa only [Option.some.injEq,Prod.mk.injEq] using h.out
theorem zJ6 {α0 α1 α2 α3 α4 α5:Type} {a0 b0:α0} {a1 b1:α1} {a2 b2:α2} {a3 b3:α3} {a4 b4:α4} {a5 b5:α5} (h:Aside0 (some (a0,a1,a2,a3,a4,a5)=some (b0,b1,b2,b3,b4,b5))):a0=b0∧a1=b1∧a2=b2∧a3=b3∧a4=b4∧a5=b5:=by simpa only [Option.some.injEq,Prod.mk.injEq] using h.out
theorem zJ7 {α0 α1 α2 α3 α4 α5 α6:Type} {a0 b0:α0} {a1 b1:α1} {a2 b2:α2} {a3 b3:α3} {a4 b4:α4} {a5 b5:α5} {a6 b6:α6} (h:Aside0 (some (a0,a1,a2,a3,a4,a5,a6)=some (b0,b1,b2,b3,b4,b5,b6))):a0=b0∧a1=b1∧a2=b2∧a3=b3∧a4=b4∧a5=b5∧a6=b6:=by simpa only [Option.some.injEq,Prod.mk.injEq] using h.out
theorem zh {p q:Prop} (h:q) (k:q→p:=by (intro h_;repeat (first|(with_reducible first|exact h_|exact h_.1|exact h_.2.1|exact h_.2.2.1|exact h_.2.2.2.1|exact h_.2.2.2.2.1|exact h_.2.2.2.2.2.1|exact h_.2.2.2.2.2.2.1|exact h_.2.2.2.2.2.2.2.1|exact h_.2|exact h_.2.2|exact h_.2.2.2|exact h_.2.2.2.2|exact h_.2.2.2.2.2|exact h_.2.2.2.2.2.2|exact h_.2.2.2.2.2.2.2|exact h_.2.2.2.2.2.2.2.2)|(with_reducible refine (cell_far ?hne _).trans ?_;case hne=>exact Aside0.out (by assumption))))):p:=k h
theorem zm {α:Type} {x:Option α}:LeO x x:=LeO.refl x
theorem zv {α:Type} {x:Option α}:LeO (none:Option α) x:=LeO.none x
theorem zI {α:Type} {c:Prop} [Decidable c] {a a' b b':Option α} (h:LeO a a') (k:LeO b b'):LeO (if c then a else b) (if c then a' else b'):=LeO.ite h k
theorem zO {α β:Type} {a a':Option α} {f f':α→Option β} (h:LeO a a') (k:∀ x,LeO (f x) (f' x)):LeO (a.bind f) (a'.bind f'):=LeO.bind h k
section
variable {P:Program} {ops:Array Oper} {Q:Exit→Act→World→Prop} {md:Region.Mode} {S:World→Prop} {ds:List Nat}
theorem zu {T:Bool × List (List Nat × List Nat)} (hT:Aside0 (rtab md ops=T)) (i:Nat) (N:Option Tmp) {oi:Oper} {fuel:Nat} {l:Array Bool} {a:Act} {w:World}
  (h:∀ K:Act→World→Prop,Shut (∀ a' w',S w'→(S w'→wpAnyLast P md ops Q S ds fuel (l.setIfInBounds i true) a' w')→K a' w')→if Region.wanted oi (yielded ops a.tmps)=true then Oper.wp P oi a w K Q else K (a.put N undef) w)
  (hi:ops[i]? = some oi:=by exact rfl) (hN:oi.dst=N:=by exact rfl) (hc:(readyT T.2 l.toList == [i] && l.toList.set i true == (l.setIfInBounds i true).toList)=true:=by kernel_rfl) (hd:i ∉ ds:=by decide):wpAnyLast P md ops Q S ds (fuel+1) l a w :=
 one_ (l.setIfInBounds i true) hi hN (one_of hT.out hc) hd h
end
end Go.Proofs.Yy.Z
end
section
namespace Go.Proofs.Yy.M
open Go.RowKit Go.Proofs.Yw.PrintWords Go.Proofs.Yw.PrintLast Go.Proofs.Yw.PrintMore
section
variable {pre post:List Int} {e:Nat} {w w1:World} {base:Nat} {ok ok':Nat→Prop} {v:Value} {xs:List Int}
def Wd (pre post:List Int) (e:Nat) (w:World) (base:Nat) (ok:Nat→Prop) (v:Value) (xs:List Int):Prop :=
 ∃ g c,v = .slice (some ⟨g,pre.length,none⟩) xs.length c∧xs.length≤c∧0<xs.length∧Kd.R (Kd.int .u64) e w base ok (.slice (some ⟨g,0,none⟩) (pre ++ xs ++ post).length (pre.length+c)) (pre ++ xs ++ post)
theorem Wd_mono (h:Wd pre post e w base ok v xs) (hok:∀ k,ok k→ok' k):Wd pre post e w base ok' v xs:=by
 obtain ⟨g,c,hv,hc,hp,hr⟩:=h
 exact ⟨g,c,hv,hc,hp,Kd.R_mono hr hok⟩
theorem Wd_alloc (h:Wd pre post e w base ok v xs) (o:Obj):Wd pre post e (w.alloc o) base ok v xs:=by
 obtain ⟨g,c,hv,hc,hp,hr⟩:=h
 exact ⟨g,c,hv,hc,hp,Kd.R_alloc hr o⟩
theorem Wd_drew (h:Wd pre post e w base ok v xs):Wd pre post e w.drew base ok v xs:=by
 obtain ⟨g,c,hv,hc,hp,hr⟩:=h
 exact ⟨g,c,hv,hc,hp,Kd.R_drew hr⟩
theorem Wd_drewN (h:Wd pre post e w base ok v xs) (m:Nat):Wd pre post e (w.drewN m) base ok v xs:=by
 obtain ⟨g,c,hv,hc,hp,hr⟩:=h
 exact ⟨g,c,hv,hc,hp,Kd.R_drewN hr m⟩
theorem Wd_slice (h:Wd pre post e w base ok v xs):∃ A c,v = .slice A xs.length c:=by
 obtain ⟨g,c,hv,hc,hp,hr⟩:=h
 exact ⟨_,c,hv⟩
theorem Wd_reads' {A:Option Addr} {n c:Nat} (h:Wd pre post e w base ok (.slice A n c) xs):n=xs.length∧n≤c∧Kd.C (Kd.int .u64) w A xs.length xs:=by
 obtain ⟨g,c',hv,hc,hp,hr⟩:=h
 injection hv with h1 h2 h3
 subst h1 h2 h3
 refine ⟨rfl,hc,?_⟩
 obtain ⟨_,hle,hC⟩:=Kd.R_reads' hr
 have h1:=Kd.C_drop (c:=pre.length+c) hC (m:=pre.length) (by simp) hle
 rw [if_neg (by omega)] at h1
 have hd:(pre ++ xs ++ post).drop pre.length=xs ++ post:=by rw [List.append_assoc,List.drop_left]
 rw [hd] at h1
 have h2:=Kd.C_take (m:=xs.length) h1 (by simp)
 rw [List.take_left] at h2
 have ha:(Option.map (fun x=>x.add (pre.length * (Kd.int IntKind.u64).sz)) (some (⟨g,0,none⟩:Addr)))=some (⟨g,pre.length,none⟩:Addr):=by
  have hs:(Kd.int IntKind.u64).sz=1:=rfl
  rw [hs]
  simp [Addr.add]
  intro h
  rw [h]
  rfl
 rw [ha] at h2
 exact h2
theorem Wd_form (h:Wd pre post e w base ok v xs) (hp:0<xs.length):∃ g cap,v = .slice (some ⟨g,pre.length,none⟩) xs.length cap∧base≤g∧g<w.heap.size ∧ ∃ cells,w.heap[g]? = some (.cells cells e (0,0)):=by
 obtain ⟨g,c,hv,hc,hp,hr⟩:=h
 obtain ⟨g',c',e',hb,hl,hcells⟩:=Kd.R_form hr (by simp;omega)
 injection e' with e1 e2 e3
 injection e1 with e1
 injection e1 with e1
 subst e1
 exact ⟨g,c,hv,hb,hl,hcells⟩
theorem Wd_ok {g o n c:Nat} (h:Wd pre post e w base ok (.slice (some ⟨g,o,none⟩) n c) xs):ok g:=by
 obtain ⟨g',c',hv,hc,hp,hr⟩:=h
 injection hv with e1 e2 e3
 injection e1 with e1
 injection e1 with e1 e2
 subst e1
 exact hr.1 g rfl
theorem rd_window (i:Int) (h0:0≤i) (hi:i<(xs.length:Int)):rd (pre ++ xs ++ post) ((pre.length:Int)+i)=rd xs i:=by
 have e1:((pre.length:Int)+i).toNat=pre.length+i.toNat:=by omega
 unfold rd
 rw [e1,List.append_assoc]
 simp only [List.getD_eq_getElem?_getD]
 rw [List.getElem?_append_right (by omega),List.getElem?_append_left (by omega),Nat.add_sub_cancel_left]
theorem Wd_celln {g o n c:Nat} (h:Wd pre post e w base ok (.slice (some ⟨g,o,none⟩) n c) xs) (i:Int) (h0:0≤i) (hi:i<(n:Int)):w.cell? ⟨g,pre.length+i.toNat,none⟩=some (.int .u64 (rd xs i))∧w.frozen? ⟨g,pre.length+i.toNat,none⟩=false:=by
 obtain ⟨g',c',hv,hc,hp,hr⟩:=h
 injection hv with e1 e2 e3
 injection e1 with e1
 injection e1 with e1 e4
 subst e1 e2 e3 e4
 obtain ⟨a,b⟩:=Kd.R_celln 0 hr ((pre.length:Int)+i) (by omega) (by simp;omega)
 have e5:((pre.length:Int)+i).toNat=pre.length+i.toNat:=by omega
 rw [e5] at a b
 refine ⟨a.trans ?_,b⟩
 exact congrArg (fun z=>some (Value.int IntKind.u64 z)) (rd_window i h0 hi)
theorem set_window (i:Nat) (hi:i<xs.length) (x:Int):(pre ++ xs ++ post).set (pre.length+i) x=pre ++ xs.set i x ++ post:=by
 rw [List.append_assoc,List.set_append_right _ _ (by omega),Nat.add_sub_cancel_left,List.set_append_left _ _ hi, ← List.append_assoc]
theorem Wd_putg {g o n c:Nat} (h:Wd pre post e w base ok (.slice (some ⟨g,o,none⟩) n c) xs) (i:Int) (hi:i.toNat<xs.length) (x:Int) :
  Wd pre post e (w.setCell ⟨g,pre.length+i.toNat,none⟩ (.int .u64 x)) base ok (.slice (some ⟨g,o,none⟩) n c) (xs.set i.toNat x)∧w.grownBy (w.setCell ⟨g,pre.length+i.toNat,none⟩ (.int .u64 x)) (some g):=by
 obtain ⟨g',c',hv,hc,hp,hr⟩:=h
 injection hv with e1 e2 e3
 injection e1 with e1
 injection e1 with e1 e4
 subst e1 e2 e3 e4
 obtain ⟨a,b⟩:=Kd.R_putg hr ((pre.length+i.toNat:Nat):Int) x
 rw [Int.toNat_natCast] at a b
 rw [set_window _ hi] at a
 refine ⟨⟨g,c,by rw [List.length_set],by rw [List.length_set];exact hc,by rw [List.length_set];exact hp,?_⟩,b⟩
 have e6:(pre ++ xs ++ post).length=(pre ++ xs.set i.toNat x ++ post).length:=by simp
 rw [← e6]
 exact a
theorem Wd_of {g c:Nat} (h:Kd.R (Kd.int .u64) e w base ok (.slice (some ⟨g,0,none⟩) (pre ++ xs ++ post).length (pre.length+c)) (pre ++ xs ++ post)) (hp:0<xs.length):Wd pre post e w base ok (.slice (some ⟨g,pre.length,none⟩) xs.length c) xs:=by
 obtain ⟨_,hle,_⟩:=Kd.R_reads' h
 simp at hle
 exact ⟨g,c,rfl,by omega,hp,h⟩
theorem Wd_back {g o n c:Nat} (h:Wd pre post e w base ok (.slice (some ⟨g,o,none⟩) n c) xs):Kd.R (Kd.int .u64) e w base ok (.slice (some ⟨g,0,none⟩) (pre ++ xs ++ post).length (pre.length+c)) (pre ++ xs ++ post):=by
 obtain ⟨g',c',hv,hc,hp,hr⟩:=h
 injection hv with e1 e2 e3
 injection e1 with e1
 injection e1 with e1 e4
 subst e1 e2 e3 e4
 exact hr
end
def winV (u:Value) (lo hi:Int):Value:=match u with
 | .slice (some ⟨g,_,_⟩) _ c => .slice (some ⟨g,lo.toNat,none⟩) (hi.toNat - lo.toNat) (c - lo.toNat)
 | v=>v
theorem cut_win {P:Program} (t e:TypeId) (kl kh:IntKind) {i:TypeInfo} (ht:P.underlying t=some (.slice e)) (hi:P.info? e=some i) (hsz:i.size=1) (g n c:Nat) (lo hi':Int) (h0:0≤lo) (h1:lo<hi') (h2:hi'≤n) (hc:n≤c) :
  ∀ W:World,(Instr.slice t (.slice (some ⟨g,0,none⟩) n c) (some (.int kl lo)) (some (.int kh hi')) none).run P W = .ok (.slice (some ⟨g,lo.toNat,none⟩) (hi'.toNat - lo.toNat) (c - lo.toNat)) W:=by
 intro W
 rw [cut_mid t e kl kh ht hi 1 hsz (some ⟨g,0,none⟩) n c lo hi' h0 (by omega) h2 hc W]
 have hne:c≠lo.toNat:=by omega
 have ha:(⟨g,0,none⟩:Addr).add (lo.toNat * 1)=⟨g,lo.toNat,none⟩:=by
  by_cases h:lo.toNat=0
  ·rw [h];rfl
  ·simp [Addr.add]
   omega
 rw [Nat.mul_one] at ha
 simp [hne,ha]
end Go.Proofs.Yy.M
end
section
namespace Go.Proofs.Yy.Fx
open Go.Shelf Go.RowKit Go.Sort Go.Lib
def Tab (w : World) : Prop := Lib.TabIs Tryz.prog w "internal/strconv.uint64pow10" .u64 Lib.pow10Tab
def tzTab:List Int:=Lib.deBruijn64tab.map fun n:Nat=>(n:Int)
def Tz (w : World) : Prop := Lib.TabIs Tryz.prog w "math/bits.deBruijn64tab" .u8 tzTab
def Laid (w:World):Prop:=Tab w∧Tz w
theorem Laid.below {w w':World} (h:Laid w) (hb:Below w.heap.size w w'):Laid w':=⟨Lib.tabBelow_of_tabIs h.1 w' hb,Lib.tabBelow_of_tabIs h.2 w' hb⟩
theorem below_grow (w:World) (k:Nat) (os:Array Obj):Below w.heap.size w (grow (w.drewN k) os) :=
 ⟨rfl,rfl,rfl,by show w.heap.size≤(w.heap ++ os).size;simp,fun i hi=>by show (w.heap ++ os)[i]? = _;rw [Array.getElem?_append_left hi]⟩
end Go.Proofs.Yy.Fx
end
section
namespace Go.Proofs.Yy.Fa
open Go.RowKit Go.Extern.Stop Go.Stop Go.Extern
theorem errT:∃ ms,Tryz.prog.underlying 27=some (.interface ms):=⟨_,Tryz.underlying27⟩
theorem codeT:Tryz.prog.underlying 64=some (.int .i64):=by kernel_rfl
theorem codeC:(Tryz.prog.info? 64).map (·.comparable)=some true:=by kernel_rfl
def FaultAt (w:World) (g:Nat) (line at' code:Int):Prop:=w.heap[g]? = some (.cells #[.int .i64 line, .int .i64 at', .iface 64 (.int .i64 code)] 126 (0,0))
end Go.Proofs.Yy.Fa
end
section
namespace Go.Proofs.Yw.PrintLast
def up (b:Nat→Bool) (i:Nat):Nat→Bool:=fun j=>if j=i then true else b j
end Go.Proofs.Yw.PrintLast
end
section
set_option maxHeartbeats 8000000
set_option maxRecDepth 100000
namespace Go.Proofs.Yy.PTx
open Go.RowKit Go.Proofs.Yy.Z Go.Proofs.Yw.PrintWords Go.Proofs.Yw.PrintLast Go.Proofs.Yw.PrintMore
open Go.Proofs.Yy.M
attribute [local go_sem] runx_add64 runx_sub64 eql_cc eql_nc neq_cc neq_nc
attribute [local go_sem] max2_int min2_int max_two min_two max_three min_three max_four min_four
def errW:Option Int→Value
 | none => .nilIface
 | some c => .iface 64 (.int .i64 c)
theorem errW_none:errW none = .nilIface:=rfl
theorem errW_some (c:Int):errW (some c) = .iface 64 (.int .i64 c):=rfl
theorem info5:(Tryz.prog.info? 5).map (fun i=>(i.zero,i.size,i.bytes))=some (some (.int .u8 0),1,1):=by kernel_rfl
theorem info25:(Tryz.prog.info? 25).map (fun i=>(i.zero,i.size,i.bytes))=some (some (.int .u64 0),1,8):=by kernel_rfl
def rd_L1 (xs:List (List Int)) (i:Int):(List Int):=xs.getD i.toNat ([]:List Int)
theorem at_L1 {w:World} {A:Option Addr} {n:Nat} {xs:List (List Int)} (h:Kd.C (Kd.slice 25 (Kd.int .u64)) w A n xs) (i:Int) (h0:0≤i) (h1:i<n):∃ ad A0 c0,A=some ad∧w.cell? (ad.add i.toNat)=some (.slice A0 (rd_L1 xs i).length c0)∧(rd_L1 xs i).length≤c0∧(Kd.int .u64).C w A0 (rd_L1 xs i).length (rd_L1 xs i):=by
 obtain ⟨ad,c,e,_,hK,hc0⟩:=Kd.C_get h ([]:List Int) i h0 h1
 have hc:∀ j u,c[j]? = some u→w.cell? (ad.add (i.toNat * 1+j))=some u:=hc0
 obtain ⟨A0,c0,rfl,l0,g0⟩:=hK
 exact ⟨ad,A0,c0,e,by have hq:=hc 0 _ rfl;rwa [Nat.mul_one,Nat.add_zero] at hq,l0,g0⟩
theorem eqA23 (d:Nat) (w:World) (x0 y0:Bool) (x1 y1:Bool) (x2 y2:ByteArray) (x3 y3:Int) :
  (Op.equalIn (d+2) 23 (.agg #[.bool x0, .bool x1, .string x2, .int .i64 x3]) (.agg #[.bool y0, .bool y1, .string y2, .int .i64 y3])).run Tryz.prog w = .ok (x0 == y0 && (x1 == y1 && (x2.toList == y2.toList && (x3 == y3)))) w:=by
 refine eqA_of Tryz.underlying23 (by kernel_rfl) ?_
 refine eqf_cons (by rfl) (by go_simp;rfl) (by go_simp;rfl) (by go_simp) ?_
 refine eqf_cons (by rfl) (by go_simp;rfl) (by go_simp;rfl) (by go_simp) ?_
 refine eqf_cons (by rfl) (by go_simp;rfl) (by go_simp;rfl) (by go_simp) ?_
 exact eqf_last (by rfl) (by go_simp;rfl) (by go_simp;rfl) (by go_simp)
theorem eqA81 (d:Nat) (w:World) (x0 y0:Int) (x1 y1:Bool) (x2 y2:Int) (x3 y3:Int) (x4 y4:Int) (x5 y5:Bool) :
  (Op.equalIn (d+2) 81 (.agg #[.int .i64 x0, .bool x1, .int .i64 x2, .int .u64 x3, .int .u64 x4, .bool x5]) (.agg #[.int .i64 y0, .bool y1, .int .i64 y2, .int .u64 y3, .int .u64 y4, .bool y5])).run Tryz.prog w = .ok (x0 == y0 && (x1 == y1 && (x2 == y2 && (x3 == y3 && (x4 == y4 && (x5 == y5)))))) w:=by
 refine eqA_of Tryz.underlying81 (by kernel_rfl) ?_
 refine eqf_cons (by rfl) (by go_simp;rfl) (by go_simp;rfl) (by go_simp) ?_
 refine eqf_cons (by rfl) (by go_simp;rfl) (by go_simp;rfl) (by go_simp) ?_
 refine eqf_cons (by rfl) (by go_simp;rfl) (by go_simp;rfl) (by go_simp) ?_
 refine eqf_cons (by rfl) (by go_simp;rfl) (by go_simp;rfl) (by go_simp) ?_
 refine eqf_cons (by rfl) (by go_simp;rfl) (by go_simp;rfl) (by go_simp) ?_
 exact eqf_last (by rfl) (by go_simp;rfl) (by go_simp;rfl) (by go_simp)
def vernierref05_Is.f (a0:Int):Option (Bool):=if a0=8 then (some true) else (if a0=16 then (some true) else (if a0=32 then (some true) else (some (a0 == 64))))
theorem vernierref05_Is.calls (a0:Int) (r:Bool) (w:World) (h:vernierref05_Is.f a0=some r) :
    Calls Tryz.prog 36 #[.int .i64 a0] w fun e w'=>e = .returned (.bool r)∧Drawn0 w w':=by
 have H:=am h
 unfold vernierref05_Is.f at H
 clear h
 replace H:=zsk H
 rcases H with ⟨c2b0,c2b1,H⟩|⟨c2b0,c2b1,c2,H⟩
 obtain rfl:=Option.some.inj H.out
 rotate_left
 replace H:=zsk H
 rcases H with ⟨c3b0,c3b1,H⟩|⟨c3b0,c3b1,c3,H⟩
 obtain rfl:=Option.some.inj H.out
 rotate_left
 replace H:=zsk H
 rcases H with ⟨c4b0,c4b1,H⟩|⟨c4b0,c4b1,c4,H⟩
 obtain rfl:=Option.some.inj H.out
 rotate_left
 obtain rfl:=Option.some.inj H.out
 rotate_left
 all_goals (go_enter Tryz.func36,Tryz.ntmps36;go_wp2)
 ·go_ret
  exact ⟨z1,z4⟩
 ·go_ret
  exact ⟨z1,z4⟩
 ·go_ret
  exact ⟨z1,z4⟩
 go_ret
 exact ⟨z1,z4⟩
def vernierref05_Power.l0:Nat→Int→Int→Int→Option (Int)
  | 0,_,_,_=>none
  | k+1,x0,x3,x4=>if x4<x0 then (vernierref05_Power.l0 k x0 (IntKind.u64.wrap (2 * x3)) (wrap64 (x4+1))) else (some x3)
def vernierref05_Power.f (k:Nat) (a0:Int):Option (Int):=vernierref05_Power.l0 k a0 1 0
theorem vernierref05_Power.calls (k:Nat) (a0:Int) (r:Int) (w:World) (h:vernierref05_Power.f k a0=some r) :
    Calls Tryz.prog 27 #[.int .i64 a0] w fun e w'=>e = .returned (.int .u64 r)∧Drawn0 w w':=by
 have H:=am h
 unfold vernierref05_Power.f at H
 clear h
 go_enter Tryz.func27,Tryz.ntmps27
 go_wp2
 go_loopg [3,4] k (fun kq v3 v4 w' => ∃ (x3_1:Int) (x4_1:Int),v3 = .int .u64 x3_1∧v4 = .int .i64 x4_1∧Aside0 (vernierref05_Power.l0 kq a0 x3_1 x4_1=some r)∧Aside0 (kq≤k)∧Drawn0 w w')
 case atStart=>exact ⟨(1),(0),z1,z1,H,zL,z4⟩
 clear H
 obtain ⟨x3_1,x4_1,rfl,rfl,H,HK1,⟨m1,rfl⟩⟩:=hrel
 obtain _|k1:=gk
 ·exact zz H rfl
 simp only [vernierref05_Power.l0] at H
 replace H:=zsd H
 rcases H with ⟨c2b0,H⟩|⟨c2b0,H⟩
 rotate_left
 obtain rfl:=Option.some.inj H.out
 rotate_left
 all_goals (go_wp2)
 ·go_roundg k1
  case measure=>have:=HK1.out;omega
  case rel=>exact ⟨(IntKind.u64.wrap (2 * x3_1)),(wrap64 (x4_1+1)),z1,z1,H,(zH HK1),z4⟩
 go_ret
 exact ⟨z1,z4⟩
theorem eqA211 (d:Nat) (w:World) (x0 y0:Int) (x1 y1:Int) :
  (Op.equalIn (d+2) 211 (.agg #[.int .u64 x0, .int .u64 x1]) (.agg #[.int .u64 y0, .int .u64 y1])).run Tryz.prog w = .ok (x0 == y0 && (x1 == y1)) w:=by
 refine eqA_of Tryz.underlying211 (by kernel_rfl) ?_
 refine eqf_cons (by rfl) (by go_simp;rfl) (by go_simp;rfl) (by go_simp) ?_
 exact eqf_last (by rfl) (by go_simp;rfl) (by go_simp;rfl) (by go_simp)
def vernierlaw19_pick.f (a0:Int) (a1:Int):Option (Int):=if a0<0 then (if a1=0 then (none) else (some (Int.tmod (wrap64 (-(wrap64 (a0+1)))) a1))) else (if a1=0 then (none) else (some (Int.tmod a0 a1)))
theorem vernierlaw19_pick.calls (a0:Int) (a1:Int) (r:Int) (w:World) (h:vernierlaw19_pick.f a0 a1=some r) :
    Calls Tryz.prog 29 #[.int .i64 a0, .int .i64 a1] w fun e w'=>e = .returned (.int .i64 r)∧Drawn0 w w':=by
 have H:=am h
 unfold vernierlaw19_pick.f at H
 clear h
 replace H:=zsd H
 rcases H with ⟨c3b0,H⟩|⟨c3b0,H⟩
 replace H:=zjk H
 obtain ⟨c4b0,c4b1,c4,H⟩:=H
 obtain rfl:=Option.some.inj H.out
 rotate_left
 replace H:=zjk H
 obtain ⟨c5b0,c5b1,c5,H⟩:=H
 obtain rfl:=Option.some.inj H.out
 rotate_left
 all_goals (go_enter Tryz.func29,Tryz.ntmps29;go_wp2)
 ·go_ret
  exact ⟨z1,z4⟩
 go_ret
 exact ⟨z1,z4⟩
def vernierlaw19_width.l0:Nat→Int→Int→Option (Int)
  | 0,_,_=>none
  | k+1,x3,x4=>if x4 > 0 then (vernierlaw19_width.l0 k (wrap64 (2 * x3)) (wrap64 (x4 - 1))) else (some x3)
def vernierlaw19_width.f (k:Nat) (a0:Int):Option (Int):=(vernierlaw19_pick.f a0 4).bind fun t1132=>(vernierlaw19_width.l0 k 8 t1132)
theorem vernierlaw19_width.calls (k:Nat) (a0:Int) (r:Int) (w:World) (h:vernierlaw19_width.f k a0=some r) :
    Calls Tryz.prog 22 #[.int .i64 a0] w fun e w'=>e = .returned (.int .i64 r)∧Drawn0 w w':=by
 have H:=am h
 unfold vernierlaw19_width.f at H
 clear h
 replace H:=zo H
 obtain ⟨t1132,A2,H⟩:=H
 go_enter Tryz.func22,Tryz.ntmps22
 go_wp2_with (first|((with_reducible refine gate_callee (f:=29) rfl ?_);refine zc (some 6) Tryz.func29 _ (vernierlaw19_pick.calls _ _ _ _ A2.out) ?_;rintro e w' ⟨rfl,⟨nd,rfl⟩⟩;refine ⟨_,rfl,?_⟩))
 go_loopg [3,4] k (fun kq v3 v4 w' => ∃ (x3_1:Int) (x4_1:Int),v3 = .int .i64 x3_1∧v4 = .int .i64 x4_1∧Aside0 (vernierlaw19_width.l0 kq x3_1 x4_1=some r)∧Aside0 (kq≤k)∧Drawn0 w w')
 case atStart=>exact ⟨(8),(t1132),z1,z1,H,zL,z4⟩
 clear H
 obtain ⟨x3_1,x4_1,rfl,rfl,H,HK1,⟨m1,rfl⟩⟩:=hrel
 obtain _|k1:=gk
 ·exact zz H rfl
 simp only [vernierlaw19_width.l0] at H
 replace H:=zsdg H
 rcases H with ⟨c3b0,H⟩|⟨c3b0,H⟩
 rotate_left
 obtain rfl:=Option.some.inj H.out
 rotate_left
 all_goals (go_wp2)
 ·go_roundg k1
  case measure=>have:=HK1.out;omega
  case rel=>exact ⟨(wrap64 (2 * x3_1)),(wrap64 (x4_1 - 1)),z1,z1,H,(zH HK1),z4⟩
 go_ret
 exact ⟨z1,z4⟩
end Go.Proofs.Yy.PTx
end
section
namespace Go.Proofs.Yy.PTx
open Go.RowKit Go.Proofs.Yw.PrintWords Go.Proofs.Yw.PrintLast Go.Proofs.Yw.PrintMore Go.Shelf Go.Sort Go.Lib
def decB (u:Int):ByteArray:=⟨(Lib.decDigits u.toNat).toArray⟩
def strconv_FormatUint.f (a0 a1:Int):Option ByteArray:=if 0≤a0∧a0<18446744073709551616∧a1=10 then some (decB a0) else none
set_option maxHeartbeats 400000 in
theorem strconv_FormatUint.calls (a0 a1:Int) (r:ByteArray) (w:World) (h:strconv_FormatUint.f a0 a1=some r) (htab:Fx.Laid w:=by exact Fx.Laid.below HTAB.out (by repeat (first|(with_reducible first|exact HB.out|apply below_alloc|apply pw_below_drewN|apply below_drew1)|exact HB.out))) :
  Calls Tryz.prog 106 #[.int .u64 a0, .int .i64 a1] w fun e w'=>e = .returned (.string r)∧Below w.heap.size w w':=by
 unfold strconv_FormatUint.f at h
 by_cases hg:0≤a0∧a0<18446744073709551616∧a1=10
 case neg=>rw [if_neg hg] at h;exact absurd h (by simp)
 rw [if_pos hg] at h
 obtain rfl:=Option.some.inj h
 obtain ⟨h0,h1,rfl⟩:=hg
 obtain ⟨u,rfl⟩:=Int.eq_ofNat_of_zero_le h0
 have hu:u<18446744073709551616:=by omega
 have HU:=Lib.hid hu
 have HT:=Lib.hid htab
 clear h h0 h1 hu htab
 go_enter Tryz.func106,Tryz.ntmps106
 go_wp2_with (go_at_call 165;refine (Fmt.inner_FormatUint u HU.out _ HT.out.1).mono ?_;rintro e w' ⟨rfl,k,os,rfl⟩)
 go_ret
 exact ⟨rfl,Fmt.below_grow _ _ _⟩
def strings_Repeat.f (s:ByteArray) (c:Int):Option ByteArray:=if 0≤c∧c≤9223372036854775807∧s.size * c.toNat≤140737488355328 then some ⟨(Lib.repeatL s.data.toList c.toNat).toArray⟩ else none
theorem strings_Repeat.calls (a0:ByteArray) (a1:Int) (r:ByteArray) (w:World) (h:strings_Repeat.f a0 a1=some r) :
  Calls Tryz.prog 69 #[.string a0, .int .i64 a1] w fun e w'=>e = .returned (.string r)∧Below w.heap.size w w':=by
 unfold strings_Repeat.f at h
 by_cases hg:0≤a1∧a1≤9223372036854775807∧a0.size * a1.toNat≤140737488355328
 case neg=>rw [if_neg hg] at h;exact absurd h (by simp)
 rw [if_pos hg] at h
 obtain rfl:=Option.some.inj h
 obtain ⟨h0,h1,h2⟩:=hg
 obtain ⟨c,rfl⟩:=Int.eq_ofNat_of_zero_le h0
 rw [Int.toNat_natCast] at *
 exact Tryz.strings_Repeat a0 c w (by omega) h2
end Go.Proofs.Yy.PTx
end
