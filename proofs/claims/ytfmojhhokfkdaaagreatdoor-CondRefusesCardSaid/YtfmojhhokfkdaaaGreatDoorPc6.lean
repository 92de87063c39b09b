/- CondBounds, CondLower, CondRefuses. 6/7. -/
import Derived.Test.YtfmojhhokfkdaaaGreatDoorPc5
set_option linter.unusedSimpArgs false
set_option linter.unusedVariables false
set_option maxRecDepth 20000
set_option maxHeartbeats 2000000
set_option linter.defProp false
namespace Go.E
open Go Go.RowKit
section
variable {P:Program} {Tb:World→Prop}
variable {d:Option Nat} {ty t:TypeId} {pos:String} {af:Array Edge} {g:Option (Nat × Bool)} {s:Nat→PV} {h:Hp} {K:PV→Hp→FP→Prop} {ops r:List Oper} {KL:(Nat→PV)→Hp→List FP→Prop} {acc:List FP} {dd:Nat}
def qvL [NL] {a b c f}:ao P Tb (some dd) (.buildSlice t 4 #[(0,a),(1,b),(2,c),(3,f)]) s h K=nnK (h dd) dd (@oK _ (elK P t) ⟨fun e=>@cK (4*ksz e.2.1≤16777216) ⟨vK (pe s a) fun x=>vK (pe s b) fun y=>vK (pe s c) fun z=>vK (pe s f) fun u=>q1q e.2.1 x (q1q e.2.1 y (q1q e.2.1 z (q1q e.2.1 u (K (.ow dd e.2.1 0 4) (q0Q h dd ⟨e.1,e.2.1,[x,y,z,u],false⟩) ([],[dd])))))⟩⟩):=by
 have:=qgW (P:=P) (Tb:=Tb) (s:=s) (h:=h) (K:=K) (t:=t) (dd:=dd) (len:=4) (ps:=[(0,a),(1,b),(2,c),(3,f)]) rfl;simpa [oK,cK,q8y,q8x,vK] using this
attribute [go_sem ↓] qvL
end
end Go.E
namespace Go.Proofs.YtfmojhhokfkdaaaGreatDoor
open Go Go.E Go.Sp
def nzL {w:World} {D B:Nat→Prop} (hB:∀ g,B g→∃ cs T,Blk w g T cs∧∀ u ∈ cs.toList,q4t u=true):∀ (l:List PV) (vs:List Value),(∀ x ∈ l,Nz x)→RdL w D l (fun _=>none) h0 vs→RdL w (fun k=>D k∧¬ B k) l (fun _=>none) h0 vs
 | [],vs,_,h=>by unfold RdL at h ⊢; exact h
 | x :: l,vs,hl,h=>by
  unfold RdL at h ⊢;obtain ⟨a,b,rfl,h1,h2⟩:=h;exact ⟨a,b,rfl,hl x List.mem_cons_self w D B a hB h1,nzL hB l b (fun y hy=>hl y (List.mem_cons_of_mem _ hy)) h2⟩
def qnX {l:List PV} (hl:∀ x ∈ l,Nz x):Nz (.tu l):=fun w D B v hB h=>by
 unfold Rd at h ⊢;obtain ⟨vs,rfl,h1⟩:=h;exact ⟨vs,rfl,nzL hB l vs hl h1⟩
def nz_ag {l:List PV} (hl:∀ x ∈ l,Nz x):Nz (.ag l):=fun w D B v hB h=>by
 unfold Rd at h ⊢;obtain ⟨vs,rfl,h1⟩:=h;exact ⟨vs,rfl,nzL hB l vs hl h1⟩
def qtO:qaL Tryz.prog 87=true:=by kernel_rfl
def eq_iv {k m:IntKind} {a b c d:Int}:bnP Tryz.prog .eql 87 (.ag [.vl (.int k a),.vl (.int m b)]) (.ag [.vl (.int k c),.vl (.int m d)])=some (.vl (.bool (a == c && b == d))):=qup qtO
attribute [go_sem] eq_iv
def qo6 {mode:Int} {z y K s:Nat} (hs:s≤K) (hz:0 < z) (hy:0 < y):fQ mode ((z:Int)*(2:Int) ^ (K-s)) ((y:Int)*(2:Int) ^ K)=rF mode false z (y*2 ^ s):=by
 have hpos:0 < (z:Int)*(2:Int) ^ (K-s):=Int.mul_pos Oq (q0S _);have hpos2:0 < (y:Int)*(2:Int) ^ K:=Int.mul_pos Oq (q0S _);unfold fQ;rw [if_neg (by omega),decide_eq_false (by omega),decide_eq_false (by omega),q0L,q0L,Int.natAbs_natCast,Int.natAbs_natCast,show y*(2:Nat) ^ K=y*2 ^ s*2 ^ (K-s) by rw [Nat.mul_assoc,← Nat.pow_add]; congr 2; omega];exact q3l hz (Nat.mul_pos hy (q0I _)) (q0I _)
def qee {x y K:Nat} {V:Int} (hK:K=65536) (hx:q0M x) (hy:q0M y) (h:ofZ x*ofZ y=V*(2:Int) ^ K):q0l x y=V:=Int.eq_of_mul_eq_mul_right (Int.ne_of_gt (q0S K)) ((qn2 hK hx hy).1.trans h)
def awF (a b:Nat):Nat→Nat→Option Nat:=fun j i=>if i=j then (if j=0 then some a else some b) else none
section
variable {K:Nat} {f1 f4 fq:Nat}
def awB (hK:K=65536) (h1:q0M f1) (h4:q0M f4) (hq:q0M fq) (o1:ofZ f1=(2:Int) ^ K) (o4:ofZ f4=4*(2:Int) ^ K) (oq:4*ofZ fq=(2:Int) ^ K) (i:Nat) (hi:i < 2):btZ 2 [f1,0,0,fq] (awF f1 f4) i=0:=by
 have e1:q0i=(2:Int) ^ K:=by rw [q8i,hK]
 have m1:q0l f1 f1=(2:Int) ^ K:=qee hK h1 h1 (by rw [o1]);have m2:q0l fq f4=(2:Int) ^ K:=qee hK hq h4 (by rw [o4,← oq]; generalize ofZ fq=z; rw [Int.mul_left_comm,← Int.mul_assoc]);have hi:i=0∨i=1:=by omega
 unfold btZ btE btD
 rcases hi with rfl | rfl
 ·simp [sg,awF,m1,m2,q5g,q8l,e1]
 ·simp [sg,awF,m1,m2,q5g,q8l,e1]
def qiR {a b:Int} (ha:0≤a):grZ [a,b]=max a b:=by unfold grZ; simp [Int.max_eq_right ha]
def awP {v:List Nat} (hv:v=[f1,0,0,fq]) (hK:K=65536) (o1:ofZ f1=(2:Int) ^ K) (o4:ofZ f4=4*(2:Int) ^ K) (oq:4*ofZ fq=(2:Int) ^ K):grZ (pnL 2 2 v)=(2:Int) ^ K∧grZ (nmL (awF f1 f4) 2 2)=4*(2:Int) ^ K:=by
 have hp:=q0S K;have a1:abZ f1=(2:Int) ^ K:=by unfold abZ; rw [o1]; omega
 have a4:abZ f4=4*(2:Int) ^ K:=by unfold abZ; rw [o4]; omega
 have aq:4*abZ fq=(2:Int) ^ K:=by unfold abZ; omega
 have s2:∀ g:Nat→Int,sg g 2=0+g 0+g 1:=fun g=>rfl;have r2:∀ g:Nat→Int,(List.range 2).map g=[g 0,g 1]:=fun g=>rfl;have b0:=qjf;have hq:0≤abZ fq:=by unfold abZ; omega
 subst hv
 constructor
 ·unfold pnL;rw [r2];have p0:pnZ 2 2 [f1,0,0,fq] 0=(2:Int) ^ K:=by
   unfold pnZ;rw [s2]
   show 0+abZ f1+abZ 0=_
   rw [b0,a1]; omega
  have p1:pnZ 2 2 [f1,0,0,fq] 1=abZ fq:=by
   unfold pnZ;rw [s2]
   show 0+abZ 0+abZ fq=_
   rw [b0]; omega
  rw [p0,p1,qiR (Int.le_of_lt hp)];generalize (2:Int) ^ K=P at *;omega
 ·unfold nmL;rw [r2];have p0:nmZ (awF f1 f4) 2 0=(2:Int) ^ K:=by
   unfold nmZ;rw [s2]
   show 0+abZ f1+abZ 0=_
   rw [b0,a1]; omega
  have p1:nmZ (awF f1 f4) 2 1=4*(2:Int) ^ K:=by
   unfold nmZ;rw [s2]
   show 0+abZ 0+abZ f4=_
   rw [b0,a4]; omega
  rw [p0,p1,qiR (Int.le_of_lt hp)];generalize (2:Int) ^ K=P at *;omega
def aw43 (hK:K=65536) (u1:f1 < 18446744073709551616∧q0M f1) (u4:f4 < 18446744073709551616∧q0M f4) (uq:fq < 18446744073709551616∧q0M fq) (o1:ofZ f1=(2:Int) ^ K) (o4:ofZ f4=4*(2:Int) ^ K) (oq:4*ofZ fq=(2:Int) ^ K) (x4:f4=rF 1 false 4 1) (y4:f4=rF 2 false 4 1) (xq:fq=rF 1 false 1 4):bnA 2 2 (awF f1 f4) 2 2 [f1,0,0,fq] (grZ (nmL (awF f1 f4) 2 2))=(f4,f4,true,0)∧lwA 2 2 (awF f1 f4) [0,f1]=(fq,0):=by
 have hp:=q0S K;have e1:q0i=(2:Int) ^ K:=by rw [q8i,hK]
 obtain ⟨g1,g2⟩:=awP (v:=[f1,0,0,fq]) rfl hK o1 o4 oq;have hb:=fun i hi=>awB (i:=i) hK u1.2 u4.2 uq.2 o1 o4 oq hi;have q1:fQ 1 (4*(2:Int) ^ K) ((2:Int) ^ K)=f4:=by
  have:=qo6 (mode:=1) (z:=4) (y:=1) (K:=K) (s:=0) Oq Oq Oq;rw [Nat.sub_zero,show (((1:Nat):Int)*(2:Int) ^ K)=(2:Int) ^ K from Int.one_mul _] at this;rw [x4]; exact this
 have q2:fQ 2 (4*(2:Int) ^ K) ((2:Int) ^ K)=f4:=by
  have:=qo6 (mode:=2) (z:=4) (y:=1) (K:=K) (s:=0) Oq Oq Oq;rw [Nat.sub_zero,show (((1:Nat):Int)*(2:Int) ^ K)=(2:Int) ^ K from Int.one_mul _] at this;rw [y4]; exact this
 have q3:fQ 1 ((2:Int) ^ K) (4*(2:Int) ^ K)=fq:=by
  have:=qo6 (mode:=1) (z:=1) (y:=4) (K:=K) (s:=0) Oq Oq Oq;rw [Nat.sub_zero,show (((1:Nat):Int)*(2:Int) ^ K)=(2:Int) ^ K from Int.one_mul _] at this;rw [xq]; exact this
 constructor
 ·have h0:btC 2 2 2 2 [f1,0,0,fq]=0:=by
   unfold btC chP;rw [if_neg (by omega),if_neg (by
    rw [if_neg (by simp),if_pos (fun x hx=>by
     simp at hx
     rcases hx with rfl | rfl | rfl
     ·exact u1.2
     ·simp [q0M]
     ·exact uq.2)]; decide),if_neg (by omega)]
  have h1:grZ (btL 2 [f1,0,0,fq] (awF f1 f4))=0:=by
   unfold btL
   show grZ [btZ 2 [f1,0,0,fq] (awF f1 f4) 0,btZ 2 [f1,0,0,fq] (awF f1 f4) 1]=0
   rw [hb 0 (by omega),hb 1 (by omega)]; rfl
  have h2:prZ ((2:Int) ^ K) (4*(2:Int) ^ K)=4*(2:Int) ^ K:=by
   have hb4:q0V (4*(2:Int) ^ K):=by
    unfold q0V;rw [q0L,q1I (by decide)];have:bl (4:Int).natAbs≤3:=q0P (by decide);omega
   have:=q71 hb4;unfold prZ;rw [Int.mul_comm];rw [← hK] at this;rw [this]; rfl
  unfold bnA;rw [h0,if_neg (show ¬ (0:Int)≠0 by decide),g1,g2,h1,h2];unfold bnI;rw [if_neg (by omega),e1,Int.add_zero,Int.sub_zero,q1,q2]
 ·unfold lwA;rw [if_neg (by omega),if_neg (by simp),if_pos (fun x hx=>by
   simp at hx
   rcases hx with rfl | rfl
   ·simp [q0M]
   ·exact u1.2)]
  have a1:abZ f1=(2:Int) ^ K:=by unfold abZ; rw [o1]; omega
  have m4:q0l f4 f1=4*(2:Int) ^ K:=qee hK u4.2 u1.2 (by rw [o1,o4]);have v1:grZ ([0,f1].map abZ)=(2:Int) ^ K:=by
   show grZ [abZ 0,abZ f1]=_
   rw [qjf,a1,qiR (by omega)];omega
  have s2:∀ g:Nat→Int,sg g 2=0+g 0+g 1:=fun g=>rfl;have v2:grZ (imL (awF f1 f4) [0,f1] 2 2)=4*(2:Int) ^ K:=by
   unfold imL
   show grZ [imZ (awF f1 f4) [0,f1] 2 0,imZ (awF f1 f4) [0,f1] 2 1]=_
   have p0:imZ (awF f1 f4) [0,f1] 2 0=0:=by
    unfold imZ;rw [s2]
    show ((0+q0l f1 0+q0l 0 f1).natAbs:Int)=0
    rw [q8l,q5g]; rfl
   have p1:imZ (awF f1 f4) [0,f1] 2 1=4*(2:Int) ^ K:=by
    unfold imZ;rw [s2]
    show ((0+q0l 0 0+q0l f4 f1).natAbs:Int)=_
    rw [q8l,m4];omega
   rw [p0,p1,qiR (by omega)];omega
  unfold lwV;rw [v1,v2,if_neg (by omega),if_neg (by omega),q3]
end
def q6I:ACt 54 [] (bv true):=by
 obtain ⟨K,hK⟩:∃ K:Nat,K=65536:=⟨_,rfl⟩;have p52:(4503599627370496:Int)=(2:Int) ^ 52:=by decide
 have o1:ofZ 4607182418800017408=(2:Int) ^ K:=by
  rw [qnU (m:=4503599627370496) (e:=1023) (by omega) (by omega) (by omega) (by omega) (by omega),show (((4503599627370496:Nat):Int))=(2:Int) ^ 52 from p52,← Int.pow_add]
  congr 1
  omega
 have o4:ofZ 4616189618054758400=4*(2:Int) ^ K:=by
  rw [qnU (m:=4503599627370496) (e:=1025) (by omega) (by omega) (by omega) (by omega) (by omega),show (((4503599627370496:Nat):Int))=(2:Int) ^ 52 from p52,← Int.pow_add,show (4:Int)=(2:Int) ^ 2 from rfl,← Int.pow_add]
  congr 1
  omega
 have oq:4*ofZ 4598175219545276416=(2:Int) ^ K:=by
  rw [qnU (m:=4503599627370496) (e:=1021) (by omega) (by omega) (by omega) (by omega) (by omega),show (((4503599627370496:Nat):Int))=(2:Int) ^ 52 from p52,← Int.pow_add,show (4:Int)=(2:Int) ^ 2 from rfl,← Int.pow_add]
  congr 1
  omega
 have x4:4616189618054758400=rF 1 false 4 1:=by kernel_rfl
 have y4:4616189618054758400=rF 2 false 4 1:=by kernel_rfl
 have z4:rF 0 false 4 1=4616189618054758400:=by kernel_rfl
 have xq:4598175219545276416=rF 1 false 1 4:=by kernel_rfl
 have f4:flz 4=4616189618054758400:=by
  have h1:=fR_u (z:=4) (K:=65536) (s:=0) rfl Oq Oq;have h2:fR 0 (((4:Nat):Int)*(2:Int) ^ (65536-0))=flz 4:=rfl;rw [← h2,h1];exact z4
 obtain ⟨r1,r2⟩:=aw43 (f1:=4607182418800017408) (f4:=4616189618054758400) (fq:=4598175219545276416) hK ⟨by omega,by unfold q0M; omega⟩ ⟨by omega,by unfold q0M; omega⟩ ⟨by omega,by unfold q0M; omega⟩ o1 o4 oq x4 y4 xq;have hm:TOk (awF 4607182418800017408 4616189618054758400) 2 2:=by
  refine ⟨by omega,by omega,by omega,fun j i x _ _ h=>?_,fun j i x _ _ h=>?_⟩
  ·unfold awF at h
   split at h
   ·split at h <;> cases h <;> omega
   ·cases h
  ·unfold awF at h
   split at h
   ·split at h <;> cases h <;> (unfold q0M; omega)
   ·cases h
 have C1:ACt 46 [iv 4,iv 0] (uv (4616189618054758400:Nat)):=by
  rw [← f4];exact q6d (z:=4) (mode:=0) Oq Oq (q70 (by have:=q0P (n:=(4:Int).natAbs) (k:=4) (by decide); omega))
 have C2:=q7s (r:=2) (c:=2) (v:=[4607182418800017408,0,0,4598175219545276416]) hm (by omega) (by omega) (by omega) (by omega) (by simp) (fun x hx=>by simp at hx; rcases hx with rfl | rfl | rfl <;> omega);have C3:=q6D (y:=[0,4607182418800017408]) hm (by omega) (by omega) (fun x hx=>by simp at hx; rcases hx with rfl | rfl <;> omega) (by simp);rw [r1] at C2;rw [r2] at C3;clear r1 r2 o1 o4 oq x4 y4 xq z4 f4 p52;have D2:ACt 53 [.ag [iv 2,iv 2,.sl none [iv 0,iv 1,iv 2],.sl none [iv 0,iv 1],.sl none [uv 4607182418800017408,uv 4616189618054758400]],.ag [iv 2,iv 2,.sl none [uv 4607182418800017408,uv 0,uv 0,uv 4598175219545276416]]] (.tu [.ag [uv 4616189618054758400,uv 4616189618054758400],bv true,iv 0]):=C2;have D3:ACt 65 [.ag [iv 2,iv 2,.sl none [iv 0,iv 1,iv 2],.sl none [iv 0,iv 1],.sl none [uv 4607182418800017408,uv 4616189618054758400]],.sl none [uv 0,uv 4607182418800017408]] (.tu [uv 4598175219545276416,iv 0]):=C3;have D1:ACt 46 [iv 4,iv 0] (uv 4616189618054758400):=C1;clear C1 C2 C3;have N2:Nz (.tu [.ag [uv 4616189618054758400,uv 4616189618054758400],bv true,iv 0]):=qnX fun x hx=>by
  simp at hx
  rcases hx with rfl | rfl | rfl
  ·exact nz_ag fun x hx=>by simp at hx; subst hx; exact q9s
  ·exact q9s
  ·exact q9s
 have N3:Nz (.tu [uv 4598175219545276416,iv 0]):=qnX fun x hx=>by
  simp at hx
  rcases hx with rfl | rfl <;> exact q9s
 have b1:((4616189618054758400:Int) == 4616189618054758400)=true:=by decide
 have b2:((4598175219545276416:Int) == 4598175219545276416)=true:=by decide
 have b3:((0:Int) == 0)=true:=rfl;refine ac0 Tryz.func54 Tryz.ntmps54 [.tmp 0] ?_;exact wk1 (x3 b1 b2 b3) trivial
section
variable {V W n:Int} {x:Nat}
end
section
attribute [local instance] lNL
def qez {l:List Nat} (ha:q0Z l) (hl:l.length≤1000000000):ACt 243 [pW l,pW l] (bv true):=by
 refine ac0 Tryz.func243 Tryz.ntmps243 [.tmp 4] ?_;refine wk ?_;refine q0B (fun k=>k≤l.length) [0,1] [] Lk Lk (fun k:Nat=>[(5,iv k)]) (fun _=>[]) (fun k=>l.length-k) 0 (Nat.zero_le _) ?_ ?_
 ·refine LeM [] rfl rfl ?_;refine Zz ?_
  rfl
 ·intro k hk
  by_cases hlt:k < l.length
  ·have q:(k:Int) < l.length:=by omega
   have e1:=q1L (l:=l) (i:=k) hlt;have w1:IntKind.i64.wrap ((k:Int)+1)=((k+1:Nat):Int):=by rw [i64_in (by omega) (by omega)]; omega
   refine wk1 (x3 q e1 w1) ?_;refine ⟨k+1,hlt,by omega,?_⟩;refine LeM [] rfl rfl ?_;exact Zy
  ·have q:¬ (k:Int) < l.length:=by omega
   exact wk1 q trivial
def qni {s:Bool} {l:List Nat} (ha:q0Z l) (hl:l.length≤1000000000):ACt 187 [.ag [bv s,pW l],.ag [bv s,pW l]] (bv true):=by
 have C:=qez ha hl;have q:(s == s)=true:=by simp
 refine ac0 Tryz.func187 Tryz.ntmps187 [.tmp 4] ?_;exact wk1 q trivial
def qfA {s:Bool} {l:List Nat} {e:Int} (ha:q0Z l) (hl:l.length≤1000000000):ACt 109 [.ag [bv false,bv s,pW l,iv e],.ag [bv false,bv s,pW l,iv e]] (bv true):=by
 have C:=qni (s:=s) ha hl;refine ac0 Tryz.func109 Tryz.ntmps109 [.tmp 4] ?_;exact wk trivial
end
def qeK {V:Int}:ACt 50 [pV V,pV V] (bv true):=qgn qu9 fun ⟨ho,_⟩=>by
 obtain ⟨hd1,hd2,hd3⟩:=q0k ho;have cN:=q0d ho;have cD:ACt 109 [dT V,dT V] (bv true):=q2s (qfA (s:=decide (od V < 0)) (l:=lim (od V).natAbs) (e:=dyE V) (q0C _) (q3G Oq));unfold dT at cN cD ⊢;refine ac0 Tryz.func50 Tryz.ntmps50 [.tmp 4] ?_;exact wk trivial
section
variable {raw other:List Nat} {n st sp:Int} {rg wild zero:Bool}
def q7m (hr:raw.length≤9223372036854775807) (h1 : -9223372036854775808≤n) (h2:n≤9223372036854775807) (h3 : -9223372036854775808≤st) (h4:st≤9223372036854775807) (h5 : -9223372036854775808≤sp) (h6:sp≤9223372036854775807) :
  ACt 10 [pF raw,iv n,iv st,bv rg,iv sp,bv wild] (bv true):=by
 have cA:=q6I;have cP:=q5G (rg:=rg) (wild:=wild) hr h1 h2 h3 h4 h5 h6;have hN:q02 n 5 < 5:=by unfold q02; omega
 generalize q02 n 5=N at *;have hF:=q9O (raw:=raw) (N:=N) (st:=st) (rg:=rg) Oq;obtain ⟨hvl,hvu⟩:=quU (raw:=raw) (N:=N) (st:=st) (rg:=rg) (sp:=sp) (wild:=wild) Oq;generalize ckT raw N st rg=F at *;generalize ckV raw N st rg sp wild=v at *;have hNN:N*N≤5*5:=Nat.mul_le_mul Oq Oq;have c1:=q7r hF Oq Oq;have c2:=q5T hF Oq Oq;have c3:=qgE hF Oq Oq (by omega:N≤64) (by omega:N≤64) Oq hvu;have c4:=qd5 hF Oq Oq (by omega:N≤64) (by omega:N≤64) Oq hvu;have c5:=q7s hF Oq Oq (by omega:N≤64) (by omega:N≤64) Oq hvu;have c6:=qac hF Oq Oq (by omega:N≤64) (by omega:N≤64) Oq hvu;generalize bnA N N F N N v (grZ (nmL F N N))=q at *;generalize bnA N N F N N v q0i=p at *;generalize grZ (nmL F N N)=M at *;have c7:=qeK (V:=M);have b1:∀ x:Int,(x == x)=true:=fun x=>by simp
 have b2:∀ x:Bool,(x == x)=true:=fun x=>by simp
 have b3:∀ x y:Int,((x == x) && (y == y))=true:=fun x y=>by simp
 obtain ⟨p1,p2,p3,p4⟩:=p;obtain ⟨q1,q2,q3,q4⟩:=q;unfold pT q0b pPn pBn at *;dsimp only at *;generalize (tM F N N).1=ms at *;generalize (tM F N N).2.1=mi at *;generalize (tM F N N).2.2=mv at *;refine ac0 Tryz.func10 Tryz.ntmps10 [.tmp 12] ?_;exact wk1 (x3 b1 b2 b3) trivial
noncomputable def clL (raw raw2:List Nat) (N:Nat) (st:Int) (rg:Bool):LUt:=qo4 (ckT raw N st rg) (tM (ckT raw N st rg) N N).2.1 N (q3m raw2 N) 1 2
def qsF {N:Nat}:List.replicate N (PV.vl (.int .u64 0))=(List.replicate N 0).map fun z:Nat=>uv z:=by rw [List.map_replicate]; rfl
def q9K (hr:raw.length≤9223372036854775807) (hr2:other.length≤9223372036854775807) (h1 : -9223372036854775808≤n) (h2:n≤9223372036854775807) (h3 : -9223372036854775808≤st) (h4:st≤9223372036854775807) :
  ACt 12 [pF raw,iv n,iv st,bv rg,pF other,bv zero] (bv true):=by
 have cA:=q6I;have cP:=q5G (sp:=0) (rg:=rg) (wild:=true) hr h1 h2 h3 h4 Oq Oq;have cP2:=q5G (sp:=0) (st:=0) (rg:=true) (wild:=true) hr2 h1 h2 Oq Oq Oq Oq;have hN:q02 n 5 < 5:=by unfold q02; omega
 generalize q02 n 5=N at *;have hF:=q9O (raw:=raw) (N:=N) (st:=st) (rg:=rg) Oq;have hF2:=q9O (raw:=other) (N:=N) (st:=0) (rg:=true) Oq;have cO:=qhi (raw:=raw) (N:=N) hr Oq;have hpm:=qhj raw N;have hll:=q7Y raw N;have hP:q2W (q3m raw N) N:=⟨by rw [hll],fun x hx=>by have:=hpm.1 x hx; omega,hpm.2⟩;have cL:=q5J (num:=1) (den:=2) hF Oq (cols:=q3m raw N) hP Oq Oq Oq;have cL2:=q5J (num:=1) (den:=2) hF2 Oq (cols:=q3m raw N) hP Oq Oq Oq;have hb1:LUb (clL raw raw N st rg)∧(clL raw raw N st rg).rows.length≤N:=qf9 (by omega) (by rw [hll]; omega);have hb2:LUb (clL other raw N 0 true)∧(clL other raw N 0 true).rows.length≤N:=qf9 (by omega) (by rw [hll]; omega);unfold qtE at cL cL2;change ACt _ _ (.tu [pLU (clL raw raw N st rg),_,_]) at cL;change ACt _ _ (.tu [pLU (clL other raw N 0 true),_,_]) at cL2;have cV:=qmN (raw:=raw) (k:=30) (st:=st) (n:=N) hr Oq Oq Oq h3 h4;have hvl:=q1y (raw:=raw) (k:=30) (st:=q02 st 4) (n:=N);have hvu:∀ x ∈ q5X raw 30 (q02 st 4) N,x < 18446744073709551616:=fun x hx=>(q3e x hx).1;have c5:=qaT hF Oq Oq hb1.1 Oq;have c6:=q92 hF Oq Oq hb1.1 Oq;have c7:=qaT hF Oq Oq hb2.1 Oq;have c8:=q92 hF Oq Oq hb2.1 Oq;have c1:=fun (y:List Nat) (q1:∀ x ∈ y,x < 18446744073709551616) (q2:y.length≤1000)=>q6D (y:=y) hF Oq Oq q1 Oq;have c2:=fun (y:List Nat) (q1:∀ x ∈ y,x < 18446744073709551616) (q2:y.length≤1000)=>q4U (y:=y) hF Oq Oq q1 Oq;clear hb1 hb2 hpm hP;generalize esA N N (ckT raw N st rg) (clL raw raw N st rg)=e1 at *;generalize esA N N (ckT raw N st rg) (clL other raw N 0 true)=e2 at *;generalize clL raw raw N st rg=f at *;generalize clL other raw N 0 true=g at *;generalize ckT raw N st rg=F at *;generalize ckT other N 0 true=F2 at *;generalize ckV raw N st rg 0 true=v1 at *;generalize ckV other N 0 true 0 true=v2 at *;generalize q5X raw 30 (q02 st 4) N=y at *;generalize q3m raw N=o at *;obtain ⟨a1,a2,a3⟩:=e1;obtain ⟨d1,d2,d3⟩:=e2;have b1:∀ x:Int,(x == x)=true:=fun x=>by simp
 unfold pT q0b pPn pLU at *;dsimp only at *;generalize (tM F N N).1=ms at *;generalize (tM F N N).2.1=mi at *;generalize (tM F N N).2.2=mv at *;generalize (tM F2 N N).1=ms2 at *;generalize (tM F2 N N).2.1=mi2 at *;generalize (tM F2 N N).2.2=mv2 at *;cases zero
 ·have k1:=c1 y hvu Oq;have k2:=c2 y hvu Oq;clear c1 c2;generalize lwA N N F y=q at *;obtain ⟨q1,q2⟩:=q;dsimp only at k1 k2;refine ac0 Tryz.func12 Tryz.ntmps12 [.tmp 12] ?_;exact wk1 b1 trivial
 ·have k1:=c1 (List.replicate N 0) (fun x hx=>by have:=(List.mem_replicate.1 hx).2; omega) (by rw [List.length_replicate]; omega);have k2:=c2 (List.replicate N 0) (fun x hx=>by have:=(List.mem_replicate.1 hx).2; omega) (by rw [List.length_replicate]; omega);have hz:=qsF (N:=N);have hzl:(List.replicate N 0).length=N:=List.length_replicate;clear c1 c2;generalize lwA N N F (List.replicate N 0)=q at *;generalize List.replicate N 0=z at *;obtain ⟨q1,q2⟩:=q;dsimp only at k1 k2;have N1:Nz (.tu [uv (q1:Nat),iv q2]):=qnX fun x hx=>by
   simp at hx
   rcases hx with rfl | rfl <;> exact q9s
  refine ac0 Tryz.func12 Tryz.ntmps12 [.tmp 12] ?_;exact wk1 (x3 b1 hz hzl) trivial
end
end Go.Proofs.YtfmojhhokfkdaaaGreatDoor
