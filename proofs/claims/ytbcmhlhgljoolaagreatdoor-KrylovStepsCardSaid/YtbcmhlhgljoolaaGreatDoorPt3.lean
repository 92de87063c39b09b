/- KrylovSteps. 3/7. -/
import Derived.Carry
import Derived.LaidMore
import Derived.Laws.CopyRow
import Derived.LoopN
import Derived.OpenShut
import Derived.ProofKit
import Derived.Stop.Joined
import Derived.Test.YtbcmhlhgljoolaaGreatDoorRows
import Derived.Test.YtbcmhlhgljoolaaGreatDoorPt2
set_option linter.unusedSimpArgs false
set_option linter.unusedVariables false
set_option maxRecDepth 20000
set_option maxHeartbeats 2000000
set_option linter.defProp false
namespace Go.E
open Go
def q7u {P:Program} {n:Nat} {a b:Code} {Q:Exit→Env→World→Prop} {e:Env} {w:World} (J:Env→World→Prop) (h1:W P n a (q8H J Q) e w) (h2:∀ e' w',J e' w'→W P n b Q e' w'):W P n (.seq a b) Q e w :=
 qgm (q5G (fun x e w h=>by cases x <;> first | exact h2 _ _ h | exact h) h1)
def Db (D:Nat→Prop) (N:Nat):Nat→Prop:=fun k=>D k∧k < N
def In.db {G:Fam} {D:Nat→Prop} {v:Value} {w w':World} (h:In G D v w):In G (Db D w.heap.size) v w:=h.sub fun _ hk hd=>⟨hd,hk⟩
def Own.cell_set {w:World} {B E n c g j:Nat} {xs:List Value} {v:Value} (h:Own w B E 1 (some ⟨g,0,none⟩) n c (xs.set j v)) (hj:j < xs.length):w.cell? ⟨g,j,none⟩=some v:=by
 obtain ⟨g',hg,_,hc,_⟩:=h.cell (j:=j) (by simpa using hj);cases hg;rw [hc,List.getElem_set_self]
def In.kpb {G:Fam} {D:Nat→Prop} {v:Value} {w w':World} {N:Nat} {X:Nat→Prop} (h:In G (Db D N) v w) (k:Kp X w w') (hX:∀ k,k < N→X k):In G (Db D N) v w':=h.kp (k.mono fun _ _ hd=>hX _ hd.2)
end Go.E
namespace Go.Proofs.YtbcmhlhgljoolaaGreatDoor
open Go Go.E Go.Sp
set_option maxHeartbeats 1000000 in
def qj8 {D:Nat→Prop} {Bd g j n m c cv:Nat} {Av:Option Addr} {us vs:List Nat} {w:World} (hO:q12 w Bd (some ⟨g,0,none⟩) m m us) (hj:j+n+1≤m) (hm:m≤1000000000) (hv:In (fU vs) D (.slice Av n cv) w) (hgD:∀ k,D k→k≠g) (hn:2≤n) (htop:2147483648≤vs.getD (n-1) 0) (hlt:val ((us.drop j).take (n+1)) < B*val vs) :
  Calls Tryz.prog 264 #[.slice (some ⟨g,j,none⟩) (n+1) c,.slice Av n cv] w fun e w'=>e=.returned (.int .u32 ((val ((us.drop j).take (n+1)) / val vs:Nat):Int))∧Kp (fun k=>k≠g) w w' ∧
   ∃ o,q12 w' Bd (some ⟨g,0,none⟩) m m o∧(∀ k,k < j∨j+n < k→o.getD k 0=us.getD k 0)∧val ((o.drop j).take (n+1))=val ((us.drop j).take (n+1)) % val vs:=by
 have hlv:=hv.u32.len;have hlu:=hO.len;obtain ⟨ad,rfl,-⟩:=hv.u32.cell (j:=0) Oq;refine q0J Tryz.func264 rfl Tryz.ntmps264 (by kernel_rfl) ?_;refine Wz ?_;refine Wz ?_;have en1:IntKind.i64.wrap ((n:Int)-1)=((n-1:Nat):Int):=by rw [i64_in Oq (by omega)]; omega
 have en2:IntKind.i64.wrap ((n:Int)-2)=((n-2:Nat):Int):=by rw [i64_in Oq (by omega)]; omega
 have i0:(0:Int)≤(n:Int)∧(n:Int) < ((n+1:Nat):Int):=by omega
 have i1:(0:Int)≤((n-1:Nat):Int)∧((n-1:Nat):Int) < ((n+1:Nat):Int):=by omega
 have i2:(0:Int)≤((n-2:Nat):Int)∧((n-2:Nat):Int) < ((n+1:Nat):Int):=by omega
 have j1:(0:Int)≤((n-1:Nat):Int)∧((n-1:Nat):Int) < (n:Int):=by omega
 have j2:(0:Int)≤((n-2:Nat):Int)∧((n-2:Nat):Int) < (n:Int):=by omega
 have x0:=hO.cx (j:=j+n) Oq;have x1:=hO.cx (j:=j+(n-1)) Oq;have x2:=hO.cx (j:=j+(n-2)) Oq;have y1:=hv.u32.cx (j:=n-1) Oq;have y2:=hv.u32.cx (j:=n-2) Oq;have b0:=hO.2.get (j+n);have b1:=hO.2.get (j+(n-1));have b2:=hO.2.get (j+(n-2));have c1:=hv.u32.dg_lt (n-1);have c2:=hv.u32.dg_lt (n-2);obtain ⟨lv,hlv1,hlv2⟩:∃ low,low < B ^ (n-2)∧val vs=low+B ^ (n-2)*(vs.getD (n-2) 0+B*vs.getD (n-1) 0):=by
  obtain ⟨low,h1,h2⟩:=top2 (n:=n) hv.u32.2 hn;rw [q0K vs n (by omega)] at h2;exact ⟨low,h1,h2⟩
 have hUd:∀ i,((us.drop j).take (n+1)).getD i 0=if i≤n then us.getD (j+i) 0 else 0:=fun i=>by
  rw [List.getD_eq_getElem?_getD,List.getElem?_take]
  split
  ·rw [if_pos Oq,List.getElem?_drop,← List.getD_eq_getElem?_getD]
  ·rw [if_neg (by omega)]; rfl
 obtain ⟨lu,hlu1,hlu2⟩:∃ low,low < B ^ (n-2)∧val ((us.drop j).take (n+1))=low+B ^ (n-2)*(us.getD (j+(n-2)) 0+B*us.getD (j+(n-1)) 0+B*B*us.getD (j+n) 0):=by
  obtain ⟨low,h1,h2⟩:=top2 (l:=us.drop j) (n:=n) (hO.2.drop j) hn;refine ⟨low,h1,?_⟩;rw [q22,h2];have e:∀ i,(us.drop j).getD i 0=us.getD (j+i) 0:=fun i=>by rw [List.getD_eq_getElem?_getD,List.getElem?_drop,← List.getD_eq_getElem?_getD]
  rw [e,e,show B ^ n=B ^ (n-2)*(B*B) by rw [← Nat.pow_two,← Nat.pow_add]; congr 1; omega,Nat.mul_assoc,Nat.add_assoc,← Nat.mul_add]
 generalize hU:val ((us.drop j).take (n+1))=U at *;generalize hV:val vs=V at *;generalize hu0:us.getD (j+n) 0=u0 at *;generalize hu1:us.getD (j+(n-1)) 0=u1 at *;generalize hu2:us.getD (j+(n-2)) 0=u2 at *;have hdv1:dg vs (n-1)=vs.getD (n-1) 0:=rfl;have hdv2:dg vs (n-2)=vs.getD (n-2) 0:=rfl;rw [hdv1] at y1 c1;rw [hdv2] at y2 c2;generalize hv1:vs.getD (n-1) 0=v1 at *;generalize hv0:vs.getD (n-2) 0=v0 at *;obtain ⟨top,htp⟩:∃ top,top=u0*4294967296+u1:=⟨_,rfl⟩;have hBB:B=4294967296:=rfl;have qN:(u0*4294967296 % 18446744073709551616 ||| u1)=top:=by
  rw [Nat.mod_eq_of_lt Oq,Nat.or_comm,show (4294967296:Nat)=2 ^ 32 from rfl,q2H Oq,htp,Nat.add_comm]
 obtain ⟨p,hp⟩:∃ p,p=B ^ (n-2):=⟨_,rfl⟩;rw [← hp] at hlu1 hlu2 hlv1 hlv2;have hp0:0 < p:=by omega
 have hT:u2+B*u1+B*B*u0=top*B+u2:=by
  rw [htp,← hBB,Nat.add_mul,Nat.mul_comm u0 B,Nat.mul_right_comm,Nat.mul_comm u1 B]; omega
 rw [hT] at hlu2;have hUlo:(top*B+u2)*p≤U:=by rw [hlu2,Nat.mul_comm]; omega
 have hUhi:U < (top*B+u2+1)*p:=by rw [hlu2,Nat.add_mul (top*B+u2),Nat.one_mul,Nat.mul_comm p]; omega
 have hVe:v0+B*v1=v1*B+v0:=by rw [Nat.mul_comm]; omega
 rw [hVe] at hlv2;have hVlo:(v1*B+v0)*p≤V:=by rw [hlv2,Nat.mul_comm]; omega
 have hVhi:V≤(v1*B+v0+1)*p:=by rw [hlv2,Nat.add_mul (v1*B+v0),Nat.one_mul,Nat.mul_comm p]; omega
 have htt:top < v1*B+B:=by
  have h1:(top*B+u2)*p < B*((v1*B+v0+1)*p):=Nat.lt_of_le_of_lt hUlo (Nat.lt_of_lt_of_le hlt (Nat.mul_le_mul_left B hVhi));rw [← Nat.mul_assoc] at h1;have h2:=Nat.lt_of_mul_lt_mul_right h1;have h3:top*B < (v1*B+v0+1)*B:=by rw [Nat.mul_comm B] at h2; omega
  have:=Nat.lt_of_mul_lt_mul_right h3;omega
 have hBv:B≤v1*B:=Nat.le_mul_of_pos_left B Oq;have htop64:top < 18446744073709551616:=by omega
 have hd1:top / v1 < 18446744073709551616:=Nat.lt_of_le_of_lt (Nat.div_le_self _ _) htop64;have hd2:=Nat.mod_lt top (show 0 < v1 by omega);have w64:∀ x:Nat,x < 18446744073709551616→IntKind.u64.wrap (x:Int)=(x:Int):=fun x h=>u64_in Oq Oq;have e1:Int.tdiv (top:Int) (v1:Int)=((top / v1:Nat):Int):=rfl;have e2:Int.tmod (top:Int) (v1:Int)=((top % v1:Nat):Int):=rfl;have e3:IntKind.u64.wrap ((top / v1:Nat):Int)=((top / v1:Nat):Int):=w64 _ hd1;have e4:((v1:Int)=0)=False:=eq_false Oq;have e5:(v1=0)=False:=eq_false Oq;refine q0B fun K hK=>?_;refine qcw q0l [true,true,true,true,true,true,true,true,true,true,true,true,true,true] (by kernel_rfl) fun KE hKE=>?_;simp -implicitDefEqProofs (maxSteps:=600000) (disch:=omega) only [go_sem,Nat.reduceEqDiff,Nat.reduceAdd,↓reduceIte,i0,i1,en1,x0,x1,qN];refine hKE _ fun w2 hx2=>?_; clear hKE KE;simp only [q0o];refine hK _ _ ?_; clear hK K;replace y1:=hx2.cell (D:=fun _=>True) trivial y1;refine q0B fun K hK=>?_;refine qcw q0l [true,true,true,true,true,true,true,true,true,true,true,true,true,true,true,true,true,true] (by kernel_rfl) fun KE hKE=>?_;simp -implicitDefEqProofs (maxSteps:=600000) (disch:=omega) only [go_sem,Nat.reduceEqDiff,Nat.reduceAdd,↓reduceIte,j1,en1,y1,e1,e2,e3,e4,e5];refine hKE _ fun w3 hx3=>?_; clear hKE KE;simp only [q0o];refine hK _ _ ?_; clear hK K;replace hx2:=hx2.trans hx3;clear hx3 y1 y2 x0 x1 x2;refine q7u (fun e' w'=>∃ q,e' 7=.int .u64 (q:Nat)∧U < (q+1)*V∧(q-1)*V≤U∧q < B∧Ext w w'∧e' 0=.slice (some ⟨g,j,none⟩) (n+1) c∧e' 1=.slice (some ad) n cv∧e' 5=.int .i64 n) ?_ ?_
 ·refine q0X ?_;refine q0a (fun e2 w'=>∃ q rest:Nat,e2 7=.int .u64 q∧e2 8=.int .u64 rest∧rest+q*v1=top∧rest < B∧U < (q+1)*V∧Ext w w') (fun e2 _=>(RowKit.intOf (e2 7)).toNat) ⟨top / v1,top % v1,Ue,Ue,by rw [Nat.mul_comm]; exact Nat.mod_add_div top v1,by omega,qfo hUhi hVlo rfl b2 Oq,hx2⟩ ?_;rintro e9 w9 ⟨q,rest,k7,k8,hr,hrB,hqU,hx⟩ hkk;have k0:e9 0=.slice (some ⟨g,j,none⟩) (n+1) c:=(hkk 0 (by kernel_rfl)).trans Ue;have k1:e9 1=.slice (some ad) n cv:=(hkk 1 (by kernel_rfl)).trans Ue;have k5:e9 5=.int .i64 n:=(hkk 5 (by kernel_rfl)).trans Ue;clear hkk;have x2:=(hO.ext hx).cx (j:=j+(n-2)) Oq;have y2:=(hv.ext hx).u32.cx (j:=n-2) Oq;rw [hu2] at x2;rw [hdv2] at y2;have hqv:q≤top:=by
   have:q*1≤q*v1:=Nat.mul_le_mul_left q Oq;omega
  have gN:(rest*4294967296 % 18446744073709551616 ||| u2)=rest*B+u2:=by
   rw [Nat.mod_eq_of_lt Oq,Nat.or_comm,show (4294967296:Nat)=2 ^ 32 from rfl,q2H Oq,Nat.add_comm]; rfl
  refine q0B fun Kc hKc=>?_;have dec:∀ (e3:Env) (w3:World),e3 0=.slice (some ⟨g,j,none⟩) (n+1) c→e3 1=.slice (some ad) n cv→e3 5=.int .i64 n→e3 7=.int .u64 q→e3 8=.int .u64 rest→Ext w w3→U < q*V→0 < q→Kc e3 w3:=by
   intro e3 w3 r0 r1 r5 r7 r8 hx3 hUq hq0;refine hKc _ _ ?_; clear hKc;refine q0X ?_;have d1:IntKind.u64.wrap ((q:Int)-1)=((q-1:Nat):Int):=by rw [u64_in Oq (by omega)]; omega
   have d2:IntKind.u64.wrap ((rest:Int)+(v1:Int))=((rest+v1:Nat):Int):=by rw [u64_in Oq (by omega)]; omega
   have y1:=(hv.ext hx3).u32.cx (j:=n-1) Oq;rw [hdv1] at y1;have hq1:(rest+v1)+(q-1)*v1=top:=by
    obtain ⟨k,rfl⟩:∃ k,q=k+1:=⟨q-1,by omega⟩;rw [Nat.add_mul,Nat.one_mul] at hr;rw [Nat.add_sub_cancel]; omega
   have hq2:U < (q-1+1)*V:=by rw [Nat.sub_add_cancel hq0]; exact hUq
   refine Wz2 r7 d1 ?_;refine q0A fun K hK=>?_;refine Zz7 r8 r1 r5 en1 j1 y1 d2 ?_;refine hK _ _ ?_; clear hK K;refine Wz ?_
   by_cases hb:B≤rest+v1
   ·have t:(((rest+v1:Nat):Int) > 4294967295)=True:=eq_true Oq;obtain ⟨z1,z2⟩:=qjX (u0:=u2) hq1 htt hb c2;refine q02 (t:=true) (by simp [ev,upd]; omega) (fun hc=>q04 ?_) (fun hc=>by cases hc)
    show ∃ q:Nat,_
    exact ⟨q-1,Ue,hq2,qfp hUlo hVhi rfl hq1 z2 Oq,z1,hx3,Ue,Ue,Ue⟩
   ·have t:(((rest+v1:Nat):Int) > 4294967295)=False:=eq_false Oq;refine q02 (t:=false) (by simp [ev,upd]; omega) (fun hc=>by cases hc) (fun hc=>q0G ?_);simp only [qns,q0o];exact ⟨⟨q-1,rest+v1,Ue,Ue,hq1,by omega,hq2,hx3⟩,by simp only [q0E,Nat.reduceEqDiff,↓reduceIte,RowKit.intOf,k7]; omega⟩
  by_cases hqB:q < B
  ·have hqv0:q*v0≤4294967295*4294967295:=Nat.mul_le_mul Oq Oq;have t1:((q:Int) > 4294967295)=False:=eq_false Oq;have t2:IntKind.u64.wrap ((q:Int)*(v0:Int))=((q*v0:Nat):Int):=by rw [← Int.natCast_mul]; exact w64 _ Oq
   by_cases hc:rest*B+u2 < q*v0
   ·have t3:(((q*v0:Nat):Int) > ((rest*B+u2:Nat):Int))=True:=eq_true Oq;have hq0:0 < q:=by
     rcases Nat.eq_zero_or_pos q with h | h
     ·subst h; rw [Nat.zero_mul] at hc; omega
     ·exact h
    refine q0B fun Kd hKd=>?_;refine qcw q0l [true,true,true,true,true,true,true,true,true,true,true,true,true,true,true,true,true,true,true,true,true,true] (by kernel_rfl) fun KE hKE=>?_;simp -implicitDefEqProofs (maxSteps:=600000) (disch:=omega) only [go_sem,Nat.reduceEqDiff,Nat.reduceAdd,↓reduceIte,k0,k1,k5,k7,k8,en2,i2,j2,x2,y2,gN,t1,t2,t3];refine hKE _ fun w4 hx4=>?_; clear hKE KE;simp only [q0o];refine hKd _ _ ?_; clear hKd Kd;refine q02 (t:=true) Ue (fun hc1=>q0G ?_) (fun hc1=>by cases hc1);simp only [q0o];exact dec _ _ Ue Ue Ue Ue Ue (hx.trans hx4) (qo3 hUhi hVlo rfl hr hc) hq0
   ·have t3:(((q*v0:Nat):Int) > ((rest*B+u2:Nat):Int))=False:=eq_false Oq;refine q0B fun Kd hKd=>?_;refine qcw q0l [true,true,true,true,true,true,true,true,true,true,true,true,true,true,true,true,true,true,true,true,true,true] (by kernel_rfl) fun KE hKE=>?_;simp -implicitDefEqProofs (maxSteps:=600000) (disch:=omega) only [go_sem,Nat.reduceEqDiff,Nat.reduceAdd,↓reduceIte,k0,k1,k5,k7,k8,en2,i2,j2,x2,y2,gN,t1,t2,t3];refine hKE _ fun w4 hx4=>?_; clear hKE KE;simp only [q0o];refine hKd _ _ ?_; clear hKd Kd;refine q02 (t:=false) Ue (fun hc1=>by cases hc1) (fun hc1=>q04 ?_)
    show ∃ q:Nat,_
    exact ⟨q,Ue,hqU,qfp hUlo hVhi rfl hr Oq Oq,hqB,hx.trans hx4,Ue,Ue,Ue⟩
  ·have t1:((q:Int) > 4294967295)=True:=eq_true Oq;refine q0B fun Kd hKd=>?_;refine qcw q0l [true,true,true,true,true,true,true,true,true,true,true,true,true,true,true,true,true,true,true,true,true,true] (by kernel_rfl) fun KE hKE=>?_;simp -implicitDefEqProofs (maxSteps:=600000) (disch:=omega) only [go_sem,Nat.reduceEqDiff,Nat.reduceAdd,↓reduceIte,k0,k1,k5,k7,k8,en2,i2,j2,x2,y2,gN,t1];refine hKE _ fun w4 hx4=>?_; clear hKE KE;simp only [q0o];refine hKd _ _ ?_; clear hKd Kd;refine q02 (t:=true) Ue (fun hc1=>q0G ?_) (fun hc1=>by cases hc1);simp only [q0o];exact dec _ _ Ue Ue Ue Ue Ue (hx.trans hx4) (Nat.lt_of_lt_of_le hlt (Nat.mul_le_mul_right V Oq)) Oq
 ·rintro e1 w1 ⟨q,k7,hqU,hqL,hqB,hx,k0,k1,k5⟩;have hqB':q < 4294967296:=hqB;refine Wz ?_;refine q0B fun K0 hK0=>?_;refine Wz1 k1 ?_;refine q0X ?_;refine q0a (fun e2 w2=>∃ (i cr br:Nat) (o:List Nat),e2 86=.int .i64 i∧e2 9=.int .u64 cr∧e2 10=.int .u64 br∧i≤n∧br≤1∧cr < 4294967296∧Kp (fun k=>k≠g) w w2∧q12 w2 Bd (some ⟨g,0,none⟩) m m o∧In (fU vs) D (.slice (some ad) n cv) w2∧(∀ k,k < j∨j+i≤k→o.getD k 0=us.getD k 0)∧val ((o.drop j).take i)+q*val (vs.take i)=val ((us.drop j).take i)+B ^ i*(cr+br)) (fun e2 _=>n-(RowKit.intOf (e2 86)).toNat) ⟨0,0,0,us,rfl,Ue,Ue,Nat.zero_le _,Nat.zero_le _,by omega,Kp.of_ext hx,hO.ext hx,hv.ext hx,fun _ _=>rfl,by simp [val]⟩ ?_;clear hx hv hO;rintro e2 w2 ⟨i,cr,br,o,r86,r9,r10,hi,hbr,hcr,hk,hO,hv,hun,hval⟩ hkk;have r0:e2 0=.slice (some ⟨g,j,none⟩) (n+1) c:=(hkk 0 (by kernel_rfl)).trans Ue;have r1:e2 1=.slice (some ad) n cv:=(hkk 1 (by kernel_rfl)).trans Ue;have r5:e2 5=.int .i64 n:=(hkk 5 (by kernel_rfl)).trans Ue;have r7:e2 7=.int .u64 q:=(hkk 7 (by kernel_rfl)).trans Ue;have r84:e2 84=.slice (some ad) n cv:=(hkk 84 (by kernel_rfl)).trans Ue;have r85:e2 85=.int .i64 n:=(hkk 85 (by kernel_rfl)).trans Ue;clear hkk;have hol:=hO.len
  by_cases hltn:i < n
  ·have hltn':(i:Int) < n:=by omega
   refine Wz3 r86 r85 hltn' ?_;refine q0B fun K1 hK1=>?_;refine Wt (q0G (hK1 _ _ ?_));clear hK1;refine q0N fun K hK=>?_;have ei:(0:Int)≤i∧(i:Int) < n:=by omega
   have ei2:(0:Int)≤i∧(i:Int) < ((n+1:Nat):Int):=by omega
   have hdx:=hv.u32.dg_lt i;have xi:=hO.cx (j:=j+i) Oq;rw [hun _ (.inr (Nat.le_refl _))] at xi;have hdu:us.getD (j+i) 0 < 4294967296:=by rw [← hun _ (.inr (Nat.le_refl _))]; exact hO.2.get (j+i)
   obtain ⟨x,hxe⟩:∃ x,x=dg vs i:=⟨_,rfl⟩;have hxd:x=vs.getD i 0:=hxe;have yi:=hv.u32.cx hltn;rw [← hxe] at yi hdx;have hqx:q*x≤4294967295*4294967295:=Nat.mul_le_mul Oq Oq;refine Wz4 r84 r86 ei yi ?_;have m1:IntKind.u64.wrap ((q:Int)*(x:Int))=((q*x:Nat):Int):=by rw [← Int.natCast_mul]; exact w64 _ Oq
   have m2:IntKind.u64.wrap (((q*x:Nat):Int)+(cr:Int))=((q*x+cr:Nat):Int):=by rw [← Int.natCast_add]; exact w64 _ Oq
   obtain ⟨P,hP⟩:∃ P,P=q*x+cr:=⟨_,rfl⟩;rw [← hP] at m2;refine Wz4 r7 r9 m1 m2 ?_;refine Wz ?_;have hPl:P < 18446744073709551616:=by omega
   have ap:=q2M (a:=P) hPl;have hmb:=Nat.mod_lt P (show 0 < 4294967296 by omega);refine q0A fun K2 hK2=>?_;have st2:∀ (e3:Env) (t:Nat),e3 0=.slice (some ⟨g,j,none⟩) (n+1) c→e3 11=.int .i64 i→e3 14=.int .u64 t→e3 9=.int .u64 (P / 4294967296:Nat)→e3 86=.int .i64 i→t=(us.getD (j+i) 0+18446744073709551616-P % 4294967296-br) % 18446744073709551616→K2 e3 w2:=by
    intro e3 t s0 s11 s14 s9 s86 ht;refine hK2 _ _ ?_; clear hK2;have htl:t < 18446744073709551616:=by omega
    have ea:=q2M (a:=t) htl;have eb:t % 4294967296 % 4294967296=t % 4294967296:=Nat.mod_mod _ _;refine q0A fun K9 hK9=>?_;refine Zz6 s0 s11 s14 ea eb ei2 ?_;refine q1q hO Oq (Nat.mod_lt _ Oq) fun w3 hO3 hk3 hs3=>?_;refine hK9 _ _ ?_; clear hK9;have ec:=qaP (a:=t / 4294967296) Oq;refine q0Q fun K9 hK9=>?_;refine Zz2 s14 ec ?_;refine hK9 _ _ ?_; clear hK9 K9;refine hK _ _ ?_; clear hK;refine q0Q fun K9 hK9=>?_;refine Zz2 s86 @i64_in ?_;refine hK9 _ _ ?_; clear hK9 K9;rw [hP] at ht;have key:=q82 hval hdu hbr ht;have hk3':Kp (fun k=>k≠g) w2 w3:=hk3.mono fun k _ hk a ha=>by cases ha; exact fun e=>hk e.symm
    have hPq:P / 4294967296 < 4294967296:=Nat.div_lt_of_lt_mul Oq;refine ⟨⟨i+1,P / 4294967296,t / 4294967296 % 2,o.set (j+i) (t % 4294967296),Ue,Ue,Ue,by omega,by omega,hPq,hk.trans hk3',hO3,hv.kp (hk3'.mono fun k _ hd=>hgD k hd),fun k hk9=>?_,?_⟩,by simp only [q0E,↓reduceIte,RowKit.intOf,r86]; omega⟩
    ·rw [q0v (by omega)]; exact hun k Oq
    ·have hset:(o.set (j+i) (t % 4294967296)).getD (j+i) 0=t % 4294967296:=by rw [List.getD_eq_getElem?_getD,List.getElem?_set_self (by omega)]; rfl
     rw [q22,qag,hset,vts vs,q22 us,← hxd,hP];exact key
   simp -implicitDefEqProofs (disch:=omega) only [go_sem,Nat.reduceEqDiff,Nat.reduceAdd,↓reduceIte,r0,r10,ei2,xi,ap,q5q];exact st2 _ _ Ue Ue Ue Ue Ue Oq
  ·have hltn':¬ (i:Int) < n:=by omega
   refine Wz3 r86 r85 hltn' ?_;refine q0B fun K1 hK1=>?_;refine Wf (q04 (hK0 _ _ ?_));clear hK0 hK1;have hin:n=i:=by omega
   subst hin;rw [q0K vs n Oq,hV] at hval;have xn:=hO.cx (j:=j+n) Oq;rw [hun _ (.inr (Nat.le_refl _)),hu0] at xn;have hV0:0 < V:=by
    have h1:1*1≤(v1*B+v0)*p:=Nat.mul_le_mul Oq hp0;omega
   have b0':u0 < 4294967296:=b0;refine q0A fun K2 hK2=>?_;have st2:∀ (e3:Env) (t:Nat),e3 0=.slice (some ⟨g,j,none⟩) (n+1) c→e3 1=.slice (some ad) n cv→e3 5=.int .i64 n→e3 7=.int .u64 q→e3 15=.int .u64 t→t=(u0+18446744073709551616-cr-br) % 18446744073709551616→K2 e3 w2:=by
    intro e3 t s0 s1 s5 s7 s15 ht;refine hK2 _ _ ?_; clear hK2;have htl:t < 18446744073709551616:=by omega
    have ea:=q2M (a:=t) htl;have eb:t % 4294967296 % 4294967296=t % 4294967296:=Nat.mod_mod _ _;refine q0A fun K9 hK9=>?_;refine Zz6 s0 s5 s15 ea eb i0 ?_;refine q1q hO Oq (Nat.mod_lt _ Oq) fun w3 hO3 hk3 hs3=>?_;refine hK9 _ _ ?_; clear hK9;have hk3':Kp (fun k=>k≠g) w2 w3:=hk3.mono fun k _ hk a ha=>by cases ha; exact fun e=>hk e.symm
    replace hk:=hk.trans hk3';replace hv:=hv.kp (hk3'.mono fun k _ hd=>hgD k hd);obtain ⟨o1,ho1⟩:∃ o1,o1=o.set (j+n) (t % 4294967296):=⟨_,rfl⟩;rw [← ho1] at hO3;have hun1:∀ k,k < j∨j+n < k→o1.getD k 0=us.getD k 0:=fun k hk=>by rw [ho1,q0v (by omega)]; exact hun k Oq
    have hset:o1.getD (j+n) 0=t % 4294967296:=by rw [ho1,List.getD_eq_getElem?_getD,List.getElem?_set_self (by omega)]; rfl
    have hpre:(o1.drop j).take n=(o.drop j).take n:=by rw [ho1,qag]
    obtain ⟨ng,hng⟩:∃ ng,ng=t / 4294967296 % 2:=⟨_,rfl⟩;obtain ⟨key,hng1⟩:=qiR hval b0' Oq ht;rw [← hng] at key hng1;obtain ⟨W1,hW1⟩:∃ W1,W1=val ((o1.drop j).take (n+1)):=⟨_,rfl⟩;have hW1':W1=val ((o.drop j).take n)+B ^ n*(t % 4294967296):=by rw [hW1,q22,hset,hpre]
    have hUs:val ((us.drop j).take n)+B ^ n*u0=U:=by rw [← hU,q22,hu0]
    rw [← hW1',hUs] at key;have hol1:=hO3.len;have hWM:W1 < B ^ (n+1):=by
     have:=q1V (hO3.2.drop j |>.take (n+1));rw [List.length_take,List.length_drop,show min (n+1) (o1.length-j)=n+1 by omega] at this;rw [hW1]; exact this
    have hVM:V≤B ^ (n+1):=by
     have h1:=q1V hv.u32.2;rw [hV,hlv,] at h1;exact Nat.le_trans (Nat.le_of_lt h1) (Nat.pow_le_pow_right q4d (Nat.le_succ n))
    obtain ⟨d0,d1⟩:=qgB hV0 hqL hqU hWM hVM key hng1;have ec:=qaP (a:=t / 4294967296) Oq;rw [← hng] at ec;have hqm:q % 4294967296=q:=Nat.mod_eq_of_lt hqB';refine q0B fun K0 hK0=>?_
    rcases (by omega:ng=0∨ng=1) with h0 | h0
    ·obtain ⟨f1,f2⟩:=d0 h0;subst h0;have z:(((0:Nat):Int) == 0)=true:=rfl;refine Wz3 s15 ec z ?_;refine Wt ?_;refine Wz2 s7 hqm ?_;refine q0O ?_
     try simp only [q0D,q0S]
     refine q1S rfl ⟨by simp only [q0E,Nat.reduceEqDiff,↓reduceIte]; rw [f1],hk,o1,hO3,hun1,by rw [f2,← hW1]⟩
    ·obtain ⟨f0,f1,f2,f3⟩:=d1 h0;subst h0;have z:(((1:Nat):Int) == 0)=false:=rfl;refine Wz3 s15 ec z ?_;refine Wf (q0G (hK0 _ _ ?_));clear hK0;refine Wz ?_;refine q0B fun K0 hK0=>?_;refine Wz1 s1 ?_;refine q0X ?_;refine q0a (fun e2 w2=>∃ (i cr:Nat) (o:List Nat),e2 142=.int .i64 i∧e2 9=.int .u64 cr∧i≤n∧cr≤1∧Kp (fun k=>k≠g) w w2∧q12 w2 Bd (some ⟨g,0,none⟩) m m o∧In (fU vs) D (.slice (some ad) n cv) w2∧(∀ k,k < j∨j+i≤k→o.getD k 0=o1.getD k 0)∧val ((o.drop j).take i)+B ^ i*cr=val ((o1.drop j).take i)+val (vs.take i)) (fun e2 _=>n-(RowKit.intOf (e2 142)).toNat) ⟨0,0,o1,rfl,Ue,Nat.zero_le _,Nat.zero_le _,hk,hO3,hv,fun _ _=>rfl,by simp [val]⟩ ?_;have hO1b:=hO3.2;clear hk hO3 hv hO;rintro e4 w4 ⟨i,c4,o4,a142,a9,hi4,hc4,hk,hO,hv,hun4,hval4⟩ hkk;have a0:e4 0=.slice (some ⟨g,j,none⟩) (n+1) c:=(hkk 0 (by kernel_rfl)).trans Ue;have a5:e4 5=.int .i64 n:=(hkk 5 (by kernel_rfl)).trans Ue;have a7:e4 7=.int .u64 q:=(hkk 7 (by kernel_rfl)).trans Ue;have a140:e4 140=.slice (some ad) n cv:=(hkk 140 (by kernel_rfl)).trans Ue;have a141:e4 141=.int .i64 n:=(hkk 141 (by kernel_rfl)).trans Ue;clear hkk;have hol4:=hO.len
     by_cases hlt4:i < n
     ·have hlt4':(i:Int) < n:=by omega
      refine Wz3 a142 a141 hlt4' ?_;refine q0B fun K1 hK1=>?_;refine Wt (q0G (hK1 _ _ ?_));clear hK1;refine q0N fun K hK=>?_;have ei:(0:Int)≤i∧(i:Int) < n:=by omega
      have ei2:(0:Int)≤i∧(i:Int) < ((n+1:Nat):Int):=by omega
      have hdx:=hv.u32.dg_lt i;have xi:=hO.cx (j:=j+i) Oq;rw [hun4 _ (.inr (Nat.le_refl _))] at xi;have hdu:o1.getD (j+i) 0 < 4294967296:=hO1b.get (j+i);obtain ⟨x,hxe⟩:∃ x,x=dg vs i:=⟨_,rfl⟩;have hxd:x=vs.getD i 0:=hxe;have yi:=hv.u32.cx hlt4;rw [← hxe] at yi hdx;obtain ⟨a,hae⟩:∃ a,a=o1.getD (j+i) 0:=⟨_,rfl⟩;rw [← hae] at xi hdu;refine Wz4 a140 a142 ei yi ?_;have m1:IntKind.u64.wrap ((a:Int)+(x:Int))=((a+x:Nat):Int):=by rw [← Int.natCast_add]; exact w64 _ Oq
      have m2:IntKind.u64.wrap (((a+x:Nat):Int)+(c4:Int))=((a+x+c4:Nat):Int):=by rw [← Int.natCast_add]; exact w64 _ Oq
      obtain ⟨s,hs⟩:∃ s,s=a+x+c4:=⟨_,rfl⟩;rw [← hs] at m2;refine Wz6 a0 a9 ei2 xi m1 m2 ?_;have ea:=q2M (a:=s) Oq;have eb:s % 4294967296 % 4294967296=s % 4294967296:=Nat.mod_mod _ _;refine q0A fun K9 hK9=>?_;refine Zz4 a0 ea eb ei2 ?_;refine q1q hO Oq (Nat.mod_lt _ Oq) fun w5 hO5 hk5 hs5=>?_;refine hK9 _ _ ?_; clear hK9;refine q0Q fun K9 hK9=>?_;refine Zz ?_;refine hK9 _ _ ?_; clear hK9 K9;refine hK _ _ ?_; clear hK;refine q0Q fun K9 hK9=>?_;refine Zz2 a142 @i64_in ?_;refine hK9 _ _ ?_; clear hK9 K9;have key:=qpu (a:=a) (x:=x) hval4;rw [← hs] at key;have hk5':Kp (fun k=>k≠g) w4 w5:=hk5.mono fun k _ hk a ha=>by cases ha; exact fun e=>hk e.symm
      refine ⟨⟨i+1,s / 4294967296,o4.set (j+i) (s % 4294967296),Ue,Ue,by omega,by omega,hk.trans hk5',hO5,hv.kp (hk5'.mono fun k _ hd=>hgD k hd),fun k hk9=>?_,?_⟩,by simp only [q0E,↓reduceIte,RowKit.intOf,a142]; omega⟩
      ·rw [q0v (by omega)]; exact hun4 k Oq
      ·have hset4:(o4.set (j+i) (s % 4294967296)).getD (j+i) 0=s % 4294967296:=by rw [List.getD_eq_getElem?_getD,List.getElem?_set_self (by omega)]; rfl
       rw [q22,qag,hset4,vts vs,q22 o1,← hxd,← hae];omega
     ·have hlt4':¬ (i:Int) < n:=by omega
      refine Wz3 a142 a141 hlt4' ?_;refine q0B fun K1 hK1=>?_;refine Wf (q04 (hK0 _ _ ?_));clear hK0 hK1;have hin:n=i:=by omega
      subst hin;rw [q0K vs n Oq,hV] at hval4;have xn:=hO.cx (j:=j+n) Oq;rw [hun4 _ (.inr (Nat.le_refl _))] at xn;have hda:o1.getD (j+n) 0 < 4294967296:=hO1b.get (j+n);have hs1:=q22 o1 j n;rw [← hW1] at hs1;generalize o1.getD (j+n) 0=a at *;have hZ:val ((o4.drop j).take n) < B ^ n:=by
       have:=q1V (hO.2.drop j |>.take n);rw [List.length_take,List.length_drop,show min n (o4.length-j)=n by omega] at this;exact this
      have hfin:=qhT (a:=a) (cr:=c4) (S:=W1+V) hZ (by rw [Nat.mul_add,hs1]; omega);rw [f2] at hfin;have u1':IntKind.u32.wrap ((a:Int)+((c4:Nat):Int))=(((a+c4) % 4294967296:Nat):Int):=by
       rw [← Int.natCast_add]; exact w32N
      have hcm:c4 % 4294967296=c4:=Nat.mod_eq_of_lt Oq;refine q0A fun K9 hK9=>?_;refine Zz7 a0 a5 a9 i0 xn hcm u1' ?_;refine q1q hO Oq (Nat.mod_lt _ Oq) fun w5 hO5 hk5 hs5=>?_;refine hK9 _ _ ?_; clear hK9;have hk5':Kp (fun k=>k≠g) w4 w5:=hk5.mono fun k _ hk a ha=>by cases ha; exact fun e=>hk e.symm
      have d1':IntKind.u64.wrap ((q:Int)-1)=((q-1:Nat):Int):=by rw [u64_in Oq (by omega)]; omega
      have hqm1:(q-1) % 4294967296=q-1:=Nat.mod_eq_of_lt Oq;refine Wz3 a7 d1' hqm1 ?_;refine q0O (q1S rfl ⟨by simp only [q0E,Nat.reduceEqDiff,↓reduceIte]; rw [f1],hk.trans hk5',o4.set (j+n) ((a+c4) % 4294967296),hO5,fun k hk9=>?_,?_⟩)
      ·rw [q0v Oq,hun4 k (by omega)]; exact hun1 k hk9
      ·have hset4:(o4.set (j+n) ((a+c4) % 4294967296)).getD (j+n) 0=(a+c4) % 4294967296:=by rw [List.getD_eq_getElem?_getD,List.getElem?_set_self (by omega)]; rfl
       rw [q22,qag,hset4];exact hfin
   simp -implicitDefEqProofs (disch:=omega) only [go_sem,Nat.reduceEqDiff,Nat.reduceAdd,↓reduceIte,r0,r5,r9,r10,i0,xn,q5q];exact st2 _ _ Ue Ue Ue Ue Ue Oq
end Go.Proofs.YtbcmhlhgljoolaaGreatDoor
namespace Go.E
open Go
def qaC (P:Program) (tys:Array TypeId) (ty:TypeId) (args:List Value) (w:World) (K:Value→World→Prop):Prop:=∃ v w',(Builtin.copy_ tys ty args.toArray).run P w=.ok v w'∧K v w'
section
variable {P:Program} {e:Env} {w:World} {K:Value→World→Prop} {d:Option Nat} {ty:TypeId} {pos:String} {af:Array Edge} {g:Option (Nat × Bool)}
@[congr] theorem qom {tys:Array TypeId} {ty:TypeId} {args args':List Value} {w:World} {K:Value→World→Prop} (h:args=args'):qaC P tys ty args w K=qaC P tys ty args' w K:=by rw [h]
def qmX {s x:Operand} {tys:Array TypeId}:wo P ⟨d,.call ⟨.builtin .copy,#[s,x],tys⟩,ty,pos,af,g⟩ e w K=qaC P tys ty [ev e s,ev e x] w K:=by
 simp only [wo,WO,execOp,resolve,invoke,builtin,Sem.run_bind,Sem.run_pure,Result.andThen_ok,List.map_toArray,List.map_cons,List.map_nil,qaC];cases hr:(Builtin.copy_ tys ty #[ev e s,ev e x]).run P w with
 | ok v w' =>
  simp only [Result.andThen_ok,Sem.run_pure,RO];exact propext ⟨fun h=>⟨v,w',rfl,h⟩,fun ⟨v',w'',h,hk⟩=>by injection h with h1 h2; subst h1; subst h2; exact hk⟩
 | halt x w' =>
  simp only [Result.andThen_halt,RO];exact propext ⟨fun h=>h.elim,fun ⟨_,_,h,_⟩=>by cases h⟩
end
attribute [go_sem ↓] qmX
def qja {P:Program} {w:World} {tys:Array TypeId} {ty:TypeId} {args:List Value} {v:Value} {w':World} {K:Value→World→Prop} (h:(Builtin.copy_ tys ty args.toArray).run P w=.ok v w') (hk:K v w'):qaC P tys ty args w K:=⟨v,w',h,hk⟩
attribute [irreducible] qaC
end Go.E
namespace Go.Proofs.YtbcmhlhgljoolaaGreatDoor
open Go Go.E Go.Sp
def qsj {x:Nat} {w:World} (hx:x < 4294967296):Calls Tryz.prog 262 #[.int .u32 x] w fun e w'=>e=.returned (.int .i64 (32-bl x:Nat))∧w=w':=by
 have hb:bl x≤32:=q0T hx;refine q0J Tryz.func262 rfl Tryz.ntmps262 (by kernel_rfl) ?_;refine Wz ?_;refine q0A fun K hK=>?_;refine Zz ?_;refine q0F qb7 (q74 hx) ?_;rintro _ _ ⟨rfl,rfl⟩; refine ⟨_,rfl,?_⟩;have e1:IntKind.i64.wrap (32-((bl x:Nat):Int))=((32-bl x:Nat):Int):=by rw [i64_in Oq (by omega)]; omega
 refine Zz1 e1 ?_;refine hK _ _ ?_; clear hK;refine q0O ?_
 try simp only [q0D,q0S]
 refine q1S rfl ⟨rfl,rfl⟩
def copyU {D:Nat→Prop} {w:World} {ty Bd g m n c:Nat} {A:Option Addr} {us l:List Nat} (hO:q12 w Bd (some ⟨g,0,none⟩) m m us) (h:In (fU l) D (.slice A n c) w) (h0:0 < n) (hn:n≤m) {K:Value→World→Prop}
  (hK:∀ w',q12 w' Bd (some ⟨g,0,none⟩) m m (l ++ us.drop n)→Kp (fun k=>k≠g) w w'→K (goInt n) w'):qaC Tryz.prog #[70,70] ty [.slice (some ⟨g,0,none⟩) m m,.slice A n c] w K:=by
 have hl:=h.u32.len;have hO2:=hO;obtain ⟨hOw,hAll⟩:=hO2
 rcases hOw.form with ⟨h1,_⟩ | ⟨g',cur,h1,hB,hb,_,hmx,hcs,hct⟩
 ·cases h1
 ·cases h1;obtain ⟨ad,rfl,hcell⟩:=h.u32.cell (j:=0) h0;have hct':cur.toList=us.map q7z:=by
   rw [← hct,List.take_of_length_le (by rw [Array.length_toList]; omega)]
  have hul:us.length=m:=hO.len;have hrun:=run_copy_row (P:=Tryz.prog) w 70 70 ty 135 g 0 m m ad n c cur 135 (l.map q7z) (by kernel_rfl) (by kernel_rfl) hb (by rw [List.length_map,hl]; exact (Nat.min_eq_left hn).symm)
   (fun j v hj=>by
    rw [List.getElem?_map] at hj;obtain ⟨y,hy,rfl⟩:=Option.map_eq_some_iff.1 hj;have hjl:=(List.getElem?_eq_some_iff.1 hy).1;rw [h.u32.cx (j:=j) Oq,show dg l j=y by show l.getD j 0=y; rw [List.getD_eq_getElem?_getD,hy]; rfl]; rfl) (by rw [List.length_map]; omega) (fun v hv=>by obtain ⟨y,_,rfl⟩:=List.mem_map.1 hv; rfl)
  rw [List.length_map,hl,hct'] at hrun;refine qja hrun (hK _ ⟨?_,h.u32.2.append (hAll.drop n)⟩ ?_)
  ·have e:((us.map q7z).take 0 ++ l.map q7z ++ (us.map q7z).drop (0+n))=(l ++ us.drop n).map q7z:=by
    rw [List.take_zero,List.nil_append,Nat.zero_add,List.map_append,List.map_drop]
   rw [e];refine ⟨by rw [List.length_map,List.length_append,List.length_drop]; omega,.inr ⟨g,m,_,rfl,hB,setRow_heap w g _ _ _ _ hb,Nat.le_refl _,hmx,by rw [List.size_toArray,List.length_map,List.length_append,List.length_drop]; omega,?_⟩⟩;rw [List.take_of_length_le];simp; omega
  ·exact ⟨rfl,rfl,rfl,by simp,fun k _ hk=>setRow_other w g k _ hk⟩
end Go.Proofs.YtbcmhlhgljoolaaGreatDoor
namespace Go.Sp
open Go.E
def qbR {a b:List Nat} {j:Nat} (hl:a.length=b.length) (h:∀ k,k < j→a.getD k 0=b.getD k 0):a.take j=b.take j:=by
 apply List.ext_getElem?
 intro k;rw [List.getElem?_take,List.getElem?_take]
 split
 ·rename_i hk
  rcases Nat.lt_or_ge k a.length with h1 | h1
  ·have:=h k hk;rw [q1F h1,q1F (by omega)] at this;rw [List.getElem?_eq_getElem h1,List.getElem?_eq_getElem Oq,this]
  ·rw [List.getElem?_eq_none h1,List.getElem?_eq_none (by omega)]
 ·rfl
def qjV {a b:List Nat} {j:Nat} (hl:a.length=b.length) (h:∀ k,j≤k→a.getD k 0=b.getD k 0):a.drop j=b.drop j:=by
 apply List.ext_getElem?
 intro k;rw [List.getElem?_drop,List.getElem?_drop]
 rcases Nat.lt_or_ge (j+k) a.length with h1 | h1
 ·have:=h (j+k) Oq;rw [q1F h1,q1F (by omega)] at this;rw [List.getElem?_eq_getElem h1,List.getElem?_eq_getElem Oq,this]
 ·rw [List.getElem?_eq_none h1,List.getElem?_eq_none (by omega)]
def qsk {b d v V:Nat} (h1:d < b) (h2:v < V):d+b*v < b*V:=by
 have h3:b*(v+1)≤b*V:=Nat.mul_le_mul_left b h2;rw [Nat.mul_add,Nat.mul_one] at h3;omega
def qt2 {a p V r d q X:Nat} (h:a+p*(V*d+r)+V*q=X):a+p*r+V*(q+p*d)=X:=by
 rw [← h,Nat.mul_add,Nat.mul_add,Nat.mul_left_comm V p d];omega
section
variable {o o' qs:List Nat} {j n V X:Nat}
def q5v (ha:q1w o) (hV:V < B ^ n) (h:val (o.drop (j+1)) < V):val ((o.drop j).take (n+1)) < B*V∧val (o.drop (j+n+1))=0∧val (o.drop j)=val ((o.drop j).take (n+1)):=by
 have h1:val (o.drop (j+n+1))=0:=by
  have:=q2n (ha.drop (j+1)) n;rw [List.drop_drop,show j+1+n=j+n+1 by omega] at this;rw [this];exact Nat.div_eq_of_lt (Nat.lt_trans h hV)
 have h2:val (o.drop j)=val ((o.drop j).take (n+1)):=by
  rcases Nat.lt_or_ge (n+1) (o.drop j).length with hl | hl
  ·have:=q1G (o.drop j) (n+1) Oq;rw [List.drop_drop,show j+(n+1)=j+n+1 by omega,h1,Nat.mul_zero,Nat.add_zero] at this;exact this
  ·rw [q0K _ _ hl]
 refine ⟨?_,h1,h2⟩;rw [← h2,q1r];exact qsk (ha.get j) h
def q6d (ha:q1w o) (hV0:0 < V) (hV:V < B ^ n) (hl:o'.length=o.length) (h:val (o.drop (j+1)) < V) (hun:∀ k,k < j∨j+n < k→o'.getD k 0=o.getD k 0) (hr:val ((o'.drop j).take (n+1))=val ((o.drop j).take (n+1)) % V) (hj:j < qs.length) (hq:qs.getD j 0=0) (hjo:j≤o.length)
  (hX:val o+V*val qs=X):val o'+V*val (qs.set j (val ((o.drop j).take (n+1)) / V))=X∧val (o'.drop j) < V:=by
 obtain ⟨_,h1,h2⟩:=q5v ha hV h;have e1:=qbR hl fun k hk=>hun k (.inl hk);have e2:o'.drop (j+n+1)=o.drop (j+n+1):=qjV hl fun k hk=>hun k (.inr Oq);have h3:val (o'.drop j)=val ((o'.drop j).take (n+1)):=by
  rcases Nat.lt_or_ge (n+1) (o'.drop j).length with hl2 | hl2
  ·have:=q1G (o'.drop j) (n+1) Oq;rw [List.drop_drop,show j+(n+1)=j+n+1 by omega,e2,h1,Nat.mul_zero,Nat.add_zero] at this;exact this
  ·rw [q0K _ _ hl2]
 have s1:=q1G o j hjo;have s2:=q1G o' j Oq;rw [h2] at s1;rw [h3,e1,hr] at s2;have s3:=q3q (o:=qs) (p:=j) (val ((o.drop j).take (n+1)) / V) hj;rw [hq,Nat.mul_zero,Nat.add_zero] at s3;refine ⟨?_,by rw [h3,hr]; exact Nat.mod_lt _ hV0⟩;rw [s2,s3];rw [s1] at hX;have hdm:=Nat.div_add_mod (val ((o.drop j).take (n+1))) V;generalize val ((o.drop j).take (n+1)) / V=d at *;generalize val ((o.drop j).take (n+1)) % V=r at *;rw [← hdm] at hX;exact qt2 hX
end
end Go.Sp
namespace Go.Proofs.YtbcmhlhgljoolaaGreatDoor
open Go Go.E Go.Sp
section
variable {D:Nat→Prop} {v v':Value} {w:World} {x y:Nat}
set_option maxHeartbeats 1000000 in
def qfz (h:In (fU (lim x)) D v w) (h':In (fU (lim y)) D v' w) (hb:bl x≤20000000) (hyx:y≤x) (hy2:4294967296≤y) (hf:Fr D w):Calls Tryz.prog 242 #[v,v'] w (Rt (fP (fU (lim (x / y))) (fU (lim (x % y)))) D w):=by
 have hby:bl y≤bl x:=q0d hyx;have hlx:=q05 hb;have hly:=q05 (x:=y) Oq;have hx:Ext w w:=Kp.refl _ _;have hD:=hf;have hy0:y≠0:=by omega
 obtain ⟨A,n,c,rfl,_⟩:=id h;obtain ⟨A',n',c',rfl,_⟩:=id h';have hn:=h.u32.len;have hn':=h'.u32.len;have hnn:n'≤n:=by rw [← hn,← hn']; exact q2t hyx
 have hn2:2≤n':=by
  have:=q2a hy0
  rcases Nat.lt_or_ge n' 2 with h1 | h1
  ·have h2:=q1X y;rw [hn'] at h2;have h3:B ^ n'≤B ^ 1:=Nat.pow_le_pow_right q4d Oq;rw [Nat.pow_one] at h3;have:B=4294967296:=rfl;omega
  ·exact h1
 have hlast:=q5b hy0;rw [hn'] at hlast;have hbl:=q6t hy0;rw [hn'] at hbl;obtain ⟨vt,hvt⟩:∃ vt,vt=(lim y).getD (n'-1) 0:=⟨_,rfl⟩;rw [← hvt] at hlast hbl;have hvt2:vt < 4294967296:=by rw [hvt]; exact (q1b y).get (n'-1)
 have hvb:bl vt≤32:=q0T hvt2;have hvb0:=q45 hlast;obtain ⟨s,hs⟩:∃ s,s=32-bl vt:=⟨_,rfl⟩;refine q0J Tryz.func242 rfl Tryz.ntmps242 (by kernel_rfl) ?_;refine Wz ?_;refine q0B fun K0 hK0=>?_;refine q0A fun K hK=>?_;refine Zz ?_;refine Ck q6q (q3X h h' hb Oq) fun w1 hx1=>?_;replace h:=h.ext hx1;replace h':=h'.ext hx1;replace hD:=hD.kp hx1;replace hx:=hx.trans hx1;clear hx1;have q:¬ q2C x y < 0:=by unfold q2C; rw [if_neg (by omega)]; split <;> omega
 refine Zz1 q ?_;refine hK _ _ ?_; clear hK;refine Wf (q0G (hK0 _ _ ?_));clear hK0;have q1:((n':Int) == 1)=false:=by rw [beq_eq_false_iff_ne]; omega
 refine q0B fun K0 hK0=>?_;refine Wz1 q1 ?_;refine Wf (q0G (hK0 _ _ ?_));clear hK0;obtain ⟨ad,rfl,-⟩:=h'.u32.cell (j:=n'-1) Oq;have cx:=h'.u32.cx (j:=n'-1) Oq;have hdv:dg (lim y) (n'-1)=vt:=hvt.symm;rw [hdv] at cx;have en1:IntKind.i64.wrap ((n':Int)-1)=((n'-1:Nat):Int):=by rw [i64_in Oq (by omega)]; omega
 have i1:(0:Int)≤((n'-1:Nat):Int)∧((n'-1:Nat):Int) < n':=by omega
 have hlz:=fun {w:World}=>qsj (x:=vt) (w:=w) hvt2;rw [← hs] at hlz;refine q0A fun K hK=>?_;refine Zz3 en1 i1 cx ?_;refine q0F qgS (hlz) ?_;rintro _ _ ⟨rfl,rfl⟩; refine ⟨_,rfl,?_⟩;refine hK _ _ ?_; clear hK;refine q0A fun K hK=>?_;refine Zz ?_;refine Cr qb6 (up_v h' Oq Oq hD) fun v9 w9 hx9 h9=>?_;replace h:=h.ext hx9;replace h':=h'.ext hx9;replace hD:=hD.kp hx9;replace hx:=hx.trans hx9;clear hx9;refine hK _ _ ?_; clear hK;obtain ⟨V,hV⟩:∃ V,V=y*2 ^ s:=⟨_,rfl⟩;obtain ⟨X,hX⟩:∃ X,X=x*2 ^ s:=⟨_,rfl⟩;rw [← hV] at h9;have hblV:bl V=32*n':=by rw [hV,q1i hy0]; omega
 have hV0:V≠0:=by rw [hV]; exact Nat.ne_of_gt (Nat.mul_pos Oq (q0P s))
 have hlV:(lim V).length=n':=by rw [q3h,hblV]; omega
 obtain ⟨A9,n9,c9,rfl,_⟩:=id h9;have hn9:=h9.u32.len;rw [hlV] at hn9;subst hn9;have htop:2147483648≤(lim V).getD (n'-1) 0:=by
  have h1:=q6t hV0;rw [hlV,hblV] at h1;have h2:=q5b hV0;rw [hlV] at h2;have h3:=q7l h2;rw [show bl ((lim V).getD (n'-1) 0)-1=31 by omega] at h3;exact h3
 have hVB:V < B ^ n':=by have:=q1X V; rw [hlV] at this; exact this
 have en2:IntKind.i64.wrap ((n:Int)+1)=((n+1:Nat):Int):=by rw [i64_in Oq (by omega)]; omega
 have hbX:bl X≤20000032:=by
  rw [hX];have:=q2K x (2 ^ s);have h2:bl (2 ^ s)≤32:=q0T (Nat.pow_lt_pow_right Oq Oq);omega
 have hLX:(lim X).length≤n+1:=by
  refine q2V ?_;rw [hX,Nat.pow_succ];have h1:=q1X x;rw [hn] at h1;refine Nat.mul_lt_mul_of_lt_of_le h1 ?_ q4d;have:2 ^ s≤2 ^ 32:=Nat.pow_le_pow_right Oq Oq;rw [q9B]; exact this
 have hX0:X≠0:=by rw [hX]; exact Nat.ne_of_gt (Nat.mul_pos Oq (q0P s))
 have hLX0:=(q0R (n:=X)).2 hX0;replace h9:=h9.db (w':=w9);obtain ⟨gu,hgu⟩:∃ gu,gu=w9.heap.size:=⟨_,rfl⟩;rw [← hgu] at h9;have hgw:w.heap.size≤gu:=by rw [hgu]; exact hx.size
 refine q0A fun K hK=>?_;refine Zz1 en2 ?_;refine mkU (Nat.le_refl _) Oq fun w10 hx10 hO10=>?_;rw [← hgu] at hO10;replace h:=h.ext hx10;replace h':=h'.ext hx10;replace h9:=h9.ext hx10;replace hD:=hD.kp hx10;replace hx:=hx.trans hx10;have hgu2:gu < w10.heap.size:=by
  rcases hO10.1.form with ⟨h0,_⟩ | ⟨_,_,h0,_,hb9,_⟩
  ·cases h0
  ·cases h0; exact hb9.lt
 rw [← hgu];refine hK _ _ ?_; clear hK;refine q0A fun K hK=>?_;refine Zz ?_;refine Cr qb6 (up_v h hb Oq hD) fun v51 w51 hx51 h51=>?_;replace h:=h.ext hx51;replace h':=h'.ext hx51;replace h9:=h9.ext hx51;replace hO10:=hO10.ext hx51;replace hD:=hD.kp hx51;replace hx:=hx.trans hx51;clear hx51;rw [← hX] at h51;obtain ⟨A51,n51,c51,rfl,_⟩:=id h51;have hn51:=h51.u32.len;refine copyU hO10 h51 Oq Oq fun w52 hO52 hk52=>?_;replace h9:=h9.kpb hk52 fun k hk=>by omega
 replace hx:=hx.under hk52 fun k hk=>by omega
 replace hD:=hD.kp hk52;clear hO10 h51 h h';refine hK _ _ ?_; clear hK;refine Wz ?_;refine q0A fun K hK=>?_;refine Zz ?_;obtain ⟨lq,hlq⟩:∃ lq,lq=n+1-n':=⟨_,rfl⟩;have en3:IntKind.i64.wrap (((n+1:Nat):Int)-(n':Int))=(lq:Int):=by rw [i64_in Oq (by omega)]; omega
 refine Zz1 en3 ?_;obtain ⟨gq,hgq⟩:∃ gq,gq=w52.heap.size:=⟨_,rfl⟩;have hgu3:gu < gq:=by
  rcases hO52.1.form with ⟨h0,_⟩ | ⟨_,_,h0,_,hb9,_⟩
  ·cases h0
  ·cases h0; rw [hgq]; exact hb9.lt
 refine mkU (Nat.le_refl _) Oq fun w59 hx59 hO59=>?_;rw [← hgq] at hO59;rw [← hgq];replace h9:=h9.ext hx59;replace hO52:=hO52.ext hx59;replace hD:=hD.kp hx59;replace hx:=hx.trans hx59;refine hK _ _ ?_; clear hK;obtain ⟨us,hus⟩:∃ us,us=lim X ++ List.drop n51 (List.replicate (n+1) 0):=⟨_,rfl⟩;rw [← hus] at hO52;have hval:val us=X:=by rw [hus,q32,List.drop_replicate,q1p,Nat.mul_zero,Nat.add_zero,q0I]
 have hXV:X < V*B ^ lq:=by
  refine Nat.lt_of_lt_of_le (m:=2 ^ s*B ^ n) ?_ ?_
  ·rw [hX,Nat.mul_comm];have h1:=q1X x;rw [hn] at h1;exact Nat.mul_lt_mul_of_pos_left h1 (q0P s)
  ·have h1:B ^ (n'-1)≤y:=by have:=q2a hy0; rw [hn'] at this; exact this
   have h2:B ^ n=B ^ (n'-1)*B ^ lq:=by rw [← Nat.pow_add]; congr 1; omega
   rw [hV,h2,← Nat.mul_assoc];refine Nat.mul_le_mul_right _ ?_;rw [Nat.mul_comm y];exact Nat.mul_le_mul_left _ h1
 have hdr0:val (us.drop lq) < V:=by
  rw [q2n hO52.2,hval];exact Nat.div_lt_of_lt_mul (by rw [Nat.mul_comm]; exact hXV)
 have en4:IntKind.i64.wrap ((lq:Int)-1)=(lq:Int)-1:=i64_in Oq Oq;refine q0B fun K0 hK0=>?_;refine Wz1 en4 ?_;refine q0X ?_;refine q0a (fun e2 w2=>∃ (t:Nat) (o qs:List Nat),e2 12=.int .i64 ((t:Int)-1)∧t≤lq∧Ext w w2∧q12 w2 gu (some ⟨gu,0,none⟩) (n+1) (n+1) o∧q12 w2 gq (some ⟨gq,0,none⟩) lq lq qs∧In (fU (lim V)) (Db D gu) (.slice A9 n' c9) w2∧val o+V*val qs=X∧val (o.drop t) < V∧∀ k,k < t→qs.getD k 0=0) (fun e2 _=>(RowKit.intOf (e2 12)+1).toNat) ⟨lq,us,_,Ue,Nat.le_refl _,hx,hO52,hO59,h9,by rw [q1p,Nat.mul_zero,Nat.add_zero]; exact hval,hdr0,fun k hk=>by rw [List.getD_eq_getElem?_getD,List.getElem?_replicate]; split <;> rfl⟩ ?_;clear h9 hx hO52 hO59 hD hval hdr0;rintro e2 w2 ⟨t,o,qs,k12,htq,hx,hO,hQ,h9,hinv,hdr,hz⟩ hkk;have k4:e2 4=.slice (some ⟨gq,0,none⟩) lq lq:=(hkk 4 (by kernel_rfl)).trans Ue;have k10:e2 10=.slice (some ⟨gu,0,none⟩) (n+1:Nat) (n+1:Nat):=(hkk 10 (by kernel_rfl)).trans Ue;have k9:e2 9=.slice A9 n' c9:=(hkk 9 (by kernel_rfl)).trans Ue;have k11:e2 11=.int .i64 (n':Nat):=(hkk 11 (by kernel_rfl)).trans Ue;have k8:e2 8=.int .i64 (s:Nat):=(hkk 8 (by kernel_rfl)).trans Ue;clear hkk;have hol:=hO.len;have hql:=hQ.len
 by_cases ht:0 < t
 ·obtain ⟨j,rfl⟩:∃ j,t=j+1:=⟨t-1,by omega⟩;have ej:((j+1:Nat):Int)-1=(j:Int):=by omega
  rw [ej] at k12;have c0:((j:Int) ≥ 0)=True:=eq_true Oq;refine q0B fun K1 hK1=>?_;refine Wz2 k12 c0 ?_;refine q02 Ue (fun hc1=>q0G (hK1 _ _ ?_)) (fun hc1=>by cases hc1);clear hK1;refine q0N fun K hK=>?_;have f1:IntKind.i64.wrap ((j:Int)+(n':Int))=((j+n':Nat):Int):=by rw [i64_in Oq (by omega)]; omega
  have f2:IntKind.i64.wrap (((j+n':Nat):Int)+1)=((j+n'+1:Nat):Int):=by rw [i64_in Oq (by omega)]; omega
  have f3:((0:Int)≤((j+n'+1:Nat):Int)∧((j+n'+1:Nat):Int)≤((n+1:Nat):Int))∧(0:Int)≤(j:Int)∧(j:Int)≤((j+n'+1:Nat):Int):=by omega
  have f4:(n+1=j)=False:=eq_false Oq;have f5:j+n'+1-j=n'+1:=by omega
  have f6:(0:Int)≤(j:Int)∧(j:Int) < (lq:Int):=by omega
  refine q0Q fun K9 hK9=>?_;refine Zz10 k4 k9 k10 k11 k12 f1 f2 f3 f4 f5 ?_;obtain ⟨hpre,-,-⟩:=q5v hO.2 hVB hdr;refine q0F ql6 (qj8 hO Oq Oq h9 (fun k hk=>by have:=hk.2; omega) hn2 htop (by rw [q0I]; exact hpre)) ?_;rintro _ w77 ⟨rfl,hk77,o',hO',hun',hr'⟩; refine ⟨_,rfl,?_⟩;rw [q0I] at hr';obtain ⟨d,hd⟩:∃ d,d=val ((o.drop j).take (n'+1)) / V:=⟨_,rfl⟩;have hdB:d < 4294967296:=by rw [hd]; exact Nat.div_lt_of_lt_mul (by rw [Nat.mul_comm]; exact hpre)
  have hol':=hO'.len;obtain ⟨hp1,hp2⟩:=q6d (qs:=qs) hO.2 (Nat.pos_of_ne_zero hV0) hVB Oq hdr hun' hr' Oq (hz j Oq) Oq hinv;rw [← hd] at hp1;replace h9:=h9.kpb hk77 fun k hk=>by omega
  replace hx:=hx.under hk77 fun k hk=>by omega
  have hQ':q12 w77 gq (some ⟨gq,0,none⟩) lq lq qs:=⟨hQ.1.kp hk77 fun a ha=>by cases ha; show gq≠gu; omega,hQ.2⟩;clear hO hQ hk77;simp -implicitDefEqProofs (disch:=omega) only [go_sem,Nat.reduceEqDiff,Nat.reduceAdd,↓reduceIte,f6,q0I,← hd];refine q1q hQ' Oq hdB fun w78 hQ hk78 hs78=>?_;have hk8:Kp (fun k=>k≠gq) w77 w78:=hk78.mono fun k _ hk a ha=>by cases ha; exact fun e=>hk e.symm
  replace h9:=h9.kpb hk8 fun k hk=>by omega
  replace hx:=hx.under hk8 fun k hk=>by omega
  have hO:q12 w78 gu (some ⟨gu,0,none⟩) (n+1) (n+1) o':=⟨hO'.1.kp hk8 fun a ha=>by cases ha; show gu≠gq; omega,hO'.2⟩;refine hK9 _ _ ?_; clear hK9;refine hK _ _ ?_; clear hK;have f7:IntKind.i64.wrap ((j:Int)-1)=(j:Int)-1:=i64_in Oq Oq;refine q0Q fun K9 hK9=>?_;refine Zz2 k12 f7 ?_;refine hK9 _ _ ?_; clear hK9 K9;refine ⟨⟨j,o',_,Ue,by omega,hx,hO,hQ,h9,hp1,hp2,fun k hk=>?_⟩,?_⟩
  ·rw [q0v (by omega)]; exact hz k Oq
  ·simp only [q0E,Nat.reduceEqDiff,↓reduceIte,RowKit.intOf,k12]; omega
 ·have ht0:t=0:=by omega
  subst ht0;have ej:((0:Nat):Int)-1 = -1:=by omega
  rw [ej] at k12;have c0:((-1:Int) ≥ 0)=False:=eq_false Oq;refine q0B fun K1 hK1=>?_;refine Wz2 k12 c0 ?_;refine q02 Ue (fun hc1=>by cases hc1) (fun hc1=>q04 (hK0 _ _ ?_));clear hK0 hK1;rw [List.drop_zero] at hdr;have eR:val o=X % V:=by
   rw [← hinv,Nat.add_mul_mod_self_left,Nat.mod_eq_of_lt hdr]
  have eQ:val qs=X / V:=by
   rw [← hinv,Nat.add_mul_div_left _ _ (Nat.pos_of_ne_zero hV0),Nat.div_eq_of_lt hdr,Nat.zero_add]
  have eR2:val (o.take n')=(x % y)*2 ^ s:=by
   rw [q3I hO.2,Nat.mod_eq_of_lt (Nat.lt_trans hdr hVB),eR,hX,hV,Nat.mul_mod_mul_right]
  have eQ2:val qs=x / y:=by rw [eQ,hX,hV,Nat.mul_div_mul_right _ _ (q0P s)]
  have hD:Fr D w2:=hf.grow hx.size;have hR:=((hO.u32 (D:=D) fun k hk=>hf k Oq).take (m:=n') Oq).in;have hS:=(hQ.u32 (D:=D) fun k hk=>hf k Oq).in;have hbR:bl ((x % y)*2 ^ s)≤20000000:=by
   have h1:(x % y)*2 ^ s≤V:=by rw [hV]; exact Nat.mul_le_mul_right _ (Nat.le_of_lt (Nat.mod_lt _ Oq))
   have:=q0d h1;omega
  have g1:(0:Int)≤(n':Int)∧(n':Int)≤((n+1:Nat):Int):=by omega
  refine q0A fun K hK=>?_;refine Zz3 k10 k11 g1 ?_;refine Cr q1M (q68 hR (by simp; omega)) fun v83 w83 hx83 h83=>?_;replace hS:=hS.ext hx83;replace hD:=hD.kp hx83;replace hx:=hx.trans hx83;clear hx83;rw [eR2] at h83;refine Zz1 k8 ?_;refine Cr qgR (qlT h83 hbR Oq hD) fun v85 w85 hx85 h85=>?_;replace hS:=hS.ext hx85;replace h83:=h83.ext hx85;replace hD:=hD.kp hx85;replace hx:=hx.trans hx85;clear hx85;rw [Nat.mul_div_cancel _ (q0P s)] at h85;obtain ⟨v86,v87,rfl,h86,rfl⟩:=h85;replace h86:In _ _ v86 _:=h86;refine Zz ?_;refine hK _ _ ?_; clear hK;refine q0A fun K hK=>?_;refine Zz1 k4 ?_;refine Cr q1M (q68 hS Oq) fun v89 w89 hx89 h89=>?_;replace hS:=hS.ext hx89;replace h83:=h83.ext hx89;replace h86:=h86.ext hx89;replace hD:=hD.kp hx89;replace hx:=hx.trans hx89;clear hx89;rw [eQ2] at h89;refine hK _ _ ?_; clear hK;refine q0O ?_
  try simp only [q0D,q0S]
  refine q8S rfl ⟨_,rfl,hx,⟨_,_,rfl,?_,?_⟩⟩
  ·simp only [q0E,Nat.reduceEqDiff,↓reduceIte]; exact h89
  ·simp only [q0E,Nat.reduceEqDiff,↓reduceIte]; exact h86
end
section
variable {D:Nat→Prop} {v v':Value} {w:World} {x y:Nat}
def qfy (h:In (fU (lim x)) D v w) (h':In (fU (lim y)) D v' w) (hb:bl x≤20000000) (hby:bl y≤20000000) (hlt:x < y) (hf:Fr D w):Calls Tryz.prog 242 #[v,v'] w (Rt (fP (fU (lim (x / y))) (fU (lim (x % y)))) D w):=by
 have hlx:=q05 hb;have hx:Ext w w:=Kp.refl _ _;have hD:=hf;refine q0J Tryz.func242 rfl Tryz.ntmps242 (by kernel_rfl) ?_;refine Wz ?_;refine q0B fun K0 hK0=>?_;refine q0A fun K hK=>?_;refine Zz ?_;refine Ck q6q (q3X h h' hb Oq) fun w1 hx1=>?_;replace h:=h.ext hx1;replace h':=h'.ext hx1;replace hD:=hD.kp hx1;replace hx:=hx.trans hx1;clear hx1;have q:q2C x y < 0:=by unfold q2C; rw [if_pos hlt]; omega
 refine Zz1 q ?_;refine hK _ _ ?_; clear hK;refine Wt ?_;refine q0A fun K hK=>?_;refine Zz ?_;refine Cr q6r (q7h h Oq hD) fun v2 w2 hx2 h2=>?_;replace h:=h.ext hx2;replace h':=h'.ext hx2;replace hD:=hD.kp hx2;replace hx:=hx.trans hx2;clear hx2;refine hK _ _ ?_; clear hK;rw [Nat.div_eq_of_lt hlt,Nat.mod_eq_of_lt hlt];refine q0O ?_
 try simp only [q0D,q0S]
 refine q8S rfl ⟨_,rfl,hx,⟨_,_,rfl,?_,?_⟩⟩
 ·simp only [q0E,Nat.reduceEqDiff,↓reduceIte]; rw [q2U]; exact ⟨none,0,0,rfl,U32.nil⟩
 ·simp only [q0E,Nat.reduceEqDiff,↓reduceIte]; exact h2
def qgA (h:In (fU (lim x)) D v w) (h':In (fU (lim y)) D v' w) (hb:bl x≤20000000) (hby:bl y≤20000000) (hd0:y≠0) (hf:Fr D w):Calls Tryz.prog 242 #[v,v'] w (Rt (fP (fU (lim (x / y))) (fU (lim (x % y)))) D w):=by
 rcases Nat.lt_or_ge y 4294967296 with h1 | h1
 ·exact qj7 h h' hb hd0 h1 hf
 ·rcases Nat.lt_or_ge x y with h2 | h2
  ·exact qfy h h' hb hby h2 hf
  ·exact qfz h h' hb h2 h1 hf
def qc0 (h:In (fB (x:Nat)) D v w) (h':In (fB (y:Nat)) D v' w) (hb:bl x≤20000000) (hd0:y≠0) (hby:bl y≤20000000) (hf:Fr D w) :
  Calls Tryz.prog 192 #[v,v'] w (Rt (fP3 (fB (x / y:Nat)) (fB (x % y:Nat)) (fc (.int .i64 0))) D w):=by
 obtain ⟨s,A,n,c,rfl,_⟩:=id h;obtain ⟨s',A',n',c',rfl,_⟩:=id h';have hm:=h.mag;have hm':=h'.mag;rw [Int.natAbs_natCast] at hm hm';have hs:s=false:=by rw [h.sg]; exact decide_eq_false Oq
 have hs':s'=false:=by rw [h'.sg]; exact decide_eq_false Oq
 subst hs; subst hs';have hdl:=q0d (Nat.div_le_self x y);have hmo:=q0d (Nat.mod_le x y);have hl1:=q05 (x:=x / y) Oq;have hl2:=q05 (x:=x % y) Oq;refine q0J Tryz.func192 rfl Tryz.ntmps192 (by kernel_rfl) ?_;refine q0A fun K hK=>?_;refine Zz ?_;refine q01 ?_;intro g2 w2 hg2 hx2 hb2 hs2;refine q01 ?_;intro g3 w3 hg3 hx3 hb3 hs3;refine q0r ?_;intro g4 w4 hg4 hx4 hb4 hs4;refine q0r ?_;intro g5 w5 hg5 hx5 hb5 hs5;refine hK _ _ ?_; clear hK K;have hx:Ext w w5:=(((hx2.trans hx3).trans hx4).trans hx5);replace hb2:=(((hb2.ext hx3).ext hx4).ext hx5);replace hb3:=((hb3.ext hx4).ext hx5);replace hb4:=(hb4.ext hx5);replace hm:=(hm.nL (L:=[g2,g3,g4,g5]) (by intro g hg; simp at hg; omega)).ext hx;replace hm':=(hm'.nL (L:=[g2,g3,g4,g5]) (by intro g hg; simp at hg; omega)).ext hx;have hD:Fr (Dl D [g2,g3,g4,g5]) w5:=hf.nL hx (by intro g hg; simp at hg; omega);clear hx2 hx3 hx4 hx5;refine q0A fun K hK=>?_;refine Zz1 hb3.c1 ?_;refine Cr q1M (q2Z hm' Oq) fun v6 w6 hx6 h6=>?_;replace hm:=hm.ext hx6;replace hm':=hm'.ext hx6;replace hb2:=hb2.ext hx6;replace hb3:=hb3.ext hx6;replace hb4:=hb4.ext hx6;replace hb5:=hb5.ext hx6;replace hD:=hD.kp hx6;replace hx:=hx.trans hx6;clear hx6;obtain ⟨A6,n6,c6,rfl,_⟩:=id h6;have hlen:=h6.u32.len;have hlp:=(q0R (n:=y)).2 hd0;have qn:((n6:Int) == 0)=false:=by rw [q8u]; exact decide_eq_false Oq
 refine hK _ _ ?_; clear hK;refine q0B fun K0 hK0=>?_;refine Wz1 qn ?_;refine Wf (q0G (hK0 _ _ ?_));clear hK0;refine q0A fun K hK=>?_;refine Zz1 hb2.c1 ?_;refine Cr q1M (q2Z hm Oq) fun v7 w7 hx7 h7=>?_;replace hm:=hm.ext hx7;replace hm':=hm'.ext hx7;replace h6:=h6.ext hx7;replace hb2:=hb2.ext hx7;replace hb3:=hb3.ext hx7;replace hb4:=hb4.ext hx7;replace hb5:=hb5.ext hx7;replace hD:=hD.kp hx7;replace hx:=hx.trans hx7;clear hx7;refine Cr qla (qgA h7 h6 Oq Oq hd0 hD) fun v8 w8 hx8 h8=>?_;replace hm:=hm.ext hx8;replace hm':=hm'.ext hx8;replace h6:=h6.ext hx8;replace h7:=h7.ext hx8;replace hb2:=hb2.ext hx8;replace hb3:=hb3.ext hx8;replace hb4:=hb4.ext hx8;replace hb5:=hb5.ext hx8;replace hD:=hD.kp hx8;replace hx:=hx.trans hx8;clear hx8;obtain ⟨v9,v10,rfl,h9,h10⟩:=h8;replace h9:In _ _ v9 _:=h9;replace h10:In _ _ v10 _:=h10;refine Zz ?_;refine hK _ _ ?_; clear hK;refine q0B fun K0 hK0=>?_;refine Wz1 hb2.c0 ?_;refine Wf (q0G (hK0 _ _ ?_));clear hK0;refine q0A fun K hK=>?_;refine Zz2 hb2.c0 hb3.c0 ?_;refine Cr q2X (q5T (s:=false) h9 Oq hD) fun v11 w11 hx11 h11=>?_;replace hm:=hm.ext hx11;replace hm':=hm'.ext hx11;replace h6:=h6.ext hx11;replace h7:=h7.ext hx11;replace h9:=h9.ext hx11;replace h10:=h10.ext hx11;replace hb2:=hb2.ext hx11;replace hb3:=hb3.ext hx11;replace hb4:=hb4.ext hx11;replace hb5:=hb5.ext hx11;replace hD:=hD.kp hx11;replace hx:=hx.trans hx11;clear hx11;refine Cr q2X (q5T (s:=false) h10 Oq hD) fun v12 w12 hx12 h12=>?_;replace hm:=hm.ext hx12;replace hm':=hm'.ext hx12;replace h6:=h6.ext hx12;replace h7:=h7.ext hx12;replace h9:=h9.ext hx12;replace h10:=h10.ext hx12;replace h11:=h11.ext hx12;replace hb2:=hb2.ext hx12;replace hb3:=hb3.ext hx12;replace hb4:=hb4.ext hx12;replace hb5:=hb5.ext hx12;replace hD:=hD.kp hx12;replace hx:=hx.trans hx12;clear hx12;rw [q0I] at h11 h12;have hne:g4≠g5:=by omega
 refine q1h hb4 q0s rfl (q4g h11) fun w13 hk13 hb13=>?_;replace hb5:=hb5.kpne hk13 Oq;replace h11:=h11.ow hk13 (by simp);replace h12:=h12.ow hk13 (by simp);replace hx:=hx.under hk13 (fun k hk=>by omega);refine q1h hb5 q0s rfl (q4g h12) fun w14 hk14 hb14=>?_;replace hb13:=hb13.kpne hk14 Oq;replace h11:=h11.ow hk14 (by simp);replace h12:=h12.ow hk14 (by simp);replace hx:=hx.under hk14 (fun k hk=>by omega);refine hK _ _ ?_; clear hK;refine q0O ?_;exact retS3 rfl Ue q1Z hb13 (q4g h11) Ue q1Z hb14 (q4g h12) ⟨_,rfl,hx,⟨_,_,_,rfl,h11.ul,h12.ul,Ue⟩⟩
end
end Go.Proofs.YtbcmhlhgljoolaaGreatDoor
namespace Go.Sp
open Go Go.E
def q75 (f:Nat):Nat:=if f / 4503599627370496 % 2048=2047∧f % 4503599627370496≠0 then 3 else if f / 4503599627370496 % 2048=2047 then 2 else if f / 4503599627370496 % 2048=0∧f % 4503599627370496=0 then 0 else 1
def q2h (x:Nat):Value:=.int .u64 (x:Int)
def q4S (z:Int):Value:=.int .i64 z
def q19 (a:Int) (n:Nat):Nat:=(a % 18446744073709551616).toNat % n
def q70 {a:Int} {n:Nat} (h:0 < n):q19 a n < n:=Nat.mod_lt _ h
def qmR (raw:List Nat) (k:Int):Int :=
 if raw.length=0 then IntKind.u64.wrap (IntKind.u64.wrap (IntKind.i64.wrap (k+1))*11400714819323198485)
 else q0y .xor .u64 (IntKind.u64.wrap (IntKind.u64.wrap (IntKind.i64.wrap (k+1))*11400714819323198485)) ((raw.getD (q19 k raw.length) 0:Nat):Int)
def qmQ (x:Int):Int:=IntKind.u64.wrap (q0y .xor .u64 x (x.fdiv (2 ^ 31))*13787848793156543929)
def q9K (raw:List Nat) (k:Int):Int:=q0y .xor .u64 (qmQ (qmR raw k)) ((qmQ (qmR raw k)).fdiv (2 ^ 29))
def q5H (raw:List Nat) (k:Int):Nat:=(q9K raw k).toNat
def q8D (raw:List Nat) (k:Int):((q5H raw k:Nat):Int)=q9K raw k:=by
 have:0≤q9K raw k:=by
  unfold q9K
  show 0≤IntKind.u64.wrap _
  rw [q1O]; omega
 unfold q5H; omega
def q3p (raw:List Nat) (k:Int):q5H raw k < 18446744073709551616:=by
 have h:=q8D raw k;have:q9K raw k < 18446744073709551616:=by
  unfold q9K
  show IntKind.u64.wrap _ < _
  rw [q1O]; omega
 omega
def flz (z:Int):Nat:=fR 0 (z*(2:Int) ^ 65536)
def q4h (x:Nat):Int:=(x % 19:Nat)-9
def q7L (x:Nat) : -9≤q4h x∧q4h x≤9:=by unfold q4h; omega
def q9d {z:Int} (h:bl z.natAbs≤65536):mkV z 0=some (z*(2:Int) ^ 65536):=qav Oq Oq
def flzK {z:Int} {K:Nat} (hK:K=65536) (hz:z.natAbs < 9007199254740992):ofF (if z*(2:Int) ^ K=0 then 0 else rF 0 (decide (z*(2:Int) ^ K < 0)) (z*(2:Int) ^ K).natAbs (2 ^ K))=some (z*(2:Int) ^ K)∧(if z*(2:Int) ^ K=0 then 0 else rF 0 (decide (z*(2:Int) ^ K < 0)) (z*(2:Int) ^ K).natAbs (2 ^ K)) < 18446744073709551616:=by
 by_cases h0:z=0
 ·subst h0;rw [Int.zero_mul,if_pos rfl];refine ⟨?_,by omega⟩;unfold ofF;rw [if_neg (by decide),if_pos (by decide),show sgn (decide (9223372036854775808≤0)) (0 % 4503599627370496)=0 from rfl,Int.zero_mul]
 ·have hp:=q08 K;have hne:z*(2:Int) ^ K≠0:=Int.mul_ne_zero h0 (Int.ne_of_gt hp);have hsg:decide (z*(2:Int) ^ K < 0)=decide (z < 0):=by
   rw [decide_eq_decide]
   constructor
   ·intro h
    rcases Int.lt_or_le z 0 with h1 | h1
    ·exact h1
    ·have:=Int.mul_nonneg h1 (Int.le_of_lt hp); omega
   ·intro h; exact Int.mul_neg_of_neg_of_pos h hp
  rw [if_neg hne,hsg,q0U];have hb:bl z.natAbs≤53:=q0T hz;have:=qiE (mode:=0) (neg:=decide (z < 0)) (N:=z.natAbs*2 ^ K) (D:=2 ^ K) (M:=z.natAbs) (f:=0) (q0P K) Oq hb Oq Oq (by simp [Nat.mul_comm]);rw [q51] at this;refine ⟨?_,this.2⟩;rw [this.1,hK]; rfl
def q8f {z:Int} (hz:z.natAbs < 9007199254740992):ofF (flz z)=some (z*(2:Int) ^ 65536):=(flzK rfl hz).1
def qfU {z:Int} (hz:z.natAbs < 9007199254740992):flz z < 18446744073709551616:=(flzK rfl hz).2
def q4s {z:Int} (hz:z.natAbs < 9007199254740992):q0Y (flz z):=fun h=>by
 have:=q8f hz;unfold ofF at this; rw [if_pos h] at this; cases this
def dyOkz {z:Int} {K:Nat} (hK:K=65536) (hz:bl z.natAbs≤65536):q0k (z*(2:Int) ^ K):=by
 by_cases h0:z=0
 ·subst h0; rw [Int.zero_mul]; simp [q0k,q1c]
 ·unfold q0k; rw [q0U,q1i (by omega)]; omega
def qiS {x y:Int} {K:Nat} (hK:K=65536) (h:bl (x*y).natAbs≤65536):mkV (x*(2:Int) ^ K*(y*(2:Int) ^ K)) (-131072)=some (x*y*(2:Int) ^ K):=by
 have e:x*(2:Int) ^ K*(y*(2:Int) ^ K)=x*y*(2:Int) ^ K*(2:Int) ^ K:=by
  simp only [Int.mul_assoc,Int.mul_left_comm,Int.mul_comm]
 rw [e,q3T,show (-131072:Int)+K = -65536 by omega];exact q37 (dyOkz hK h)
def qfj {x y:Int} {K:Nat} (hK:K=65536) (hy:y≠0) (hx:x.natAbs < 9007199254740992):(if x*y*(2:Int) ^ K=0 then 0 else rF 0 (decide (x*y*(2:Int) ^ K < 0) != decide (y*(2:Int) ^ K < 0)) (x*y*(2:Int) ^ K).natAbs (y*(2:Int) ^ K).natAbs)=(if x*(2:Int) ^ K=0 then 0 else rF 0 (decide (x*(2:Int) ^ K < 0)) (x*(2:Int) ^ K).natAbs (2 ^ K)):=by
 have hp:=q08 K;have hsgn:∀ z:Int,decide (z*(2:Int) ^ K < 0)=decide (z < 0):=fun z=>by
  rw [decide_eq_decide]
  constructor
  ·intro h
   rcases Int.lt_or_le z 0 with h1 | h1
   ·exact h1
   ·have:=Int.mul_nonneg h1 (Int.le_of_lt hp); omega
  ·intro h; exact Int.mul_neg_of_neg_of_pos h hp
 by_cases h0:x=0
 ·subst h0; simp
 ·have hne:x*(2:Int) ^ K≠0:=Int.mul_ne_zero h0 (Int.ne_of_gt hp);have hxy:x*y≠0:=Int.mul_ne_zero h0 hy;have hne2:x*y*(2:Int) ^ K≠0:=Int.mul_ne_zero hxy (Int.ne_of_gt hp);rw [if_neg hne,if_neg hne2,hsgn,hsgn,hsgn,q0U,q0U,q0U];have hs:(decide (x*y < 0) != decide (y < 0))=decide (x < 0):=by
   rcases Int.lt_or_gt_of_ne h0 with h1 | h1 <;> rcases Int.lt_or_gt_of_ne hy with h2 | h2
   ·have:=Int.mul_pos_of_neg_of_neg h1 h2;rw [decide_eq_false Oq,decide_eq_true h2,decide_eq_true h1]; rfl
   ·have:=Int.mul_neg_of_neg_of_pos h1 h2;rw [decide_eq_true this,decide_eq_false Oq,decide_eq_true h1]; rfl
   ·have:=Int.mul_neg_of_pos_of_neg h1 h2;rw [decide_eq_true this,decide_eq_true h2,decide_eq_false (by omega)]; rfl
   ·have:=Int.mul_pos h1 h2;rw [decide_eq_false Oq,decide_eq_false Oq,decide_eq_false (by omega)]; rfl
  rw [hs];have hxp:0 < x.natAbs:=by omega
  have hyp:0 < y.natAbs:=by omega
  refine q58 (by rw [Int.natAbs_mul]; exact Nat.mul_pos (Nat.mul_pos hxp hyp) (q0P _)) (Nat.mul_pos hyp (q0P _)) (Nat.mul_pos hxp (q0P _)) (q0P _) ?_;rw [Int.natAbs_mul];simp only [Nat.mul_assoc,Nat.mul_left_comm,Nat.mul_comm]
def qbQ {x y:Int} (hy:y≠0) (hx:x.natAbs < 9007199254740992):fQ 0 (x*y*(2:Int) ^ 65536) (y*(2:Int) ^ 65536)=flz x:=qfj rfl hy hx
def qbi (x i:Nat):x &&& 2 ^ i=x / 2 ^ i % 2*2 ^ i:=by
 apply Nat.eq_of_testBit_eq
 intro j;rw [Nat.testBit_and,Nat.testBit_two_pow]
 rcases Nat.mod_two_eq_zero_or_one (x / 2 ^ i) with h | h
 ·rw [h,Nat.zero_mul,Nat.zero_testBit]
  by_cases hj:i=j
  ·subst hj;rw [Nat.testBit_eq_decide_div_mod_eq,h]; simp
  ·simp [hj]
 ·rw [h,Nat.one_mul,Nat.testBit_two_pow]
  by_cases hj:i=j
  ·subst hj;rw [Nat.testBit_eq_decide_div_mod_eq,h]; simp
  ·simp [hj]
def qdk {x:Nat} (h:x < 18446744073709551616):x &&& 9223372036854775808=x / 9223372036854775808*9223372036854775808:=by
 have h1:=qbi x 63;have e:(2:Nat) ^ 63=9223372036854775808:=rfl;rw [e,Nat.mod_eq_of_lt (show x / 9223372036854775808 < 2 by omega)] at h1;exact h1
def qic {x:Nat}:x &&& 2251799813685248=x / 2251799813685248 % 2*2251799813685248:=by
 have h1:=qbi x 51;have e:(2:Nat) ^ 51=2251799813685248:=rfl;rw [e] at h1;exact h1
def qii {x:Nat}:x &&& 4503599627370495=x % 4503599627370496:=Nat.and_two_pow_sub_one_eq_mod x 52
def qa1 {a e s:Nat} (ha:a < 4503599627370496) (he:e < 2048):s*9223372036854775808 ||| a ||| e*4503599627370496=s*9223372036854775808+e*4503599627370496+a:=by
 have h1:a ||| e*4503599627370496=a+e*4503599627370496:=q2H (k:=52) ha;have h2:(a+e*4503599627370496) ||| s*9223372036854775808=a+e*4503599627370496+s*9223372036854775808:=q2H (k:=63) Oq;rw [Nat.or_assoc,h1,Nat.or_comm,h2];omega
def q2s (k x:Nat):Nat :=
 if k=1 then x / 9223372036854775808*9223372036854775808+(1019+x / 4503599627370496 % 8)*4503599627370496+x % 4503599627370496
 else if k=2 then x / 9223372036854775808*9223372036854775808+(983+x / 256 % 81)*4503599627370496+x / 2251799813685248 % 2*2251799813685248
 else if k=3 then (if x / 4503599627370496 % 2048=2047 then 0 else x)
 else flz (q4h x)
def num_1 {x:Nat} (h:x < 18446744073709551616):(x &&& 9227875636482146303) ||| (1019+x / 4503599627370496 % 8)*4503599627370496=q2s 1 x:=by
 have e:9227875636482146303=9223372036854775808 ||| 4503599627370495:=by decide
 rw [e,Nat.and_or_distrib_left,qdk h,qii,qa1 (Nat.mod_lt _ Oq) (by omega)];unfold q2s; rw [if_pos rfl]
def num_2 {x:Nat} (h:x < 18446744073709551616):(x &&& 9225623836668461056) ||| (983+x / 256 % 81)*4503599627370496=q2s 2 x:=by
 have e:9225623836668461056=9223372036854775808 ||| 2251799813685248:=by decide
 rw [e,Nat.and_or_distrib_left,qdk h,qic,qa1 Oq (by omega)];unfold q2s; rw [if_neg Oq,if_pos rfl]
end Go.Sp
namespace Go.Proofs.YtbcmhlhgljoolaaGreatDoor
open Go Go.E Go.Sp
def q8W {f:Nat} {w:World} (hf:f < 18446744073709551616):Calls Tryz.prog 42 #[.int .u64 f] w fun e w'=>e=.returned (.bool (decide (q0Y f)))∧w=w':=by
 refine q0J Tryz.func42 rfl Tryz.ntmps42 (by kernel_rfl) ?_;refine Wz ?_;have h1:=q48 (a:=f / 4503599627370496) Oq;have h2:(((f / 4503599627370496 % 2048:Nat):Int) != 2047)=decide (q0Y f):=qu4 (b:=2047);refine Wz2 h1 h2 ?_;refine q0O ?_
 try simp only [q0D,q0S]
 refine q1S rfl ⟨rfl,rfl⟩
def qeQ {f:Nat} {w:World} (hf:f < 18446744073709551616):Calls Tryz.prog 104 #[.int .u64 f] w fun e w'=>e=.returned (.bool (decide (9223372036854775808≤f)))∧w=w':=by
 refine q0J Tryz.func104 rfl Tryz.ntmps104 (by kernel_rfl) ?_;refine Wz ?_;have h2:=qe6 hf;refine Wz1 h2 ?_;refine q0O ?_
 try simp only [q0D,q0S]
 refine q1S rfl ⟨rfl,rfl⟩
def rOf_v {D:Nat→Prop} {f:Nat} {V:Int} {w:World} (hT:q2i w) (hf:f < 18446744073709551616) (hv:ofF f=some V) (hfr:Fr D w):Calls Tryz.prog 38 #[.int .u64 f] w (Rt (fV V) D w):=by
 have hf0:Fr D w:=hfr;have hfin:q0Y f:=fun h=>by unfold ofF at hv; rw [if_pos h] at hv; cases hv
 obtain ⟨V',hv',hmk⟩:=q9a hfin;rw [hv] at hv'; cases hv';have hf:=hfr;refine q0J Tryz.func38 rfl Tryz.ntmps38 (by kernel_rfl) ?_;refine q0A fun K hK=>?_;refine Zz ?_;refine q0r ?_;intro g2 w2 hg2 hx2 hb2 hs2;refine hK _ _ ?_; clear hK K;have hx:Ext w w2:=hx2;have hD:Fr (Dl D [g2]) w2:=hf.nL hx (by intro g hg; simp at hg; omega);clear hx2;refine q0B fun K0 hK0=>?_;refine q0A fun K hK=>?_;refine Zz ?_;refine q0F quQ (q8W (by assumption)) ?_;rintro _ _ ⟨rfl,rfl⟩; refine ⟨_,rfl,?_⟩;rw [decide_eq_true hfin];refine Zz ?_;refine hK _ _ ?_; clear hK;refine Wf (q0G (hK0 _ _ ?_));clear hK0;have h1:=q48 (a:=f / 4503599627370496) Oq;have h2:=q7p (a:=f) (by assumption);have hxm:=Nat.mod_lt (f / 4503599627370496) (show 0 < 2048 by omega);have hm:=Nat.mod_lt f (show 0 < 4503599627370496 by omega);obtain ⟨x,hxe⟩:∃ x,x=f / 4503599627370496 % 2048:=⟨_,rfl⟩;obtain ⟨m,hme⟩:∃ m,m=f % 4503599627370496:=⟨_,rfl⟩;rw [← hxe] at hxm h1 hmk;rw [← hme] at hm h2 hmk;obtain ⟨sg,hsg⟩:∃ sg,sg=decide (9223372036854775808≤f):=⟨_,rfl⟩;rw [← hsg] at hmk;have h3:IntKind.i64.wrap ((x:Nat):Int)=x:=i64_in Oq Oq;refine Wz3 h1 h2 h3 ?_;refine Wz ?_;refine q0B fun K0 hK0=>?_;have fin:∀ (e1:Env) (M:Nat) (E:Int),e1 0=.int .u64 f→e1 2=.pointer (some ⟨g2,0,none⟩)→e1 4=.int .u64 M→e1 5=.int .i64 E→M < 9007199254740992 → -1074≤E→E≤2000→mkV (sgn sg M) E=some V→K0 e1 w2:=by
  intro e1 M E k0 k2 k4 k5 hM hE1 hE2 hmk;refine hK0 _ _ ?_; clear hK0;refine q0A fun K hK=>?_;refine Zz1 k0 ?_;refine q0F qlt (qeQ (by assumption)) ?_;rintro _ _ ⟨rfl,rfl⟩; refine ⟨_,rfl,?_⟩;rw [← hsg];refine Zz2 k4 k5 ?_;refine q3i fun w4 hx4 hb4 hs4=>?_;have hU:U32 w4 (Dl D [g2]) _ 2 2 _:=(own2 hb4 (Nat.mod_lt _ Oq) (Nat.mod_lt _ Oq)).u32 fun k hk=>hD k hk;replace hb2:=hb2.ext hx4;replace hD:=hD.kp hx4;replace hx:=hx.trans hx4;refine Zz1 k2 ?_;have hval:val [M % 4294967296,M / 4294967296 % 4294967296]=M:=by simp only [val,B]; omega
  have hbl:bl M≤53:=q0T (show M < 2 ^ 53 by omega);refine Cr qlu (qam (hT.ext hx) hU.in (by rw [hval]; omega) Oq Oq Oq (by rw [hval]; exact hmk) hD) fun v5 w5 hx5 h5=>?_;replace hb2:=hb2.ext hx5;replace hD:=hD.kp hx5;replace hx:=hx.trans hx5;clear hx5;refine q1h hb2 qdd rfl (qhH h5) fun w90 hk90 hb90=>?_;refine hK _ _ ?_; clear hK;refine q0O ?_
  try simp only [q0D,q0S]
  exact qcJ rfl Rf qgi hb90 (qhH h5) (Rt.fin hx h5 hk90 (by simp) Oq)
 by_cases hx0:x=0
 ·have q:¬ ((x:Int) > 0):=by omega
  refine Wz1 q ?_;refine Wf (q0G ?_);rw [if_pos hx0,if_pos hx0] at hmk;exact fin _ m (-1074) Ue Ue Ue Ue Oq Oq Oq hmk
 ·have q:((x:Int) > 0):=by omega
  refine Wz1 q ?_;refine Wt ?_;have h4:=qkl hm;have h5:IntKind.i64.wrap ((x:Int)-1075)=(x:Int)-1075:=i64_in Oq Oq;refine Wz1 h4 ?_;refine q0Q fun K9 hK9=>?_;refine Zz1 h5 ?_;refine hK9 _ _ ?_; clear hK9 K9;rw [if_neg hx0,if_neg hx0] at hmk;exact fin _ _ _ Ue Ue Ue Ue Oq Oq Oq hmk
end Go.Proofs.YtbcmhlhgljoolaaGreatDoor
namespace Go.Sp
open Go.E
def hf (q k:Nat) (inx:Bool):Int:=if (((q % 2 ^ k:Nat):Int)-2 ^ (k-1)).sign=0∧inx=true then 1 else (((q % 2 ^ k:Nat):Int)-2 ^ (k-1)).sign
def qnd (q:Nat) (e p:Int) (inx:Bool):Nat :=
 if p≤e then q*2 ^ (e-p).toNat
 else q / 2 ^ (p-e).toNat+(if ¬ (q % 2 ^ (p-e).toNat=0∧inx=false)∧(0 < hf q (p-e).toNat inx∨(hf q (p-e).toNat inx=0∧q / 2 ^ (p-e).toNat % 2=1)) then 1 else 0)
def qnr {a b:Prop} [Decidable a] [Decidable b] (h:a ↔ b) (x y:Nat):(if a then x else y)=if b then x else y:=by
 by_cases ha:a
 ·rw [if_pos ha,if_pos (h.1 ha)]
 ·rw [if_neg ha,if_neg (fun hb=>ha (h.2 hb))]
def qoG {N M k:Nat} (hk:0 < k):hf (N / M) k (decide (N % M≠0))=qc1 N M k:=by
 have hp:2 ^ k=2 ^ (k-1)*2:=by rw [← Nat.pow_succ]; congr 1; omega
 have hp0:=q0P (k-1);have hs:=Nat.mod_mul (x:=N / M) (a:=2 ^ (k-1)) (b:=2);rw [← hp] at hs;have hs':=Nat.mod_lt (N / M) hp0;have hb2:N / M / 2 ^ (k-1) % 2 < 2:=Nat.mod_lt _ Oq;unfold hf qc1;rw [← q1E];generalize N / M % 2 ^ k=s at *;generalize N / M % 2 ^ (k-1)=s' at *;generalize N / M / 2 ^ (k-1) % 2=b at *;generalize N % M=r at *;generalize 2 ^ (k-1)=h at *
 by_cases hb:b=1
 ·subst hb;have hss:((s:Nat):Int)-(h:Nat)=(s':Nat):=by omega
  rw [hss,if_pos (show 0 < k∧1=1 from ⟨hk,rfl⟩)]
  by_cases h0:s'=0
  ·subst h0
   by_cases hr:r=0
   ·subst hr; simp
   ·simp [hr]
  ·have h1:(((s':Nat):Int)).sign=1:=Int.sign_eq_one_of_pos Oq;rw [h1,if_neg (by simp),if_pos (.inr h0)]
 ·have:b=0:=by omega
  subst this;have h1:(((s:Nat):Int)-(h:Nat)).sign = -1:=Int.sign_eq_neg_one_of_neg Oq;rw [h1,if_neg (by omega)]; simp
def qnc {neg:Bool} {N M:Nat} {e p:Int} (hM:0 < M) (hk:N % M≠0→e < p):qnd (N / M) e p (decide (N % M≠0))=rq 0 neg (N*2 ^ (e-p).toNat) (M*2 ^ (p-e).toNat):=by
 unfold qnd
 by_cases hpe:p≤e
 ·rw [if_pos hpe,show (p-e).toNat=0 by omega,Nat.pow_zero,Nat.mul_one];have hr:N % M=0:=by
   rcases Nat.eq_zero_or_pos (N % M) with h | h
   ·exact h
   ·have:=hk (by omega); omega
  have hd:N=N / M*M:=by have:=Nat.div_add_mod N M; rw [Nat.mul_comm] at this; omega
  rw [q54 (by rw [hd,Nat.mul_right_comm]; exact Nat.mul_mod_left _ _)]
  conv=>rhs; rw [hd,Nat.mul_right_comm,Nat.mul_div_cancel _ hM]
 ·rw [if_neg hpe,show (e-p).toNat=0 by omega,Nat.pow_zero,Nat.mul_one];have hk0:0 < (p-e).toNat:=by omega
  rw [qru hM (fun _=>hk0),qoG hk0]
  congr 1
  unfold upS;have z1:¬ (0:Int)=1:=by omega
  have z2:¬ (0:Int)=2:=by omega
  have z3:¬ (0:Int)=3:=by omega
  simp only [z1,z2,z3,if_false,Bool.or_eq_true,Bool.and_eq_true,decide_eq_true_eq,decide_eq_false_iff_not,Decidable.not_not];refine qnr (and_congr ?_ Iff.rfl) _ _
  constructor
  ·intro h
   by_cases h0:N / M % 2 ^ (p-e).toNat=0
   ·exact .inr fun h1=>h ⟨h0,h1⟩
   ·exact .inl h0
  ·rintro (h | h) ⟨h1,h2⟩
   ·exact h h1
   ·exact h h2
def q8t {N M:Nat} (hM:M≠0) {k:Nat} (h:bl M+k < bl N):k < bl (N / M):=by
 rcases Nat.lt_or_ge k (bl (N / M)) with h1 | h1
 ·exact h1
 ·exfalso
  have h2:=q1d h1;have h3:=q2w M;have h4:N < 2 ^ k*2 ^ bl M:=by
   have h5:=Nat.div_add_mod N M;have h6:=Nat.mod_lt N (show 0 < M by omega);have h7:M*(N / M)+M≤M*2 ^ k:=by rw [← Nat.mul_succ]; exact Nat.mul_le_mul_left _ h2
   have h8:M*2 ^ k≤2 ^ bl M*2 ^ k:=Nat.mul_le_mul_right _ (Nat.le_of_lt h3);rw [Nat.mul_comm (2 ^ k)]; omega
  rw [← Nat.pow_add] at h4;have:=q0T h4;omega
def qke {mode:Int} {neg:Bool} {a b:Int} {k:Nat} (ha:a≠0) (hb:b≠0):rE mode neg ((od a).natAbs*2 ^ k) (od b).natAbs (dyE a-k-dyE b)=rF mode neg a.natAbs b.natAbs:=by
 have ha1:=q6h a;have hb1:=q6h b;have ha2:=q3c ha;have hb2:=q3c hb;have hoa:0 < (od a).natAbs:=by omega
 have hob:0 < (od b).natAbs:=by omega
 have hda:dyE a=(tz a.natAbs:Int)-65536:=by unfold dyE; rw [if_neg ha]
 have hdb:dyE b=(tz b.natAbs:Int)-65536:=by unfold dyE; rw [if_neg hb]
 unfold rE;refine q58 (Nat.mul_pos (Nat.mul_pos hoa (q0P _)) (q0P _)) (Nat.mul_pos hob (q0P _)) Oq Oq ?_;rw [hda,hdb];generalize tz a.natAbs=x at *;generalize tz b.natAbs=y at *;generalize (od a).natAbs=p at *;generalize (od b).natAbs=r at *;rw [← ha1,← hb1];have e1:p*2 ^ k*2 ^ (((x:Int)-65536-k-((y:Int)-65536)).toNat)*(r*2 ^ y)=p*r*2 ^ (k+((x:Int)-65536-k-((y:Int)-65536)).toNat+y):=by
  rw [Nat.pow_add,Nat.pow_add];simp only [Nat.mul_assoc,Nat.mul_left_comm,Nat.mul_comm]
 have e2:p*2 ^ x*(r*2 ^ (-((x:Int)-65536-k-((y:Int)-65536))).toNat)=p*r*2 ^ (x+(-((x:Int)-65536-k-((y:Int)-65536))).toNat):=by
  rw [Nat.pow_add];simp only [Nat.mul_assoc,Nat.mul_left_comm,Nat.mul_comm]
 rw [e1,e2]
 congr 2
 omega
end Go.Sp
namespace Go.Proofs.YtbcmhlhgljoolaaGreatDoor
open Go Go.E Go.Sp
def qqy {u P b t:Nat} (hu:u < 4294967296) (hb:b≤1) (ht:t=((u+(18446744073709551616-b)) % 18446744073709551616+(18446744073709551616-P % 4294967296)) % 18446744073709551616) :
  t=(u+18446744073709551616-P % 4294967296-b) % 18446744073709551616∧t / 9223372036854775808=t / 4294967296 % 2:=by
 have:=Nat.mod_lt P (show 0 < 4294967296 by omega);generalize P % 4294967296=m at *;omega
set_option maxHeartbeats 1000000 in
def qm6 {D:Nat→Prop} {Bd g j n m c cv q:Nat} {Av:Option Addr} {us vs:List Nat} {w:World} (hO:q12 w Bd (some ⟨g,0,none⟩) m c us) (hj:j+n+1≤m) (hm:m≤1000000000) (hv:In (fU vs) D (.slice Av n cv) w) (hgD:∀ k,D k→k≠g) (hn:1≤n) (hq:q < 4294967296) :
  Calls Tryz.prog 273 #[.slice (some ⟨g,0,none⟩) m c,.slice Av n cv,.int .i64 j,.int .u64 q] w fun e w'=>(e=.returned (.bool false)∧val ((us.drop j).take (n+1)) < q*val vs∧Ext w w') ∨
   (e=.returned (.bool true)∧q*val vs≤val ((us.drop j).take (n+1))∧Kp (fun k=>k≠g) w w'∧∃ o,q12 w' Bd (some ⟨g,0,none⟩) m c o∧(∀ k,k < j∨j+n < k→o.getD k 0=us.getD k 0)∧val ((o.drop j).take (n+1))=val ((us.drop j).take (n+1))-q*val vs):=by
 have hlv:=hv.u32.len;have hlu:=hO.len;have hx:Ext w w:=Kp.refl _ _;have hgw:g < w.heap.size:=by
  rcases hO.1.form with ⟨h0,_⟩ | ⟨_,_,h0,_,hb9,_⟩
  ·cases h0
  ·cases h0; exact hb9.lt
 obtain ⟨ad,rfl,-⟩:=hv.u32.cell (j:=0) Oq;have w64:∀ x:Nat,x < 18446744073709551616→IntKind.u64.wrap (x:Int)=(x:Int):=fun x h=>u64_in Oq Oq;have en1:IntKind.i64.wrap ((n:Int)+1)=((n+1:Nat):Int):=by rw [i64_in Oq (by omega)]; omega
 refine q0J Tryz.func273 rfl Tryz.ntmps273 (by kernel_rfl) ?_;refine Wz ?_;refine Wz ?_;refine q0A fun K hK=>?_;obtain ⟨go,hgo⟩:∃ go,go=w.heap.size:=⟨_,rfl⟩;refine Zz1 en1 ?_;refine mkU (Nat.le_refl _) Oq fun w1 hx1 hQ=>?_;rw [← hgo] at hQ;rw [← hgo];refine hK _ _ ?_; clear hK K;refine Wz ?_;refine q0B fun K0 hK0=>?_;refine Wz ?_;refine q0X ?_;refine q0a (fun e2 w2=>∃ (i cr br:Nat) (o:List Nat),e2 13=.int .i64 i∧e2 12=.int .u64 cr∧e2 11=.int .u64 br∧i≤n+1∧br≤1∧cr < 4294967296∧(i=n+1→cr=0)∧Ext w w2∧q12 w2 go (some ⟨go,0,none⟩) (n+1) (n+1) o∧val (o.take i)+q*val (vs.take i)=val ((us.drop j).take i)+B ^ i*(cr+br)) (fun e2 _=>n+1-(RowKit.intOf (e2 13)).toNat) ⟨0,0,0,_,rfl,Ue,Ue,Nat.zero_le _,Nat.zero_le _,by omega,fun _=>rfl,hx1,hQ,by simp [val]⟩ ?_;clear hx hQ hx1;rintro e2 w2 ⟨i,cr,br,o,r13,r12,r11,hi,hbr,hcr,hcr0,hx,hQ,hval⟩ hkk;have r0:e2 0=.slice (some ⟨g,0,none⟩) m c:=(hkk 0 (by kernel_rfl)).trans Ue;have r1:e2 1=.slice (some ad) n cv:=(hkk 1 (by kernel_rfl)).trans Ue;have r2:e2 2=.int .i64 j:=(hkk 2 (by kernel_rfl)).trans Ue;have r3:e2 3=.int .u64 q:=(hkk 3 (by kernel_rfl)).trans Ue;have r9:e2 9=.int .i64 n:=(hkk 9 (by kernel_rfl)).trans Ue;have r10:e2 10=.slice (some ⟨go,0,none⟩) (n+1:Nat) (n+1:Nat):=(hkk 10 (by kernel_rfl)).trans Ue;clear hkk;have hol:=hQ.len;have hO2:=hO.ext hx;have hv2:=hv.ext hx;refine q0B fun K1 hK1=>?_
 by_cases hlt:i≤n
 ·have hlt':(i:Int)≤n:=by omega
  refine Wz3 r13 r9 hlt' ?_;refine Wt (q0G (hK1 _ _ ?_));clear hK1;refine q0N fun K hK=>?_;have ej:IntKind.i64.wrap ((i:Int)+(j:Int))=((j+i:Nat):Int):=by rw [i64_in Oq (by omega)]; omega
  have ei:(0:Int)≤((j+i:Nat):Int)∧((j+i:Nat):Int) < (m:Int):=by omega
  have eo:(0:Int)≤(i:Int)∧(i:Int) < ((n+1:Nat):Int):=by omega
  have xi:=hO2.cx (j:=j+i) Oq;have hdu:us.getD (j+i) 0 < 4294967296:=hO.2.get (j+i);obtain ⟨x,hxe⟩:∃ x,x=vs.getD i 0:=⟨_,rfl⟩;have hdx:x < 4294967296:=by rw [hxe]; exact hv.u32.2.get i
  have hqx:q*x≤4294967295*4294967295:=Nat.mul_le_mul Oq Oq;obtain ⟨P,hP⟩:∃ P,P=q*x+cr:=⟨_,rfl⟩;have hPl:P < 18446744073709551616:=by omega
  have ap:=q2M (a:=P) hPl;refine q0B fun K2 hK2=>?_;have st2:∀ e3:Env,e3 0=.slice (some ⟨g,0,none⟩) m c→e3 2=.int .i64 j→e3 10=.slice (some ⟨go,0,none⟩) (n+1:Nat) (n+1:Nat)→e3 11=.int .u64 br→e3 12=.int .u64 P→e3 13=.int .i64 i→K2 e3 w2:=by
   intro e3 s0 s2 s10 s11 s12 s13;refine hK2 _ _ ?_; clear hK2;obtain ⟨t,ht⟩:∃ t,t=((us.getD (j+i) 0+(18446744073709551616-br)) % 18446744073709551616+(18446744073709551616-P % 4294967296)) % 18446744073709551616:=⟨_,rfl⟩;obtain ⟨ht1,ht2⟩:=qqy hdu hbr ht;have htl:t < 18446744073709551616:=by omega
   have hmp:=Nat.mod_lt P (show 0 < 4294967296 by omega);refine q0A fun K hK=>?_;simp -implicitDefEqProofs (disch:=omega) only [go_sem,Nat.reduceEqDiff,Nat.reduceAdd,↓reduceIte,s0,s2,s11,s12,s13,ej,ei,xi,ap,q5q];refine hK _ _ ?_; clear hK K;rw [← ht];refine Wz1 s12 ?_;refine q0A fun K9 hK9=>?_;refine Zz3 s10 s13 eo ?_;refine q1q hQ Oq (Nat.mod_lt _ Oq) fun w3 hQ3 hk3 hs3=>?_;refine hK9 _ _ ?_; clear hK9;refine q0Q fun K9 hK9=>?_;refine Zz ?_;refine hK9 _ _ ?_; clear hK9 K9;refine hK _ _ ?_; clear hK;refine q0Q fun K9 hK9=>?_;refine Zz2 s13 @i64_in ?_;refine hK9 _ _ ?_; clear hK9 K9;rw [hP] at ht1;have key:=q82 hval hdu hbr ht1;have hx3:Ext w w3:=hx.under hk3 fun k hk a ha=>by cases ha; show go≠k; omega
   have hPq:P / 4294967296 < 4294967296:=Nat.div_lt_of_lt_mul Oq;refine ⟨⟨i+1,P / 4294967296,t / 4294967296 % 2,o.set i (t % 4294967296),Ue,Ue,?_,by omega,by omega,hPq,fun h=>?_,hx3,hQ3,?_⟩,by simp only [q0E,↓reduceIte,RowKit.intOf,r13]; omega⟩
   ·rw [← ht2]; exact Ue
   ·have hin:i=n:=by omega
    have:x=0:=by rw [hxe,hin,List.getD_eq_getElem?_getD,List.getElem?_eq_none (by omega)]; rfl
    rw [hP,this,Nat.mul_zero,Nat.zero_add];exact Nat.div_eq_of_lt hcr
   ·have hset:(o.set i (t % 4294967296)).getD i 0=t % 4294967296:=by rw [List.getD_eq_getElem?_getD,List.getElem?_set_self (by omega)]; rfl
    rw [vts,hset,q2p,vts vs,q22 us,← hxe,hP];exact key
  refine Wz2 r13 r9 ?_
  by_cases hin:i < n
  ·have hin':((i:Int) < (n:Int))=True:=eq_true Oq;have yi:=hv2.u32.cx hin;have hdg:dg vs i=x:=hxe.symm;rw [hdg] at yi;have ei2:(0:Int)≤(i:Int)∧(i:Int) < (n:Int):=by omega
   have m1:IntKind.u64.wrap ((q:Int)*(x:Int))=((q*x:Nat):Int):=by rw [← Int.natCast_mul]; exact w64 _ Oq
   have m2:IntKind.u64.wrap ((cr:Int)+((q*x:Nat):Int))=((P:Nat):Int):=by rw [hP,← Int.natCast_add,Nat.add_comm]; exact w64 _ Oq
   refine q02 (t:=true) (by simp [ev,upd]; omega) (fun _=>?_) (fun hc1=>by cases hc1);refine q0Q fun K9 hK9=>?_;refine Zz8 r12 r3 r1 r13 ei2 yi m1 m2 ?_;refine hK9 _ _ ?_; clear hK9 K9;exact st2 _ Ue Ue Ue Ue Ue Ue
  ·have hxz:x=0:=by rw [hxe,List.getD_eq_getElem?_getD,List.getElem?_eq_none (by omega)]; rfl
   have hPc:P=cr:=by rw [hP,hxz]; omega
   refine q02 (t:=false) (by simp [ev,upd]; omega) (fun hc1=>by cases hc1) (fun _=>q0G ?_);simp only [q0o];exact st2 _ Ue Ue Ue Ue (by rw [hPc]; exact Ue) Ue
 ·have hlt':¬ (i:Int)≤n:=by omega
  obtain rfl:i=n+1:=by omega
  have hcz:=hcr0 rfl;subst hcz;refine Wz3 r13 r9 hlt' ?_;refine Wf (q04 (hK0 _ _ ?_));clear hK0 hK1;rw [q0K vs (n+1) Oq,q0K o (n+1) Oq,Nat.zero_add] at hval;have hWM:val o < B ^ (n+1):=by
   have:=q1V hQ.2;rw [hol] at this; exact this
  have hUM:val ((us.drop j).take (n+1)) < B ^ (n+1):=by
   have:=q1V (hO2.2.drop j |>.take (n+1));rw [List.length_take,List.length_drop,show min (n+1) (us.length-j)=n+1 by omega] at this;exact this
  generalize val ((us.drop j).take (n+1))=U at *;generalize hV:q*val vs=V at *;generalize hM:B ^ (n+1)=M at *;refine q0B fun K0 hK0=>?_
  by_cases hb0:br=0
  case neg =>
   obtain rfl:br=1:=by omega
   have q1:((1:Int) != 0)=true:=rfl;refine Wz1 r11 ?_;refine Wt ?_;refine Wz ?_;refine q0O ?_
   try simp only [q0D,q0S]
   refine q1S rfl (.inl ⟨by simp [upd],by omega,hx⟩)
  subst hb0;refine Wz1 r11 ?_;refine Wf (q0G (hK0 _ _ ?_));clear hK0;rw [Nat.mul_zero,Nat.add_zero] at hval;refine q0B fun K0 hK0=>?_;refine Wz ?_;refine q0X ?_;refine q0a (fun e2 w3=>∃ (i:Nat) (u2:List Nat),e2 15=.int .i64 i∧i≤n+1∧Kp (fun k=>k≠g) w w3∧q12 w3 go (some ⟨go,0,none⟩) (n+1) (n+1) o∧q12 w3 Bd (some ⟨g,0,none⟩) m c u2∧(∀ k,k < j∨j+i≤k→u2.getD k 0=us.getD k 0)∧∀ k,k < i→u2.getD (j+k) 0=o.getD k 0) (fun e2 _=>n+1-(RowKit.intOf (e2 15)).toNat) ⟨0,us,Ue,Nat.zero_le _,Kp.of_ext hx,hQ,hO2,fun _ _=>rfl,fun k hk=>by omega⟩ ?_;rintro e3 w3 ⟨i,u2,r15,hi,hk,hQ3,hO3,hun,heq⟩ hkk;have s0:e3 0=.slice (some ⟨g,0,none⟩) m c:=(hkk 0 (by kernel_rfl)).trans Ue;have s2:e3 2=.int .i64 j:=(hkk 2 (by kernel_rfl)).trans Ue;have s9:e3 9=.int .i64 n:=(hkk 9 (by kernel_rfl)).trans Ue;have s10:e3 10=.slice (some ⟨go,0,none⟩) (n+1:Nat) (n+1:Nat):=(hkk 10 (by kernel_rfl)).trans Ue;clear hkk;have hul:=hO3.len;refine q0B fun K1 hK1=>?_
  by_cases hlt:i≤n
  ·have hlt':(i:Int)≤n:=by omega
   refine Wz3 r15 s9 hlt' ?_;refine Wt (q0G (hK1 _ _ ?_));clear hK1;refine q0N fun K hK=>?_;have ej:IntKind.i64.wrap ((i:Int)+(j:Int))=((j+i:Nat):Int):=by rw [i64_in Oq (by omega)]; omega
   have ei:(0:Int)≤((j+i:Nat):Int)∧((j+i:Nat):Int) < (m:Int):=by omega
   have eo:(0:Int)≤(i:Int)∧(i:Int) < ((n+1:Nat):Int):=by omega
   have xi:=hQ3.cx (j:=i) Oq;refine q0Q fun K9 hK9=>?_;refine Zz8 s0 s2 s10 r15 ej ei eo xi ?_;refine q1q hO3 Oq (hQ3.2.get i) fun w4 hO4 hk4 hs4=>?_;refine hK9 _ _ ?_; clear hK9;refine hK _ _ ?_; clear hK;refine q0Q fun K9 hK9=>?_;refine Zz2 r15 @i64_in ?_;refine hK9 _ _ ?_; clear hK9 K9;have hk4':Kp (fun k=>k≠g) w3 w4:=hk4.mono fun k _ hk a ha=>by cases ha; exact fun e=>hk e.symm
   refine ⟨⟨i+1,_,Ue,by omega,hk.trans hk4',?_,hO4,fun k hk=>?_,fun k hk=>?_⟩,by simp only [q0E,↓reduceIte,RowKit.intOf,r15]; omega⟩
   ·exact ⟨hQ3.1.kp hk4 fun a ha=>by cases ha; intro b hb; cases hb; show g≠go; omega,hQ3.2⟩
   ·rw [q0v (by omega)]; exact hun k Oq
   ·by_cases hki:k=i
    ·subst hki; rw [List.getD_eq_getElem?_getD,List.getElem?_set_self (by omega)]; rfl
    ·rw [q0v (by omega)]; exact heq k Oq
  ·have hlt':¬ (i:Int)≤n:=by omega
   obtain rfl:i=n+1:=by omega
   refine Wz3 r15 s9 hlt' ?_;refine Wf (q04 (hK0 _ _ ?_));clear hK0 hK1;refine Wz ?_;refine q0O ?_
   try simp only [q0D,q0S]
   refine q1S rfl (.inr ⟨by simp [upd],by omega,hk,u2,hO3,fun k hk=>hun k Oq,?_⟩);have e1:(u2.drop j).take (n+1)=o:=by
    have hl:((u2.drop j).take (n+1)).length=o.length:=by simp; omega
    have:=qbR (j:=n+1) hl fun k hk=>by
     rw [List.getD_eq_getElem?_getD,List.getElem?_take,if_pos hk,List.getElem?_drop,← List.getD_eq_getElem?_getD]; exact heq k hk
    rw [List.take_of_length_le (l:=(u2.drop j).take (n+1)) Oq,List.take_of_length_le (l:=o) (by omega)] at this;exact this
   rw [e1]; omega
def est1 {U top v1 p V:Nat} (hU:U < (top+1)*p) (hV:v1*p≤V) (hv:0 < v1):U < (top / v1+1)*V:=by
 have h1:=Nat.div_add_mod top v1;have h2:=Nat.mod_lt top hv;have h3:top+1≤(top / v1+1)*v1:=by
  rw [Nat.add_mul,Nat.one_mul,Nat.mul_comm]; omega
 have h4:(top+1)*p≤(top / v1+1)*V:=by
  refine Nat.le_trans (Nat.mul_le_mul_right p h3) ?_;rw [Nat.mul_assoc];exact Nat.mul_le_mul_left _ hV
 omega
section
variable {D:Nat→Prop} {v v':Value} {w:World} {x y:Nat}
set_option maxHeartbeats 1000000 in
def qeS (h:In (fU (lim x)) D v w) (h':In (fU (lim y)) D v' w) (hb:bl x≤20000000) (hby:bl y≤20000000) (hy0:y≠0) (hf:Fr D w):Calls Tryz.prog 268 #[v,v'] w (Rt (fP (fU (lim (x / y))) (fU (lim (x % y)))) D w):=by
 have hlx:=q05 hb;have hly:=q05 hby;have hx:Ext w w:=Kp.refl _ _;have hD:=hf;obtain ⟨A,n,c,rfl,_⟩:=id h;obtain ⟨A',n',c',rfl,_⟩:=id h';have hn:=h.u32.len;have hn':=h'.u32.len;refine q0J Tryz.func268 rfl Tryz.ntmps268 (by kernel_rfl) ?_;refine Wz ?_;refine q0B fun K0 hK0=>?_;refine q0A fun K hK=>?_;refine Zz ?_;refine Ck qgY (q8n h.u32 h'.u32 Oq Oq) fun w1 hx1=>?_;replace h:=h.ext hx1;replace h':=h'.ext hx1;replace hD:=hD.kp hx1;replace hx:=hx.trans hx1;clear hx1
 by_cases hlt:x < y
 ·have q:q2C x y < 0:=by unfold q2C; rw [if_pos hlt]; omega
  refine Zz1 q ?_;refine hK _ _ ?_; clear hK;refine Wt ?_;refine Wz ?_;rw [Nat.div_eq_of_lt hlt,Nat.mod_eq_of_lt hlt];refine q0O ?_
  try simp only [q0D,q0S]
  refine q8S rfl ⟨_,rfl,hx,⟨_,_,rfl,?_,?_⟩⟩
  ·simp only [q0E,Nat.reduceEqDiff,↓reduceIte]; rw [q2U]; exact ⟨none,0,0,rfl,U32.nil⟩
  ·simp only [q0E,Nat.reduceEqDiff,↓reduceIte]; exact h
 have hyx:y≤x:=by omega
 have q:¬ q2C x y < 0:=by unfold q2C; rw [if_neg (by omega)]; split <;> omega
 refine Zz1 q ?_;refine hK _ _ ?_; clear hK;refine Wf (q0G (hK0 _ _ ?_));clear hK0;have hbyx:bl y≤bl x:=q0d hyx;have hnn:n'≤n:=by rw [← hn,← hn']; exact q2t hyx
 have hn1:1≤n':=by rw [← hn']; exact (q0R (n:=y)).2 hy0
 have hlast:=q5b hy0;rw [hn'] at hlast;have hbl:=q6t hy0;rw [hn'] at hbl;obtain ⟨vt,hvt⟩:∃ vt,vt=(lim y).getD (n'-1) 0:=⟨_,rfl⟩;rw [← hvt] at hlast hbl;have hvt2:vt < 4294967296:=by rw [hvt]; exact (q1b y).get (n'-1)
 have hvb:bl vt≤32:=q0T hvt2;have hvb0:=q45 hlast;obtain ⟨s,hs⟩:∃ s,s=32-bl vt:=⟨_,rfl⟩;refine Wz ?_;obtain ⟨ad,rfl,-⟩:=h'.u32.cell (j:=n'-1) Oq;have cx:=h'.u32.cx (j:=n'-1) Oq;have hdv:dg (lim y) (n'-1)=vt:=hvt.symm;rw [hdv] at cx;have en1:IntKind.i64.wrap ((n':Int)-1)=((n'-1:Nat):Int):=by rw [i64_in Oq (by omega)]; omega
 have i1:(0:Int)≤((n'-1:Nat):Int)∧((n'-1:Nat):Int) < n':=by omega
 have hlz:=fun {w:World}=>qsj (x:=vt) (w:=w) hvt2;rw [← hs] at hlz;refine q0A fun K hK=>?_;refine Zz3 en1 i1 cx ?_;refine q0F qgS (hlz) ?_;rintro _ _ ⟨rfl,rfl⟩; refine ⟨_,rfl,?_⟩;refine hK _ _ ?_; clear hK;refine q0B fun K0 hK0=>?_;refine W_dA q0l (.one 0 (.one 1 (.one 3 (.one 4 (.one 6 (.one 2 (.one 5 (.one 7 (.one 8 (.one 9 .fin)))))))))) (by kernel_rfl) fun KE wE hKE hxE=>?_;replace h:=h.ext hxE;replace h':=h'.ext hxE;replace hD:=hD.kp hxE;replace hx:=hx.trans hxE;simp only [q0o] at hKE;have hwE:w.heap.size≤wE.heap.size:=hx.size;simp -implicitDefEqProofs (disch:=omega) only [go_sem,Nat.reduceEqDiff,Nat.reduceAdd,↓reduceIte,qbm,qbn,qgo,q8Z,qas,List.toList_toArray];have hs32:s / 32=0:=by omega
 refine q0F qb9 (qdg h.u32 Oq Oq) ?_;rintro _ w31 ⟨Au,nu,cu,us,rfl,hx31,hO,hvu,hnu⟩; refine ⟨_,rfl,?_⟩;obtain ⟨gu,hgu⟩:∃ gu,Au=some ⟨gu,0,none⟩∧wE.heap.size≤gu∧gu < w31.heap.size:=by
  rcases hO.1.form with ⟨_,h0,_⟩ | ⟨g,_,h0,h1,hb9,_⟩
  ·omega
  ·exact ⟨g,h0,h1,hb9.lt⟩
 obtain ⟨rfl,hgu1,hgu2⟩:=hgu;replace h:=h.ext hx31;replace h':=h'.ext hx31;refine q0F qb9 (qdg h'.u32 Oq Oq) ?_;rintro _ w34 ⟨Av,nv,cv,l2,rfl,hx34,hOv,hvv,hnv⟩; refine ⟨_,rfl,?_⟩;obtain ⟨gv,hgv⟩:∃ gv,Av=some ⟨gv,0,none⟩∧w31.heap.size≤gv∧gv < w34.heap.size∧nv≤cv:=by
  rcases hOv.1.form with ⟨_,h0,_⟩ | ⟨g,_,h0,h1,hb9,h2,_⟩
  ·omega
  ·exact ⟨g,h0,h1,hb9.lt,h2⟩
 obtain ⟨rfl,hgv1,hgv2,hcv⟩:=hgv;have hnu':nu=n+1:=by omega
 subst hnu';have hg1:(0:Int)≤(n':Int)∧(n':Int)≤(cv:Int):=by omega
 have hg2:(cv=0)=False:=eq_false Oq;replace hO:=hO.ext hx34;replace h:=h.ext hx34;replace hx:=(hx.trans hx31).trans hx34;refine Zz2 hg1 hg2 ?_;refine hKE _ _ ?_; clear hKE KE;refine hK0 _ _ ?_; clear hK0 K0;have hD:Fr D w34:=hf.grow hx.size;obtain ⟨V,hV⟩:∃ V,V=y*2 ^ s:=⟨_,rfl⟩;obtain ⟨X,hX⟩:∃ X,X=x*2 ^ s:=⟨_,rfl⟩;have hblV:bl V=32*n':=by rw [hV,q1i hy0]; omega
 have hV0:V≠0:=by rw [hV]; exact Nat.ne_of_gt (Nat.mul_pos Oq (q0P s))
 have hlV:(lim V).length=n':=by rw [q3h,hblV]; omega
 have hVB:V < B ^ n':=by have:=q1X V; rw [hlV] at this; exact this
 obtain ⟨vs,hvs⟩:∃ vs,vs=l2.take n':=⟨_,rfl⟩;have hvV:val vs=V:=by
  rw [hvs,q3I hOv.2,hvv,q0I,Nat.mul_comm,← hV];exact Nat.mod_eq_of_lt hVB
 have h9:=((hOv.u32 (D:=fun k=>w31.heap.size≤k) fun k hk=>hk).take (m:=n') Oq).in.db (w':=w34);rw [← hvs] at h9;have hvl:vs.length=n':=h9.u32.len;have hvalU:val us=X:=by rw [hvu,q0I,hX,Nat.mul_comm]
 have hyp:B ^ (n'-1)≤y:=by have:=q2a hy0; rw [hn'] at this; exact this
 have hyV:y≤V:=by rw [hV]; exact Nat.le_mul_of_pos_right y (q0P s)
 have hv1:vs.getD (n'-1) 0≠0:=fun h0=>by
  have h1:=vts vs (n'-1);rw [Nat.sub_add_cancel hn1,q0K vs n' Oq,h0,Nat.mul_zero,Nat.add_zero,hvV] at h1;have h2:=q1V (h9.u32.2.take (n'-1));rw [List.length_take,Nat.min_eq_left (by omega)] at h2;omega
 have q3:(((n+1:Nat):Int) == (n:Int))=false:=by rw [beq_eq_false_iff_ne]; omega
 refine q0B fun K0 hK0=>?_;refine Wz1 q3 ?_;refine Wf (q0G (hK0 _ _ ?_));clear hK0;obtain ⟨lq,hlq⟩:∃ lq,lq=n-n'+1:=⟨_,rfl⟩;have en3:IntKind.i64.wrap ((n:Int)-(n':Int))=((n-n':Nat):Int):=by rw [i64_in Oq (by omega)]; omega
 have en4:IntKind.i64.wrap (((n-n':Nat):Int)+1)=(lq:Int):=by rw [i64_in Oq (by omega)]; omega
 obtain ⟨gq,hgq⟩:∃ gq,gq=w34.heap.size:=⟨_,rfl⟩;rw [← hgq] at h9;refine q0A fun K hK=>?_;refine Zz2 en3 en4 ?_;refine mkU (Nat.le_refl _) Oq fun w59 hx59 hO59=>?_;rw [← hgq] at hO59;rw [← hgq];replace h:=h.ext hx59;replace h9:=h9.ext hx59;replace hO:=hO.ext hx59;replace hD:=hD.kp hx59;replace hx:=hx.trans hx59;refine hK _ _ ?_; clear hK;have hXV:X < V*B ^ lq:=by
  refine Nat.lt_of_lt_of_le (m:=2 ^ s*B ^ n) ?_ ?_
  ·rw [hX,Nat.mul_comm];have h1:=q1X x;rw [hn] at h1;exact Nat.mul_lt_mul_of_pos_left h1 (q0P s)
  ·have h2:B ^ n=B ^ (n'-1)*B ^ lq:=by rw [← Nat.pow_add]; congr 1; omega
   rw [hV,h2,← Nat.mul_assoc];refine Nat.mul_le_mul_right _ ?_;rw [Nat.mul_comm y];exact Nat.mul_le_mul_left _ hyp
 have hdr0:val (us.drop lq) < V:=by
  rw [q2n hO.2,hvalU];exact Nat.div_lt_of_lt_mul (by rw [Nat.mul_comm]; exact hXV)
 have en5:((n-n':Nat):Int)=(lq:Int)-1:=by omega
 obtain ⟨Bd,hBd⟩:∃ Bd,Bd=wE.heap.size:=⟨_,rfl⟩;rw [← hBd] at hO hgu1;refine q0B fun K0 hK0=>?_;refine Wz1 en3 ?_;refine q0X ?_;refine q0a (fun e2 w2=>∃ (t:Nat) (o qs:List Nat),e2 11=.int .i64 ((t:Int)-1)∧t≤lq∧Ext w w2∧q12 w2 Bd (some ⟨gu,0,none⟩) (n+1) cu o∧q12 w2 gq (some ⟨gq,0,none⟩) lq lq qs∧In (fU vs) (Db (fun k=>w31.heap.size≤k) gq) (.slice (some ⟨gv,0,none⟩) n' cv) w2∧val o+V*val qs=X∧val (o.drop t) < V∧∀ k,k < t→qs.getD k 0=0) (fun e2 _=>(RowKit.intOf (e2 11)+1).toNat) ⟨lq,us,_,by rw [← en5]; exact Ue,Nat.le_refl _,hx,hO,hO59,h9,by rw [q1p,Nat.mul_zero,Nat.add_zero]; exact hvalU,hdr0,fun k hk=>by rw [List.getD_eq_getElem?_getD,List.getElem?_replicate]; split <;> rfl⟩ ?_;clear h9 hx hO hO59 hD hvalU hdr0;rintro e2 w2 ⟨t,o,qs,k11,htq,hx,hO,hQ,h9,hinv,hdr,hz⟩ hkk;have k0:e2 0=.slice A n c:=(hkk 0 (by kernel_rfl)).trans Ue;have k6:e2 6=.int .i64 n':=(hkk 6 (by kernel_rfl)).trans Ue;have k7:e2 7=.int .i64 (s:Nat):=(hkk 7 (by kernel_rfl)).trans Ue;have k8:e2 8=.slice (some ⟨gu,0,none⟩) (n+1:Nat) cu:=(hkk 8 (by kernel_rfl)).trans Ue;have k9:e2 9=.slice (some ⟨gv,0,none⟩) n' cv:=(hkk 9 (by kernel_rfl)).trans Ue;have k10:e2 10=.slice (some ⟨gq,0,none⟩) lq lq:=(hkk 10 (by kernel_rfl)).trans Ue;clear hkk;have hol:=hO.len;have hql:=hQ.len
 by_cases ht:0 < t
 ·obtain ⟨j,rfl⟩:∃ j,t=j+1:=⟨t-1,by omega⟩;have ej:((j+1:Nat):Int)-1=(j:Int):=by omega
  rw [ej] at k11;have c0:((j:Int) ≥ 0)=True:=eq_true Oq;refine q0B fun K1 hK1=>?_;refine Wz2 k11 c0 ?_;refine q02 Ue (fun hc1=>q0G (hK1 _ _ ?_)) (fun hc1=>by cases hc1);clear hK1;refine q0N fun K hK=>?_;have f1:IntKind.i64.wrap ((j:Int)+(n':Int))=((j+n':Nat):Int):=by rw [i64_in Oq (by omega)]; omega
  have f2:IntKind.i64.wrap (((j+n':Nat):Int)-1)=((j+(n'-1):Nat):Int):=by rw [i64_in Oq (by omega)]; omega
  have i0:(0:Int)≤((j+n':Nat):Int)∧((j+n':Nat):Int) < ((n+1:Nat):Int):=by omega
  have i2:(0:Int)≤((j+(n'-1):Nat):Int)∧((j+(n'-1):Nat):Int) < ((n+1:Nat):Int):=by omega
  have j1:(0:Int)≤((n'-1:Nat):Int)∧((n'-1:Nat):Int) < (n':Int):=by omega
  have x0:=hO.cx (j:=j+n') Oq;have x1:=hO.cx (j:=j+(n'-1)) Oq;have y1:=h9.u32.cx (j:=n'-1) Oq;have b0:=hO.2.get (j+n');have b1:=hO.2.get (j+(n'-1));have c1:=h9.u32.dg_lt (n'-1);have hdv1:dg vs (n'-1)=vs.getD (n'-1) 0:=rfl;rw [hdv1] at y1 c1;obtain ⟨lu,hlu1,hlu2⟩:∃ low,low < B ^ (n'-1)∧val ((o.drop j).take (n'+1))=low+B ^ (n'-1)*(o.getD (j+(n'-1)) 0+B*o.getD (j+n') 0):=by
   obtain ⟨low,h1,h2⟩:=top2 (l:=o.drop j) (n:=n'+1) (hO.2.drop j) Oq;refine ⟨low,h1,?_⟩;have e:∀ i,(o.drop j).getD i 0=o.getD (j+i) 0:=fun i=>by rw [List.getD_eq_getElem?_getD,List.getElem?_drop,← List.getD_eq_getElem?_getD]
   rw [h2,e,e]
   rfl
  have hVlo:vs.getD (n'-1) 0*B ^ (n'-1)≤V:=by
   have h1:=vts vs (n'-1);rw [Nat.sub_add_cancel hn1,q0K vs n' Oq,hvV] at h1;rw [h1,Nat.mul_comm]; omega
  obtain ⟨hpre,-,-⟩:=q5v hO.2 hVB hdr;obtain ⟨U,hU⟩:∃ U,U=val ((o.drop j).take (n'+1)):=⟨_,rfl⟩;rw [← hU] at hlu2 hpre;generalize hu0:o.getD (j+n') 0=u0 at *;generalize hu1:o.getD (j+(n'-1)) 0=u1 at *;generalize hv1e:vs.getD (n'-1) 0=v1 at *;obtain ⟨top,htp⟩:∃ top,top=u0*4294967296+u1:=⟨_,rfl⟩;have hBB:B=4294967296:=rfl;have qN:(u0*4294967296 % 18446744073709551616 ||| u1)=top:=by
   rw [Nat.mod_eq_of_lt Oq,Nat.or_comm,show (4294967296:Nat)=2 ^ 32 from rfl,q2H Oq,htp,Nat.add_comm]
  have htop64:top < 18446744073709551616:=by omega
  have hUhi:U < (top+1)*B ^ (n'-1):=by
   rw [hlu2,Nat.add_mul,Nat.one_mul,Nat.mul_comm];have:u1+B*u0=top:=by rw [htp,hBB]; omega
   rw [this]; omega
  have hest:=est1 hUhi hVlo Oq;obtain ⟨g0,hg0⟩:∃ g0,g0=min (top / v1) 4294967295:=⟨_,rfl⟩;have hg0lt:U < (g0+1)*V:=by
   by_cases hc:top / v1≤4294967295
   ·rw [hg0,Nat.min_eq_left hc]; exact hest
   ·rw [hg0,Nat.min_eq_right (by omega)]; exact hpre
  have hd1:top / v1 < 18446744073709551616:=Nat.lt_of_le_of_lt (Nat.div_le_self _ _) htop64;have e1:Int.tdiv (top:Int) (v1:Int)=((top / v1:Nat):Int):=rfl;have e3:IntKind.u64.wrap ((top / v1:Nat):Int)=((top / v1:Nat):Int):=u64_in Oq Oq;have e4:((v1:Int)=0)=False:=eq_false Oq;have e5:(v1=0)=False:=eq_false hv1;have em:min ((top / v1:Nat):Int) 4294967295=(g0:Int):=by rw [hg0]; omega
  refine q0B fun K2 hK2=>?_;refine qcw q0l [true,true,true,true,true,true,true,true,true,true,true,true,true,true,true,true,true,true] (by kernel_rfl) fun KE hKE=>?_;simp -implicitDefEqProofs (maxSteps:=600000) (disch:=omega) only [go_sem,Nat.reduceEqDiff,Nat.reduceAdd,↓reduceIte,k6,k8,k11,f1,f2,i0,i2,x0,x1,hu0,hu1,qN];refine hKE _ fun w3 hx3=>?_; clear hKE KE;simp only [q0o];refine hK2 _ _ ?_; clear hK2 K2;replace y1:=hx3.cell (D:=fun _=>True) trivial y1;rw [q06,Nat.zero_add] at y1;refine q0A fun K hK=>?_;refine Zz10 k6 k9 en1 j1 y1 e1 e3 e4 e5 em ?_;refine hK _ _ ?_; clear hK K;refine q7u (fun e' w'=>e' 13=.int .u64 (U / V:Nat)∧e' 10=.slice (some ⟨gq,0,none⟩) lq lq∧e' 11=.int .i64 j∧Kp (fun k=>k≠gu) w2 w'∧∃ o',q12 w' Bd (some ⟨gu,0,none⟩) (n+1) cu o'∧(∀ k,k < j∨j+n' < k→o'.getD k 0=o.getD k 0)∧val ((o'.drop j).take (n'+1))=U % V) ?_ ?_
  ·refine q0X ?_;refine q0a (fun e4 w4=>∃ gg:Nat,e4 13=.int .u64 gg∧gg < 4294967296∧U < (gg+1)*V∧Ext w2 w4) (fun e4 _=>(RowKit.intOf (e4 13)).toNat) ⟨g0,Ue,by omega,hg0lt,hx3⟩ ?_;clear y1 x0 x1 hx3;rintro e4 w4 ⟨gg,r13,hgg,hUg,hx4⟩ hkk;have r8:e4 8=.slice (some ⟨gu,0,none⟩) (n+1:Nat) cu:=(hkk 8 (by kernel_rfl)).trans Ue;have r9:e4 9=.slice (some ⟨gv,0,none⟩) n' cv:=(hkk 9 (by kernel_rfl)).trans Ue;have r10:e4 10=.slice (some ⟨gq,0,none⟩) lq lq:=(hkk 10 (by kernel_rfl)).trans Ue;have r11:e4 11=.int .i64 j:=(hkk 11 (by kernel_rfl)).trans Ue;clear hkk;refine q0B fun K2 hK2=>?_;refine q0A fun K3 hK3=>?_;refine Zz4 r8 r9 r11 r13 ?_;refine q0F ql0 (qm6 (hO.ext hx4) Oq Oq (h9.ext hx4) (fun k hk=>by have:=hk.1; omega) hn1 hgg) ?_;rw [hvV,← hU];rintro _ w5 (⟨rfl,hlt5,hx5⟩ | ⟨rfl,hle,hk5,o',hO',hun',hr'⟩)
   ·refine ⟨_,rfl,?_⟩;have hg1:0 < gg:=by
     rcases Nat.eq_zero_or_pos gg with h0 | h0
     ·subst h0; rw [Nat.zero_mul] at hlt5; omega
     ·exact h0
    have em1:IntKind.u64.wrap ((gg:Int)-1)=((gg-1:Nat):Int):=by rw [u64_in Oq (by omega)]; omega
    refine Zz ?_;refine hK3 _ _ ?_; clear hK3;refine q02 Ue (fun hc1=>q0G (hK2 _ _ ?_)) (fun hc1=>by cases hc1);clear hK2;refine q0X ?_;refine q0Q fun K9 hK9=>?_;refine Zz2 r13 em1 ?_;refine hK9 _ _ ?_; clear hK9 K9;refine ⟨⟨gg-1,Ue,by omega,by rw [Nat.sub_add_cancel hg1]; exact hlt5,hx4.trans hx5⟩,by simp only [q0E,Nat.reduceEqDiff,↓reduceIte,RowKit.intOf,r13]; omega⟩
   ·refine ⟨_,rfl,?_⟩;refine Zz ?_;refine hK3 _ _ ?_; clear hK3;refine q02 Ue (fun hc1=>by cases hc1) (fun hc1=>q04 ?_);have hdiv:U / V=gg:=by
     refine Nat.div_eq_of_lt_le hle ?_;exact hUg
    have hmod:U-gg*V=U % V:=by
     have h1:=Nat.div_add_mod U V;rw [hdiv,Nat.mul_comm] at h1;omega
    rw [hmod] at hr';exact ⟨by rw [hdiv]; exact Ue,Ue,Ue,(Kp.of_ext hx4).trans hk5,o',hO',hun',hr'⟩
  ·rintro e4 w4 ⟨r13,r10,r11,hk4,o',hO',hun',hr'⟩;have hdB:U / V < 4294967296:=Nat.div_lt_of_lt_mul (by rw [Nat.mul_comm]; exact hpre);rw [hU] at hr';have hol':=hO'.len;obtain ⟨hp1,hp2⟩:=q6d (qs:=qs) hO.2 (Nat.pos_of_ne_zero hV0) hVB Oq hdr hun' hr' Oq (hz j Oq) Oq hinv;rw [← hU] at hp1;have f6:(0:Int)≤(j:Int)∧(j:Int) < (lq:Int):=by omega
   refine q0Q fun K9 hK9=>?_;replace h9:=h9.kp (hk4.mono fun k _ hd=>by have:=hd.1; omega);replace hx:=hx.under hk4 fun k hk=>by omega
   have hQ':q12 w4 gq (some ⟨gq,0,none⟩) lq lq qs:=⟨hQ.1.kp hk4 fun a ha=>by cases ha; show gq≠gu; omega,hQ.2⟩;clear hO hQ hk4;simp -implicitDefEqProofs (disch:=omega) only [go_sem,Nat.reduceEqDiff,Nat.reduceAdd,↓reduceIte,r10,r11,r13,f6,Nat.mod_eq_of_lt hdB];refine q1q hQ' Oq hdB fun w78 hQ hk78 hs78=>?_;have hk8:Kp (fun k=>k≠gq) w4 w78:=hk78.mono fun k _ hk a ha=>by cases ha; exact fun e=>hk e.symm
   replace h9:=h9.kp (hk8.mono fun k _ hd=>by have:=hd.2; omega);replace hx:=hx.under hk8 fun k hk=>by omega
   have hO:q12 w78 Bd (some ⟨gu,0,none⟩) (n+1) cu o':=⟨hO'.1.kp hk8 fun a ha=>by cases ha; show gu≠gq; omega,hO'.2⟩;refine hK9 _ _ ?_; clear hK9;refine hK _ _ ?_; clear hK;have f7:IntKind.i64.wrap ((j:Int)-1)=(j:Int)-1:=i64_in Oq Oq;refine q0Q fun K9 hK9=>?_;refine Zz2 r11 f7 ?_;refine hK9 _ _ ?_; clear hK9 K9;refine ⟨⟨j,o',_,Ue,by omega,hx,hO,hQ,h9,hp1,hp2,fun k hk=>?_⟩,?_⟩
   ·rw [q0v (by omega)]; exact hz k Oq
   ·simp only [q0E,Nat.reduceEqDiff,↓reduceIte,RowKit.intOf,k11]; omega
 ·have ht0:t=0:=by omega
  subst ht0;have ej:((0:Nat):Int)-1 = -1:=by omega
  rw [ej] at k11;have c0:((-1:Int) ≥ 0)=False:=eq_false Oq;refine q0B fun K1 hK1=>?_;refine Wz2 k11 c0 ?_;refine q02 Ue (fun hc1=>by cases hc1) (fun hc1=>q04 (hK0 _ _ ?_));clear hK0 hK1;rw [List.drop_zero] at hdr;have eR:val o=X % V:=by
   rw [← hinv,Nat.add_mul_mod_self_left,Nat.mod_eq_of_lt hdr]
  have eQ:val qs=X / V:=by
   rw [← hinv,Nat.add_mul_div_left _ _ (Nat.pos_of_ne_zero hV0),Nat.div_eq_of_lt hdr,Nat.zero_add]
  have eR2:val o=(x % y)*2 ^ s:=by rw [eR,hX,hV,Nat.mul_mod_mul_right]
  have eQ2:val qs=x / y:=by rw [eQ,hX,hV,Nat.mul_div_mul_right _ _ (q0P s)]
  have hD:Fr D w2:=hf.grow hx.size;have hR:=hO.u32 (D:=D) fun k hk=>hf k Oq;have hS:=(hQ.u32 (D:=D) fun k hk=>hf k Oq).in;have hbR:bl ((x % y)*2 ^ s)≤30000000:=by
   have h1:(x % y)*2 ^ s≤V:=by rw [hV]; exact Nat.mul_le_mul_right _ (Nat.le_of_lt (Nat.mod_lt _ Oq))
   have:=q0d h1;omega
  refine q0A fun K hK=>?_;refine Zz1 k8 ?_;refine q0F q3B (q18 hR Oq) ?_;rintro _ w83 ⟨A83,n83,c83,rfl,hx83,hO83⟩; refine ⟨_,rfl,?_⟩;rw [eR2] at hO83;replace hS:=hS.ext hx83;replace hD:=hD.kp hx83;replace hx:=hx.trans hx83;have hl83:=hO83.len;have hs83:=hx.size;have hlR:(lim ((x % y)*2 ^ s)).length≤1000000000:=by rw [q3h]; omega
  refine Zz1 k7 ?_;refine q0F qb8 (qdf (hO83.u32 (D:=fun _=>True) fun _ _=>trivial) Oq Oq) ?_;rintro _ w85 ⟨A85,n85,c85,l85,rfl,hx85,hO85,hv85,hn85⟩; refine ⟨_,rfl,?_⟩;rw [q0I,Nat.mul_div_cancel _ (q0P s)] at hv85;replace hS:=hS.ext hx85;replace hD:=hD.kp hx85;replace hx:=hx.trans hx85;have hR85:=hO85.u32 (D:=D) fun k hk=>hf k Oq;have hl85:=hO85.len;clear hO85 hO83
  try refine Zz ?_
  refine hK _ _ ?_; clear hK;refine q0A fun K hK=>?_;refine Zz1 k10 ?_;refine q0F q3B (q18 hS.u32 Oq) ?_;rintro _ w106 ⟨A106,n106,c106,rfl,hx106,hO106⟩; refine ⟨_,rfl,?_⟩;rw [eQ2] at hO106;have hs85:=hx.size;replace hS:=hS.ext hx106;replace hR85:=hR85.ext hx106;replace hD:=hD.kp hx106;replace hx:=hx.trans hx106;have hQ106:=(hO106.u32 (D:=D) fun k hk=>hf k Oq).in;clear hO106
  try refine Zz ?_
  refine q0F q3B (q18 hR85 Oq) ?_;rintro _ w108 ⟨A108,n108,c108,rfl,hx108,hO108⟩; refine ⟨_,rfl,?_⟩;rw [hv85] at hO108;have hs106:=hx.size;replace hS:=hS.ext hx108;replace hR85:=hR85.ext hx108;replace hQ106:=hQ106.ext hx108;replace hD:=hD.kp hx108;replace hx:=hx.trans hx108;have hR108:=(hO108.u32 (D:=D) fun k hk=>hf k Oq).in;refine hK _ _ ?_; clear hK;refine q0O ?_
  try simp only [q0D,q0S]
  refine q8S rfl ⟨_,rfl,hx,⟨_,_,rfl,?_,?_⟩⟩
  ·simp only [q0E,Nat.reduceEqDiff,↓reduceIte]; exact hQ106
  ·simp only [q0E,Nat.reduceEqDiff,↓reduceIte]; exact hR108
end
open Go.ChangeShapes Go.WideShapes Go.ChangeAt Go.WideMaps Go.WideElems Go.RowKit
section
variable {H:Type} {enc:TypeId × Value→H}
def q47 {P:Program} (hl:laidOutB P=true) {W W':World} (hb:Below W.heap.size W W') :
  ∀ {ts:List TypeId} {vs:List Value} {ds:List (DataW H)} {ps:List MemPlace},(ts.all fun t=>P.readableRec t && decide (t < P.types.size))=true→DataW.TrodAll enc P W 0 (fun _=>true) true ts vs ds ps→(∀ x ∈ ps,x.block < W.heap.size)→DataW.TrodAll enc P W' 0 (fun b=>decide (b < W.heap.size)) true ts vs ds ps
 | [],[],[],_,_,h,_=>h
 | [],_ :: _,_,_,_,h,_=>h.elim
 | [],[],_ :: _,_,_,h,_=>h.elim
 | _ :: _,[],_,_,_,h,_=>h.elim
 | _ :: _,_ :: _,[],_,_,h,_=>h.elim
 | t :: ts,v :: vs,d :: ds,ps,hr,⟨p,q,h1,h2,e⟩,hlt=>by
  subst e;rw [List.all_cons,Bool.and_eq_true,Bool.and_eq_true,decide_eq_true_eq] at hr;exact ⟨p,q,Below.trod hl hr.1.1 hr.1.2 h1 hb fun x hx=>hlt x (List.mem_append_left _ hx),q47 hl hb hr.2 h2 fun x hx=>hlt x (List.mem_append_right _ hx),rfl⟩
def qno:laidOutB Tryz.prog=true:=by kernel_rfl
def qi3 {fn:Func} {s:ChangeSpec} {W W':World} {args:Array Value} {ds:List (DataW H)} {before:List MemPlace} (hv:s.vars=[]) (hW:DataW.Whole enc Tryz.prog fn.params.toList s.vars false W args.toList ds [] before)
  (hp:(fn.params.toList.all fun t=>Tryz.prog.readableRec t && decide (t < Tryz.prog.types.size))=true) (hr:fn.resultTypes=#[4]) (hs:s.fn H (ds ++ [])={ results:=[.lit (.bool true)],args:=ds }) (hx:Ext W W'):s.post enc Tryz.prog fn false true false false W args (.bool true) W':=by
 have hlt:∀ p ∈ before,p.block < W.heap.size:=fun p hp=>by simpa using hW.lt p hp
 have hW2:=hW;obtain ⟨p,q,hA,hV,rfl,hz,hn⟩:=hW2;rw [hv] at hV;obtain ⟨_,rfl⟩:=trodVars_none hV;have hb:=Kp.below hx;refine ⟨ds,[],p ++ [],[],p,[],hW,?_,?_,?_,Below.frame hb _,fun h=>by cases h⟩
 ·rw [hr,hs];exact trodAll_mk1 (shut_bool qqn _)
 ·rw [hs];exact q47 qno hb hp hA fun x hx=>hlt x (List.mem_append_left _ hx)
 ·rw [hs,hv]; rfl
end
def gTab : Tryz.prog.globalNamed "math/bits.deBruijn32tab" = some 0 := by kernel_rfl
def tTab:(Tryz.prog.globals[0]?).map (·.type)=some 241:=by kernel_rfl
def qql:Tryz.prog.underlying 241=some (.array 32 5):=by kernel_rfl
def cell5:Tryz.prog.cellsOf 5=1:=by kernel_rfl
def qnn:(Rows.laid_math_bits_deBruijn32tab:DataW Unit)=.agg (qdU.map fun n:Nat=>.lit (.int .u8 (n:Int))):=rfl
def qm7 {W : World} (h : laidMetH Tryz.prog [("math/bits.deBruijn32tab", Rows.laid_math_bits_deBruijn32tab)] W) : q2i W := by
 rw [MakeChecks.laidMetH_plain _ _ _ (by kernel_rfl)] at h;obtain ⟨ps,⟨g0,t0,cs0,f0,p0,q0,hg0,ht0,hv0,hd0,_⟩,_⟩:=h;obtain rfl:=Option.some.inj (gTab.symm.trans hg0);obtain rfl:=Option.some.inj (tTab.symm.trans ht0);obtain ⟨xs,m,_,hx,hlen,hn,hel⟩:=DataW.trod_array qql hd0;rw [qnn] at hx;simp only [Prod.mk.injEq,DataW.agg.injEq] at hx;intro k hk;have h1:=hel k hk;rw [cell5,Nat.mul_one] at h1;have hkx:k < xs.length:=by omega
 rw [List.getElem?_eq_getElem hkx] at h1;obtain ⟨n,e1,e2,_⟩:=DataW.trod_int und5 h1;have h2:(qdU.map fun n:Nat=>(DataW.lit (.int .u8 (n:Int)):DataW Unit))[k]?=some (.lit (.int .u8 n)):=by
  rw [hx.1,List.getElem?_map,List.getElem?_eq_getElem hkx,e2]; rfl
 rw [List.getElem?_map] at h2;obtain ⟨y,hy,hyn⟩:=Option.map_eq_some_iff.1 h2;have hyn':(y:Int)=n:=by injection hyn with h; injection h with h
 have h3:=World.var?_cell hg0 hv0 k;have h4:cs0.toList.drop k≠[]:=fun h0=>by rw [h0] at e1; cases e1
 have hkc:k < cs0.toList.length:=by
  rcases Nat.lt_or_ge k cs0.toList.length with h | h
  ·exact h
  ·exact absurd (List.drop_of_length_le h) h4
 rw [List.drop_eq_getElem_cons hkc,List.take_succ_cons,List.take_zero] at e1
 injection e1 with e1 _
 rw [h3,List.getD_eq_getElem?_getD,hy];have h5:cs0[k]?=some cs0.toList[k]:=by rw [← Array.getElem?_toList,List.getElem?_eq_getElem hkc]
 rw [h5,e1,← hyn']; rfl
end Go.Proofs.YtbcmhlhgljoolaaGreatDoor
namespace Go.E
open Go Go.RowKit
abbrev Kd:=Option Nat
def ksz (k:Kd):Nat:=k.getD 1
def q4n:Value→Bool | .int .u32 _=>false | _=>true
def q3F (k:Kd) (v:Value):Prop:=match k with
 | none=>v.cells=#[v]∧v.oneCell'=true∧q4n v=true
 | some n=>∃ cs:Array Value,v=.agg cs∧cs.size=n∧∀ u ∈ cs.toList,u.oneCell'=true∧q4n u=true
def q3F.size {k:Kd} {v:Value} (h:q3F k v):v.cells.size=ksz k:=by
 unfold q3F at h;cases k with
 | none=>rw [h.1]; rfl
 | some n=>obtain ⟨cs,rfl,h1,_⟩:=h; exact h1
def q3F.one {k:Kd} {v:Value} (h:q3F k v):∀ u ∈ v.cells.toList,u.oneCell'=true∧q4n u=true:=by
 unfold q3F at h;cases k with
 | none=>rw [h.1]; intro u hu; simp at hu; subst hu; exact h.2
 | some n=>obtain ⟨cs,rfl,_,h2⟩:=h; exact h2
inductive PV where
 | un
 | vl (x:Value)
 | fm (G:Fam)
 | sl (k:Kd) (l:List PV)
 | ow (id:Nat) (k:Kd) (off n:Nat)
 | pt (id i j:Nat)
 | qt (k:Kd) (x:PV)
 | ag (l:List PV)
 | tu (l:List PV)
structure Bk where
 T:TypeId
 k:Kd
 xs:List PV
 st:Bool
abbrev Hp:=Nat→Option Bk
def h0:Hp:=fun _=>none
def BSz (w:World) (g m:Nat):Prop:=∃ (cs:Array Value) (T:TypeId),Blk w g T cs∧cs.size=m
def AtO (w:World) (r:Option Nat) (A:Option Addr) (a m:Nat):Prop:=∃ g,r=some g∧A=some ⟨g,a,none⟩∧BSz w g m
mutual
def Rd (w:World) (D:Nat→Prop):PV→(Nat→Option Nat)→Hp→Value→Prop
 | .un,_,_,_=>True
 | .vl x,_,_,y=>y=x
 | .fm G,_,_,y=>In G D y w
 | .sl k l,_,_,y=>∃ A n c vs,y=.slice A n c∧Row w D (ksz k) A n c (q0h vs)∧l.length=n∧RdL w D l (fun _=>none) h0 vs∧∀ v ∈ vs,q3F k v
 | .ow id k off n,ρ,h,y=>∃ b A c,h id=some b∧b.k=k∧y=.slice A n c∧n≤c∧c≤maxLen∧off+n≤b.xs.length∧(c=0∨AtO w (ρ id) A (off*ksz k) ((off+c)*ksz k))∧(off=0→(A=none∧c=0)∨AtO w (ρ id) A (off*ksz k) ((off+c)*ksz k))
 | .pt id i j,ρ,h,y=>∃ b g,h id=some b∧ρ id=some g∧i < b.xs.length∧y=.pointer (some ⟨g,i*ksz b.k+j,none⟩)
 | .qt k x,_,_,y=>∃ ad z,y=.pointer (some ad)∧D ad.block∧Rd w D x (fun _=>none) h0 z∧(q3F k z∧0 < ksz k)∧∀ j u,z.cells.toList[j]?=some u→w.cell? (ad.add j)=some u
 | .ag l,ρ,h,y=>∃ vs,y=.agg ⟨vs⟩∧RdL w D l ρ h vs
 | .tu l,ρ,h,y=>∃ vs,y=.tuple ⟨vs⟩∧RdL w D l ρ h vs
def RdL (w:World) (D:Nat→Prop):List PV→(Nat→Option Nat)→Hp→List Value→Prop
 | [],_,_,vs=>vs=[]
 | x :: l,ρ,h,vs=>∃ y ys,vs=y :: ys∧Rd w D x ρ h y∧RdL w D l ρ h ys
end
def Cpt (w w':World) (ρ:Nat→Option Nat) (h:Hp) (ρ':Nat→Option Nat) (h':Hp):Prop :=
 ∀ i b,h i=some b→ρ' i=ρ i∧(∃ b',h' i=some b'∧b'.k=b.k∧b.xs.length≤b'.xs.length)∧∀ g m,ρ i=some g→BSz w g m→BSz w' g m
def Cpt.h0 {w w':World} {ρ ρ':Nat→Option Nat} {h':Hp}:Cpt w w' ρ h0 ρ' h':=fun _ _ h=>by cases h
section
variable {w w':World} {D D':Nat→Prop} {ρ ρ':Nat→Option Nat} {h h':Hp}
def BSz.ext {g m:Nat} (hb:BSz w g m) (hx:Ext w w'):BSz w' g m:=by
 obtain ⟨cs,T,h1,h2⟩:=hb; exact ⟨cs,T,h1.ext hx,h2⟩
def BSz.kp {g m:Nat} (hb:BSz w g m) (hx:Kp D w w') (hd:D g):BSz w' g m:=by
 obtain ⟨cs,T,h1,h2⟩:=hb; exact ⟨cs,T,h1.kp hx hd,h2⟩
mutual
def Rd.mv (hk:Kp D w w') (hd:∀ k,k < w.heap.size→D k→D' k):∀ (x:PV) (ρ:Nat→Option Nat) (h:Hp) (ρ':Nat→Option Nat) (h':Hp) (y:Value),Cpt w w' ρ h ρ' h'→Rd w D x ρ h y→Rd w' D' x ρ' h' y
 | .un,_,_,_,_,_,_,_=>by unfold Rd; trivial
 | .vl x,_,_,_,_,y,_,hr=>by unfold Rd at hr ⊢; exact hr
 | .fm G,_,_,_,_,y,_,hr=>by
  unfold Rd at hr ⊢;have h1:In G (fun k=>D k∧k < w.heap.size) y w:=hr.sub fun k hk hq=>⟨hq,hk⟩;exact (h1.kp (hk.mono fun k _ hq=>hq.1)).sub fun k _ hq=>hd k hq.2 hq.1
 | .sl k l,_,_,_,_,y,_,hr=>by
  unfold Rd at hr ⊢;obtain ⟨A,n,c,vs,h1,h2,h3,h4,h5⟩:=hr;have h6:Row w' D' (ksz k) A n c (q0h vs):=(h2.lt.kp (hk.mono fun k _ hq=>hq.1)).sub fun k _ hq=>hd k hq.2 hq.1;exact ⟨A,n,c,vs,h1,h6,h3,RdL.mv hk hd l _ _ _ _ vs Cpt.h0 h4,h5⟩
 | .ow id k off n,ρ,h,ρ',h',y,hc,hr=>by
  unfold Rd at hr ⊢;obtain ⟨b,A,c,h1,h2,h3,h4,h4b,h5,h6,h7⟩:=hr;obtain ⟨e1,⟨b',e2,e3,e4⟩,e5⟩:=hc id b h1;have mv:∀ {A:Option Addr} {a m:Nat},AtO w (ρ id) A a m→AtO w' (ρ' id) A a m:=fun ⟨g,a1,a2,a3⟩=>⟨g,e1.trans a1,a2,e5 g _ a1 a3⟩;exact ⟨b',A,c,e2,by rw [e3,h2],h3,h4,h4b,by omega,h6.imp (fun h=>h) mv,fun h0=>(h7 h0).imp (fun h=>h) mv⟩
 | .pt id i j,ρ,h,ρ',h',y,hc,hr=>by
  unfold Rd at hr ⊢;obtain ⟨b,g,h1,h2,h3,h4⟩:=hr;obtain ⟨e1,⟨b',e2,e3,e4⟩,e5⟩:=hc id b h1;exact ⟨b',g,e2,e1.trans h2,by omega,by rw [e3]; exact h4⟩
 | .qt k x,_,_,_,_,y,_,hr=>by
  unfold Rd at hr ⊢;obtain ⟨ad,z,h1,h2,h3,h4,h5⟩:=hr;refine ⟨ad,z,h1,?_,Rd.mv hk hd x _ _ _ _ z Cpt.h0 h3,h4,fun j u hu=>hk.cell (by rw [q1U]; exact h2) (h5 j u hu)⟩;cases hz:z.cells.toList[0]? with
  | none =>
   have:=q3F.size h4.1;simp at hz;rw [hz] at this;have:=h4.2;simp at *;omega
  | some u =>
   have:=World.block_lt_of_cell? w _ (h5 0 u hz);rw [q1U] at this;exact hd _ this h2
 | .ag l,ρ,h,ρ',h',y,hc,hr=>by
  unfold Rd at hr ⊢;obtain ⟨vs,h1,h2⟩:=hr;exact ⟨vs,h1,RdL.mv hk hd l _ _ _ _ vs hc h2⟩
 | .tu l,ρ,h,ρ',h',y,hc,hr=>by
  unfold Rd at hr ⊢;obtain ⟨vs,h1,h2⟩:=hr;exact ⟨vs,h1,RdL.mv hk hd l _ _ _ _ vs hc h2⟩
def RdL.mv (hk:Kp D w w') (hd:∀ k,k < w.heap.size→D k→D' k):∀ (l:List PV) (ρ:Nat→Option Nat) (h:Hp) (ρ':Nat→Option Nat) (h':Hp) (vs:List Value),Cpt w w' ρ h ρ' h'→RdL w D l ρ h vs→RdL w' D' l ρ' h' vs
 | [],_,_,_,_,vs,_,hr=>by unfold RdL at hr ⊢; exact hr
 | x :: l,ρ,h,ρ',h',vs,hc,hr=>by
  unfold RdL at hr ⊢;obtain ⟨y,ys,h1,h2,h3⟩:=hr;exact ⟨y,ys,h1,Rd.mv hk hd x _ _ _ _ y hc h2,RdL.mv hk hd l _ _ _ _ ys hc h3⟩
end
end
section
variable {w w':World} {D D':Nat→Prop} {ρ ρ':Nat→Option Nat} {h h':Hp} {l m:List PV} {vs us:List Value}
def RdL.iff:∀ {l:List PV} {vs:List Value},RdL w D l ρ h vs ↔ l.length=vs.length∧∀ (i:Nat) (x:PV) (v:Value),l[i]?=some x→vs[i]?=some v→Rd w D x ρ h v
 | [],vs=>by
  unfold RdL
  constructor
  ·rintro rfl; exact ⟨rfl,fun i x v hx=>by simp at hx⟩
  ·rintro ⟨h1,_⟩; exact List.eq_nil_of_length_eq_zero h1.symm
 | x :: l,vs=>by
  unfold RdL
  constructor
  ·rintro ⟨y,ys,rfl,h1,h2⟩;obtain ⟨h3,h4⟩:=RdL.iff.1 h2;refine ⟨by simp [h3],fun i z v hz hv=>?_⟩;cases i with
   | zero=>simp at hz hv; subst hz; subst hv; exact h1
   | succ i=>exact h4 i z v (by simpa using hz) (by simpa using hv)
  ·rintro ⟨h1,h2⟩;cases vs with
   | nil=>simp at h1
   | cons y ys=>exact ⟨y,ys,rfl,h2 0 x y rfl rfl,RdL.iff.2 ⟨by simpa using h1,fun i z v hz hv=>h2 (i+1) z v (by simpa using hz) (by simpa using hv)⟩⟩
def RdL.len (hl:RdL w D l ρ h vs):vs.length=l.length:=(RdL.iff.1 hl).1.symm
def RdL.get (hl:RdL w D l ρ h vs) {i:Nat} {x:PV} (hx:l[i]?=some x):∃ v,vs[i]?=some v∧Rd w D x ρ h v:=by
 obtain ⟨h1,h2⟩:=RdL.iff.1 hl;have hlt:=(List.getElem?_eq_some_iff.1 hx).1;have hv:vs[i]?=some vs[i]:=List.getElem?_eq_getElem Oq;exact ⟨_,hv,h2 i x _ hx hv⟩
def RdL.take (hl:RdL w D l ρ h vs) (n:Nat):RdL w D (l.take n) ρ h (vs.take n):=by
 obtain ⟨h1,h2⟩:=RdL.iff.1 hl;refine RdL.iff.2 ⟨by simp [h1],fun i x v hx hv=>?_⟩;rw [List.getElem?_take] at hx hv
 split at hx
 ·rw [if_pos ‹_›] at hv; exact h2 i x v hx hv
 ·cases hx
def RdL.drop (hl:RdL w D l ρ h vs) (n:Nat):RdL w D (l.drop n) ρ h (vs.drop n):=by
 obtain ⟨h1,h2⟩:=RdL.iff.1 hl;refine RdL.iff.2 ⟨by simp [h1],fun i x v hx hv=>?_⟩;rw [List.getElem?_drop] at hx hv;exact h2 _ x v hx hv
def RdL.app (hl:RdL w D l ρ h vs) (hm:RdL w D m ρ h us):RdL w D (l ++ m) ρ h (vs ++ us):=by
 obtain ⟨h1,h2⟩:=RdL.iff.1 hl;obtain ⟨h3,h4⟩:=RdL.iff.1 hm;refine RdL.iff.2 ⟨by simp [h1,h3],fun i x v hx hv=>?_⟩;rw [List.getElem?_append] at hx hv
 split at hx
 ·rw [if_pos (by omega)] at hv; exact h2 i x v hx hv
 ·rw [if_neg (by omega),← h1] at hv; exact h4 _ x v hx hv
def RdL.set (hl:RdL w D l ρ h vs) {x:PV} {v:Value} (hx:Rd w D x ρ h v) (i:Nat):RdL w D (l.set i x) ρ h (vs.set i v):=by
 obtain ⟨h1,h2⟩:=RdL.iff.1 hl;refine RdL.iff.2 ⟨by simp [h1],fun j y u hy hu=>?_⟩;rw [List.getElem?_set] at hy hu
 split at hy
 ·rename_i hij;rw [if_pos hij] at hu
  split at hy
  ·split at hu
   ·cases hy; cases hu; exact hx
   ·cases hu
  ·cases hy
 ·rename_i hij;rw [if_neg hij] at hu;exact h2 j y u hy hu
def RdL.one {x:PV} {v:Value} (hx:Rd w D x ρ h v):RdL w D [x] ρ h [v]:=by unfold RdL; exact ⟨v,[],rfl,hx,by unfold RdL; rfl⟩
def q6K {vs:List Value} {sz:Nat} (hv:∀ v ∈ vs,v.cells.size=sz) (n:Nat):q0h (vs.take n)=(q0h vs).take (n*sz):=by
 induction vs generalizing n with
 | nil=>simp [q0h]
 | cons u vs ih =>
  cases n with
  | zero=>simp [q0h]
  | succ n =>
   have h1:=hv u List.mem_cons_self;have:=ih (fun x hx=>hv x (List.mem_cons_of_mem _ hx)) n;unfold q0h at *;have hu:u.cells.toList.length=sz:=by rw [Array.length_toList,h1]
   have e1:(n+1)*sz=n*sz+sz:=Nat.succ_mul _ _;rw [List.take_succ_cons,List.flatMap_cons,List.flatMap_cons,this,List.take_append,hu,e1,Nat.add_sub_cancel,List.take_of_length_le (l:=u.cells.toList) (by omega)]
def q6L {vs:List Value} {sz:Nat} (hv:∀ v ∈ vs,v.cells.size=sz) (n:Nat):q0h (vs.drop n)=(q0h vs).drop (n*sz):=by
 induction vs generalizing n with
 | nil=>simp [q0h]
 | cons u vs ih =>
  cases n with
  | zero=>simp [q0h]
  | succ n =>
   have h1:=hv u List.mem_cons_self;have:=ih (fun x hx=>hv x (List.mem_cons_of_mem _ hx)) n;unfold q0h at *;have hu:u.cells.toList.length=sz:=by rw [Array.length_toList,h1]
   have e1:(n+1)*sz=n*sz+sz:=Nat.succ_mul _ _;rw [List.drop_succ_cons,List.flatMap_cons,this,List.drop_append,hu,e1,Nat.add_sub_cancel,List.drop_of_length_le (l:=u.cells.toList) (by omega),List.nil_append]
def q1K {vs:List Value} {sz:Nat} (hv:∀ v ∈ vs,v.cells.size=sz):(q0h vs).length=vs.length*sz:=by
 induction vs with
 | nil=>simp [q0h]
 | cons v vs ih =>
  have:=ih fun u hu=>hv u (List.mem_cons_of_mem _ hu);have h1:=hv v List.mem_cons_self;unfold q0h at *;rw [List.flatMap_cons,List.length_append,this,List.length_cons,Nat.succ_mul,Array.length_toList,h1]; omega
def q5d (vs us:List Value):q0h (vs ++ us)=q0h vs ++ q0h us:=by simp [q0h]
def qjQ {vs:List Value} {sz:Nat} (hv:∀ v ∈ vs,v.cells.size=sz) {i:Nat} {u:Value} (hu:u.cells.size=sz) (hi:i < vs.length):q0h (vs.set i u)=(q0h vs).take (i*sz) ++ u.cells.toList ++ (q0h vs).drop ((i+1)*sz):=by
 rw [List.set_eq_take_append_cons_drop,if_pos hi,← q6K hv,← q6L hv,q5d];simp [q0h]
end
def upo {α:Type} (f:Nat→α) (d:Nat) (x:α):Nat→α:=fun i=>if i=d then x else f i
def q07 (h:Hp) (i:Nat) (b:Bk):Hp:=fun j=>if j=i then some b else h j
def pu (s:Nat→PV) (i:Nat) (x:PV):Nat→PV:=fun j=>if j=i then x else s j
def q36 (s:Nat→PV):Option Nat→PV→Nat→PV
 | some d,x=>pu s d x
 | none,_=>s
def dm (D0:Nat→Prop) (ρ:Nat→Option Nat) (h:Hp):Nat→Prop:=fun k=>D0 k∧∀ i b,h i=some b→ρ i≠some k
def qmI (w:World) (D:Nat→Prop) (ρ:Nat→Option Nat) (h:Hp) (g:Nat) (b:Bk):Prop :=
 ∃ cs,Blk w g b.T cs∧(∀ u ∈ cs.toList,q4n u=true)∧(b.st=false→∃ vs,cs.toList.take (b.xs.length*ksz b.k)=q0h vs∧RdL w D b.xs ρ h vs∧∀ v ∈ vs,q3F b.k v)
structure Base where
 w:World
 F:Nat→Prop
 I:Nat→TypeId→Nat→Prop
 J:Nat→Option Nat→Prop
 lt:∀ k,F k→k < w.heap.size
 lo:∀ i r,J i r→5000≤i∧i < 1000000
structure Sat (D0:Nat→Prop) (w0:Base) (s:Nat→PV) (h:Hp) (ρ:Nat→Option Nat) (e:Env) (w:World):Prop where
 inj:∀ i j b c g,h i=some b→h j=some c→c.st=false→ρ i=some g→ρ j=some g→i=j∨b.st=true
 own:∀ i b g,h i=some b→ρ i=some g→(¬ w0.F g∧D0 g)∧qmI w (dm D0 ρ h) ρ h g b
 vir:∀ i b,h i=some b→ρ i=none→b.xs=[]
 rd:∀ t,Rd w (dm D0 ρ h) (s t) ρ h (e t)
 ext:Kp w0.F w0.w w
 fr:Fr D0 w0.w
 imp:∀ g T m,w0.I g T m→∃ cs,Blk w g T cs∧cs.size=m∧∀ u ∈ cs.toList,q4n u=true
 pin:∀ i r,w0.J i r→ρ i=r
section
variable {w w':World} {w0:Base} {D D' D0:Nat→Prop} {ρ ρ':Nat→Option Nat} {h h':Hp} {s:Nat→PV} {e:Env} {g:Nat} {b:Bk}
def q13 {α:Type} {f:Nat→α} {d:Nat} {x:α}:upo f d x d=x:=by simp [upo]
def q1H {α:Type} {f:Nat→α} {d i:Nat} {x:α} (hi:i≠d):upo f d x i=f i:=by simp [upo,hi]
def q0V {i:Nat}:q07 h i b i=some b:=by simp [q07]
def q0M {i j:Nat} (hj:j≠i):q07 h i b j=h j:=by simp [q07,hj]
def qmI.mv (hb:qmI w D ρ h g b) (hg:w'.heap[g]?=w.heap[g]?) (hk:Kp D w w') (hd:∀ k,k < w.heap.size→D k→D' k) (hc:Cpt w w' ρ h ρ' h'):qmI w' D' ρ' h' g b:=by
 obtain ⟨cs,h1,h2,h3⟩:=hb;refine ⟨cs,hg.trans h1,h2,fun hs=>?_⟩;obtain ⟨vs,h4,h5,h6⟩:=h3 hs;exact ⟨vs,h4,RdL.mv hk hd _ _ _ _ _ _ hc h5,h6⟩
def qmI.lt (hb:qmI w D ρ h g b):g < w.heap.size:=by obtain ⟨cs,h1,_⟩:=hb; exact h1.lt
def Sat.put (S:Sat D0 w0 s h ρ e w) {x:PV} {y:Value} (d:Nat) (hx:Rd w (dm D0 ρ h) x ρ h y):Sat D0 w0 (pu s d x) h ρ (upd e d y) w :=
 ⟨S.inj,S.own,S.vir,fun t=>by
  unfold pu upd
  split
  ·exact hx
  ·exact S.rd t,S.ext,S.fr,S.imp,S.pin⟩
def Sat.puto (S:Sat D0 w0 s h ρ e w) {x:PV} {y:Value} (d:Option Nat) (hx:Rd w (dm D0 ρ h) x ρ h y):Sat D0 w0 (q36 s d x) h ρ (E.put e d y) w:=by
 cases d with
 | none=>exact S
 | some d=>exact S.put d hx
def Sat.impx (S:Sat D0 w0 s h ρ e w) (hx:Ext w w'):∀ g T m,w0.I g T m→∃ cs,Blk w' g T cs∧cs.size=m∧∀ u ∈ cs.toList,q4n u=true:=fun g T m hi=>by
 obtain ⟨cs,h1,h2⟩:=S.imp g T m hi;exact ⟨cs,h1.ext hx,h2⟩
def Sat.pino (S:Sat D0 w0 s h ρ e w) {d:Nat} (hd:d < 5000) {r:Option Nat}:∀ i r',w0.J i r'→upo ρ d r i=r':=fun i g hj=>by
 rw [q1H (by have:=w0.lo i g hj; omega)]; exact S.pin i g hj
def Cpt.ext (hx:Ext w w'):Cpt w w' ρ h ρ h:=fun i b hi=>⟨rfl,⟨b,hi,rfl,Nat.le_refl _⟩,fun g m _ hb=>hb.ext hx⟩
def Sat.extend (S:Sat D0 w0 s h ρ e w) (hx:Ext w w'):Sat D0 w0 s h ρ e w' :=
 ⟨S.inj,fun i b g h1 h2=>by
  obtain ⟨a1,a2⟩:=S.own i b g h1 h2;exact ⟨a1,a2.mv (hx.block g a2.lt trivial) (Kp.of_ext hx) (fun _ _ h=>h) (Cpt.ext hx)⟩,S.vir,fun t=>Rd.mv (Kp.of_ext hx) (fun _ _ h=>h) _ _ _ _ _ _ (Cpt.ext hx) (S.rd t),S.ext.trans (Kp.of_ext hx),S.fr,S.impx hx,S.pin⟩
def Sat.alloc (S:Sat D0 w0 s h ρ e w) {d:Nat} (hd:h d=none) (hd5:d < 5000) (hx:Ext w w') (hg:w.heap.size≤g) {cs:Array Value} (hb:Blk w' g b.T cs) (hn:∀ u ∈ cs.toList,q4n u=true) (hst:b.st=false)
  {vs:List Value} (h1:cs.toList.take (b.xs.length*ksz b.k)=q0h vs) (h2:RdL w (dm D0 ρ h) b.xs ρ h vs) (h3:∀ v ∈ vs,q3F b.k v) :
  Sat D0 w0 s (q07 h d b) (upo ρ d (some g)) e w'∧(∀ k,k < w.heap.size→dm D0 ρ h k→dm D0 (upo ρ d (some g)) (q07 h d b) k)∧Cpt w w' ρ h (upo ρ d (some g)) (q07 h d b):=by
 have hne:∀ i c,h i=some c→i≠d:=fun i c hi e=>by subst e; rw [hd] at hi; cases hi
 have hc:Cpt w w' ρ h (upo ρ d (some g)) (q07 h d b):=fun i c hi=>⟨q1H (hne i c hi),⟨c,by rw [q0M (hne i c hi)]; exact hi,rfl,Nat.le_refl _⟩,fun _ _ _ hb=>hb.ext hx⟩;have hdd:∀ k,k < w.heap.size→dm D0 ρ h k→dm D0 (upo ρ d (some g)) (q07 h d b) k:=fun k hk hq=>⟨hq.1,fun i c hi=>by
  by_cases hi':i=d
  ·subst hi'; rw [q13]; intro e; cases e; omega
  ·rw [q0M hi'] at hi; rw [q1H hi']; exact hq.2 i c hi⟩
 have hk:Kp (dm D0 ρ h) w w':=Kp.of_ext hx;refine ⟨⟨fun i j c c' g' hi hj hs ri rj=>?_,fun i c g' hi ri=>?_,fun i c hi ri=>?_,fun t=>Rd.mv hk hdd _ _ _ _ _ _ hc (S.rd t),S.ext.trans (Kp.of_ext hx),S.fr,S.impx hx,S.pino hd5⟩,hdd,hc⟩
 ·have hold:∀ i c,h i=some c→ρ i=some g→False:=fun i c hi ri=>by
   have:=(S.own i c g hi ri).2.lt; omega
  by_cases hi':i=d <;> by_cases hj':j=d
  ·exact .inl (hi'.trans hj'.symm)
  ·subst hi';rw [q13] at ri; cases ri;rw [q0M hj'] at hj; rw [q1H hj'] at rj;exact (hold j _ hj rj).elim
  ·subst hj';rw [q13] at rj; cases rj;rw [q0M hi'] at hi; rw [q1H hi'] at ri;exact (hold i _ hi ri).elim
  ·rw [q0M hi'] at hi; rw [q1H hi'] at ri;rw [q0M hj'] at hj; rw [q1H hj'] at rj;exact S.inj i j c c' g' hi hj hs ri rj
 ·by_cases hi':i=d
  ·subst hi';rw [q13] at ri; cases ri;rw [q0V] at hi; cases hi;exact ⟨⟨fun hF=>by have:=w0.lt g hF; have:=S.ext.size; omega,S.fr g (Nat.le_trans S.ext.size hg)⟩,cs,hb,hn,fun _=>⟨vs,h1,RdL.mv hk hdd _ _ _ _ _ _ hc h2,h3⟩⟩
  ·rw [q0M hi'] at hi; rw [q1H hi'] at ri;obtain ⟨a1,a2⟩:=S.own i c g' hi ri;exact ⟨a1,a2.mv (hx.block g' a2.lt trivial) hk hdd hc⟩
 ·by_cases hi':i=d
  ·subst hi'; rw [q13] at ri; cases ri
  ·rw [q0M hi'] at hi; rw [q1H hi'] at ri; exact S.vir i c hi ri
def Sat.virt (S:Sat D0 w0 s h ρ e w) {d:Nat} (hd:h d=none) (hd5:d < 5000) (hxs:b.xs=[]) :
  Sat D0 w0 s (q07 h d b) (upo ρ d none) e w∧(∀ k,dm D0 ρ h k→dm D0 (upo ρ d none) (q07 h d b) k)∧Cpt w w ρ h (upo ρ d none) (q07 h d b):=by
 have hne:∀ i c,h i=some c→i≠d:=fun i c hi e=>by subst e; rw [hd] at hi; cases hi
 have hc:Cpt w w ρ h (upo ρ d none) (q07 h d b):=fun i c hi=>⟨q1H (hne i c hi),⟨c,by rw [q0M (hne i c hi)]; exact hi,rfl,Nat.le_refl _⟩,fun _ _ _ hb=>hb⟩;have hdd:∀ k,dm D0 ρ h k→dm D0 (upo ρ d none) (q07 h d b) k:=fun k hq=>⟨hq.1,fun i c hi=>by
  by_cases hi':i=d
  ·subst hi'; rw [q13]; intro e; cases e
  ·rw [q0M hi'] at hi; rw [q1H hi']; exact hq.2 i c hi⟩
 have hk:Kp (dm D0 ρ h) w w:=Kp.refl _ _;refine ⟨⟨fun i j c c' g' hi hj hs ri rj=>?_,fun i c g' hi ri=>?_,fun i c hi ri=>?_,fun t=>Rd.mv hk (fun k _=>hdd k) _ _ _ _ _ _ hc (S.rd t),S.ext,S.fr,S.imp,S.pino hd5⟩,hdd,hc⟩
 ·have hi':i≠d:=fun e=>by subst e; rw [q13] at ri; cases ri
  have hj':j≠d:=fun e=>by subst e; rw [q13] at rj; cases rj
  rw [q0M hi'] at hi; rw [q1H hi'] at ri;rw [q0M hj'] at hj; rw [q1H hj'] at rj;exact S.inj i j c c' g' hi hj hs ri rj
 ·have hi':i≠d:=fun e=>by subst e; rw [q13] at ri; cases ri
  rw [q0M hi'] at hi; rw [q1H hi'] at ri;obtain ⟨a1,a2⟩:=S.own i c g' hi ri;exact ⟨a1,a2.mv rfl hk (fun k _=>hdd k) hc⟩
 ·by_cases hi':i=d
  ·subst hi'; rw [q0V] at hi; cases hi; exact hxs
  ·rw [q0M hi'] at hi; rw [q1H hi'] at ri; exact S.vir i c hi ri
def Sat.write (S:Sat D0 w0 s h ρ e w) {id:Nat} {b':Bk} (hi:h id=some b) (hr:ρ id=some g) (hst:b.st=false) (hk:Kp (fun k=>k≠g) w w') {cs cs':Array Value} (hb0:Blk w g b.T cs) (hsz:cs'.size=cs.size) (hb:Blk w' g b.T cs')
  (hn:∀ u ∈ cs'.toList,q4n u=true) (hT:b'.T=b.T) (hkk:b'.k=b.k) (hs':b'.st=false) (hl:b.xs.length≤b'.xs.length)
  {vs:List Value} (h1:cs'.toList.take (b'.xs.length*ksz b.k)=q0h vs) (h2:RdL w (dm D0 ρ h) b'.xs ρ h vs) (h3:∀ v ∈ vs,q3F b.k v) :
  Sat D0 w0 s (q07 h id b') ρ e w'∧(∀ k,dm D0 ρ h k→dm D0 ρ (q07 h id b') k)∧Cpt w w' ρ h ρ (q07 h id b'):=by
 have hbs:∀ g' m,BSz w g' m→BSz w' g' m:=fun g' m hq=>by
  by_cases hg:g'=g
  ·subst hg;obtain ⟨c,T,q1,q2⟩:=hq;have:c=cs:=by unfold Blk at q1 hb0; rw [hb0] at q1; cases q1; rfl
   subst this;exact ⟨cs',_,hb,by omega⟩
  ·exact hq.kp hk hg
 have hc:Cpt w w' ρ h ρ (q07 h id b'):=fun i c hc=>⟨rfl,by
  by_cases he:i=id
  ·subst he; rw [hi] at hc; cases hc;exact ⟨b',q0V,hkk,hl⟩
  ·exact ⟨c,by rw [q0M he]; exact hc,rfl,Nat.le_refl _⟩,fun g m _ hb=>hbs g m hb⟩
 have hdd:∀ k,dm D0 ρ h k→dm D0 ρ (q07 h id b') k:=fun k hq=>⟨hq.1,fun i c hc=>by
  by_cases he:i=id
  ·subst he; exact hq.2 i b hi
  ·rw [q0M he] at hc; exact hq.2 i c hc⟩
 have hkd:Kp (dm D0 ρ h) w w':=hk.mono fun k _ hq e=>hq.2 id b hi (by rw [hr,e]);have hge:=(S.own id b g hi hr).1;refine ⟨⟨fun i j c c' g' ci cj hs ri rj=>?_,fun i c g' ci ri=>?_,fun i c ci ri=>?_,fun t=>Rd.mv hkd (fun k _=>hdd k) _ _ _ _ _ _ hc (S.rd t),S.ext.trans (hk.mono fun k _ hF e=>hge.1 (e ▸ hF)),S.fr,fun g' T m hi=>by
  obtain ⟨c,q1,q2,q3⟩:=S.imp g' T m hi
  by_cases hg:g'=g
  ·subst hg;have h5:=q1.symm.trans hb0
   injection h5 with h5
   injection h5 with h5 h6
   subst h5;subst h6;exact ⟨cs',hb,by omega,hn⟩
  ·exact ⟨c,q1.kp hk hg,q2,q3⟩,S.pin⟩,hdd,hc⟩
 ·by_cases ei:i=id <;> by_cases ej:j=id
  ·exact .inl (ei.trans ej.symm)
  ·subst ei;rw [q0M ej] at cj;have:=S.inj j i c' b g' cj hi hst rj ri
   rcases this with h | h
   ·exact .inl h.symm
   ·rw [hs] at h; cases h
  ·subst ej;rw [q0M ei] at ci;exact S.inj i j c b g' ci hi hst ri rj
  ·rw [q0M ei] at ci; rw [q0M ej] at cj;exact S.inj i j c c' g' ci cj hs ri rj
 ·by_cases ei:i=id
  ·subst ei;rw [q0V] at ci; cases ci;rw [hr] at ri; cases ri;refine ⟨hge,cs',by rw [hT]; exact hb,hn,fun _=>⟨vs,by rw [hkk]; exact h1,RdL.mv hkd (fun k _=>hdd k) _ _ _ _ _ _ hc h2,by rw [hkk]; exact h3⟩⟩
  ·rw [q0M ei] at ci;obtain ⟨a1,a2⟩:=S.own i c g' ci ri
   by_cases eg:g'=g
   ·subst eg;have hs:=S.inj i id c b g' ci hi hst ri hr
    rcases hs with h | h
    ·exact absurd h ei
    ·obtain ⟨c1,c2,c3,_⟩:=a2;have:c.T=b.T:=by
      have h5:=hb0.symm.trans c2
      injection h5 with h5
      injection h5 with h5 h6
      exact h6.symm
     exact ⟨a1,cs',by rw [this]; exact hb,hn,fun hf=>by rw [h] at hf; cases hf⟩
   ·exact ⟨a1,a2.mv (hk.block g' a2.lt eg) hkd (fun k _=>hdd k) hc⟩
 ·by_cases ei:i=id
  ·subst ei; rw [hr] at ri; cases ri
  ·rw [q0M ei] at ci; exact S.vir i c ci ri
end
def pe (s:Nat→PV):Operand→PV
 | .tmp t=>s t
 | .const v=>.vl v
 | .global g=>.vl (.pointer (some ⟨g,0,none⟩))
 | .func f=>.vl (.func (.func f) #[] #[])
def qn6 (v:Value):Prop:=v.oneCell'=true∧q4n v=true
def qfe:PV→Prop
 | .vl x=>qn6 x
 | .fm G=>∀ D v w,In G D v w→q3F none v
 | .sl _ _ | .ow _ _ _ _ | .pt _ _ _ | .qt _ _=>True
 | _=>False
def q7a:Kd→PV→Prop
 | none,x=>qfe x
 | some n,.ag l=>l.length=n∧∀ x ∈ l,qfe x
 | some n,.fm G=>∀ D v w,In G D v w→q3F (some n) v
 | some _,_=>False
def q3E (P:Program) (t:TypeId) (f:Nat):Option (Nat × Kd) :=
 match P.underlying t with
 | some (.struct fs)=>match fs[f]? with
  | some d=>match q0b P t f,q0f P d.type with | some off,some k=>some (off,k) | _,_=>none
  | none=>none
 | _=>none
def ldU (bk k:Kd) (j:Nat) (u:PV):Option PV :=
 if bk=k∧j=0 then some u else
  match bk,k,u with
  | some _,none,.ag l=>l[j]?
  | some _,some m,.ag l=>if j+m≤l.length then some (.ag ((l.drop j).take m)) else none
  | _,_,_=>none
def qqU (P:Program) (t:TypeId) (f:Nat):PV→Option PV
 | .pt id i j=>(q3E P t f).map fun r=>.pt id i (j+r.1)
 | .qt (some _) (.ag l)=>(q3E P t f).bind fun r=>match r.2 with
  | none=>(l[r.1]?).map (.qt none)
  | some m=>if r.1+m≤l.length∧0 < m then some (.qt (some m) (.ag ((l.drop r.1).take m))) else none
 | _=>none
def qbG (sz:Option Nat):PV→PV→Option PV
 | .sl k l,.vl (.int _ z)=>if sz=some (ksz k)∧0 < ksz k∧0≤z then (l[z.toNat]?).map (.qt k) else none
 | .ow id k off n,.vl (.int _ z)=>if sz=some (ksz k)∧0≤z∧z < n then some (.pt id (off+z.toNat) 0) else none
 | _,_=>none
def qcv (d:Nat):Option PV→Option Nat
 | none=>some d
 | some (.vl (.int _ z))=>if 0≤z then some z.toNat else none
 | _=>none
def slP (sz:Option Nat) (lo hi:Option PV):PV→Option PV
 | .sl k l=>(qcv l.length hi).bind fun b=>(qcv 0 lo).bind fun a=>if sz=some (ksz k)∧a≤b∧b≤l.length then some (.sl k ((l.take b).drop a)) else none
 | .ow id k off n=>(qcv n hi).bind fun b=>(qcv 0 lo).bind fun a=>if sz=some (ksz k)∧a≤b∧b≤n then some (.ow id k (off+a) (b-a)) else none
 | _=>none
def qqR (sz:Option Nat):PV→Option PV
 | .sl _ l=>sz.map fun _=>.vl (.int .i64 l.length)
 | .ow _ _ _ n=>sz.map fun _=>.vl (.int .i64 n)
 | .vl x=>(qsr sz x).map .vl
 | _=>none
def val?:PV→Option Value | .vl x=>some x | _=>none
def qdI:List PV→Option (List Value)
 | []=>some []
 | x :: l=>match x,qdI l with | .vl a,some r=>some (a :: r) | _,_=>none
def pkP (c a b:PV):Option PV:=match c with | .vl (.bool true)=>some a | .vl (.bool false)=>some b | _=>none
def bnP (P:Program) (op:BinOp) (t:TypeId):PV→PV→Option PV
 | .vl a,.vl b=>(q0z P op t a b).map .vl
 | _,_=>none
def unP (op:UnOp):PV→Option PV | .vl a=>(unV op a).map .vl | _=>none
def cvP (s d:Option TypeDesc):PV→Option PV | .vl a=>(qcb s d a).map .vl | _=>none
def exP (i:Nat):PV→Option PV | .tu l=>l[i]? | _=>none
def nlP:PV→Option PV | .pt id i j=>some (.pt id i j) | .qt k x=>some (.qt k x) | _=>none
def mmP (b:Bool) (l:List PV):Option PV:=(qdI l).bind fun r=>(mmV b r).map .vl
def fFun (f:FuncId) (z:Int):Fam:=⟨fun D v w=>∃ ad,v=.func (.func f) #[] #[.pointer (some ad)]∧D ad.block∧w.cell? ad=some (.int .i64 z),fun k ⟨ad,h1,h2,h3⟩=>⟨ad,h1,h2,k.cell h2 h3⟩,fun {_ _ w _} k ⟨ad,h1,h2,h3⟩=>⟨ad,h1,k _ (World.block_lt_of_cell? w _ h3) h2,h3⟩⟩
def fnP (fn:Fn) (first:Array Operand):List PV→Option PV
 | [.qt none (.vl (.int .i64 z))]=>match fn with | .func f=>if first.isEmpty then some (.fm (fFun f z)) else none | _=>none
 | _=>none
def flP (pl:List (Nat × Nat)):List PV→List (Nat × PV)→Option (List PV)
 | cs,[]=>some cs
 | cs,(i,x) :: r=>match pl[i]? with
  | some (off,1)=>match x with
   | .vl y=>if y.oneCell'=true∧off < cs.length then flP pl (cs.set off (.vl y)) r else none
   | .sl k l=>if off < cs.length then flP pl (cs.set off (.sl k l)) r else none
   | .ow id k a n=>if off < cs.length then flP pl (cs.set off (.ow id k a n)) r else none
   | .pt id a n=>if off < cs.length then flP pl (cs.set off (.pt id a n)) r else none
   | _=>none
  | some (off,m)=>match x with
   | .ag l=>if l.length=m∧off+m≤cs.length then flP pl (cs.take off ++ l ++ cs.drop (off+m)) r else none
   | _=>none
  | none=>none
def plc (P:Program) (t:TypeId):Option (List (Nat × Nat) × List Value) :=
 match P.info? t,P.underlying t with
 | some it,some (.struct fields) =>
  match it.zero,fields.toList.mapM (fun f=>(P.info? f.type).map fun i=>(f.offset,i.size)) with
  | some z,some places=>some (places,z.cells.toList)
  | _,_=>none
 | _,_=>none
def blP (P:Program) (t:TypeId) (ps:List (Nat × PV)):Option PV:=(plc P t).bind fun r=>(flP r.1 (r.2.map .vl) ps).map .ag
def q5J (P:Program) (o:Op) (e:Operand→PV):Option PV :=
 match o with
 | .move x=>some (e x)
 | .assign x=>some (e x)
 | .pick c a b=>pkP (e c) (e a) (e b)
 | .binOp op t x y _=>bnP P op t (e x) (e y)
 | .unOp op _ x=>unP op (e x)
 | .convert s d x=>cvP (P.underlying s) (P.underlying d) (e x)
 | .fieldAddr t x f=>qqU P t f (e x)
 | .extract x i=>exP i (e x)
 | .nilCheck x=>nlP (e x)
 | .indexAddr t x i=>qbG (q0n P t) (e x) (e i)
 | .slice t x lo hi mx=>match mx with | none=>slP (q0n P t) (lo.map e) (hi.map e) (e x) | some _=>none
 | .build t ps=>blP P t (ps.toList.map fun p=>(p.1,e p.2))
 | .makeFunc fn first cap=>fnP fn first (cap.toList.map e)
 | .call c=>match c.callee with
  | .builtin .len=>match c.args.toList,c.argTypes.toList with
   | [x],[t]=>qqR (q0n P t) (e x)
   | _,_=>none
  | .builtin .max=>mmP true (c.args.toList.map e)
  | .builtin .min=>mmP false (c.args.toList.map e)
  | _=>none
 | _=>none
section
variable {w:World} {w0:Base} {D D0:Nat→Prop} {ρ:Nat→Option Nat} {h:Hp} {s:Nat→PV} {e:Env} {P:Program}
def Sat.pex (S:Sat D0 w0 s h ρ e w) (x:Operand):Rd w (dm D0 ρ h) (pe s x) ρ h (ev e x):=by
 cases x <;> simp only [E.pe,ev]
 case tmp t=>exact S.rd t
 all_goals (unfold Rd; rfl)
def q3F.cell {n:Nat} {cs:List Value} (hf:q3F (some n) (.agg ⟨cs⟩)) {j:Nat} {u:Value} (hu:cs[j]?=some u):q3F none u:=by
 obtain ⟨c,h1,h2,h3⟩:=hf;cases h1;have:=h3 u (by simpa using List.mem_of_getElem? hu);refine ⟨?_,this.1,this.2⟩;obtain ⟨h4,_⟩:=this;cases u <;> first | rfl | cases h4
def q2J {u:Value} (h:u.oneCell'=true):u.cells=#[u]:=by cases u <;> first | rfl | cases h
def q3F.part {n j m:Nat} {cs:List Value} (hf:q3F (some n) (.agg ⟨cs⟩)) (hj:j+m≤cs.length):q3F (some m) (.agg ⟨(cs.drop j).take m⟩):=by
 obtain ⟨c,h1,h2,h3⟩:=hf;cases h1;refine ⟨_,rfl,by simp; omega,fun u hu=>h3 u ?_⟩;simp only at hu;exact List.mem_of_mem_drop (List.mem_of_mem_take hu)
def qkx {bk k:Kd} {j:Nat} {u x:PV} {y:Value} (hl:ldU bk k j u=some x) (hr:Rd w D u ρ h y) (hf:q3F bk y) (hk:0 < ksz k):∃ z,Rd w D x ρ h z∧q3F k z∧∀ i v,z.cells.toList[i]?=some v→y.cells.toList[j+i]?=some v:=by
 unfold ldU at hl
 split at hl
 ·rename_i hh;obtain ⟨rfl,rfl⟩:=hh;cases hl;exact ⟨y,hr,hf,fun i v hv=>by rw [Nat.zero_add]; exact hv⟩
 ·split at hl
  ·rename_i n l _;unfold Rd at hr;obtain ⟨vs,rfl,h1⟩:=hr;obtain ⟨z,h2,h3⟩:=h1.get hl;have h4:=hf.cell h2;refine ⟨z,h3,h4,fun i v hv=>?_⟩;rw [h4.1] at hv;cases i with
   | zero=>simp at hv; subst hv; simpa [Value.cells] using h2
   | succ i=>simp at hv
  ·rename_i n m l _
   split at hl
   ·rename_i hjm;cases hl;unfold Rd at hr;obtain ⟨vs,rfl,h1⟩:=hr;have:=h1.len;refine ⟨.agg ⟨(vs.drop j).take m⟩,by unfold Rd; exact ⟨_,rfl,(h1.drop j).take m⟩,hf.part Oq,fun i v hv=>?_⟩;simp only [Value.cells,List.getElem?_take] at hv ⊢
    split at hv
    ·rw [List.getElem?_drop] at hv; exact hv
    ·cases hv
   ·cases hl
  ·cases hl
def qbK {t f:Nat} {r:Nat × Kd} (hh:q3E P t f=some r):q0b P t f=some r.1:=by
 unfold q3E at hh
 split at hh
 ·split at hh
  ·split at hh
   ·rename_i h1 _; cases hh; exact h1
   ·cases hh
  ·cases hh
 ·cases hh
def q9N:∀ {l:List PV} {r:List Value} {ys:List Value},qdI l=some r→RdL w D l ρ h ys→ys=r
 | [],r,ys,hv,hr=>by unfold RdL at hr; unfold qdI at hv; cases hv; exact hr
 | x :: l,r,ys,hv,hr=>by
  unfold RdL at hr;obtain ⟨y,zs,rfl,h1,h2⟩:=hr;unfold qdI at hv
  split at hv
  ·rename_i a r' hx;cases hv;unfold Rd at h1;rw [h1,q9N hx h2]
  ·cases hv
def q4x {f:Operand→PV} {g:Operand→Value} (hfg:∀ x,Rd w D (f x) ρ h (g x)):∀ (l:List Operand),RdL w D (l.map f) ρ h (l.map g)
 | []=>by unfold RdL; rfl
 | x :: l=>by unfold RdL; exact ⟨_,_,rfl,hfg x,q4x hfg l⟩
def q5h (l:List Value):RdL w D (l.map .vl) ρ h l:=by
 induction l with
 | nil=>unfold RdL; rfl
 | cons x l ih=>rw [List.map_cons]; unfold RdL; exact ⟨_,_,rfl,by unfold Rd; rfl,ih⟩
def q3x (off:Nat):∀ (l:List Value) (k:Nat) (cs:Array Value),off+k+l.length≤cs.size→∃ r,(l.zipIdx k).foldl (fun cs p=>cs.setIfInBounds (off+p.2) p.1) cs=r∧r.size=cs.size∧∀ i:Nat,r[i]?=if off+k≤i∧i < off+k+l.length then l[i-(off+k)]? else cs[i]?
 | [],k,cs,_=>⟨cs,rfl,rfl,fun i=>by rw [if_neg (by simp)]⟩
 | v :: l,k,cs,hl=>by
  rw [List.length_cons] at hl;obtain ⟨r,h1,h2,h3⟩:=q3x off l (k+1) (cs.setIfInBounds (off+k) v) (by rw [Array.size_setIfInBounds]; omega);refine ⟨r,by rw [List.zipIdx_cons,List.foldl_cons]; exact h1,by rw [h2,Array.size_setIfInBounds],fun i=>?_⟩;rw [h3 i,Array.getElem?_setIfInBounds,List.length_cons]
  by_cases c1:off+(k+1)≤i∧i < off+(k+1)+l.length
  ·rw [if_pos c1,if_pos (by omega),show i-(off+k)=(i-(off+(k+1)))+1 by omega,List.getElem?_cons_succ]
  ·rw [if_neg c1]
   by_cases c2:off+k=i
   ·subst c2;rw [if_pos rfl,if_pos (by omega),if_pos (by omega),Nat.sub_self]
    rfl
   ·rw [if_neg c2,if_neg (by omega)]
def q9x {pl:List (Nat × Nat)}:∀ (ps:List (Nat × Operand)) {f:Operand→PV} {g:Operand→Value} (hfg:∀ x,Rd w D (f x) ρ h (g x)) (cs:List PV) (vs:Array Value) (r:List PV),flP pl cs (ps.map fun p=>(p.1,f p.2))=some r→RdL w D cs ρ h vs.toList →
  ∃ us,Instr.fill (pl.toArray[·]?) vs (ps.map fun p=>(p.1,g p.2))=some us∧RdL w D r ρ h us.toList
 | [],f,g,hfg,cs,vs,r,hf,hr=>by
  rw [List.map_nil] at hf;unfold flP at hf;cases hf;exact ⟨vs,rfl,hr⟩
 | (i,x) :: ps,f,g,hfg,cs,vs,r,hf,hr=>by
  have hlen:=hr.len;rw [List.map_cons] at hf ⊢;unfold flP at hf;simp only at hf;have key:∀ off,pl[i]?=some (off,1)→(g x).oneCell'=true→off < cs.length→flP pl (cs.set off (f x)) (ps.map fun p=>(p.1,f p.2))=some r→∃ us,Instr.fill (pl.toArray[·]?) vs ((i,g x) :: ps.map fun p=>(p.1,g p.2))=some us∧RdL w D r ρ h us.toList:=fun off ho h1 h2 h3=>by
   obtain ⟨us,e1,e2⟩:=q9x ps hfg (cs.set off (f x)) (vs.setIfInBounds off (g x)) r h3 (by rw [Array.toList_setIfInBounds]; exact hr.set (hfg x) off);refine ⟨us,?_,e2⟩;unfold Instr.fill;rw [List.getElem?_toArray,ho];simp only [q2J h1];rw [if_neg (by simp at hlen ⊢; omega)];simpa using e1
  split at hf
  ·rename_i off ho;have hx:=hfg x
   split at hf <;> rename_i hfx
   ·split at hf
    ·rename_i hc;have hx':=hx;rw [hfx] at hx';unfold Rd at hx';exact key off ho (by rw [hx']; exact hc.1) hc.2 (by rw [hfx]; exact hf)
    ·cases hf
   ·split at hf
    ·rename_i hc;have hx':=hx;rw [hfx] at hx';unfold Rd at hx';obtain ⟨_,_,_,_,e,_⟩:=hx';exact key off ho (by rw [e]; rfl) hc (by rw [hfx]; exact hf)
    ·cases hf
   ·split at hf
    ·rename_i hc;have hx':=hx;rw [hfx] at hx';unfold Rd at hx';obtain ⟨_,_,_,_,_,e,_⟩:=hx';exact key off ho (by rw [e]; rfl) hc (by rw [hfx]; exact hf)
    ·cases hf
   ·split at hf
    ·rename_i hc;have hx':=hx;rw [hfx] at hx';unfold Rd at hx';obtain ⟨_,_,_,_,_,e⟩:=hx';exact key off ho (by rw [e]; rfl) hc (by rw [hfx]; exact hf)
    ·cases hf
   ·cases hf
  ·rename_i off m _ ho
   split at hf
   ·rename_i l hfx
    split at hf
    ·rename_i hc;have hx:=hfg x;rw [hfx] at hx;unfold Rd at hx;obtain ⟨rs,e,hr2⟩:=hx;have hrl:=hr2.len;have hvs:vs.toList.length=cs.length:=hlen;obtain ⟨q,q1,q2,q3⟩:=q3x off rs 0 vs (by rw [Array.length_toList] at hvs; omega);have hq:q.toList=vs.toList.take off ++ rs ++ vs.toList.drop (off+m):=by
      apply List.ext_getElem?
      intro n;rw [Array.getElem?_toList,q3 n,List.getElem?_append,List.getElem?_append,List.getElem?_take,List.getElem?_drop];have ht:(List.take off vs.toList).length=off:=by rw [List.length_take]; omega
      rw [List.length_append,ht]
      by_cases c1:n < off
      ·rw [if_neg (by omega),if_pos (by omega),if_pos c1,if_pos c1,Array.getElem?_toList]
      ·by_cases c2:n < off+rs.length
       ·rw [if_pos (by omega),if_pos c2,if_neg c1,Nat.add_zero]
       ·rw [if_neg (by omega),if_neg c2,Array.getElem?_toList,show off+m+(n-(off+rs.length))=n by omega]
     obtain ⟨us,e1,e2⟩:=q9x ps hfg _ q r hf (by rw [hq]; exact ((hr.take off).app hr2).app (hr.drop (off+m)));refine ⟨us,?_,e2⟩;unfold Instr.fill;rw [List.getElem?_toArray,ho];simp only [e,Value.cells];rw [if_neg (by rw [Array.length_toList] at hvs; simp; omega)];rw [← Array.foldl_toList,Array.toList_zipIdx];rw [q1];exact e1
    ·cases hf
   ·cases hf
  ·cases hf
def qbc {d y:Nat} {o:Option PV} {b:Nat} {ov:Option Value} (hb:qcv d o=some b) (ho:(o=none∧ov=none)∨∃ x v,o=some x∧ov=some v∧Rd w D x ρ h v) (hy:b≤y):q3j y ov d=some b:=by
 rcases ho with ⟨rfl,rfl⟩ | ⟨x,v,rfl,rfl,hr⟩
 ·exact hb
 ·unfold qcv at hb
  split at hb
  ·rename_i hx; cases hx
  ·rename_i hx;cases hx;unfold Rd at hr;subst hr
   split at hb
   ·cases hb;simp only [q3j];rw [if_pos (by omega)]
   ·cases hb
  ·cases hb
def sl_ok {sz:Option Nat} {lo hi:Option Operand} {x:Operand} {r:PV} {f:Operand→PV} {g:Operand→Value} (hfg:∀ x,Rd w D (f x) ρ h (g x)) (hp:slP sz (lo.map f) (hi.map f) (f x)=some r):∃ v,q2Q sz (lo.map g) (hi.map g) (g x)=some v∧Rd w D r ρ h v:=by
 have hlo:∀ o:Option Operand,(o.map f=none∧o.map g=none)∨∃ x v,o.map f=some x∧o.map g=some v∧Rd w D x ρ h v:=fun o=>by
  cases o with
  | none=>exact .inl ⟨rfl,rfl⟩
  | some o=>exact .inr ⟨_,_,rfl,rfl,hfg o⟩
 have hx:=hfg x;unfold slP at hp
 split at hp
 ·rename_i k l hfx;rw [hfx] at hx;unfold Rd at hx;obtain ⟨A,n,c,vs,e,h1,h2,h3,h4⟩:=hx;obtain ⟨b,hb,hp1⟩:=Option.bind_eq_some_iff.1 hp;obtain ⟨a,ha,hp2⟩:=Option.bind_eq_some_iff.1 hp1;clear hp hp1
  split at hp2
  ·rename_i hc;obtain ⟨hsz,hab,hbn⟩:=hc;subst hsz;obtain rfl:=Option.some.inj hp2;have hvl:=h3.len;have hcap:=h1.cap;rw [h2] at hb;have q1:=qbc (y:=c) hb (hlo hi) Oq;have q2:=qbc (y:=b) ha (hlo lo) Oq;rw [e];refine ⟨_,by unfold q2Q; simp only [q1,q2]; rfl,?_⟩;unfold Rd;have hcs:∀ v ∈ vs,v.cells.size=ksz k:=fun v hv=>(h4 v hv).size;have r1:=(h1.take (m:=b) Oq).drop (m:=a) Oq;rw [← q6K hcs,← q6L (fun v hv=>hcs v (List.mem_of_mem_take hv))] at r1;exact ⟨_,_,_,(vs.take b).drop a,rfl,r1,by simp; omega,(h3.take b).drop a,fun v hv=>h4 v (List.mem_of_mem_take (List.mem_of_mem_drop hv))⟩
  ·cases hp2
 ·rename_i id k off n hfx;rw [hfx] at hx;unfold Rd at hx;obtain ⟨bk,A,c,e1,e2,e,hn,hm,hl,h6,h7⟩:=hx;obtain ⟨b,hb,hp1⟩:=Option.bind_eq_some_iff.1 hp;obtain ⟨a,ha,hp2⟩:=Option.bind_eq_some_iff.1 hp1;clear hp hp1
  split at hp2
  ·rename_i hc;obtain ⟨hsz,hab,hbn⟩:=hc;subst hsz;obtain rfl:=Option.some.inj hp2;have q1:=qbc (y:=c) hb (hlo hi) Oq;have q2:=qbc (y:=b) ha (hlo lo) Oq;rw [e];refine ⟨_,by unfold q2Q; simp only [q1,q2]; rfl,?_⟩;unfold Rd;have mv:∀ {A:Option Addr},AtO w (ρ id) A (off*ksz k) ((off+c)*ksz k)→¬ c=a→AtO w (ρ id) (if c=a then A else A.map (·.add (a*ksz k))) ((off+a)*ksz k) ((off+a+(c-a))*ksz k):=fun ⟨g,g1,g2,g3⟩ hca=>by
    refine ⟨g,g1,?_,by rw [show off+a+(c-a)=off+c by omega]; exact g3⟩;rw [if_neg hca,g2];simp only [Option.map_some,q06,Nat.add_mul]
   refine ⟨bk,_,c-a,e1,e2,rfl,by omega,by omega,by omega,?_,fun h0=>?_⟩
   ·by_cases hca:c=a
    ·exact .inl Oq
    ·rcases h6 with h6 | h6
     ·omega
     ·exact .inr (mv h6 hca)
   ·have h0a:a=0:=by omega
    have h00:off=0:=by omega
    subst h0a;subst h00;simp only [Nat.zero_mul,Nat.sub_zero,Nat.add_zero,Nat.zero_add] at h7 ⊢;have hA:(if c=0 then A else A.map (·.add 0))=A:=by
     split
     ·rfl
     ·cases A <;> simp [Addr.add]
    rw [hA];exact h7 trivial
  ·cases hp2
 ·cases hp
def qsx {sz:Option Nat} {ar:Option (Nat × Nat)} {x i r:PV} {a b:Value} (ha:Rd w D x ρ h a) (hb:Rd w D i ρ h b) (hp:qbG sz x i=some r):∃ v,qi8 sz ar a b=some v∧Rd w D r ρ h v:=by
 unfold qbG at hp
 split at hp
 ·rename_i k l kk z
  split at hp
  ·rename_i hc;obtain ⟨rfl,hk,hz⟩:=hc;obtain ⟨y,hy,hp⟩:=Option.map_eq_some_iff.1 hp;subst hp;unfold Rd at ha hb;subst hb;obtain ⟨A,n,c,vs,rfl,h1,h2,h3,h4⟩:=ha;obtain ⟨u,hu,hur⟩:=h3.get hy;have hlt:=(List.getElem?_eq_some_iff.1 hy).1;have hcs:∀ v ∈ vs,v.cells.size=ksz k:=fun v hv=>(h4 v hv).size;have hfl:=q1K hcs;have hvl:=h3.len;have hpos:0 < (q0h vs).length:=by rw [hfl]; exact Nat.mul_pos (by omega) hk
   obtain ⟨ad,rfl,hd,hcell⟩:=h1.at_ hpos;have hcl:∀ (ρ':Nat→Option Nat) (h':Hp),Rd w D y ρ' h' u:=fun ρ' h'=>Rd.mv (Kp.refl _ _) (fun _ _ h=>h) _ _ _ _ _ _ Cpt.h0 hur;refine ⟨.pointer (some (ad.add (z.toNat*ksz k))),?_,?_⟩
   ·simp only [qi8];rw [if_pos (by omega)]
   ·unfold Rd;refine ⟨_,u,rfl,by rw [q1U]; exact hd,hcl _ _,⟨h4 u (List.mem_of_getElem? hu),hk⟩,fun j t ht=>?_⟩;rw [q7r];refine hcell _ t ?_;have hj:j < ksz k:=by
     have:=(List.getElem?_eq_some_iff.1 ht).1;rw [Array.length_toList,hcs u (List.mem_of_getElem? hu)] at this;exact this
    rw [q5c hcs hu hj];simpa using ht
  ·cases hp
 ·rename_i id k off n kk z
  split at hp
  ·rename_i hc;obtain ⟨rfl,hz,hzn⟩:=hc;cases hp;unfold Rd at ha hb;subst hb;obtain ⟨bk,A,c,e1,e2,rfl,hn,hm,hl,h6,h7⟩:=ha;have hc0:c≠0:=by omega
   rcases h6 with h6 | ⟨g,g1,g2,g3⟩
   ·exact absurd h6 hc0
   ·subst g2;refine ⟨.pointer (some ⟨g,off*ksz k+z.toNat*ksz k,none⟩),?_,?_⟩
    ·simp only [qi8,q06];rw [if_pos (by omega)]
    ·unfold Rd;exact ⟨bk,g,e1,g1,by omega,by rw [e2,Nat.add_mul,Nat.add_zero]⟩
  ·cases hp
 ·cases hp
def qnR (S:Sat D0 w0 s h ρ e w) {o:Oper} {x:PV} (hp:q5J P o.op (pe s)=some x) {K:Value→World→Prop} (hK:∀ v,Rd w (dm D0 ρ h) x ρ h v→K v w):wo P o e w K:=by
 obtain ⟨dst,op,ty,pos,af,gd⟩:=o;have hS:=S.pex;unfold q5J at hp;unfold wo;cases op <;> (try (cases hp; done)) <;> simp only at hp ⊢
 case move=>cases hp; exact hK _ (hS _)
 case assign=>cases hp; exact hK _ (hS _)
 case pick c a b =>
  unfold pkP at hp;have hc:=hS c
  split at hp
  ·rename_i hx; rw [hx] at hc; unfold Rd at hc; cases hp; rw [hc]; exact hK _ (hS _)
  ·rename_i hx; rw [hx] at hc; unfold Rd at hc; cases hp; rw [hc]; exact hK _ (hS _)
  ·cases hp
 case binOp op t a b _ =>
  unfold bnP at hp;have ha:=hS a;have hb:=hS b
  split at hp
  ·rename_i h1 h2;rw [h1] at ha; rw [h2] at hb;unfold Rd at ha hb;obtain ⟨v,hv,rfl⟩:=Option.map_eq_some_iff.1 hp;rw [ha,hb,hv];exact hK _ (by unfold Rd; rfl)
  ·cases hp
 case unOp op t a =>
  unfold unP at hp;have ha:=hS a
  split at hp
  ·rename_i h1;rw [h1] at ha;unfold Rd at ha;obtain ⟨v,hv,rfl⟩:=Option.map_eq_some_iff.1 hp;rw [ha,hv];exact hK _ (by unfold Rd; rfl)
  ·cases hp
 case convert a b c =>
  unfold cvP at hp;have ha:=hS c
  split at hp
  ·rename_i h1;rw [h1] at ha;unfold Rd at ha;obtain ⟨v,hv,rfl⟩:=Option.map_eq_some_iff.1 hp;rw [ha,hv];exact hK _ (by unfold Rd; rfl)
  ·cases hp
 case fieldAddr t a f =>
  unfold qqU at hp;have ha:=hS a
  split at hp
  ·rename_i id i j h1;rw [h1] at ha;unfold Rd at ha;obtain ⟨b,g,g1,g2,g3,g4⟩:=ha;obtain ⟨r,hr,rfl⟩:=Option.map_eq_some_iff.1 hp;rw [g4];simp only [qbK hr,q3Q,q06];exact hK _ (by unfold Rd; exact ⟨b,g,g1,g2,g3,by rw [Nat.add_assoc]⟩)
  ·rename_i n l h1;rw [h1] at ha;unfold Rd at ha;obtain ⟨ad,z,q1,q2,q3,q4,q5⟩:=ha;obtain ⟨r,hr,hp⟩:=Option.bind_eq_some_iff.1 hp;rw [q1];simp only [qbK hr,q3Q];unfold Rd at q3;obtain ⟨vs,rfl,q6⟩:=q3
   split at hp
   ·obtain ⟨y,hy,rfl⟩:=Option.map_eq_some_iff.1 hp;obtain ⟨u,hu,hur⟩:=q6.get hy;have hfu:=q4.1.cell hu;refine hK _ ?_;unfold Rd;refine ⟨_,u,rfl,by rw [q1U]; exact q2,hur,⟨hfu,Nat.one_pos⟩,fun j t ht=>?_⟩;rw [hfu.1] at ht;rw [q7r];cases j with
    | zero=>simp at ht; subst ht; exact q5 _ _ (by simpa [Value.cells] using hu)
    | succ j=>simp at ht
   ·rename_i m _
    split at hp
    ·rename_i hrm;cases hp;have:=q6.len;refine hK _ ?_;unfold Rd;refine ⟨_,.agg ⟨(vs.drop r.1).take m⟩,rfl,by rw [q1U]; exact q2,by unfold Rd; exact ⟨_,rfl,(q6.drop _).take _⟩,⟨q4.1.part (by omega),hrm.2⟩,fun j t ht=>?_⟩;rw [q7r];refine q5 _ t ?_;simp only [Value.cells,List.getElem?_take] at ht ⊢
     split at ht
     ·rw [List.getElem?_drop] at ht; exact ht
     ·cases ht
    ·cases hp
  ·cases hp
 case extract a i =>
  unfold exP at hp;have ha:=hS a
  split at hp
  ·rename_i l h1;rw [h1] at ha;unfold Rd at ha;obtain ⟨vs,q1,q2⟩:=ha;obtain ⟨v,hv,hr⟩:=q2.get hp;rw [q1];simp only [qlO];rw [List.getElem?_toArray,hv];exact hK _ hr
  ·cases hp
 case nilCheck a =>
  unfold nlP at hp;have ha:=hS a
  split at hp
  ·rename_i h1;cases hp;rw [h1] at ha;have ha':=ha;unfold Rd at ha';obtain ⟨b,g,g1,g2,g3,g4⟩:=ha';rw [g4] at ha ⊢;exact hK _ ha
  ·rename_i h1;cases hp;rw [h1] at ha;have ha':=ha;unfold Rd at ha';obtain ⟨ad,z,q1,_⟩:=ha';rw [q1] at ha ⊢;exact hK _ ha
  ·cases hp
 case indexAddr t a i =>
  obtain ⟨v,h1,h2⟩:=qsx (ar:=qch P t) (hS a) (hS i) hp;rw [h1];exact hK _ h2
 case slice t a lo hi mx =>
  cases mx with
  | some _=>cases hp
  | none =>
   obtain ⟨v,h1,h2⟩:=sl_ok hS hp;simp only;rw [h1];exact hK _ h2
 case build t ps =>
  unfold blP at hp;obtain ⟨r,hr,hp⟩:=Option.bind_eq_some_iff.1 hp;obtain ⟨cs,hcs,rfl⟩:=Option.map_eq_some_iff.1 hp;unfold plc at hr;unfold Program.built
  split at hr
  ·rename_i it fs h1 h2
   split at hr
   ·rename_i z pl h3 h4;cases hr;rw [h1,h2];simp only [h3,h4];rw [Array.toList_map];obtain ⟨us,e1,e2⟩:=q9x (w:=w) (D:=dm D0 ρ h) (ρ:=ρ) (h:=h) (g:=ev e) ps.toList hS (z.cells.toList.map .vl) z.cells cs hcs (q5h _);rw [e1];exact hK _ (by unfold Rd; exact ⟨us.toList,rfl,e2⟩)
   ·cases hr
  ·cases hr
 case makeFunc fn first cap =>
  unfold fnP at hp
  split at hp
  ·rename_i z hz
   split at hp
   ·rename_i f
    split at hp
    ·rename_i hf;cases hp;have hf:first=#[]:=by cases first with | mk fl=>cases fl with | nil=>rfl | cons a b=>cases hf
     obtain ⟨c,hc,hcz⟩:∃ c,cap.toList=[c]∧pe s c=.qt none (.vl (.int .i64 z)):=by
      obtain ⟨cl⟩:=cap
      match cl,hz with
      | [],hz=>cases hz
      | [a],hz=>exact ⟨a,rfl,(List.cons.inj hz).1⟩
      | a :: a' :: b',hz=>cases (List.cons.inj hz).2
     have hr:=hS c;rw [hcz] at hr;unfold Rd at hr;obtain ⟨ad,z',q1,q2,q3,q4,q5⟩:=hr;unfold Rd at q3;subst q3;have hcv:cap.map (ev e)=#[.pointer (some ad)]:=by
      cases cap;simp only at hc;subst hc;simp [q1]
     unfold WO;subst hf;simp only [execOp,Instr.makeFunc,hcv];refine hK _ ?_;unfold Rd;refine ⟨ad,by simp,q2,?_⟩;have:=q5 0 (.int .i64 z) rfl
     rwa [add_zero] at this
    ·cases hp
   ·cases hp
  ·cases hp
 case call c =>
  obtain ⟨callee,args,tys⟩:=c;simp only at hp ⊢
  split at hp
  ·split at hp
   ·rename_i a t hat htt;simp only [hat,htt];have ha:=hS a;unfold qqR at hp
    split at hp
    ·rename_i h1;rw [h1] at ha;unfold Rd at ha;obtain ⟨A,n,c,vs,e1,_,e2,_⟩:=ha;obtain ⟨q,hq,rfl⟩:=Option.map_eq_some_iff.1 hp;rw [e1,hq];refine hK _ ?_;unfold Rd;rw [e2]
    ·rename_i h1;rw [h1] at ha;unfold Rd at ha;obtain ⟨b,A,c,_,_,e1,_⟩:=ha;obtain ⟨q,hq,rfl⟩:=Option.map_eq_some_iff.1 hp;rw [e1,hq];exact hK _ (by unfold Rd; rfl)
    ·rename_i h1;rw [h1] at ha;unfold Rd at ha;obtain ⟨v,hv,rfl⟩:=Option.map_eq_some_iff.1 hp;rw [ha,hv];exact hK _ (by unfold Rd; rfl)
    ·cases hp
   ·cases hp
  ·unfold mmP at hp;obtain ⟨r,hr,hp⟩:=Option.bind_eq_some_iff.1 hp;obtain ⟨v,hv,rfl⟩:=Option.map_eq_some_iff.1 hp;have:=q9N hr (q4x (g:=ev e) hS args.toList);simp only [this,hv];exact hK _ (by unfold Rd; rfl)
  ·unfold mmP at hp;obtain ⟨r,hr,hp⟩:=Option.bind_eq_some_iff.1 hp;obtain ⟨v,hv,rfl⟩:=Option.map_eq_some_iff.1 hp;have:=q9N hr (q4x (g:=ev e) hS args.toList);simp only [this,hv];exact hK _ (by unfold Rd; rfl)
  ·cases hp
end
instance {v:Value}:Decidable (qn6 v):=inferInstanceAs (Decidable (_∧_))
def qkw {w:World} {k:Kd} {z:Value} {p:Addr} (hf:q3F k z) (hc:∀ (i:Nat) (v:Value),z.cells.toList[i]?=some v→w.cell? (p.add i)=some v):ldV w (some k) (.pointer (some p))=some z:=by
 cases k with
 | none =>
  have:=hc 0 z (by rw [hf.1]; rfl);rw [add_zero] at this;exact this
 | some n =>
  obtain ⟨cs,rfl,h1,_⟩:=hf;have:=qkd (w:=w) (p:=p) cs.toList 0 fun j u hu=>by rw [Nat.zero_add]; exact hc j u hu
  rw [Array.length_toList,h1] at this;simp only [ldV,this];simp
def q9w {k:Kd} {x:PV} {w:World} {D:Nat→Prop} {ρ:Nat→Option Nat} {h:Hp} {y:Value} (hf:q7a k x) (hr:Rd w D x ρ h y):q3F k y:=by
 have one:∀ {x:PV} {y:Value},qfe x→Rd w D x ρ h y→q3F none y:=fun {x y} hf hr=>by
  cases x <;> simp only [qfe] at hf <;> unfold Rd at hr
  case vl v=>subst hr; exact ⟨q2J hf.1,hf⟩
  case fm G=>exact hf _ _ _ hr
  case sl k l=>obtain ⟨_,_,_,_,rfl,_⟩:=hr; exact ⟨rfl,rfl,rfl⟩
  case ow=>obtain ⟨_,_,_,_,_,rfl,_⟩:=hr; exact ⟨rfl,rfl,rfl⟩
  case pt=>obtain ⟨_,_,_,_,_,rfl⟩:=hr; exact ⟨rfl,rfl,rfl⟩
  case qt=>obtain ⟨_,_,rfl,_⟩:=hr; exact ⟨rfl,rfl,rfl⟩
 cases k with
 | none=>exact one hf hr
 | some n =>
  cases x <;> simp only [q7a] at hf
  case fm G=>unfold Rd at hr; exact hf _ _ _ hr
  case ag l =>
   unfold Rd at hr;obtain ⟨vs,rfl,h1⟩:=hr;refine ⟨⟨vs⟩,rfl,by simp [h1.len,hf.1],fun u hu=>?_⟩;simp only at hu;obtain ⟨i,hi⟩:=List.getElem?_of_mem hu;obtain ⟨h2,h3⟩:=RdL.iff.1 h1;have hlt:=(List.getElem?_eq_some_iff.1 hi).1;have hx:l[i]?=some l[i]:=List.getElem?_eq_getElem Oq;exact (one (hf.2 _ (List.mem_of_getElem? hx)) (h3 i _ _ hx hi)).2
def ldP (h:Hp) (k:Option Kd):PV→Option (PV × List Nat)
 | .pt id i j=>match k,h id with
  | some k,some b=>if b.st=true∨ksz k=0 then none else ((b.xs[i]?).bind (ldU b.k k j)).map fun x=>(x,[id])
  | _,_=>none
 | .qt bk x=>match k with
  | some k=>if ksz k=0 then none else (ldU bk k 0 x).map fun y=>(y,[])
  | none=>none
 | _=>none
def alB (P:Program) (t:TypeId):Option Bk :=
 match q1x P t,q0f P t with
 | some z,some none=>match z.toList with
  | [v]=>if qn6 v then some ⟨t,none,[.vl v],false⟩ else none
  | _=>none
 | some z,some (some n)=>if z.size=n∧(z.toList.all fun v=>v.oneCell' && q4n v)=true then some ⟨t,some n,[.ag (z.toList.map .vl)],false⟩ else none
 | _,_=>none
def elK (P:Program) (t:TypeId):Option (TypeId × Kd × Nat) :=
 match q09 P t with
 | some (E,sz,bytes,z)=>match q0f P E with
  | some k=>if ksz k=sz∧0 < sz∧z.size=sz∧(z.toList.all fun v=>v.oneCell' && q4n v)=true then some (E,k,bytes) else none
  | none=>none
 | none=>none
def elZ (P:Program) (t:TypeId):Option (TypeId × Kd × Nat × PV) :=
 match q09 P t,elK P t with
 | some (_,_,_,z),some (E,none,b)=>match z.toList with | [v]=>some (E,none,b,.vl v) | _=>none
 | some (_,_,_,z),some (E,some n,b)=>some (E,some n,b,.ag (z.toList.map .vl))
 | _,_=>none
section
variable {w w':World} {w0:Base} {D D0:Nat→Prop} {ρ:Nat→Option Nat} {h:Hp} {s:Nat→PV} {e:Env} {P:Program}
def qmI.unit {g:Nat} {b:Bk} (hb:qmI w D ρ h g b) (hst:b.st=false) {i:Nat} {x:PV} (hx:b.xs[i]?=some x) :
  ∃ v,Rd w D x ρ h v∧q3F b.k v∧∀ (j:Nat) (u:Value),v.cells.toList[j]?=some u→w.cell? ⟨g,i*ksz b.k+j,none⟩=some u:=by
 obtain ⟨cs,h1,h2,h3⟩:=hb;obtain ⟨vs,h4,h5,h6⟩:=h3 hst;obtain ⟨v,hv,hr⟩:=h5.get hx;have hf:=h6 v (List.mem_of_getElem? hv);refine ⟨v,hr,hf,fun j t ht=>?_⟩;have hcs:∀ v ∈ vs,v.cells.size=ksz b.k:=fun v hv=>(h6 v hv).size;have hj:j < ksz b.k:=by
  have:=(List.getElem?_eq_some_iff.1 ht).1;rw [Array.length_toList,hf.size] at this;exact this
 have q:=q5c hcs hv hj;rw [← h4,List.getElem?_take] at q;rw [h1.cell]
 split at q
 ·rw [Array.getElem?_toList] at q ht; rw [q]; exact ht
 ·rw [Array.getElem?_toList] at ht; rw [ht] at q; cases q
def qej (S:Sat D0 w0 s h ρ e w) {t:TypeId} {a:Operand} {r:PV × List Nat} (hp:ldP h (q0f P t) (pe s a)=some r):∃ v,ldV w (q0f P t) (ev e a)=some v∧Rd w (dm D0 ρ h) r.1 ρ h v:=by
 have ha:=S.pex a;unfold ldP at hp
 split at hp
 ·rename_i id i j hx;rw [hx] at ha;unfold Rd at ha;obtain ⟨b,g,g1,g2,g3,g4⟩:=ha
  split at hp
  ·rename_i k b' hk hb;rw [g1] at hb;cases hb
   split at hp
   ·cases hp
   ·rename_i hc;obtain ⟨x,hx1,rfl⟩:=Option.map_eq_some_iff.1 hp;obtain ⟨y,hy,hl⟩:=Option.bind_eq_some_iff.1 hx1;have hst:b.st=false:=by
     cases hq:b.st
     ·rfl
     ·exact absurd (Or.inl hq) hc
    obtain ⟨v,q1,q2,q3⟩:=(S.own id b g g1 g2).2.unit hst hy;obtain ⟨z,z1,z2,z3⟩:=qkx hl q1 q2 Oq;rw [hk,g4];refine ⟨z,qkw z2 fun i' u hu=>?_,z1⟩;rw [q06,Nat.add_assoc];exact q3 _ u (z3 i' u hu)
  ·cases hp
 ·rename_i bk x hx;rw [hx] at ha;unfold Rd at ha;obtain ⟨ad,z,q1,q2,q3,q4,q5⟩:=ha
  split at hp
  ·rename_i k hk
   split at hp
   ·cases hp
   ·obtain ⟨y,hy,rfl⟩:=Option.map_eq_some_iff.1 hp;obtain ⟨z',z1,z2,z3⟩:=qkx hy q3 q4.1 Oq;rw [q1,hk];refine ⟨z',qkw z2 fun i' u hu=>?_,Rd.mv (Kp.refl _ _) (fun _ _ h=>h) _ _ _ _ _ _ Cpt.h0 z1⟩;have:=z3 i' u hu;rw [Nat.zero_add] at this;exact q5 _ u this
  ·cases hp
 ·cases hp
def Sat.newP (S:Sat D0 w0 s h ρ e w) {d:Nat} (hd:h d=none) (hd5:d < 5000) {b:Bk} {z:Value} {x:PV} (hb:b=⟨b.T,b.k,[x],false⟩) (hz:Rd w (dm D0 ρ h) x ρ h z) (hf:q3F b.k z) :
  ∃ ρ',Sat D0 w0 (pu s d (.pt d 0 0)) (q07 h d b) ρ' (upd e d (.pointer (some ⟨w.heap.size,0,none⟩))) (w.alloc (.cells z.cells b.T)):=by
 have hsz:=hf.size;obtain ⟨S1,_,_⟩:=S.alloc (w':=w.alloc (.cells z.cells b.T)) (b:=b) (g:=w.heap.size) hd hd5 (Kp.alloc w _) (Nat.le_refl _) (cs:=z.cells) (Blk.new w b.T z.cells) (fun u hu=>(hf.one u hu).2) (by rw [hb]) (vs:=[z]) (by
  rw [hb];simp only [List.length_cons,List.length_nil,Nat.zero_add,Nat.one_mul];rw [List.take_of_length_le (by rw [Array.length_toList,hsz]; exact Nat.le_refl _)];simp [q0h]) (by rw [hb]; exact RdL.one hz) (by intro v hv; simp at hv; subst hv; exact hf)
 refine ⟨_,S1.put d ?_⟩;unfold Rd;exact ⟨b,w.heap.size,q0V,q13,by rw [hb]; simp,by simp⟩
def Sat.newS (S:Sat D0 w0 s h ρ e w) {d n:Nat} (hd:h d=none) (hd5:d < 5000) {b:Bk} {cs:Array Value} {vs:List Value} (hx:Ext w w') (hb:Blk w' w.heap.size b.T cs) (hn:∀ u ∈ cs.toList,q4n u=true) (hst:b.st=false) (hln:b.xs.length=n) {c:Nat} (hc:n≤c) (hcm:c≤maxLen) (hcs:cs.size=c*ksz b.k)
  (h1:cs.toList.take (n*ksz b.k)=q0h vs) (h2:RdL w (dm D0 ρ h) b.xs ρ h vs) (h3:∀ v ∈ vs,q3F b.k v) :
  ∃ ρ',Sat D0 w0 (pu s d (.ow d b.k 0 n)) (q07 h d b) ρ' (upd e d (.slice (some ⟨w.heap.size,0,none⟩) n c)) w':=by
 obtain ⟨S1,_,_⟩:=S.alloc (w':=w') (b:=b) (g:=w.heap.size) hd hd5 hx (Nat.le_refl _) (cs:=cs) hb hn hst (vs:=vs) (by rw [hln]; exact h1) h2 h3;refine ⟨_,S1.put d ?_⟩;have hat:AtO w' (upo ρ d (some w.heap.size) d) (some ⟨w.heap.size,0,none⟩) (0*ksz b.k) ((0+c)*ksz b.k):=⟨_,q13,by rw [Nat.zero_mul],cs,b.T,hb,by rw [Nat.zero_add]; exact hcs⟩;unfold Rd;exact ⟨b,_,c,q0V,rfl,rfl,hc,hcm,by omega,.inr hat,fun _=>.inr hat⟩
def allB {z:Array Value} (ha:(z.toList.all fun v=>v.oneCell' && q4n v)=true):∀ u ∈ z.toList,u.oneCell'=true∧q4n u=true:=fun u hu=>by
 have:=List.all_eq_true.1 ha u hu;simpa using this
def qjx (S:Sat D0 w0 s h ρ e w) {d t:Nat} {b:Bk} (hd:h d=none) (hd5:d < 5000) (hb:alB P t=some b):∃ z,q1x P t=some z∧∃ ρ',Sat D0 w0 (pu s d (.pt d 0 0)) (q07 h d b) ρ' (upd e d (.pointer (some ⟨w.heap.size,0,none⟩))) (w.alloc (.cells z t)):=by
 unfold alB at hb
 split at hb
 ·rename_i z hz hk;refine ⟨z,hz,?_⟩
  split at hb
  ·rename_i v hv
   split at hb
   ·rename_i ho;cases hb;have hzz:z=#[v]:=by cases z; simp at hv; rw [hv]
    have hcc:=q2J ho.1;have:=S.newP (b:=⟨t,none,[.vl v],false⟩) (z:=v) (x:=.vl v) hd hd5 rfl (by unfold Rd; rfl) ⟨hcc,ho⟩;rw [hcc,← hzz] at this;exact this
   ·cases hb
  ·cases hb
 ·rename_i z n hz hk;refine ⟨z,hz,?_⟩
  split at hb
  ·rename_i hc;cases hb;exact S.newP (b:=⟨t,some n,[.ag (z.toList.map .vl)],false⟩) (z:=.agg z) (x:=.ag (z.toList.map .vl)) hd hd5 rfl (by unfold Rd; exact ⟨z.toList,rfl,q5h _⟩) ⟨z,rfl,hc.1,allB hc.2⟩
  ·cases hb
 ·cases hb
def qbT {t:TypeId} {E:TypeId} {k:Kd} {bytes:Nat} (hk:elK P t=some (E,k,bytes)):∃ z:Array Value,q09 P t=some (E,ksz k,bytes,z)∧0 < ksz k∧z.size=ksz k∧q0f P E=some k∧∀ u ∈ z.toList,u.oneCell'=true∧q4n u=true:=by
 unfold elK at hk
 split at hk
 ·rename_i E' sz by' z he
  split at hk
  ·rename_i k' hk'
   split at hk
   ·rename_i hc;cases hk;obtain ⟨rfl,h1,h2,h3⟩:=hc;exact ⟨z,he,h1,h2,hk',allB h3⟩
   ·cases hk
  ·cases hk
 ·cases hk
def qbO {sz:Nat}:∀ (vs:List Value) (a:Nat) (cs:Array Value),(∀ v ∈ vs,v.cells.size=sz)→(a+vs.length)*sz≤cs.size→∃ r,Instr.fill (fun i=>some (i*sz,sz)) cs ((List.range' a vs.length).zip vs)=some r∧r.size=cs.size∧∀ i:Nat,r[i]?=if a*sz≤i∧i < (a+vs.length)*sz then (q0h vs)[i-a*sz]? else cs[i]?
 | [],a,cs,_,_=>⟨cs,rfl,rfl,fun i=>by rw [if_neg (by simp)]⟩
 | v :: vs,a,cs,hv,hl=>by
  rw [List.length_cons] at hl;have h1:=hv v List.mem_cons_self;have e0:(a+(vs.length+1))*sz=a*sz+sz+vs.length*sz:=by rw [Nat.add_mul,Nat.succ_mul]; omega
  have e1:(a+1+vs.length)*sz=a*sz+sz+vs.length*sz:=by rw [Nat.add_mul,Nat.succ_mul]
  have e2:(a+1)*sz=a*sz+sz:=Nat.succ_mul _ _;have hl':a*sz+sz+vs.length*sz≤cs.size:=by rw [← e0]; exact hl
  clear hl;have hvl:v.cells.toList.length=sz:=by rw [Array.length_toList,h1]
  obtain ⟨r1,q1,q2,q3⟩:=q3x (a*sz) v.cells.toList 0 cs (by rw [hvl]; clear e0 e1 e2; omega);obtain ⟨r,p1,p2,p3⟩:=qbO vs (a+1) r1 (fun x hx=>hv x (List.mem_cons_of_mem _ hx)) (by rw [q2,e1]; exact hl');refine ⟨r,?_,by rw [p2,q2],fun i=>?_⟩
  ·rw [List.length_cons,List.range'_succ,List.zip_cons_cons];unfold Instr.fill;simp only;rw [if_neg (by rw [h1]; clear e0 e1 e2; simp only [Bool.or_eq_true,decide_eq_true_eq]; omega)];rw [← Array.foldl_toList,Array.toList_zipIdx];rw [q1];exact p1
  ·rw [p3 i,q3 i,hvl,List.length_cons];have hfl:q0h (v :: vs)=v.cells.toList ++ q0h vs:=by simp [q0h]
   rw [hfl,e0,e1,e2]
   by_cases c1:a*sz+sz≤i∧i < a*sz+sz+vs.length*sz
   ·rw [if_pos c1,if_pos (by omega),List.getElem?_append_right (by omega),hvl,show i-a*sz-sz=i-(a*sz+sz) by omega]
   ·rw [if_neg c1]
    by_cases c2:a*sz+0≤i∧i < a*sz+0+sz
    ·rw [if_pos c2,if_pos (by omega),List.getElem?_append_left (by omega)]
     rfl
    ·rw [if_neg c2,if_neg (by omega)]
def bs_ok (S:Sat D0 w0 s h ρ e w) {d t len E bytes:Nat} {k:Kd} {ps:List (Nat × Operand)} (hd:h d=none) (hd5:d < 5000) (hk:elK P t=some (E,k,bytes)) (hps:ps.map (·.1)=List.range len) (hl:len*ksz k≤16777216) (hf:∀ p ∈ ps,q7a k (pe s p.2)) :
  ∃ cs,bsV P t len (ps.map fun p=>(p.1,ev e p.2))=some (E,cs)∧∃ ρ',Sat D0 w0 (pu s d (.ow d k 0 len)) (q07 h d ⟨E,k,ps.map fun p=>pe s p.2,false⟩) ρ' (upd e d (.slice (some ⟨w.heap.size,0,none⟩) len len)) (w.alloc (.cells cs E)):=by
 obtain ⟨z,he,hsz,hzs,_,_⟩:=qbT hk;have hlen:ps.length=len:=by have:=congrArg List.length hps; simpa using this
 have hvs:RdL w (dm D0 ρ h) (ps.map fun p=>pe s p.2) ρ h (ps.map fun p=>ev e p.2):=by
  have:=q4x (w:=w) (D:=dm D0 ρ h) (ρ:=ρ) (h:=h) (f:=pe s) (g:=ev e) S.pex (ps.map (·.2));rw [List.map_map,List.map_map] at this;exact this
 have hfit:∀ v ∈ ps.map (fun p=>ev e p.2),q3F k v:=fun v hv=>by
  obtain ⟨p,hp,rfl⟩:=List.mem_map.1 hv;exact q9w (hf p hp) (S.pex p.2)
 have key:∃ cs,bsV P t len (ps.map fun p=>(p.1,ev e p.2))=some (E,cs)∧cs.toList=q0h (ps.map fun p=>ev e p.2):=by
  unfold bsV;rw [he];simp only
  by_cases h0:len=0
  ·subst h0;have:ps=[]:=List.eq_nil_of_length_eq_zero hlen;subst this;rw [if_pos (by simp)];exact ⟨#[],by simp,by simp [q0h]⟩
  ·have hpos:0 < len*ksz k:=Nat.mul_pos Oq hsz;rw [if_neg (by omega),if_neg (by omega)];have hz:(ps.map fun p=>(p.1,ev e p.2))=(List.range' 0 (ps.map fun p=>ev e p.2).length).zip (ps.map fun p=>ev e p.2):=by
    rw [List.length_map,hlen,← List.range_eq_range',← hps];clear hf hps hlen hvs hfit
    induction ps with
    | nil=>rfl
    | cons p ps ih=>simp only [List.map_cons,List.zip_cons_cons,ih]
   rw [hz];obtain ⟨r,r1,r2,r3⟩:=qbO (sz:=ksz k) (ps.map fun p=>ev e p.2) 0 ((Array.range (len*ksz k)).map (z[· % z.size]!)) (fun v hv=>(hfit v hv).size) (by simp [hlen]);rw [r1];refine ⟨r,rfl,?_⟩;have hfl:(q0h (ps.map fun p=>ev e p.2)).length=len*ksz k:=by rw [q1K fun v hv=>(hfit v hv).size]; simp [hlen]
   apply List.ext_getElem?
   intro i;rw [Array.getElem?_toList,r3 i]
   split
   ·simp
   ·rename_i hc;simp [hlen] at hc;rw [List.getElem?_eq_none (by omega),Array.getElem?_eq_none (by simp; omega)]
 obtain ⟨cs,h1,h2⟩:=key;refine ⟨cs,h1,?_⟩;have hfl:(q0h (ps.map fun p=>ev e p.2)).length=len*ksz k:=by rw [q1K fun v hv=>(hfit v hv).size]; simp [hlen]
 have hcs:cs.size=len*ksz k:=by rw [← Array.length_toList,h2,hfl]
 have hml:len≤maxLen:=by
  have:len≤len*ksz k:=Nat.le_mul_of_pos_right _ hsz;simp only [maxLen]; omega
 exact S.newS (b:=⟨E,k,ps.map fun p=>pe s p.2,false⟩) hd hd5 (Kp.alloc w _) (Blk.new w E cs) (fun u hu=>by
  rw [h2] at hu;unfold q0h at hu;obtain ⟨v,hv,hu⟩:=List.mem_flatMap.1 hu;exact ((hfit v hv).one u hu).2) rfl (by simp [hlen]) (Nat.le_refl _) hml hcs (by rw [← hcs,← Array.length_toList,List.take_length]; exact h2) hvs hfit
def qei {z:Array Value} {zv:Value} (hz:zv.cells=z) (hp:0 < z.size) (n:Nat):(madeCells z (n*z.size)).toList=q0h (List.replicate n zv):=by
 have hcs:∀ v ∈ List.replicate n zv,v.cells.size=z.size:=fun v hv=>by rw [(List.mem_replicate.1 hv).2,hz]
 have hfl:=q1K hcs;rw [List.length_replicate] at hfl
 apply List.ext_getElem?
 intro i
 rcases Nat.lt_or_ge i (n*z.size) with hi | hi
 ·have hq:i / z.size < n:=by rw [Nat.div_lt_iff_lt_mul hp]; exact hi
  have hm:=Nat.mod_lt i hp;have:=q5c hcs (i:=i / z.size) (j:=i % z.size) (v:=zv) (by rw [List.getElem?_replicate,if_pos hq]) hm;rw [Nat.mul_comm,Nat.div_add_mod] at this;rw [this,hz];simp [madeCells,hi,hm]
 ·rw [List.getElem?_eq_none (by rw [Array.length_toList,size_madeCells]; exact hi),List.getElem?_eq_none (by omega)]
def mk_ok (S:Sat D0 w0 s h ρ e w) {d t E bytes n:Nat} {k:Kd} {x:PV} (hd:h d=none) (hd5:d < 5000) (hk:elZ P t=some (E,k,bytes,x)) (hn:n≤maxLen) :
  ∃ z,q09 P t=some (E,ksz k,bytes,z)∧∃ ρ',Sat D0 w0 (pu s d (.ow d k 0 n)) (q07 h d ⟨E,k,List.replicate n x,false⟩) ρ' (upd e d (.slice (some ⟨w.heap.size,0,none⟩) n n)) (w.alloc (.cells (madeCells z (n*ksz k)) E)):=by
 have key:∃ (z:Array Value) (zv:Value),elK P t=some (E,k,bytes)∧q09 P t=some (E,ksz k,bytes,z)∧0 < ksz k∧z.size=ksz k∧zv.cells=z∧q3F k zv∧Rd w (dm D0 ρ h) x ρ h zv:=by
  unfold elZ at hk
  split at hk
  ·rename_i E1 s1 b1 z' E2 b2 he hkk
   split at hk
   ·rename_i v hv;cases hk;obtain ⟨z2,q1,q2,q3,_,q4⟩:=qbT hkk;have hz2:z2=z':=by rw [q1] at he; cases he; rfl
    subst hz2;have ho:=q4 v (by rw [hv]; simp);have hzz:z2=#[v]:=by cases z2; simp at hv; rw [hv]
    exact ⟨z2,v,hkk,q1,q2,q3,by rw [hzz]; exact q2J ho.1,⟨q2J ho.1,ho⟩,by unfold Rd; rfl⟩
   ·cases hk
  ·rename_i E1 s1 b1 z' E2 n2 b2 he hkk;cases hk;obtain ⟨z2,q1,q2,q3,_,q4⟩:=qbT hkk;have hz2:z2=z':=by rw [q1] at he; cases he; rfl
   subst hz2;exact ⟨z2,.agg z2,hkk,q1,q2,q3,rfl,⟨z2,rfl,q3,q4⟩,by unfold Rd; exact ⟨z2.toList,rfl,q5h _⟩⟩
  ·cases hk
 obtain ⟨z,zv,_,he,hp,hzs,hzc,hfit,hr⟩:=key;refine ⟨z,he,?_⟩;have hfl:=qei hzc Oq n;rw [hzs] at hfl;exact S.newS (b:=⟨E,k,List.replicate n x,false⟩) (n:=n) hd hd5 (Kp.alloc w _) (Blk.new w E _) (fun u hu=>by
  rw [hfl] at hu;unfold q0h at hu;obtain ⟨v,hv,hu⟩:=List.mem_flatMap.1 hu;rw [(List.mem_replicate.1 hv).2] at hu;exact (hfit.one u hu).2) rfl (by simp) (Nat.le_refl _) hn (size_madeCells _ _) (by
   rw [List.take_of_length_le (by rw [Array.length_toList,size_madeCells]; exact Nat.le_refl _)]; exact hfl) (vs:=List.replicate n zv) (RdL.iff.2 ⟨by simp,fun i y v hy hv=>by
   rw [List.getElem?_replicate] at hy hv
   split at hy
   ·rw [if_pos ‹_›] at hv; cases hy; cases hv; exact hr
   ·cases hy⟩) (fun v hv=>by rw [(List.mem_replicate.1 hv).2]; exact hfit)
end
def stU (bk k:Kd) (j:Nat) (old x:PV):Option PV :=
 if bk=k∧j=0 then some x else
  match bk,k,old,x with
  | some _,none,.ag l,x=>if j < l.length then some (.ag (l.set j x)) else none
  | some _,some m,.ag l,.ag r=>if r.length=m∧j+m≤l.length then some (.ag (l.take j ++ r ++ l.drop (j+m))) else none
  | _,_,_,_=>none
def qrZ {bk k:Kd} {j:Nat} {old x u':PV} (h:stU bk k j old x=some u'):(bk=k∧j=0∧u'=x)∨(∃ n l,bk=some n∧k=none∧old=.ag l∧j < l.length∧u'=.ag (l.set j x))∨∃ n m l r,bk=some n∧k=some m∧old=.ag l∧x=.ag r∧r.length=m∧j+m≤l.length∧u'=.ag (l.take j ++ r ++ l.drop (j+m)):=by
 unfold stU at h
 split at h
 ·rename_i hh; cases h; exact .inl ⟨hh.1,hh.2,rfl⟩
 ·split at h
  ·split at h
   ·cases h; exact .inr (.inl ⟨_,_,rfl,rfl,rfl,‹_›,rfl⟩)
   ·cases h
  ·split at h
   ·rename_i hc; cases h; exact .inr (.inr ⟨_,_,_,_,rfl,rfl,rfl,rfl,hc.1,hc.2,rfl⟩)
   ·cases h
  ·cases h
def stl (h:Hp):Option Nat→Hp
 | none=>h
 | some i=>match h i with | some b=>q07 h i { b with st:=true } | none=>h
def apS (h:Hp) (E:TypeId) (k:Kd):PV→Option (List PV × Option Nat)
 | .vl (.slice none 0 0)=>some ([],none)
 | .ow id k' off n=>(h id).bind fun b=>if b.st=false∧b.T=E∧b.k=k∧k'=k∧off=0∧n=b.xs.length then some (b.xs,some id) else none
 | _=>none
def apX (h:Hp) (k:Kd):PV→Option (List PV × List Nat)
 | .vl (.slice none 0 0)=>some ([],[])
 | .sl k' l=>if k'=k then some (l,[]) else none
 | .ow id k' off n=>(h id).bind fun b=>if b.st=false∧b.k=k∧k'=k then some ((b.xs.drop off).take n,[id]) else none
 | _=>none
def q5R:PV→Prop
 | .ow _ _ _ _ | .pt _ _ _ | .ag _ | .tu _=>False
 | _=>True
def Cld:PV→Prop
 | .ag l=>∀ x ∈ l,q5R x
 | x=>q5R x
open Classical in
noncomputable def q3d (h:Hp):PV→Option (PV × List Nat)
 | .ow id k off n=>(h id).bind fun b=>if b.st=false∧b.k=k∧∀ x ∈ b.xs,Cld x then some (.sl k ((b.xs.drop off).take n),[id]) else none
 | x=>if q5R x then some (x,[]) else none
noncomputable def q2d (h:Hp):List PV→Option (List PV × List Nat)
 | []=>some ([],[])
 | x :: l=>(q3d h x).bind fun a=>(q2d h l).map fun b=>(a.1 :: b.1,a.2 ++ b.2)
noncomputable def clo (h:Hp):PV→Option (PV × List Nat)
 | .ag l=>(q2d h l).map fun r=>(.ag r.1,r.2)
 | x=>q3d h x
noncomputable def q2e (h:Hp):List PV→Option (List PV × List Nat)
 | []=>some ([],[])
 | x :: l=>(clo h x).bind fun a=>(q2e h l).map fun b=>(a.1 :: b.1,a.2 ++ b.2)
def Nz (r:PV):Prop:=∀ (w:World) (D B:Nat→Prop) (v:Value),(∀ g,B g→∃ cs T,Blk w g T cs∧∀ u ∈ cs.toList,q4n u=true)→Rd w D r (fun _=>none) h0 v→Rd w (fun k=>D k∧¬ B k) r (fun _=>none) h0 v
def AC (P:Program) (Tb:World→Prop) (f:FuncId) (al:List PV) (r:PV):Prop :=
 q0C P f=true∧∀ (D:Nat→Prop) (w:World) (vs:List Value),Tb w→Fr D w→RdL w D al (fun _=>none) h0 vs→Calls P f vs.toArray w fun x w'=>∃ v,x=.returned v∧Ext w w'∧Rd w' D r (fun _=>none) h0 v
section
variable {w w':World} {w0:Base} {D D0:Nat→Prop} {ρ:Nat→Option Nat} {h:Hp} {s:Nat→PV} {e:Env} {P:Program}
def Rd.cl {x:PV} {y:Value} (hx:Rd w D x (fun _=>none) h0 y):Rd w D x ρ h y:=Rd.mv (Kp.refl _ _) (fun _ _ h=>h) _ _ _ _ _ _ Cpt.h0 hx
def RdL.cl {l:List PV} {vs:List Value} (hx:RdL w D l (fun _=>none) h0 vs):RdL w D l ρ h vs:=RdL.mv (Kp.refl _ _) (fun _ _ h=>h) _ _ _ _ _ _ Cpt.h0 hx
def Rd.sub {D':Nat→Prop} {x:PV} {y:Value} (hx:Rd w D x ρ h y) (hd:∀ k,k < w.heap.size→D k→D' k):Rd w D' x ρ h y:=Rd.mv (Kp.refl _ _) hd _ _ _ _ _ _ (Cpt.ext (Kp.refl _ _)) hx
def RdL.sub {D':Nat→Prop} {x:List PV} {y:List Value} (hx:RdL w D x ρ h y) (hd:∀ k,k < w.heap.size→D k→D' k):RdL w D' x ρ h y:=RdL.mv (Kp.refl _ _) hd _ _ _ _ _ _ (Cpt.ext (Kp.refl _ _)) hx
def q6Q {x:PV} {y:Value} (hc:q5R x) (hx:Rd w D x ρ h y):Rd w D x (fun _=>none) h0 y:=by
 cases x <;> simp only [q5R] at hc <;> unfold Rd at hx ⊢ <;> exact hx
def qb4 {x:PV} {y:Value} (hc:Cld x) (hx:Rd w D x ρ h y):Rd w D x (fun _=>none) h0 y:=by
 cases x
 case ag l =>
  simp only [Cld] at hc;unfold Rd at hx ⊢;obtain ⟨vs,h1,h2⟩:=hx;obtain ⟨h3,h4⟩:=RdL.iff.1 h2;exact ⟨vs,h1,RdL.iff.2 ⟨h3,fun i z v hz hv=>q6Q (hc z (List.mem_of_getElem? hz)) (h4 i z v hz hv)⟩⟩
 all_goals exact q6Q hc hx
def Sat.row (S:Sat D0 w0 s h ρ e w) {id off n:Nat} {b:Bk} {y:Value} (hi:h id=some b) (hst:b.st=false) (hr:Rd w (dm D0 ρ h) (.ow id b.k off n) ρ h y) :
  ∃ A c vs,y=.slice A n c∧Row w (fun k=>ρ id=some k) (ksz b.k) A n c (q0h vs)∧RdL w (dm D0 ρ h) ((b.xs.drop off).take n) ρ h vs∧∀ v ∈ vs,q3F b.k v:=by
 unfold Rd at hr;obtain ⟨b',A,c,h1,_,rfl,h3,h4,h5,h6,h7⟩:=hr;rw [hi] at h1;cases h1
 by_cases hn:n=0
 ·subst hn;refine ⟨A,c,[],rfl,⟨h3,by simp [q0h],fun hx=>by simp [q0h] at hx⟩,by rw [List.take_zero]; unfold RdL; rfl,fun v hv=>by cases hv⟩
 ·rcases h6 with h6 | ⟨g,g1,g2,g3⟩
  ·omega
  ·obtain ⟨cs,c1,c2,c3⟩:=(S.own id b g hi g1).2;obtain ⟨vs,v1,v2,v3⟩:=c3 hst;have hcs:∀ v ∈ vs,v.cells.size=ksz b.k:=fun v hv=>(v3 v hv).size;have hlen:=v2.len;refine ⟨A,c,(vs.drop off).take n,rfl,⟨h3,?_,fun _=>⟨_,g2,g1,fun j u hu=>?_⟩⟩,(v2.drop off).take n,fun v hv=>v3 v (List.mem_of_mem_drop (List.mem_of_mem_take hv))⟩
   ·rw [q1K fun v hv=>hcs v (List.mem_of_mem_drop (List.mem_of_mem_take hv))]
    congr 1
    simp; omega
   ·rw [q6K fun v hv=>hcs v (List.mem_of_mem_drop hv),q6L hcs,← v1,List.getElem?_take] at hu
    split at hu
    ·rw [List.getElem?_drop,List.getElem?_take] at hu
     split at hu
     ·rw [q06,c1.cell,← Array.getElem?_toList]; exact hu
     ·cases hu
    ·cases hu
def qgN (S:Sat D0 w0 s h ρ e w) {x:PV} {r:PV × List Nat} {y:Value} (hc:q3d h x=some r) (hx:Rd w (dm D0 ρ h) x ρ h y):Rd w (fun k=>dm D0 ρ h k∨∃ i ∈ r.2,ρ i=some k) r.1 (fun _=>none) h0 y:=by
 unfold q3d at hc
 split at hc
 ·rename_i id k off n;obtain ⟨b,hb,hc⟩:=Option.bind_eq_some_iff.1 hc
  split at hc
  ·rename_i hh;obtain ⟨hst,rfl,hcl⟩:=hh;cases hc;obtain ⟨A,c,vs,rfl,q1,q2,q3⟩:=S.row hb hst hx;have hb0:off+n≤b.xs.length:=by
    unfold Rd at hx;obtain ⟨b',_,_,h1,_,_,_,_,h5,_⟩:=hx;rw [hb] at h1; cases h1; exact h5
   unfold Rd;refine ⟨A,n,c,vs,rfl,q1.sub fun k _ hk=>.inr ⟨id,by simp,hk⟩,by simp; omega,?_,q3⟩;obtain ⟨q4,q5⟩:=RdL.iff.1 q2;exact RdL.iff.2 ⟨q4,fun i z v hz hv=>(qb4 (hcl z (List.mem_of_mem_drop (List.mem_of_mem_take (List.mem_of_getElem? hz)))) (q5 i z v hz hv)).sub fun k _ hk=>.inl hk⟩
  ·cases hc
 ·split at hc
  ·rename_i hcl;cases hc;exact (q6Q hcl hx).sub fun k _ hk=>.inl hk
  ·cases hc
def qb1 (S:Sat D0 w0 s h ρ e w):∀ {l:List PV} {r:List PV × List Nat} {ys:List Value},q2d h l=some r→RdL w (dm D0 ρ h) l ρ h ys→RdL w (fun k=>dm D0 ρ h k∨∃ i ∈ r.2,ρ i=some k) r.1 (fun _=>none) h0 ys
 | [],r,ys,hc,hx=>by unfold q2d at hc; cases hc; unfold RdL at hx ⊢; exact hx
 | x :: l,r,ys,hc,hx=>by
  unfold q2d at hc;obtain ⟨a,ha,hc⟩:=Option.bind_eq_some_iff.1 hc;obtain ⟨b,hb,rfl⟩:=Option.map_eq_some_iff.1 hc;unfold RdL at hx ⊢;obtain ⟨y,zs,rfl,h1,h2⟩:=hx;exact ⟨y,zs,rfl,(qgN S ha h1).sub fun k _ hk=>hk.imp (fun h=>h) fun ⟨i,hi,h⟩=>⟨i,List.mem_append_left _ hi,h⟩,(qb1 S hb h2).sub fun k _ hk=>hk.imp (fun h=>h) fun ⟨i,hi,h⟩=>⟨i,List.mem_append_right _ hi,h⟩⟩
def quE (S:Sat D0 w0 s h ρ e w) {x:PV} {r:PV × List Nat} {y:Value} (hc:clo h x=some r) (hx:Rd w (dm D0 ρ h) x ρ h y):Rd w (fun k=>dm D0 ρ h k∨∃ i ∈ r.2,ρ i=some k) r.1 (fun _=>none) h0 y:=by
 unfold clo at hc
 split at hc
 ·obtain ⟨b,hb,rfl⟩:=Option.map_eq_some_iff.1 hc;unfold Rd at hx ⊢;obtain ⟨vs,h1,h2⟩:=hx;exact ⟨vs,h1,qb1 S hb h2⟩
 ·exact qgN S hc hx
def q4u (S:Sat D0 w0 s h ρ e w):∀ {l:List PV} {r:List PV × List Nat} {ys:List Value},q2e h l=some r→RdL w (dm D0 ρ h) l ρ h ys→RdL w (fun k=>dm D0 ρ h k∨∃ i ∈ r.2,ρ i=some k) r.1 (fun _=>none) h0 ys
 | [],r,ys,hc,hx=>by unfold q2e at hc; cases hc; unfold RdL at hx ⊢; exact hx
 | x :: l,r,ys,hc,hx=>by
  unfold q2e at hc;obtain ⟨a,ha,hc⟩:=Option.bind_eq_some_iff.1 hc;obtain ⟨b,hb,rfl⟩:=Option.map_eq_some_iff.1 hc;unfold RdL at hx ⊢;obtain ⟨y,zs,rfl,h1,h2⟩:=hx;exact ⟨y,zs,rfl,(quE S ha h1).sub fun k _ hk=>hk.imp (fun h=>h) fun ⟨i,hi,h⟩=>⟨i,List.mem_append_left _ hi,h⟩,(q4u S hb h2).sub fun k _ hk=>hk.imp (fun h=>h) fun ⟨i,hi,h⟩=>⟨i,List.mem_append_right _ hi,h⟩⟩
def q41:∀ {l:List PV} {r:List PV × List Nat},q2e h l=some r→∀ i ∈ r.2,∃ b,h i=some b:=by
 have k1:∀ {x:PV} {r:PV × List Nat},q3d h x=some r→∀ i ∈ r.2,∃ b,h i=some b:=fun {x r} hc i hi=>by
  unfold q3d at hc
  split at hc
  ·obtain ⟨b,hb,hc⟩:=Option.bind_eq_some_iff.1 hc
   split at hc
   ·cases hc; simp at hi; subst hi; exact ⟨b,hb⟩
   ·cases hc
  ·split at hc
   ·cases hc; cases hi
   ·cases hc
 have k2:∀ {l:List PV} {r:List PV × List Nat},q2d h l=some r→∀ i ∈ r.2,∃ b,h i=some b:=fun {l}=>by
  induction l with
  | nil=>intro r hc i hi; unfold q2d at hc; cases hc; cases hi
  | cons x l ih =>
   intro r hc i hi;unfold q2d at hc;obtain ⟨a,ha,hc⟩:=Option.bind_eq_some_iff.1 hc;obtain ⟨b,hb,rfl⟩:=Option.map_eq_some_iff.1 hc
   rcases List.mem_append.1 hi with hi | hi
   ·exact k1 ha i hi
   ·exact ih hb i hi
 intro l
 induction l with
 | nil=>intro r hc i hi; unfold q2e at hc; cases hc; cases hi
 | cons x l ih =>
  intro r hc i hi;unfold q2e at hc;obtain ⟨a,ha,hc⟩:=Option.bind_eq_some_iff.1 hc;obtain ⟨b,hb,rfl⟩:=Option.map_eq_some_iff.1 hc
  rcases List.mem_append.1 hi with hi | hi
  ·unfold clo at ha
   split at ha
   ·obtain ⟨b',hb',rfl⟩:=Option.map_eq_some_iff.1 ha;exact k2 hb' i hi
   ·exact k1 ha i hi
  ·exact ih hb i hi
def Sat.callv {Tb:World→Prop} (S:Sat D0 w0 s h ρ e w) (hT:Tb w) (hF:Fr D0 w0.w) {f:FuncId} {xs:List PV} {vs:List Value} {al:List PV} {ids:List Nat} {r:PV} (hx:RdL w (dm D0 ρ h) xs ρ h vs) (hc:q2e h xs=some (al,ids)) (hC:AC P Tb f al r) (hz:ids=[]∨Nz r) {K:Value→World→Prop}
  (hK:∀ v w',Sat D0 w0 s h ρ e w'→Rd w' (dm D0 ρ h) r ρ h v→K v w'):q0C P f=true∧Calls P f vs.toArray w fun x w'=>match x with | .returned v=>K v w' | _=>False:=by
 refine ⟨hC.1,?_⟩;have ha:=q4u S hc hx;have hFr:Fr (dm D0 ρ h) w:=fun k hk=>⟨hF k (Nat.le_trans S.ext.size hk),fun i b hi hr=>by have:=(S.own i b k hi hr).2.lt; omega⟩
 rcases hz with rfl | hz
 ·have ha':=ha.sub (D':=dm D0 ρ h) fun k _ hk=>hk.elim (fun h=>h) fun ⟨i,hi,_⟩=>by cases hi
  refine (hC.2 _ w _ hT hFr ha').mono fun x w' hx=>?_;obtain ⟨v,rfl,hx1,hr⟩:=hx;exact hK v w' (S.extend hx1) hr.cl
 ·have hD0:∀ k,w.heap.size≤k→D0 k:=fun k hk=>hF k (Nat.le_trans S.ext.size hk);have ha':=ha.sub (D':=fun k=>dm D0 ρ h k∨∃ i b,h i=some b∧ρ i=some k) fun k hk hq=>by
   rcases hq with hq | ⟨i,hi,hr⟩
   ·exact .inl hq
   ·by_cases hh:∃ i b,h i=some b∧ρ i=some k
    ·exact .inr hh
    ·cases hb:h i with
     | none =>
      exfalso
      obtain ⟨b,hb'⟩:=q41 hc i hi;rw [hb] at hb'; cases hb'
     | some b=>exact .inr ⟨i,b,hb,hr⟩
  have hFr':Fr (fun k=>dm D0 ρ h k∨∃ i b,h i=some b∧ρ i=some k) w:=fun k hk=>.inl (hFr k hk);refine (hC.2 _ w _ hT hFr' ha').mono fun x w' hx=>?_;obtain ⟨v,rfl,hx1,hr⟩:=hx;refine hK v w' (S.extend hx1) ?_;have:=hz w' _ (fun k=>∃ i b,h i=some b∧ρ i=some k) v (fun g ⟨i,b,hi,hr⟩=>by
   obtain ⟨cs,c1,c2,_⟩:=(S.own i b g hi hr).2;exact ⟨cs,b.T,c1.ext hx1,c2⟩) hr
  exact (this.sub fun k _ hk=>hk.1.elim (fun h=>h) fun h=>absurd h hk.2).cl
def Sat.call {Tb:World→Prop} (S:Sat D0 w0 s h ρ e w) (hT:Tb w) (hF:Fr D0 w0.w) {f:FuncId} {args:List Operand} {al:List PV} {ids:List Nat} {r:PV} (hc:q2e h (args.map (pe s))=some (al,ids)) (hC:AC P Tb f al r) (hz:ids=[]∨Nz r) {K:Value→World→Prop}
  (hK:∀ v w',Sat D0 w0 s h ρ e w'→Rd w' (dm D0 ρ h) r ρ h v→K v w'):q0C P f=true∧Calls P f (args.map (ev e)).toArray w fun x w'=>match x with | .returned v=>K v w' | _=>False :=
 S.callv hT hF (q4x (f:=pe s) (g:=ev e) S.pex args) hc hC hz hK
def Sat.store (S:Sat D0 w0 s h ρ e w) {t id i j:Nat} {a v:Operand} {b:Bk} {k:Kd} {u u':PV} (ha:pe s a=.pt id i j) (hi:h id=some b) (hst:b.st=false) (hk:q0f P t=some k) (hs:q03 P t=some (ksz k)) (hf:q7a k (pe s v)) (hu:b.xs[i]?=some u) (hsu:stU b.k k j u (pe s v)=some u')
  {K:World→Prop} (hK:∀ w',Sat D0 w0 s (q07 h id { b with xs:=b.xs.set i u' }) ρ e w'→K w'):∃ p,ev e a=.pointer (some p)∧q03 P t=some (ev e v).cells.size∧stOk w p 0 (ev e v).cells.toList∧K (stN w p 0 (ev e v).cells.toList):=by
 have hra:=S.pex a;rw [ha] at hra;unfold Rd at hra;obtain ⟨b',g,g1,g2,g3,g4⟩:=hra;rw [hi] at g1;cases g1;have hy:=S.pex v;have hfy:=q9w hf hy;obtain ⟨_,cs,c1,c2,c3⟩:=S.own id b g hi g2;obtain ⟨vs,v1,v2,v3⟩:=c3 hst;have hcs:∀ v ∈ vs,v.cells.size=ksz b.k:=fun v hv=>(v3 v hv).size;have hvl:=v2.len;obtain ⟨o,ho,hor⟩:=v2.get hu;have hfo:=v3 o (List.mem_of_getElem? ho);have hil:i < vs.length:=by omega
 have key:∃ z,Rd w (dm D0 ρ h) u' ρ h z∧q3F b.k z∧j+(ev e v).cells.toList.length≤ksz b.k∧z.cells.toList=o.cells.toList.take j ++ (ev e v).cells.toList ++ o.cells.toList.drop (j+(ev e v).cells.toList.length):=by
  rcases qrZ hsu with ⟨rfl,rfl,rfl⟩ | ⟨n,l,hbk,rfl,rfl,hjl,rfl⟩ | ⟨n,m,l,r,hbk,rfl,rfl,hx,hrm,hjl,rfl⟩
  ·refine ⟨ev e v,hy,hfy,by rw [Array.length_toList,hfy.size]; omega,?_⟩;rw [List.drop_of_length_le (by rw [Array.length_toList,hfo.size,Array.length_toList,hfy.size]; omega)];simp
  ·unfold Rd at hor;obtain ⟨us,rfl,r1⟩:=hor;rw [hbk] at hfo;have hul:=r1.len;have hn:us.length=n:=by have:=hfo.size; simpa [Value.cells,ksz] using this
   refine ⟨.agg ⟨us.set j (ev e v)⟩,by unfold Rd; exact ⟨_,rfl,r1.set hy j⟩,?_,?_,?_⟩
   ·rw [hbk];refine ⟨_,rfl,by simp [hn],fun x hx=>?_⟩;simp only at hx
    rcases List.mem_or_eq_of_mem_set hx with hx | hx
    ·exact hfo.one x (by simpa [Value.cells] using hx)
    ·rw [hx]; exact hfy.2
   ·rw [hfy.1,hbk]; simp [ksz]; omega
   ·rw [hfy.1];simp only [Value.cells];rw [List.set_eq_take_append_cons_drop,if_pos (by omega)];simp
  ·unfold Rd at hor;obtain ⟨us,rfl,r1⟩:=hor;rw [hx] at hy;unfold Rd at hy;obtain ⟨rs,hv,r2⟩:=hy;rw [hbk] at hfo;have hul:=r1.len;have hrl:=r2.len;have hn:us.length=n:=by have:=hfo.size; simpa [Value.cells,ksz] using this
   rw [hv] at hfy ⊢;refine ⟨.agg ⟨us.take j ++ rs ++ us.drop (j+m)⟩,by unfold Rd; exact ⟨_,rfl,((r1.take j).app r2).app (r1.drop (j+m))⟩,?_,?_,?_⟩
   ·rw [hbk];refine ⟨_,rfl,by simp; omega,fun x hx=>?_⟩;simp only [List.mem_append] at hx
    rcases hx with (hx | hx) | hx
    ·exact hfo.one x (by simpa [Value.cells] using List.mem_of_mem_take hx)
    ·exact hfy.one x (by simpa [Value.cells] using hx)
    ·exact hfo.one x (by simpa [Value.cells] using List.mem_of_mem_drop hx)
   ·rw [hbk]; simp [Value.cells,ksz]; omega
   ·simp only [Value.cells];rw [hrl,hrm]
 obtain ⟨z,z1,z2,z3,z4⟩:=key;have hsz:(ev e v).cells.size=ksz k:=hfy.size;have hfl:=q1K hcs;have hlt:i*ksz b.k+ksz b.k≤vs.length*ksz b.k:=by
  have:=Nat.mul_le_mul_right (ksz b.k) (show i+1≤vs.length by omega);rw [Nat.succ_mul] at this; exact this
 have hle:vs.length*ksz b.k≤cs.size:=by
  have:=congrArg List.length v1;rw [List.length_take,hfl,Array.length_toList,← hvl] at this;omega
 refine ⟨_,g4,by rw [hsz]; exact hs,?_,?_⟩
 ·have hgen:∀ (l:List Value) (m:Nat),i*ksz b.k+j+m+l.length≤cs.size→(∀ u ∈ l,u.oneCell'=true)→stOk w ⟨g,i*ksz b.k+j,none⟩ m l:=by
   intro l
   induction l with
   | nil=>intro _ _ _; trivial
   | cons x l ih =>
    intro m hm h1;rw [List.length_cons] at hm;refine ⟨?_,?_,h1 x List.mem_cons_self,ih (m+1) Oq fun u hu=>h1 u (List.mem_cons_of_mem _ hu)⟩
    ·rw [q06,c1.cell,Array.getElem?_eq_getElem (by omega)]; rfl
    ·rw [q06]; exact c1.frozen _
  exact hgen _ 0 Oq fun u hu=>(hfy.one u hu).1
 ·refine hK _ ?_;have hgen:∀ (l:List Value) (m:Nat) (w:World) (cs:Array Value),Blk w g b.T cs→i*ksz b.k+j+m+l.length≤cs.size→∃ cs',Blk (stN w ⟨g,i*ksz b.k+j,none⟩ m l) g b.T cs'∧cs'.size=cs.size∧∀ n:Nat,cs'[n]?=if i*ksz b.k+j+m≤n∧n < i*ksz b.k+j+m+l.length then l[n-(i*ksz b.k+j+m)]? else cs[n]?:=by
   intro l;generalize i*ksz b.k+j=q
   induction l with
   | nil=>intro m w cs hb _; exact ⟨cs,hb,rfl,fun n=>by rw [if_neg (by simp)]⟩
   | cons x l ih =>
    intro m w cs hb hm;rw [List.length_cons] at hm;have h5:=hb.set (q+m) x;obtain ⟨cs',q1,q2,q3⟩:=ih (m+1) _ _ h5 (by rw [Array.size_setIfInBounds]; omega);refine ⟨cs',by rw [stN,q06]; exact q1,by rw [q2,Array.size_setIfInBounds],fun n=>?_⟩;rw [q3 n,Array.getElem?_setIfInBounds,List.length_cons]
    by_cases c1:q+(m+1)≤n∧n < q+(m+1)+l.length
    ·rw [if_pos c1,if_pos (by omega),show n-(q+m)=(n-(q+(m+1)))+1 by omega,List.getElem?_cons_succ]
    ·rw [if_neg c1]
     by_cases c2:q+m=n
     ·subst c2;rw [if_pos rfl,if_pos (by omega),if_pos (by omega),Nat.sub_self]
      rfl
     ·rw [if_neg c2,if_neg (by omega)]
  obtain ⟨cs',q1,q2,q3⟩:=hgen (ev e v).cells.toList 0 w cs c1 (by rw [Array.length_toList,hsz]; rw [Array.length_toList,hsz] at z3; omega);simp only [Nat.add_zero] at q3;have hkp:Kp (fun k=>k≠g) w (stN w ⟨g,i*ksz b.k+j,none⟩ 0 (ev e v).cells.toList):=qdc _ _ _ fun _ h=>h rfl;have hoc:∀ m,m < ksz b.k→o.cells.toList[m]?=(q0h vs)[i*ksz b.k+m]?:=fun m hm=>by rw [q5c hcs ho hm,Array.getElem?_toList]
  have hol:o.cells.toList.length=ksz b.k:=by rw [Array.length_toList,hfo.size]
  have hzl:z.cells.toList.length=ksz b.k:=by rw [Array.length_toList,z2.size]
  have hzc:∀ m,m < ksz b.k→z.cells.toList[m]?=if j≤m∧m < j+(ev e v).cells.toList.length then (ev e v).cells.toList[m-j]? else (q0h vs)[i*ksz b.k+m]?:=fun m hm=>by
   rw [z4,List.append_assoc,List.getElem?_append];have e1:(o.cells.toList.take j).length=j:=by rw [List.length_take]; omega
   rw [e1]
   by_cases m1:m < j
   ·rw [if_pos m1,if_neg (by omega),List.getElem?_take,if_pos m1,hoc m hm]
   ·rw [if_neg m1,List.getElem?_append]
    by_cases m2:m-j < (ev e v).cells.toList.length
    ·rw [if_pos m2,if_pos (by omega)]
    ·rw [if_neg m2,if_neg (by omega),List.getElem?_drop,← hoc m hm]
     congr 1
     omega
  have hflat:cs'.toList.take (vs.length*ksz b.k)=q0h (vs.set i z):=by
   rw [qjQ hcs z2.size hil];have hfv:∀ m,m < vs.length*ksz b.k→(q0h vs)[m]?=cs[m]?:=fun m hm=>by
    rw [← v1,hvl.symm,List.getElem?_take,if_pos hm,Array.getElem?_toList]
   apply List.ext_getElem?
   intro m;have e2:(i+1)*ksz b.k=i*ksz b.k+ksz b.k:=Nat.succ_mul _ _;have e3:((q0h vs).take (i*ksz b.k)).length=i*ksz b.k:=by rw [List.length_take,hfl]; omega
   rw [List.getElem?_take,Array.getElem?_toList,q3 m,List.append_assoc,List.getElem?_append,e3,e2]
   by_cases m0:m < i*ksz b.k
   ·rw [if_pos (by omega),if_neg (by omega),if_pos m0,List.getElem?_take,if_pos m0,hfv m (by omega)]
   ·rw [if_neg m0,List.getElem?_append,hzl]
    by_cases m1:m-i*ksz b.k < ksz b.k
    ·rw [if_pos m1,hzc _ m1,if_pos (by omega)]
     by_cases m2:i*ksz b.k+j≤m∧m < i*ksz b.k+j+(ev e v).cells.toList.length
     ·rw [if_pos m2,if_pos (by omega)]
      congr 1
      omega
     ·rw [if_neg m2,if_neg (by omega),show i*ksz b.k+(m-i*ksz b.k)=m by omega,hfv m (by omega)]
    ·rw [if_neg m1,List.getElem?_drop,show i*ksz b.k+ksz b.k+(m-i*ksz b.k-ksz b.k)=m by omega]
     by_cases m2:m < vs.length*ksz b.k
     ·rw [if_pos m2,if_neg (by omega),hfv m m2]
     ·rw [if_neg m2,List.getElem?_eq_none (by omega)]
  have hnl:∀ x ∈ cs'.toList,q4n x=true:=fun x hx=>by
   obtain ⟨m,hm⟩:=List.getElem?_of_mem hx;rw [Array.getElem?_toList,q3 m] at hm
   split at hm
   ·exact (hfy.one x (List.mem_of_getElem? hm)).2
   ·exact c2 x (Array.mem_toList_iff.2 (Array.mem_of_getElem? hm))
  obtain ⟨S1,_,_⟩:=S.write (b':={ b with xs:=b.xs.set i u' }) hi g2 hst hkp c1 q2 q1 hnl rfl rfl hst (by simp) (vs:=vs.set i z) (by simp only [List.length_set]; rw [← hvl]; exact hflat) (v2.set z1 i) (fun x hx=>by
   rcases List.mem_or_eq_of_mem_set hx with hx | hx
   ·exact v3 x hx
   ·rw [hx]; exact z2)
  exact S1
end
section
variable {w w':World} {w0:Base} {D D0:Nat→Prop} {ρ:Nat→Option Nat} {h:Hp} {s:Nat→PV} {e:Env} {P:Program}
def Sat.stale (S:Sat D0 w0 s h ρ e w) {id:Nat} {b:Bk} (hi:h id=some b):Sat D0 w0 s (q07 h id { b with st:=true }) ρ e w:=by
 have hc:Cpt w w ρ h ρ (q07 h id { b with st:=true }):=fun i c hc=>⟨rfl,by
  by_cases he:i=id
  ·subst he; rw [hi] at hc; cases hc;exact ⟨_,q0V,rfl,Nat.le_refl _⟩
  ·exact ⟨c,by rw [q0M he]; exact hc,rfl,Nat.le_refl _⟩,fun g m _ hb=>hb⟩
 have hdd:∀ k,dm D0 ρ h k→dm D0 ρ (q07 h id { b with st:=true }) k:=fun k hq=>⟨hq.1,fun i c hc=>by
  by_cases he:i=id
  ·subst he; exact hq.2 i b hi
  ·rw [q0M he] at hc; exact hq.2 i c hc⟩
 have hk:Kp (dm D0 ρ h) w w:=Kp.refl _ _;refine ⟨fun i j c c' g' ci cj hs ri rj=>?_,fun i c g' ci ri=>?_,fun i c ci ri=>?_,fun t=>Rd.mv hk (fun k _=>hdd k) _ _ _ _ _ _ hc (S.rd t),S.ext,S.fr,S.imp,S.pin⟩
 ·by_cases ej:j=id
  ·subst ej; rw [q0V] at cj; cases cj; cases hs
  ·rw [q0M ej] at cj
   by_cases ei:i=id
   ·subst ei; rw [q0V] at ci; cases ci; exact .inr rfl
   ·rw [q0M ei] at ci;exact S.inj i j c c' g' ci cj hs ri rj
 ·by_cases ei:i=id
  ·subst ei;rw [q0V] at ci; cases ci;obtain ⟨a1,c1,c2,c3,_⟩:=S.own i b g' hi ri;exact ⟨a1,c1,c2,c3,fun hf=>by cases hf⟩
  ·rw [q0M ei] at ci;obtain ⟨a1,a2⟩:=S.own i c g' ci ri;exact ⟨a1,a2.mv rfl hk (fun k _=>hdd k) hc⟩
 ·by_cases ei:i=id
  ·subst ei; rw [q0V] at ci; cases ci; exact S.vir i b hi ri
  ·rw [q0M ei] at ci; exact S.vir i c ci ri
def Sat.dup (S:Sat D0 w0 s h ρ e w) {id d:Nat} {b:Bk} (hi:h id=some b) (hst:b.st=false) (hd:h d=none) (hd5:d < 5000) :
  Sat D0 w0 s (q07 (q07 h id { b with st:=true }) d b) (upo ρ d (ρ id)) e w∧(∀ k,dm D0 ρ h k→dm D0 (upo ρ d (ρ id)) (q07 (q07 h id { b with st:=true }) d b) k)∧Cpt w w ρ h (upo ρ d (ρ id)) (q07 (q07 h id { b with st:=true }) d b):=by
 have hne:id≠d:=fun e=>by subst e; rw [hd] at hi; cases hi
 have S1:=S.stale hi;have hold:∀ i c,q07 h id { b with st:=true } i=some c→i≠d:=fun i c hc e=>by
  subst e;rw [q0M (fun e=>hne e.symm),hd] at hc; cases hc
 have hget:∀ i c,q07 (q07 h id { b with st:=true }) d b i=some c→(i=d∧c=b)∨(i≠d∧q07 h id { b with st:=true } i=some c):=fun i c hc=>by
  by_cases he:i=d
  ·subst he; rw [q0V] at hc; cases hc; exact .inl ⟨rfl,rfl⟩
  ·rw [q0M he] at hc; exact .inr ⟨he,hc⟩
 have hc:Cpt w w ρ h (upo ρ d (ρ id)) (q07 (q07 h id { b with st:=true }) d b):=fun i c hc=>by
  have hid:i≠d:=fun e=>by subst e; rw [hd] at hc; cases hc
  refine ⟨q1H hid,?_,fun g m _ hb=>hb⟩;rw [q0M hid]
  by_cases he:i=id
  ·subst he; rw [hi] at hc; cases hc;exact ⟨_,q0V,rfl,Nat.le_refl _⟩
  ·exact ⟨c,by rw [q0M he]; exact hc,rfl,Nat.le_refl _⟩
 have hdd:∀ k,dm D0 ρ h k→dm D0 (upo ρ d (ρ id)) (q07 (q07 h id { b with st:=true }) d b) k:=fun k hq=>⟨hq.1,fun i c hc=>by
  rcases hget i c hc with ⟨rfl,rfl⟩ | ⟨h1,h2⟩
  ·rw [q13]; exact hq.2 id c hi
  ·rw [q1H h1]
   by_cases he:i=id
   ·subst he; exact hq.2 i b hi
   ·rw [q0M he] at h2; exact hq.2 i c h2⟩
 have hk:Kp (dm D0 ρ h) w w:=Kp.refl _ _;refine ⟨⟨fun i j c c' g' ci cj hs ri rj=>?_,fun i c g' ci ri=>?_,fun i c ci ri=>?_,fun t=>Rd.mv hk (fun k _=>hdd k) _ _ _ _ _ _ hc (S.rd t),S.ext,S.fr,S.imp,S.pino hd5⟩,hdd,hc⟩
 ·rcases hget i c ci with ⟨rfl,rfl⟩ | ⟨i1,i2⟩ <;> rcases hget j c' cj with ⟨rfl,rfl⟩ | ⟨j1,j2⟩
  ·exact .inl rfl
  ·rw [q13] at ri; rw [q1H j1] at rj
   by_cases ej:j=id
   ·subst ej; rw [q0V] at j2; cases j2; cases hs
   ·rw [q0M ej] at j2
    rcases S.inj j id c' c g' j2 hi hst rj ri with h | h
    ·exact absurd h ej
    ·rw [hs] at h; cases h
  ·rw [q13] at rj; rw [q1H i1] at ri
   by_cases ei:i=id
   ·subst ei; rw [q0V] at i2; cases i2; exact .inr rfl
   ·rw [q0M ei] at i2
    rcases S.inj i id c c' g' i2 hi hst ri rj with h | h
    ·exact absurd h ei
    ·exact .inr h
  ·rw [q1H i1] at ri; rw [q1H j1] at rj;exact S1.inj i j c c' g' i2 j2 hs ri rj
 ·rcases hget i c ci with ⟨rfl,rfl⟩ | ⟨i1,i2⟩
  ·rw [q13] at ri;obtain ⟨a1,a2⟩:=S.own id c g' hi ri;exact ⟨a1,a2.mv rfl hk (fun k _=>hdd k) hc⟩
  ·rw [q1H i1] at ri
   by_cases ei:i=id
   ·subst ei;rw [q0V] at i2; cases i2;obtain ⟨a1,c1,c2,c3,_⟩:=S.own i b g' hi ri;exact ⟨a1,c1,c2,c3,fun hf=>by cases hf⟩
   ·rw [q0M ei] at i2;obtain ⟨a1,a2⟩:=S.own i c g' i2 ri;exact ⟨a1,a2.mv rfl hk (fun k _=>hdd k) hc⟩
 ·rcases hget i c ci with ⟨rfl,rfl⟩ | ⟨i1,i2⟩
  ·rw [q13] at ri; exact S.vir id c hi ri
  ·rw [q1H i1] at ri
   by_cases ei:i=id
   ·subst ei; rw [q0V] at i2; cases i2; exact S.vir i b hi ri
   ·rw [q0M ei] at i2; exact S.vir i c i2 ri
def q8a {i d:Nat} {b c:Bk} (hne:i≠d):q07 (q07 h d b) i c=q07 (q07 h i c) d b:=by
 funext j
 unfold q07
 by_cases h1:j=i
 ·subst h1; rw [if_pos rfl,if_neg hne,if_pos rfl]
 ·by_cases h2:j=d
  ·subst h2; simp [h1]
  ·simp [h1,h2]
def qfE {d:Nat} {b c:Bk}:q07 (q07 h d b) d c=q07 h d c:=by
 funext j
 unfold q07
 by_cases h1:j=d <;> simp [h1]
def q6T {T ty E:Nat} {i:TypeInfo} (hu:P.underlying T=some (.slice E)) (hi:P.info? E=some i) {A A2:Option Addr} {n c c2:Nat} (hcap:n≤c):(Builtin.append_ #[T,T] ty #[.slice A n c,.slice A2 0 c2]).run P w=.ok (.slice A n c) w:=by
 cases A2 with
 | none=>cases A <;> simp [Builtin.append_,run_underlying hu,Go.sizeOf,typeInfo,hi,Builtin.lenOf,Builtin.firstCells,hcap,storeCells]
 | some ad=>cases A <;> simp [Builtin.append_,run_underlying hu,Go.sizeOf,typeInfo,hi,Builtin.lenOf,Builtin.firstCells,loadCells,loadCellsFrom,hcap,storeCells]
def qc8 {T E sz bytes:Nat} {z:Array Value} (he:q09 P T=some (E,sz,bytes,z)):∃ (i:TypeInfo) (zv:Value),P.underlying T=some (.slice E)∧P.info? E=some i∧i.zero=some zv∧i.size=sz∧i.bytes=bytes∧zv.cells=z:=by
 unfold q09 at he
 split at he
 case h_2=>cases he
 rename_i e hu;obtain ⟨i,hi,hx⟩:=Option.bind_eq_some_iff.1 he;obtain ⟨zv,hz,hx⟩:=Option.map_eq_some_iff.1 hx;simp only [Prod.mk.injEq] at hx;obtain ⟨rfl,rfl,rfl,rfl⟩:=hx;exact ⟨i,zv,hu,hi,hz,rfl,rfl,rfl⟩
def qmM {z:Array Value} {n:Nat} (hz:∀ u ∈ z.toList,u.oneCell'=true∧q4n u=true):∀ u ∈ (Builtin.zeroCells z n).toList,q4n u=true:=fun u hu=>by
 unfold Builtin.zeroCells at hu;rw [Array.toList_map] at hu;obtain ⟨i,hi,rfl⟩:=List.mem_map.1 hu;simp at hi;have hp:0 < z.size:=by
  rcases Nat.eq_zero_or_pos z.size with h | h
  ·rw [h] at hi; omega
  ·exact h
 have hm:=Nat.mod_lt i hp;have:z[i % z.size]! = z[i % z.size]:=by simp [hm]
 rw [this];exact (hz _ (by simp)).2
def Sat.append (S:Sat D0 w0 s h ρ e w) {d T ty E bytes:Nat} {k:Kd} {sx xx:Operand} {xs ys:List PV} {i0:Option Nat} {ids:List Nat} (hd:h d=none) (hd5:d < 5000) (hk:elK P T=some (E,k,bytes)) (hs:apS h E k (pe s sx)=some (xs,i0)) (hx:apX h k (pe s xx)=some (ys,ids)) (hlen:(xs.length+ys.length)*(bytes+1)≤140737488355328) :
  ∃ v w',(Builtin.append_ #[T,T] ty #[ev e sx,ev e xx]).run P w=.ok v w'∧∃ ρ',Sat D0 w0 (pu s d (.ow d k 0 (xs.length+ys.length))) (q07 (stl h i0) d ⟨E,k,xs ++ ys,false⟩) ρ' (upd e d v) w':=by
 obtain ⟨z,he,hsz,hzs,_,hz1⟩:=qbT hk;obtain ⟨i,zv,hu,hi,hz,hsi,hby,hzc⟩:=qc8 he;have hmb:xs.length+ys.length≤maxLen:=by
  have:xs.length+ys.length≤(xs.length+ys.length)*(bytes+1):=Nat.le_mul_of_pos_right _ Oq;simp only [maxLen]; omega
 have hbb:(xs.length+ys.length)*bytes≤140737488355328:=Nat.le_trans (Nat.mul_le_mul_left _ Oq) hlen;have hmb':xs.length+ys.length≤9223372036854775807:=by simp only [maxLen] at hmb; omega
 have hD1:=Kp.refl (fun _=>True) w;have hX:∃ A2 c2 us,ev e xx=.slice A2 ys.length c2∧Row w (fun _=>True) (ksz k) A2 ys.length c2 (q0h us)∧RdL w (dm D0 ρ h) ys ρ h us∧∀ v ∈ us,q3F k v:=by
  have hr:=S.pex xx;unfold apX at hx
  split at hx
  ·rename_i hxx;cases hx;rw [hxx] at hr;unfold Rd at hr;exact ⟨none,0,[],hr,Row.nil _ _ _,by unfold RdL; rfl,fun v hv=>by cases hv⟩
  ·rename_i k' l hxx
   split at hx
   ·rename_i hkk;cases hx;rw [hxx,hkk] at hr;unfold Rd at hr;obtain ⟨A,n,c,vs,q1,q2,q3,q4,q5⟩:=hr;rw [← q3] at q1 q2;exact ⟨A,c,vs,q1,q2.sub fun _ _ _=>trivial,q4.cl,q5⟩
   ·cases hx
  ·rename_i id k' off n hxx;obtain ⟨b,hb,hx⟩:=Option.bind_eq_some_iff.1 hx
   split at hx
   ·rename_i hc;obtain ⟨c1,c2,c3⟩:=hc;cases hx;subst c3;subst c2;rw [hxx] at hr;obtain ⟨A,c,vs,q1,q2,q3,q4⟩:=S.row hb c1 hr;have hn:((b.xs.drop off).take n).length=n:=by
     unfold Rd at hr;obtain ⟨b',_,_,r1,_,_,_,_,r5,_⟩:=hr;rw [hb] at r1; cases r1;simp; omega
    rw [hn];exact ⟨A,c,vs,q1,q2.sub fun _ _ _=>trivial,q3,q4⟩
   ·cases hx
  ·cases hx
 obtain ⟨A2,c2,us,hxv,hrow,hus,hfu⟩:=hX;have hul:(q0h us).length=ys.length*ksz k:=hrow.len;have huone:∀ u ∈ q0h us,u.oneCell'=true∧q4n u=true:=fun u hu=>by
  unfold q0h at hu;obtain ⟨v,hv,hu⟩:=List.mem_flatMap.1 hu;exact (hfu v hv).one u hu
 rw [hxv];have fresh:∀ {xv:List Value} {c:Nat},RdL w (dm D0 ρ h) xs ρ h xv→(∀ v ∈ xv,q3F k v)→xs.length+ys.length≤c→c≤maxLen→∀ w',Ext w w'→Blk w' w.heap.size E ((q0h xv).toArray ++ (q0h us).toArray ++ Builtin.zeroCells z (c-(xs.length+ys.length))) →
   ∃ ρ',Sat D0 w0 (pu s d (.ow d k 0 (xs.length+ys.length))) (q07 h d ⟨E,k,xs ++ ys,false⟩) ρ' (upd e d (.slice (some ⟨w.heap.size,0,none⟩) (xs.length+ys.length) c)) w':=fun {xv c} hxv hfx h1 h2 w' hx hb=>by
  have hcs:∀ v ∈ xv,v.cells.size=ksz k:=fun v hv=>(hfx v hv).size;have hxl:(q0h xv).length=xs.length*ksz k:=by rw [q1K hcs,hxv.len]
  refine S.newS (b:=⟨E,k,xs ++ ys,false⟩) (n:=xs.length+ys.length) hd hd5 hx hb (fun u hu=>?_) rfl (by simp) h1 h2 ?_ (vs:=xv ++ us) ?_ (hxv.app hus) (fun v hv=>by
   rcases List.mem_append.1 hv with hv | hv
   ·exact hfx v hv
   ·exact hfu v hv)
  ·simp only [Array.toList_append,List.mem_append] at hu
   rcases hu with (hu | hu) | hu
   ·have hu:u ∈ q0h xv:=hu;unfold q0h at hu;obtain ⟨v,hv,hu⟩:=List.mem_flatMap.1 hu;exact ((hfx v hv).one u hu).2
   ·exact (huone u (by simpa using hu)).2
   ·exact qmM hz1 u hu
  ·simp only [Array.size_append,List.size_toArray,hxl,hul,size_zeroCells,hzs,← Nat.add_mul]
   congr 1
   omega
  ·have:((q0h xv).toArray ++ (q0h us).toArray ++ Builtin.zeroCells z (c-(xs.length+ys.length))).toList=q0h (xv ++ us) ++ (Builtin.zeroCells z (c-(xs.length+ys.length))).toList:=by simp [q5d]
   rw [this];have hl:(xs.length+ys.length)*ksz k=(q0h (xv ++ us)).length:=by rw [q5d,List.length_append,hxl,hul,Nat.add_mul]
   rw [hl];exact List.take_left
 have hgc:∀ old,old < xs.length+ys.length→xs.length+ys.length≤grownCap w (xs.length+ys.length) old E∧grownCap w (xs.length+ys.length) old E≤maxLen:=fun old ho=>⟨grownCap_ge w _ old E,grownCap_le_maxLen w _ old E hmb⟩;have hdrew:∀ (cs:Array Value),Ext w (w.drew.alloc (.cells cs E)):=fun cs=>(Kp.drew w _).trans (Kp.alloc _ _);have nilc:xs=[]→∃ v w',(Builtin.append_ #[T,T] ty #[.slice none 0 0,.slice A2 ys.length c2]).run P w=.ok v w'∧∃ ρ',Sat D0 w0 (pu s d (.ow d k 0 (xs.length+ys.length))) (q07 h d ⟨E,k,xs ++ ys,false⟩) ρ' (upd e d v) w':=fun h0=>by
  subst h0;simp only [List.length_nil,Nat.zero_add,List.nil_append] at fresh hgc ⊢
  by_cases hm:ys.length=0
  ·rw [hm];refine ⟨_,_,q6T hu hi (Nat.le_refl _),?_⟩;have hy:ys=[]:=List.eq_nil_of_length_eq_zero hm;subst hy;obtain ⟨S1,_,_⟩:=S.virt (b:=⟨E,k,[],false⟩) hd hd5 rfl;exact ⟨_,S1.put d (by unfold Rd; exact ⟨_,none,0,q0V,rfl,rfl,Nat.le_refl _,by simp [maxLen],Nat.le_refl _,.inl rfl,fun _=>.inl ⟨rfl,rfl⟩⟩)⟩
  ·obtain ⟨ad,rfl,_,hc⟩:=hrow.at_ (by rw [hul]; exact Nat.mul_pos (by omega) hsz);have hr:=run_append_nil (P:=P) w T ty E i zv hu hi hz ad ys.length c2 (q0h us) (by rw [hsi]; exact hul) hc (by omega) (by simp only [List.length_nil,Nat.zero_add] at hmb'; omega) (by rw [hby]; simp only [List.length_nil,Nat.zero_add] at hbb; omega);refine ⟨_,_,hr,?_⟩;have hg:=hgc 0 Oq;have:=fresh (xv:=[]) (c:=grownCap w ys.length 0 E) (by unfold RdL; rfl) (fun v hv=>by cases hv) hg.1 hg.2 (w.drew.alloc (.cells ((q0h us).toArray ++ Builtin.zeroCells z (grownCap w ys.length 0 E-ys.length)) E)) (hdrew _) (by
    have:=Blk.new w.drew E ((q0h us).toArray ++ Builtin.zeroCells z (grownCap w ys.length 0 E-ys.length));simpa [q0h] using this)
   rw [hzc];exact this
 have hr:=S.pex sx;unfold apS at hs
 split at hs
 ·rename_i hsx;cases hs;rw [hsx] at hr;unfold Rd at hr;rw [hr];exact nilc rfl
 ·rename_i id k' off n hsx;obtain ⟨b,hb,hs⟩:=Option.bind_eq_some_iff.1 hs
  split at hs
  ·rename_i hc;obtain ⟨c1,c2',c3,c4,c5,c6⟩:=hc;cases hs;subst c5;subst c6;rw [hsx,c4] at hr;unfold Rd at hr;obtain ⟨b',A,c,r1,_,r3,r4,r5,_,_,r7⟩:=hr;rw [hb] at r1;cases r1;have hne:id≠d:=fun e=>by subst e; rw [hd] at hb; cases hb
   have hbe:b=⟨E,k,b.xs,false⟩:=by cases b; simp_all
   have hstl:stl h (some id)=q07 h id { b with st:=true }:=by simp only [stl,hb]
   rw [r3,hstl]
   rcases r7 rfl with ⟨rfl,rfl⟩ | ⟨g,g1,rfl,hbz⟩
   ·have h0:b.xs.length=0:=by omega
    obtain ⟨v,w',q1,ρ',q2⟩:=nilc (List.eq_nil_of_length_eq_zero h0);rw [h0];refine ⟨v,w',q1,ρ',?_⟩;have:=q2.stale (id:=id) (b:=b) (by rw [q0M hne]; exact hb);rw [q8a hne] at this;rw [h0] at this;exact this
   ·obtain ⟨_,cs,k1,k2,k3⟩:=S.own id b g hb g1;obtain ⟨xv,x1,x2,x3⟩:=k3 c1;rw [c3] at x1 x3;rw [c2'] at k1;have hcs:∀ v ∈ xv,v.cells.size=ksz k:=fun v hv=>(x3 v hv).size;have hxl:(q0h xv).length=b.xs.length*ksz k:=by rw [q1K hcs,x2.len]
    have hcsz:cs.size=c*ksz k:=by
     obtain ⟨cs',T',q1,q2⟩:=hbz;have h5:=k1.symm.trans q1
     injection h5 with h5
     injection h5 with h5 h6
     subst h5;rw [Nat.zero_add] at q2;exact q2
    by_cases hm:ys.length=0
    ·have hy:ys=[]:=List.eq_nil_of_length_eq_zero hm;subst hy;refine ⟨_,_,q6T hu hi r4,?_⟩;obtain ⟨S1,_,_⟩:=S.dup hb c1 hd hd5;rw [List.append_nil,List.length_nil,Nat.add_zero];rw [← hbe];refine ⟨_,S1.put d ?_⟩;unfold Rd;have hat:AtO w (upo ρ d (ρ id) d) (some ⟨g,0*ksz k,none⟩) (0*ksz k) ((0+c)*ksz k):=⟨g,by rw [q13]; exact g1,rfl,hbz⟩;exact ⟨b,_,c,q0V,c3,rfl,r4,r5,by omega,.inr hat,fun _=>.inr hat⟩
    ·obtain ⟨ad,rfl,_,hc⟩:=hrow.at_ (by rw [hul]; exact Nat.mul_pos (by omega) hsz);rw [Nat.zero_mul]
     by_cases hroom:b.xs.length+ys.length≤c
     ·have hfit:b.xs.length*i.size+(q0h us).length≤cs.size:=by rw [hul,hcsz,hsi,← Nat.add_mul]; exact Nat.mul_le_mul_right _ hroom
      have hrun:=run_append_room (P:=P) w T ty E i hu hi g b.xs.length c cs k1 ad ys.length c2 (q0h us) (by rw [hsi]; exact hul) hc (fun u hu=>(huone u hu).1) hroom hfit;refine ⟨_,_,hrun,?_⟩;rw [hsi];obtain ⟨S1,hd1,hc1⟩:=S.dup hb c1 hd hd5;have hx1:cs.toList.take (b.xs.length*ksz k)=q0h xv:=x1;have hrow2:Blk (w.setRow g (cs.toList.take (b.xs.length*ksz k) ++ q0h us ++ cs.toList.drop (b.xs.length*ksz k+(q0h us).length)).toArray) g E (cs.toList.take (b.xs.length*ksz k) ++ q0h us ++ cs.toList.drop (b.xs.length*ksz k+(q0h us).length)).toArray:=setRow_heap w g cs _ E _ k1;have hkp:Kp (fun k=>k≠g) w (w.setRow g (cs.toList.take (b.xs.length*ksz k) ++ q0h us ++ cs.toList.drop (b.xs.length*ksz k+(q0h us).length)).toArray):=⟨rfl,rfl,rfl,by simp,fun k _ hk=>setRow_other w g k _ hk⟩;have hle:b.xs.length*ksz k≤cs.size:=by rw [hcsz]; exact Nat.mul_le_mul_right _ (by omega)
      have hsz2:(cs.toList.take (b.xs.length*ksz k) ++ q0h us ++ cs.toList.drop (b.xs.length*ksz k+(q0h us).length)).toArray.size=cs.size:=by
       rw [hsi] at hfit;simp only [List.size_toArray,List.length_append,List.length_take,List.length_drop,Array.length_toList];omega
      obtain ⟨S2,_,_⟩:=S1.write (id:=d) (b:=b) (b':=⟨E,k,b.xs ++ ys,false⟩) q0V (by rw [q13]; exact g1) c1 hkp (by rw [c2']; exact k1) hsz2 (by rw [c2']; exact hrow2) (fun u hu=>by
        simp only [List.mem_append] at hu
        rcases hu with (hu | hu) | hu
        ·exact k2 u (List.mem_of_mem_take hu)
        ·exact (huone u hu).2
        ·exact k2 u (List.mem_of_mem_drop hu)) c2'.symm c3.symm rfl (by simp) (vs:=xv ++ us) (by
        rw [c3,hx1,q5d];have hl:(b.xs ++ ys).length*ksz k=(q0h xv ++ q0h us).length:=by rw [List.length_append,List.length_append,hxl,hul,Nat.add_mul]
        rw [hl];exact List.take_left) ((RdL.mv (Kp.refl _ _) (fun k _=>hd1 k) _ _ _ _ _ _ hc1 x2).app (RdL.mv (Kp.refl _ _) (fun k _=>hd1 k) _ _ _ _ _ _ hc1 hus)) (fun v hv=>by
        rw [c3]
        rcases List.mem_append.1 hv with hv | hv
        ·exact x3 v hv
        ·exact hfu v hv)
      rw [qfE] at S2;refine ⟨_,S2.put d ?_⟩;unfold Rd;have hat:AtO (w.setRow g (cs.toList.take (b.xs.length*ksz k) ++ q0h us ++ cs.toList.drop (b.xs.length*ksz k+(q0h us).length)).toArray) (upo ρ d (ρ id) d) (some ⟨g,0,none⟩) (0*ksz k) ((0+c)*ksz k):=⟨g,by rw [q13]; exact g1,by rw [Nat.zero_mul],_,E,hrow2,by rw [hsz2,Nat.zero_add]; exact hcsz⟩;exact ⟨_,_,c,q0V,rfl,rfl,hroom,r5,by simp,.inr hat,fun _=>.inr hat⟩
     ·have holds:∀ j u,(q0h xv)[j]?=some u→w.cell? ((⟨g,0,none⟩:Addr).add j)=some u:=fun j u hu=>by
       rw [q06,Nat.zero_add,k1.cell];rw [← x1,List.getElem?_take] at hu
       split at hu
       ·rw [← Array.getElem?_toList]; exact hu
       ·cases hu
      have hrun:=run_append_grow (P:=P) w T ty E i zv hu hi hz ⟨g,0,none⟩ b.xs.length c (q0h xv) (by rw [hsi]; exact hxl) holds ad ys.length c2 (q0h us) (by rw [hsi]; exact hul) hc (by omega) (by omega) (growslice_fits (by omega) (by rw [hby]; exact hbb));refine ⟨_,_,hrun,?_⟩;have hg:=hgc c Oq;rw [hzc];obtain ⟨ρ',q⟩:=fresh (xv:=xv) (c:=grownCap w (b.xs.length+ys.length) c E) x2 x3 hg.1 hg.2 (w.drew.alloc (.cells ((q0h xv).toArray ++ (q0h us).toArray ++ Builtin.zeroCells z (grownCap w (b.xs.length+ys.length) c E-(b.xs.length+ys.length))) E)) (hdrew _) (Blk.new w.drew E _);refine ⟨ρ',?_⟩;have:=q.stale (id:=id) (b:=b) (by rw [q0M hne]; exact hb);rw [q8a hne] at this;exact this
  ·cases hs
 ·cases hs
end
abbrev FP:=List Nat × List Nat
def FnP (x:PV) (f:FuncId) (ys:List PV):Prop:=∀ w D ρ h v,Rd w D x ρ h v→∃ cap,v=.func (.func f) #[] ⟨cap⟩∧RdL w D ys ρ h cap
def Stp (P:Program) (Tb:World→Prop) (o:Oper) (s:Nat→PV) (h:Hp) (x:PV) (h':Hp) (fp:FP):Prop :=
 match o.op with
 | .load t a=>∃ r,ldP h (q0f P t) (pe s a)=some r∧x=r.1∧fp=(r.2,[])∧h'=h
 | .alloc t=>∃ d b,o.dst=some d∧(h d=none∧d < 5000)∧alB P t=some b∧x=.pt d 0 0∧h'=q07 h d b∧fp=([],[d])
 | .box t v=>∃ d k,o.dst=some d∧(h d=none∧d < 5000)∧q0f P t=some k∧q7a k (pe s v)∧x=.pt d 0 0∧h'=q07 h d ⟨t,k,[pe s v],false⟩∧fp=([],[d])
 | .buildSlice t len ps=>∃ d E k bytes,o.dst=some d∧(h d=none∧d < 5000)∧elK P t=some (E,k,bytes)∧ps.toList.map (·.1)=List.range len∧len*ksz k≤16777216∧(∀ p ∈ ps.toList,q7a k (pe s p.2))∧x=.ow d k 0 len∧h'=q07 h d ⟨E,k,ps.toList.map fun p=>pe s p.2,false⟩∧fp=([],[d])
 | .makeSlice t l c=>∃ d E k bytes z kl kc,∃ n:Nat,o.dst=some d∧(h d=none∧d < 5000)∧elZ P t=some (E,k,bytes,z)∧pe s l=.vl (.int kl n)∧pe s c=.vl (.int kc n)∧bytes*n≤281474976710656∧n≤maxLen∧x=.ow d k 0 n∧h'=q07 h d ⟨E,k,List.replicate n z,false⟩∧fp=([],[d])
 | .store t a v=>∃ id i j b k u u',pe s a=.pt id i j∧h id=some b∧b.st=false∧q0f P t=some k∧q03 P t=some (ksz k)∧q7a k (pe s v)∧b.xs[i]?=some u∧stU b.k k j u (pe s v)=some u'∧x=.vl undef∧h'=q07 h id { b with xs:=b.xs.set i u' }∧fp=([id],[id])
 | .call c=>match c.callee with
  | .builtin .append=>∃ sx xx T d E k bytes xs ys i0 ids,c.args=#[sx,xx]∧c.argTypes=#[T,T]∧o.dst=some d∧(h d=none∧d < 5000)∧elK P T=some (E,k,bytes)∧apS h E k (pe s sx)=some (xs,i0)∧apX h k (pe s xx)=some (ys,ids)∧(xs.length+ys.length)*(bytes+1)≤140737488355328∧x=.ow d k 0 (xs.length+ys.length)∧h'=q07 (stl h i0) d ⟨E,k,xs ++ ys,false⟩∧fp=(ids,d :: i0.toList)
  | .value (.func f)=>∃ al ids,q2e h (c.args.toList.map (pe s))=some (al,ids)∧AC P Tb f al x∧(ids=[]∨Nz x)∧h'=h∧fp=(ids,[])
  | .value (.tmp t)=>∃ f ys al ids,FnP (s t) f ys∧q2e h (c.args.toList.map (pe s) ++ ys)=some (al,ids)∧AC P Tb f al x∧(ids=[]∨Nz x)∧h'=h∧fp=(ids,[])
  | _=>q5J P o.op (pe s)=some x∧h'=h∧fp=([],[])
 | op=>q5J P op (pe s)=some x∧h'=h∧fp=([],[])
def q3P (ops:List Oper) (s:Nat→PV) (j:Nat) (b:Bool):Option Bool:=match (ops[j]?).bind (·.dst) with | some d=>(match s d with | .vl (.bool c)=>some c | .vl (.tuple _)=>some (!b) | _=>none) | none=>none
def q7w (P:Program) (Tb:World→Prop) (ops:List Oper) (o:Oper) (s:Nat→PV) (h:Hp) (x:PV) (h':Hp) (fp:FP):Prop :=
 match o.guard with
 | none=>Stp P Tb o s h x h' fp
 | some (j,b)=>∃ c,q3P ops s j b=some c∧if c=b then Stp P Tb o s h x h' fp else x=.vl undef∧h'=h∧fp=([],[])
section
variable {w w':World} {w0:Base} {D D0:Nat→Prop} {ρ:Nat→Option Nat} {h h':Hp} {s:Nat→PV} {e:Env} {P:Program} {Tb:World→Prop} {x:PV} {fp:FP}
def qhW {dst:Option Nat} {f t:Nat} {cap:List Value} {args:Array Operand} {tys:Array TypeId} {ty:TypeId} {pos:String} {af:Array Edge} {gd:Option (Nat × Bool)} {K:Value→World→Prop} (hv:e t=.func (.func f) #[] ⟨cap⟩)
  (h:q0C P f=true∧Calls P f (args.toList.map (ev e) ++ cap).toArray w fun x w'=>match x with | .returned v=>K v w' | _=>False):wo P ⟨dst,.call ⟨.value (.tmp t),args,tys⟩,ty,pos,af,gd⟩ e w K:=by
 obtain ⟨hf,h⟩:=h;have ha:(args.toList.map (ev e) ++ cap).toArray=args.map (ev e) ++ (⟨cap⟩:Array Value):=by
  cases args;simp
 rw [ha] at h;have key:(callFunc f (args.map (ev e) ++ (⟨cap⟩:Array Value))).run P w=.ok (.enter f (args.map (ev e) ++ (⟨cap⟩:Array Value))) w:=by
  unfold q0C at hf;cases hfn:P.funcs[f]? with
  | none=>simp [hfn] at hf
  | some fn =>
   simp only [hfn,Bool.and_eq_true] at hf;obtain ⟨h1,h2⟩:=hf;obtain ⟨b,hb⟩:=Option.isSome_iff_exists.1 h1;simp only [Bool.not_eq_true',beq_eq_false_iff_ne,ne_eq] at h2;simp [callFunc,hfn,hb,h2]
 have key2:(execOp (ev e) ⟨dst,.call ⟨.value (.tmp t),args,tys⟩,ty,pos,af,gd⟩).run P w=.ok (.enter f (args.map (ev e) ++ (⟨cap⟩:Array Value))) w:=by
  have hv':ev e (.tmp t)=.func (.func f) #[] ⟨cap⟩:=hv;simp only [execOp,resolve,Deferred.ofValue,hv',pure_bind,invoke];simp [key]
 show RO P K _
 rw [key2];exact h
def qk1 (S:Sat D0 w0 s h ρ e w) (hT:Tb w) (hF:Fr D0 w0.w) {o:Oper} (hs:Stp P Tb o s h x h' fp):wo P o e w fun v w'=>∃ ρ',Sat D0 w0 (q36 s o.dst x) h' ρ' (E.put e o.dst v) w':=by
 obtain ⟨dst,op,ty,pos,af,gd⟩:=o;have pure:q5J P op (pe s)=some x∧h'=h∧fp=([],[])→wo P ⟨dst,op,ty,pos,af,gd⟩ e w fun v w'=>∃ ρ',Sat D0 w0 (q36 s dst x) h' ρ' (E.put e dst v) w':=fun ⟨h1,h2,_⟩=>by
  subst h2;exact qnR S (o:=⟨dst,op,ty,pos,af,gd⟩) h1 fun v hv=>⟨ρ,S.puto dst hv⟩
 unfold Stp at hs;cases op <;> simp only at hs <;> try (exact pure hs)
 case load t a =>
  obtain ⟨r,h1,rfl,_,rfl⟩:=hs;obtain ⟨v,hv,hr⟩:=qej S h1;simp only [wo];rw [hv];exact ⟨ρ,S.puto dst hr⟩
 case alloc t =>
  obtain ⟨d,b,rfl,h1,h2,rfl,rfl,_⟩:=hs;obtain ⟨z,hz,ρ',S'⟩:=qjx S h1.1 h1.2 h2;simp only [wo];rw [hz];exact ⟨ρ',S'⟩
 case box t v =>
  obtain ⟨d,k,rfl,h1,_,h2,rfl,rfl,_⟩:=hs;simp only [wo];exact S.newP (b:=⟨t,k,[pe s v],false⟩) h1.1 h1.2 rfl (S.pex v) (q9w h2 (S.pex v))
 case buildSlice t len ps =>
  obtain ⟨d,E,k,bytes,rfl,h1,h2,h3,h4,h5,rfl,rfl,_⟩:=hs;obtain ⟨cs,hcs,ρ',S'⟩:=bs_ok S h1.1 h1.2 h2 h3 h4 h5;simp only [wo,Array.toList_map];rw [hcs];exact ⟨ρ',S'⟩
 case makeSlice t l c =>
  obtain ⟨d,E,k,bytes,z,kl,kc,n,rfl,h1,h2,h3,h4,h5,h6,rfl,rfl,_⟩:=hs;obtain ⟨z',hz,ρ',S'⟩:=mk_ok S h1.1 h1.2 h2 h6;have hl:=S.pex l;have hc:=S.pex c;rw [h3] at hl;rw [h4] at hc;unfold Rd at hl hc;simp only [wo,hl,hc,hz,q3Q];refine ⟨⟨by omega,Int.le_refl _,?_,by simp only [maxLen] at h6; omega⟩,ρ',by simp only [Int.toNat_natCast]; exact S'⟩;have:((bytes*n:Nat):Int)≤281474976710656:=by omega
  rwa [Int.natCast_mul] at this
 case store t a v =>
  obtain ⟨id,i,j,b,k,u,u',h1,h2,h3,h4,h5,h6,h7,h8,rfl,rfl,_⟩:=hs;obtain ⟨p,hp,q1,q2,q3⟩:=S.store (K:=fun w'=>∃ ρ',Sat D0 w0 (q36 s dst (.vl undef)) (q07 h id { b with xs:=b.xs.set i u' }) ρ' (E.put e dst undef) w') h1 h2 h3 h4 h5 h6 h7 h8 fun w' S'=>⟨ρ,S'.puto dst (by unfold Rd; rfl)⟩;simp only [wo,hp];exact ⟨q1,q2,q3⟩
 case call c =>
  obtain ⟨callee,args,tys⟩:=c;simp only at hs
  split at hs
  ·obtain ⟨sx,xx,T,d,E,k,bytes,xs,ys,i0,ids,rfl,rfl,rfl,h1,h2,h3,h4,h5,rfl,rfl,_⟩:=hs;obtain ⟨v,w',hrun,ρ',S'⟩:=S.append (ty:=ty) h1.1 h1.2 h2 h3 h4 h5;rw [q5k];exact qaN hrun ⟨ρ',S'⟩
  ·rename_i f;obtain ⟨al,ids,h1,h2,h3,rfl,_⟩:=hs;have:=S.call (K:=fun v w'=>∃ ρ',Sat D0 w0 (q36 s dst x) h' ρ' (E.put e dst v) w') hT hF h1 h2 h3 fun v w' S' hr=>⟨ρ,S'.puto dst hr⟩;have he:args.map (ev e)=(args.toList.map (ev e)).toArray:=by cases args; simp
   rw [← he] at this;exact this
  ·rename_i t;obtain ⟨f,ys,al,ids,g0,h1,h2,h3,rfl,_⟩:=hs;obtain ⟨cap,hv,hr⟩:=g0 _ _ _ _ _ (S.rd t);exact qhW hv (S.callv (K:=fun v w'=>∃ ρ',Sat D0 w0 (q36 s dst x) h' ρ' (E.put e dst v) w') hT hF (RdL.app (q4x (f:=pe s) (g:=ev e) S.pex args.toList) hr) h1 h2 h3 fun v w' S' hr=>⟨ρ,S'.puto dst hr⟩)
  ·exact pure hs
def qeW (S:Sat D0 w0 s h ρ e w) {ops:List Oper} {j:Nat} {b c:Bool} (hy:q3P ops s j b=some c):(q4B ops.toArray e j == some b)=(c == b):=by
 unfold q3P at hy;unfold q4B;rw [List.getElem?_toArray]
 split at hy
 ·rename_i d hd;rw [hd];have:=S.rd d
  split at hy
  ·rename_i b hb;rw [hb] at this;unfold Rd at this;simp only [this];cases hy
   rfl
  ·rename_i tv hb;rw [hb] at this;unfold Rd at this;simp only [this];cases hy
   revert b
   intro b;cases b <;> rfl
  ·cases hy
 ·cases hy
def q9p (S:Sat D0 w0 s h ρ e w) (hT:Tb w) (hF:Fr D0 w0.w) {ops:List Oper} {o:Oper} (hs:q7w P Tb ops o s h x h' fp):wg P ops.toArray o e w fun v w'=>∃ ρ',Sat D0 w0 (q36 s o.dst x) h' ρ' (E.put e o.dst v) w':=by
 unfold q7w at hs;unfold wg q6z
 split at hs
 ·rename_i hg;rw [hg];exact qk1 S hT hF hs
 ·rename_i j b hg;obtain ⟨c,hc,hs⟩:=hs;rw [hg];simp only [qeW S hc]
  split at hs
  ·rename_i hcb;rw [if_pos (by simpa using hcb)];exact qk1 S hT hF hs
  ·rename_i hcb;rw [if_neg (by simpa using hcb)];obtain ⟨rfl,rfl,_⟩:=hs;exact ⟨ρ,S.puto o.dst (by unfold Rd; rfl)⟩
def qeX {o:Op} {f g:Operand→PV} (h:∀ x ∈ o.operands,f x=g x):q5J P o f=q5J P o g:=by
 cases o <;> simp only [q5J] <;> (try rfl) <;> simp only [Op.operands] at h
 case move x=>rw [h x (by simp)]
 case assign x=>rw [h x (by simp)]
 case pick c a b=>rw [h c (by simp),h a (by simp),h b (by simp)]
 case binOp op t x y _=>rw [h x (by simp),h y (by simp)]
 case unOp op t x=>rw [h x (by simp)]
 case convert a b x=>rw [h x (by simp)]
 case fieldAddr t x f=>rw [h x (by simp)]
 case extract x i=>rw [h x (by simp)]
 case nilCheck x=>rw [h x (by simp)]
 case indexAddr t x i=>rw [h x (by simp),h i (by simp)]
 case slice t x lo hi mx =>
  cases mx with
  | some _=>rfl
  | none =>
   simp only;have h1:lo.map f=lo.map g:=by cases lo with | none=>rfl | some l=>simp only [Option.map_some]; rw [h l (by simp)]
   have h2:hi.map f=hi.map g:=by cases hi with | none=>rfl | some l=>simp only [Option.map_some]; rw [h l (by simp)]
   rw [h1,h2,h x (by simp)]
 case build t ps =>
  have:(ps.toList.map fun p=>(p.1,f p.2))=ps.toList.map fun p=>(p.1,g p.2):=List.map_congr_left fun p hp=>by rw [h p.2 (by simp; exact ⟨p.1,by simpa using hp⟩)]
  rw [this]
 case makeFunc fn first cap =>
  rw [List.map_congr_left fun y hy=>h y (by simp; right; simpa using hy)]
 case call c =>
  obtain ⟨callee,args,tys⟩:=c;have ha:∀ y ∈ args.toList,f y=g y:=fun y hy=>h y (by simp [Call.operands]; right; simpa using hy);simp only
  split
  ·split
   ·rename_i x t hx ht;rw [ha x (by rw [hx]; simp)]
   ·rfl
  ·rw [List.map_congr_left ha]
  ·rw [List.map_congr_left ha]
  ·rfl
def agr (h h2:Hp) (l:List Nat):Prop:=∀ i ∈ l,h2 i=h i
def qnm {h2:Hp} {k:Option Kd} {p:PV} {r:PV × List Nat} (hl:ldP h k p=some r) (ha:agr h h2 r.2):ldP h2 k p=some r:=by
 unfold ldP at hl ⊢
 split at hl
 ·rename_i id i j;have:r.2=[id]:=by
   split at hl
   ·split at hl
    ·cases hl
    ·obtain ⟨y,_,rfl⟩:=Option.map_eq_some_iff.1 hl; rfl
   ·cases hl
  simp only [ha id (by rw [this]; simp)];exact hl
 ·exact hl
 ·cases hl
def qb3 {h2:Hp} {y:PV} {r:PV × List Nat} (hl:q3d h y=some r) (ha:agr h h2 r.2):q3d h2 y=some r:=by
 unfold q3d at hl ⊢
 split at hl
 ·rename_i id k off n;have:r.2=[id]:=by
   obtain ⟨b,hb,hc⟩:=Option.bind_eq_some_iff.1 hl
   split at hc
   ·cases hc; rfl
   ·cases hc
  simp only [ha id (by rw [this]; simp)];exact hl
 ·exact hl
def q8p {h2:Hp}:∀ {l:List PV} {r:List PV × List Nat},q2d h l=some r→agr h h2 r.2→q2d h2 l=some r
 | [],r,hl,_=>hl
 | y :: l,r,hl,ha=>by
  unfold q2d at hl ⊢;obtain ⟨a,h1,hc⟩:=Option.bind_eq_some_iff.1 hl;obtain ⟨b,hb,rfl⟩:=Option.map_eq_some_iff.1 hc;rw [qb3 h1 fun i hi=>ha i (List.mem_append_left _ hi),Option.bind_some,q8p hb fun i hi=>ha i (List.mem_append_right _ hi)]
  rfl
def qov {h2:Hp} {y:PV} {r:PV × List Nat} (hl:clo h y=some r) (ha:agr h h2 r.2):clo h2 y=some r:=by
 unfold clo at hl ⊢
 split at hl
 ·obtain ⟨b,hb,rfl⟩:=Option.map_eq_some_iff.1 hl;simp only [q8p hb ha,Option.map_some]
 ·exact qb3 hl ha
def q7i {h2:Hp}:∀ {l:List PV} {r:List PV × List Nat},q2e h l=some r→agr h h2 r.2→q2e h2 l=some r
 | [],r,hl,_=>hl
 | y :: l,r,hl,ha=>by
  unfold q2e at hl ⊢;obtain ⟨a,h1,hc⟩:=Option.bind_eq_some_iff.1 hl;obtain ⟨b,hb,rfl⟩:=Option.map_eq_some_iff.1 hc;rw [qov h1 fun i hi=>ha i (List.mem_append_left _ hi),Option.bind_some,q7i hb fun i hi=>ha i (List.mem_append_right _ hi)]
  rfl
def qpf {h2:Hp} {E:TypeId} {k:Kd} {p:PV} {xs:List PV} {i0:Option Nat} (hl:apS h E k p=some (xs,i0)) (ha:agr h h2 i0.toList):apS h2 E k p=some (xs,i0):=by
 unfold apS at hl ⊢
 split at hl
 ·exact hl
 ·rename_i id k' off n;have:i0=some id:=by
   obtain ⟨b,hb,hc⟩:=Option.bind_eq_some_iff.1 hl
   split at hc
   ·cases hc; rfl
   ·cases hc
  simp only [ha id (by rw [this]; simp)];exact hl
 ·cases hl
def qpe {h2:Hp} {k:Kd} {p:PV} {r:List PV × List Nat} (hl:apX h k p=some r) (ha:agr h h2 r.2):apX h2 k p=some r:=by
 unfold apX at hl ⊢
 split at hl
 ·exact hl
 ·exact hl
 ·rename_i id k' off n;have:r.2=[id]:=by
   obtain ⟨b,hb,hc⟩:=Option.bind_eq_some_iff.1 hl
   split at hc
   ·cases hc; rfl
   ·cases hc
  simp only [ha id (by rw [this]; simp)];exact hl
 ·cases hl
def Loc (h2 h' h3:Hp) (fp:FP):Prop:=(∀ i ∈ fp.2,h3 i=h' i)∧∀ i,i ∉ fp.2→h3 i=h2 i
def Loc.upd {h2:Hp} {d:Nat} {b:Bk} {l:List Nat}:Loc h2 (q07 h d b) (q07 h2 d b) (l,[d]):=⟨fun i hi=>by
  have hi:i ∈ [d]:=hi;simp at hi; subst hi; rw [q0V,q0V],fun i hi=>by
  have hi:i ∉ [d]:=hi;simp at hi; rw [q0M hi]⟩
def qd9 {o:Oper} {s2:Nat→PV} {h2:Hp} (hs:Stp P Tb o s h x h' fp) (he:∀ y ∈ o.op.operands,pe s2 y=pe s y) (ha:agr h h2 (fp.1 ++ fp.2)):∃ h3,Stp P Tb o s2 h2 x h3 fp∧Loc h2 h' h3 fp:=by
 obtain ⟨dst,op,ty,pos,af,gd⟩:=o;have ha1:agr h h2 fp.1:=fun i hi=>ha i (List.mem_append_left _ hi);have ha2:agr h h2 fp.2:=fun i hi=>ha i (List.mem_append_right _ hi);simp only at he;have pure:q5J P op (pe s)=some x∧h'=h∧fp=([],[])→q5J P op (pe s2)=some x∧Loc h2 h' h2 fp:=fun ⟨h1,h2,h3⟩=>by
  subst h3;exact ⟨by rw [qeX he]; exact h1,fun i hi=>(by cases hi),fun i _=>rfl⟩
 unfold Stp at hs ⊢;cases op <;> simp only at hs ⊢ <;> (try (exact ⟨h2,⟨(pure hs).1,rfl,hs.2.2⟩,(pure hs).2⟩)) <;> simp only [Op.operands] at he
 case load t a =>
  obtain ⟨r,h1,rfl,rfl,rfl⟩:=hs;exact ⟨h2,⟨r,by rw [he a (by simp)]; exact qnm h1 ha1,rfl,rfl,rfl⟩,fun i hi=>(by cases hi),fun i _=>rfl⟩
 case alloc t =>
  obtain ⟨d,b,rfl,h1,h3,rfl,rfl,rfl⟩:=hs;exact ⟨_,⟨d,b,rfl,⟨by rw [ha2 d (by simp)]; exact h1.1,h1.2⟩,h3,rfl,rfl,rfl⟩,Loc.upd⟩
 case box t v =>
  obtain ⟨d,k,rfl,h1,h3,h4,rfl,rfl,rfl⟩:=hs;rw [← he v (by simp)] at h4 ⊢;exact ⟨_,⟨d,k,rfl,⟨by rw [ha2 d (by simp)]; exact h1.1,h1.2⟩,h3,h4,rfl,rfl,rfl⟩,Loc.upd⟩
 case buildSlice t len ps =>
  obtain ⟨d,E,k,bytes,rfl,h1,h3,h4,h5,h6,rfl,rfl,rfl⟩:=hs;have hp:∀ p ∈ ps.toList,pe s2 p.2=pe s p.2:=fun p hp=>he p.2 (by simp; exact ⟨p.1,by simpa using hp⟩);rw [← List.map_congr_left hp];exact ⟨_,⟨d,E,k,bytes,rfl,⟨by rw [ha2 d (by simp)]; exact h1.1,h1.2⟩,h3,h4,h5,fun p hpp=>by rw [hp p hpp]; exact h6 p hpp,rfl,rfl,rfl⟩,Loc.upd⟩
 case makeSlice t l c =>
  obtain ⟨d,E,k,bytes,z,kl,kc,n,rfl,h1,h3,h4,h5,h6,h7,rfl,rfl,rfl⟩:=hs;exact ⟨_,⟨d,E,k,bytes,z,kl,kc,n,rfl,⟨by rw [ha2 d (by simp)]; exact h1.1,h1.2⟩,h3,by rw [he l (by simp)]; exact h4,by rw [he c (by simp)]; exact h5,h6,h7,rfl,rfl,rfl⟩,Loc.upd⟩
 case store t a v =>
  obtain ⟨id,i,j,b,k,u,u',h1,h3,h4,h5,h6,h7,h8,h9,rfl,rfl,rfl⟩:=hs;exact ⟨_,⟨id,i,j,b,k,u,u',by rw [he a (by simp)]; exact h1,by rw [ha1 id (by simp)]; exact h3,h4,h5,h6,by rw [he v (by simp)]; exact h7,h8,by rw [he v (by simp)]; exact h9,rfl,rfl,rfl⟩,Loc.upd⟩
 case call c =>
  obtain ⟨callee,args,tys⟩:=c;have hg:∀ y ∈ args.toList,pe s2 y=pe s y:=fun y hy=>he y (by simp [Call.operands]; right; simpa using hy);simp only at hs ⊢
  split at hs
  ·obtain ⟨sx,xx,T,d,E,k,bytes,xs,ys,i0,ids,rfl,rfl,rfl,h1,h3,h4,h5,h6,rfl,rfl,rfl⟩:=hs;refine ⟨q07 (stl h2 i0) d ⟨E,k,xs ++ ys,false⟩,⟨sx,xx,T,d,E,k,bytes,xs,ys,i0,ids,rfl,rfl,rfl,⟨by rw [ha2 d (by simp)]; exact h1.1,h1.2⟩,h3,by rw [hg sx (by simp)]; exact qpf h4 fun i hi=>ha2 i (List.mem_cons_of_mem _ hi),by rw [hg xx (by simp)]; exact qpe h5 ha1,h6,rfl,rfl,rfl⟩,fun i hi=>?_,fun i hi=>?_⟩
   ·simp only [List.mem_cons] at hi
    by_cases hd:i=d
    ·subst hd; rw [q0V,q0V]
    ·rw [q0M hd,q0M hd]
     rcases hi with hi | hi
     ·exact absurd hi hd
     ·cases i0 with
      | none=>cases hi
      | some j =>
       simp at hi;subst hi;have:=ha2 i (by simp);simp only [stl,this];cases h i <;> simp [q0V, *]
   ·simp only [List.mem_cons,not_or] at hi;rw [q0M hi.1];cases i0 with
    | none=>rfl
    | some j =>
     have hij:i≠j:=by simpa using hi.2
     unfold stl;simp only;cases h2 j <;> simp [q0M hij]
  ·obtain ⟨al,ids,h1,h3,h4,rfl,rfl⟩:=hs;exact ⟨h2,⟨al,ids,by rw [List.map_congr_left hg]; exact q7i h1 ha1,h3,h4,rfl,rfl⟩,fun i hi=>(by cases hi),fun i _=>rfl⟩
  ·rename_i t;obtain ⟨f,ys,al,ids,g0,h1,h3,h4,rfl,rfl⟩:=hs;have ht:s2 t=s t:=he (.tmp t) (by simp [Call.operands]);exact ⟨h2,⟨f,ys,al,ids,by rw [ht]; exact g0,by rw [List.map_congr_left hg]; exact q7i h1 ha1,h3,h4,rfl,rfl⟩,fun i hi=>(by cases hi),fun i _=>rfl⟩
  ·exact ⟨h2,⟨(pure hs).1,rfl,hs.2.2⟩,(pure hs).2⟩
def q4T {d:Nat} {b:Bk} {l:List Nat}:∀ i,i ∉ (l,[d]).2→q07 h d b i=h i:=fun i hi=>by
 have hi:i ∉ [d]:=hi;simp at hi; rw [q0M hi]
def qd8 {o:Oper} (hs:Stp P Tb o s h x h' fp):∀ i,i ∉ fp.2→h' i=h i:=by
 obtain ⟨dst,op,ty,pos,af,gd⟩:=o;unfold Stp at hs;cases op <;> simp only at hs <;> (try (exact fun i _=>by rw [hs.2.1]))
 case load t a=>obtain ⟨r,h1,rfl,rfl,rfl⟩:=hs; exact fun _ _=>rfl
 case alloc t=>obtain ⟨d,b,rfl,h1,h3,rfl,rfl,rfl⟩:=hs; exact q4T
 case box t v=>obtain ⟨d,k,rfl,h1,h3,h4,rfl,rfl,rfl⟩:=hs; exact q4T
 case buildSlice t len ps=>obtain ⟨d,E,k,bytes,rfl,h1,h3,h4,h5,h6,rfl,rfl,rfl⟩:=hs; exact q4T
 case makeSlice t l c=>obtain ⟨d,E,k,bytes,z,kl,kc,n,rfl,h1,h3,h4,h5,h6,h7,rfl,rfl,rfl⟩:=hs; exact q4T
 case store t a v=>obtain ⟨id,i,j,b,k,u,u',h1,h3,h4,h5,h6,h7,h8,h9,rfl,rfl,rfl⟩:=hs; exact q4T
 case call c =>
  split at hs
  ·obtain ⟨sx,xx,T,d,E,k,bytes,xs,ys,i0,ids,_,_,rfl,h1,h3,h4,h5,h6,rfl,rfl,rfl⟩:=hs;intro i hi;simp only [List.mem_cons,not_or] at hi;rw [q0M hi.1];cases i0 with
   | none=>rfl
   | some j =>
    have hij:i≠j:=by simpa using hi.2
    unfold stl;simp only;cases h j <;> simp [q0M hij]
  ·obtain ⟨al,ids,h1,h3,h4,rfl,rfl⟩:=hs;exact fun _ _=>rfl
  ·obtain ⟨f,ys,al,ids,g0,h1,h3,h4,rfl,rfl⟩:=hs;exact fun _ _=>rfl
  ·exact fun i _=>by rw [hs.2.1]
end
def AL (P:Program) (Tb:World→Prop) (ops:List Oper) (K:(Nat→PV)→Hp→List FP→Prop):List Oper→(Nat→PV)→Hp→List FP→Prop
 | [],s,h,acc=>K s h acc
 | o :: r,s,h,acc=>∃ x h' fp,q7w P Tb ops o s h x h' fp∧AL P Tb ops K r (q36 s o.dst x) h' (fp :: acc)
def sS (ops:List Oper) (X:Nat→PV) (L:Nat→Bool) (s:Nat→PV):Nat→Nat→PV
 | 0=>s
 | k+1=>if L k then (match ops[k]? with | some o=>q36 (sS ops X L s k) o.dst (X k) | none=>sS ops X L s k) else sS ops X L s k
def hS (W:Nat→FP) (H:Nat→Hp) (L:Nat→Bool) (h:Hp):Nat→Hp
 | 0=>h
 | k+1=>if L k then (fun i=>if i ∈ (W k).2 then H k i else hS W H L h k i) else hS W H L h k
def tt:Nat→Bool:=fun _=>true
def mkM (M:List Nat) (o:Oper):Nat:=o.after.toList.foldl (fun m e=>if Region.binds .any e then m ||| 2 ^ e.on ||| M.getD e.on 0 else m) 0
def qne:List Nat→List Oper→List Nat
 | M,[]=>M
 | M,o :: r=>qne (M ++ [mkM M o]) r
def cls (o:Oper):Nat :=
 match o.op with
 | .load _ _=>1
 | .alloc _ | .box _ _ | .buildSlice _ _ _ | .makeSlice _ _ _=>2
 | .store _ _ _=>3
 | .call c=>match c.callee with | .builtin .append=>3 | .value (.func _) | .value (.tmp _)=>1 | _=>0
 | _=>0
def harm (a b:Nat):Bool:=Nat.beq a 0 || Nat.beq b 0 || (Nat.beq a 1 && Nat.beq b 1) || (Nat.beq a 2 && Nat.beq b 2)
def qsP:List (Nat × Nat)→Nat→Nat→Bool
 | [],_,_=>false
 | p :: l,a,b=>(Nat.beq p.1 a && Nat.beq p.2 b) || qsP l a b
def dOk1 (o p:Oper):Bool:=match o.dst,p.dst with | some d,some d'=>!Nat.beq d d' | _,_=>true
def dOk2 (ops:List Oper) (M:List Nat) (i j:Nat) (o p:Oper):Bool:=match p.dst with | some d=>!q1g ops.toArray o d || (M.getD i 0).testBit j || (M.getD j 0).testBit i | none=>true
def dOk3 (M:List Nat) (prs:List (Nat × Nat)) (i j:Nat) (o p:Oper):Bool:=decide (i≤j) || (M.getD i 0).testBit j || harm (cls p) (cls o) || qsP prs j i
def dOk4 (M:List Nat) (i:Nat) (o:Oper):Bool:=(o.after.toList.all fun e=>!Region.binds .any e || decide (e.on < i)) && Nat.beq (M.getD i 0) (mkM M o)
def qca (ops:List Oper) (M:List Nat) (prs:List (Nat × Nat)):Bool :=
 (List.range ops.length).all fun i=>match ops[i]? with
  | none=>true
  | some o=>dOk4 M i o &&
   (List.range ops.length).all fun j=>match ops[j]? with
    | none=>true
    | some p=>Nat.beq i j || (dOk1 o p && dOk2 ops M i j o p && dOk3 M prs i j o p)
def dj (a b:FP):Prop:=(∀ x ∈ a.2,x ∉ b.1∧x ∉ b.2)∧∀ x ∈ b.2,x ∉ a.1
def chk (prs:List (Nat × Nat)) (fps:List FP):Prop:=∀ p ∈ prs,dj (fps.getD p.1 ([],[])) (fps.getD p.2 ([],[]))
section
variable {P:Program} {Tb:World→Prop} {n:Nat} {ops:List Oper} {X:Nat→PV} {L L':Nat→Bool} {s:Nat→PV} {h:Hp} {W:Nat→FP} {H:Nat→Hp}
def qmu {o:Oper} {l:List Oper} (k:Nat):sS (o :: l) X tt s (k+1)=sS l (fun i=>X (i+1)) tt (q36 s o.dst (X 0)) k:=by
 induction k with
 | zero=>rfl
 | succ k ih =>
  show (if tt (k+1) then (match (o :: l)[k+1]? with | some o'=>q36 (sS (o :: l) X tt s (k+1)) o'.dst (X (k+1)) | none=>sS (o :: l) X tt s (k+1)) else sS (o :: l) X tt s (k+1))=_
  rw [ih,List.getElem?_cons_succ]
  rfl
def qoH (k:Nat):hS W H tt h (k+1)=hS (fun i=>W (i+1)) (fun i=>H (i+1)) tt (fun i=>if i ∈ (W 0).2 then H 0 i else h i) k:=by
 induction k with
 | zero=>rfl
 | succ k ih =>
  show (if tt (k+1) then (fun i=>if i ∈ (W (k+1)).2 then H (k+1) i else hS W H tt h (k+1) i) else hS W H tt h (k+1))=_
  rw [ih]
  rfl
def qie {o:Oper} {x:PV} {h':Hp} {fp:FP} (hs:q7w P Tb ops o s h x h' fp):∀ i,i ∉ fp.2→h' i=h i:=by
 unfold q7w at hs
 split at hs
 ·exact qd8 hs
 ·obtain ⟨c,_,hs⟩:=hs
  split at hs
  ·exact qd8 hs
  ·exact fun i _=>by rw [hs.2.1]
def qqu {K:(Nat→PV)→Hp→List FP→Prop}:∀ (l:List Oper) (s:Nat→PV) (h:Hp) (acc:List FP),AL P Tb ops K l s h acc →
  ∃ (X:Nat→PV) (H:Nat→Hp) (W:Nat→FP),(∀ k o,l[k]?=some o→q7w P Tb ops o (sS l X tt s k) (hS W H tt h k) (X k) (hS W H tt h (k+1)) (W k))∧K (sS l X tt s l.length) (hS W H tt h l.length) (((List.range l.length).map W).reverse ++ acc)
 | [],s,h,acc,hal=>⟨fun _=>.un,fun _=>h0,fun _=>([],[]),fun k o ho=>by simp at ho,hal⟩
 | o :: l,s,h,acc,hal=>by
  obtain ⟨x,h',fp,h1,h2⟩:=hal;obtain ⟨X,H,W,h3,h4⟩:=qqu l _ _ _ h2;have ho:=qie h1;have he:(fun i=>if i ∈ fp.2 then h' i else h i)=h':=by
   funext i
   split
   ·rfl
   ·rename_i hi; exact (ho i hi).symm
  let X':Nat→PV:=fun k=>match k with | 0=>x | k+1=>X k
  let H':Nat→Hp:=fun k=>match k with | 0=>h' | k+1=>H k
  let W':Nat→FP:=fun k=>match k with | 0=>fp | k+1=>W k
  have es:∀ k,sS (o :: l) X' tt s (k+1)=sS l X tt (q36 s o.dst x) k:=fun k=>qmu k;have eh:∀ k,hS W' H' tt h (k+1)=hS W H tt h' k:=fun k=>by
   have:=qoH (W:=W') (H:=H') (h:=h) k;rw [this]
   show hS W H tt (fun i=>if i ∈ fp.2 then h' i else h i) k=_
   rw [he]
  refine ⟨X',H',W',fun k p hp=>?_,?_⟩
  ·cases k with
   | zero =>
    simp only [List.getElem?_cons_zero,Option.some.injEq] at hp;subst hp;rw [eh 0];exact h1
   | succ k =>
    rw [es,eh,eh];exact h3 k p (by simpa using hp)
  ·rw [List.length_cons,es,eh];have:((List.range (l.length+1)).map W').reverse ++ acc=((List.range l.length).map W).reverse ++ (fp :: acc):=by
    rw [List.range_succ_eq_map,List.map_cons,List.map_map,List.reverse_cons,List.append_assoc]
    rfl
   rw [this];exact h4
structure Drw (ops:List Oper) (M:List Nat) (prs:List (Nat × Nat)):Prop where
 down:∀ (i:Nat) (o:Oper) (x:Edge),ops[i]?=some o→x ∈ o.after→Region.binds .any x=true→x.on < i
 anc:∀ (i j:Nat) (o:Oper),ops[i]?=some o→(M.getD i 0).testBit j=true→∃ x ∈ o.after,Region.binds .any x=true∧(x.on=j∨(M.getD x.on 0).testBit j=true)
 dst:∀ (i j:Nat) (o p:Oper) (d:Nat),ops[i]?=some o→ops[j]?=some p→o.dst=some d→p.dst=some d→i=j
 look:∀ (i j:Nat) (o p:Oper) (d:Nat),ops[i]?=some o→ops[j]?=some p→i≠j→p.dst=some d→q1g ops.toArray o d=true→(M.getD i 0).testBit j=true∨(M.getD j 0).testBit i=true
 par:∀ (i j:Nat) (o p:Oper),ops[i]?=some o→ops[j]?=some p→j < i→(M.getD i 0).testBit j=true∨harm (cls p) (cls o)=true∨qsP prs j i=true
def qeg {M:List Nat} {j:Nat}:∀ (l:List Edge) (m:Nat),(l.foldl (fun m e=>if Region.binds .any e then m ||| 2 ^ e.on ||| M.getD e.on 0 else m) m).testBit j=true→m.testBit j=true∨∃ x ∈ l,Region.binds .any x=true∧(x.on=j∨(M.getD x.on 0).testBit j=true)
 | [],m,h=>.inl h
 | e :: l,m,h=>by
  rw [List.foldl_cons] at h
  rcases qeg l _ h with h | ⟨x,hx,h⟩
  ·split at h
   ·rename_i hb;rw [Nat.testBit_or,Nat.testBit_or,Bool.or_eq_true,Bool.or_eq_true,Nat.testBit_two_pow] at h
    rcases h with (h | h) | h
    ·exact .inl h
    ·exact .inr ⟨e,List.mem_cons_self,hb,.inl (by simpa using h)⟩
    ·exact .inr ⟨e,List.mem_cons_self,hb,.inr h⟩
   ·exact .inl h
  ·exact .inr ⟨x,List.mem_cons_of_mem _ hx,h⟩
def Drw.of {M:List Nat} {prs:List (Nat × Nat)} (hk:qca ops M prs=true):Drw ops M prs:=by
 unfold qca at hk;rw [List.all_eq_true] at hk;have hi:∀ (i:Nat) (o:Oper),ops[i]?=some o→i ∈ List.range ops.length:=fun i o ho=>List.mem_range.2 (List.getElem?_eq_some_iff.1 ho).1;have h1:∀ (i:Nat) (o:Oper),ops[i]?=some o→dOk4 M i o=true∧((List.range ops.length).all fun j=>match ops[j]? with | none=>true | some p=>Nat.beq i j || (dOk1 o p && dOk2 ops M i j o p && dOk3 M prs i j o p))=true:=fun i o ho=>by
  have:=hk i (hi i o ho);rw [ho] at this;simp only [Bool.and_eq_true] at this;exact this
 have h2:∀ (i j:Nat) (o p:Oper),ops[i]?=some o→ops[j]?=some p→i≠j→(dOk1 o p=true∧dOk2 ops M i j o p=true)∧dOk3 M prs i j o p=true:=fun i j o p ho hp hij=>by
  have:=(List.all_eq_true.1 (h1 i o ho).2) j (hi j p hp);rw [hp] at this;simp only [Bool.or_eq_true] at this
  rcases this with h | h
  ·exact absurd (Nat.eq_of_beq_eq_true h) hij
  ·rw [Bool.and_eq_true,Bool.and_eq_true] at h;exact h
 refine ⟨fun i o x ho hx hb=>?_,fun i j o ho hb=>?_,fun i j o p d ho hp hod hpd=>?_,fun i j o p d ho hp hij hd hl=>?_,fun i j o p ho hp hji=>?_⟩
 ·have h4:=(h1 i o ho).1;unfold dOk4 at h4;rw [Bool.and_eq_true] at h4;have:=List.all_eq_true.1 h4.1 x (Array.mem_toList_iff.2 hx);rw [hb] at this;simpa using this
 ·have h4:=(h1 i o ho).1;unfold dOk4 at h4;rw [Bool.and_eq_true] at h4;have he:=Nat.eq_of_beq_eq_true h4.2;rw [he] at hb;unfold mkM at hb
  rcases qeg _ _ hb with h | ⟨x,hx,h⟩
  ·simp at h
  ·exact ⟨x,Array.mem_toList_iff.1 hx,h⟩
 ·by_cases hij:i=j
  ·exact hij
  ·have:=(h2 i j o p ho hp hij).1.1;unfold dOk1 at this;rw [hod,hpd] at this;simp at this
 ·have:=(h2 i j o p ho hp hij).1.2;unfold dOk2 at this;rw [hd] at this;simp only [hl,Bool.not_true,Bool.false_or,Bool.or_eq_true] at this;exact this
 ·have:=(h2 i j o p ho hp Oq).2;unfold dOk3 at this;simp only [Bool.or_eq_true,decide_eq_true_eq] at this
  rcases this with ((h | h) | h) | h
  ·omega
  ·exact .inl h
  ·exact .inr (.inl h)
  ·exact .inr (.inr h)
def qc2 (i:Nat):∀ (m:Nat),(∀ k,k < m→i ∈ (W k).2→L k=L' k)→hS W H L h m i=hS W H L' h m i
 | 0,_=>rfl
 | m+1,hl=>by
  have ih:=qc2 i m fun k hk=>hl k Oq;unfold hS
  by_cases hi:i ∈ (W m).2
  ·rw [hl m (by omega) hi]
   split
   ·simp [hi]
   ·exact ih
  ·split <;> split <;> simp [hi,ih]
def sS_s {k:Nat}:sS ops X L s (k+1)=if L k then (match ops[k]? with | some o=>q36 (sS ops X L s k) o.dst (X k) | none=>sS ops X L s k) else sS ops X L s k:=rfl
def q16 {t:Nat}:∀ (m:Nat),(∀ k o,k < m→ops[k]?=some o→L k=true→o.dst≠some t)→sS ops X L s m t=s t
 | 0,_=>rfl
 | m+1,hl=>by
  have ih:=q16 m fun k o hk=>hl k o Oq;rw [sS_s]
  by_cases hL:L m=true
  ·rw [if_pos hL];cases ho:ops[m]? with
   | none=>exact ih
   | some o =>
    have:=hl m o Oq ho hL;cases hd:o.dst with
    | none=>simp only [hd,q36]; exact ih
    | some d=>rw [hd] at this; simp only [hd,q36,pu]; rw [if_neg (fun e=>this (by rw [e]))]; exact ih
  ·rw [if_neg hL]; exact ih
def q3N {t:Nat} (hdd:∀ (i j:Nat) (o p:Oper) (d:Nat),ops[i]?=some o→ops[j]?=some p→o.dst=some d→p.dst=some d→i=j) {k:Nat} {o:Oper} (ho:ops[k]?=some o) (hd:o.dst=some t) (hL:L k=true):∀ (m:Nat),k < m→sS ops X L s m t=X k
 | 0,hm=>by omega
 | m+1,hm=>by
  rw [sS_s]
  by_cases hk:k=m
  ·subst hk;rw [if_pos hL,ho];simp only [hd,q36,pu,if_true]
  ·have ih:=q3N hdd ho hd hL m Oq
   by_cases hLm:L m=true
   ·rw [if_pos hLm];cases hp:ops[m]? with
    | none=>exact ih
    | some p =>
     cases hpd:p.dst with
     | none=>simp only [hpd,q36]; exact ih
     | some d =>
      simp only [hpd,q36,pu];rw [if_neg fun e=>hk (hdd k m o p t ho hp hd (by rw [hpd,e]))];exact ih
   ·rw [if_neg hLm]; exact ih
end
section
variable {P:Program} {Tb:World→Prop} {n:Nat} {ops:List Oper} {X:Nat→PV} {s:Nat→PV} {h:Hp} {W:Nat→FP} {H:Nat→Hp} {M:List Nat} {prs:List (Nat × Nat)} {D0:Nat→Prop} {w0:Base} {ρ:Nat→Option Nat} {e:Env} {w:World}
def hS_s {L:Nat→Bool} {k:Nat}:hS W H L h (k+1)=if L k then (fun i=>if i ∈ (W k).2 then H k i else hS W H L h k i) else hS W H L h k:=rfl
def Lo (listed:Array Bool):Nat→Bool:=fun k=>listed.getD k false
def q6v {listed:Array Bool} {i k:Nat} (hi:i < listed.size):Lo (listed.setIfInBounds i true) k=if i=k then true else Lo listed k:=by
 simp only [Lo,Array.getD_eq_getD_getElem?,Array.getElem?_setIfInBounds]
 split
 ·rename_i hk; subst hk; simp [hi]
 ·rfl
def qly (hD:Drw ops M prs):∀ (i:Nat) (o:Oper) (j:Nat),ops[i]?=some o→(M.getD i 0).testBit j=true→j < i:=by
 intro i
 induction i using Nat.strongRecOn with
 | _ i ih =>
  intro o j ho hb;obtain ⟨x,hx,hbx,hj⟩:=hD.anc i j o ho hb;have hlt:=hD.down i o x ho hx hbx
  rcases hj with rfl | hj
  ·exact hlt
  ·have hl:x.on < ops.length:=by have:=(List.getElem?_eq_some_iff.1 ho).1; omega
   have:=ih x.on hlt _ j (List.getElem?_eq_getElem hl) hj;omega
def qlz (hD:Drw ops M prs) {L:Nat→Bool} (hc:∀ (k:Nat) (o:Oper) (x:Edge),ops[k]?=some o→L k=true→x ∈ o.after→Region.binds .any x=true→L x.on=true):∀ (i:Nat) (o:Oper) (j:Nat),ops[i]?=some o→(∀ x ∈ o.after,Region.binds .any x=true→L x.on=true)→(M.getD i 0).testBit j=true→L j=true:=by
 intro i
 induction i using Nat.strongRecOn with
 | _ i ih =>
  intro o j ho hL hb;obtain ⟨x,hx,hbx,hj⟩:=hD.anc i j o ho hb;have hlt:=hD.down i o x ho hx hbx;have hLx:=hL x hx hbx
  rcases hj with rfl | hj
  ·exact hLx
  ·have hl:x.on < ops.length:=by have:=(List.getElem?_eq_some_iff.1 ho).1; omega
   have ho':=List.getElem?_eq_getElem hl;exact ih x.on hlt _ j ho' (fun y hy hby=>hc x.on _ y ho' hLx hy hby) hj
def q84 {o:Oper} {t:Nat}:q1g ops.toArray o t=true ↔ t ∈ o.looksAt ops.toArray:=by
 unfold q1g;rw [List.any_eq_true]
 constructor
 ·rintro ⟨x,hx,h⟩;rw [Nat.eq_of_beq_eq_true h]; exact hx
 ·exact fun hx=>⟨t,hx,by simp⟩
def qif {o:Oper} {s2:Nat→PV} {h2 h':Hp} {x:PV} {fp:FP} (hs:q7w P Tb ops o s h x h' fp) (he:∀ t,q1g ops.toArray o t=true→s2 t=s t) (ha:agr h h2 (fp.1 ++ fp.2)):∃ h3,q7w P Tb ops o s2 h2 x h3 fp∧Loc h2 h' h3 fp:=by
 have hop:∀ y ∈ o.op.operands,pe s2 y=pe s y:=fun y hy=>by
  cases y <;> simp only [pe]
  case tmp t=>exact he t (q84.2 (by unfold Oper.looksAt; simp; exact .inl ⟨.tmp t,by simpa using hy,rfl⟩))
 unfold q7w at hs ⊢
 split at hs
 ·exact qd9 hs hop ha
 ·rename_i j b hg;obtain ⟨c,hc,hs⟩:=hs;have hy:q3P ops s2 j b=q3P ops s j b:=by
   unfold q3P;cases hd:(ops[j]?).bind (·.dst) with
   | none=>rfl
   | some d =>
    simp only;rw [he d (q84.2 (by unfold Oper.looksAt; rw [hg]; simp only [List.getElem?_toArray,hd]; simp))]
  simp only [hy,hc]
  split at hs
  ·rename_i hcb;obtain ⟨h3,h4,h5⟩:=qd9 hs hop ha;exact ⟨h3,⟨c,rfl,by rw [if_pos hcb]; exact h4⟩,h5⟩
  ·rename_i hcb;obtain ⟨rfl,rfl,rfl⟩:=hs;exact ⟨h2,⟨c,rfl,by rw [if_neg hcb]; exact ⟨rfl,rfl,rfl⟩⟩,fun i hi=>(by cases hi),fun i _=>rfl⟩
def qog {Q : Exit → Act → World → Prop} {e0 : Env} (hD : Drw ops M prs) (hd : ops.all (q3z n) = true) (hT : ∀ w, Kp w0.F w0.w w → Tb w) (hF : Fr D0 w0.w)
    (hG : ∀ k o, ops[k]? = some o → q7w P Tb ops o (sS ops X tt s k) (hS W H tt h k) (X k) (hS W H tt h (k + 1)) (W k))
    (hdyn : ∀ (i j : Nat) (o p : Oper), ops[i]? = some o → ops[j]? = some p → j < i → (M.getD i 0).testBit j = true ∨ dj (W j) (W i))
    (hQ : ∀ a e' w' ρ', Rel n a e' → Sat D0 w0 (sS ops X tt s ops.length) (hS W H tt h ops.length) ρ' e' w' → (∀ t, q26 ops.toArray t = false → e' t = e0 t) → Q .normal a w') :
    ∀ (fuel : Nat) (listed : Array Bool) (a : Act) (e' : Env) (w' : World) (ρ : Nat → Option Nat), ops.length ≤ fuel + (List.range ops.length).countP (fun i => listed.getD i true) → listed.size = ops.length → (∀ (k : Nat) (o : Oper) (x : Edge), ops[k]? = some o → Lo listed k = true → x ∈ o.after → Region.binds .any x = true → Lo listed x.on = true) →
      Rel n a e' → (∀ t, q26 ops.toArray t = false → e' t = e0 t) → Sat D0 w0 (sS ops X (Lo listed) s ops.length) (hS W H (Lo listed) h ops.length) ρ e' w' → wpAny P .any ops.toArray Q fuel listed a w' := by
  have hft : ∀ {listed : Array Bool} {j : Nat}, listed.size = ops.length → j < ops.length → listed.getD j true = Lo listed j := fun {listed j} hsz hj => by
    simp [Lo, Array.getD_eq_getD_getElem?, Array.getElem?_eq_getElem (show j < listed.size by omega)]
  have hdone : ∀ (listed : Array Bool) (a : Act) (e' : Env) (w' : World) (ρ : Nat → Option Nat), listed.size = ops.length → (∀ i, i < ops.length → Lo listed i = true) → Rel n a e' → (∀ t, q26 ops.toArray t = false → e' t = e0 t) → Sat D0 w0 (sS ops X (Lo listed) s ops.length) (hS W H (Lo listed) h ops.length) ρ e' w' → Q .normal a w' := fun listed a e' w' ρ hsz hall hr ho S => by
    refine hQ a e' w' ρ hr ?_ ho
    have e1 : sS ops X (Lo listed) s ops.length = sS ops X tt s ops.length := by
      have : ∀ m, m ≤ ops.length → sS ops X (Lo listed) s m = sS ops X tt s m := fun m => by
        induction m with
        | zero => intro _; rfl
        | succ m ih => intro hm; rw [sS_s, sS_s, ih (by omega), hall m (by omega)]; rfl
      exact this _ (Nat.le_refl _)
    have e2 : hS W H (Lo listed) h ops.length = hS W H tt h ops.length := by
      funext i
      exact qc2 i _ fun k hk _ => by rw [hall k hk]; rfl
    rw [← e1, ← e2]
    exact S
  have hend : ∀ (listed : Array Bool) (a : Act) (e' : Env) (w' : World) (ρ : Nat → Option Nat), listed.size = ops.length → Region.ready .any ops.toArray listed = [] → Rel n a e' → (∀ t, q26 ops.toArray t = false → e' t = e0 t) → Sat D0 w0 (sS ops X (Lo listed) s ops.length) (hS W H (Lo listed) h ops.length) ρ e' w' → Q .normal a w' := fun listed a e' w' ρ hsz hnil hr ho S => by
    refine hdone listed a e' w' ρ hsz (fun i => ?_) hr ho S
    induction i using Nat.strongRecOn with
    | _ i ih =>
      intro hi
      cases hb : Lo listed i with
      | true => rfl
      | false =>
        have : i ∈ Region.ready .any ops.toArray listed := by
          unfold Region.ready
          rw [List.mem_filter]
          refine ⟨List.mem_range.2 (by simpa using hi), ?_⟩
          have hio : ops.toArray[i]? = some ops[i] := by simp [hi]
          simp only [hft hsz hi, hb, Bool.not_false, Bool.true_and, hio, Option.map_some, Option.getD_some]
          rw [Array.all_eq_true']
          intro x hx
          cases hbx : Region.binds .any x with
          | false => rfl
          | true =>
            have hlt := hD.down i ops[i] x (List.getElem?_eq_getElem hi) hx hbx
            have := ih x.on hlt Oq
            simp only [Lo] at this
            simp [this]
        rw [hnil] at this; cases this
  intro fuel
  induction fuel with
  | zero =>
    intro listed a e' w' ρ hf hsz hcl hr ho S
    have hall : ∀ i, i < ops.length → listed.getD i true = true := by
      have hle : (List.range ops.length).countP (fun i => listed.getD i true) = (List.range ops.length).length := by
        have := List.countP_le_length (p := fun i => listed.getD i true) (l := List.range ops.length)
        simp only [List.length_range] at this ⊢; omega
      rw [List.countP_eq_length] at hle
      exact fun i hi => hle i (List.mem_range.2 hi)
    have hnil : Region.ready .any ops.toArray listed = [] := by
      unfold Region.ready
      rw [List.filter_eq_nil_iff]
      intro i hi
      simp [hall i (by simpa using List.mem_range.1 hi)]
    exact ⟨hnil, hend _ _ _ _ _ hsz hnil hr ho S⟩
  | succ fuel ih =>
    intro listed a e' w' ρ hf hsz hcl hr ho S
    refine ⟨fun hn => hend _ _ _ _ _ hsz hn hr ho S, fun i hi => ?_⟩
    obtain ⟨hlt', hnl, hdeps⟩ := q5w hi
    have hlt : i < ops.length := by simpa using hlt'
    have hli : i < listed.size := by omega
    have hio : ops[i]? = some ops[i] := List.getElem?_eq_getElem hlt
    have hLi : Lo listed i = false := by rw [← hft hsz hlt]; exact hnl
    generalize hoi : ops[i] = o at hio
    have hdeps' : ∀ x ∈ o.after, Region.binds .any x = true → Lo listed x.on = true := fun x hx hb => hdeps x (by simpa [hoi] using hx) hb
    -- what is ordered
    have hord : ∀ (k : Nat) (p : Oper), ops[k]? = some p → k ≠ i → ((M.getD i 0).testBit k = true ∨ (M.getD k 0).testBit i = true) → Lo listed k = decide (k < i) := fun k p hp hki hb => by
      rcases hb with hb | hb
      · have h1 := qly hD i o k hio hb
        rw [qlz hD hcl i o k hio hdeps' hb, decide_eq_true h1]
      · have h1 := qly hD k p i hp hb
        rw [decide_eq_false (by omega)]
        cases hL : Lo listed k with
        | false => rfl
        | true =>
          have := qlz hD hcl k p i hp (fun x hx hbx => hcl k p x hp hL hx hbx) hb
          rw [hLi] at this; cases this
    have hwr : ∀ (k : Nat) (p : Oper), ops[k]? = some p → k ≠ i → ∀ id, id ∈ (W k).2 → id ∈ (W i).1 ++ (W i).2 → Lo listed k = decide (k < i) := fun k p hp hki id h1 h2 => by
      refine hord k p hp hki ?_
      rcases Nat.lt_or_ge k i with hk | hk
      · rcases hdyn i k o p hio hp hk with h | h
        · exact .inl h
        · exfalso
          rcases List.mem_append.1 h2 with h2 | h2
          · exact (h.1 id h1).1 h2
          · exact (h.1 id h1).2 h2
      · rcases hdyn k i p o hp hio Oq with h | h
        · exact .inr h
        · exfalso
          rcases List.mem_append.1 h2 with h2 | h2
          · exact h.2 id h1 h2
          · exact (h.1 id h2).2 h1
    have canS : ∀ k t, k ≤ ops.length → sS ops X tt s k t = sS ops X (fun j => decide (j < k)) s ops.length t := fun k t hk => by
      by_cases hex : ∃ (j : Nat) (p : Oper), ops[j]? = some p ∧ p.dst = some t
      · obtain ⟨j, p, hp, hpd⟩ := hex
        have hj := (List.getElem?_eq_some_iff.1 hp).1
        by_cases hjk : j < k
        · rw [q3N hD.dst hp hpd rfl k hjk, q3N hD.dst hp hpd (by simp [hjk]) _ hj]
        · rw [q16 k fun m q hm hq _ he => hjk (by have := hD.dst m j q p t hq hp he hpd; omega), q16 _ fun m q hm hq hL he => hjk (by have := hD.dst m j q p t hq hp he hpd; subst this; simpa using hL)]
      · rw [q16 k fun m q _ hq _ he => hex ⟨m, q, hq, he⟩, q16 _ fun m q _ hq _ he => hex ⟨m, q, hq, he⟩]
    have canH : ∀ k id, k ≤ ops.length → hS W H tt h k id = hS W H (fun j => decide (j < k)) h ops.length id := fun k id hk => by
      have h1 : ∀ m, k ≤ m → hS W H (fun j => decide (j < k)) h m id = hS W H (fun j => decide (j < k)) h k id := fun m hm => by
        induction m with
        | zero => have : k = 0 := by omega
                  subst this; rfl
        | succ m ihm =>
          by_cases hkm : k = m + 1
          · subst hkm; rfl
          · have := ihm Oq
            rw [hS_s, if_neg (by simp; omega)]
            exact this
      rw [h1 _ hk]
      exact qc2 id k fun m hm _ => by simp [tt, hm]
    have hg := hG i o hio
    obtain ⟨h3, g1, g2⟩ := qif (s2 := sS ops X (Lo listed) s ops.length) (h2 := hS W H (Lo listed) h ops.length) hg (fun t ht => by
      rw [canS i t (by omega)]
      by_cases hex : ∃ (j : Nat) (p : Oper), ops[j]? = some p ∧ p.dst = some t
      · obtain ⟨j, p, hp, hpd⟩ := hex
        have hj := (List.getElem?_eq_some_iff.1 hp).1
        have hLj : Lo listed j = decide (j < i) := by
          by_cases hji : j = i
          · subst hji; rw [hLi]; simp
          · exact hord j p hp hji (hD.look i j o p t hio hp (fun e => hji e.symm) hpd ht)
        by_cases hji : j < i
        · rw [q3N hD.dst hp hpd (by rw [hLj]; simp [hji]) _ hj, q3N hD.dst hp hpd (by simp [hji]) _ hj]
        · rw [q16 _ fun m q hm hq hL he => by have := hD.dst m j q p t hq hp he hpd; subst this; rw [hLj] at hL; exact hji (by simpa using hL), q16 _ fun m q hm hq hL he => by have := hD.dst m j q p t hq hp he hpd; subst this; exact hji (by simpa using hL)]
      · rw [q16 _ fun m q _ hq _ he => hex ⟨m, q, hq, he⟩, q16 _ fun m q _ hq _ he => hex ⟨m, q, hq, he⟩]) (fun id hid => by
      rw [canH i id (by omega)]
      refine qc2 id _ fun k hk hw => ?_
      by_cases hki : k = i
      · subst hki; rw [hLi]; simp
      · exact hwr k _ (List.getElem?_eq_getElem hk) hki id hw hid)
    have e1 : q36 (sS ops X (Lo listed) s ops.length) o.dst (X i) = sS ops X (Lo (listed.setIfInBounds i true)) s ops.length := by
      funext t
      by_cases hex : ∃ (j : Nat) (p : Oper), ops[j]? = some p ∧ p.dst = some t
      · obtain ⟨j, p, hp, hpd⟩ := hex
        have hj := (List.getElem?_eq_some_iff.1 hp).1
        by_cases hji : i = j
        · subst hji
          rw [hio] at hp; cases hp
          rw [q3N hD.dst hio hpd (by rw [q6v hli]; simp) _ hj, hpd]
          simp [q36, pu]
        · have hne : o.dst ≠ some t := fun he => hji (hD.dst i j o p t hio hp he hpd)
          have : q36 (sS ops X (Lo listed) s ops.length) o.dst (X i) t = sS ops X (Lo listed) s ops.length t := by
            cases hod : o.dst with
            | none => rfl
            | some d => simp only [q36, pu]; rw [if_neg fun e => hne (by rw [hod, e])]
          rw [this]
          cases hL : Lo listed j with
          | true => rw [q3N hD.dst hp hpd hL _ hj, q3N hD.dst hp hpd (by rw [q6v hli, if_neg hji]; exact hL) _ hj]
          | false => rw [q16 _ fun m q hm hq hL' he => (by have := hD.dst m j q p t hq hp he hpd; subst this; rw [hL] at hL'; cases hL'), q16 _ fun m q hm hq hL' he => (by have := hD.dst m j q p t hq hp he hpd; subst this; rw [q6v hli, if_neg hji, hL] at hL'; cases hL')]
      · have hne : o.dst ≠ some t := fun he => hex ⟨i, o, hio, he⟩
        have : q36 (sS ops X (Lo listed) s ops.length) o.dst (X i) t = sS ops X (Lo listed) s ops.length t := by
          cases hod : o.dst with
          | none => rfl
          | some d => simp only [q36, pu]; rw [if_neg fun e => hne (by rw [hod, e])]
        rw [this, q16 _ fun m q _ hq _ he => hex ⟨m, q, hq, he⟩, q16 _ fun m q _ hq _ he => hex ⟨m, q, hq, he⟩]
    have e2 : h3 = hS W H (Lo (listed.setIfInBounds i true)) h ops.length := by
      funext id
      by_cases hid : id ∈ (W i).2
      · rw [g2.1 id hid, canH (i + 1) id (by omega)]
        refine (qc2 id _ fun k hk hw => ?_).symm
        rw [q6v hli]
        by_cases hki : i = k
        · subst hki; simp
        · rw [if_neg hki, hwr k _ (List.getElem?_eq_getElem hk) (fun e => hki e.symm) id hw (List.mem_append_right _ hid)]
          congr 1
          exact propext ⟨fun h => by omega, fun h => by omega⟩
      · rw [g2.2 id hid]
        refine (qc2 id _ fun k hk hw => ?_).symm
        rw [q6v hli, if_neg fun e => by subst e; exact hid hw]
    rw [e2] at g1
    have hcount : ops.length ≤ fuel + (List.range ops.length).countP (fun j => (listed.setIfInBounds i true).getD j true) := by
      have : (List.range ops.length).countP (fun j => listed.getD j true) + 1 ≤ (List.range ops.length).countP (fun j => (listed.setIfInBounds i true).getD j true) := by
        have hsplit : List.range ops.length = List.range i ++ i :: (List.range' (i + 1) (ops.length - i - 1)) := by
          rw [List.range_eq_range', List.range_eq_range', show ops.length = i + (1 + (ops.length - i - 1)) by omega, ← List.range'_append_1, Nat.zero_add]
          congr 1
          rw [show i + (1 + (ops.length - i - 1)) - i - 1 = ops.length - i - 1 by omega, Nat.add_comm 1, List.range'_succ]
        rw [hsplit, List.countP_append, List.countP_append, List.countP_cons, List.countP_cons]
        have hmono : ∀ (L : List Nat), L.countP (fun j => listed.getD j true) ≤ L.countP (fun j => (listed.setIfInBounds i true).getD j true) := by
          intro L
          refine List.countP_mono_left (fun j _ hj => ?_)
          rw [q0H hli]
          split
          · rfl
          · exact hj
        have h1 := hmono (List.range i)
        have h2 := hmono (List.range' (i + 1) (ops.length - i - 1))
        simp only [hnl, q0H hli, if_true, if_false, Bool.false_eq_true] at h1 h2 ⊢
        omega
      omega
    have hdo : q3z n o = true := by rw [List.all_eq_true] at hd; exact hd _ (List.mem_of_getElem? hio)
    have hput : ∀ v, Rel n (a.put o.dst v) (E.put e' o.dst v) := fun v => hr.put o.dst v (by unfold q3z at hdo; cases hx : o.dst <;> simp_all)
    have hstep := q0w (q9p S (hT _ S.ext) hF g1)
    rw [e1] at hstep
    have hnext : ∀ v w'', (∃ ρ', Sat D0 w0 (sS ops X (Lo (listed.setIfInBounds i true)) s ops.length) (hS W H (Lo (listed.setIfInBounds i true)) h ops.length) ρ' (E.put e' o.dst v) w'') → wpAny P .any ops.toArray Q fuel (listed.setIfInBounds i true) (a.put o.dst v) w'' := fun v w'' ⟨ρ', S'⟩ => by
      refine ih _ _ _ _ ρ' hcount (by simpa using hsz) (fun k p x hp hL hx hb => ?_) (hput v) (fun t ht => ?_) S'
      · rw [q6v hli] at hL ⊢
        split
        · rfl
        · by_cases hki : i = k
          · subst hki
            rw [hio] at hp; cases hp
            exact hdeps' x hx hb
          · rw [if_neg hki] at hL
            exact hcl k p x hp hL hx hb
      · rw [qkg (q1l ht i o (by simpa using hio))]
        exact ho t ht
    unfold wpOp
    have hio2 : ops.toArray[i]? = some o := by simpa using hio
    simp only [hio2]
    rw [q2l hr (by simpa using hd)]
    unfold WG at hstep
    split
    · rename_i hw
      rw [if_pos hw] at hstep
      exact .inl (q2O hr hstep fun v w'' hv => hnext v w'' hv)
    · rename_i hw
      rw [if_neg hw] at hstep
      exact hnext _ _ hstep
end
abbrev SQ:=Exit→(Nat→PV)→Hp→Prop
def AW (P:Program) (Tb:World→Prop) (J:Nat→Prop) (n:Nat) (c:Code) (Q:SQ) (s:Nat→PV) (h:Hp):Prop :=
 ∀ D0 (w0:Base) ρ e w,((∀ w,Kp w0.F w0.w w→Tb w)∧∀ i r,w0.J i r→J i)→Fr D0 w0.w→Sat D0 w0 s h ρ e w→W P n c (fun x e' w'=>∃ s' h' ρ',Sat D0 w0 s' h' ρ' e' w'∧Q x s' h') e w
def thA (K:(Nat→PV)→Hp→Prop) (Q:SQ):SQ
 | .normal,s,h=>K s h
 | x,s,h=>Q x s h
def inA (id:Nat) (Q:SQ):SQ
 | .exit id',s,h=>if id'=id then Q .normal s h else Q (.exit id') s h
 | x,s,h=>Q x s h
def Le (J:Nat→Prop) (s:Nat→PV) (h:Hp) (s':Nat→PV) (h':Hp):Prop:=∀ D0 (w0:Base) ρ e w,(∀ i r,w0.J i r→J i)→Sat D0 w0 s h ρ e w→∃ ρ',Sat D0 w0 s' h' ρ' e w
section
variable {P:Program} {Tb:World→Prop} {J:Nat→Prop} {n:Nat} {Q:SQ} {s s':Nat→PV} {h h':Hp}
def q5V {c:Code} (hl:Le J s h s' h') (hw:AW P Tb J n c Q s' h'):AW P Tb J n c Q s h:=fun D0 w0 ρ e w hT hF S=>by
 obtain ⟨ρ',S'⟩:=hl D0 w0 ρ e w hT.2 S;exact hw D0 w0 ρ' e w hT hF S'
def q2g {a b:Code} (hw:∀ K:(Nat→PV)→Hp→Prop,(∀ s h,AW P Tb J n b Q s h→K s h)→AW P Tb J n a (thA K Q) s h):AW P Tb J n (.seq a b) Q s h:=fun D0 w0 ρ e w hT hF S=>by
 refine qgm (q5G (fun x e' w' hx=>?_) (hw _ (fun _ _ h=>h) D0 w0 ρ e w hT hF S));obtain ⟨s',h',ρ',S',q⟩:=hx;cases x
 case normal=>exact q D0 w0 ρ' e' w' hT hF S'
 all_goals exact ⟨s',h',ρ',S',q⟩
def qhB {c:Operand} {a b:Code} {t:Bool} (hc:pe s c=.vl (.bool t)) (ha:t=true→AW P Tb J n a Q s h) (hb:t=false→AW P Tb J n b Q s h):AW P Tb J n (.cond c a b) Q s h:=fun D0 w0 ρ e w hT hF S=>by
 have:=S.pex c;rw [hc] at this;unfold Rd at this;exact q02 this (fun ht=>ha ht D0 w0 ρ e w hT hF S) (fun ht=>hb ht D0 w0 ρ e w hT hF S)
def q7y {id:Nat} {c:Code} (hw:AW P Tb J n c (inA id Q) s h):AW P Tb J n (.block id c) Q s h:=fun D0 w0 ρ e w hT hF S=>by
 refine q0X (q5G (fun x e' w' hx=>?_) (hw D0 w0 ρ e w hT hF S));obtain ⟨s',h',ρ',S',q⟩:=hx;cases x
 case exit id' =>
  simp only [inA] at q;simp only [inB]
  split
  ·rename_i hid; rw [if_pos hid] at q; exact ⟨s',h',ρ',S',q⟩
  ·rename_i hid; rw [if_neg hid] at q; exact ⟨s',h',ρ',S',q⟩
 all_goals exact ⟨s',h',ρ',S',q⟩
def q7x (hq:Q .normal s h):AW P Tb J n .skip Q s h:=fun _ _ ρ _ _ _ _ S=>q0G ⟨s,h,ρ,S,hq⟩
def qhA {id:Nat} (hq:Q (.exit id) s h):AW P Tb J n (.exit id) Q s h:=fun _ _ ρ _ _ _ _ S=>q04 ⟨s,h,ρ,S,hq⟩
def qgw (hq:Q .ret s h):AW P Tb J n .ret Q s h:=fun _ _ ρ _ _ _ _ S=>q0O ⟨s,h,ρ,S,hq⟩
def qkN {ops:List Oper} {K:(Nat→PV)→Hp→List FP→Prop} {D0:Nat→Prop} {w0:Base} (hT:∀ w,Kp w0.F w0.w w→Tb w) (hF:Fr D0 w0.w) {K':Env→World→Prop}:∀ (l:List Oper) (s:Nat→PV) (h:Hp) (acc:List FP) (ρ:Nat→Option Nat) (e:Env) (w:World),(∀ s h acc ρ e w,Sat D0 w0 s h ρ e w→K s h acc→K' e w)→AL P Tb ops K l s h acc→Sat D0 w0 s h ρ e w→WL P ops.toArray K' l e w
 | [],s,h,acc,ρ,e,w,hk,hal,S=>hk s h acc ρ e w S hal
 | o :: l,s,h,acc,ρ,e,w,hk,hal,S=>by
  obtain ⟨x,h',fp,h1,h2⟩:=hal;have:=q0w (q9p S (hT _ S.ext) hF h1);exact q4w (fun v w' ⟨ρ',S'⟩=>qkN hT hF l _ _ _ ρ' _ _ hk h2 S') this
def q9C {id:Nat} {l:List Oper} (hw:∀ K:(Nat→PV)→Hp→Prop,(∀ s h,Q .normal s h→K s h)→AL P Tb l (fun s h _=>K s h) l s h []):AW P Tb J n (.region id l.toArray false) Q s h:=fun D0 w0 ρ e w hT hF S=>by
 have h1:=hw _ fun _ _ h=>h;refine q5g ?_;exact qkN (K':=fun e' w'=>∃ s' h' ρ',Sat D0 w0 s' h' ρ' e' w'∧Q .normal s' h') hT.1 hF l s h [] ρ e w (fun s h _ ρ e w S hq=>⟨s,h,ρ,S,hq⟩) h1 S
def Sat.drew {D0:Nat→Prop} {w0:Base} {ρ:Nat→Option Nat} {e:Env} {w:World} (S:Sat D0 w0 s h ρ e w) (k:Nat):Sat D0 w0 s h ρ e { w with drawn:=k }:=S.extend (Kp.drew w k)
def qda {o:Oper} {x:PV} {fp:FP} (hs:Stp P Tb o s h x h' fp):(cls o=0→fp=([],[]))∧(cls o=1→fp.2=[])∧(cls o=2→fp.1=[]∧(fp.2=[]∨∃ d,o.dst=some d∧fp.2=[d])):=by
 obtain ⟨dst,op,ty,pos,af,gd⟩:=o;unfold Stp at hs;unfold cls;cases op <;> simp only at hs ⊢ <;> (try (exact ⟨fun _=>hs.2.2,fun h=>(by cases h),fun h=>(by cases h)⟩))
 case load t a=>obtain ⟨r,h1,rfl,rfl,rfl⟩:=hs; exact ⟨fun h=>(by cases h),fun _=>rfl,fun h=>(by cases h)⟩
 case alloc t=>obtain ⟨d,b,rfl,h1,h3,rfl,rfl,rfl⟩:=hs; exact ⟨fun h=>(by cases h),fun h=>(by cases h),fun _=>⟨rfl,.inr ⟨d,rfl,rfl⟩⟩⟩
 case box t v=>obtain ⟨d,k,rfl,h1,h3,h4,rfl,rfl,rfl⟩:=hs; exact ⟨fun h=>(by cases h),fun h=>(by cases h),fun _=>⟨rfl,.inr ⟨d,rfl,rfl⟩⟩⟩
 case buildSlice t len ps=>obtain ⟨d,E,k,bytes,rfl,h1,h3,h4,h5,h6,rfl,rfl,rfl⟩:=hs; exact ⟨fun h=>(by cases h),fun h=>(by cases h),fun _=>⟨rfl,.inr ⟨d,rfl,rfl⟩⟩⟩
 case makeSlice t l c=>obtain ⟨d,E,k,bytes,z,kl,kc,n,rfl,h1,h3,h4,h5,h6,h7,rfl,rfl,rfl⟩:=hs; exact ⟨fun h=>(by cases h),fun h=>(by cases h),fun _=>⟨rfl,.inr ⟨d,rfl,rfl⟩⟩⟩
 case store t a v=>exact ⟨fun h=>(by cases h),fun h=>(by cases h),fun h=>(by cases h)⟩
 case call c =>
  obtain ⟨callee,args,tys⟩:=c;simp only at hs ⊢;cases callee
  case builtin b=>cases b <;> simp only at hs ⊢ <;> first | exact ⟨fun _=>hs.2.2,fun h=>(by cases h),fun h=>(by cases h)⟩ | exact ⟨fun h=>(by cases h),fun h=>(by cases h),fun h=>(by cases h)⟩
  case value f =>
   cases f <;> simp only at hs ⊢
   case func f=>obtain ⟨al,ids,h1,h3,h4,rfl,rfl⟩:=hs; exact ⟨fun h=>(by cases h),fun _=>rfl,fun h=>(by cases h)⟩
   case tmp t=>obtain ⟨f,ys,al,ids,g0,h1,h3,h4,rfl,rfl⟩:=hs; exact ⟨fun h=>(by cases h),fun _=>rfl,fun h=>(by cases h)⟩
   all_goals exact ⟨fun _=>hs.2.2,fun h=>(by cases h),fun h=>(by cases h)⟩
  case invoke r m=>exact ⟨fun _=>hs.2.2,fun h=>(by cases h),fun h=>(by cases h)⟩
def qlX {o:Oper} {x:PV} {fp:FP} {ops:List Oper} (hs:q7w P Tb ops o s h x h' fp):(cls o=0→fp=([],[]))∧(cls o=1→fp.2=[])∧(cls o=2→fp.1=[]∧(fp.2=[]∨∃ d,o.dst=some d∧fp.2=[d])):=by
 unfold q7w at hs
 split at hs
 ·exact qda hs
 ·obtain ⟨c,_,hs⟩:=hs
  split at hs
  ·exact qda hs
  ·obtain ⟨_,_,rfl⟩:=hs;exact ⟨fun _=>rfl,fun _=>rfl,fun _=>⟨rfl,.inl rfl⟩⟩
def qao:∀ {l:List (Nat × Nat)} {a b:Nat},qsP l a b=true→(a,b) ∈ l
 | p :: l,a,b,hp=>by
  simp only [qsP,Bool.or_eq_true,Bool.and_eq_true] at hp
  rcases hp with ⟨h1,h2⟩ | h
  ·rw [← Nat.eq_of_beq_eq_true h1,← Nat.eq_of_beq_eq_true h2]; exact List.mem_cons_self
  ·exact List.mem_cons_of_mem _ (qao h)
 | [],_,_,hp=>by cases hp
def qmJ {id:Nat} {l:List Oper} (prs:List (Nat × Nat)) (hm:P.follows .mixedOrders=true) (hok:qca l (qne [] l) prs=true) (hw:∀ K:(Nat→PV)→Hp→Prop,(∀ s h,Q .normal s h→K s h)→AL P Tb l (fun s h acc=>chk prs acc.reverse∧K s h) l s h []):AW P Tb J n (.region id l.toArray true) Q s h:=fun D0 w0 ρ e w hT hF S=>by
 have h1:=hw _ fun _ _ h=>h;obtain ⟨X,H,W,hG,hck,hq⟩:=qqu l s h [] h1;have hD:=Drw.of hok;rw [List.append_nil,List.reverse_reverse] at hck;intro hd a hr;have hd':l.all (q3z n)=true:=hd;refine wp_mono (Q:=fun x a' w'=>x=.normal∧qkG n (.region id l.toArray true) e (fun x e' w'=>∃ s' h' ρ',Sat D0 w0 s' h' ρ' e' w'∧Q x s' h') .normal a' w') (wp_region_any hm ?_) fun x a' w' hq=>by rw [hq.1]; exact hq.2
 have hdyn:∀ (i j:Nat) (o p:Oper),l[i]?=some o→l[j]?=some p→j < i→((qne [] l).getD i 0).testBit j=true∨dj (W j) (W i):=fun i j o p ho hp hji=>by
  rcases hD.par i j o p ho hp hji with h | h | h
  ·exact .inl h
  ·refine .inr ?_;have c1:=qlX (hG j p hp);have c2:=qlX (hG i o ho);unfold harm at h;simp only [Bool.or_eq_true,Bool.and_eq_true] at h
   rcases h with ((h | h) | h) | h
   ·rw [c1.1 (Nat.eq_of_beq_eq_true h)]; exact ⟨fun x hx=>(by cases hx),fun x _ hx=>(by cases hx)⟩
   ·rw [c2.1 (Nat.eq_of_beq_eq_true h)]; exact ⟨fun x _=>⟨fun hx=>(by cases hx),fun hx=>(by cases hx)⟩,fun x hx=>(by cases hx)⟩
   ·have e1:=c1.2.1 (Nat.eq_of_beq_eq_true h.1);have e2:=c2.2.1 (Nat.eq_of_beq_eq_true h.2);exact ⟨fun x hx=>(by rw [e1] at hx; cases hx),fun x hx=>(by rw [e2] at hx; cases hx)⟩
   ·obtain ⟨e1,e2⟩:=c1.2.2 (Nat.eq_of_beq_eq_true h.1);obtain ⟨e3,e4⟩:=c2.2.2 (Nat.eq_of_beq_eq_true h.2);refine ⟨fun x hx=>⟨by rw [e3]; simp,fun hx2=>?_⟩,fun x _=>by rw [e1]; simp⟩
    rcases e2 with e2 | ⟨d,hd1,e2⟩
    ·rw [e2] at hx; cases hx
    ·rcases e4 with e4 | ⟨d',hd2,e4⟩
     ·rw [e4] at hx2; cases hx2
     ·rw [e2] at hx; rw [e4] at hx2;simp at hx hx2;subst hx;subst hx2;have:=hD.dst i j o p x ho hp hd2 hd1;omega
  ·have:=hck (j,i) (qao h);have g:∀ k,k < l.length→((List.range l.length).map W).getD k ([],[])=W k:=fun k hk=>by simp [List.getD_eq_getElem?_getD,hk]
   simp only [g j (List.getElem?_eq_some_iff.1 hp).1,g i (List.getElem?_eq_some_iff.1 ho).1] at this;exact .inr this
 have:=qog (P:=P) (Tb:=Tb) (n:=n) (e0:=e) (Q:=fun x a' w'=>x=.normal∧qkG n (.region id l.toArray true) e (fun x e' w'=>∃ s' h' ρ',Sat D0 w0 s' h' ρ' e' w'∧Q x s' h') .normal a' w') hD hd' hT.1 hF hG hdyn (fun a' e' w' ρ' r' S' ho=>⟨rfl,e',r',ho,⟨_,_,ρ',S',hq⟩⟩) l.length (Array.replicate l.length false) a e { w with drawn:=w.drawn+1 } ρ (by omega) (by simp) (fun k o x ho hl=>by
  simp only [Lo,Array.getD_eq_getD_getElem?,Array.getElem?_replicate] at hl
  split at hl <;> cases hl) hr (fun _ _=>rfl) (by
  have e1:sS l X (Lo (Array.replicate l.length false)) s l.length=s:=by
   funext t
   exact q16 _ fun k o _ _ hl=>by
    simp only [Lo,Array.getD_eq_getD_getElem?,Array.getElem?_replicate] at hl
    split at hl <;> cases hl
  have e2:hS W H (Lo (Array.replicate l.length false)) h l.length=h:=by
   have:∀ m,hS W H (Lo (Array.replicate l.length false)) h m=h:=fun m=>by
    induction m with
    | zero=>rfl
    | succ m ih =>
     rw [hS_s,if_neg,ih];simp only [Lo,Array.getD_eq_getD_getElem?,Array.getElem?_replicate]
     split <;> simp
   exact this _
  rw [e1,e2];exact S.drew _)
 simpa using this
def qgz {ι:Type} {c:Code} (Ss:ι→Nat→PV) (Hs:ι→Hp) (μ:ι→Nat) (i0:ι) (hl:Le J s h (Ss i0) (Hs i0))
  (round:∀ i,AW P Tb J n c (thA (fun s' h'=>∃ j,Le J s' h' (Ss j) (Hs j)∧μ j < μ i) Q) (Ss i) (Hs i)):AW P Tb J n (.loop c) Q s h:=fun D0 w0 ρ e w hT hF S=>by
 intro hd a hr;obtain ⟨ρ0,S0⟩:=hl _ _ _ _ _ hT.2 S;have main:∀ (m:Nat) (i:ι) (ρ:Nat→Option Nat) (e':Env) (w':World) (a':Act),μ i < m→Sat D0 w0 (Ss i) (Hs i) ρ e' w'→Rel n a' e'→(∀ t,wr t c=false→e' t=e t)→Code.rounds P c (qkG n (.loop c) e (fun x e' w'=>∃ s' h' ρ',Sat D0 w0 s' h' ρ' e' w'∧Q x s' h')) m a' w':=by
  intro m
  induction m with
  | zero=>intro i _ _ _ _ hm; omega
  | succ m ih =>
   intro i ρ e' w' a' hm S' r' f';refine wp_mono (round i D0 w0 ρ e' w' hT hF S' hd a' r') ?_;rintro x a2 w2 ⟨e2,r2,f2,q2⟩;obtain ⟨s2,h2,ρ2,S2,q⟩:=q2;cases x
   case normal =>
    obtain ⟨j,hlj,hmj⟩:=q;obtain ⟨ρ3,S3⟩:=hlj _ _ _ _ _ hT.2 S2;exact ih j ρ3 e2 w2 a2 Oq S3 r2 fun t ht=>(f2 t ht).trans (f' t ht)
   all_goals exact ⟨e2,r2,fun t ht=>(f2 t ht).trans (f' t ht),s2,h2,ρ2,S2,q⟩
 exact wp_loop_rounds (μ i0+1) (main _ i0 ρ0 e w a Oq S0 hr fun _ _=>rfl)
end
inductive LeV (τ:Nat→Option Nat) (h h':Hp):PV→PV→Prop
 | un {x:PV}:LeV τ h h' x .un
 | cl {x:PV}:Cld x→LeV τ h h' x x
 | ow {i j:Nat} {k:Kd} {off n:Nat} {b:Bk}:τ i=some j→h' i=some b→LeV τ h h' (.ow j k off n) (.ow i k off n)
 | pt {i j a c:Nat} {b:Bk}:τ i=some j→h' i=some b→LeV τ h h' (.pt j a c) (.pt i a c)
 | nilow {i:Nat} {k:Kd} {b:Bk}:τ i=none→h' i=some b→b.k=k→LeV τ h h' (.vl (.slice none 0 0)) (.ow i k 0 0)
 | nilsl {k:Kd}:LeV τ h h' (.vl (.slice none 0 0)) (.sl k [])
 | nilfm {G:Fam}:(∀ D w,In G D (.slice none 0 0) w)→LeV τ h h' (.vl (.slice none 0 0)) (.fm G)
 | fz {j:Nat} {k:Kd} {off n:Nat} {b:Bk}:h j=some b→b.st=false→b.k=k→(∀ x ∈ b.xs,Cld x)→(∀ i,τ i=some j→h' i=none)→LeV τ h h' (.ow j k off n) (.sl k ((b.xs.drop off).take n))
 | fzg {j:Nat} {k:Kd} {off n:Nat} {b:Bk} {ys:List PV}:h j=some b→b.st=false→b.k=k→b.xs.length=ys.length→(∀ (i:Nat) (x y:PV),b.xs[i]?=some x→ys[i]?=some y→LeV τ h h' x y)→(∀ y ∈ ys,Cld y)→(∀ i,τ i=some j→h' i=none)→LeV τ h h' (.ow j k off n) (.sl k ((ys.drop off).take n))
 | pq {j i:Nat} {b:Bk} {u:Value}:h j=some b→b.st=false→b.k=none→b.xs[i]?=some (.vl u)→(∀ i,τ i=some j→h' i=none)→LeV τ h h' (.pt j i 0) (.qt none (.vl u))
 | ag {l m:List PV}:l.length=m.length→(∀ (i:Nat) (x y:PV),l[i]?=some x→m[i]?=some y→LeV τ h h' x y)→LeV τ h h' (.ag l) (.ag m)
 | tu {l m:List PV}:l.length=m.length→(∀ (i:Nat) (x y:PV),l[i]?=some x→m[i]?=some y→LeV τ h h' x y)→LeV τ h h' (.tu l) (.tu m)
def LeL (τ:Nat→Option Nat) (h h':Hp) (l m:List PV):Prop:=l.length=m.length∧∀ (i:Nat) (x y:PV),l[i]?=some x→m[i]?=some y→LeV τ h h' x y
def LeB (τ:Nat→Option Nat) (h h':Hp) (i:Nat) (b':Bk):Prop :=
 match τ i with
 | some j=>∃ b,h j=some b∧b'.T=b.T∧b'.k=b.k∧(b'.st=false∧b.st=false)∧LeL τ h h' b.xs b'.xs
 | none=>b'.xs=[]
section
variable {P:Program} {Tb:World→Prop} {J:Nat→Prop} {n:Nat} {Q:SQ} {s s':Nat→PV} {h h':Hp} {τ:Nat→Option Nat}
def q30 (τ:Nat→Option Nat) (hb:∀ i b',h' i=some b'→LeB τ h h' i b') (hi:∀ i j k b c,h' i=some b→h' j=some c→τ i=some k→τ j=some k→i=j) (hs:∀ t,LeV τ h h' (s t) (s' t)) (hτ:∀ i,J i→5000≤i→i < 1000000→τ i=some i):Le J s h s' h':=fun D0 w0 ρ e w hJ S=>by
 let ρ':Nat→Option Nat:=fun i=>(τ i).bind ρ
 have hdd:∀ k,dm D0 ρ h k→dm D0 ρ' h' k:=fun k hk=>⟨hk.1,fun i b' hb' hr=>by
  have:=hb i b' hb';unfold LeB at this;cases ht:τ i with
  | none=>simp only [ρ',ht] at hr; cases hr
  | some j =>
   rw [ht] at this;obtain ⟨b,h1,_⟩:=this;simp only [ρ',ht,Option.bind_some] at hr;exact hk.2 j b h1 hr⟩
 have key:∀ {x y:PV},LeV τ h h' x y→∀ {v:Value},Rd w (dm D0 ρ h) x ρ h v→Rd w (dm D0 ρ' h') y ρ' h' v:=fun {x y} hl=>by
  induction hl with
  | un=>intro v _; unfold Rd; trivial
  | cl hc=>intro v hr; exact ((qb4 hc hr).sub fun k _ hk=>hdd k hk).cl
  | @ow i j k off n b' ht hb' =>
   intro v hr;have:=hb i b' hb';unfold LeB at this;rw [ht] at this;obtain ⟨b,h1,_,h2,_,h3,_⟩:=this;unfold Rd at hr ⊢;obtain ⟨b2,A,c,r1,r2,r3,r4,r5,r6,r7,r8⟩:=hr;rw [h1] at r1; cases r1;have mv:∀ {A:Option Addr} {a m:Nat},AtO w (ρ j) A a m→AtO w (ρ' i) A a m:=fun ⟨g,a1,a2,a3⟩=>⟨g,by simp only [ρ',ht,Option.bind_some]; exact a1,a2,a3⟩;exact ⟨b',A,c,hb',by rw [h2,r2],r3,r4,r5,by omega,r7.imp (fun h=>h) mv,fun h0=>(r8 h0).imp (fun h=>h) mv⟩
  | @pt i j a c b' ht hb' =>
   intro v hr;have:=hb i b' hb';unfold LeB at this;rw [ht] at this;obtain ⟨b,h1,_,h2,_,h3,_⟩:=this;unfold Rd at hr ⊢;obtain ⟨b2,g,r1,r2,r3,r4⟩:=hr;rw [h1] at r1; cases r1;exact ⟨b',g,hb',by simp only [ρ',ht,Option.bind_some]; exact r2,by omega,by rw [h2]; exact r4⟩
  | @nilow i k b' ht hb' hk =>
   intro v hr;unfold Rd at hr ⊢;exact ⟨b',none,0,hb',hk,hr,Nat.le_refl _,by simp [maxLen],by omega,.inl rfl,fun _=>.inl ⟨rfl,rfl⟩⟩
  | nilsl =>
   intro v hr;unfold Rd at hr ⊢;exact ⟨none,0,0,[],hr,Row.nil _ _ _,rfl,by unfold RdL; rfl,fun v hv=>by cases hv⟩
  | nilfm hG =>
   intro v hr;unfold Rd at hr ⊢;rw [hr];exact hG _ _
  | @pq j i b u hj hst hk hu hno =>
   intro v hr;unfold Rd at hr;obtain ⟨b2,g,r1,r2,r3,r4⟩:=hr;rw [hj] at r1; cases r1;obtain ⟨v',q1,q2,q3⟩:=(S.own j b g hj r2).2.unit hst hu;unfold Rd at q1;subst q1;rw [hk] at q2 q3 r4;unfold Rd;refine ⟨_,v',r4,⟨(S.own j b g hj r2).1.2,fun i b' hb' hr'=>?_⟩,by unfold Rd; rfl,⟨q2,Nat.one_pos⟩,fun j t ht=>by rw [q06]; exact q3 j t ht⟩;have h7:=hb i b' hb';unfold LeB at h7;cases ht:τ i with
   | none=>simp only [ρ',ht] at hr'; cases hr'
   | some j' =>
    rw [ht] at h7;obtain ⟨b2,e1,_,_,⟨_,e2⟩,_⟩:=h7;simp only [ρ',ht,Option.bind_some] at hr'
    rcases S.inj j' j b2 b g e1 hj hst hr' r2 with e | e
    ·subst e;have:=hno i ht;rw [hb'] at this; cases this
    ·rw [e2] at e; cases e
  | @fz j k off n b hj hst hk hcl hno =>
   intro v hr;subst hk;obtain ⟨A,c,vs,rfl,q1,q2,q3⟩:=S.row hj hst hr;have hb0:off+n≤b.xs.length:=by
    unfold Rd at hr;obtain ⟨b',_,_,h1,_,_,_,_,h5,_⟩:=hr;rw [hj] at h1; cases h1; exact h5
   unfold Rd;refine ⟨A,n,c,vs,rfl,q1.sub fun k _ hk=>⟨(S.own j b k hj hk).1.2,fun i b' hb' hr'=>?_⟩,by simp; omega,?_,q3⟩
   ·have h7:=hb i b' hb';unfold LeB at h7;cases ht:τ i with
    | none=>simp only [ρ',ht] at hr'; cases hr'
    | some j' =>
     rw [ht] at h7;obtain ⟨b2,e1,_,_,⟨_,e2⟩,_⟩:=h7;simp only [ρ',ht,Option.bind_some] at hr'
     rcases S.inj j' j b2 b k e1 hj hst hr' hk with e | e
     ·subst e;have:=hno i ht;rw [hb'] at this; cases this
     ·rw [e2] at e; cases e
   ·obtain ⟨q4,q5⟩:=RdL.iff.1 q2;exact RdL.iff.2 ⟨q4,fun i z v hz hv=>(qb4 (hcl z (List.mem_of_mem_drop (List.mem_of_mem_take (List.mem_of_getElem? hz)))) (q5 i z v hz hv)).sub fun k _ hk=>hdd k hk⟩
  | @fzg j k off n b ys hj hst hk hly _ hcl hno ih =>
   intro v hr;subst hk;obtain ⟨A,c,vs,rfl,q1,q2,q3⟩:=S.row hj hst hr;have hb0:off+n≤b.xs.length:=by
    unfold Rd at hr;obtain ⟨b',_,_,h1,_,_,_,_,h5,_⟩:=hr;rw [hj] at h1; cases h1; exact h5
   unfold Rd;refine ⟨A,n,c,vs,rfl,q1.sub fun k _ hk=>⟨(S.own j b k hj hk).1.2,fun i b' hb' hr'=>?_⟩,by simp; omega,?_,q3⟩
   ·have h7:=hb i b' hb';unfold LeB at h7;cases ht:τ i with
    | none=>simp only [ρ',ht] at hr'; cases hr'
    | some j' =>
     rw [ht] at h7;obtain ⟨b2,e1,_,_,⟨_,e2⟩,_⟩:=h7;simp only [ρ',ht,Option.bind_some] at hr'
     rcases S.inj j' j b2 b k e1 hj hst hr' hk with e | e
     ·subst e;have:=hno i ht;rw [hb'] at this; cases this
     ·rw [e2] at e; cases e
   ·obtain ⟨q4,q5⟩:=RdL.iff.1 q2;refine RdL.iff.2 ⟨by rw [← q4]; simp [hly],fun i z v hz hv=>?_⟩;have hin:i < n:=by
     rcases Nat.lt_or_ge i n with h | h
     ·exact h
     ·rw [List.getElem?_eq_none (by simp; omega)] at hz; cases hz
    have hz2:ys[off+i]?=some z:=by rw [List.getElem?_take,if_pos hin,List.getElem?_drop] at hz; exact hz
    obtain ⟨x,hx⟩:∃ x,b.xs[off+i]?=some x:=⟨_,List.getElem?_eq_getElem Oq⟩;have hx2:((b.xs.drop off).take n)[i]?=some x:=by rw [List.getElem?_take,if_pos hin,List.getElem?_drop]; exact hx
    exact qb4 (hcl z (List.mem_of_getElem? hz2)) (ih (off+i) x z hx hz2 (q5 i x v hx2 hv))
  | ag hlen _ ih =>
   intro v hr;unfold Rd at hr ⊢;obtain ⟨vs,r1,r2⟩:=hr;obtain ⟨r3,r4⟩:=RdL.iff.1 r2;refine ⟨vs,r1,RdL.iff.2 ⟨by omega,fun i y v hy hv=>?_⟩⟩;have hlt:=(List.getElem?_eq_some_iff.1 hy).1;have hx:=List.getElem?_eq_getElem (show i < _ by rw [hlen]; exact hlt);exact ih i _ y hx hy (r4 i _ v hx hv)
  | tu hlen _ ih =>
   intro v hr;unfold Rd at hr ⊢;obtain ⟨vs,r1,r2⟩:=hr;obtain ⟨r3,r4⟩:=RdL.iff.1 r2;refine ⟨vs,r1,RdL.iff.2 ⟨by omega,fun i y v hy hv=>?_⟩⟩;have hlt:=(List.getElem?_eq_some_iff.1 hy).1;have hx:=List.getElem?_eq_getElem (show i < _ by rw [hlen]; exact hlt);exact ih i _ y hx hy (r4 i _ v hx hv)
 refine ⟨ρ',fun i j b c g bi bj hst ri rj=>?_,fun i b' g bi ri=>?_,fun i b' bi ri=>?_,fun t=>key (hs t) (S.rd t),S.ext,S.fr,S.imp,fun i g hj=>by simp only [ρ',hτ i (hJ i g hj) (w0.lo i g hj).1 (w0.lo i g hj).2,Option.bind_some]; exact S.pin i g hj⟩
 ·have h1:=hb i b bi;have h2:=hb j c bj;unfold LeB at h1 h2;cases t1:τ i with
  | none=>simp only [ρ',t1] at ri; cases ri
  | some i' =>
   cases t2:τ j with
   | none=>simp only [ρ',t2] at rj; cases rj
   | some j' =>
    rw [t1] at h1;rw [t2] at h2;obtain ⟨b1,q1,_,_,⟨q2,q2'⟩,_⟩:=h1;obtain ⟨b2,q3,_,_,⟨q4,q4'⟩,_⟩:=h2;simp only [ρ',t1,t2,Option.bind_some] at ri rj
    rcases S.inj i' j' b1 b2 g q1 q3 q4' ri rj with h | h
    ·subst h; exact .inl (hi i j i' b c bi bj t1 t2)
    ·rw [q2'] at h; cases h
 ·have h1:=hb i b' bi;unfold LeB at h1;cases t1:τ i with
  | none=>simp only [ρ',t1] at ri; cases ri
  | some j =>
   rw [t1] at h1;obtain ⟨b,q1,q2,q3,q4,q5,q6⟩:=h1;simp only [ρ',t1,Option.bind_some] at ri;obtain ⟨a1,cs,c1,c2,c3⟩:=S.own j b g q1 ri;refine ⟨a1,cs,by rw [q2]; exact c1,c2,fun hst=>?_⟩;obtain ⟨vs,v1,v2,v3⟩:=c3 q4.2;obtain ⟨r3,r4⟩:=RdL.iff.1 v2;refine ⟨vs,by rw [← q5,q3]; exact v1,RdL.iff.2 ⟨by omega,fun m y v hy hv=>?_⟩,by rw [q3]; exact v3⟩;have hlt:=(List.getElem?_eq_some_iff.1 hy).1;have hx:=List.getElem?_eq_getElem (show m < b.xs.length by omega);exact key (q6 m _ y hx hy) (r4 m _ v hx hv)
 ·have h1:=hb i b' bi;unfold LeB at h1;cases t1:τ i with
  | none=>rw [t1] at h1; exact h1
  | some j =>
   rw [t1] at h1;obtain ⟨b,q1,q2,q3,q4,q5,q6⟩:=h1;simp only [ρ',t1,Option.bind_some] at ri;have:=S.vir j b q1 ri;rw [this] at q5;exact List.eq_nil_of_length_eq_zero q5.symm
end
def lkP:List (Nat × PV)→Nat→Option PV
 | [],_=>none
 | p :: l,t=>if t=p.1 then some p.2 else lkP l t
def lkB:List (Nat × Bk)→Nat→Option Bk
 | [],_=>none
 | p :: l,t=>if t=p.1 then some p.2 else lkB l t
def kin:List Nat→Nat→Bool
 | [],_=>false
 | a :: l,t=>if t=a then true else kin l t
def stK (xs:List (Nat × PV)) (ks:List Nat) (s:Nat→PV) (t:Nat):PV:=match lkP xs t with | some x=>x | none=>if kin ks t then s t else .un
def hpK (bs:List (Nat × Bk)) (kb:List Nat) (h:Hp) (i:Nat):Option Bk:=match lkB bs i with | some b=>some b | none=>if kin kb i then h i else none
def q1s:List (Nat × Option Nat)→Nat→Option Nat
 | [],i=>some i
 | p :: l,i=>if i=p.1 then p.2 else q1s l i
def qrB:List (Nat × Option Nat)→Bool
 | []=>true
 | p :: l=>(Nat.blt p.1 5000 || Nat.ble 1000000 p.1) && qrB l
def q9R:∀ {l:List (Nat × Option Nat)},qrB l=true→∀ i,5000≤i→i < 1000000→q1s l i=some i
 | [],_,_,_,_=>rfl
 | p :: l,ht,i,hi,hi2=>by
  simp only [qrB,Bool.and_eq_true,Bool.or_eq_true] at ht;have h1:p.1 < 5000∨1000000≤p.1:=ht.1.imp (fun h=>by simp [Nat.blt] at h; omega) (fun h=>Nat.le_of_ble_eq_true h);unfold q1s;rw [if_neg (by omega)];exact q9R ht.2 i hi hi2
def q5U (τ:Nat→Option Nat) (h h':Hp) (s:Nat→PV):List (Nat × PV)→Prop
 | []=>True
 | p :: l=>LeV τ h h' (s p.1) p.2∧q5U τ h h' s l
def LeSk (τ:Nat→Option Nat) (h h':Hp) (s s0:Nat→PV):List Nat→Prop
 | []=>True
 | t :: l=>LeV τ h h' (s t) (s0 t)∧LeSk τ h h' s s0 l
def qqD (τ:Nat→Option Nat) (h h':Hp):List (Nat × Bk)→Prop
 | []=>True
 | p :: l=>LeB τ h h' p.1 p.2∧qqD τ h h' l
def LeBk (τ:Nat→Option Nat) (h h' h0:Hp):List Nat→Prop
 | []=>True
 | i :: l=>(∀ b,h0 i=some b→LeB τ h h' i b)∧LeBk τ h h' h0 l
def dom1 (bs:List (Nat × Bk)) (kb:List Nat):List Nat:=bs.map (·.1) ++ kb
def q9Q (τ:Nat→Option Nat):List Nat→Prop
 | []=>True
 | i :: l=>(∀ j ∈ l,i=j∨τ i=none∨τ i≠τ j)∧q9Q τ l
section
variable {P:Program} {Tb:World→Prop} {J:Nat→Prop} {n:Nat} {Q:SQ} {s s' s0:Nat→PV} {h h' hb0:Hp} {τ:Nat→Option Nat} {xs:List (Nat × PV)} {ks kb:List Nat} {bs:List (Nat × Bk)}
def q5m:∀ {l:List Nat},q9Q τ l→∀ i ∈ l,∀ j ∈ l,i=j∨τ i=none∨τ i≠τ j
 | a :: l,ht,i,hi,j,hj=>by
  rcases List.mem_cons.1 hi with h1 | h1 <;> rcases List.mem_cons.1 hj with h2 | h2
  ·exact .inl (h1.trans h2.symm)
  ·rw [h1]; exact ht.1 j h2
  ·rw [h2]
   rcases ht.1 i h1 with h | h | h
   ·exact .inl h.symm
   ·by_cases h2:τ i=none
    ·exact .inr (.inl h2)
    ·exact .inr (.inr (by rw [h]; exact h2))
   ·exact .inr (.inr (fun e=>h e.symm))
  ·exact q5m ht.2 i h1 j h2
def stV:List (Nat × PV)→Nat→PV
 | [],_=>.un
 | p :: l,t=>if t=p.1 then p.2 else stV l t
def stM:List (Nat × PV)→List (Nat × PV)→Nat→PV
 | [],kv,t=>stV kv t
 | p :: l,kv,t=>if t=p.1 then p.2 else stM l kv t
def hpV:List (Nat × Option Bk)→Hp
 | [],_=>none
 | p :: l,i=>if i=p.1 then p.2 else hpV l i
def hpM:List (Nat × Bk)→List (Nat × Option Bk)→Hp
 | [],kb,i=>hpV kb i
 | p :: l,kb,i=>if i=p.1 then some p.2 else hpM l kb i
def q9F (τ:Nat→Option Nat) (h h':Hp):List (Nat × Option Bk)→Prop
 | []=>True
 | p :: l=>(∀ b,p.2=some b→LeB τ h h' p.1 b)∧q9F τ h h' l
def qmH:∀ {kv:List (Nat × PV)},q5U τ h h' s kv→∀ t,LeV τ h h' (s t) (stV kv t)
 | [],_,_=>.un
 | p :: l,hl,t=>by
  unfold stV
  split
  ·rename_i ht; subst ht; exact hl.1
  ·exact qmH hl.2 t
def q3n {kv:List (Nat × PV)} (h2:q5U τ h h' s kv):∀ {xs:List (Nat × PV)},q5U τ h h' s xs→∀ t,LeV τ h h' (s t) (stM xs kv t)
 | [],_,t=>qmH h2 t
 | p :: l,hl,t=>by
  unfold stM
  split
  ·rename_i ht; subst ht; exact hl.1
  ·exact q3n h2 hl.2 t
def q2Y {h2:Hp}:∀ {kb:List (Nat × Option Bk)},q9F τ h h2 kb→∀ i b,hpV kb i=some b→LeB τ h h2 i b∧i ∈ kb.map (·.1)
 | [],_,_,_,hb=>by cases hb
 | p :: l,hl,i,b,hb=>by
  unfold hpV at hb
  split at hb
  ·rename_i hi; subst hi; exact ⟨hl.1 b hb,List.mem_cons_self⟩
  ·have:=q2Y hl.2 i b hb; exact ⟨this.1,List.mem_cons_of_mem _ this.2⟩
def q9A {h2:Hp} {kb:List (Nat × Option Bk)} (hk:q9F τ h h2 kb):∀ {bs:List (Nat × Bk)},qqD τ h h2 bs→∀ i b,hpM bs kb i=some b→LeB τ h h2 i b∧i ∈ bs.map (·.1) ++ kb.map (·.1)
 | [],_,i,b,hb=>q2Y hk i b hb
 | p :: l,hl,i,b,hb=>by
  unfold hpM at hb
  split at hb
  ·rename_i hi; subst hi; cases hb; exact ⟨hl.1,List.mem_cons_self⟩
  ·have:=q9A hk hl.2 i b hb; exact ⟨this.1,List.mem_cons_of_mem _ this.2⟩
def LeM (l:List (Nat × Option Nat)) (hl:qrB l=true) {τ:Nat→Option Nat} (hlt:q1s l=τ) {kv:List (Nat × PV)} {kb:List (Nat × Option Bk)} (hh:q5U τ h (hpM bs kb) s xs∧q5U τ h (hpM bs kb) s kv∧qqD τ h (hpM bs kb) bs∧q9F τ h (hpM bs kb) kb∧q9Q τ (bs.map (·.1) ++ kb.map (·.1))):Le J s h (stM xs kv) (hpM bs kb):=by
 obtain ⟨h1,h2,h3,h4,h5⟩:=hh;refine q30 τ (fun i b hb=>(q9A h4 h3 i b hb).1) (fun i j k b c hi hj ti tj=>?_) (fun t=>q3n h2 h1 t) (by rw [← hlt]; exact fun i _=>q9R hl i)
 rcases q5m h5 i (q9A h4 h3 i b hi).2 j (q9A h4 h3 j c hj).2 with h | h | h
 ·exact h
 ·rw [ti] at h; cases h
 ·rw [ti,tj] at h; exact absurd rfl h
def q0L {ι:Type} {c:Code} (I:ι→Prop) (ks kb:List Nat) {kv:List (Nat × PV)} {kbv:List (Nat × Option Bk)} (hk:(ks.map fun t=>(t,s t))=kv) (hb:(kb.map fun i=>(i,h i))=kbv) (xs:ι→List (Nat × PV)) (bs:ι→List (Nat × Bk)) (μ:ι→Nat) (i0:ι) (hI:I i0) (hl:Le J s h (stM (xs i0) kv) (hpM (bs i0) kbv))
  (round:∀ i,I i→AW P Tb J n c (thA (fun s' h'=>∃ j,I j∧μ j < μ i∧Le J s' h' (stM (xs j) kv) (hpM (bs j) kbv)) Q) (stM (xs i) kv) (hpM (bs i) kbv)):AW P Tb J n (.loop c) Q s h :=
 qgz (ι:={i:ι // I i}) (fun i=>stM (xs i.1) kv) (fun i=>hpM (bs i.1) kbv) (fun i=>μ i.1) ⟨i0,hI⟩ hl fun i=>by
  intro D0 w0 ρ e w hT hF S;refine q5G (fun x e' w' hx=>?_) (round i.1 i.2 D0 w0 ρ e w hT hF S);obtain ⟨s',h',ρ',S',q⟩:=hx;refine ⟨s',h',ρ',S',?_⟩;cases x
  case normal=>obtain ⟨j,h1,h2,h3⟩:=q; exact ⟨⟨j,h1⟩,h3,h2⟩
  all_goals exact q
def enP (l:List PV) (i:Nat):PV:=l.getD i .un
def rsP (P:Program) (h:Hp) (s:Nat→PV):ResultVar→Option PV
 | .tmp t=>some (s t)
 | .cell a t=>(ldP h (q0f P t) (s a)).map (·.1)
def rsL (P:Program) (h:Hp) (s:Nat→PV):List ResultVar→Option (List PV)
 | []=>some []
 | r :: l=>(rsP P h s r).bind fun x=>(rsL P h s l).map fun y=>x :: y
def mkV:List Value→Value
 | [x]=>x
 | l=>.tuple ⟨l⟩
def mkR:List PV→PV
 | [x]=>x
 | l=>.tu l
def retA (P:Program) (fn:Func) (r:PV):SQ:=fun x s h=>(x=.ret∨x=.normal)∧fn.results.toList.length≤4∧∃ l al ids,rsL P h s fn.results.toList=some l∧q2e h l=some (al,ids)∧LeV (fun _=>none) h0 h0 (mkR al) r
end
section
variable {P:Program} {Tb:World→Prop} {J:Nat→Prop} {n:Nat} {s:Nat→PV} {h:Hp} {D0:Nat→Prop} {w0:Base} {w:World} {ρ:Nat→Option Nat} {e:Env}
def qsC {fn:Func} {R:Ending→World→Prop} {r s q t:ResultVar} {v u x y:Value} (h:fn.results=#[r,s,q,t]) (a0:q7R P w e r=some v) (a1:q7R P w e s=some u) (a2:q7R P w e q=some x) (a3:q7R P w e t=some y) (hR:R (.returned (.tuple #[v,u,x,y])) w):q9D P fn R .ret e w:=by
 have b0:=q1n a0;have b1:=q1n a1;have b2:=q1n a2;have b3:=q1n a3;exact ⟨.tuple #[v,u,x,y],by simp [qeE,h,b0,b1,b2,b3],hR⟩
def qnA (S:Sat D0 w0 s h ρ e w) {r:ResultVar} {x:PV} (hr:rsP P h s r=some x):∃ v,q7R P w e r=some v∧Rd w (dm D0 ρ h) x ρ h v:=by
 cases r with
 | tmp t=>unfold rsP at hr; cases hr; exact ⟨e t,rfl,S.rd t⟩
 | cell a t =>
  unfold rsP at hr;obtain ⟨y,hy,rfl⟩:=Option.map_eq_some_iff.1 hr;obtain ⟨v,hv,hr⟩:=qej S (a:=.tmp a) hy;refine ⟨v,?_,hr⟩;simp only [ev] at hv;unfold q7R;unfold ldV at hv
  split at hv
  ·rename_i p hp;simp only [hp];cases hk:q0f P t with
   | none=>rw [hk] at hv; cases hv
   | some o=>cases o <;> (rw [hk] at hv; exact hv)
  ·cases hv
def qv4 {x y:PV} (hl:LeV (fun _=>none) h0 h0 x y) {D:Nat→Prop}:∀ {v:Value},Rd w D x (fun _=>none) h0 v→Rd w D y (fun _=>none) h0 v:=by
 induction hl with
 | un=>intro v _; unfold Rd; trivial
 | cl hc=>intro v hr; exact hr
 | ow ht _=>cases ht
 | pt ht _=>cases ht
 | nilow _ hb _=>cases hb
 | nilfm hG =>
  intro v hr;unfold Rd at hr ⊢;rw [hr];exact hG _ _
 | fz hj _ _ _ _=>cases hj
 | pq hj _ _ _ _=>cases hj
 | fzg hj _ _ _ _ _ _=>cases hj
 | nilsl =>
  intro v hr;unfold Rd at hr ⊢;exact ⟨none,0,0,[],hr,Row.nil _ _ _,rfl,by unfold RdL; rfl,fun v hv=>by cases hv⟩
 | ag hlen _ ih =>
  intro v hr;unfold Rd at hr ⊢;obtain ⟨vs,r1,r2⟩:=hr;obtain ⟨r3,r4⟩:=RdL.iff.1 r2;refine ⟨vs,r1,RdL.iff.2 ⟨by omega,fun i y v hy hv=>?_⟩⟩;have hlt:=(List.getElem?_eq_some_iff.1 hy).1;have hx:=List.getElem?_eq_getElem (show i < _ by rw [hlen]; exact hlt);exact ih i _ y hx hy (r4 i _ v hx hv)
 | tu hlen _ ih =>
  intro v hr;unfold Rd at hr ⊢;obtain ⟨vs,r1,r2⟩:=hr;obtain ⟨r3,r4⟩:=RdL.iff.1 r2;refine ⟨vs,r1,RdL.iff.2 ⟨by omega,fun i y v hy hv=>?_⟩⟩;have hlt:=(List.getElem?_eq_some_iff.1 hy).1;have hx:=List.getElem?_eq_getElem (show i < _ by rw [hlen]; exact hlt);exact ih i _ y hx hy (r4 i _ v hx hv)
def qeA (S:Sat D0 w0 s h ρ e w):∀ {rs:List ResultVar} {l:List PV},rsL P h s rs=some l→∃ vs,rs.map (q7R P w e)=vs.map some∧RdL w (dm D0 ρ h) l ρ h vs
 | [],l,hl=>by unfold rsL at hl; cases hl; exact ⟨[],rfl,by unfold RdL; rfl⟩
 | r :: rs,l,hl=>by
  unfold rsL at hl;obtain ⟨x,hx,hl⟩:=Option.bind_eq_some_iff.1 hl;obtain ⟨y,hy,rfl⟩:=Option.map_eq_some_iff.1 hl;obtain ⟨v,h1,h2⟩:=qnA S hx;obtain ⟨vs,h3,h4⟩:=qeA S hy;exact ⟨v :: vs,by rw [List.map_cons,List.map_cons,h1,h3],by unfold RdL; exact ⟨v,vs,rfl,h2,h4⟩⟩
def AC_of {f:FuncId} {fn:Func} {c:Code} {al:List PV} {r:PV} (hc:q0C P f=true) (hf:P.funcs[f]?=some fn) (hb:fn.body=some c) (hn:fn.ntmps=n) (hd:(decide (al.length≤n) && q9E n c)=true) (hTE:∀ w w',Ext w w'→Tb w→Tb w')
  (hw:AW P Tb (fun _=>False) n c (retA P fn r) (enP al) h0):AC P Tb f al r:=by
 refine ⟨hc,fun D w vs hT hF hR=>?_⟩;have hlen:=hR.len;refine q0J hf hb hn (by rw [List.size_toArray,hlen]; exact hd) ?_;have hdm:dm D (fun _=>none) h0=D:=by
  funext k
  exact propext ⟨fun h=>h.1,fun h=>⟨h,fun i b hi=>by cases hi⟩⟩
 have S:Sat D ⟨w,fun k=>k < w.heap.size,fun _ _ _=>False,fun _ _=>False,fun _ h=>h,fun _ _ h=>h.elim⟩ (enP al) h0 (fun _=>none) (q4Y vs) w:=by
  refine ⟨fun i j b c g hi=>(by cases hi),fun i b g hi=>(by cases hi),fun i b hi=>(by cases hi),fun t=>?_,Kp.refl _ _,hF,fun _ _ _ h=>h.elim,fun _ _ h=>h.elim⟩;rw [hdm];obtain ⟨h1,h2⟩:=RdL.iff.1 hR;unfold enP q4Y;rw [List.getD_eq_getElem?_getD,List.getD_eq_getElem?_getD];cases ht:al[t]? with
  | none=>simp only [Option.getD_none]; unfold Rd; trivial
  | some x =>
   have hlt:=(List.getElem?_eq_some_iff.1 ht).1;have hv:=List.getElem?_eq_getElem (l:=vs) (show t < vs.length by omega);rw [hv];exact h2 t x _ ht hv
 refine q5G (fun x e' w' hx=>?_) (hw D ⟨w,fun k=>k < w.heap.size,fun _ _ _=>False,fun _ _=>False,fun _ h=>h,fun _ _ h=>h.elim⟩ _ _ w ⟨fun w' hx=>hTE _ _ (hx.mono fun k hk _=>hk) hT,fun _ _ h=>h⟩ hF S);obtain ⟨s',h',ρ',S',hx,h4,l,cl,ids,h1,h2,h3⟩:=hx;have hxt:Ext w w':=S'.ext.mono fun k hk _=>hk;obtain ⟨us,u1,u2⟩:=qeA S' h1;have u3:=q4u S' h2 u2;have u4:RdL w' D cl (fun _=>none) h0 us:=u3.sub fun k hk hq=>by
  rcases hq with hq | ⟨i,hi,hr⟩
  ·exact hq.1
  ·by_cases hs:∃ b,h' i=some b
   ·obtain ⟨b,hb⟩:=hs;exact (S'.own i b k hb hr).1.2
   ·rcases Nat.lt_or_ge k w.heap.size with hlt | hge
    ·exfalso
     have:∀ {l:List PV} {r:List PV × List Nat},q2e h' l=some r→∀ i ∈ r.2,∃ b,h' i=some b:=fun {l r} hc i hi=>q41 hc i hi;exact hs (this h2 i hi)
    ·exact hF k hge
 have hcl:cl.length=us.length:=(RdL.iff.1 u4).1;have hres:Rd w' D r (fun _=>none) h0 (mkV us):=by
  refine qv4 h3 ?_;clear u1 u2 u3 h2 h3 h1 hcl;cases cl with
  | nil=>unfold RdL at u4; subst u4; unfold mkR mkV Rd; exact ⟨[],rfl,by unfold RdL; rfl⟩
  | cons c cl =>
   cases cl with
   | nil =>
    unfold RdL at u4;obtain ⟨y,ys,rfl,e1,e2⟩:=u4;unfold RdL at e2;subst e2;exact e1
   | cons d cl =>
    have u5:=u4;unfold RdL at u5;obtain ⟨y,ys,rfl,e1,e2⟩:=u5;unfold RdL at e2;obtain ⟨z,zs,rfl,e3,e4⟩:=e2
    show Rd w' D (.tu (c :: d :: cl)) _ _ (.tuple ⟨y :: z :: zs⟩)
    unfold Rd;exact ⟨_,rfl,u4⟩
 have key:q9D P fn (fun x w'=>∃ v,x=.returned v∧Ext w w'∧Rd w' D r (fun _=>none) h0 v) .ret e' w':=by
  cases hrs:fn.results with
  | mk rs =>
  rw [hrs] at u1 h4;simp only at u1 h4;clear u2 u3 u4 h1 h2 h3 hcl
  rcases rs with _ | ⟨a,_ | ⟨b,_ | ⟨c,_ | ⟨d,_ | ⟨f,rs⟩⟩⟩⟩⟩ <;> rcases us with _ | ⟨x,_ | ⟨y,_ | ⟨z,_ | ⟨t,_ | ⟨t',us⟩⟩⟩⟩⟩ <;> simp at u1 h4
  ·exact ret0 hrs ⟨_,rfl,hxt,hres⟩
  ·exact q3D hrs u1 ⟨_,rfl,hxt,hres⟩
  ·exact qmz hrs u1.1 u1.2 ⟨_,rfl,hxt,hres⟩
  ·exact qmy hrs u1.1 u1.2.1 u1.2.2 ⟨_,rfl,hxt,hres⟩
  ·exact qsC hrs u1.1 u1.2.1 u1.2.2.1 u1.2.2.2 ⟨_,rfl,hxt,hres⟩
 rcases hx with rfl | rfl
 ·exact key
 ·exact key
end
end Go.E
