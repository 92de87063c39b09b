/- LuFactors, LuSingular and LuTriangular are proved. 5/6. -/
import Derived.Test.YtbjoghfmhgadkaaGreatDoorPu4
open Bool renaming not_false->u6,false_and->yE,and_false->yF,not_true->yJ,true_and->yK,and_true->yL
open Int renaming natAbs_natCast->zP,toNat_natCast->zX,reduceLT->yQ,reduceEq->yR,pow_add->u7,mul_assoc->u9,sign_eq_neg_one_of_neg->y8,mul_left_comm->xC,mul_comm->xH,sign_eq_one_of_pos->xI
open List renaming getElem?_eq_getElem->zA,getD_eq_getElem?_getD->zB,not_mem_nil->zC,getElem?_map->zD,mem_cons->zE,getElem?_eq_some_iff->zF,map_cons->zG,getElem?_range->zH,mem_of_getElem?->zI,map_append->zJ,mem_range->zM,mem_map->zN,map_congr_left->zQ,getElem?_eq_none->zR,pairwise_iff_getElem->zS,length_range->zU,take_of_length_le->zV,map_nil->zW,mem_filter->zZ,length_map->tD,ext_getElem?->z6,range_succ->z8,length_filter_le->z9,filter_append->yA,mem_cons_self->yC,mem_iff_getElem?->yG,filter_congr->yH,getElem?_set->yI,drop_zero->yM,mem_append->yS,getElem_mem->yU,length_take->yV,getElem?_take->yW,getElem?_cons_succ->yX,getElem?_replicate->yY,take_length->yZ,filter_cons->tE,mem_cons_of_mem->y6,map_singleton->y9,length_append->xA,getElem?_append_left->xB,length_erase_of_mem->xD,idxOf_lt_length_iff->xE,getElem?_cons_zero->xG,getElem_cons_drop->xJ,map_map->xK,idxOf_eq_length->xM,getElem?_drop->xN,pairwise_cons->xO
open Nat renaming zero_le->zK,le_refl->zY,mul_le_mul->z7,le_trans->yO,zero_add->yP,le_of_eq->xL
open Option renaming ne_none_iff_exists'->zL,getD_some->zO,map_some->tF,some_ne_none->yB,getD_none->yN,bind_some->tG,some->tH,map_none->y7,bind_eq_some_iff->xF
set_option linter.unusedSimpArgs false
set_option linter.unusedVariables false
set_option maxRecDepth 20000
set_option maxHeartbeats 2000000
set_option linter.defProp false
namespace Go.Proofs.YtbjoghfmhgadkaaGreatDoor
open Go Go.E Go.Sp
def qiG {a b:Int}:ACt 257 [iv a,iv b] (bv (decide (a < b))):=by
 have C1:∀ x:Int,ACt 229 [iv x] (bv false):=λx=>by
  have q:(x != x)=false:=σ
  refine ac0 Tryz.func229 Tryz.ntmps229 [.tmp 2] ?_;exact wk1 q trivial
 refine ac0 Tryz.func257 Tryz.ntmps257 [.tmp 4] ?_;exact wk trivial
def q9O {l:List Int} (hl:∀ (i:Nat) (x y:Int),l[i]?=some x->l[i+1]?=some y->x<=y) (hn:l.length<=1000000):ACt 221 [pI l] (bv true):=by
 have C1:=@qiG;refine ac0 Tryz.func221 Tryz.ntmps221 [.tmp 2] ?_;refine wk ?_;refine q0B (λi:Int=>i < l.length /\ -1<=i) [0] [] Lk Lk (λi:Int=>[(3,iv i)]) (λ_=>[]) (λi=>(i+1).toNat) (l.length-1:Int) ⟨ω,ω⟩ ?_ ?_
 .refine LeM [] rfl rfl ?_;exact Zy
 .rintro i ⟨hi,h0⟩
  by_cases hlt:i > 0
  .obtain ⟨k,rfl⟩:∃ k:Nat,i=((k+1:Nat):Int):=⟨(i-1).toNat,ω⟩;obtain ⟨x,hx⟩:∃ x,l[k]?=some x:=⟨_,zA Oq⟩;obtain ⟨y,hy⟩:∃ y,l[k+1]?=some y:=⟨_,zA Oq⟩;have:=hl k x y hx hy;have q:¬ y < x:=ω
   have e:IntKind.i64.wrap (((k+1:Nat):Int)-1)=(k:Int):=by rw [i64_in ω ω]; omega
   refine wk1 (x6 hlt hx hy q e (decide_eq_false q)) ?_;refine ⟨k,⟨ω,ω⟩,ω,?_⟩;refine LeM [] rfl rfl ?_;exact Zy
  .exact wk1 hlt trivial
def qq1 {l:List Int} {a b p:Nat} (h:a+p < b):((l.take b).drop a)[p]?=l[a+p]?:=by
 rw [xN,yW,if_pos h]
def qbf (ix:List Int) (a k:Nat):Int:=if k=a then -1 else ix.getD (k-1) 0
def qg0 {R C:Nat} {st ix:List Int} {vl:List Nat} (hS:MSz R C ix) (hP:MPt C st ix vl) (hI:MIx R st ix):ACt 152 [q3G R C st ix vl] (bv true):=by
 obtain ⟨z1,z2,z3,z4,z5⟩:=hS;have hnn:=hP.nn;have hub:=hP.ub Oq;obtain ⟨p1,p2,p3,p4,p5⟩:=hP;rw [zX] at p4;have C1:=q9O (l:=st) p5 Oq;have hsl:st.length=C+1:=ω
 have hg:∀ j,j < C->∃ a b:Nat,st[j]?=some (a:Int)/\st[j+1]?=some (b:Int)/\a<=b/\b<=ix.length:=λj hj=>by
  obtain ⟨x,hx⟩:∃ x,st[j]?=some x:=⟨_,zA Oq⟩;obtain ⟨y,hy⟩:∃ y,st[j+1]?=some y:=⟨_,zA Oq⟩;have h1:=hnn j x hx;have h2:=p5 j x y hx hy;have h3:=hub (C-(j+1)) (j+1) y (by rw [zX]; omega) hy;exact ⟨x.toNat,y.toNat,by rw [hx]; congr 1; omega,by rw [hy]; congr 1; omega,ω,ω⟩
 unfold q3G;refine ac0 Tryz.func152 Tryz.ntmps152 [.tmp 2] ?_;refine wk1 (x4 hsl p1 p3 p4) ?_;refine q0B (λj=>j<=C) [1,2,49] [1] Lk Lk (λj:Nat=>[(50,iv j)]) (λ_=>[]) (λj=>C-j) 0 (zK _) ?_ ?_
 .refine LeM [] rfl rfl ?_;refine Zz ?_
  rfl
 .intro j hj
  by_cases hlt:j < C
  .obtain ⟨a,b,g1,g2,g3,g4⟩:=hg j hlt;have es:slP (some 1) (some (iv (a:Int))) (some (iv (b:Int))) (pI ix)=some (pI ((ix.take b).drop a)):=by
    simp [slP,qcN,ksz,List.map_take,List.map_drop];omega
   have hl:((ix.take b).drop a).length=b-a:=by simp; omega
   have wj:(j:Int)+1=((j+1:Nat):Int):=rfl;have ww:IntKind.i64.wrap ((j+1:Nat):Int)=((j+1:Nat):Int):=i64_in Oq Oq;have hsb:=λp (h:a+p < b)=>qq1 (l:=ix) (p:=p) h;generalize (ix.take b).drop a=L at *;refine wk1 (x6 g1 g2 es wj ww hl) ?_;refine q0B (λt=>t<=b-a) [1,2,3,49,50,66,67] [1] Lk Lk (λt:Nat=>[(68,iv t),(4,iv (qbf ix a (a+t)))]) (λ_=>[]) (λt=>b-a-t) 0 (zK _) ?_ ?_
   .refine LeM [] rfl rfl ?_;refine Zz ?_;unfold qbf;exact ⟨rfl,(if_pos rfl).symm⟩
   .intro t ht
    by_cases hlt2:t < b-a
    .obtain ⟨x,hx⟩:∃ x,ix[a+t]?=some x:=⟨_,zA Oq⟩;obtain ⟨h1,h2,h3⟩:=hI j _ _ g1 g2 (a+t) Oq Oq x hx;have hx2:=(hsb t Oq).trans hx;have hlast:qbf ix a (a+t) < x/\qbf ix a (a+(t+1))=x:=by
      unfold qbf;rw [if_neg (show ¬ a+(t+1)=a by omega),show a+(t+1)-1=a+t by omega,getD_some hx];refine ⟨?_,rfl⟩
      by_cases h0:t=0
      .rw [if_pos ω]; omega
      .obtain ⟨u,hu⟩:∃ u,ix[a+t-1]?=some u:=⟨_,zA Oq⟩;rw [if_neg ω,getD_some hu];exact h3 Oq u hu
     obtain ⟨q1,q2⟩:=hlast;have q3:¬ x<=qbf ix a (a+t):=ω
     have q4:¬ (R:Int)<=x:=ω
     refine wk1 (x3 hx2 q3 q4) ?_;refine ⟨t+1,ω,ω,?_⟩;rw [q2];refine LeM [] rfl rfl ?_;refine Zz ?_;omega
    .have hlt3:¬ (t:Int) < ((b-a:Nat):Int):=ω
     refine wk1 hlt3 ?_;refine ⟨j+1,ω,ω,?_⟩;refine LeM [] rfl rfl ?_;refine Zz ?_;omega
  .have hlt':¬ (j:Int) < C:=ω
   exact wk1 hlt' trivial
def qg1 {x:Nat} (hx:x < 18446744073709551616):ACt 153 [uv x] (bv (!decide (q0O x))):=by
 have C1:=q6y hx;refine ac0 Tryz.func153 Tryz.ntmps153 [.tmp 2] ?_;exact wk trivial
def qmZ {R C:Nat} {st ix:List Int} {vl:List Nat} (h:q30 R C st ix vl=0) (hu:∀ x ∈ vl,x < 18446744073709551616):ACt 85 [q3G R C st ix vl] (iv 0):=by
 unfold q30 at h
 split at h
 .rename_i hS
  split at h
  .rename_i hP
   split at h
   .rename_i hf;have C1:=qg0 hS hP.1 hP.2;have hvl:=hP.1.v;obtain ⟨z1,z2,z3,z4,z5⟩:=hS;have C2:=q5Z (f:=153) (l:=vl) (λx hx=>qg1 hx) hu Oq;rw [decide_eq_true hf] at C2;have C3:∀ n:Nat,n<=200->ACt 151 [iv n,iv 0,iv 200] (bv true):=λn hn=>by
     have q1:(0:Int)<=n:=ω
     have q2:(n:Int)<=200:=ω
     refine ac0 Tryz.func151 Tryz.ntmps151 [.tmp 6] ?_;exact wk1 (x2 q1 q2) trivial
    unfold q3G at *;refine ac0 Tryz.func85 Tryz.ntmps85 [.tmp 2] ?_;exact wk trivial
   .cases h
  .cases h
 .cases h
def qfr {f:Nat->Nat->Option Nat} {R C:Nat} (h:TOk f R C):ACt 85 [pT R C f] (iv 0):=qmZ h.chk h.vl.2.2.2
end Go.Proofs.YtbjoghfmhgadkaaGreatDoor
namespace Go.Sp
open Go.E Go.Proofs.YtbjoghfmhgadkaaGreatDoor
def q6C {f:Nat} (h:q0O f):q0d (ofZ f):=by
 have:=q46 h;unfold q0d;omega
end Go.Sp
namespace Go.Proofs.YtbjoghfmhgadkaaGreatDoor
open Go Go.E Go.Sp
def q7k {V:Int} (ho:q0d V):Nz (dT V):=λw D B v hB h=>(q3a.2 (qb1 (qmO w D B v hB (qdE (q3a.1 ⟨h,ho⟩))))).1
section
variable {x y:List Nat} {t:Nat}
end
end Go.Proofs.YtbjoghfmhgadkaaGreatDoor
namespace Go.E
open Go Go.RowKit
section
variable {J:Nat->Prop} {s:Nat->PV} {h:Hp} {T1 T2:TypeId} {K:Kd} {N R n:Nat} {row:Nat->List PV}
def tabG (T1 T2:TypeId) (K:Kd) (N R n:Nat) (row:Nat->List PV):Hp:=λi =>
 if i=N then some ⟨T1,none,(List.range n).map λj=>.ow (j+R) K 0 (row j).length,false⟩
 else if R<=i/\i < R+n then some ⟨T2,K,row (i-R),false⟩ else none
def qqV:tabG T1 T2 K N R n row N=some ⟨T1,none,(List.range n).map λj=>.ow (j+R) K 0 (row j).length,false⟩:=if_pos rfl
def qqU {j:Nat} (hN:N < R) (hj:j < n):tabG T1 T2 K N R n row (j+R)=some ⟨T2,K,row j,false⟩:=by
 unfold tabG;rw [if_neg ω,if_pos ω,Nat.add_sub_cancel]
attribute [go_sem ↓] qqV qqU
def tnG (N R n o:Nat):Nat->Option Nat:=λi=>if i=N then some o else if R<=i/\i < R+n then none else some i
def qqG {o i:Nat} (h1:i < N) (h2:i < R):tnG N R n o i=some i:=by
 unfold tnG;rw [if_neg ω,if_neg ω]
attribute [go_sem ↓] qqG
end
end Go.E
namespace Go.Sp
open Go.E Go.Proofs.YtbjoghfmhgadkaaGreatDoor
def sg (g:Nat->Int):Nat->Int
 | 0=>0
 | n+1=>sg g n+g n
section
variable {f:Nat->Nat->Option Nat} {x:List Nat} {n J r:Nat} {rows:Nat->List Int}
end
end Go.Sp
namespace Go.Proofs.YtbjoghfmhgadkaaGreatDoor
open Go Go.E Go.Sp
section
variable {f:Nat->Nat->Option Nat} {x:List Nat} {n:Nat}
end
end Go.Proofs.YtbjoghfmhgadkaaGreatDoor
namespace Go.E
open Go Go.RowKit
section
variable {T1 T2:TypeId} {K:Kd} {N R n:Nat} {row:Nat->List PV}
end
end Go.E
namespace Go.Proofs.YtbjoghfmhgadkaaGreatDoor
open Go Go.E Go.Sp
section
variable {b:List Nat} {n:Nat} {rows:Nat->List Int}
end
def ofZ_t {f:Nat} (hf:q0O f):bl (ofZ f).natAbs<=66560:=by
 obtain ⟨m,k,h,h1,h2,h3⟩:=q2Z hf;rw [q03 h]
 by_cases hm:m=0
 .subst hm; rw [Int.zero_mul]; simp [q0m]
 .rw [q0M,q1R ω]; omega
def qnL {V:Int} {K:Nat} (hK:K=65536) (hV:V≠0) (hf:q0O (fR 0 V)):∃ u r:Nat,K<=u+1074/\u+1075 < 2047+K/\fR 0 V=fin 0 (decide (V < 0)) r ((u:Int)-K)/\ofZ (fR 0 V)=sgn (decide (V < 0)) r*(2:Int) ^ u/\r<=9007199254740992/\(u+1074=K\/4503599627370496<=r)/\2*(V-ofZ (fR 0 V)).natAbs<=2 ^ u:=by
 obtain ⟨u,r,h1,h2,h3,h4,h5⟩:=q6f (mode:=0) (neg:=decide (V < 0)) (N:=V.natAbs) (D:=2 ^ K) (K:=K) Oq (q0F _) Oq;have hx:fR 0 V=fin 0 (decide (V < 0)) r ((u:Int)-K):=by unfold fR; rw [if_neg hV,<- hK,h2]
 rw [Nat.mul_comm (2 ^ K) (2 ^ u),q39 (q0F K)] at h3;have hu:u+1075 < 2047+K:=by
  refine Classical.byContradiction λhn=>?_;rw [hx] at hf;unfold fin at hf
  split at hf
  .unfold q5c at hf;rw [if_neg ω,if_pos ω] at hf;exact absurd hf q4l
  .unfold q5c at hf;rw [if_neg ω,if_pos ω] at hf;exact absurd hf q4l
 have h5':u+1074=K\/4503599627370496<=r:=ω
 have hv:ofZ (fR 0 V)=sgn (decide (V < 0)) r*(2:Int) ^ u:=by
  rw [hx] at hf ⊢;exact q03 (qhf hK h1 h4 h5' hf)
 refine ⟨u,r,h1,hu,hx,hv,h4,h5',?_⟩;rw [hv];have e:=qrT (neg:=decide (V < 0)) (A:=V.natAbs) (B:=2 ^ u) (q0F u);rw [<- h3] at e;have p:=q00 u;rw [<- p]
 by_cases hn:V < 0
 .rw [decide_eq_true hn];simp only [sgn,if_true];have : -(r:Int)*((2 ^ u:Nat):Int) = -((2 ^ u*r:Nat):Int):=by push_cast; rw [Int.neg_mul,xH]
  rw [this];generalize 2 ^ u*r=C at *;generalize 2 ^ u=B at *;omega
 .rw [decide_eq_false hn];simp only [sgn,Bool.false_eq_true,if_false];have:(r:Int)*((2 ^ u:Nat):Int)=((2 ^ u*r:Nat):Int):=by push_cast; rw [xH]
  rw [this];generalize 2 ^ u*r=C at *;generalize 2 ^ u=B at *;omega
section
variable {A B:Int}
def qcS (hA:q0d A) (hB:q0d B):ACt 114 [dT A,dT B] (.tu [iv (A-B).sign,bv true]):=by
 obtain ⟨x,y,e,C1,hL⟩:=q8f hA hB;obtain ⟨l1,l2⟩:=hL.bl hA hB;have C2:=qcQ hA hB;have C3:=@qds;have h1:=hL.sgn;refine ac0 Tryz.func114 Tryz.ntmps114 [.tmp 4,.tmp 5] ?_;exact wk1 h1 trivial
end
section
variable {r s d:Nat}
end
section
variable {l:List Nat}
end

def q2r (V:Int):q1l [V]=V:=by have:=q10 [] V; rw [List.nil_append,q38] at this; omega
section
variable {f:Fac} {z:Nat->Int}
end

def dnH (n a c:Nat) (gl gu:Nat->Nat->Nat):Hp:=q2B 24 32 none 6000 10000 a (rU n gl) (q2B 24 32 none 6002 30000 c (rU n gu) h0)
section
variable {n a c:Nat} {gl gu:Nat->Nat->Nat}
def qtz {i:Nat} (hi:i < 6000):dnH n a c gl gu i=none:=by
 unfold dnH;rw [q0L ω ω,q0L ω ω]
 rfl
def qty:dnH n a c gl gu 6000=some ⟨24,none,(List.range a).map λj=>.ow (j+10000) none 0 n,false⟩:=by
 unfold dnH; rw [q1k]; simp
def qtx {j:Nat} (hj:j < a):dnH n a c gl gu (j+10000)=some ⟨32,none,rU n gl j,false⟩:=by
 unfold dnH; rw [q1a ω hj]
def qtw {j:Nat} (ha:a<=100) (hj:j < c):dnH n a c gl gu (j+30000)=some ⟨32,none,rU n gu j,false⟩:=by
 unfold dnH; rw [q0L ω ω,q1a ω hj]
attribute [go_sem ↓] qtz qty qtx qtw
end
section
variable {n:Nat} {st ix:List Int} {vs:List Nat} {G:Nat->List Int->Prop}
end
section
variable {D:Nat->Nat->Nat} {E:Nat->List (Nat × Nat)} {n k:Nat} {ys:List Nat} {rows:Nat->List Int}
end
section
variable {n k v:Nat} {ys:List Nat}
end


def q6K {l:List Nat} (hn:l.length<=1000000):ACt 101 [pF l,pF l] (bv true):=by
 have q:((l.length:Int) != (l.length:Int))=false:=σ
 refine ac0 Tryz.func101 Tryz.ntmps101 [.tmp 4] ?_;refine wk1 q ?_;refine q0B (λi=>i<=l.length) [0,1] [] Lk Lk (λi:Nat=>[(5,iv i)]) (λ_=>[]) (λi=>l.length-i) 0 (zK _) ?_ ?_
 .refine LeM [] rfl rfl ?_;refine Zz ?_
  rfl
 .intro i hi
  by_cases hil:i < l.length
  .obtain ⟨x,hx⟩:∃ x,l[i]?=some x:=⟨_,zA hil⟩;have q2:((x:Int) != (x:Int))=false:=σ
   refine wk1 (x2 hx q2) ?_;refine ⟨i+1,ω,ω,?_⟩;refine LeM [] rfl rfl ?_;refine Zz ?_
   rfl
  .exact wk trivial





section
variable {F:Nat->Nat->Option Nat} {l:List Int} {cs:List Nat} {cols:List (List Nat)} {j n M:Nat} {p:LSt}
end


section
variable {l:List Nat} {o:List Int} {n:Nat}
end
section
variable {n k z:Nat} {rows:Nat->List Int} {l:List PV}
end
section
variable {f:Nat->Nat->Option Nat} {x:List (Nat × Nat)} {b:List Nat} {R C J:Nat} {rows:Nat->List Int}
end
section
variable {f:Nat->Nat->Option Nat} {x:List (Nat × Nat)} {b:List Nat} {R C r:Nat}
end
end Go.Proofs.YtbjoghfmhgadkaaGreatDoor
namespace Go.E
open Go Go.RowKit
end Go.E
namespace Go.Proofs.YtbjoghfmhgadkaaGreatDoor
open Go Go.E Go.Sp

def rgL (G:Nat->Nat->Option Nat) (i:Nat):Nat->List Int
 | 0=>[qja]
 | k+1=>if k=i then rgL G i k else rgL G i k ++ [((ofZ ((G k i).getD 0)).natAbs:Int),((ofZ ((G i k).getD 0)).natAbs:Int)]
def rgF (G:Nat->Nat->Option Nat) (n j i:Nat):Option Nat:=if i=j then some (fR 2 (q1l (rgL G i n))) else G j i
def qaD {G:Nat->Nat->Option Nat} {n i:Nat} (h:TOk G n n) (hi:i < n):∀ k,k<=n->(rgL G i k).length<=2*k+1/\∀ x ∈ rgL G i k,bl x.natAbs<=67600
 | 0,_=>⟨zY _,λx hx=>by unfold rgL at hx; simp at hx; subst hx; exact q9B.2⟩
 | k+1,hk=>by
  obtain ⟨h1,h2⟩:=qaD h hi k Oq;unfold rgL
  split
  .exact ⟨ω,h2⟩
  .refine ⟨by simp; omega,λx hx=>?_⟩
   rcases yS.1 hx with hx | hx
   .exact h2 x hx
   .simp at hx
    rcases hx with rfl | rfl <;> rw [zP]
    .exact q46 (h.fin Oq Oq).1
    .exact q46 (h.fin Oq Oq).1
def q5z {raw:List Nat} {st:Int} {n:Nat} (hr:raw.length<=9223372036854775807) (hn:n<=100) (h3 : -9223372036854775808<=st) (h4:st<=9223372036854775807) :
  ACt 40 [pF raw,iv n,iv st] (pT n n (rgF (gF raw n (q06 (q06 st 3:Nat) 4)) n)):=by
 have hs3:q06 st 3 < 3:=by unfold q06; omega
 have hnn:n*n<=100*100:=z7 hn hn;have cM:=q3H (a:=st) (n:=3) h3 h4 Oq Oq;have cG:=q5V (raw:=raw) (st:=(q06 st 3:Nat)) (R:=n) (C:=n) hr Oq Oq Oq Oq;have hG:=qgu (raw:=raw) (R:=n) (C:=n) (st:=q06 (q06 st 3:Nat) 4) Oq Oq Oq;generalize gF raw n (q06 (q06 st 3:Nat) 4)=G at *;have cA:∀ {i j:Nat},i < n->j < n->_:=λ{i j} hi hj=>qce (i:=i) (j:=j) hG hi hj;have cS:∀ {i j:Nat},i < n->j < n->_:=λ{i j} hi hj=>qbS (i:=i) (j:=j) hG hi hj;generalize hFn:rgF G n=F;have hpt:pT n n F=pM n n (tM F n n):=rfl;have hpG:pT n n G=q3G n n (tM G n n).1 (tM G n n).2.1 (tM G n n).2.2:=rfl;rw [hpG] at cG;simp only [hpG] at cA cS;rw [hpt];clear hpG hpt;unfold q3G at cG cA cS;generalize (tM G n n).1=gs at *;generalize (tM G n n).2.1=gi at *;generalize (tM G n n).2.2=gv at *;have c1:=q3c (z:=1) Oq Oq q9B.1;refine ac0 Tryz.func40 Tryz.ntmps40 [.cell 6 26] ?_;refine wk ?_;refine q0B (λj=>j<=n) [1,6,7,8] [6,7] Lk Lk (λj:Nat=>[(9,iv j)]) (λj=>[(8,⟨26,some 5,[.ag [iv n,iv n,.ow 1001 none 0 (tM F n j).1.length,.ow 1002 none 0 (tM F n j).2.1.length,.ow 1003 none 0 (tM F n j).2.2.length]],false⟩),(1001,⟨3,none,(tM F n j).1.map λz=>iv z,false⟩),(1002,⟨3,none,(tM F n j).2.1.map λz=>iv z,false⟩),(1003,⟨32,none,(tM F n j).2.2.map λz:Nat=>uv z,false⟩)]) (λj=>n-j) 0 (zK _) ?_ ?_
 .refine LeM [(1001,some 21),(1002,none),(1003,none)] rfl rfl ?_;refine Zz ?_;exact ⟨rfl,⟨rfl,rfl,rfl⟩,rfl,rfl,rfl⟩
 .intro j hj;have hg:=q0y (f:=F) (R:=n) j;have hjn:j*n<=100*100:=z7 Oq hn;refine wk ?_
  by_cases hlt:j < n
  .have hlt':(j:Int) < n:=ω
   refine wk1 hlt' ?_;have hM1:(tM F n (j+1)).1=(tM F n j).1 ++ [((tC F j (tM F n j).2 n).1.length:Int)]:=rfl;have hM2:(tM F n (j+1)).2=tC F j (tM F n j).2 n:=rfl;generalize (tM F n j).1=ms at *;generalize (tM F n j).2=mp at *;refine q0B (λi=>i<=n) [1,6,7,8,9] [6,7,1001] Lk Lk (λi:Nat=>[(10,iv i)]) (λi=>[(8,⟨26,some 5,[.ag [iv n,iv n,.ow 1001 none 0 ms.length,.ow 1002 none 0 (tC F j mp i).1.length,.ow 1003 none 0 (tC F j mp i).2.length]],false⟩),(1002,⟨3,none,(tC F j mp i).1.map λz=>iv z,false⟩),(1003,⟨32,none,(tC F j mp i).2.map λz:Nat=>uv z,false⟩)]) (λi=>n-i) 0 (zK _) ?_ ?_
   .refine LeM [] rfl rfl ?_;refine Zz ?_;exact ⟨rfl,⟨rfl,rfl⟩,rfl,rfl⟩
   .intro i hi;have hq:=q5j (f:=F) (j:=j) hg.2.1 i;refine wk ?_
    by_cases hlt2:i < n
    .have hlt2':(i:Int) < n:=ω
     refine wk1 hlt2' ?_
     by_cases hij:i=j
     .have e1:((i:Int) == (j:Int))=true:=by simp; omega
      have hF:F j i=some (fR 2 (q1l (rgL G i n))):=by rw [<- hFn]; unfold rgF; rw [if_pos hij]
      obtain ⟨z,hz⟩:∃ z,z=fR 2 (q1l (rgL G i n)):=⟨_,rfl⟩;rw [<- hz] at hF;have eg:=qcd (p:=mp) hF;refine wk1 e1 ?_;refine q0B (λk=>k<=n) [1,6,7,8,9,10] [6,7,8,1001,1002,1003] Lk Lk (λk:Nat=>[(12,iv k),(11,.ow 1004 (some 4) 0 (rgL G i k).length)]) (λk=>[(1004,⟨46,some 4,(rgL G i k).map λV=>pV V,false⟩)]) (λk=>n-k) 0 (zK _) ?_ ?_
      .refine LeM [(1004,some 37)] rfl rfl ?_;refine Zz ?_;exact ⟨⟨rfl,rfl⟩,q0G rfl clV⟩
      .intro k hk;obtain ⟨d1,d2⟩:=qaD hG hlt2 k hk;refine wk ?_
       by_cases hlk:k < n
       .have hlk':(k:Int) < n:=ω
        refine wk1 hlk' ?_
        by_cases hki:k=i
        .have e2:((k:Int) != (i:Int))=false:=by simp; omega
         have es:rgL G i (k+1)=rgL G i k:=by rw [rgL,if_pos hki]
         refine wk1 e2 ?_;refine ⟨k+1,ω,ω,?_⟩;rw [es];refine LeM [] rfl rfl ?_;refine Zz ?_;exact ⟨ω,q0G rfl clV⟩
        .have e2:((k:Int) != (i:Int))=true:=by simp; omega
         obtain ⟨u,hu⟩:∃ u,u=(G k i).getD 0:=⟨_,rfl⟩;obtain ⟨v,hv⟩:∃ u,u=(G i k).getD 0:=⟨_,rfl⟩;obtain ⟨f1,f2⟩:=hG.fin (j:=k) (i:=i) hlk hlt2;obtain ⟨g1,g2⟩:=hG.fin (j:=i) (i:=k) hlt2 hlk;have cE:=cA hlt2 hlk;have cE2:=cA hlk hlt2;rw [<- hu] at f1 f2 cE;rw [<- hv] at g1 g2 cE2;have cO:=q44 f2 (q1S f1);have cO2:=q44 g2 (q1S g1);have es:rgL G i (k+1)=rgL G i k ++ [((ofZ u).natAbs:Int),((ofZ v).natAbs:Int)]:=by rw [rgL,if_neg hki,hu,hv]
         have C1:=@q9X;refine wk1 e2 ?_;refine ⟨k+1,ω,ω,?_⟩;rw [es];refine LeM [(1004,some 60)] rfl rfl ?_;refine Zz ?_;exact ⟨ω,q0G σ clV⟩
       .have hlk':¬ (k:Int) < n:=ω
        obtain rfl:k=n:=ω
        have hsd:=q9q d2 Oq;have C2:=qed (l:=rgL G i k) Oq hsd;have C3:=qmO (V:=q1l (rgL G i k));have C4:=q5I (V:=q1l (rgL G i k)) (mode:=2);rw [<- hz] at C4;refine wk1 hlk' ?_;refine ⟨i+1,ω,ω,?_⟩;rw [eg];refine LeM [(1002,some 65),(1003,some 73)] rfl rfl ?_;refine Zz ?_;omega
     .have e1:((i:Int) == (j:Int))=false:=by simp; omega
      have hF:F j i=G j i:=by rw [<- hFn]; unfold rgF; rw [if_neg hij]
      have C5:=(cS hlt2 hlt);refine wk1 e1 ?_;have cE:=cA hlt2 hlt;cases hx:G j i with
      | none =>
       rw [hx] at hF;have eg:=qbX (p:=mp) hF;have ei:(none:Option Nat).isSome=false:=rfl;refine wk1 ei ?_;refine ⟨i+1,ω,ω,?_⟩;rw [eg];refine LeM [] rfl rfl ?_;refine Zz ?_;omega
      | some z =>
       rw [hx] at hF cE;rw [zO] at cE;have eg:=qcd (p:=mp) hF;have ei:(some z).isSome=true:=rfl;refine wk1 ei ?_;refine ⟨i+1,ω,ω,?_⟩;rw [eg];refine LeM [(1002,some 83),(1003,some 92)] rfl rfl ?_;refine Zz ?_;omega
    .have hlt2':¬ (i:Int) < n:=ω
     obtain rfl:i=n:=ω
     refine wk1 hlt2' ?_;refine ⟨j+1,ω,ω,?_⟩;rw [hM1,hM2];refine LeM [(1001,some 100)] rfl rfl ?_;refine Zz ?_;omega
  .have hlt':¬ (j:Int) < n:=ω
   obtain rfl:j=n:=ω
   exact wk1 hlt' trivial
def qaE {raw:List Nat} {R k i:Nat} (hk:k < 3):∀ m,∀ x ∈ rgL (gF raw R k) i m,bl x.natAbs<=66000
 | 0,x,hx=>by unfold rgL at hx; simp at hx; subst hx; exact qmK
 | m+1,x,hx=>by
  unfold rgL at hx
  split at hx
  .exact qaE hk m x hx
  .rcases yS.1 hx with hx | hx
   .exact qaE hk m x hx
   .simp at hx
    rcases hx with rfl | rfl
    all_goals
     rw [zP];exact qtG hk
def qj1 {raw:List Nat} {n k:Nat} (hn:n<=100) (hk:k < 3):TOk (rgF (gF raw n k) n) n n:=by
 have hnn:n*n<=100*100:=z7 hn hn;have hG:=qgu (raw:=raw) (R:=n) (C:=n) (st:=k) Oq Oq Oq;have key:∀ i,i < n->q0O (fR 2 (q1l (rgL (gF raw n k) i n))):=λi hi=>by
  have hl:=(qaD hG hi n (zY _)).1;have h1:=q6a (K:=66000) (qaE (raw:=raw) (R:=n) (i:=i) hk n) (i:=(rgL (gF raw n k) i n).length) Oq;rw [yZ] at h1;obtain ⟨c,hc⟩:∃ c,c=900:=⟨_,rfl⟩;obtain ⟨K,hK⟩:∃ K,K=65536:=⟨_,rfl⟩;refine qag hK hc (Nat.lt_of_lt_of_le (q1y _) ?_);rw [<- Nat.pow_add];exact Nat.pow_le_pow_right Oq Oq
 refine ⟨hG.r,hG.c,hG.m,λj i x hj hi h=>?_,λj i x hj hi h=>?_⟩
 .unfold rgF at h
  split at h
  .have h:=tH.inj h; rw [<- h]; exact q3q
  .exact hG.u j i x hj hi h
 .unfold rgF at h
  split at h
  .have h:=tH.inj h; rw [<- h]; exact key i hi
  .exact hG.v j i x hj hi h
end Go.Proofs.YtbjoghfmhgadkaaGreatDoor
namespace Go.Sp
open Go Go.E
def qrG {z:Int} {K:Nat}:decide (z*(2:Int) ^ K < 0)=decide (z < 0):=by
 have hp:=q0R K;rw [decide_eq_decide]
 constructor
 .intro h
  rcases Int.lt_or_le z 0 with h1 | h1
  .exact h1
  .have:=Int.mul_nonneg h1 (Int.le_of_lt hp); omega
 .intro h; exact Int.mul_neg_of_neg_of_pos h hp
def rF_K {z y:Int} {neg:Bool} (K:Nat) (hz:z≠0) (hy:y≠0):rF 0 neg (z*(2:Int) ^ K).natAbs (y*(2:Int) ^ K).natAbs=rF 0 neg z.natAbs y.natAbs:=by
 rw [q0M,q0M];exact q3d Oq Oq (q0F K)
def fQ_K {z y:Int} (K:Nat) (hz:z≠0) (hy:y≠0):fQ 0 (z*(2:Int) ^ K) (y*(2:Int) ^ K)=rF 0 (decide (z < 0) != decide (y < 0)) z.natAbs y.natAbs:=by
 have hp:=q0R K;unfold fQ;rw [if_neg (Int.mul_ne_zero hz (Int.ne_of_gt hp)),qrG,qrG,rF_K K hz hy]
end Go.Sp
namespace Go.Proofs.YtbjoghfmhgadkaaGreatDoor
open Go Go.E Go.Sp

section
variable (C:Nat) (F:Nat->Nat->Option Nat) (f:LUt) (b:List Nat) (dbl:Bool)
end
section
variable {dbl:Bool} {x:List (Nat × Nat)} {d l:List Nat} {n:Nat}
end
section
variable {R C:Nat} {F:Nat->Nat->Option Nat} {f:LUt}
end
section
variable {R C:Nat} {F:Nat->Nat->Option Nat} {f:LUt} {b:List Nat} {dbl:Bool} {steps:Int}
def qbH {T id n:Nat} {k:Kd} {h h':Hp} {l:List PV} (h1:h id=some ⟨T,k,l,false⟩) (hc:ClL l) (h2:h' id=none) (hn:l.length=n):LeV (q0Z []) h h' (.ow id k 0 n) (.sl k l):=q1A (T:=T) (l:=l) h1 hc (λi hi=>by
 have hi:some i=some id:=hi;cases hi;exact h2) (by rw [yM]; exact zV ω)
end
end Go.Proofs.YtbjoghfmhgadkaaGreatDoor
namespace Go.E
open Go Go.RowKit
def qbP {P:Program} {o:Oper} {e:Env} {w w':World} {v:Value} {K:Value->World->Prop} (h:(execOp (ev e) o).run P w=.ok (.value v) w') (hk:K v w'):WO P o e w K:=by
 show RO P K _
 rw [h]; exact hk
end Go.E
namespace Go.Proofs.YtbjoghfmhgadkaaGreatDoor
open Go Go.E Go.Sp
def qpp:Tryz.prog.underlying 87=some (.slice (Tryz.prog.elem 87)):=κ
def elm_D:Tryz.prog.elem 87=46:=κ
def szr_D (w:World):(sizeOf 46).run Tryz.prog w=.ok 4 w:=by
 have h:=qqk;unfold q0V at h;obtain ⟨i,h1,h2⟩:=Option.map_eq_some_iff.1 h;simp [sizeOf,typeInfo,h1,h2]
def esz_D:q0c Tryz.prog 87=some 4:=κ
def qil {d:Option Nat} {ty:TypeId} {pos:String} {af:Array Edge} {x:Operand} {e:Env} {w:World} {K:Value->World->Prop} {A:Option Addr} {n c:Nat} (hx:ev e x=.slice A n c) (hk:K (.int .i64 n) w):WO Tryz.prog ⟨d,.call ⟨.builtin .len,#[x],#[87]⟩,ty,pos,af,none⟩ e w K:=q6Y (by
 rw [qik,hx,esz_D];exact hk)
def qen {l:List PV}:ACt 260 [.sl (some 4) l] (.fm (fClp (some 4) l)):=by
 refine ⟨qkO,λD w vs hT hF hR=>?_⟩;unfold RdL at hR;obtain ⟨y,ys,rfl,hy,hys⟩:=hR;unfold RdL at hys;subst hys;unfold Rd at hy;obtain ⟨A,n,c,us,rfl,h2,h3,h4,h5⟩:=hy;have hc:=h2.cap;refine q3Y Tryz.func260 rfl Tryz.ntmps260 κ ?_;refine q55 (q1M (q9a (qbP (v:=.slice none 0 0) (w':=w) rfl ?_)))
 show W _ _ _ _ _ _
 refine q55 (q1M (q9a (qbP (v:=.slice A n c) (w':=w) rfl (q9a (qbP (v:=.slice A n c) (w':=w) rfl (q9a (qil rfl (q9a (qbP (v:=.slice A n c) (w':=w) rfl (q9a (qil rfl (q9a (qbP (v:=.slice A n n) (w':=w) ?_ (q9a (qbP (v:=.slice A n n) (w':=w) rfl ?_)))))))))))))))
 .have hrun:(Instr.sliceAt 87 (.slice A n c) none (some (.int .i64 n)) (some (.int .i64 n))).run Tryz.prog w=.ok (.slice A n n) w:=by
   rw [run_sliceAt_slice _ _ _ _ _ _ qpp,run_slice_hm _ _ _ _ _ qpp _ _ _ _ ω (Int.le_refl _) ω,elm_D,szr_D,Result.andThen_ok];unfold sliced
   by_cases hn:n=0
   .subst hn; simp
   .cases A <;> simp [add_zero]
  simp [execOp,ev,put,upd,q3r,hrun]
 .show W _ _ _ _ _ _
  refine qcC (qr3 rfl ⟨_,rfl,Kp.refl _ _,?_⟩);unfold Rd;refine ⟨A,us,?_,?_,h4,h5⟩
  .simp [put,upd,h3]
  .rw [h3];exact ⟨zY _,h2.len,h2.at_⟩
def mpt_T:mpT Tryz.prog 200=some (none,q0T):=κ
def mpt_D:mpT Tryz.prog 216=some (some 4,.ag [bv false,bv false,q0T,iv 0]):=κ
attribute [go_sem] mpt_T mpt_D
def qiD:ACt 260 [q0T] (.fm (fClp (some 4) [])):=by
 obtain ⟨h1,h2⟩:=@qen [];refine ⟨h1,λD w vs hT hF hR=>h2 D w vs hT hF ?_⟩;unfold RdL at hR ⊢;obtain ⟨y,ys,rfl,hy,hys⟩:=hR;refine ⟨y,ys,rfl,?_,hys⟩;unfold Rd at hy ⊢;exact ⟨none,0,0,[],hy,Row.nil _ _ _,rfl,by unfold RdL; rfl,λv hv=>by cases hv⟩
def qjf {f:FuncId} {k:Kd} {x:PV} (h:ACt f [.sl k []] x):ACt f [q0T] x:=by
 obtain ⟨h1,h2⟩:=h;refine ⟨h1,λD w vs hT hF hR=>h2 D w vs hT hF ?_⟩;unfold RdL at hR ⊢;obtain ⟨y,ys,rfl,hy,hys⟩:=hR;refine ⟨y,ys,rfl,?_,hys⟩;unfold Rd at hy ⊢;exact ⟨none,0,0,[],hy,Row.nil _ _ _,rfl,by unfold RdL; rfl,λv hv=>by cases hv⟩
def qu4 {F:Nat->Nat->Option Nat} {j:Nat}:∀ n,cM sD (g0 F j) n=(tZ F j n).map λq=>((q.1:Int),sD [ofZ q.2])
 | 0=>rfl
 | n+1=>by
  rw [cM,qlP,zJ,qu4 n]
  congr 1
  unfold g0;cases F j n <;> rfl
def qgX {L:List (Nat × Nat)} {z:Nat} {f:Nat × Nat->PV} (h:∀ q ∈ L,q.1≠z):q0b (L.map λq=>((q.1:Int),f q)) (z:Int)=none:=by
 induction L with
 | nil=>rfl
 | cons p L ih =>
  rw [zG];unfold q0b;rw [if_neg (by have:=h p yC; omega)];exact ih λq hq=>h q (y6 _ hq)
abbrev mpB (l:List (Int × PV)):Bk:=⟨0,some 0,[.tu (mpL l)],false⟩
abbrev wkB (n:Nat) (ms mi:List Int) (mv:List Nat) (r:List PV):Bk:=⟨148,some 11,[.ag ([iv n,iv n,pI ms,pI mi,pF mv] ++ r)],false⟩
def qoo {H:Hp} {l:List (Int × PV)} {i:Nat} (hB:BOk H win) (hi:win i) (hl:∀ p ∈ l,Cld p.2):BOk (hpG [(i,mpB l)] H) win:=⟨λj b hb=>by
 have hn:∀ j,H j≠none->hpG [(i,mpB l)] H j≠none:=λj hj=>q1L (.inl hj)
 rcases q1s hb with h | ⟨_,h⟩
 .simp at h;obtain ⟨rfl,rfl⟩:=h;refine ⟨hi,rfl,IdL.of λx hx=>?_⟩;simp at hx;subst hx;unfold IdP;refine IdL.of λx hx=>?_;unfold mpL at hx;obtain ⟨p,hp,rfl⟩:=zN.1 hx;unfold mPv IdP;exact IdL.of λx hx=>by
   simp at hx
   rcases hx with rfl | rfl
   .unfold IdP; trivial
   .exact q09 (hl p hp)
 .obtain ⟨h1,h2,h3⟩:=hB.b j b h;exact ⟨h1,h2,IdL_mono hn _ h3⟩⟩
def q3Z {g:Nat->Option (List Int)} {n:Nat}:∀ p ∈ cM sD g n,Cld p.2:=λp hp=>by
 obtain ⟨i,a,_,_,rfl⟩:=q8R hp
 trivial
def qsq {F:Nat->Nat->Option Nat} {n j:Nat} {H:Hp} {r:List PV} (h:TOk F n n) (hn:n<=100) (hj:j < n) (hB:BOk H win) (hW:H 5000=some (wkB n (tM F n n).1 (tM F n n).2.1 (tM F n n).2.2 r)) (hr:r.length=6) (h5:H 5051=none) :
  qfX 174 [.pt 5000 0 0,iv j] H (.ag [.mp 5051]) (hpG [(5051,mpB (cM sD (g0 F j) n))] H):=by
 obtain ⟨r0,r1,r2,r3,r4,r5,rfl⟩:∃ a b c d e f,r=[a,b,c,d,e,f]:=by
  match r,hr with
  | [a,b,c,d,e,f],_=>exact ⟨a,b,c,d,e,f,rfl⟩
 have hml:=q0y (f:=F) (R:=n) n;have hg:=λj hj=>q3F (f:=F) (R:=n) (C:=n) (j:=j) hj;have hix:=λk h1 h2=>qbU (f:=F) (R:=n) (C:=n) (j:=j) (k:=k) hj h1 h2;have hos:=qiw (f:=F) (R:=n) (j:=j);obtain ⟨o,ho⟩:∃ o,o=tO F n:=⟨_,rfl⟩;have h4:=h.m;rw [<- ho] at hg hix hos;have hasc:=q77 (f:=F) (j:=j) n;have hZ:=λk v=>q42 (f:=F) (j:=j) (i:=n) (k:=k) (x:=v);rw [qu4];obtain ⟨L,hL⟩:∃ L,L=tZ F j n:=⟨_,rfl⟩;have hLn:L.length<=n:=by rw [hL]; unfold tZ; exact yO (List.length_filterMap_le _ _) σ
 rw [<- hL] at hos hix hasc hZ ⊢;clear hL;generalize (tM F n n).1=st at *;generalize (tM F n n).2.1=ix at *;generalize (tM F n n).2.2=vl at *;obtain ⟨m1,m2,m3⟩:=hml;have g1:=hg j Oq;have g2:=hg (j+1) Oq;have hlo:∀ i,i < 5000->H i=none:=λi hi=>Classical.byContradiction λhq=>by
  obtain ⟨b,hb⟩:=zL.1 hq;have:=(hB.b i b hb).1;unfold win at this; omega
 have l4:=hlo 4 Oq;have l5:=hlo 5 Oq;have l7:=hlo 7 Oq;refine qf3 qkY Tryz.func174 rfl Tryz.ntmps174 κ ?_ ?_ ?_ ?_
 .intro i b hb;obtain ⟨q1,q2,q3,b',q4,q5⟩:=hB.hi i b hb;refine ⟨q1,q2,q3,b,?_,rfl,zY _⟩;rw [q1O,if_neg (λe=>by subst e; rw [h5] at hb; cases hb),q1c];exact hb
 .exact (qoo hB ⟨ω,ω⟩ λp hp=>by
   obtain ⟨q,_,rfl⟩:=zN.1 hp
   trivial).ho
 .exact IdL.of λx hx=>by
   simp at hx
   rcases hx with rfl | rfl <;> unfold IdP
   .exact ⟨ω,ω⟩
   .trivial
 have ww:IntKind.i64.wrap ((j:Int)+1)=((j+1:Nat):Int):=by rw [i64_in ω ω]; omega
 refine wk1 (x5 hW g1 l4 l5 l7) ?_;refine q0g (λc=>c<=L.length) [0,1,4,5] [4,5] Lk Lk (λc:Nat=>[(6,iv ((o j+c:Nat):Int))]) (λc=>[(7,mpB ((L.take c).map λq=>((q.1:Int),sD [ofZ q.2])))]) (λ_=>H) (λc=>L.length-c) 0 (zK _) ?_ ?_
 .refine LeW [] rfl rfl ?_ ?_ (by simp [q1W,q0Z,win]) ?_
  .exact Ow
  .exact q04 hB
  .try refine Zz ?_
   exact ⟨⟨_,hW⟩,by rw [q0e]; exact q1g λp hp=>by cases hp⟩
 .intro c hc
  by_cases hlt:c < L.length
  .obtain ⟨⟨i,v⟩,e1,e2,e3⟩:=hix (o j+c) Oq Oq;rw [Nat.add_sub_cancel_left] at e1;dsimp only at e2 e3;obtain ⟨hin,hfv⟩:=(hZ i v).1 (zI e1);have hv1:=h.u j i v hj hin hfv;have hv2:=h.v j i v hj hin hfv;have hq:((o j+c:Nat):Int) < ((o (j+1):Nat):Int):=ω
   have C1:=q8w (q8H hv1 (q1S hv2)) (q6C hv2);have hob:=(zF.1 e2).1;have hnn:n*n<=100*100:=z7 hn hn;have wt:IntKind.i64.wrap (((o j+c:Nat):Int)+1)=((o j+(c+1):Nat):Int):=by rw [i64_in ω ω]; omega
   have N1:=qmO (V:=ofZ v);have hno:q0b ((L.take c).map λq=>((q.1:Int),sD [ofZ q.2])) (i:Int)=none:=qgX λq hq'=>by
    obtain ⟨c',hc'⟩:=yG.1 hq';have hcl:c' < c:=by
     have:=(zF.1 hc').1;simp at this; omega
    rw [yW,if_pos hcl] at hc';obtain ⟨x1,x2⟩:=zF.1 hc';obtain ⟨y1,y2⟩:=zF.1 e1;have:=zS.1 hasc c' c x1 y1 hcl;rw [x2,y2] at this;simp only at this; omega
   have hset:∀ x,q1E ((L.take c).map λq=>((q.1:Int),sD [ofZ q.2])) (i:Int) x=((L.take c).map λq=>((q.1:Int),sD [ofZ q.2])) ++ [((i:Int),x)]:=λx=>q2N hno;have hnx:(L.take (c+1)).map (λq=>((q.1:Int),sD [ofZ q.2]))=q1E ((L.take c).map λq=>((q.1:Int),sD [ofZ q.2])) (i:Int) (sD [ofZ v]):=by rw [hset,q2f e1,zJ]; rfl
   have hcl:∀ p ∈ (L.take c).map (λq=>((q.1:Int),sD [ofZ q.2])),Cld p.2:=λp hp=>by
    obtain ⟨q,_,rfl⟩:=zN.1 hp; trivial
   generalize hml:(L.take c).map (λq=>((q.1:Int),sD [ofZ q.2]))=ml at *;refine wk1 (x6 hW g2 ww hq e2 (x2 e3 wt)) ?_;refine ⟨c+1,ω,ω,?_⟩;rw [hnx];refine LeW [] rfl rfl ?_ ?_ (by simp [q1W,q0Z,win]) ?_
   .exact Ow
   .exact q04 hB
   .try refine Zz ?_
    refine ⟨⟨_,hW⟩,?_⟩;rw [q0e];refine q4r (qbH (T:=46) ?_ (clV (l:=[ofZ v])) ?_ rfl) hcl
    .try simp -implicitDefEqProofs (disch:=omega) only [go_sem,Nat.reduceEqDiff,Nat.reduceAdd,↓reduceIte]
    .try simp -implicitDefEqProofs (disch:=omega) only [go_sem,Nat.reduceEqDiff,Nat.reduceAdd,↓reduceIte]
  .obtain rfl:c=L.length:=ω
   have hq:¬ ((o j+L.length:Nat):Int) < ((o (j+1):Nat):Int):=ω
   rw [yZ];have hcl:∀ p ∈ L.map (λq=>((q.1:Int),sD [ofZ q.2])),Cld p.2:=λp hp=>by
    obtain ⟨q,_,rfl⟩:=zN.1 hp; trivial
   generalize hml:L.map (λq=>((q.1:Int),sD [ofZ q.2]))=ml at *;refine wk1 (x4 hW g2 ww hq) ?_;refine (rtM (rs:=[.cell 4 202]) rfl rfl Lq ?_ (.inl rfl));have hne:∀ i,H i≠none->i≠5051/\5000<=i/\i < 1000000:=λi hi=>⟨λe=>by subst e; exact hi h5,by
    obtain ⟨b,hb⟩:=zL.1 hi;exact (hB.b i b hb).1⟩
   refine qcF [(5051,some 7)] rfl (λi hi=>if_neg (hne i hi).1) hB (λi hi=>if_neg (hne i hi).1) (λi hi hm=>?_) (by simp [q2e,q0Z,win]) ?_
   .obtain ⟨q1,q2,q3⟩:=hne i hi;rw [q0A ω,q0P ⟨q2,q3⟩]
   .try refine Zz ?_
    rw [q0e];exact q1g hcl
end Go.Proofs.YtbjoghfmhgadkaaGreatDoor
namespace Go.E
open Go Go.RowKit
def qjz {H hp:Hp} {i:Nat} {b c:Bk} (hi:win i):q0S (q0o (hpG [(i,b)] H) hp) i c=q0o (hpG [(i,c)] H) hp:=by
 funext j
 unfold q0S
 by_cases h:j=i
 .subst h;rw [if_pos rfl,q0P hi,q1O,if_pos rfl]
 .rw [if_neg h]
  by_cases hw:win j
  .rw [q0P hw,q0P hw,q1O,q1O,if_neg h,if_neg h]
  .rw [q1G hw,q1G hw]
end Go.E
namespace Go.Proofs.YtbjoghfmhgadkaaGreatDoor
open Go Go.E Go.Sp
abbrev cuB:Bk:=⟨202,some 1,[.ag [.mp 5051]],false⟩
section
variable {S:LuS} {n m v:Nat} {g:Nat->Option (List Int)} {H:Hp}
def gD (S:LuS) (m v:Nat) (g:Nat->Option (List Int)) (dn:List (Int × PV)):Nat->Option (List Int):=λi=>if (i:Int) ∈ dn.map (·.1) then some ((g i).getD [] ++ [-(q4J (S.l i m) v)]) else g i
def gD_s {dn:List (Int × PV)} {i:Nat} {x:PV}:gsT (gD S m v g dn) i ((g i).getD [] ++ [-(q4J (S.l i m) v)])=gD S m v g (dn ++ [((i:Int),x)]):=by
 funext j
 unfold gsT gD
 by_cases h:j=i
 .subst h;rw [if_pos rfl,if_pos σ]
 .rw [if_neg h]
  by_cases h2:(j:Int) ∈ dn.map (·.1)
  .rw [if_pos h2,if_pos (by rw [zJ]; exact List.mem_append_left _ h2)]
  .rw [if_neg h2,if_neg (λq=>by
    rw [zJ] at q
    rcases yS.1 q with q | q
    .exact h2 q
    .simp at q; omega)]
def qtH {dn:List (Int × PV)} (hp:dn.Perm (dM S n m)):cM sD (gD S m v g dn) n=cM sD (gU S m v g) n:=q51 λi hi=>by
 unfold gD gU
 by_cases h:S.iL i m=true
 .rw [if_pos h,if_pos];exact zN.2 ⟨_,hp.mem_iff.2 (qjo (a:=S.l i m) hi (if_pos h)),rfl⟩
 .rw [if_neg h,if_neg];intro q;obtain ⟨p,hp1,hp2⟩:=zN.1 q;obtain ⟨i',a,h1,h2,rfl⟩:=q8R (hp.mem_iff.1 hp1);have:i'=i:=by simp at hp2; omega
  subst this;rw [if_neg h] at h2; cases h2
def qbY (hB:BOk H win) (h0:H 5050=some cuB) (h1:H 5051=some (mpB (cM sD g n))) (hl:q3D S.l) (hv:q0O v/\v < 18446744073709551616) (hg:∀ i,i < n->((g i).getD []).length<=1000) :
  qfX 226 [.pt 5050 0 0,.fm (qah (dM S n m)),pV (ofZ v)] H (.tu []) (hpG [(5051,mpB (cM sD (gU S m v g) n))] H):=by
 have hmw:∀ l:List (Int × PV),∀ i,hpG [(5051,mpB l)] H i≠none->win i:=λl i hi=>by
  rw [q1O] at hi
  split at hi
  .rename_i e; subst e; exact ⟨ω,ω⟩
  .obtain ⟨b,hb⟩:=zL.1 hi;exact (hB.b i b hb).1
 have hlo:∀ i,i < 5000->H i=none:=λi hi=>Classical.byContradiction λhq=>by
  obtain ⟨b,hb⟩:=zL.1 hq;have:=(hB.b i b hb).1;unfold win at this; omega
 have hb5:∀ i,H i≠none->5000<=i/\i < 1000000:=λi hi=>by
  obtain ⟨b,hb⟩:=zL.1 hi;exact (hB.b i b hb).1
 refine qf3 qkQ Tryz.func226 rfl Tryz.ntmps226 κ ?_ ?_ ?_ ?_
 .intro i b hb;obtain ⟨q1,q2,q3,b',q4,q5⟩:=hB.hi i b hb;refine ⟨q1,q2,q3,?_⟩;rw [q1O]
  split
  .rename_i e; subst e;rw [h1] at hb; cases hb;exact ⟨_,rfl,rfl,zY _⟩
  .exact ⟨b,hb,rfl,zY _⟩
 .exact λi b hb=>hmw _ i (by rw [hb]; exact yB _)
 .exact IdL.of λx hx=>by
   simp at hx
   rcases hx with rfl | rfl | rfl <;> unfold IdP
   .exact ⟨ω,ω⟩
   all_goals trivial
 have l5:=hlo 5 Oq;refine wk1 l5 ?_;refine qoq (m:=1) (d1:=8) (d:=9) (d8:=10) (d9:=11) (d10:=12) (b0:=0) (b1:=1) (kt:=3) (et:=46) (l:=dM S n m) ?_ ?_ ?_ ?_ (λ_=>stM [(0,.pt 5050 0 0),(5,.pt 5 0 0)] []) (λdn=>q0o (hpG [(5051,mpB (cM sD (gD S m v g dn) n))] H) (hpM [(5,⟨46,some 4,[pV (ofZ v)],false⟩)] [])) ?_ ?_ ?_
 .try simp -implicitDefEqProofs (disch:=omega) only [go_sem,Nat.reduceEqDiff,Nat.reduceAdd,↓reduceIte]
 .kernel_rfl
 .exact ⟨ω,ω,ω,ω⟩
 .kernel_rfl
 .have e0:cM sD (gD S m v g []) n=cM sD g n:=q51 λi _=>if_neg σ;rw [e0];refine LeG [] rfl (λ_ _=>rfl) hB (λ_ _=>rfl) (λi hi hm=>?_) (λp hp=>?_) (by simp [loN,win]) (by simp [q2e,q0Z,win]) ?_
  .rw [q0A];rintro rfl;exact hi l5
  .simp at hp;subst hp;exact ⟨ω,ω⟩
  .try refine Zz2 h0 h1 ?_
   rw [q0e];exact q1g q3Z
 .intro dn k x rs hp;have hmem:(k,x) ∈ dM S n m:=hp.mem_iff.1 σ;obtain ⟨i,a,hi,hga,hq⟩:=q8R hmem;cases hq;have hiL:S.iL i m=true/\S.l i m=a:=by
   split at hga
   .exact ⟨by assumption,tH.inj hga⟩
   .cases hga
  obtain ⟨hiL,rfl⟩:=hiL;have hnd:(i:Int) ∉ dn.map (·.1):=by
   have:=(hp.map (·.1)).nodup_iff.2 qau;rw [zJ,zG,List.nodup_append] at this;exact λh=>this.2.2 _ h _ yC rfl
  have hgi:gD S m v g dn i=g i:=if_neg hnd;have hlk:q0b (cM sD (gD S m v g dn) n) (i:Int)=(g i).map sD:=by rw [q8S,if_pos hi,hgi]
  have hgl:=hg i hi;obtain ⟨w1,w2⟩:=hl i m;have M:=q4m w1 hv.1;have hmd:=(q6H M.1).2.2.2;have C3:=q8w (ac_2 qk0 λ_=>q8e (q6C w1) (q6C hv.1) M.1) hmd;have C4:=q8w (qp5 qkS λ_=>qks hmd) (by unfold q0d at *; rw [Int.natAbs_neg]; exact hmd);cases hgc:g i with
  | none =>
   rw [hgc] at hlk hgl;simp only [y7,tF,yN,zO] at hlk hgl;have C1:=qiD
   try refine Zz ?_
   refine qbL q3f κ λK hK=>?_;simp -implicitDefEqProofs (disch:=omega) only [go_sem,Nat.reduceEqDiff,Nat.reduceAdd,↓reduceIte,i64_in,yJ,u6,zU,yP,yQ,yR,zP,yK,yE,yL,yF,q5n,q5o,q5s,q5t,q5p,q5q,q2I,q2J,q2K,q2L,q2G,q2H,hlk,h0,h1,yN,zO];refine q0J C1 ?_
   try refine Zz ?_
   refine q0J C3 ?_
   try refine Zz ?_
   refine q0J C4 ?_
   try refine Zz ?_
   refine qk7 qwl ?_
   try refine Zz ?_
   refine ⟨qbv κ,hK _ _ ?_⟩; clear hK K;refine i_n ?_;refine q_n ?_;refine qvt (id:=5051) (T:=0) (l:=q1E (cM sD (gD S m v g dn) n) (i:Int) (sD ([] ++ [-(q4J (S.l i m) v)]))) (s':=stM [(0,.pt 5050 0 0),(5,.pt 5 0 0)] []) (h1:=q0o (hpG [(5051,mpB (q1E (cM sD (gD S m v g dn) n) (i:Int) (sD ([] ++ [-(q4J (S.l i m) v)]))))] H) (hpM [(5,⟨46,some 4,[pV (ofZ v)],false⟩)] [])) ?_ ?_ (qer hi) ?_
   .refine LeG [] rfl (λ_ _=>rfl) hB (λ_ _=>rfl) (λi hi hm=>?_) (λp hp=>?_) (by simp [loN,win]) (by simp [q2e,q0Z,win]) ?_
    .have hbw:=hb5;have hq_:=hbw i hi
     try simp only [zG,zW,zE,zC,or_false,not_or] at hm
     repeat (first | rw [q0A ω] | rw [q0P ⟨ω,ω⟩] | rw [q1O,if_neg ω] | rw [q1c])
    .simp at hp;subst hp;exact ⟨ω,ω⟩
    .try refine Zz1 h0 ?_
     rw [q0e];refine q4r (qbH (T:=46) (l:=([] ++ [-(q4J (S.l i m) v)]).map λV=>pV V) (n:=1) ?_ clV ?_ σ) q3Z
     .rfl
     .rfl
   .rw [q0P ⟨ω,ω⟩];exact if_pos rfl
   .have e:=gD_s (S:=S) (m:=m) (v:=v) (g:=g) (dn:=dn) (i:=i) (x:=vD (S.l i m));rw [hgc] at e;rw [qjz ⟨ω,ω⟩,<- e]
    rfl
  | some L =>
   rw [hgc] at hlk hgl;simp only [y7,tF,yN,zO] at hlk hgl;have C1:=qen (l:=L.map λV=>pV V)
   try refine Zz ?_
   refine qbL q3f κ λK hK=>?_;simp -implicitDefEqProofs (disch:=omega) only [go_sem,Nat.reduceEqDiff,Nat.reduceAdd,↓reduceIte,i64_in,yJ,u6,zU,yP,yQ,yR,zP,yK,yE,yL,yF,q5n,q5o,q5s,q5t,q5p,q5q,q2I,q2J,q2K,q2L,q2G,q2H,hlk,h0,h1,yN,zO];refine q0J C1 ?_
   try refine Zz ?_
   refine q0J C3 ?_
   try refine Zz ?_
   refine q0J C4 ?_
   try refine Zz ?_
   refine qk7 qwl ?_
   try refine Zz ?_
   refine ⟨qbv κ,hK _ _ ?_⟩; clear hK K;refine i_n ?_;refine q_n ?_;refine qvt (id:=5051) (T:=0) (l:=q1E (cM sD (gD S m v g dn) n) (i:Int) (sD (L ++ [-(q4J (S.l i m) v)]))) (s':=stM [(0,.pt 5050 0 0),(5,.pt 5 0 0)] []) (h1:=q0o (hpG [(5051,mpB (q1E (cM sD (gD S m v g dn) n) (i:Int) (sD (L ++ [-(q4J (S.l i m) v)]))))] H) (hpM [(5,⟨46,some 4,[pV (ofZ v)],false⟩)] [])) ?_ ?_ (qer hi) ?_
   .refine LeG [] rfl (λ_ _=>rfl) hB (λ_ _=>rfl) (λi hi hm=>?_) (λp hp=>?_) (by simp [loN,win]) (by simp [q2e,q0Z,win]) ?_
    .have hbw:=hb5;have hq_:=hbw i hi
     try simp only [zG,zW,zE,zC,or_false,not_or] at hm
     repeat (first | rw [q0A ω] | rw [q0P ⟨ω,ω⟩] | rw [q1O,if_neg ω] | rw [q1c])
    .simp at hp;subst hp;exact ⟨ω,ω⟩
    .try refine Zz1 h0 ?_
     rw [q0e];refine q4r (qbH (T:=46) (l:=(L ++ [-(q4J (S.l i m) v)]).map λV=>pV V) (n:=L.length+1) ?_ clV ?_ σ) q3Z
     .rw [zJ]; rfl
     .rfl
   .rw [q0P ⟨ω,ω⟩];exact if_pos rfl
   .have e:=gD_s (S:=S) (m:=m) (v:=v) (g:=g) (dn:=dn) (i:=i) (x:=vD (S.l i m));rw [hgc] at e;rw [qjz ⟨ω,ω⟩,<- e]
    rfl
 .intro dn hp;rw [qtH hp];refine rtM (rs:=[]) rfl rfl Lq ?_ (.inr rfl);refine qcF [] rfl (λ_ _=>rfl) hB (λ_ _=>rfl) (λi hi hm=>?_) (by simp [q2e,q0Z,win]) ?_
  .by_cases e:i=5051
   .exact absurd (zN.2 ⟨_,List.mem_singleton.2 rfl,e.symm⟩) hm
   .have hbw:∀ i,H i≠none->5000<=i/\i < 1000000:=λi hi=>by
     obtain ⟨b,hb⟩:=zL.1 hi;exact (hB.b i b hb).1
    have hq_:=hbw i hi
    try simp only [zG,zW,zE,zC,or_false,not_or] at hm
    repeat (first | rw [q0A ω] | rw [q0P ⟨ω,ω⟩] | rw [q1O,if_neg ω] | rw [q1c])
  .try refine Zz ?_
   rw [q0e];exact q1g q3Z
end
end Go.Proofs.YtbjoghfmhgadkaaGreatDoor
namespace Go.E
open Go Go.RowKit
def Dd_2 {hin hout:Hp} {s:Nat->PV} {h:Hp} {a b:Nat} (hg:∀ i,q8b hin hout i->i=a\/i=b) (h1:∀ t,IdP (λi=>i≠a/\i≠b) (s t)) (h2:∀ i c,h i=some c->¬ win i->c.st=false/\IdL (λi=>i≠a/\i≠b) c.xs):Dd hin hout s h :=
 .inr ⟨λt=>q3B (λi hi hq=>(hg i hq).elim hi.1 hi.2) _ (h1 t),λi c hc hw=>⟨(h2 i c hc hw).1,IdL_mono (λi hi hq=>(hg i hq).elim hi.1 hi.2) _ (h2 i c hc hw).2⟩⟩
end Go.E
namespace Go.Proofs.YtbjoghfmhgadkaaGreatDoor
open Go Go.E Go.Sp
abbrev lnB (a b k:Nat):Bk:=⟨205,some 2,[.ag [.ow a none 0 k,.ow b none 0 k]],false⟩
abbrev inB (l:List Nat):Bk:=⟨3,none,l.map λz:Nat=>iv z,false⟩
abbrev flB (l:List Nat):Bk:=⟨32,none,l.map λz:Nat=>uv z,false⟩
def q8c {l:List Nat}:ClL (l.map λz:Nat=>iv z):=λx hx=>by
 obtain ⟨c,_,rfl⟩:=zN.1 hx; trivial
def quW {l:List Nat}:ClL (l.map λz:Nat=>uv z):=λx hx=>by
 obtain ⟨c,_,rfl⟩:=zN.1 hx; trivial
def qcH {L:List (Nat × Bk)} {B:Hp} (hB:BOk B win) (hL:∀ p ∈ L,win p.1/\p.2.st=false/\IdL (λj=>hpG L B j≠none) p.2.xs):BOk (hpG L B) win:=⟨λi b hb=>by
 rcases q1s hb with h | ⟨_,h⟩
 .exact hL _ h
 .obtain ⟨h1,h2,h3⟩:=hB.b i b h;exact ⟨h1,h2,IdL_mono (λj hj=>q1L (.inl hj)) _ h3⟩⟩
section
variable {rs vs:List Nat} {row v:Nat} {B:Hp}
def qbb (hB:BOk B win) {a b k:Nat} (ha:win a) (hb:win b) (h0:5060≠a/\5060≠b/\a≠b):BOk (hpG [(5060,lnB a b k),(a,inB rs),(b,flB vs)] B) win:=qcH hB λp hp=>by
 simp only [zE,zC,or_false] at hp
 rcases hp with rfl | rfl | rfl
 .refine ⟨⟨ω,ω⟩,rfl,IdL.of λx hx=>?_⟩;simp at hx;subst hx;unfold IdP;refine IdL.of λx hx=>?_;simp at hx
  rcases hx with rfl | rfl <;> unfold IdP
  .exact q1L (.inr σ)
  .exact q1L (.inr σ)
 .exact ⟨ha,rfl,IdL.of λx hx=>q09 (q8c x hx)⟩
 .exact ⟨hb,rfl,IdL.of λx hx=>q09 (quW x hx)⟩
def q7O (hsp:∀ i,5060<=i->i < 5070->B i=none) {k k':Nat} {rs' vs':List Nat}:∀ i,q8b (hpG [(5060,lnB 5061 5062 k),(5061,inB rs),(5062,flB vs)] B) (hpG [(5060,lnB 5063 5064 k'),(5063,inB rs'),(5064,flB vs')] B) i->i=5061\/i=5062:=λi ⟨_,h1,h2⟩=>Classical.byContradiction λhc=>by
 rw [not_or] at hc;simp only [q1O,q1c] at h1 h2
 split at h2
 .cases h2
 .rename_i a0
  split at h2
  .cases h2
  .split at h2
   .cases h2
   .rw [if_neg a0,if_neg hc.1,if_neg hc.2] at h1;exact h1 h2
def qob (hB:BOk B win) (hsp:∀ i,5060<=i->i < 5070->B i=none) (hr:rs.length<=1000) (hl:vs.length=rs.length) :
  ACxt 178 [.pt 5060 0 0,iv row,uv v] (hpG [(5060,lnB 5061 5062 rs.length),(5061,inB rs),(5062,flB vs)] B) (.tu []) (hpG [(5060,lnB 5063 5064 (rs.length+1)),(5063,inB (rs ++ [row])),(5064,flB (vs ++ [v]))] B):=by
 have hbw:∀ i,B i≠none->(5000<=i/\i < 1000000)/\¬ (5060<=i/\i < 5070):=λi hi=>by
  obtain ⟨b,hb⟩:=zL.1 hi;exact ⟨(hB.b i b hb).1,λh=>hi (hsp i h.1 h.2)⟩
 have b1:=qbb (rs:=rs) (vs:=vs) (k:=rs.length) hB (a:=5061) (b:=5062) ⟨ω,ω⟩ ⟨ω,ω⟩ Oq;have b2:=qbb (rs:=rs ++ [row]) (vs:=vs ++ [v]) (k:=rs.length+1) hB (a:=5063) (b:=5064) ⟨ω,ω⟩ ⟨ω,ω⟩ Oq;have hlo:∀ i,i < 5000->B i=none:=λi hi=>Classical.byContradiction λhq=>by
  have:=(hbw i hq).1;omega
 refine actx qkU Tryz.func178 rfl Tryz.ntmps178 κ ?_ ?_ ?_ ?_
 .intro i b hb;obtain ⟨q1,q2,q3,_⟩:=b1.hi i b hb;refine ⟨q1,q2,q3,?_⟩
  rcases q1s hb with h | ⟨h,hb⟩
  .simp only [zE,zC,or_false,Prod.mk.injEq] at h
   rcases h with ⟨rfl,rfl⟩ | ⟨rfl,rfl⟩ | ⟨rfl,rfl⟩
   .exact .inr ⟨_,rfl,rfl,zY _⟩
   .exact .inl (by simp only [q1O,q1c]; exact hsp 5061 ω ω)
   .exact .inl (by simp only [q1O,q1c]; exact hsp 5062 ω ω)
  .refine .inr ⟨b,?_,rfl,zY _⟩;have:=(hbw i (by rw [hb]; exact yB _)).2;rw [q8A (by simp; omega)]; exact hb
 .exact b2.ho
 .exact IdL.of λx hx=>by
   simp at hx
   rcases hx with rfl | rfl | rfl <;> unfold IdP
   .exact ⟨ω,ω⟩
   all_goals trivial
 have l14:=hlo 14 Oq;have l13:=hlo 13 Oq;have l20:=hlo 20 Oq;have l21:=hlo 21 Oq;refine wk1 (x5 hl l13 l14 l20 l21) ?_;refine rtM (rs:=[]) rfl rfl Lq ?_ (.inr rfl);refine qcF [(5063,some 14),(5064,some 21)] rfl (λi hi=>?_) hB (λi hi=>?_) (λi hi hm=>?_) (by simp [q2e,q0Z,win]) ?_
 .have a1:i≠5063:=λe=>by subst e; exact hi.1 (by simp only [q1O,q1c]; exact hsp 5063 ω ω)
  have a2:i≠5064:=λe=>by subst e; exact hi.1 (by simp only [q1O,q1c]; exact hsp 5064 ω ω)
  simp [q0Z,a1,a2]
 .have:=hbw i hi;have a1:i≠5063:=ω
  have a2:i≠5064:=ω
  simp [q0Z,a1,a2]
 .have hq_:=hbw i hi
  try simp only [zG,zW,zE,zC,or_false,not_or] at hm
  repeat (first | rw [q0A ω] | rw [q0P ⟨ω,ω⟩] | rw [q1O,if_neg ω] | rw [q1c])
 .try refine Zz ?_
  exact q0G (by rw [zJ]; rfl) q8c
end
end Go.Proofs.YtbjoghfmhgadkaaGreatDoor
namespace Go.E
open Go Go.RowKit
def q6L {B:Hp} {i:Nat}:∀ {L:List (Nat × Bk)},hpG L B i≠none->B i≠none\/i ∈ L.map (·.1)
 | [],h=>.inl h
 | p :: L,h=>by
  unfold hpG at h
  split at h
  .rename_i e; exact .inr (by rw [zG,e]; exact yC)
  .exact (q6L h).imp id λhm=>by rw [zG]; exact y6 _ hm
def mkR_t {a b:PV} {l:List PV}:mkR (a :: b :: l)=.tu (a :: b :: l):=rfl
attribute [go_sem] mkR_t
end Go.E
namespace Go.Proofs.YtbjoghfmhgadkaaGreatDoor
open Go Go.E Go.Sp
section
variable {F:Nat->Nat->Option Nat} {S:LuS} {n j k:Nat} {H:Hp}
def qfm:∀ (m:Nat) (q:LuS),upS F S j k m=some q->q.l=S.l/\q.iL=S.iL/\q.rows=S.rows/\∀ a b,b≠k->q.u a b=S.u a b/\q.iU a b=S.iU a b
 | 0,q,h=>by unfold upS at h; cases h; exact ⟨rfl,rfl,rfl,λ_ _ _=>⟨rfl,rfl⟩⟩
 | m+1,q,h=>by
  unfold upS at h;obtain ⟨t,ht,h⟩:=xF.1 h;obtain ⟨q1,q2,q3,q4⟩:=qfm m t ht
  split at h
  .cases h;exact ⟨q1,q2,q3,λa b hb=>⟨(if_neg λe=>hb e.2).trans (q4 a b hb).1,(if_neg λe=>hb e.2).trans (q4 a b hb).2⟩⟩
  .cases h
noncomputable def upG (F:Nat->Nat->Option Nat) (S:LuS) (j k:Nat):Nat->Nat->Option (List Int)
 | 0=>g0 F j
 | m+1=>match upS F S j k m with
  | none=>upG F S j k m
  | some q=>if luZ F q.l q.u (S.rows.getD m 0) j k m=0 then upG F S j k m else gU S m (fR 0 (luZ F q.l q.u (S.rows.getD m 0) j k m)) (upG F S j k m)
def uT (q:LuS) (k m:Nat):List Nat:=(List.range m).filter λt=>q.iU t k
def uR (S q:LuS) (k m:Nat):List Nat:=(uT q k m).map λt=>S.rows.getD t 0
def uV (q:LuS) (k m:Nat):List Nat:=(uT q k m).map λt=>q.u t k
def uT_s {q:LuS} {m:Nat} {v:Nat} {b:Bool}:uT { q with u:=q28 q.u m k v,iU:=q4W q.iU m k b } k (m+1)=if b then uT q k m ++ [m] else uT q k m:=by
 unfold uT;rw [z8,yA];have e:(List.range m).filter (λt=>q4W q.iU m k b t k)=(List.range m).filter λt=>q.iU t k:=yH λt ht=>if_neg λh=>by have:=zM.1 ht; omega
 have e2:q4W q.iU m k b m k=b:=if_pos ⟨rfl,rfl⟩;dsimp only;rw [e,tE,e2];cases b <;> simp
def uR_s {q:LuS} {m:Nat} {v:Nat} {b:Bool}:uR S { q with u:=q28 q.u m k v,iU:=q4W q.iU m k b } k (m+1)=if b then uR S q k m ++ [S.rows.getD m 0] else uR S q k m:=by
 unfold uR;rw [uT_s];cases b <;> simp
def uV_s {q:LuS} {m:Nat} {v:Nat} {b:Bool}:uV { q with u:=q28 q.u m k v,iU:=q4W q.iU m k b } k (m+1)=if b then uV q k m ++ [v] else uV q k m:=by
 unfold uV;rw [uT_s];have e:(uT q k m).map (λt=>q28 q.u m k v t k)=(uT q k m).map λt=>q.u t k:=zQ λt ht=>if_neg λh=>by
  have:=zM.1 (zZ.1 ht).1; omega
 dsimp only;cases b
 .rw [if_neg σ,if_neg σ,e]
 .rw [if_pos rfl,if_pos rfl,zJ,e];simp [q28]
def qip {q:LuS} {m:Nat}:(uT q k m).length<=m:=yO (z9 _ _) σ
def q9k {q:LuS} {m:Nat}:(uR S q k m).length=(uT q k m).length:=by unfold uR; simp
def qio {q:LuS} {m:Nat}:(uV q k m).length=(uT q k m).length:=by unfold uV; simp
noncomputable def upM (F:Nat->Nat->Option Nat) (S:LuS) (j k:Nat):Nat->Nat × LuS
 | 0=>(0,S)
 | m+1=>match upS F S j k (m+1) with
  | some q=>(m+1,q)
  | none=>upM F S j k m
def q4i {q:LuS}:∀ {m:Nat},upS F S j k m=some q->upM F S j k m=(m,q)
 | 0,h=>by unfold upS at h; cases h; rfl
 | m+1,h=>by rw [upM,h]
def qc2 {q:LuS} {m:Nat} (h1:upS F S j k m=some q) (h2:upS F S j k (m+1)=none):∀ c,m<=c->upM F S j k c=(m,q)
 | 0,hc=>by
  obtain rfl:m=0:=ω
  exact q4i h1
 | c+1,hc=>by
  by_cases e:m=c+1
  .subst e; exact q4i h1
  .rw [upM,q4h h2 (c+1) ω];exact qc2 h1 h2 c Oq
def upX' (S:LuS) (k:Nat) (p:Nat × LuS) (e:Int):PV:=.tu [.ag [.ow 5061 none 0 (uR S p.2 k p.1).length,.ow 5062 none 0 (uR S p.2 k p.1).length],iv e]
noncomputable def upX (F:Nat->Nat->Option Nat) (S:LuS) (j k:Nat):PV:=upX' S k (upM F S j k k) (match upS F S j k k with | none=>233 | some _=>0)
def qoy (S:LuS) (k n:Nat) (p:Nat × LuS) (g:Nat->Option (List Int)) (H:Hp):Hp:=hpG [(5061,inB (uR S p.2 k p.1)),(5062,flB (uV p.2 k p.1)),(5050,cuB),(5051,mpB (cM sD g n))] H
noncomputable def upH (F:Nat->Nat->Option Nat) (S:LuS) (n j k:Nat) (H:Hp):Hp:=qoy S k n (upM F S j k k) (upG F S j k (upM F S j k k).1) H
def qhw (hB:BOk H win) {x:PV} (hx:IdP (λ_=>False) x):BOk (hpG [(5050,cuB),(5051,⟨0,some 0,[x],false⟩)] H) win:=qcH hB λp hp=>by
 simp only [zE,zC,or_false] at hp
 rcases hp with rfl | rfl
 .refine ⟨⟨ω,ω⟩,rfl,IdL.of λx hx=>?_⟩;simp at hx;subst hx;unfold IdP;refine IdL.of λx hx=>?_;simp at hx;subst hx;unfold IdP;exact q1L (.inr σ)
 .refine ⟨⟨ω,ω⟩,rfl,IdL.of λx' hx'=>?_⟩;simp at hx';subst hx';exact q3B (λ_ h=>h.elim) _ hx
def q9G {l:List (Int × PV)} (hl:∀ p ∈ l,Cld p.2):IdP (λ_=>False) (.tu (mpL l)):=by
 unfold IdP;refine IdL.of λx hx=>?_;unfold mpL at hx;obtain ⟨p,hp,rfl⟩:=zN.1 hx;unfold mPv IdP;exact IdL.of λx hx=>by
  simp at hx
  rcases hx with rfl | rfl
  .unfold IdP; trivial
  .exact q09 (hl p hp)
def qcX (hB:BOk H win) {rs vs:List Nat} {x:PV} (hx:IdP (λ_=>False) x):BOk (hpG [(5061,inB rs),(5062,flB vs),(5050,cuB),(5051,⟨0,some 0,[x],false⟩)] H) win:=qcH (L:=[(5061,inB rs),(5062,flB vs)]) (qhw hB hx) λp hp=>by
 simp only [zE,zC,or_false] at hp
 rcases hp with rfl | rfl
 .exact ⟨⟨ω,ω⟩,rfl,IdL.of λx hx=>q09 (q8c x hx)⟩
 .exact ⟨⟨ω,ω⟩,rfl,IdL.of λx hx=>q09 (quW x hx)⟩
def qlG (h:TOk F n n) (hn:n<=100) (hl:q3D S.l) (hu:q3D S.u) (hz:∀ i m,S.iL i m=false->ofZ (S.l i m)=0) (hr:∀ x ∈ S.rows,x < n) (hk:S.rows.length=k) (hkn:k < n) (hj:j < n)
  {ms mi:List Int} {mv:List Nat} {r0 r1 r4 r5:PV} (hB:BOk H win) (hsp:∀ i,5050<=i->i < 5070->H i=none) (hW:H 5000=some (wkB n ms mi mv [r0,r1,.ow 5002 none 0 k,.ow 5003 none 0 k,r4,r5])) (h2:H 5002=some (inB S.rows)) (h3:H 5003=some ⟨216,none,(List.range k).map λm=>.fm (qah (dM S n m)),false⟩) :
  qfX 175 [.pt 5000 0 0,.pt 5050 0 0] (hpG [(5050,cuB),(5051,mpB (cM sD (g0 F j) n))] H) (upX F S j k) (upH F S n j k H):=by
 have hbw:∀ i,H i≠none->(5000<=i/\i < 1000000)/\¬ (5050<=i/\i < 5070):=λi hi=>by
  obtain ⟨b,hb⟩:=zL.1 hi;exact ⟨(hB.b i b hb).1,λh=>hi (hsp i h.1 h.2)⟩
 have hlo:∀ i,i < 5000->H i=none:=λi hi=>Classical.byContradiction λhq=>by
  have:=(hbw i hq).1;omega
 have b1:BOk (hpG [(5050,cuB),(5051,mpB (cM sD (g0 F j) n))] H) win:=qhw hB (q9G q3Z);have hF:∀ i,i < n->q0O ((F j i).getD 0):=λi hi=>(h.fin hj hi).1;have hbo:BOk (upH F S n j k H) win:=by
  unfold upH qoy;exact qcX hB (q9G q3Z)
 have hiU:∀ i b,hpG [(5050,cuB),(5051,mpB (cM sD (g0 F j) n))] H i=some b->∃ b',upH F S n j k H i=some b'/\b'.k=b.k/\b.xs.length<=b'.xs.length:=λi b hb=>by
  rcases q1s hb with q | ⟨q1,q2⟩
  .simp only [zE,zC,or_false,Prod.mk.injEq] at q
   rcases q with ⟨rfl,rfl⟩ | ⟨rfl,rfl⟩ <;> exact ⟨_,rfl,rfl,zY _⟩
  .have:=hbw i (by rw [q2]; exact yB _);refine ⟨b,?_,rfl,zY _⟩;unfold upH qoy;rw [q8A (by simp; omega)];exact q2
 refine qf3 qkX Tryz.func175 rfl Tryz.ntmps175 κ ?_ ?_ ?_ ?_
 .exact λi b hb=>⟨(b1.hi i b hb).1,(b1.hi i b hb).2.1,(b1.hi i b hb).2.2.1,hiU i b hb⟩
 .exact hbo.ho
 .exact IdL.of λx hx=>by
   simp at hx
   rcases hx with rfl | rfl <;> unfold IdP <;> exact ⟨ω,ω⟩
 clear hbo hiU;have hJn:∀ i,hpG [(5050,cuB),(5051,mpB (cM sD (g0 F j) n))] H i≠none->¬ (5052<=i/\i < 5070):=λi hi hq=>by
  rcases q6L hi with q | q
  .have:=(hbw i q).2; omega
  .simp at q; omega
 unfold upX upH;have l4:=hlo 4 Oq;have l6:=hlo 6 Oq;refine wk1 (x3 hW l4 l6) ?_;refine q0g (λq:Nat × LuS=>q.1<=k/\upS F S j k q.1=some q.2/\TmOk F S.l q.2.u j k q.1 n (upG F S j k q.1)/\q3D q.2.u) [0,1,4,14,15] [4] Lk Lk (λq=>[(16,iv q.1),(6,.pt 5060 0 0)]) (λ_=>[]) (λq=>hpG [(5060,lnB 5061 5062 (uR S q.2 k q.1).length),(5061,inB (uR S q.2 k q.1)),(5062,flB (uV q.2 k q.1)),(5050,cuB),(5051,mpB (cM sD (upG F S j k q.1) n))] H) (λq=>k-q.1) (0,S) ⟨zK _,rfl,TmOk.zero hF,hu⟩ ?_ ?_
 .refine LeG [(5060,some 6),(5061,none),(5062,none)] rfl (λi hi=>?_) hB (λi hi=>?_) (λi hi hm=>?_) (λp hp=>?_) (by simp [loN,win]) (by simp [q2e,q0Z,win]) ?_
  .have:=hJn i hi;simp [q0Z,show i≠5060 by omega,show i≠5061 by omega,show i≠5062 by omega]
  .have:=hbw i hi;simp [q0Z,show i≠5060 by omega,show i≠5061 by omega,show i≠5062 by omega]
  .have hq_:=hbw i hi
   try simp only [zG,zW,zE,zC,or_false,not_or] at hm
   repeat (first | rw [q0A ω] | rw [q0P ⟨ω,ω⟩] | rw [q1O,if_neg ω] | rw [q1c])
  .simp only [zE,zC,or_false] at hp
   rcases hp with rfl | rfl | rfl | rfl | rfl <;> exact ⟨ω,ω⟩
  .try refine Zz1 hW ?_
   refine ⟨rfl,⟨_,h2⟩,rfl,rfl,rfl,?_⟩;rw [q0e];exact q1g q3Z
 .rintro ⟨m,q⟩ ⟨hm,hq,hT,hqu⟩;simp only at hm hq hT hqu ⊢;obtain ⟨ql,qiL,qr,_⟩:=qfm m q hq
  by_cases hlt:m < k
  .have hlt':(m:Int) < k:=ω
   obtain ⟨i,hi⟩:∃ i,S.rows[m]?=some i:=⟨_,zA Oq⟩;have hin:=hr i (zI hi);have hgi:S.rows.getD m 0=i:=getD_some hi;have rm:(List.range k)[m]?=some m:=zH hlt;have hlk:q0b (cM sD (upG F S j k m) n) (i:Int)=((upG F S j k m) i).map sD:=by rw [q8S,if_pos hin]
   have hVd:=qjp (F:=F) (i:=i) (j:=j) (k:=k) (m:=m) hl hqu (hF i hin) Oq;have hsum:=hT.s i hin;have hlen:=hT.c i hin;have hbd:=hT.b i hin;have hqs:upS F S j k (m+1)=if q0O (fR 0 (luZ F S.l q.u i j k m)) then some { q with u:=q28 q.u m k (fR 0 (luZ F S.l q.u i j k m)),iU:=q4W q.iU m k (decide (luZ F S.l q.u i j k m≠0)) } else none:=by rw [upS,hq,tG,hgi,ql]
   have hgs:upG F S j k (m+1)=if luZ F S.l q.u i j k m=0 then upG F S j k m else gU S m (fR 0 (luZ F S.l q.u i j k m)) (upG F S j k m):=by rw [upG,hq]; simp only [hgi,ql]
   obtain ⟨V,hV⟩:∃ V,V=luZ F S.l q.u i j k m:=⟨_,rfl⟩;rw [<- hV] at hVd hsum hqs hgs;have bW:BOk (hpG [(5060,lnB 5061 5062 (uR S q k m).length),(5061,inB (uR S q k m)),(5062,flB (uV q k m)),(5050,cuB),(5051,mpB (cM sD (upG F S j k m) n))] H) win:=qbb (qhw hB (q9G q3Z)) ⟨ω,ω⟩ ⟨ω,ω⟩ Oq;refine wk1 (x5 hW h2 hlt' hi rm) ?_;refine A_jW [(0,.pt 5000 0 0),(1,.pt 5050 0 0),(4,.pt 4 0 0),(6,.pt 5060 0 0),(7,iv m),(8,iv i),(9,.pt 9 0 0),(14,.ow 5002 none 0 k),(15,iv k),(16,iv m)] [(4,⟨205,some 2,[.ag [q0T,q0T]],false⟩),(9,⟨46,some 4,[dT V],false⟩)] (hpG [(5060,lnB 5061 5062 (uR S q k m).length),(5061,inB (uR S q k m)),(5062,flB (uV q k m)),(5050,cuB),(5051,mpB (cM sD (upG F S j k m) n))] H) ?_ λK0 fin=>?_
   rotate_left
   .cases hgc:upG F S j k m i with
    | none =>
     rw [hgc] at hlk hsum;have hV0:V=0:=hsum.symm;have CS:=qjf (q6V (l:=[]) σ (λx hx=>by cases hx) (by rw [q38]; simp [q0d,q0m]));rw [q38,<- hV0] at CS;refine q6U λK hK=>?_;simp -implicitDefEqProofs (disch:=omega) only [go_sem,Nat.reduceEqDiff,Nat.reduceAdd,↓reduceIte,i64_in,yJ,u6,zU,yP,yQ,yR,zP,yK,yE,yL,yF,q5n,q5o,q5s,q5t,q5p,q5q,q2I,q2J,q2K,q2L,q2G,q2H,hlk,y7,yN,h2];refine q0J CS ?_
     try refine Zz ?_
     refine hK _ _ ?_; clear hK K;refine q_n ?_;refine fin _ _ ?_;refine LeW [] rfl rfl ?_ ?_ (by simp [q1W,q0Z,win]) ?_
     .exact Ow
     .exact q04 bW
     .try simp -implicitDefEqProofs (disch:=omega) only [go_sem,Nat.reduceEqDiff,Nat.reduceAdd,↓reduceIte,hW,h2]
    | some L =>
     rw [hgc] at hlk hsum hlen hbd;simp only [zO] at hsum hlen hbd;have CS:=q6V (l:=L) ω (λx hx=>by have:=hbd x hx; unfold q0d; omega) (by rw [hsum]; exact hVd);rw [hsum] at CS;refine q6U λK hK=>?_;simp -implicitDefEqProofs (disch:=omega) only [go_sem,Nat.reduceEqDiff,Nat.reduceAdd,↓reduceIte,i64_in,yJ,u6,zU,yP,yQ,yR,zP,yK,yE,yL,yF,q5n,q5o,q5s,q5t,q5p,q5q,q2I,q2J,q2K,q2L,q2G,q2H,hlk,tF,zO,h2];refine q0J CS ?_
     try refine Zz ?_
     refine hK _ _ ?_; clear hK K;refine q_n ?_;refine fin _ _ ?_;refine LeW [] rfl rfl ?_ ?_ (by simp [q1W,q0Z,win]) ?_
     .exact Ow
     .exact q04 bW
     .try simp -implicitDefEqProofs (disch:=omega) only [go_sem,Nat.reduceEqDiff,Nat.reduceAdd,↓reduceIte,hW,h2]
   .have CG:=q33 hVd
    by_cases hV0:V=0
    .have qz:(V.sign == 0)=true:=by rw [hV0]; rfl
     have f00:fR 0 V=0:=by rw [hV0]; exact if_pos rfl
     obtain ⟨q',hq'⟩:∃ q',q'=({ q with u:=q28 q.u m k (fR 0 V),iU:=q4W q.iU m k (decide (V≠0)) }:LuS):=⟨_,rfl⟩;have eR:uR S q' k (m+1)=uR S q k m:=by rw [hq',uR_s,if_neg (by simp [hV0])]
     have eV:uV q' k (m+1)=uV q k m:=by rw [hq',uV_s,if_neg (by simp [hV0])]
     have eG:upG F S j k (m+1)=upG F S j k m:=by rw [hgs,if_pos hV0]
     refine wk1 qz ?_;refine ⟨(m+1,q'),⟨by simp only; omega,?_,?_,?_⟩,by simp only; omega,?_⟩
     .rw [hqs,if_pos (by rw [f00]; unfold q0O; simp),hq']
     .simp only;rw [eG,hq'];simp only;rw [f00];exact hT.skip
     .rw [hq'];simp only;rw [f00];exact q3o hqu (by unfold q0O; simp) ω
     .simp only;rw [eR,eV,eG];refine LeW [] rfl rfl ?_ ?_ (by simp [q1W,q0Z,win]) ?_
      .exact Ow
      .exact q04 bW
      .try refine Zz2 hW h2 ?_
       omega
    .have qz:(V.sign == 0)=false:=by simpa using hV0
     have CR:=q8G hVd;have hvl:fR 0 V < 18446744073709551616:=q3q;have CF:=q6y hvl
     by_cases hf:q0O (fR 0 V)
     .rw [decide_eq_true hf] at CF;obtain ⟨q',hq'⟩:∃ q',q'=({ q with u:=q28 q.u m k (fR 0 V),iU:=q4W q.iU m k (decide (V≠0)) }:LuS):=⟨_,rfl⟩;have eR:uR S q' k (m+1)=uR S q k m ++ [i]:=by rw [hq',uR_s,if_pos (by simp [hV0]),hgi]
      have eV:uV q' k (m+1)=uV q k m ++ [fR 0 V]:=by rw [hq',uV_s,if_pos (by simp [hV0])]
      have eG:upG F S j k (m+1)=gU S m (fR 0 V) (upG F S j k m):=by rw [hgs,if_neg hV0]
      have eT:TmOk F S.l q'.u j k (m+1) n (upG F S j k (m+1)):=by rw [eG,hq']; exact hT.step (hz · m) hl hf
      have eQ:upS F S j k (m+1)=some q':=by rw [hqs,if_pos hf,hq']
      have eF:q3D q'.u:=by rw [hq']; exact q3o hqu hf hvl
      have hls:(uR S q k m).length<=m:=by rw [q9k]; exact qip
      have hle:(uV q k m).length=(uR S q k m).length:=by rw [q9k,qio]
      have bB:BOk (hpG [(5050,cuB),(5051,mpB (cM sD (upG F S j k m) n))] H) win:=qhw hB (q9G q3Z);have hsp':∀ i,5060<=i->i < 5070->hpG [(5050,cuB),(5051,mpB (cM sD (upG F S j k m) n))] H i=none:=λi h1 h2=>by rw [q8A (by simp; omega)]; exact hsp i ω h2
      have CA:=qob (rs:=uR S q k m) (vs:=uV q k m) (row:=i) (v:=fR 0 V) bB hsp' Oq hle;have hJ2:∀ {L:List (Nat × Bk)} {l:List (Int × PV)} (i:Nat),hpG [(5050,cuB),(5051,mpB (cM sD (g0 F j) n))] H i≠none->hpG L (hpG [(5050,cuB),(5051,mpB l)] H) i≠none:=λi hi=>q1L (.inl (q1L ((q6L hi).imp id λh=>by simpa using h)));have bW2:=qbb (rs:=uR S q k m ++ [i]) (vs:=uV q k m ++ [fR 0 V]) (k:=(uR S q k m).length+1) bB (a:=5063) (b:=5064) ⟨ω,ω⟩ ⟨ω,ω⟩ Oq;have CS:=qbY (S:=S) (n:=n) (m:=m) (v:=fR 0 V) (g:=upG F S j k m) bW2 rfl rfl hl ⟨hf,hvl⟩ (λi hi=>by have:=hT.c i hi; omega);have CO:=q8w (q8H hvl (q1S hf)) (q6C hf);refine wk1 qz ?_;refine qbK λK hK=>?_;refine Zz1 hW ?_;refine jx CA (by repeat (first | exact q2A | exact qf4 | refine qcB ω ?_)) (λi hi _=>hJ2 i hi) (Dd_2 (q7O hsp') ?_ ?_) ?_
      .repeat (refine q6Q ?_ (by first | (unfold IdP; first | trivial | omega) | simp [IdP,IdL]))
       exact qfM (by simp [IdL,IdP]) (by simp [IdL,IdP])
      .repeat (refine q6T ?_ rfl (by simp [IdL,IdP]))
       exact qcG (q9f (by simp [IdL,IdP]) (by simp [IdL,IdP]))
      try refine Zz ?_
      refine hK _ _ ?_; clear hK K;refine qfV q3f (.one 0 (.one 1 (.one 5 (.one 8 (.alt (.one 2 (.one 3 (.alt (.one 4 (.one 6 (.alt (.one 7 (.one 9 (.one 10 .fin))) (.one 9 (.one 7 (.one 10 .fin)))))) (.one 9 (.one 4 (.one 6 (.one 7 (.one 10 .fin)))))))) (.one 9 (.one 2 (.one 3 (.one 4 (.one 6 (.one 7 (.one 10 .fin)))))))))))) κ λK9 hK9=>?_;refine Zz3 hW h3 rm ?_
      repeat' (with_reducible apply And.intro)
      all_goals
       refine jc ?_
       try refine Zz ?_
       refine q0J CO ?_
       try refine Zz3 hW h3 rm ?_
       refine jm CS (by repeat (first | exact q2A | exact qf4 | refine qcB ω ?_)) (λi hi _=>hJ2 i hi) ?_
       try refine Zz ?_
       refine hK9 _ _ ?_;clear hK9 K9
       repeat (first | refine i_n ?_ | refine q_n ?_)
       refine wk ?_;refine ⟨(m+1,q'),⟨by simp only; omega,eQ,eT,eF⟩,by simp only; omega,?_⟩;simp only;rw [eR,eV,eG];refine LeG [(5061,some 5063),(5062,some 5064)] rfl (λi hi=>?_) hB (λi hi=>?_) (λi hi hm=>?_) (λp hp=>?_) (by simp [loN,win]) (by simp [q2e,q0Z,win,hsp]) ?_
       .have:=hJn i hi;simp [q0Z,show i≠5061 by omega,show i≠5062 by omega]
       .have:=hbw i hi;simp [q0Z,show i≠5061 by omega,show i≠5062 by omega]
       .have hq_:=hbw i hi
        try simp only [zG,zW,zE,zC,or_false,not_or] at hm
        repeat (first | rw [q0A ω] | rw [q0P ⟨ω,ω⟩] | rw [q1O,if_neg ω] | rw [q1c])
       .simp only [zE,zC,or_false] at hp
        rcases hp with rfl | rfl | rfl | rfl | rfl <;> exact ⟨ω,ω⟩
       .try refine Zz2 hW h2 ?_
        refine ⟨ω,q0G rfl q8c,?_⟩;rw [q0e];exact q1g q3Z
     .rw [decide_eq_false hf] at CF;have hno:upS F S j k (m+1)=none:=by rw [hqs,if_neg hf]
      rw [qc2 hq hno k ω,q4h hno k ω];simp only;unfold upX' qoy;refine wk1 qz ?_;refine (rtM (rs:=[.cell 4 205,.tmp 5]) rfl rfl Lq ?_ (.inl rfl));refine qcF [] rfl (λ_ _=>rfl) hB (λ_ _=>rfl) (λi hi hm=>?_) (by simp [q2e,q0Z,win]) ?_
      .have hq_:=hbw i hi
       try simp only [zG,zW,zE,zC,or_false,not_or] at hm
       repeat (first | rw [q0A ω] | rw [q0P ⟨ω,ω⟩] | rw [q1O,if_neg ω] | rw [q1c])
      .try refine Zz ?_
       refine ⟨q0G rfl q8c,?_⟩;rw [q0e];exact q1g q3Z
  .obtain rfl:k=m:=ω
   rw [q4i hq,hq];simp only;unfold upX' qoy;refine wk1 hW ?_;refine (rtM (rs:=[.cell 4 205,.tmp 5]) rfl rfl Lq ?_ (.inl rfl));refine qcF [] rfl (λ_ _=>rfl) hB (λ_ _=>rfl) (λi hi hm=>?_) (by simp [q2e,q0Z,win]) ?_
   .have hq_:=hbw i hi
    try simp only [zG,zW,zE,zC,or_false,not_or] at hm
    repeat (first | rw [q0A ω] | rw [q0P ⟨ω,ω⟩] | rw [q1O,if_neg ω] | rw [q1c])
   .try refine Zz ?_
    refine ⟨q0G rfl q8c,?_⟩;rw [q0e];exact q1g q3Z
end
end Go.Proofs.YtbjoghfmhgadkaaGreatDoor
namespace Go.Sp
open Go.E
def awy (mode:Int) (neg:Bool):Bool:=if mode=1 then neg else !neg
end Go.Sp
namespace Go.Proofs.YtbjoghfmhgadkaaGreatDoor
open Go Go.E Go.Sp
section
variable {neg inx:Bool} {q:Nat} {e p mode:Int}
end
def ulpE (a:Nat):Nat:=64461+max (a / 4503599627370496) 1
def qmL {a:Nat} (ha:a < 9223372036854775808) (hf:q0O a):ofZ a=(((if a / 4503599627370496=0 then a else 4503599627370496+a % 4503599627370496):Nat):Int)*(2:Int) ^ ulpE a:=by
 refine q03 ?_;unfold q0O at hf;have h2:a / 4503599627370496 % 2048=a / 4503599627370496:=Nat.mod_eq_of_lt Oq;rw [h2] at hf;unfold ofF ulpE;rw [h2,if_neg hf,decide_eq_false ω]
 by_cases h0:a / 4503599627370496=0
 .rw [if_pos h0,if_pos h0,h0,show max 0 1=1 from rfl,show a % 4503599627370496=a by omega]; rfl
 .rw [if_neg h0,if_neg h0,show max (a / 4503599627370496) 1=a / 4503599627370496 by omega]; rfl
def qdW {f:Nat} (hf:f < 18446744073709551616) (h:q0O f):((ofZ f).natAbs:Int)=ofZ (q31 f):=by
 have h1:q31 f / 4503599627370496 % 2048=f / 4503599627370496 % 2048:=by unfold q31; omega
 have h2:q31 f % 4503599627370496=f % 4503599627370496:=by unfold q31; omega
 have hn:¬ 9223372036854775808<=q31 f:=by have:=qfK (f:=f); omega
 unfold q0O at h;have e:∀ x:Option Int,x.getD 0=x.getD 0:=λ_=>rfl;unfold ofZ ofF;rw [h1,if_neg h,if_neg h,h2,decide_eq_false hn];have key:∀ (b:Bool) (m k:Nat),((sgn b m*(2:Int) ^ k).natAbs:Int)=sgn false m*(2:Int) ^ k:=λb m k=>by
  rw [q0M]
  push_cast
  congr 1
  cases b <;> simp [sgn]
 split
 .exact key _ _ _
 .exact key _ _ _
def qrD {a b:Int} (h:b < a):(a-b).sign=1:=xI Oq
def qrC {a b:Int} (h:¬ b < a):¬ (a-b).sign > 0:=λq=>by
 rcases Int.lt_or_eq_of_le (Int.not_lt.1 h) with h | h
 .rw [y8 ω] at q; omega
 .rw [show a-b=0 by omega] at q; exact absurd q (by decide)
def qka {v:Nat} (h:q0O v):bl (abZ v).natAbs<=66560:=by
 unfold abZ;rw [zP];exact ofZ_t h
section
variable {F:Nat->Nat->Option Nat} {n r c R C:Nat} {v:List Nat}
end
section
variable {A B V z:Int} {v:Nat}
def q4s (h1 : -9223372036854775808<=z) (h2:z<=9223372036854775807) (hv:mkV z 0=some V):ACt 66 [iv z] (dT V):=by
 have hz:bl z.natAbs<=64:=q0N (Nat.lt_of_le_of_lt (show z.natAbs<=9223372036854775808 by omega) (by decide));have C1:=@q24;have C2:=q4g (m:=z) (e:=0) rfl Oq Oq Oq hv;refine ac0 Tryz.func66 Tryz.ntmps66 [.cell 2 46] ?_;exact wk trivial
def qf9:ACt 66 [iv 0] (dT 0):=q4s Oq Oq (q21 _)
def q8I (h1:v < 18446744073709551616) (h2:q0O v):ACt 113 [uv (q31 v:Nat)] (dT (abZ v)):=by
 have:=q8H (f:=q31 v) (by have:=qfK (f:=v); omega) (q1S (qi4 h2))
 rwa [<- qdW h1 h2] at this
end
abbrev enP (Z:Nat->Int) (i:Nat):PV:=.ag [iv i,bv false,bv (decide (od (Z i) < 0)),.fm (fL (od (Z i))),iv (dyE (Z i)),uv (fR 0 (Z i):Nat)]
section
variable {g:Nat->Option (List Int)} {Z:Nat->Int} {rows:List Nat} {n m:Nat} {H:Hp}
def qpY {L:List Nat}:ClL (L.map (enP Z)):=λx hx=>by
 obtain ⟨i,_,rfl⟩:=zN.1 hx;intro y hy;simp at hy
 rcases hy with rfl | rfl | rfl | rfl | rfl | rfl <;> trivial
open Classical in
noncomputable def opX (rows:List Nat) (Z:Nat->Int) (n:Nat):PV:=if ∀ i,i < n->i ∉ rows->q0O (fR 0 (Z i)) then .tu [.sl (some 6) ((opR rows Z n).map (enP Z)),iv 0] else .tu [.un,iv 233]
def qrq (hn:n<=100) (hm:m<=200) (hs:∀ i,i < n->q1l ((g i).getD [])=Z i) (hc:∀ i,i < n->((g i).getD []).length<=m+1) (hb:∀ i,i < n->∀ x ∈ (g i).getD [],bl x.natAbs<=67600)
  {ms mi:List Int} {mv:List Nat} {r0 r2 r3 r4 r5:PV} (hB:BOk H win) (hW:H 5000=some (wkB n ms mi mv [r0,.ow 5001 none 0 n,r2,r3,r4,r5])) (h1:H 5001=some ⟨3,none,plL rows n,false⟩) (h2:H 5050=some cuB) (h3:H 5051=some (mpB (cM sD g n))) :
  qfX 176 [.pt 5000 0 0,.pt 5050 0 0] H (opX rows Z n) H:=by
 have hd:∀ i,i < n->q0d (Z i):=λi hi=>by rw [<- hs i hi]; exact q9q (hb i hi) (by have:=hc i hi; omega)
 have hbw:∀ i,H i≠none->5000<=i/\i < 1000000:=λi hi=>by
  obtain ⟨b,hb⟩:=zL.1 hi;exact (hB.b i b hb).1
 have hpl:(plL rows n).length=n:=by unfold plL; simp
 refine qf3 qkW Tryz.func176 rfl Tryz.ntmps176 κ ?_ ?_ ?_ ?_
 .exact hB.hi
 .exact hB.ho
 .exact IdL.of λx hx=>by
   simp at hx
   rcases hx with rfl | rfl <;> unfold IdP <;> exact ⟨ω,ω⟩
 refine wk1 hW ?_;refine q0g (λi:Nat=>i<=n/\∀ c,c < i->c ∉ rows->q0O (fR 0 (Z c))) [0,1,14] [] Lk Lk (λi:Nat=>[(15,iv i),(6,.ow 1001 (some 6) 0 (opR rows Z i).length)]) (λi=>[(1001,⟨214,some 6,(opR rows Z i).map (enP Z),false⟩)]) (λ_=>H) (λi=>n-i) 0 ⟨zK _,λc hc=>by omega⟩ ?_ ?_
 .refine LeW [(1001,none)] rfl rfl ?_ ?_ (by simp [q1W,q0Z,win]) ?_
  .exact Ow
  .exact q04 hB
  .try refine Zz2 hW h2 ?_
   exact ⟨⟨rfl,rfl⟩,rfl⟩
 .rintro i ⟨hi,hfin⟩;have hol:=qdV (rows:=rows) (z:=Z) (m:=i)
  by_cases hlt:i < n
  .have hlt':(i:Int) < n:=ω
   have rp:(plL rows n)[i]?=some (iv (plI rows i)):=by unfold plL; rw [zD,zH hlt]; rfl
   by_cases hir:i ∈ rows
   .have hge:(0:Int)<=plI rows i:=qj7.2 hir;have eo:opR rows Z (i+1)=opR rows Z i:=by rw [q9A,if_neg λq=>q.1 hir]
    refine wk1 (x5 hlt' hW h1 rp hge) ?_;refine ⟨i+1,⟨ω,λc hc h=>?_⟩,ω,?_⟩
    .by_cases e:c=i
     .subst e; exact absurd hir h
     .exact hfin c Oq h
    .rw [eo];refine LeW [] rfl rfl ?_ ?_ (by simp [q1W,q0Z,win]) ?_
     .exact Ow
     .exact q04 hB
     .try refine Zz2 hW h2 ?_
      exact ⟨ω,q0G rfl qpY⟩
   .have hge:¬ (0:Int)<=plI rows i:=λq=>hir (qj7.1 q);have hlk:q0b (cM sD g n) (i:Int)=(g i).map sD:=by rw [q8S,if_pos hlt]
    have hVd:=hd i hlt;have hsum:=hs i hlt;have hlen:=hc i hlt;have hbd:=hb i hlt;obtain ⟨V,hV⟩:∃ V,V=Z i:=⟨_,rfl⟩;rw [<- hV] at hVd hsum;refine wk1 (x5 hlt' hW h1 rp hge) ?_;refine A_jW [(0,.pt 5000 0 0),(1,.pt 5050 0 0),(6,.ow 1001 (some 6) 0 (opR rows Z i).length),(7,iv i),(8,.pt 8 0 0),(14,iv n),(15,iv i)] [(1001,⟨214,some 6,(opR rows Z i).map (enP Z),false⟩),(8,⟨46,some 4,[dT V],false⟩)] H ?_ λK0 fin=>?_
    rotate_left
    .cases hgc:g i with
     | none =>
      rw [hgc] at hlk hsum;have hV0:V=0:=hsum.symm;have CS:=qjf (q6V (l:=[]) σ (λx hx=>by cases hx) (by rw [q38]; simp [q0d,q0m]));rw [q38,<- hV0] at CS;refine q6U λK hK=>?_;simp -implicitDefEqProofs (disch:=omega) only [go_sem,Nat.reduceEqDiff,Nat.reduceAdd,↓reduceIte,i64_in,yJ,u6,zU,yP,yQ,yR,zP,yK,yE,yL,yF,q5n,q5o,q5s,q5t,q5p,q5q,q2I,q2J,q2K,q2L,q2G,q2H,hlk,y7,yN,h2,h3];refine q0J CS ?_
      try refine Zz ?_
      refine hK _ _ ?_; clear hK K;refine q_n ?_;refine fin _ _ ?_;refine LeW [] rfl rfl ?_ ?_ (by simp [q1W,q0Z,win]) ?_
      .exact Ow
      .exact q04 hB
      .try refine Zz2 hW h2 ?_
       exact q0G rfl qpY
     | some L =>
      rw [hgc] at hlk hsum hlen hbd;simp only [zO] at hsum hlen hbd;have CS:=q6V (l:=L) ω (λx hx=>by have:=hbd x hx; unfold q0d; omega) (by rw [hsum]; exact hVd);rw [hsum] at CS;refine q6U λK hK=>?_;simp -implicitDefEqProofs (disch:=omega) only [go_sem,Nat.reduceEqDiff,Nat.reduceAdd,↓reduceIte,i64_in,yJ,u6,zU,yP,yQ,yR,zP,yK,yE,yL,yF,q5n,q5o,q5s,q5t,q5p,q5q,q2I,q2J,q2K,q2L,q2G,q2H,hlk,tF,zO,h2,h3];refine q0J CS ?_
      try refine Zz ?_
      refine hK _ _ ?_; clear hK K;refine q_n ?_;refine fin _ _ ?_;refine LeW [] rfl rfl ?_ ?_ (by simp [q1W,q0Z,win]) ?_
      .exact Ow
      .exact q04 hB
      .try refine Zz2 hW h2 ?_
       exact q0G rfl qpY
    .have CG:=q33 hVd
     by_cases hV0:V=0
     .have qz:(V.sign == 0)=true:=by rw [hV0]; rfl
      have eo:opR rows Z (i+1)=opR rows Z i:=by rw [q9A,if_neg λq=>q.2 (by rw [<- hV]; exact hV0)]
      refine wk1 qz ?_;refine ⟨i+1,⟨ω,λc hc h=>?_⟩,ω,?_⟩
      .by_cases e:c=i
       .subst e; rw [<- hV,hV0,show fR 0 0=0 from if_pos rfl]; unfold q0O; simp
       .exact hfin c Oq h
      .rw [eo];refine LeW [] rfl rfl ?_ ?_ (by simp [q1W,q0Z,win]) ?_
       .exact Ow
       .exact q04 hB
       .try refine Zz2 hW h2 ?_
        exact ⟨ω,q0G rfl qpY⟩
     .have qz:(V.sign == 0)=false:=by simpa using hV0
      have CR:=q8G hVd;have hvl:fR 0 V < 18446744073709551616:=q3q;have CF:=q6y hvl
      by_cases hf:q0O (fR 0 V)
      .rw [decide_eq_true hf] at CF;have eo:(opR rows Z (i+1)).map (enP Z)=(opR rows Z i).map (enP Z) ++ [.ag [iv i,bv false,bv (decide (od V < 0)),.fm (fL (od V)),iv (dyE V),uv (fR 0 V:Nat)]]:=by rw [q9A,if_pos ⟨hir,by rw [<- hV]; exact hV0⟩,zJ,hV]; rfl
       have el:(opR rows Z (i+1)).length=(opR rows Z i).length+1:=by rw [q9A,if_pos ⟨hir,by rw [<- hV]; exact hV0⟩]; simp
       refine wk1 qz ?_;refine ⟨i+1,⟨ω,λc hc h=>?_⟩,ω,?_⟩
       .by_cases e:c=i
        .subst e; rw [<- hV]; exact hf
        .exact hfin c Oq h
       .rw [eo,el];refine LeW [(1001,some 47)] rfl rfl ?_ ?_ (by simp [q1W,q0Z,win]) ?_
        .exact Ow
        .exact q04 hB
        .try refine Zz2 hW h2 ?_
         exact ⟨ω,q0G rfl (by rw [<- eo]; exact qpY)⟩
      .rw [decide_eq_false hf] at CF;unfold opX;rw [if_neg λq=>hf (by rw [hV]; exact q i hlt hir)];refine wk1 qz ?_;refine (rtM (rs:=[.tmp 4,.tmp 5]) rfl rfl Lq ?_ (.inl rfl));refine qcF (L:=[]) [] rfl (λ_ _=>rfl) hB (λ_ _=>rfl) (λi hi hm=>?_) (by simp [q2e]) ?_
       .have hq_:=hbw i hi
        try simp only [zG,zW,zE,zC,or_false,not_or] at hm
        repeat (first | rw [q0A ω] | rw [q0P ⟨ω,ω⟩] | rw [q1O,if_neg ω] | rw [q1c])
       .try simp -implicitDefEqProofs (disch:=omega) only [go_sem,Nat.reduceEqDiff,Nat.reduceAdd,↓reduceIte]
  .obtain rfl:i=n:=ω
   have hlt':¬ (i:Int) < i:=ω
   unfold opX;rw [if_pos λc hc h=>hfin c hc h];refine wk1 hlt' ?_;refine (rtM (rs:=[.tmp 4,.tmp 5]) rfl rfl Lq ?_ (.inl rfl));refine qcF (L:=[]) [] rfl (λ_ _=>rfl) hB (λ_ _=>rfl) (λi hi hm=>?_) (by simp [q2e]) ?_
   .have hq_:=hbw i hi
    try simp only [zG,zW,zE,zC,or_false,not_or] at hm
    repeat (first | rw [q0A ω] | rw [q0P ⟨ω,ω⟩] | rw [q1O,if_neg ω] | rw [q1c])
   .try refine Zz ?_
    refine qbH (T:=214) ?_ qpY ?_ σ
    .try simp -implicitDefEqProofs (disch:=omega) only [go_sem,Nat.reduceEqDiff,Nat.reduceAdd,↓reduceIte]
    .exact Classical.byContradiction λhq=>by have:=hbw 1001 hq; omega
end
def dy0:q0d 0:=by simp [q0d,q0m]
section
variable {l:List Int} {r c i j:Nat} {v:List Nat}
end
section
variable {Z:Nat->Int} {v:Nat->Nat} {n num den:Nat} {mi:List Int} {L:List Nat} {H:Hp}
def qdZ {v:Nat->Nat}:∀ t,(∀ c,c < t->q0O (v (L.getD c 0)))->bl (mxT v L t).natAbs<=67600
 | 0,_=>by unfold mxT; simp [q0m]
 | t+1,h=>by
  unfold mxT
  split
  .unfold abZ; rw [zP]; exact q46 (h t ω)
  .exact qdZ t λc hc=>h c Oq
def qa7 {z:Int} (hz:z.natAbs < 9007199254740992):q0d (inZ z):=(q6H (q7x hz)).2.2.2
def qiN {W:Int} (h:bl W.natAbs<=67600):q0d W:=by unfold q0d; omega
def quj {z W:Int} (hz:z.natAbs<=1000) (hW:bl W.natAbs<=67600):q0d (z*W):=by
 have h1:bl z.natAbs<=10:=q0N Oq;have:=q2P z.natAbs W.natAbs;unfold q0d;rw [Int.natAbs_mul];omega
def ql7 {x:Int} (hx:0<=x):0<=x.sign:=by
 rcases Int.lt_or_eq_of_le hx with h | h
 .rw [xI h]; decide
 .rw [<- h]; decide
def qmA (hn:n<=100) (hnum:num<=1000) (hden:den<=1000) (hl:L.length<=1000) (hL:∀ i ∈ L,i < n/\fR 0 (Z i)=v i/\q0O (v i)) (hmi:mi.length<=1000000)
  {ms mi':List Int} {mv:List Nat} {r1 r2 r3 r4 r5:PV} (hB:BOk H win) (hW:H 5000=some (wkB n ms mi' mv [.sl none ((List.range n).map λi=>iv (q15 mi i)),r1,r2,r3,r4,r5])) :
  qfX 177 [.pt 5000 0 0,.sl (some 6) (L.map (enP Z)),iv num,iv den] H (iv (bsT v mi num den (mxT v L L.length) L L.length)) H:=by
 have hbw:∀ i,H i≠none->5000<=i/\i < 1000000:=λi hi=>by
  obtain ⟨b,hb⟩:=zL.1 hi;exact (hB.b i b hb).1
 have hlo:∀ i,i < 5000->H i=none:=λi hi=>Classical.byContradiction λhq=>by
  have:=hbw i hq;omega
 have hvL:∀ c,c < L.length->q0O (v (L.getD c 0)):=λc hc=>by
  rw [zB,zA hc,zO];exact (hL _ (yU _)).2.2
 have hcn:∀ i,q15 mi i<=1000000:=λi=>yO (z9 _ _) hmi;obtain ⟨res,hres⟩:∃ res,res=bsT v mi num den (mxT v L L.length) L L.length:=⟨_,rfl⟩;rw [<- hres];refine qf3 qkV Tryz.func177 rfl Tryz.ntmps177 κ ?_ ?_ ?_ ?_
 .exact hB.hi
 .exact hB.ho
 .exact IdL.of λx hx=>by
   simp at hx
   rcases hx with rfl | rfl | rfl | rfl <;> unfold IdP
   .exact ⟨ω,ω⟩
   all_goals trivial
 have l9:=hlo 9 Oq;have C0:=qf9;have N0:=q7k dy0;refine wk1 l9 ?_;refine q0g (λt:Nat=>t<=L.length) [0,1,2,3,9,21,22] [] Lk Lk (λt:Nat=>[(23,iv t)]) (λt=>[(9,⟨46,some 4,[dT (mxT v L t)],false⟩)]) (λ_=>H) (λt=>L.length-t) 0 (zK _) ?_ ?_
 .refine LeW [] rfl rfl ?_ ?_ (by simp [q1W,q0Z,win]) ?_
  .exact Ow
  .exact q04 hB
  .try refine Zz1 hW ?_
   exact ⟨rfl,rfl,rfl,rfl⟩
 .intro t ht
  by_cases hlt:t < L.length
  .have hlt':(t:Int) < L.length:=ω
   obtain ⟨i,hi⟩:∃ i,L[t]?=some i:=⟨_,zA hlt⟩;have he:(L.map (enP Z))[t]?=some (enP Z i):=by rw [zD,hi]; rfl
   obtain ⟨_,hz,hf⟩:=hL i (zI hi);unfold enP at he;rw [hz] at he;have hvl:v i < 18446744073709551616:=by rw [<- hz]; exact q3q
   have CA:=qe4 hvl hf;have CO:=q8I hvl hf;have hda:q0d (abZ (v i)):=qiN (by have:=qka hf; omega);have hdg:q0d (mxT v L t):=qiN (qdZ t λc hc=>hvL c Oq);have CC:=qcS hda hdg;have N1:=q7k hda;have es:mxT v L (t+1)=if mxT v L t < abZ (v i) then abZ (v i) else mxT v L t:=by rw [mxT,getD_some hi]
   generalize mxT v L t=G at *
   by_cases h:G < abZ (v i)
   .rw [qrD h] at CC;rw [if_pos h] at es;refine wk1 (x2 hlt' he) ?_;refine ⟨t+1,ω,ω,?_⟩;rw [es];refine LeW [] rfl rfl ?_ ?_ (by simp [q1W,q0Z,win]) ?_
    .exact Ow
    .exact q04 hB
    .try refine Zz1 hW ?_
     omega
   .have q:=qrC h;rw [if_neg h] at es;generalize (abZ (v i)-G).sign=sg at *;refine wk1 (x3 hlt' he q) ?_;refine ⟨t+1,ω,ω,?_⟩;rw [es];refine LeW [] rfl rfl ?_ ?_ (by simp [q1W,q0Z,win]) ?_
    .exact Ow
    .exact q04 hB
    .try refine Zz1 hW ?_
     omega
  .obtain rfl:t=L.length:=ω
   have hlt':¬ (L.length:Int) < L.length:=ω
   have hwb:=qdZ (v:=v) (L:=L) L.length hvL;obtain ⟨w,hw⟩:∃ w,w=mxT v L L.length:=⟨_,rfl⟩;rw [<- hw] at hres hwb ⊢;have hdw:=qiN hwb;have CF:=q4s (z:=num) Oq Oq (q7x Oq);have CM:=q8e (qa7 (z:=num) Oq) hdw (mulI (z:=num) (W:=w) Oq hwb);have hdb:q0d ((num:Int)*w):=quj Oq hwb;have CF2:=q4s (z:=den) Oq Oq (q7x Oq);have N1:=q7k (qa7 (z:=num) Oq);have N2:=q7k (qa7 (z:=den) Oq);have N3:=q7k hdb;have hrg:=λt=>q8U (v:=v) (mi:=mi) (num:=num) (den:=den) (w:=w) (L:=L) t;refine wk1 hlt' ?_;refine q0g (λt:Nat=>t<=L.length) [0,1,2,3,14,47,48] [14] Lk Lk (λt:Nat=>[(49,iv t),(15,iv (bsT v mi num den w L t))]) (λ_=>[]) (λ_=>H) (λt=>L.length-t) 0 (zK _) ?_ ?_
   .refine LeW [] rfl rfl ?_ ?_ (by simp [q1W,q0Z,win]) ?_
    .exact Ow
    .exact q04 hB
    .try refine Zz1 hW ?_
     exact ⟨rfl,rfl⟩
   .intro t ht
    by_cases hlt2:t < L.length
    .have hlt3:(t:Int) < L.length:=ω
     obtain ⟨i,hi⟩:∃ i,L[t]?=some i:=⟨_,zA hlt2⟩;have he:(L.map (enP Z))[t]?=some (enP Z i):=by rw [zD,hi]; rfl
     obtain ⟨hin,hz,hf⟩:=hL i (zI hi);unfold enP at he;rw [hz] at he;have hvl:v i < 18446744073709551616:=by rw [<- hz]; exact q3q
     have CK:=qai hvl;have rci:((List.range n).map λi=>iv (q15 mi i))[i]?=some (iv (q15 mi i)):=by rw [zD,zH hin]; rfl
     have es:bsT v mi num den w L (t+1)=if (v i=0\/v i=9223372036854775808)\/(den:Int)*abZ (v i) < num*w then bsT v mi num den w L t else if bsT v mi num den w L t < 0\/q15 mi i < q15 mi (L.getD (bsT v mi num den w L t).toNat 0) then (t:Int) else bsT v mi num den w L t:=by rw [bsT,getD_some hi]
     have hrt:=hrg t;generalize bsT v mi num den w L t=bb at *
     by_cases hk:q31 (v i)=0
     .have qk:(((q5Q (v i):Nat):Int) == 0)=true:=by
       have:=(q7u hvl).2 hk;rw [this]; rfl
      rw [if_pos (.inl ((q6r hvl).2 hk))] at es;generalize q5Q (v i)=kk at *;refine wk1 (x3 hlt3 he qk) ?_;refine ⟨t+1,ω,ω,?_⟩;rw [es];refine LeW [] rfl rfl ?_ ?_ (by simp [q1W,q0Z,win]) ?_
      .exact Ow
      .exact q04 hB
      .try refine Zz1 hW ?_
       first | done | omega
     .have qk:(((q5Q (v i):Nat):Int) == 0)=false:=by
       have:=mt (q7u hvl).1 hk;simpa using this
      generalize q5Q (v i)=kk at *;have CA:=qe4 hvl hf;have CO:=q8I hvl hf;have hab:=qka hf;have hda:q0d (abZ (v i)):=qiN Oq;have CM2:=q8e (qa7 (z:=den) Oq) hda (mulI (z:=den) (W:=abZ (v i)) Oq Oq);have hdp:q0d ((den:Int)*abZ (v i)):=quj Oq Oq;have CC:=qcS hdp hdb;have N4:=q7k hda;have N5:=q7k hdp;have hnz:¬ (v i=0\/v i=9223372036854775808):=λq=>hk ((q6r hvl).1 q)
      by_cases hlw:(den:Int)*abZ (v i) < num*w
      .rw [if_pos (.inr hlw)] at es;rw [y8 (show (den:Int)*abZ (v i)-num*w < 0 by omega)] at CC;have q1:¬ (0:Int) <= -1:=ω
       refine wk1 (x4 hlt3 he qk q1) ?_;refine ⟨t+1,ω,ω,?_⟩;rw [es];refine LeW [] rfl rfl ?_ ?_ (by simp [q1W,q0Z,win]) ?_
       .exact Ow
       .exact q04 hB
       .try refine Zz1 hW ?_
        first | done | omega
      .rw [if_neg (λq=>q.elim hnz hlw)] at es;obtain ⟨sg,hsg⟩:∃ sg,sg=((den:Int)*abZ (v i)-num*w).sign:=⟨_,rfl⟩;have q1:(0:Int)<=sg:=by rw [hsg]; exact ql7 ω
       rw [<- hsg] at CC;clear hsg
       by_cases hb0:bb < 0
       .rw [if_pos (.inl hb0)] at es;refine wk1 (x5 hlt3 he qk q1 hb0) ?_;refine ⟨t+1,ω,ω,?_⟩;rw [es];refine LeW [] rfl rfl ?_ ?_ (by simp [q1W,q0Z,win]) ?_
        .exact Ow
        .exact q04 hB
        .try refine Zz1 hW ?_
         first | done | omega
       .obtain ⟨b,rfl⟩:∃ b:Nat,bb=b:=⟨bb.toNat,ω⟩;obtain ⟨i2,hi2⟩:∃ i,L[b]?=some i:=⟨_,zA Oq⟩;have he2:(L.map (enP Z))[b]?=some (enP Z i2):=by rw [zD,hi2]; rfl
        obtain ⟨hin2,hz2,_⟩:=hL i2 (zI hi2);unfold enP at he2;rw [hz2] at he2;have rci2:((List.range n).map λi=>iv (q15 mi i))[i2]?=some (iv (q15 mi i2)):=by rw [zD,zH hin2]; rfl
        rw [zX,getD_some hi2] at es
        by_cases hc:q15 mi i < q15 mi i2
        .rw [if_pos (.inr hc)] at es;have q2:(q15 mi i:Int) < q15 mi i2:=ω
         refine wk1 (x6 hW hlt3 he qk q1 (x5 hb0 he2 rci rci2 q2)) ?_;refine ⟨t+1,ω,ω,?_⟩;rw [es];refine LeW [] rfl rfl ?_ ?_ (by simp [q1W,q0Z,win]) ?_
         .exact Ow
         .exact q04 hB
         .try refine Zz1 hW ?_
          first | done | omega
        .rw [if_neg (λq=>q.elim hb0 hc)] at es;have q2:¬ (q15 mi i:Int) < q15 mi i2:=ω
         refine wk1 (x6 hW hlt3 he qk q1 (x5 hb0 he2 rci rci2 q2)) ?_;refine ⟨t+1,ω,ω,?_⟩;rw [es];refine LeW [] rfl rfl ?_ ?_ (by simp [q1W,q0Z,win]) ?_
         .exact Ow
         .exact q04 hB
         .try refine Zz1 hW ?_
          first | done | omega
    .obtain rfl:t=L.length:=ω
     have hlt3:¬ (L.length:Int) < L.length:=ω
     refine wk1 hlt3 ?_;refine (rtM (rs:=[.tmp 8]) rfl rfl Lq ?_ (.inl rfl));rw [hres];refine qcF (L:=[]) [] rfl (λ_ _=>rfl) hB (λ_ _=>rfl) (λi hi hm=>?_) (by simp [q2e]) ?_
     .have hq_:=hbw i hi
      try simp only [zG,zW,zE,zC,or_false,not_or] at hm
      repeat (first | rw [q0A ω] | rw [q0P ⟨ω,ω⟩] | rw [q1O,if_neg ω] | rw [q1c])
     .try simp -implicitDefEqProofs (disch:=omega) only [go_sem,Nat.reduceEqDiff,Nat.reduceAdd,↓reduceIte]
      first | done | omega
end
def q8T {α:Type} {v:α->PV} {g:Nat->Option α} {p:Nat->Bool} {w:Nat->α}:∀ n,(∀ i,i < n->g i=if p i then some (w i) else none)->cM v g n=((List.range n).filter p).map λi:Nat=>((i:Int),v (w i))
 | 0,_=>rfl
 | n+1,h=>by
  rw [cM,q8T n λi hi=>h i ω,z8,yA,zJ,h n ω]
  congr 1
  cases hp:p n <;> simp [hp]
section
variable {F:Nat->Nat->Option Nat} {mi:List Int} {n j k num den:Nat} {S q:LuS}
def q5w:∀ i,rsV F q j k i=if i ∈ q.rows then 0 else fR 0 (rsZ F q j k i):=λ_=>rfl
def qn3 (h:upS F S j k k=none):q14 F mi n S j k num den=(233,S):=by
 unfold q14;rw [h]
def q6w:(∀ i,i < n->q0O (rsV F q j k i)) ↔ ∀ i,i < n->i ∉ q.rows->q0O (fR 0 (rsZ F q j k i)):=by
 constructor
 .intro h i hi hr;have:=h i hi
  rwa [q5w,if_neg hr] at this
 .intro h i hi;rw [q5w]
  split
  .unfold q0O; simp
  .exact h i hi (by assumption)
def quH (h:upS F S j k k=some q) (h2:¬ ∀ i,i < n->i ∉ q.rows->q0O (fR 0 (rsZ F q j k i))):q14 F mi n S j k num den=(233,S):=by
 unfold q14;rw [h];simp only;unfold qf0;rw [if_neg (mt q6w.1 h2)]
noncomputable def clL (F:Nat->Nat->Option Nat) (q:LuS) (n j k:Nat):List Nat:=opR q.rows (rsZ F q j k) n
noncomputable def clB (F:Nat->Nat->Option Nat) (mi:List Int) (q:LuS) (n j k num den:Nat):Int:=bsT (rsV F q j k) mi num den (mxT (rsV F q j k) (clL F q n j k) (clL F q n j k).length) (clL F q n j k) (clL F q n j k).length
def qiF:(bsP (rsV F q j k) q mi num den (mxZ (rsV F q j k) n) n < 0 ↔ clB F mi q n j k num den < 0)/\(0<=clB F mi q n j k num den->bsP (rsV F q j k) q mi num den (mxZ (rsV F q j k) n) n=((clL F q n j k).getD (clB F mi q n j k num den).toNat 0:Nat)):=by
 unfold clB clL;rw [qjj (z:=rsZ F q j k) (rows:=q.rows) q5w];exact qk1 (z:=rsZ F q j k) q5w n
def qkM : -1<=clB F mi q n j k num den/\clB F mi q n j k num den < (clL F q n j k).length:=q8U _
def quG (h:upS F S j k k=some q) (h2:∀ i,i < n->i ∉ q.rows->q0O (fR 0 (rsZ F q j k i))) (h3:clB F mi q n j k num den < 0):q14 F mi n S j k num den=(9,S):=by
 unfold q14;rw [h];simp only;unfold qf0;rw [if_pos (q6w.2 h2),if_pos (qiF.1.2 h3)]
def qas {p:Nat} (h3:0<=clB F mi q n j k num den) (hp:(clL F q n j k)[(clB F mi q n j k num den).toNat]?=some p):p < n/\p ∉ q.rows/\rsZ F q j k p≠0/\rsV F q j k p=fR 0 (rsZ F q j k p)/\bsP (rsV F q j k) q mi num den (mxZ (rsV F q j k) n) n=(p:Nat)/\¬ (rsV F q j k p=0\/rsV F q j k p=9223372036854775808):=by
 have hm:=q4T.1 (zI hp);have hb:=qiF.2 h3;rw [getD_some hp] at hb;have ho:=(qav (v:=rsV F q j k) (S:=q) (mi:=mi) (num:=num) (den:=den) (w:=mxZ (rsV F q j k) n) n (by rw [hb]; omega)).2;rw [hb,zX] at ho;exact ⟨hm.1,hm.2.1,hm.2.2,by rw [q5w,if_neg hm.2.1],hb,ho⟩
def q9C {f:Nat} (hf:q0O f) (hl:f < 18446744073709551616) (h:¬ (f=0\/f=9223372036854775808)):ofZ f≠0:=λe=>h ((q6r hl).2 ((q9D hf).1 e))
def qdK {d:Int} (hd:d≠0):q4H 0 0 d=0:=by
 unfold q4H;rw [if_neg hd];unfold fQ;rw [if_pos rfl]
def quF {p:Nat} (h:upS F S j k k=some q) (h2:∀ i,i < n->i ∉ q.rows->q0O (fR 0 (rsZ F q j k i))) (h3:0<=clB F mi q n j k num den) (hp:(clL F q n j k)[(clB F mi q n j k num den).toNat]?=some p) {i:Nat} (hi:i ∈ clL F q n j k) (hip:i≠p) (hf:¬ q0O (q4H 0 (rsZ F q j k i) (ofZ (rsV F q j k p)))):q14 F mi n S j k num den=(233,S):=by
 obtain ⟨p1,p2,p3,p4,p5,p6⟩:=qas h3 hp;have hm:=q4T.1 hi;unfold q14;rw [h];simp only;unfold qf0;rw [if_pos (q6w.2 h2),if_neg (λc=>by have:=qiF.1.1 c; omega),p5,zX,qdf (i:=i) (by
  show i ∉ q.rows ++ [p]
  rw [yS,not_or];exact ⟨hm.2.1,by simpa using hip⟩) hf n hm.1]
noncomputable def clS (F:Nat->Nat->Option Nat) (q:LuS) (n j k p:Nat):LuS:=loE (pvS q k (rsV F q j k) p) k (rsZ F q j k) (ofZ (rsV F q j k p)) n
def qn2 {p:Nat} (h:upS F S j k k=some q) (h2:∀ i,i < n->i ∉ q.rows->q0O (fR 0 (rsZ F q j k i))) (h3:0<=clB F mi q n j k num den) (hp:(clL F q n j k)[(clB F mi q n j k num den).toNat]?=some p) (hf:∀ i ∈ clL F q n j k,i≠p->q0O (q4H 0 (rsZ F q j k i) (ofZ (rsV F q j k p)))):q14 F mi n S j k num den=(0,clS F q n j k p):=by
 obtain ⟨p1,p2,p3,p4,p5,p6⟩:=qas h3 hp;have hd:ofZ (rsV F q j k p)≠0:=q9C (by rw [p4]; exact h2 p p1 p2) (by rw [p4]; exact q3q) p6;unfold q14;rw [h];simp only;unfold qf0;rw [if_pos (q6w.2 h2),if_neg (λc=>by have:=qiF.1.1 c; omega),p5,zX,qa2 n λi hi hr=>?_]
 .rfl
 .have hr:i ∉ q.rows ++ [p]:=hr;rw [yS,not_or] at hr
  by_cases hz:rsZ F q j k i=0
  .rw [hz,qdK hd]; unfold q0O; simp
  .exact hf i (q4T.2 ⟨hi,hr.1,hz⟩) (by simpa using hr.2)
section
variable {p:Nat} {Z:Nat->Int} {V:Nat->Nat} {d:Int}
def q2y:(loE (pvS q k V p) k Z d n).rows=q.rows ++ [p]:=rfl
def q3J {a b:Nat} (hb:b≠k):(loE (pvS q k V p) k Z d n).l a b=q.l a b/\(loE (pvS q k V p) k Z d n).iL a b=q.iL a b/\(loE (pvS q k V p) k Z d n).u a b=q.u a b/\(loE (pvS q k V p) k Z d n).iU a b=q.iU a b:=by
 unfold loE pvS;exact ⟨if_neg λh=>hb h.1,if_neg λh=>hb h.1,if_neg λh=>hb h.2,if_neg λh=>hb h.2⟩
def opR_p (hp:p ∉ q.rows):(opR q.rows Z n).filter (λi=>decide (i≠p))=opR (q.rows ++ [p]) Z n:=by
 unfold opR;rw [List.filter_filter];refine yH λi _=>?_
 by_cases h1:i ∈ q.rows <;> by_cases h2:i=p <;> by_cases h3:Z i=0 <;> simp [h1,h2,h3] <;> simp_all
def iLk (hf:∀ i m,k<=m->q.iL i m=false) {a:Nat} (ha:a < n):(loE (pvS q k V p) k Z d n).iL a k=decide (a ∉ q.rows ++ [p]/\Z a≠0):=by
 unfold loE pvS;dsimp only
 by_cases h:a ∈ q.rows ++ [p]
 .rw [if_neg λc=>c.2.2 h,hf a k (zY _),decide_eq_false λc=>c.1 h]
 .rw [if_pos ⟨rfl,ha,h⟩]
  by_cases hz:Z a=0
  .rw [decide_eq_false (λc=>c hz),decide_eq_false λc=>c.2 hz]
  .rw [decide_eq_true hz,decide_eq_true ⟨h,hz⟩]
def liL_k (hf:∀ i m,k<=m->q.iL i m=false):liL (loE (pvS q k V p) k Z d n) n k=opR (q.rows ++ [p]) Z n:=by
 unfold liL opR;exact yH λa ha=>iLk hf (zM.1 ha)
def l_k {a:Nat} (ha:a < n) (hr:a ∉ q.rows ++ [p]):(loE (pvS q k V p) k Z d n).l a k=q4H 0 (Z a) d:=by
 unfold loE pvS;dsimp only;rw [if_pos ⟨rfl,ha,hr⟩]
def lnL_k (hf:∀ i m,k<=m->q.iL i m=false):lnL (loE (pvS q k V p) k Z d n) n k=pLn (opR (q.rows ++ [p]) Z n) ((opR (q.rows ++ [p]) Z n).map λi=>q4H 0 (Z i) d):=by
 unfold lnL;rw [liL_k hf];have:(opR (q.rows ++ [p]) Z n).map (λi=>(loE (pvS q k V p) k Z d n).l i k)=(opR (q.rows ++ [p]) Z n).map λi=>q4H 0 (Z i) d:=zQ λi hi=>by
  have:=q4T.1 hi;exact l_k this.1 this.2.1
 rw [this]
def dM_k (hf:∀ i m,k<=m->q.iL i m=false):dM (loE (pvS q k V p) k Z d n) n k=(opR (q.rows ++ [p]) Z n).map λi:Nat=>((i:Int),vD (q4H 0 (Z i) d)):=by
 unfold dM;rw [q8T (p:=λi=>decide (i ∉ q.rows ++ [p]/\Z i≠0)) (w:=λi=>q4H 0 (Z i) d) n λi hi=>?_]
 .rfl
 .rw [iLk hf hi]
  by_cases h:i ∉ q.rows ++ [p]/\Z i≠0
  .rw [decide_eq_true h,if_pos rfl,if_pos rfl,l_k hi h.1]
  .rw [decide_eq_false h]; rfl
def qsu {m:Nat} (hm:m≠k) (h1:q.l=S.l) (h2:q.iL=S.iL):lnL (loE (pvS q k V p) k Z d n) n m=lnL S n m:=by
 have e:liL (loE (pvS q k V p) k Z d n) n m=liL S n m:=by
  unfold liL;exact yH λa _=>by rw [(q3J hm).2.1,h2]
 have e2:(liL S n m).map (λi=>(loE (pvS q k V p) k Z d n).l i m)=(liL S n m).map λi=>S.l i m:=zQ λa _=>by rw [(q3J hm).1,h1]
 unfold lnL;rw [e,e2]
def dM_lo {m:Nat} (hm:m≠k) (h1:q.l=S.l) (h2:q.iL=S.iL):dM (loE (pvS q k V p) k Z d n) n m=dM S n m:=by
 unfold dM;exact q51 λi _=>by rw [(q3J hm).1,(q3J hm).2.1,h1,h2]
def qst {m:Nat} (hm:m < k) (hk:S.rows.length=k) (hr:q.rows=S.rows) (h1:∀ a b,b≠k->q.u a b=S.u a b/\q.iU a b=S.iU a b):lnU (loE (pvS q k V p) k Z d n) m=lnU S m:=by
 have hmk:m≠k:=ω
 have e:liU (loE (pvS q k V p) k Z d n) m=liU S m:=by
  unfold liU;exact yH λa _=>by rw [(q3J hmk).2.2.2,(h1 a m hmk).2]
 have hlt:∀ t ∈ liU S m,t < k:=λt ht=>by have:=zM.1 (zZ.1 ht).1; omega
 have e2:(liU S m).map (λt=>(loE (pvS q k V p) k Z d n).rows.getD t 0)=(liU S m).map λt=>S.rows.getD t 0:=zQ λt ht=>by
  rw [q2y,hr,zB,zB,xB (by have:=hlt t ht; omega)]
 have e3:(liU S m).map (λt=>(loE (pvS q k V p) k Z d n).u t m)=(liU S m).map λt=>S.u t m:=zQ λt _=>by rw [(q3J hmk).2.2.1,(h1 t m hmk).1]
 unfold lnU;rw [e,e2,e3]
def lnU_k (hk:S.rows.length=k) (hr:q.rows=S.rows):lnU (loE (pvS q k V p) k Z d n) k=pLn (uR S q k k ++ [p]) (uV q k k ++ [V p]):=by
 have u1:∀ t,t≠k->(loE (pvS q k V p) k Z d n).iU t k=q.iU t k:=λt ht=>if_neg λh=>ht h.1;have u2:∀ t,t≠k->(loE (pvS q k V p) k Z d n).u t k=q.u t k:=λt ht=>if_neg λh=>ht h.1;have u3:(loE (pvS q k V p) k Z d n).iU k k=true:=if_pos ⟨rfl,rfl⟩;have u4:(loE (pvS q k V p) k Z d n).u k k=V p:=if_pos ⟨rfl,rfl⟩;have hlt:∀ t ∈ uT q k k,t < k:=λt ht=>zM.1 (zZ.1 ht).1;have e:liU (loE (pvS q k V p) k Z d n) k=uT q k k ++ [k]:=by
  unfold liU uT;rw [z8,yA,tE,u3,if_pos rfl]
  congr 1
  exact yH λt ht=>u1 t (by have:=zM.1 ht; omega)
 have e2:(uT q k k).map (λt=>(loE (pvS q k V p) k Z d n).rows.getD t 0)=(uT q k k).map λt=>S.rows.getD t 0:=zQ λt ht=>by
  rw [q2y,hr,zB,zB,xB (by have:=hlt t ht; omega)]
 have e3:(uT q k k).map (λt=>(loE (pvS q k V p) k Z d n).u t k)=(uT q k k).map λt=>q.u t k:=zQ λt ht=>u2 t (by have:=hlt t ht; omega);have e4:(loE (pvS q k V p) k Z d n).rows.getD k 0=p:=by
  rw [q2y,hr,zB,<- hk,List.getElem?_concat_length]; rfl
 unfold lnU;rw [e,zJ,zJ,e2,e3];simp only [zG,zW,e4,u4]
 rfl
def clS_I (hI:LuI k S) (h1:q.l=S.l) (h2:q.iL=S.iL) (hr:q.rows=S.rows) (hp:p ∉ q.rows) (hd:d≠0):LuI (k+1) (loE (pvS q k V p) k Z d n):=by
 refine ⟨λi m hz=>?_,λi m hm=>?_,?_⟩
 .by_cases hmk:m=k
  .subst hmk;unfold loE pvS at hz ⊢;dsimp only at hz ⊢
   by_cases h:m=m/\i < n/\i ∉ q.rows ++ [p]
   .rw [if_pos h] at hz ⊢;have:Z i=0:=by simpa using hz
    rw [this,qdK hd]; exact qgR
   .rw [if_neg h] at hz ⊢;rw [h1];rw [h2] at hz;exact hI.z i m hz
  .rw [(q3J hmk).2.1,h2] at hz;rw [(q3J hmk).1,h1];exact hI.z i m hz
 .rw [(q3J ω).2.1,h2];exact hI.f i m Oq
 .rw [q2y];rw [hr] at hp ⊢;exact List.nodup_append.2 ⟨hI.r,σ,λa ha b hb=>by simp at hb; subst hb; exact λe=>hp (e ▸ ha)⟩
end
end
end Go.Proofs.YtbjoghfmhgadkaaGreatDoor
namespace Go.E
open Go Go.RowKit
def qtF {h:Hp} {d i:Nat}:hdl h d i=if i=d then none else h i:=rfl
attribute [go_sem] qtF
end Go.E
namespace Go.Proofs.YtbjoghfmhgadkaaGreatDoor
open Go Go.E Go.Sp
abbrev plB (rows:List Nat) (n:Nat):Bk:=⟨3,none,plL rows n,false⟩
abbrev qsI (S:LuS) (n k:Nat):Bk:=⟨216,none,(List.range k).map λm=>.fm (qah (dM S n m)),false⟩
abbrev qss (S:LuS) (n k:Nat):Bk:=⟨205,some 2,(List.range k).map (lnL S n),false⟩
abbrev qsr (S:LuS) (k:Nat):Bk:=⟨205,some 2,(List.range k).map (lnU S),false⟩
abbrev cnS (mi:List Int) (n:Nat):PV:=.sl none ((List.range n).map λi=>iv (q15 mi i))
abbrev wkL (n:Nat) (ms mi:List Int) (mv:List Nat) (S:LuS) (k a b c d:Nat):List (Nat × Bk):=[(5000,wkB n ms mi mv [cnS mi n,.ow 5001 none 0 n,.ow a none 0 k,.ow b none 0 k,.ow c (some 2) 0 k,.ow d (some 2) 0 k]),(5001,plB S.rows n),(a,inB S.rows),(b,qsI S n k),(c,qss S n k),(d,qsr S k)]
def qeo {rows:List Nat} {n:Nat}:ClL (plL rows n):=λx hx=>by
 obtain ⟨i,_,rfl⟩:=zN.1 hx; trivial
def qpV {S:LuS} {n k:Nat}:ClL ((List.range k).map λm=>.fm (qah (dM S n m))):=λx hx=>by
 obtain ⟨i,_,rfl⟩:=zN.1 hx; trivial
def q9Z {r v:List Nat}:Cld (pLn r v):=λy hy=>by
 simp at hy
 rcases hy with rfl | rfl <;> trivial
def qpX {S:LuS} {n k:Nat}:ClL ((List.range k).map (lnL S n)):=λx hx=>by
 obtain ⟨i,_,rfl⟩:=zN.1 hx; exact q9Z
def qpW {S:LuS} {k:Nat}:ClL ((List.range k).map (lnU S)):=λx hx=>by
 obtain ⟨i,_,rfl⟩:=zN.1 hx; exact q9Z
section
variable {n k:Nat} {ms mi:List Int} {mv:List Nat} {S:LuS}
def qpm {a b c d:Nat} (h:5001 < a/\a < b/\b < c/\c < d/\d < 5020):BOk (hpG (wkL n ms mi mv S k a b c d) h0) win:=qcH BOk.h0 λp hp=>by
 simp only [zE,zC,or_false] at hp
 rcases hp with rfl | rfl | rfl | rfl | rfl | rfl
 .refine ⟨⟨ω,ω⟩,rfl,IdL.of λx hx=>?_⟩;simp at hx;subst hx;unfold IdP;refine IdL.of λx hx=>?_;simp at hx
  rcases hx with rfl | rfl | rfl | rfl | rfl | rfl | rfl | rfl | rfl | rfl | rfl <;> unfold IdP <;> first | trivial | exact q1L (.inr σ)
 .exact ⟨⟨ω,ω⟩,rfl,IdL.of λx hx=>q09 (qeo x hx)⟩
 .exact ⟨⟨ω,ω⟩,rfl,IdL.of λx hx=>q09 (q8c x hx)⟩
 .exact ⟨⟨ω,ω⟩,rfl,IdL.of λx hx=>q09 (qpV x hx)⟩
 .exact ⟨⟨ω,ω⟩,rfl,IdL.of λx hx=>q09 (qpX x hx)⟩
 .exact ⟨⟨ω,ω⟩,rfl,IdL.of λx hx=>q09 (qpW x hx)⟩
def luW (n:Nat) (ms mi:List Int) (mv:List Nat) (S:LuS) (k:Nat):Hp:=hpG (wkL n ms mi mv S k 5002 5003 5004 5005) h0
def qdc:luW n ms mi mv S k 5000=some (wkB n ms mi mv [cnS mi n,.ow 5001 none 0 n,.ow 5002 none 0 k,.ow 5003 none 0 k,.ow 5004 (some 2) 0 k,.ow 5005 (some 2) 0 k]):=rfl
def qsm:luW n ms mi mv S k 5001=some (plB S.rows n):=rfl
def qsl:luW n ms mi mv S k 5002=some (inB S.rows):=rfl
def qsk:luW n ms mi mv S k 5003=some (qsI S n k):=rfl
def luW_4:luW n ms mi mv S k 5004=some (qss S n k):=rfl
def luW_5:luW n ms mi mv S k 5005=some (qsr S k):=rfl
def qaV {i:Nat} (h:luW n ms mi mv S k i≠none):5000<=i/\i<=5005:=by
 unfold luW at h
 rcases q6L h with h | h
 .exact absurd rfl h
 .simp at h; omega
def q5M {i:Nat} (h:i < 5000\/5005 < i):luW n ms mi mv S k i=none:=Classical.byContradiction λhq=>by have:=qaV hq; omega
attribute [go_sem ↓] qdc qsm qsl qsk luW_4 luW_5 q5M
def luK (n:Nat) (ms mi:List Int) (mv:List Nat) (S:LuS) (k:Nat) (rows:List Nat):Hp:=hpG [(5000,wkB n ms mi mv [cnS mi n,.ow 5001 none 0 n,.ow 5012 none 0 (k+1),.ow 5003 none 0 k,.ow 5004 (some 2) 0 k,.ow 5005 (some 2) 0 k]),(5001,plB rows n),(5012,inB rows),(5003,qsI S n k),(5004,qss S n k),(5005,qsr S k)] h0
section
variable {rows:List Nat}
def luK_0:luK n ms mi mv S k rows 5000=some (wkB n ms mi mv [cnS mi n,.ow 5001 none 0 n,.ow 5012 none 0 (k+1),.ow 5003 none 0 k,.ow 5004 (some 2) 0 k,.ow 5005 (some 2) 0 k]):=rfl
def luK_1:luK n ms mi mv S k rows 5001=some (plB rows n):=rfl
def luK_2:luK n ms mi mv S k rows 5012=some (inB rows):=rfl
def luK_3:luK n ms mi mv S k rows 5003=some (qsI S n k):=rfl
def luK_4:luK n ms mi mv S k rows 5004=some (qss S n k):=rfl
def luK_5:luK n ms mi mv S k rows 5005=some (qsr S k):=rfl
def qjs {i:Nat} (h:luK n ms mi mv S k rows i≠none):5000<=i/\i<=5012:=by
 unfold luK at h
 rcases q6L h with h | h
 .exact absurd rfl h
 .simp at h; omega
def qaY {i:Nat} (h:i < 5000\/5012 < i):luK n ms mi mv S k rows i=none:=Classical.byContradiction λhq=>by have:=qjs hq; omega
attribute [go_sem ↓] luK_0 luK_1 luK_2 luK_3 luK_4 luK_5 qaY
def qaX:BOk (luK n ms mi mv S k rows) win:=qcH BOk.h0 λp hp=>by
 simp only [zE,zC,or_false] at hp
 rcases hp with rfl | rfl | rfl | rfl | rfl | rfl
 .refine ⟨⟨ω,ω⟩,rfl,IdL.of λx hx=>?_⟩;simp at hx;subst hx;unfold IdP;refine IdL.of λx hx=>?_;simp at hx
  rcases hx with rfl | rfl | rfl | rfl | rfl | rfl | rfl | rfl | rfl | rfl | rfl <;> unfold IdP <;> first | trivial | exact q1L (.inr σ)
 .exact ⟨⟨ω,ω⟩,rfl,IdL.of λx hx=>q09 (qeo x hx)⟩
 .exact ⟨⟨ω,ω⟩,rfl,IdL.of λx hx=>q09 (q8c x hx)⟩
 .exact ⟨⟨ω,ω⟩,rfl,IdL.of λx hx=>q09 (qpV x hx)⟩
 .exact ⟨⟨ω,ω⟩,rfl,IdL.of λx hx=>q09 (qpX x hx)⟩
 .exact ⟨⟨ω,ω⟩,rfl,IdL.of λx hx=>q09 (qpW x hx)⟩
end
def luE:Hp:=hpG [(5000,⟨148,some 11,[.un],false⟩)] h0
noncomputable def luO (n:Nat) (ms mi:List Int) (mv:List Nat) (r:Int × LuS) (k:Nat):Hp:=if r.1=0 then hpG (wkL n ms mi mv r.2 k 5012 5013 5014 5015) h0 else luE
def q2m:BOk (luW n ms mi mv S k) win:=qpm Oq
def qg3 {i:Nat} {b:Bk} (h:luE i=some b):i=5000:=by
 unfold luE at h;simp only [q1O,q1c] at h
 split at h
 .assumption
 .cases h
def qso {r:Int × LuS} {k':Nat}:∀ i b,luW n ms mi mv S k i=some b->win i/\b.st=false/\IdL win b.xs/\(luO n ms mi mv r k' i=none\/∃ b',luO n ms mi mv r k' i=some b'/\b'.k=b.k/\b.xs.length<=b'.xs.length):=λi b hb=>by
 obtain ⟨q1,q2,q3,_⟩:=q2m.hi i b hb;refine ⟨q1,q2,q3,?_⟩;unfold luW at hb;unfold luO luE
 rcases q1s hb with q | ⟨_,q⟩
 .simp only [zE,zC,or_false,Prod.mk.injEq] at q
  rcases q with ⟨rfl,rfl⟩ | ⟨rfl,rfl⟩ | ⟨rfl,rfl⟩ | ⟨rfl,rfl⟩ | ⟨rfl,rfl⟩ | ⟨rfl,rfl⟩ <;> split
  .exact .inr ⟨_,rfl,rfl,zY _⟩
  .exact .inr ⟨_,rfl,rfl,zY _⟩
  .exact .inr ⟨_,rfl,rfl,by simp [plL]⟩
  all_goals exact .inl rfl
 .cases q
def qsn {r:Int × LuS} {k':Nat}:∀ i b,luO n ms mi mv r k' i=some b->win i:=λi b hb=>by
 unfold luO at hb
 split at hb
 .exact (qpm Oq).ho i b hb
 .rw [qg3 hb]; exact ⟨ω,ω⟩
def luO_J {r:Int × LuS} {k':Nat} {i:Nat} (h:luW n ms mi mv S k i≠none/\luO n ms mi mv r k' i≠none):i=5000\/i=5001:=by
 have h1:=qaV h.1;refine Classical.byContradiction λhc=>h.2 ?_;unfold luO luE
 split <;> rw [q8A (by simp; omega)] <;> rfl
def ld6_d {a0 a1 a2 a3 a4 a5:PV}:ldU (some 6) (some 4) 1 (.ag [a0,a1,a2,a3,a4,a5])=some (.ag [a1,a2,a3,a4]):=by simp [ldU]
attribute [go_sem] ld6_d
def qsJ {l:List (Int × PV)} {q:Nat->Prop} (hl:∀ p ∈ l,Cld p.2):IdL q (mpB l).xs:=IdL.of λx hx=>by
 simp at hx;subst hx;exact q3B (λ_ h=>h.elim) _ (q9G hl)
def qiE {X:List Nat} {f:Nat->Nat}:∀ p ∈ X.map λa:Nat=>((a:Int),vD (f a)),Cld p.2:=λp hp=>by
 obtain ⟨a,_,rfl⟩:=zN.1 hp
 trivial
def qkf {a c id m:Nat} {T:TypeId} {K:Kd} {l:List PV} {h h':Hp} (h1:h id=some ⟨T,K,l,false⟩) (hc:ClL l) (h2:h' id=none) (hne:c≠id) (hm:l.length=m):LeV (q0Z [(a,some c)]) h h' (.ow id K 0 m) (.sl K l):=q1A (T:=T) (l:=l) h1 hc (λi hi=>by
 unfold q0Z at hi
 split at hi
 .cases hi; exact absurd rfl hne
 .have hi:some i=some id:=hi;cases hi;exact h2) (by rw [yM]; exact zV ω)
def xR (L:List Nat) (p t:Nat):List Nat:=(L.take t).filter λi=>decide (i≠p)
def xR_p {L:List Nat} {p t:Nat} (h:L[t]?=some p):xR L p (t+1)=xR L p t:=by
 unfold xR;rw [q2f h,yA,tE,if_neg σ];simp
def xR_n {L:List Nat} {p t i:Nat} (h:L[t]?=some i) (hi:i≠p):xR L p (t+1)=xR L p t ++ [i]:=by
 unfold xR;rw [q2f h,yA,tE,if_pos (by simpa using hi)];simp
def qph {L:List Nat} {p t:Nat}:(xR L p t).length<=L.length:=yO (z9 _ _) (by rw [yV]; omega)
def qpg {L:List Nat} {p t i:Nat} (hd:L.Nodup) (h:L[t]?=some i):i ∉ xR L p t:=λhm=>by
 have h1:=(zZ.1 hm).1;obtain ⟨c,hc⟩:=yG.1 h1;have hct:c < t:=by
  have:=(zF.1 hc).1;simp at this; omega
 rw [yW,if_pos hct] at hc;obtain ⟨x1,x2⟩:=zF.1 hc;obtain ⟨y1,y2⟩:=zF.1 h;exact zS.1 hd c t x1 y1 hct (x2.trans y2.symm)
def qrr {rows:List Nat} {z:Nat->Int} {m:Nat}:(opR rows z m).Nodup:=List.nodup_range.filter _
def qgY {X:List Nat} {i:Nat} {f:Nat->PV} (h:i ∉ X):q0b (X.map λa:Nat=>((a:Int),f a)) (i:Int)=none:=by
 induction X with
 | nil=>rfl
 | cons a X ih =>
  rw [zG];unfold q0b;rw [if_neg (by simp at h; omega)];exact ih λhm=>h (y6 _ hm)
def qin {F:Nat->Nat->Option Nat} {j:Nat} (hl:q3D S.l) (hu:q3D S.u) (hz:∀ i m,S.iL i m=false->ofZ (S.l i m)=0) (hF:∀ i,i < n->q0O ((F j i).getD 0)):∀ (m:Nat) (q:LuS),upS F S j k m=some q->TmOk F S.l q.u j k m n (upG F S j k m)
 | 0,q,h=>by unfold upS at h; cases h; exact TmOk.zero hF
 | m+1,q,h=>by
  have h':=h;unfold upS at h;obtain ⟨t,ht,h⟩:=xF.1 h;have ih:=qin hl hu hz hF m t ht
  split at h
  .rename_i hf;cases h;rw [upG,ht];simp only
   split
   .rename_i h0;rw [h0,show fR 0 0=0 from if_pos rfl];exact ih.skip
   .exact ih.step (hz · m) hl hf
  .cases h
def qie {J:Nat->Prop} {h:Hp} {y:PV} {e:Int} (h5:h 5000=some ⟨148,some 11,[y],false⟩):Le J (λ_=>mkR [iv e]) h (λ_=>iv e) luE:=by
 unfold luE;refine qcF (B:=Go.E.h0) [] rfl (λ_ _=>rfl) BOk.h0 (λ_ _=>rfl) (λi hi _=>(hi rfl).elim) (by simp [q2e,q0Z,win]) ?_
 try simp -implicitDefEqProofs (disch:=omega) only [go_sem,Nat.reduceEqDiff,Nat.reduceAdd,↓reduceIte,h5]
def qhz {F : Nat -> Nat -> Option Nat} {j num den : Nat} (h : TOk F n n) (hn : n <= 100) (hl : q3D S.l) (hu : q3D S.u) (hI : LuI k S) (hr : ∀ x ∈ S.rows, x < n) (hk : S.rows.length = k) (hkn : k < n) (hj : j < n) (hnum : num <= 1000) (hden : den <= 1000) :
    ACxt 98 [.pt 5000 0 0, iv j, iv num, iv den] (luW n (tM F n n).1 (tM F n n).2.1 (tM F n n).2.2 S k) (iv (q14 F (tM F n n).2.1 n S j k num den).1) (luO n (tM F n n).1 (tM F n n).2.1 (tM F n n).2.2 (q14 F (tM F n n).2.1 n S j k num den) (k + 1)) := by
  have hml := q0y (f := F) (R := n) n
  have hnn : n * n <= 100 * 100 := z7 hn hn
  have CL := qsq (F := F) (n := n) (j := j) (H := luW n (tM F n n).1 (tM F n n).2.1 (tM F n n).2.2 S k) h hn hj q2m qdc rfl (q5M Oq)
  have CU := qlG (F := F) (S := S) (n := n) (j := j) (k := k) (H := luW n (tM F n n).1 (tM F n n).2.1 (tM F n n).2.2 S k) h hn hl hu hI.z hr hk hkn hj q2m (λi h1 h2 => q5M Oq) qdc qsl qsk
  have hF : ∀ i, i < n -> q0O ((F j i).getD 0) := λi hi => (h.fin hj hi).1
  obtain ⟨ms, hms⟩ : ∃ ms, ms = (tM F n n).1 := ⟨_, rfl⟩
  obtain ⟨mi, hmi⟩ : ∃ mi, mi = (tM F n n).2.1 := ⟨_, rfl⟩
  obtain ⟨mv, hmv⟩ : ∃ mv, mv = (tM F n n).2.2 := ⟨_, rfl⟩
  rw [<- hmi] at hml
  rw [<- hms, <- hmi, <- hmv] at CL CU ⊢
  have hmil : mi.length <= 1000000 := by omega
  clear hms hmi hmv hml
  obtain ⟨res, hres⟩ : ∃ q, q = q14 F mi n S j k num den := ⟨_, rfl⟩
  rw [<- hres]
  refine actx quZ Tryz.func98 rfl Tryz.ntmps98 κ ?_ ?_ ?_ ?_
  . exact qso
  . exact qsn
  . exact IdL.of λx hx => by
      simp at hx
      rcases hx with rfl | rfl | rfl | rfl <;> unfold IdP
      . exact ⟨ω, by omega⟩
      all_goals trivial
  have hJ : ∀ i, (luW n ms mi mv S k i ≠ none /\ luO n ms mi mv res (k + 1) i ≠ none) -> i = 5000 \/ i = 5001 := λi hi => luO_J hi
  generalize hHo : luO n ms mi mv res (k + 1) = Ho at *
  have hbw : ∀ i, luW n ms mi mv S k i ≠ none -> 5000 <= i /\ i <= 5005 := λi hi => qaV hi
  refine wk ?_
  refine qbK λK hK => ?_
  refine Zz ?_
  refine jm CL qf4 (λi hi _ => hi.1) ?_
  try refine Zz ?_
  refine hK _ _ ?_; clear hK K
  refine q1h (LeG [(5050, some 9)] (L := [(5050, cuB), (5051, mpB (cM sD (g0 F j) n))]) (B := luW n ms mi mv S k) (xs := [(0, .pt 5000 0 0), (1, iv j), (2, iv num), (3, iv den), (8, iv 0), (9, .pt 5050 0 0)]) (kv := []) (bs := []) (kb := []) rfl (λi hi => ?_) q2m (λi hi => ?_) (λi hi hm => ?_) (λp hp => ?_) (by simp [loN]) (by simp [q2e, q0Z, win]) ?_) ?_
  . have := hJ i hi
    simp [q0Z, show i ≠ 5050 by omega]
  . have := hbw i hi
    simp [q0Z, show i ≠ 5050 by omega]
  . have hq_ := hbw i hi
    try simp only [zG, zW, zE, zC, or_false, not_or] at hm
    repeat (first | rw [q0A ω] | rw [q0P ⟨ω, by omega⟩] | rw [q1O, if_neg ω] | rw [q1c])
  . simp only [zE, zC, or_false] at hp
    rcases hp with rfl | rfl <;> exact ⟨ω, by omega⟩
  . try refine Zz ?_
    rw [q0e]
    exact q1g q3Z
  have bne : ((233 : Int) != 0) = true := rfl
  have beq : ((0 : Int) != 0) = false := rfl
  unfold upX upX' upH qoy at CU
  cases hus : upS F S j k k with
  | none =>
    rw [hus] at CU
    simp only at CU
    generalize upM F S j k k = pm at CU
    have hE : Ho = luE := by rw [<- hHo, hres, qn3 hus]; rfl
    rw [hE, hres, qn3 hus]
    refine qbK λK hK => ?_
    refine Zz ?_
    refine jm CU q2A (λi hi _ => q1L (.inl hi.1)) ?_
    try refine Zz ?_
    refine hK _ _ ?_; clear hK K
    refine wk1 bne ?_
    refine (rtM (rs := [.tmp 8]) rfl rfl Lq ?_ (.inl rfl))
    exact qie rfl
  | some q =>
    rw [q4i hus, hus] at CU
    simp only at CU
    obtain ⟨ql, qiL, qr, qo⟩ := qfm k q hus
    have hT := qin hl hu hI.z hF k q hus
    have hqf := (qc1 k q hl hu hus).2.1
    obtain ⟨Z, hZ⟩ : ∃ Z, Z = rsZ F q j k := ⟨_, rfl⟩
    have hZe : ∀ i, Z i = luZ F S.l q.u i j k k := λi => by rw [hZ, <- ql]; rfl
    have CO := qrq (g := upG F S j k k) (Z := Z) (rows := S.rows) (n := n) (m := k) (H := hpG [(5061, inB (uR S q k k)), (5062, flB (uV q k k)), (5050, cuB), (5051, mpB (cM sD (upG F S j k k) n))] (luW n ms mi mv S k)) hn ω (λi hi => by rw [hZe]; exact hT.s i hi) hT.c hT.b (qcX q2m (q9G q3Z)) (qdc (n := n) (ms := ms) (mi := mi) (mv := mv) (S := S) (k := k)) (qsm (n := n) (ms := ms) (mi := mi) (mv := mv) (S := S) (k := k)) rfl rfl
    have hul : (uR S q k k).length <= 1000 := by rw [q9k]; have := qip (q := q) (k := k) (m := k); omega
    have hvl : (uV q k k).length = (uR S q k k).length := by rw [q9k, qio]
    refine qbK λK hK => ?_
    refine Zz ?_
    refine jm CU q2A (λi hi _ => q1L (.inl hi.1)) ?_
    try refine Zz ?_
    refine hK _ _ ?_; clear hK K
    refine wk1 beq ?_
    unfold opX at CO
    by_cases hfin : ∀ i, i < n -> i ∉ S.rows -> q0O (fR 0 (Z i))
    case neg =>
      rw [if_neg hfin] at CO
      have hce := quH (mi := mi) (num := num) (den := den) hus (n := n) (by rw [qr, <- hZ]; exact hfin)
      have hE : Ho = luE := by rw [<- hHo, hres, hce]; rfl
      rw [hE, hres, hce]
      refine qbK λK hK => ?_
      refine Zz ?_
      refine jm CO (by repeat (first | exact q2A | exact qf4 | refine qcB ω ?_)) (λi hi _ => q1L (.inl hi.1)) ?_
      try refine Zz ?_
      refine hK _ _ ?_; clear hK K
      refine wk1 bne ?_
      refine (rtM (rs := [.tmp 8]) rfl rfl Lq ?_ (.inl rfl))
      exact qie rfl
    rw [if_pos hfin] at CO
    have hfq : ∀ i, i < n -> i ∉ q.rows -> q0O (fR 0 (rsZ F q j k i)) := by rw [qr, <- hZ]; exact hfin
    have hLd : clL F q n j k = opR S.rows Z n := by unfold clL; rw [qr, hZ]
    obtain ⟨L, hL⟩ : ∃ L, L = opR S.rows Z n := ⟨_, rfl⟩
    obtain ⟨V, hV⟩ : ∃ V, V = rsV F q j k := ⟨_, rfl⟩
    have hmem : ∀ i ∈ L, i < n /\ fR 0 (Z i) = V i /\ q0O (V i) := λi hi => by
      rw [hL] at hi
      obtain ⟨m1, m2, m3⟩ := q4T.1 hi
      have e : V i = fR 0 (Z i) := by rw [hV, q5w, qr, if_neg m2, hZ]
      exact ⟨m1, e.symm, by rw [e]; exact hfin i m1 m2⟩
    have hLl : L.length <= n := by rw [hL]; exact qdV
    have CP := qmA (Z := Z) (v := V) (n := n) (num := num) (den := den) (mi := mi) (L := L) (H := hpG [(5061, inB (uR S q k k)), (5062, flB (uV q k k)), (5050, cuB), (5051, mpB (cM sD (upG F S j k k) n))] (luW n ms mi mv S k)) hn hnum hden Oq hmem hmil (qcX q2m (q9G q3Z)) (qdc (n := n) (ms := ms) (mi := mi) (mv := mv) (S := S) (k := k))
    have hcb : bsT V mi num den (mxT V L L.length) L L.length = clB F mi q n j k num den := by unfold clB; rw [hLd, <- hL, <- hV]
    rw [<- hL] at CO hLd
    rw [hcb] at CP
    have hrg := qkM (F := F) (mi := mi) (q := q) (n := n) (j := j) (k := k) (num := num) (den := den)
    rw [hLd] at hrg
    refine qbK λK hK => ?_
    refine Zz ?_
    refine jm CO (by repeat (first | exact q2A | exact qf4 | refine qcB ω ?_)) (λi hi _ => q1L (.inl hi.1)) ?_
    try refine Zz ?_
    refine hK _ _ ?_; clear hK K
    refine wk1 beq ?_
    refine qbK λK hK => ?_
    refine Zz ?_
    refine jm CP (by repeat (first | exact q2A | exact qf4 | refine qcB ω ?_)) (λi hi _ => q1L (.inl hi.1)) ?_
    try refine Zz ?_
    refine hK _ _ ?_; clear hK K
    by_cases hneg : clB F mi q n j k num den < 0
    . have hce := quG (mi := mi) (num := num) (den := den) hus hfq hneg
      have hE : Ho = luE := by rw [<- hHo, hres, hce]; rfl
      rw [hE, hres, hce]
      refine wk1 hneg ?_
      refine (rtM (rs := [.tmp 8]) rfl rfl Lq ?_ (.inl rfl))
      exact qie rfl
    . obtain ⟨b, hb⟩ : ∃ b : Nat, clB F mi q n j k num den = b := ⟨(clB F mi q n j k num den).toNat, by omega⟩
      obtain ⟨p, hp⟩ : ∃ p, L[b]? = some p := ⟨_, zA Oq⟩
      have he : (L.map (enP Z))[b]? = some (enP Z p) := by rw [zD, hp]; rfl
      have hpm := hmem p (zI hp)
      rw [hb]
      have hneg2 : ¬ (b : Int) < 0 := by omega
      obtain ⟨p1, p2, p3⟩ := hpm
      unfold enP at he
      rw [p2] at he
      have hpV : V p < 18446744073709551616 := by rw [<- p2]; exact q3q
      have hsp : ∀ i, 5060 <= i -> i < 5070 -> luW n ms mi mv S k i = none := λi h1 h2 => q5M Oq
      have CA := qob (rs := uR S q k k) (vs := uV q k k) (row := p) (v := V p) (B := luW n ms mi mv S k) q2m hsp hul hvl
      refine wk1 (x2 hneg2 he) ?_
      refine q1h (LeG [(5060, some 10)] (L := [(5060, lnB 5061 5062 (uR S q k k).length), (5061, inB (uR S q k k)), (5062, flB (uV q k k))]) (B := luW n ms mi mv S k) (xs := [(0, .pt 5000 0 0), (10, .pt 5060 0 0), (12, .sl (some 6) (L.map (enP Z))), (13, iv b), (14, .pt 14 0 0)]) (kv := []) (bs := [(14, ⟨214, some 6, [.ag [iv p, bv false, bv (decide (od (Z p) < 0)), .fm (fL (od (Z p))), iv (dyE (Z p)), uv (V p : Nat)]], false⟩)]) (kb := []) rfl (λi hi => ?_) q2m (λi hi => ?_) (λi hi hm => ?_) (λp hp => ?_) (by simp [loN, win]) (by simp [q2e, q0Z, win]) ?_) ?_
      . have := hJ i hi
        simp [q0Z, show i ≠ 5060 by omega]
      . have := hbw i hi
        simp [q0Z, show i ≠ 5060 by omega]
      . have hq_ := hbw i hi
        try simp only [zG, zW, zE, zC, or_false, not_or] at hm
        repeat (first | rw [q0A ω] | rw [q0P ⟨ω, by omega⟩] | rw [q1O, if_neg ω] | rw [q1c])
      . simp only [zE, zC, or_false] at hp
        rcases hp with rfl | rfl | rfl <;> exact ⟨ω, by omega⟩
      . try refine Zz ?_
        exact q0G rfl q8c
      refine qbK λK hK => ?_
      refine Zz ?_
      refine jx CA q2A (λi hi _ => q1L (.inl hi.1)) (Dd_2 (q7O hsp) ?_ ?_) ?_
      . repeat (refine q6Q ?_ (by first | (unfold IdP; first | trivial | omega) | simp [IdP, IdL]))
        exact qfM (by simp [IdL, IdP]) (by simp [IdL, IdP])
      . repeat (refine q6T ?_ rfl (by simp [IdL, IdP]))
        exact qcG (q9f (by simp [IdL, IdP]) (by simp [IdL, IdP]))
      try refine Zz ?_
      refine hK _ _ ?_; clear hK K
      refine q1h (LeG [(10, some 5060)] (L := []) (B := luW n ms mi mv S k) (xs := [(0, .pt 5000 0 0), (10, .pt 10 0 0), (12, .sl (some 6) (L.map (enP Z))), (13, iv b), (14, .pt 14 0 0)]) (kv := []) (bs := [(10, ⟨205, some 2, [pLn (uR S q k k ++ [p]) (uV q k k ++ [V p])], false⟩), (14, ⟨214, some 6, [.ag [iv p, bv false, bv (decide (od (Z p) < 0)), .fm (fL (od (Z p))), iv (dyE (Z p)), uv (V p : Nat)]], false⟩)]) (kb := []) rfl (λi hi => ?_) q2m (λi hi => ?_) (λi hi hm => ?_) (λp hp => by cases hp) (by simp [loN, win]) (by simp [q2e, q0Z, win, q5M]) ?_) ?_
      . have := hJ i hi
        simp [q0Z, show i ≠ 10 by omega]
      . have := hbw i hi
        simp [q0Z, show i ≠ 10 by omega]
      . have hq_ := hbw i hi
        try simp only [zG, zW, zE, zC, or_false, not_or] at hm
        repeat (first | rw [q0A ω] | rw [q0P ⟨ω, by omega⟩] | rw [q1O, if_neg ω] | rw [q1c])
      . try refine Zz ?_
        refine ⟨qkf (T := 3) ?_ q8c ?_ ω σ, qkf (T := 32) ?_ quW ?_ ω (by simp [hvl])⟩
        . rfl
        . exact q5M (n := n) (ms := ms) (mi := mi) (mv := mv) (S := S) (k := k) (i := 5063) Oq
        . rfl
        . exact q5M (n := n) (ms := ms) (mi := mi) (mv := mv) (S := S) (k := k) (i := 5064) Oq
      have hpl : (plL S.rows n).length = n := by unfold plL; simp
      refine wk1 hpl ?_
      obtain ⟨rows', hrows⟩ : ∃ rows', rows' = S.rows ++ [p] := ⟨_, rfl⟩
      have hLd2 : L.Nodup := by rw [hL]; exact qrr
      have hpr : p ∉ S.rows := by
        have := q4T.1 (by rw [<- hL]; exact zI hp)
        exact this.2.1
      have hcp := qas (mi := mi) (num := num) (den := den) (p := p) (F := F) (q := q) (n := n) (j := j) (k := k) (by rw [hb]; omega) (by rw [hLd, hb, zX]; exact hp)
      have hd : ofZ (V p) ≠ 0 := q9C p3 hpV (by rw [hV]; exact hcp.2.2.2.2.2)
      obtain ⟨d, hdd⟩ : ∃ d, d = ofZ (V p) := ⟨_, rfl⟩
      rw [<- hdd] at hd
      have hdy : q0d d := by rw [hdd]; exact q6C p3
      have COp : ACt 113 [uv (V p : Nat)] (dT d) := by rw [hdd]; exact q8H hpV (q1S p3)
      have NOp := q7k hdy
      have hspK : ∀ i, 5060 <= i -> i < 5070 -> luK n ms mi mv S k rows' i = none := λi h1 h2 => qaY Oq
      have hbK : ∀ i, luK n ms mi mv S k rows' i ≠ none -> 5000 <= i /\ i <= 5012 := λi hi => qjs hi
      have hJK : ∀ {A : List (Nat × Bk)} (i : Nat), (luW n ms mi mv S k i ≠ none /\ Ho i ≠ none) -> hpG A (luK n ms mi mv S k rows') i ≠ none := λi hi => q1L (.inl (by rcases hJ i hi with rfl | rfl <;> exact yB _))
      refine q0g (λt : Nat => t <= L.length /\ ∀ c i, c < t -> L[c]? = some i -> i ≠ p -> q0O (fQ 0 (Z i) d)) [0, 10, 12, 13, 14, 79, 80] [10, 14] Lk Lk (λt : Nat => [(81, iv t), (15, .pt 5060 0 0), (16, .mp 1078)]) (λt => [(1078, mpB ((xR L p t).map λa : Nat => ((a : Int), vD (fQ 0 (Z a) d))))]) (λt => hpG [(5060, lnB 5061 5062 (xR L p t).length), (5061, inB (xR L p t)), (5062, flB ((xR L p t).map λi => fQ 0 (Z i) d))] (luK n ms mi mv S k rows')) (λt => L.length - t) 0 ⟨zK _, λc i hc => by omega⟩ ?_ ?_
      . show Le _ _ _ _ (q0o (hpG [(5060, lnB 5061 5062 (xR L p 0).length), (5061, inB (xR L p 0)), (5062, flB ((xR L p 0).map λi => fQ 0 (Z i) d)), (5000, wkB n ms mi mv [cnS mi n, .ow 5001 none 0 n, .ow 5012 none 0 (k + 1), .ow 5003 none 0 k, .ow 5004 (some 2) 0 k, .ow 5005 (some 2) 0 k]), (5001, plB rows' n), (5012, inB rows'), (5003, qsI S n k), (5004, qss S n k), (5005, qsr S k)] Go.E.h0) _)
        refine LeG [(5060, some 15), (5061, none), (5062, none), (5012, some 75), (1078, some 78)] rfl (λi hi => ?_) BOk.h0 (λi hi => (hi rfl).elim) (λi hi hm => (hi rfl).elim) (λp hp => ?_) (by simp [loN, win]) (by simp [q2e, q0Z, win, Go.E.h0]) ?_
        . rcases hJ i hi with rfl | rfl <;> rfl
        . simp only [zE, zC, or_false] at hp
          rcases hp with rfl | rfl | rfl | rfl | rfl | rfl | rfl | rfl | rfl <;> exact ⟨ω, by omega⟩
        . try refine Zz ?_
          repeat' (with_reducible apply And.intro)
          all_goals first
            | rfl
            | exact hk
            | exact q0G (by rw [hrows, <- qly hpr p1, hk]) qeo
            | exact q0G (by rw [hrows, zJ]; rfl) q8c
            | exact q0G rfl qpV
            | exact q0G rfl qpX
            | exact q0G rfl qpW
            | (rw [q0e]; exact q1g λp hp => by cases hp)
      . rintro t ⟨ht, hff⟩
        have hxl := qph (L := L) (p := p) (t := t)
        by_cases hlt : t < L.length
        . have hlt' : (t : Int) < L.length := by omega
          obtain ⟨i, hi⟩ : ∃ i, L[t]? = some i := ⟨_, zA hlt⟩
          have het : (L.map (enP Z))[t]? = some (enP Z i) := by rw [zD, hi]; rfl
          obtain ⟨i1, i2, i3⟩ := hmem i (zI hi)
          unfold enP at het
          by_cases hip : i = p
          . have htb : t = b := by
              obtain ⟨x1, x2⟩ := zF.1 hi
              obtain ⟨y1, y2⟩ := zF.1 hp
              rcases Nat.lt_trichotomy t b with hc | hc | hc
              . exact absurd (x2.trans (hip.trans y2.symm)) (zS.1 hLd2 t b x1 y1 hc)
              . exact hc
              . exact absurd (y2.trans (hip.symm.trans x2.symm)) (zS.1 hLd2 b t y1 x1 hc)
            have qe : ((t : Int) == (b : Int)) = true := by simp [htb]
            have ex : xR L p (t + 1) = xR L p t := xR_p (by rw [hi, hip])
            refine wk1 (x3 hlt' het qe) ?_
            refine ⟨t + 1, ⟨ω, λc i' hc h1 h2 => ?_⟩, by omega, ?_⟩
            . by_cases e : c = t
              . subst e
                rw [hi] at h1; cases h1
                exact absurd hip h2
              . exact hff c i' Oq h1 h2
            . rw [ex]
              refine LeW [] rfl rfl ?_ ?_ (by simp [q1W, q0Z, win]) ?_
              . exact Ow
              . exact q04 (qbb qaX ⟨ω, by omega⟩ ⟨ω, by omega⟩ Oq)
              . try refine Zz ?_
                exact ⟨ω, by rw [q0e]; exact q1g qiE⟩
          . have htb : t ≠ b := λe => by subst e; rw [hi] at hp; cases hp; exact hip rfl
            have qe : ((t : Int) == (b : Int)) = false := by simp; omega
            have hdz : q0d (Z i) := by rw [hZe, <- hT.s i i1]; exact q9q (hT.b i i1) (by have := hT.c i i1; omega)
            have CQ := qnM hdz hdy hd
            have hql := qt5 (mode := 0) (a := Z i) (b := d) Oq
            have CF := q6y hql
            by_cases hf : q0O (fQ 0 (Z i) d)
            . rw [decide_eq_true hf] at CF
              refine wk1 (x3 hlt' het qe) ?_
              have CA2 := qob (rs := xR L p t) (vs := (xR L p t).map λi => fQ 0 (Z i) d) (row := i) (v := fQ 0 (Z i) d) (B := luK n ms mi mv S k rows') qaX hspK ω σ
              have COv := q8w (q8H hql (q1S hf)) (q6C hf)
              have NOv := qmO (V := ofZ (fQ 0 (Z i) d))
              refine qbK λK hK => ?_
              refine Zz ?_
              refine jx CA2 (by repeat (first | exact q2A | exact qf4 | refine qcB ω ?_)) (λi hi _ => hJK i hi) (Dd_2 (q7O hspK) ?_ ?_) ?_
              . repeat (refine q6Q ?_ (by first | (unfold IdP; first | trivial | omega) | simp [IdP, IdL]))
                first
                  | exact qfM (by simp [IdL, IdP]) (by simp [IdL, IdP])
                  | exact λt => by unfold Go.E.stV IdP; trivial
              . repeat (refine q6T ?_ rfl (by simp [IdL, IdP]))
                refine qcG (q9f (by simp [IdL, IdP]) λp hp => ?_)
                simp only [zE, zC, or_false] at hp
                subst hp
                exact ⟨rfl, qsJ qiE⟩
              try refine Zz ?_
              refine hK _ _ ?_; clear hK K
              have ex := xR_n (L := L) (p := p) hi hip
              have hnx := qpg (p := p) hLd2 hi
              have eF : (xR L p t ++ [i]).map (λi => fQ 0 (Z i) d) = (xR L p t).map (λi => fQ 0 (Z i) d) ++ [fQ 0 (Z i) d] := by simp
              have eM : (xR L p t ++ [i]).map (λa : Nat => ((a : Int), vD (fQ 0 (Z a) d))) = q1E ((xR L p t).map λa : Nat => ((a : Int), vD (fQ 0 (Z a) d))) (i : Int) (vD (fQ 0 (Z i) d)) := by rw [q2N (qgY hnx), zJ]; rfl
              have eMc : ∀ (e : Int × PV), e ∈ q1E ((xR L p t).map λa : Nat => ((a : Int), vD (fQ 0 (Z a) d))) (i : Int) (vD (fQ 0 (Z i) d)) -> Cld e.2 := by rw [<- eM]; exact qiE
              refine wk ?_
              refine ⟨t + 1, ⟨ω, λc i' hc h1 h2 => ?_⟩, by omega, ?_⟩
              . by_cases e : c = t
                . subst e
                  rw [hi] at h1; cases h1
                  exact hf
                . exact hff c i' Oq h1 h2
              . rw [ex, eF, eM]
                refine LeG [(5061, some 5063), (5062, some 5064)] rfl (λi hi => ?_) qaX (λi hi => ?_) (λi hi hm => ?_) (λp hp => ?_) (by simp [loN, win]) (by simp [q2e, q0Z, win, qaY]) ?_
                . rcases hJ i hi with rfl | rfl <;> rfl
                . have := hbK i hi
                  simp [q0Z, show i ≠ 5061 by omega, show i ≠ 5062 by omega]
                . have hbw := hbK
                  have hq_ := hbw i hi
                  try simp only [zG, zW, zE, zC, or_false, not_or] at hm
                  repeat (first | rw [q0A ω] | rw [q0P ⟨ω, by omega⟩] | rw [q1O, if_neg ω] | rw [q1c])
                . simp only [zE, zC, or_false] at hp
                  rcases hp with rfl | rfl | rfl <;> exact ⟨ω, by omega⟩
                . try refine Zz ?_
                  repeat' (with_reducible apply And.intro)
                  all_goals first
                    | omega
                    | exact q0G rfl q8c
                    | exact q0G rfl (by rw [<- eF]; exact quW)
                    | (rw [q0e]; exact q1g eMc)
            . rw [decide_eq_false hf] at CF
              have hce := quF (mi := mi) (num := num) (den := den) (p := p) hus hfq (by rw [hb]; omega) (by rw [hLd, hb, zX]; exact hp) (i := i) (by rw [hLd]; exact zI hi) hip (by
                rw [<- hV, <- hdd, <- hZ]
                unfold q4H
                rw [if_neg hd]
                exact hf)
              have hE : Ho = luE := by rw [<- hHo, hres, hce]; rfl
              rw [hE, hres, hce]
              refine wk1 (x3 hlt' het qe) ?_
              refine (rtM (rs := [.tmp 8]) rfl rfl Lq ?_ (.inl rfl))
              exact qie rfl
        . obtain rfl : t = L.length := by omega
          have hlt' : ¬ (L.length : Int) < L.length := by omega
          refine q1h (qvu (t := 16) (d := 1078) (T := 0) (l := (xR L p L.length).map λa : Nat => ((a : Int), vD (fQ 0 (Z a) d))) rfl rfl qiE (λt' ht' => ?_) (λi c hne hc => ?_)) ?_
          . repeat' (first | split | unfold Go.E.stM | unfold Go.E.stV)
            all_goals first
              | exact absurd (by assumption) ht'
              | (unfold IdP; first | trivial | omega)
              | (simp [IdP, IdL]; done)
              | trace_state
          . by_cases hw : win i
            . rw [q0P hw] at hc
              refine IdL_mono (λj hj => ?_) _ ((qbb qaX (a := 5061) (b := 5062) ⟨ω, by omega⟩ ⟨ω, by omega⟩ Oq).b i c hc).2.2
              rintro rfl
              exact hj (qaY (n := n) (ms := ms) (mi := mi) (mv := mv) (S := S) (k := k) (rows := rows') (i := 1078) Oq)
            . rw [q1G hw] at hc
              repeat' (first | (unfold Go.E.hpM at hc; split at hc) | (unfold Go.E.hpV at hc; split at hc) | unfold Go.E.hpM at hc | unfold Go.E.hpV at hc)
              all_goals first
                | (cases hc; done)
                | exact absurd (by assumption) hne
                | (cases hc; simp [IdL, IdP]; done)
                | (simp only at hc; cases hc; simp [IdL, IdP]; done)
                | trace_state
          refine wk1 hlt' ?_
          refine (rtM (rs := [.tmp 8]) rfl rfl Lq ?_ (.inl rfl))
          have hz0 := hcp.2.2.2.2.2
          have eqf : ∀ z, q4H 0 z d = fQ 0 z d := λz => if_neg hd
          have hce := qn2 (mi := mi) (num := num) (den := den) (p := p) hus hfq (by rw [hb]; omega) (by rw [hLd, hb, zX]; exact hp) (λi hi hip => by
            rw [<- hV, <- hdd, <- hZ, eqf]
            rw [hLd] at hi
            obtain ⟨c, hc⟩ := yG.1 hi
            exact hff c i (zF.1 hc).1 hc hip)
          obtain ⟨r, hr'⟩ : ∃ r, r = loE (pvS q k V p) k Z d n := ⟨_, rfl⟩
          have hcs : clS F q n j k p = r := by unfold clS; rw [hr', <- hV, <- hZ, <- hdd]
          rw [hcs] at hce
          have hrr : r.rows = rows' := by rw [hr', q2y, qr, hrows]
          have hX : xR L p L.length = opR (q.rows ++ [p]) Z n := by
            unfold xR
            rw [yZ, hL, qr]
            have := opR_p (q := q) (Z := Z) (n := n) (p := p) (by rw [qr]; exact hpr)
            rw [qr] at this
            exact this
          have hfk : ∀ i m, k <= m -> q.iL i m = false := λi m hm => by rw [qiL]; exact hI.f i m hm
          have e13 : (List.range k).map (λm => PV.fm (qah (dM S n m))) ++ [.fm (qah ((xR L p L.length).map λa : Nat => ((a : Int), vD (fQ 0 (Z a) d))))] = (List.range (k + 1)).map λm => PV.fm (qah (dM r n m)) := by
            rw [z8, zJ, y9, hr', dM_k hfk, hX]
            simp only [eqf]
            congr 1
            exact zQ λm hm => by rw [dM_lo (by have := zM.1 hm; omega) ql qiL]
          have e14 : (List.range (k + 1)).map (lnL r n) = (List.range k).map (lnL S n) ++ [pLn (xR L p L.length) ((xR L p L.length).map λi => fQ 0 (Z i) d)] := by
            rw [z8, zJ, y9, hr', lnL_k hfk, hX]
            simp only [eqf]
            congr 1
            exact zQ λm hm => qsu (by have := zM.1 hm; omega) ql qiL
          have e15 : (List.range k).map (lnU S) ++ [pLn (uR S q k k ++ [p]) (uV q k k ++ [V p])] = (List.range (k + 1)).map (lnU r) := by
            rw [z8, zJ, y9, hr', lnU_k hk qr]
            congr 1
            exact zQ λm hm => (qst (by have := zM.1 hm; omega) hk qr qo).symm
          have hE : Ho = hpG (wkL n ms mi mv r (k + 1) 5012 5013 5014 5015) Go.E.h0 := by rw [<- hHo, hres, hce]; rfl
          have ht0 : ∀ c, (c = 5061 \/ c = 5062) -> ∀ i, q0Z [(5013, some 131), (5014, some 117), (5015, some 124)] i = some c -> hpG (wkL n ms mi mv r (k + 1) 5012 5013 5014 5015) Go.E.h0 i = none := λc hc i hi => by
            have e : i = c := by
              simp only [q0Z] at hi
              repeat' split at hi
              all_goals first | (cases hi; rfl) | (cases hi; omega)
            subst e
            rcases hc with rfl | rfl <;> rfl
          rw [hE, hres, hce]
          refine qcF [(5013, some 131), (5014, some 117), (5015, some 124)] (B := Go.E.h0) rfl (λi hi => ?_) BOk.h0 (λi hi => (hi rfl).elim) (λi hi _ => (hi rfl).elim) (by simp [q2e, q0Z, win, Go.E.h0]) ?_
          . have hi' : i = 5000 \/ i = 5001 := hJ i (by rw [hE]; exact hi)
            rcases hi' with rfl | rfl <;> rfl
          . try refine Zz ?_
            rw [hrr]
            have hsr : List.range k ++ [k] = List.range (k + 1) := z8.symm
            repeat' (with_reducible apply And.intro)
            all_goals first
              | rfl
              | (rw [hsr]; exact q0G e13 qpV)
              | (rw [hsr]; exact q0G e15 qpW)
              | exact q0G rfl qeo
              | exact q0G rfl q8c
              | (rw [hsr, e14]
                 refine qfP (q0G rfl qpX) ?_
                 rw [q7S]
                 rw [qbI, q2R, q2R]
                 exact ⟨q1A (T := 3) rfl q8c (ht0 5061 (.inl rfl)) (by rw [yM]; exact zV σ), q1A (T := 32) rfl quW (ht0 5062 (.inr rfl)) (by rw [yM]; exact zV σ), trivial⟩)
              | trace_state
end
def qg7 {x:Nat} {w:World} (hx:x < 256) :
  Calls Tryz.prog 269 #[.int .u64 x] w λe w'=>e=.returned (.int .i64 (bl x:Nat))/\w=w':=by
 refine q3Y Tryz.func269 rfl Tryz.ntmps269 κ ?_;refine Wz ?_;refine q4X λK1 hK1=>?_;have st1:∀ (e1:Env),e1 0=.int .u64 x->e1 2=.int .i64 0->K1 e1 w:=by
  intro e1 h0 h2;refine hK1 _ _ ?_; clear hK1;refine q4X λK1 hK1=>?_;have st2:∀ (e1:Env),e1 0=.int .u64 x->e1 2=.int .i64 0->K1 e1 w:=by
   intro e1 h0 h2;refine hK1 _ _ ?_; clear hK1;refine q4X λK1 hK1=>?_;have st3:∀ (e1:Env),e1 0=.int .u64 x->e1 2=.int .i64 0->K1 e1 w:=by
    intro e1 h0 h2;refine hK1 _ _ ?_; clear hK1;have hw:IntKind.u8.wrap (x:Int)=(x:Int):=u8_in Oq Oq;refine q0u λK hK=>?_
    set_option maxRecDepth 4000 in
    refine Zz3 h0 h2 hw ?_;refine q5h (s:=qm2) κ κ rfl (by rw [q5P]; exact hx) ?_;rw [qa4];have hby:bl x<=8:=q0N Oq;have hs:IntKind.i64.wrap ((0:Int)+(bl x:Int))=(bl x:Int):=by rw [i64_in ω ω]; omega
    simp -implicitDefEqProofs (disch:=omega) only [go_sem,Nat.reduceEqDiff,Nat.reduceAdd,↓reduceIte,i64N,hs];refine hK _ _ ?_; clear hK;refine qcC ?_
    try simp only [q66,qge]
    refine qr3 rfl ⟨rfl,rfl⟩
   have hb':¬ ((x:Int) ≥ 256):=ω
   refine Wz2 h0 hb' ?_;refine Wf (q49 ?_);exact st3 _ Ue Ue
  have hb':¬ ((x:Int) ≥ 65536):=ω
  refine Wz2 h0 hb' ?_;refine Wf (q49 ?_);exact st2 _ Ue Ue
 have hb':¬ ((x:Int) ≥ 4294967296):=ω
 refine Wz1 hb' ?_;refine Wf (q49 ?_);exact st1 _ Ue Ue
def qg8 {x:Nat} (hx:x < 256):ACt 269 [uv x] (iv (bl x:Nat)):=ac_x κ λD w vs hT hF hR=>by
 obtain ⟨_,rfl,h⟩:=qlq hR;rw [q8u h];exact qg7 hx
def qsz {x:Nat} (hx:x < 256):ACt 228 [uv x] (iv (bl x:Nat)):=by
 have C1:=qg8 hx;generalize bl x=b at *;refine ac0 Tryz.func228 Tryz.ntmps228 [.tmp 2] ?_;exact wk trivial
def qjg {a:Int}:ACt 229 [iv a] (bv false):=by
 have q:(a != a)=false:=σ
 refine ac0 Tryz.func229 Tryz.ntmps229 [.tmp 2] ?_;exact wk1 q trivial
def qf1 (a b:Int):Int:=if a < b then -1 else if b < a then 1 else 0
def qn8 {a b:Int}:ACt 181 [iv a,iv b] (iv (qf1 a b)):=by
 have C1:=qjg (a:=a);have C2:=qjg (a:=b);unfold qf1
 by_cases h1:a < b
 .rw [if_pos h1];refine ac0 Tryz.func181 Tryz.ntmps181 [.tmp 4] ?_;exact wk1 h1 trivial
 .rw [if_neg h1]
  by_cases h2:b < a
  .have h3:a > b:=h2;rw [if_pos h2];refine ac0 Tryz.func181 Tryz.ntmps181 [.tmp 4] ?_;exact wk1 (x2 h1 h3) trivial
  .have h3:¬ a > b:=h2;rw [if_neg h2];refine ac0 Tryz.func181 Tryz.ntmps181 [.tmp 4] ?_;exact wk1 (x2 h1 h3) trivial
def qn9 {a0 a1 a2 a3 a4 a5 a7 a8 a9 a10:PV} {pl:List PV} {rs vs:List Nat} {i j r1 r2:Nat} {k1 k2:Int} (hi:rs[i]?=some r1) (hj:rs[j]?=some r2) (h1:pl[r1]?=some (iv k1)) (h2:pl[r2]?=some (iv k2)) :
  ACt 180 [iv i,iv j,.qt none (.qt (some 11) (.ag [a0,a1,a2,a3,a4,a5,.sl none pl,a7,a8,a9,a10])),.qt (some 2) (pLn rs vs)] (iv (qf1 k1 k2)):=by
 have C1:=qn8 (a:=k1) (b:=k2);generalize qf1 k1 k2=c at *;refine ac0 Tryz.func180 Tryz.ntmps180 [.tmp 6] ?_;exact wk1 (x4 hi hj h1 h2) trivial
def qaO {α:Type} {key:α->Nat}:∀ {a b:List α},a.Perm b->a.Pairwise (λx y=>key x < key y)->b.Pairwise (λx y=>key x < key y)->a=b
 | [],b,hp,_,_=>(List.Perm.nil_eq hp)
 | x :: a,[],hp,_,_=>by have:=hp.length_eq; simp at this
 | x :: a,y :: b,hp,ha,hb=>by
  have ha':=xO.1 ha;have hb':=xO.1 hb;have h1:x ∈ y :: b:=hp.mem_iff.1 yC;have h2:y ∈ x :: a:=hp.mem_iff.2 yC;have e:x=y:=by
   rcases zE.1 h1 with e | h1
   .exact e
   .rcases zE.1 h2 with e | h2
    .exact e.symm
    .have q1:=hb'.1 x h1;have q2:=ha'.1 y h2;omega
  subst e;rw [qaO (List.Perm.cons_inv hp) ha'.2 hb'.2]
def q8z:∀ (n:Nat) (l:List Nat),l.Nodup->(∀ x ∈ l,x < n)->l.length<=n
 | 0,l,_,h=>by
  cases l with
  | nil=>simp
  | cons x l=>have:=h x yC; omega
 | n+1,l,hd,h=>by
  by_cases hm:n ∈ l
  .have h1:=q8z n (l.erase n) (hd.erase n) λx hx=>by
    have h2:=(List.Nodup.mem_erase_iff hd).1 hx;have:=h x h2.2;omega
   rw [xD hm] at h1;omega
  .have h1:=q8z n l hd λx hx=>by
    have:=h x hx;have:x≠n:=λe=>hm (e ▸ hx);omega
   omega
def pigN:∀ (n:Nat) (l:List Nat),l.Nodup->(∀ x ∈ l,x < n)->l.length=n->∀ i,i < n->i ∈ l
 | 0,_,_,_,_,i,hi=>by omega
 | n+1,l,hd,h,hl,i,hi=>by
  by_cases hm:n ∈ l
  .by_cases e:i=n
   .subst e; exact hm
   .refine List.mem_of_mem_erase (pigN n (l.erase n) (hd.erase n) (λx hx=>?_) ?_ i Oq)
    .have h2:=(List.Nodup.mem_erase_iff hd).1 hx;have:=h x h2.2;omega
    .rw [xD hm]; omega
  .have h1:=q8z n l hd λx hx=>by
    have:=h x hx;have:x≠n:=λe=>hm (e ▸ hx);omega
   omega
def q76 {f:Nat->Nat->Option Nat} {j:Nat} {p:Nat->Bool} {w:Nat->Nat}:∀ n,(∀ k,k < n->f j k=if p k then some (w k) else none)->tZ f j n=((List.range n).filter p).map λk=>(k,w k)
 | 0,_=>rfl
 | n+1,h=>by
  rw [qlP,q76 n λk hk=>h k ω,z8,yA,zJ,h n ω]
  congr 1
  cases hp:p n <;> simp [hp]
def qc8 {f:Nat->Nat->Option Nat} {j a:Nat} (h:∀ k,a<=k->f j k=none):∀ n,a<=n->tZ f j n=tZ f j a
 | 0,hn=>by
  obtain rfl:a=0:=ω
  rfl
 | n+1,hn=>by
  by_cases e:a=n+1
  .subst e; rfl
  .rw [qlP,qc8 h n ω,h n ω]; simp
def tZ_nd {f:Nat->Nat->Option Nat} {j n:Nat}:(tZ f j n).Nodup:=(q77 n).imp λ{a b} h e=>by subst e; omega
section
variable {S:LuS} {n j:Nat}
def tZ_U (hj:j < n):(liU S j).map (λt=>(t,S.u t j))=tZ (fUt S) j n:=by
 rw [qc8 (a:=j+1) (λk hk=>if_neg λh=>by omega) n ω,q76 (p:=λt=>S.iU t j) (w:=λt=>S.u t j) (j+1) λk hk=>?_]
 .rfl
 .unfold fUt
  by_cases h:S.iU k j=true
  .rw [if_pos ⟨ω,h⟩,if_pos h]
  .rw [if_neg λq=>h q.2,if_neg h]
structure RwOk (n:Nat) (S:LuS):Prop where
 d:S.rows.Nodup
 b:∀ x ∈ S.rows,x < n
 l:S.rows.length=n
 p:∀ i m,S.iL i m=true->m < S.rows.idxOf i
def RwOk.mem (h:RwOk n S) {i:Nat} (hi:i < n):i ∈ S.rows:=pigN n S.rows h.d h.b h.l i hi
def RwOk.get (h:RwOk n S) {i:Nat} (hi:i < n):S.rows.getD (S.rows.idxOf i) 0=i:=by
 have:=h.mem hi;rw [zB,zA (xE.2 this),zO,List.getElem_idxOf]
def RwOk.idx (h:RwOk n S) {t:Nat} (ht:t < n):S.rows.idxOf (S.rows.getD t 0)=t:=by
 rw [zB,zA (by rw [h.l]; exact ht),zO];exact h.d.idxOf_getElem t _
def tZ_L (h:RwOk n S):((liL S n j).map λr=>(S.rows.idxOf r,S.l r j)).Perm (tZ (fLt S) j n):=by
 have h1:((liL S n j).map λr=>(S.rows.idxOf r,S.l r j)).Nodup:=by
  refine List.Pairwise.map _ (R:=λa b=>a≠b/\a < n/\b < n) (λa b q e=>?_) ?_
  .obtain ⟨q1,q2,q3⟩:=q;have:=congrArg Prod.fst e;simp only at this;have g1:=h.get q2;have g2:=h.get q3;rw [this] at g1;omega
  .have:(liL S n j).Pairwise λa b=>a≠b:=List.nodup_range.filter _;refine this.imp_of_mem λ{a b} ha hb hq=>⟨hq,?_,?_⟩
   .exact zM.1 (zZ.1 ha).1
   .exact zM.1 (zZ.1 hb).1
 refine (List.perm_ext_iff_of_nodup h1 tZ_nd).2 λ⟨i,x⟩=>?_;rw [q42,zN];unfold fLt
 constructor
 .rintro ⟨r,hr,e⟩;cases e;obtain ⟨hr1,hr2⟩:=zZ.1 hr;have hr1:=zM.1 hr1;have:=xE.2 (h.mem hr1);rw [h.l] at this;exact ⟨this,by rw [h.get hr1,if_pos ⟨h.p r j hr2,hr2⟩]⟩
 .rintro ⟨hi,e⟩
  split at e
  .rename_i hq;cases e;have hr:S.rows.getD i 0 < n:=by
    rw [zB,zA (by rw [h.l]; exact hi),zO];exact h.b _ (yU _)
   exact ⟨S.rows.getD i 0,zZ.2 ⟨zM.2 hr,hq.2⟩,by rw [h.idx hi]⟩
  .cases e
end
abbrev inX (l:List Nat):List PV:=l.map λz:Nat=>iv z
section
variable {key:Nat->Nat} {ls:List Nat}
def kAt (key:Nat->Nat) (l:List Nat) (a:Nat):Nat:=key (l.getD a 0)
def qcg (l:List Nat) (j:Nat):List Nat:=(l.set j (l.getD (j-1) 0)).set (j-1) (l.getD j 0)
def qlT {l:List Nat} {j a:Nat} (hj:0 < j) (hl:j < l.length):(qcg l j).getD a 0=if a=j then l.getD (j-1) 0 else if a=j-1 then l.getD j 0 else l.getD a 0:=by
 unfold qcg;simp only [zB,yI,List.length_set]
 by_cases h1:a=j
 .subst h1;rw [if_neg ω,if_pos rfl,if_pos hl,if_pos rfl]; rfl
 .rw [if_neg h1]
  by_cases h2:a=j-1
  .subst h2;rw [if_pos rfl,if_pos ω,if_pos rfl]; rfl
  .rw [if_neg ω,if_neg ω,if_neg h2]
def qcf {l:List Nat} {j:Nat} (hj:0 < j) (hl:j < l.length):(qcg l j).Perm l:=by
 obtain ⟨c,rfl⟩:∃ c,j=c+1:=⟨j-1,ω⟩;have e1:l=l.take c ++ l[c] :: l[c+1] :: l.drop (c+2):=by
  rw [xJ,xJ,List.take_append_drop]
 have hc:(l.take c).length=c:=by rw [yV]; omega
 have q:∀ a,(qcg l (c+1))[a]?=if a=c+1 then l[c]? else if a=c then l[c+1]? else l[a]?:=λa=>by
  unfold qcg;rw [Nat.add_sub_cancel,yI,yI,List.length_set,zB,zB]
  by_cases a1:a=c+1
  .subst a1;rw [if_neg ω,if_pos rfl,if_pos hl,if_pos rfl,zA (show c < l.length by omega)]; rfl
  .by_cases a2:a=c
   .subst a2;rw [if_pos rfl,if_pos ω,if_neg a1,if_pos rfl,zA hl]; rfl
   .rw [if_neg ω,if_neg ω,if_neg a1,if_neg a2]
 have e2:qcg l (c+1)=l.take c ++ l[c+1] :: l[c] :: l.drop (c+2):=by
  apply z6
  intro a;rw [q,List.getElem?_append,hc]
  by_cases a3:a < c
  .rw [if_pos a3,if_neg ω,if_neg ω,yW,if_pos a3]
  .rw [if_neg a3]
   by_cases a2:a=c
   .subst a2;rw [if_neg ω,if_pos rfl,Nat.sub_self,xG,zA hl]
   .by_cases a1:a=c+1
    .subst a1;rw [if_pos rfl,show c+1-c=0+1 by omega,yX,xG,zA (show c < l.length by omega)]
    .rw [if_neg a1,if_neg a2,show a-c=(a-c-2)+1+1 by omega,yX,yX,xN]
     congr 1
     omega
 rw [e2]
 conv=>rhs; rw [e1]
 exact List.Perm.append_left _ (List.Perm.swap _ _ _)
def qwp (key:Nat->Nat) (l:List Nat) (i:Nat):Prop:=∀ a b,a < b->b < i->kAt key l a < kAt key l b
structure InsK (key:Nat->Nat) (l:List Nat) (i j:Nat):Prop where
 o:∀ a b,a < b->b<=i->a≠j->b≠j->kAt key l a < kAt key l b
 h:∀ b,j < b->b<=i->kAt key l j < kAt key l b
def InsK.init {l:List Nat} {i:Nat} (h:qwp key l i):InsK key l i i:=⟨λa b h1 h2 _ h4=>h a b h1 Oq,λb h1 h2=>by omega⟩
def InsK.done {l:List Nat} {i j:Nat} (h:InsK key l i j) (hj:j<=i) (h0:j=0\/kAt key l (j-1) < kAt key l j):qwp key l (i+1):=λa b h1 h2=>by
 by_cases e1:a=j
 .subst e1; exact h.h b h1 Oq
 .by_cases e2:b=j
  .subst e2
   rcases h0 with h0 | h0
   .omega
   .by_cases e3:a=b-1
    .subst e3; exact h0
    .exact Nat.lt_trans (h.o a (b-1) Oq Oq e1 Oq) h0
  .exact h.o a b h1 Oq e1 e2
def InsK.step {l:List Nat} {i j:Nat} (h:InsK key l i j) (hj:j<=i) (hl:i < l.length) (h0:0 < j) (hlt:kAt key l j < kAt key l (j-1)):InsK key (qcg l j) i (j-1):=by
 have e:∀ a,kAt key (qcg l j) a=if a=j then kAt key l (j-1) else if a=j-1 then kAt key l j else kAt key l a:=λa=>by
  unfold kAt;rw [qlT h0 ω]
  split
  .rfl
  .split <;> rfl
 refine ⟨λa b h1 h2 h3 h4=>?_,λb h1 h2=>?_⟩
 .rw [e,e,if_neg h4,if_neg h3]
  by_cases e1:a=j
  .subst e1;rw [if_pos rfl,if_neg ω];exact h.o (a-1) b Oq h2 Oq Oq
  .rw [if_neg e1]
   by_cases e2:b=j
   .subst e2;rw [if_pos rfl];exact h.o a (b-1) Oq Oq e1 Oq
   .rw [if_neg e2];exact h.o a b h1 h2 e1 e2
 .rw [e,e,if_neg ω,if_pos rfl,if_neg (show b≠j-1 by omega)]
  by_cases e2:b=j
  .rw [if_pos e2]; exact hlt
  .rw [if_neg e2]; exact h.h b ω h2
def quq {l:List Nat} (hp:l.Perm ls) (hs:ls.Pairwise λa b=>key a < key b) (h:qwp key l l.length):l=ls:=by
 refine qaO (key:=key) hp (zS.2 λa b ha hb hab=>?_) hs;have:=h a b hab hb;unfold kAt at this
 rwa [zB,zA ha,zB,zA hb] at this
structure CmpF (key:Nat->Nat) (m:Nat) (fv:PV) (f:FuncId) (ys:List PV):Prop where
 v:FnP fv f ys
 c:Cld fv
 cl:∀ (h:Hp) (a b:Nat),q2x h ([iv a,iv b] ++ ys)=some ([iv a,iv b] ++ ys,[])
 ac:∀ a b,a < m->b < m->ACt f ([iv a,iv b] ++ ys) (iv (qf1 (key a) (key b)))
def qbu {l:List Nat}:ClL (inX l):=λx hx=>by
 obtain ⟨z,_,rfl⟩:=zN.1 hx; trivial
abbrev atB (l:List Nat):Bk:=⟨3,none,inX l,false⟩
def srH (l:List Nat):Hp:=hpG [(5000,atB l)] h0
def srH_0 {l:List Nat}:srH l 5000=some (atB l):=rfl
def q5m {l:List Nat} {i:Nat} (h:srH l i≠none):i=5000:=by
 unfold srH at h
 rcases q6L h with h | h
 .exact absurd rfl h
 .simpa using h
def qcr {l:List Nat} {i:Nat} (h:i≠5000):srH l i=none:=Classical.byContradiction λhq=>h (q5m hq)
attribute [go_sem ↓] srH_0 qcr
def q2F {l:List Nat}:BOk (srH l) win:=qcH BOk.h0 λp hp=>by
 simp only [zE,zC,or_false] at hp;subst hp;exact ⟨⟨ω,ω⟩,rfl,IdL.of λx hx=>q09 (qbu x hx)⟩
def qcs {l l':List Nat} (hl:l.length<=l'.length):∀ i b,srH l i=some b->win i/\b.st=false/\IdL win b.xs/\∃ b',srH l' i=some b'/\b'.k=b.k/\b.xs.length<=b'.xs.length:=λi b hb=>by
 obtain ⟨q1,q2,q3,_⟩:=q2F.hi i b hb;obtain rfl:=q5m (l:=l) (i:=i) (by rw [hb]; exact yB _);cases hb;exact ⟨q1,q2,q3,_,rfl,rfl,by simpa using hl⟩
def qm8 {l:List Nat} {j x y:Nat} (hx:l[j]?=some x) (hy:l[j-1]?=some y):((inX l).set j (iv y)).set (j-1) (iv x)=inX (qcg l j):=by
 unfold qcg inX;rw [List.map_set,List.map_set,getD_some hx,getD_some hy]
def qdo {m:Nat} {fv:PV} {f:FuncId} {ys:List PV} {l0:List Nat} (hm:m<=1000) (hC:CmpF key m fv f ys) (hl0:l0.Perm ls) (hb:∀ a ∈ ls,a < m) (hlm:ls.length=m) (hs:ls.Pairwise λa b=>key a < key b) (hinj:∀ a b,a < m->b < m->key a=key b->a=b) :
  qfX 261 [.ow 5000 none 0 m,iv 0,iv m,fv] (srH l0) (.tu []) (srH ls):=by
 have hll:l0.length=m:=by rw [hl0.length_eq,hlm]
 have hfi:IdP win fv:=q09 hC.c;have hnd:ls.Nodup:=hs.imp λ{a b} h e=>by subst e; omega
 refine qf3 qkN Tryz.func261 rfl Tryz.ntmps261 κ ?_ ?_ ?_ ?_
 .exact qcs Oq
 .exact q2F.ho
 .exact IdL.of λx hx=>by
   simp at hx
   rcases hx with rfl | rfl | rfl | rfl
   .unfold IdP; exact ⟨ω,ω⟩
   .unfold IdP; trivial
   .unfold IdP; trivial
   .exact hfi
 have hJ:∀ i,srH l0 i≠none->i=5000:=λi hi=>q5m hi;have hcv:=hC.v;have hcc:=hC.c;have hcl:=hC.cl;have hca:=Hid.mk hC.ac;clear hC;refine wk ?_;refine q0g (λq:Nat × List Nat=>1<=q.1/\(q.1<=m\/q.1=1)/\q.2.Perm ls/\qwp key q.2 q.1) [0,1,2,3] [] Lk Lk (λq=>[(8,iv q.1)]) (λ_=>[]) (λq=>srH q.2) (λq=>m-q.1) (1,l0) ⟨zY _,.inr rfl,hl0,λa b h1 h2=>by omega⟩ ?_ ?_
 .refine LeW [] rfl rfl ?_ ?_ (by simp [q1W,q0Z,win]) ?_
  .exact Ow
  .exact q04 q2F
  .try refine Zz ?_
   first | done | omega | exact .cl hcc | exact ⟨ω,.cl hcc⟩ | exact ⟨rfl,.cl hcc⟩
 .rintro ⟨i,l⟩ ⟨h1,h2,hp,ha⟩;simp only at h1 h2 hp ha ⊢;have hlen:l.length=m:=by rw [hp.length_eq,hlm]
  by_cases hlt:i < m
  .have hlt':(i:Int) < m:=ω
   refine wk1 hlt' ?_;refine q0g (λq:Nat × List Nat=>q.1<=i/\q.2.Perm ls/\InsK key q.2 i q.1) [0,1,2,3,8] [] Lk Lk (λq=>[(9,iv q.1)]) (λ_=>[]) (λq=>srH q.2) (λq=>q.1) (i,l) ⟨zY _,hp,.init ha⟩ ?_ ?_
   .refine LeW [] rfl rfl ?_ ?_ (by simp [q1W,q0Z,win]) ?_
    .exact Ow
    .exact q04 q2F
    .try refine Zz ?_
     first | done | omega | exact .cl hcc | exact ⟨ω,.cl hcc⟩ | exact ⟨rfl,.cl hcc⟩
   .rintro ⟨j,l⟩ ⟨hji,hp,hI⟩;simp only at hji hp hI ⊢;have hlen:l.length=m:=by rw [hp.length_eq,hlm]
    by_cases hj0:j=0
    .subst hj0;have q:¬ (((0:Nat):Int) > 0):=ω
     refine wk1 q ?_;refine ⟨(i+1,l),⟨by simp only; omega,.inl (by simp only; omega),hp,hI.done (zK _) (.inl rfl)⟩,by simp only; omega,?_⟩;refine LeW [] rfl rfl ?_ ?_ (by simp [q1W,q0Z,win]) ?_
     .exact Ow
     .exact q04 q2F
     .try refine Zz ?_
      first | done | omega | exact .cl hcc | exact ⟨ω,.cl hcc⟩ | exact ⟨rfl,.cl hcc⟩
    .have q:(j:Int) > 0:=ω
     obtain ⟨x,hx⟩:∃ x,l[j]?=some x:=⟨_,zA Oq⟩;obtain ⟨y,hy⟩:∃ y,l[j-1]?=some y:=⟨_,zA Oq⟩;have wj:IntKind.i64.wrap ((j:Int)-1)=((j-1:Nat):Int):=by rw [i64_in ω ω]; omega
     have hxm:=hb x (hp.mem_iff.1 (zI hx));have hym:=hb y (hp.mem_iff.1 (zI hy));have CC:=hca.o x y hxm hym;have hkx:kAt key l j=key x:=by unfold kAt; rw [getD_some hx]
     have hky:kAt key l (j-1)=key y:=by unfold kAt; rw [getD_some hy]
     refine qwq ?_;refine qws q3f κ λK hK=>?_;simp -implicitDefEqProofs (disch:=omega) only [go_sem,Nat.reduceEqDiff,Nat.reduceAdd,↓reduceIte,i64_in,yJ,u6,zU,yP,yQ,yR,zP,yK,yE,yL,yF,q5n,q5o,q5s,q5t,q5p,q5q,q2I,q2J,q2K,q2L,q2G,q2H,q,hx,hy,wj];refine q6z hcv ?_;rw [hcl];refine q0J CC ?_
     try refine Zz ?_
     by_cases hk:key x < key y
     .have e:qf1 (key x) (key y) = -1:=if_pos Oq;rw [e]
      try refine Zz ?_
      refine ⟨qbv κ,hK _ _ ?_⟩; clear hK K;refine wk1 (x3 hx hy wj) ?_;refine ⟨(j-1,qcg l j),⟨by simp only; omega,(qcf ω ω).trans hp,hI.step hji ω ω (by rw [hkx,hky]; exact hk)⟩,by simp only; omega,?_⟩;simp only;refine LeW [] rfl rfl ?_ (q04 q2F) (by simp [q1W]) ?_
      .intro a ha
       by_cases e:a=5000
       .subst e;rw [q0K,qm8 hx hy]; rfl
       .rw [q0A e,q0A e,q0P ha,qcr e,qcr e]
      .try refine Zz ?_
       exact .cl hcc
     .have hne:key x≠key y:=λe=>by
       have:=hinj x y hxm hym e;subst this;have hlnd:l.Nodup:=hp.nodup_iff.2 hnd;obtain ⟨x1,x2⟩:=zF.1 hx;obtain ⟨y1,y2⟩:=zF.1 hy;exact zS.1 hlnd (j-1) j y1 x1 Oq (y2.trans x2.symm)
      have e:¬ qf1 (key x) (key y) < 0:=by unfold qf1; rw [if_neg ω,if_pos ω]; omega
      have hd:=hI.done hji (.inr (by rw [hkx,hky]; omega));generalize qf1 (key x) (key y)=cz at *
      try refine Zz1 e ?_
      refine ⟨qbv κ,hK _ _ ?_⟩; clear hK K;refine wk ?_;refine ⟨(i+1,l),⟨by simp only; omega,.inl (by simp only; omega),hp,hd⟩,by simp only; omega,?_⟩;refine LeW [] rfl rfl ?_ ?_ (by simp [q1W,q0Z,win]) ?_
      .exact Ow
      .exact q04 q2F
      .try refine Zz ?_
       first | done | omega | exact .cl hcc | exact ⟨ω,.cl hcc⟩ | exact ⟨rfl,.cl hcc⟩
  .have hlt':¬ (i:Int) < m:=ω
   refine wk1 hlt' ?_;refine rtM (rs:=[]) rfl rfl Lq ?_ (.inr rfl);have him:qwp key l l.length:=by
    rw [hlen]
    rcases h2 with h2 | h2
    .rwa [show m=i by omega]
    .subst h2;intro a b hab hbm;omega
   rw [quq hp hs him];refine qcF (L:=[]) [] rfl (λ_ _=>rfl) q2F (λ_ _=>rfl) (λi hi hm=>?_) (by simp [q2e]) ?_
   .rw [q5m hi]; rfl
   .try simp -implicitDefEqProofs (disch:=omega) only [go_sem,Nat.reduceEqDiff,Nat.reduceAdd,↓reduceIte]
end
section
variable {key:Nat->Nat} {ls:List Nat} {m:Nat} {fv:PV} {f:FuncId} {ys:List PV} {l0:List Nat}
def pdq_m {lim:Int} (hm:m<=12) (hC:CmpF key m fv f ys) (hl0:l0.Perm ls) (hb:∀ a ∈ ls,a < m) (hlm:ls.length=m) (hs:ls.Pairwise λa b=>key a < key b) (hinj:∀ a b,a < m->b < m->key a=key b->a=b) :
  qfX 227 [.ow 5000 none 0 m,iv 0,iv m,iv lim,fv] (srH l0) (.tu []) (srH ls):=by
 have CI:=qdo (m:=m) Oq hC hl0 hb hlm hs hinj;have hcc:=hC.c;have hll:l0.length=m:=by rw [hl0.length_eq,hlm]
 have hfi:IdP win fv:=q09 hC.c;refine qf3 qkP Tryz.func227 rfl Tryz.ntmps227 κ ?_ ?_ ?_ ?_
 .exact qcs Oq
 .exact q2F.ho
 .exact IdL.of λx hx=>by
   simp at hx
   rcases hx with rfl | rfl | rfl | rfl | rfl
   .unfold IdP; exact ⟨ω,ω⟩
   .unfold IdP; trivial
   .unfold IdP; trivial
   .unfold IdP; trivial
   .exact hfi
 refine wk ?_;refine q0g (λ_:Unit=>True) [0,1,2,3,4] [] Lk Lk (λ_=>[]) (λ_=>[]) (λ_=>srH l0) (λ_=>0) () trivial ?_ ?_
 .refine LeW [] rfl rfl ?_ ?_ (by simp [q1W,q0Z,win]) ?_
  .exact Ow
  .exact q04 q2F
  .try refine Zz ?_
   first | done | exact .cl hcc
 .intro _ _;have q1:((m:Int)-0)=m:=ω
  have q2:(m:Int)<=12:=ω
  refine wk1 (x2 q1 q2) ?_;refine qbK λK hK=>?_;refine Zz ?_;refine jm CI (by repeat (first | exact q2A | exact qf4 | refine qcB ω ?_)) (λi hi _=>hi) ?_
  try refine Zz ?_
  refine hK _ _ ?_; clear hK K;refine wk ?_;refine (rtM (rs:=[]) rfl rfl Lq ?_ (.inl rfl));refine qcF (L:=[]) [] rfl (λ_ _=>rfl) q2F (λ_ _=>rfl) (λi hi hm=>?_) (by simp [q2e]) ?_
  .rw [q5m hi]; rfl
  .try simp -implicitDefEqProofs (disch:=omega) only [go_sem,Nat.reduceEqDiff,Nat.reduceAdd,↓reduceIte]
def qqg (hm:m<=12) (hC:CmpF key m fv f ys) (hl0:l0.Perm ls) (hb:∀ a ∈ ls,a < m) (hlm:ls.length=m) (hs:ls.Pairwise λa b=>key a < key b) (hinj:∀ a b,a < m->b < m->key a=key b->a=b) :
  qfX 179 [.ow 5000 none 0 m,fv] (srH l0) (.tu []) (srH ls):=by
 have CI:=λlim=>pdq_m (lim:=lim) hm hC hl0 hb hlm hs hinj;have hcc:=hC.c;have hll:l0.length=m:=by rw [hl0.length_eq,hlm]
 have hfi:IdP win fv:=q09 hC.c;have CL:=qsz (x:=m) Oq;have hw:IntKind.u64.wrap (m:Int)=(m:Int):=u64_in Oq Oq;generalize bl m=bm at CL;refine qf3 qkT Tryz.func179 rfl Tryz.ntmps179 κ ?_ ?_ ?_ ?_
 .exact qcs Oq
 .exact q2F.ho
 .exact IdL.of λx hx=>by
   simp at hx
   rcases hx with rfl | rfl
   .unfold IdP; exact ⟨ω,ω⟩
   .exact hfi
 refine wk ?_;refine q9h λK9 hK9=>?_;refine Zz1 hw ?_;refine jc ?_
 try refine Zz ?_
 refine q0J CL ?_
 try refine Zz ?_
 refine jm (CI bm) (by repeat (first | exact q2A | exact qf4 | refine qcB ω ?_)) (λi hi _=>hi) ?_
 try refine Zz ?_
 refine hK9 _ _ ?_; clear hK9 K9;refine rtM (rs:=[]) rfl rfl Lq ?_ (.inr rfl);refine qcF (L:=[]) [] rfl (λ_ _=>rfl) q2F (λ_ _=>rfl) (λi hi hm=>?_) (by simp [q2e]) ?_
 .rw [q5m hi]; rfl
 .try simp -implicitDefEqProofs (disch:=omega) only [go_sem,Nat.reduceEqDiff,Nat.reduceAdd,↓reduceIte]
end
end Go.Proofs.YtbjoghfmhgadkaaGreatDoor
namespace Go.E
open Go Go.RowKit
def qtS [NL] {K:Kd} {x:PV} {A:Prop}:q1T none (.qt K x) A=A:=by simp [q1T,q47,qbo]
def qwB {τ:Nat->Option Nat} {h h':Hp} {K:Kd} {x:PV}:LeV τ h h' (.qt K x) (.qt K x)=True:=eq_true (.cl trivial)
attribute [go_sem] qtS qwB
end Go.E
namespace Go.Proofs.YtbjoghfmhgadkaaGreatDoor
open Go Go.E Go.Sp
def qdS {α β:Type} {g:α->β} {A Z:List β} (h:A.Perm Z):∀ l:List α,A=l.map g->∃ l':List α,l'.Perm l/\l'.map g=Z:=by
 induction h with
 | nil=>exact λl hl=>⟨l,.refl _,hl.symm⟩
 | cons x _ ih =>
  intro l hl;cases l with
  | nil=>cases hl
  | cons a l =>
   rw [zG] at hl;obtain ⟨h1,h2⟩:=List.cons.inj hl;obtain ⟨l',q1,q2⟩:=ih l h2;exact ⟨a :: l',q1.cons a,by rw [zG,q2,h1]⟩
 | swap x y t =>
  intro l hl
  match l,hl with
  | a :: b :: l,hl =>
   rw [zG,zG] at hl;obtain ⟨h1,h2⟩:=List.cons.inj hl;obtain ⟨h3,h4⟩:=List.cons.inj h2;exact ⟨b :: a :: l,List.Perm.swap _ _ _,by rw [zG,zG,<- h1,<- h3,<- h4]⟩
 | trans _ _ ih1 ih2 =>
  intro l hl;obtain ⟨l1,q1,q2⟩:=ih1 l hl;obtain ⟨l2,q3,q4⟩:=ih2 l1 q2.symm;exact ⟨l2,q3.trans q1,q4⟩
def qrc {key:Nat→Nat} {l:List Nat} {a b:Nat} (hs:l.Pairwise fun a b=>key a < key b) (ha:a ∈ l) (hb:b ∈ l) (e:key a=key b):a=b:=by
 obtain ⟨i,hi⟩:=List.mem_iff_getElem?.1 ha;obtain ⟨j,hj⟩:=List.mem_iff_getElem?.1 hb;obtain ⟨x1,x2⟩:=List.getElem?_eq_some_iff.1 hi;obtain ⟨y1,y2⟩:=List.getElem?_eq_some_iff.1 hj
 rcases Nat.lt_trichotomy i j with hc | hc | hc
 .have:=List.pairwise_iff_getElem.1 hs i j x1 y1 hc;rw [x2,y2] at this; omega
 .subst hc; rw [hi] at hj; exact (Option.some.inj hj)
 .have:=List.pairwise_iff_getElem.1 hs j i y1 x1 hc;rw [x2,y2] at this; omega
def q5d (m t:Nat):List Nat:=(List.range m).map λc=>if c < t then c else 0
def qt3 {m:Nat}:List.replicate m (PV.vl (.int .i64 0))=inX (q5d m 0):=by
 unfold q5d inX;rw [xK]
 apply z6
 intro i;rw [yY,zD]
 by_cases h:i < m
 .rw [if_pos h,zH h]; rfl
 .rw [if_neg h,zR (by simpa using h)]; rfl
def qt1 {m t:Nat} (ht:t < m):(inX (q5d m t)).set t (iv (t:Nat))=inX (q5d m (t+1)):=by
 unfold q5d inX;rw [xK,xK]
 apply z6
 intro i;rw [yI,zD,zD]
 by_cases h:i < m
 .rw [zH h]
  by_cases e:t=i
  .subst e;simp [h]
  .rw [if_neg e];simp only [tF,Function.comp]
   by_cases h2:i < t
   .rw [if_pos h2,if_pos ω]
   .rw [if_neg h2,if_neg ω]
 .rw [zR (l:=List.range m) (by simpa using h)]
  by_cases e:t=i <;> simp [e]
  omega
def qt2 {m:Nat}:q5d m m=List.range m:=by
 unfold q5d;refine (zQ λc hc=>?_).trans (List.map_id _);rw [if_pos (zM.1 hc)]; rfl
def qhg {m t:Nat}:(q5d m t).length=m:=by unfold q5d; simp
def qke {τ:Nat->Option Nat} {h h':Hp} {T:TypeId} {K:Kd} {id:Nat} {x:PV} (h1:h id=some ⟨T,K,[x],false⟩) (hk:0 < ksz K) (hx:Cld x) (h2:∀ i,τ i=some id->h' i=none):LeV τ h h' (.pt id 0 0) (.qt K x):=.pqg (b:=⟨T,K,[x],false⟩) h1 rfl hk rfl (.cl hx) hx h2
section
variable {n k:Nat} {rs vs:Nat->List Nat} {K:Nat->Nat} {f:Nat->Nat->Option Nat} {a0 a1 a2 a3 a4 a5 a7 a8 a9 a10:PV} {pl:List PV}
structure GtOk (n k:Nat) (rs vs:Nat->List Nat) (K:Nat->Nat) (f:Nat->Nat->Option Nat) (pl:List PV):Prop where
 p:∀ r,r < n->pl[r]?=some (iv (K r:Nat))
 l:∀ j,j < k->(vs j).length=(rs j).length
 m:∀ j,j < k->(rs j).length<=12
 b:∀ j,j < k->∀ r ∈ rs j,r < n
 z:∀ j,j < k->((List.range (rs j).length).map λt=>(K ((rs j).getD t 0),(vs j).getD t 0)).Perm (tZ f j n)
def q8B (hn:n<=100) (hk:k<=100) (hG:GtOk n k rs vs K f pl) :
  ACt 100 [.qt (some 11) (.ag [a0,a1,a2,a3,a4,a5,.sl none pl,a7,a8,a9,a10]),.sl (some 2) ((List.range k).map λj=>pLn (rs j) (vs j))] (.tu [pI (tM f n k).1,pI (tM f n k).2.1,pF (tM f n k).2.2]):=by
 have hLl:=λj=>q0y (f:=f) (R:=n) j;have hL1:∀ j,(tM f n (j+1)).1=(tM f n j).1 ++ [(((tM f n j).2.1 ++ (tZ f j n).map (λq=>(q.1:Int))).length:Int)]:=λj=>by
  show (tM f n j).1 ++ [((tC f j (tM f n j).2 n).1.length:Int)]=_
  rw [q4b]
 have hL2:∀ j,(tM f n (j+1)).2.1=(tM f n j).2.1 ++ (tZ f j n).map (λq=>(q.1:Int)):=λj=>by
  show (tC f j (tM f n j).2 n).1=_
  rw [q4b]
 have hL3:∀ j,(tM f n (j+1)).2.2=(tM f n j).2.2 ++ (tZ f j n).map (·.2):=λj=>by
  show (tC f j (tM f n j).2 n).2=_
  rw [q4b]
 have hkn:k*n<=100*100:=z7 hk hn;obtain ⟨W,hW⟩:∃ W,W=PV.ag [a0,a1,a2,a3,a4,a5,.sl none pl,a7,a8,a9,a10]:=⟨_,rfl⟩;refine ac0 Tryz.func100 Tryz.ntmps100 [.tmp 4,.tmp 5,.tmp 6] ?_;refine wk ?_;refine q0B (λj=>j<=k) [14,15] [] Lk Lk (λj:Nat=>[(2,.qt none (.qt (some 11) (.ag [a0,a1,a2,a3,a4,a5,.sl none pl,a7,a8,a9,a10]))),(16,iv j),(4,.ow 1001 none 0 (tM f n j).1.length),(5,.ow 1002 none 0 (tM f n j).2.1.length),(6,.ow 1003 none 0 (tM f n j).2.2.length)]) (λj=>[(1001,⟨3,none,(tM f n j).1.map λz:Int=>iv z,false⟩),(1002,⟨3,none,(tM f n j).2.1.map λz:Int=>iv z,false⟩),(1003,⟨32,none,(tM f n j).2.2.map λz:Nat=>uv z,false⟩)]) (λj=>k-j) 0 (zK _) ?_ ?_
 .refine LeM [(1001,some 13),(1002,none),(1003,none)] rfl rfl ?_;refine Zz ?_;refine ⟨⟨qke rfl (by decide) trivial (λi hi=>?_),rfl,rfl,rfl,rfl⟩,rfl,rfl,rfl⟩;simp only [q0Z] at hi
  repeat' split at hi
  all_goals first | (cases hi; done) | (cases hi; rfl)
 .intro j hj;have hLj:=hLl j;have hjn:j*n<=100*100:=z7 Oq hn
  by_cases hlt:j < k
  .have hlt':(j:Int) < k:=ω
   have rj:((List.range k).map λj=>pLn (rs j) (vs j))[j]?=some (pLn (rs j) (vs j)):=by rw [zD,zH hlt]; rfl
   obtain ⟨m,hm⟩:∃ m,(rs j).length=m:=⟨_,rfl⟩;have hm12:=hG.m j hlt;rw [hm] at hm12;refine wk1 (x3 hlt' rj hm) ?_;have hfl:=λt=>qhg (m:=m) (t:=t);refine q0B (λt=>t<=m) [2,4,5,6,14,15,16,25] [1001,1002,1003] Lk Lk (λt:Nat=>[(8,.qt (some 2) (pLn (rs j) (vs j))),(9,.ow 1004 none 0 m),(24,.ow 1004 none 0 m),(26,iv t)]) (λt=>[(1004,atB (q5d m t))]) (λt=>m-t) 0 (zK _) ?_ ?_
   .refine LeM [(1004,some 23)] rfl rfl ?_;refine Zz ?_;refine ⟨⟨qke rfl (by decide) q9Z (λi hi=>?_),rfl⟩,q0G qt3 qbu⟩;simp only [q0Z] at hi
    repeat' split at hi
    all_goals first | (cases hi; done) | (cases hi; rfl)
   .intro t ht
    by_cases htm:t < m
    .have htm':(t:Int) < m:=ω
     refine wk1 (x2 htm' (hfl t)) ?_;refine ⟨t+1,ω,ω,?_⟩;refine LeM [] rfl rfl ?_;refine Zz ?_;exact ⟨rfl,q0G (qt1 htm) qbu⟩
    .obtain rfl:m=t:=ω
     have htm':¬ (m:Int) < m:=ω
     rw [qt2];obtain ⟨ls,hlp,hlz⟩:=qdS (g:=λt=>(K ((rs j).getD t 0),(vs j).getD t 0)) (hG.z j hlt) (List.range m) (by rw [hm]);have hlen:ls.length=m:=by rw [hlp.length_eq,zU]
     have hlb:∀ a ∈ ls,a < m:=λa ha=>zM.1 (hlp.mem_iff.1 ha);have hlm':∀ a,a < m->a ∈ ls:=λa ha=>hlp.mem_iff.2 (zM.2 ha);have hsrt:ls.Pairwise λa b=>K ((rs j).getD a 0) < K ((rs j).getD b 0):=by
      have:=q77 (f:=f) (j:=j) n;rw [<- hlz,List.pairwise_map] at this;exact this
     have hinj:∀ a b,a < m->b < m->K ((rs j).getD a 0)=K ((rs j).getD b 0)->a=b:=λa b ha hb=>qrc hsrt (hlm' a ha) (hlm' b hb);have hrg:∀ t,t < m->(rs j)[t]?=some ((rs j).getD t 0)/\(rs j).getD t 0 < n:=λt ht=>by
      have h1:(rs j)[t]?=some ((rs j)[t]' ω):=zA Oq;have h2:(rs j).getD t 0=(rs j)[t]' ω:=by rw [zB,h1]; rfl
      rw [h2];exact ⟨h1,hG.b j hlt _ (yU _)⟩
     have hCF:CmpF (λt=>K ((rs j).getD t 0)) m (.fm (qhk 180 [.qt none (.qt (some 11) (.ag [a0,a1,a2,a3,a4,a5,.sl none pl,a7,a8,a9,a10])),.qt (some 2) (pLn (rs j) (vs j))])) 180 [.qt none (.qt (some 11) (.ag [a0,a1,a2,a3,a4,a5,.sl none pl,a7,a8,a9,a10])),.qt (some 2) (pLn (rs j) (vs j))]:=⟨FnP_2,trivial,λh a b=>by simp [q2x,clo,q3w,q2n],λa b ha hb=>qn9 (hrg a ha).1 (hrg b hb).1 (hG.p _ (hrg a ha).2) (hG.p _ (hrg b hb).2)⟩;have CS:=qqg hm12 hCF hlp.symm hlb hlen hsrt hinj;refine wk1 htm' ?_;refine q1h (LeG [(5000,some 1004)] (L:=[(5000,atB (List.range m))]) (B:=Go.E.h0) (xs:=[(2,.qt none (.qt (some 11) (.ag [a0,a1,a2,a3,a4,a5,.sl none pl,a7,a8,a9,a10]))),(8,.qt (some 2) (pLn (rs j) (vs j))),(14,.sl (some 2) ((List.range k).map λj=>pLn (rs j) (vs j))),(15,iv k),(16,iv j),(4,.ow 1001 none 0 (tM f n j).1.length),(5,.ow 1002 none 0 (tM f n j).2.1.length),(6,.ow 1003 none 0 (tM f n j).2.2.length),(9,.ow 5000 none 0 m)]) (kv:=[]) (bs:=[(1001,⟨3,none,(tM f n j).1.map λz:Int=>iv z,false⟩),(1002,⟨3,none,(tM f n j).2.1.map λz:Int=>iv z,false⟩),(1003,⟨32,none,(tM f n j).2.2.map λz:Nat=>uv z,false⟩)]) (kb:=[]) rfl (λi hi=>hi.elim) BOk.h0 (λi hi=>(hi rfl).elim) (λi hi hm=>(hi rfl).elim) (λp hp=>?_) (by simp [loN,win]) (by simp [q2e,q0Z,win,Go.E.h0]) ?_) ?_
     .simp only [zE,zC,or_false] at hp;subst hp;exact ⟨ω,ω⟩
     .try refine Zz ?_
      exact q0G rfl qbu
     refine qbK λK hK=>?_;refine Zz ?_;refine jmF CS ?_ ?_
     .exact Ow
     .try refine Zz ?_
      refine hK _ _ ?_; clear hK K;have hzl:(tZ f j n).length=m:=by rw [<- hlz,tD,hlen]
      have hlen':(inX ls).length=m:=by unfold inX; rw [tD,hlen]
      obtain ⟨A,hA⟩:∃ A,A=(tM f n j).2.1:=⟨_,rfl⟩;obtain ⟨V,hV⟩:∃ V,V=(tM f n j).2.2:=⟨_,rfl⟩;have hmn:(j+1)*n<=100*100:=z7 Oq hn;have hlj:=hLl (j+1);rw [hL2,hL3] at hlj;simp only [xA,tD,hzl] at hlj;rw [<- hA,<- hV] at hLj hlj;rw [<- hA,<- hV];have el:∀ s,s<=m->(A ++ ((tZ f j n).take s).map λq=>(q.1:Int)).length=A.length+s:=λs hs=>by simp [yV]; omega
      have ev:∀ s,s<=m->(V ++ ((tZ f j n).take s).map (·.2)).length=V.length+s:=λs hs=>by simp [yV]; omega
      refine wk ?_;refine q0B (λs=>s<=m) [2,8,14,15,16,4] [1001] Lk Lk (λs:Nat=>[(37,.ow 1004 none 0 m),(38,iv m),(39,iv s),(5,.ow 1002 none 0 (A.length+s)),(6,.ow 1003 none 0 (V.length+s))]) (λs=>[(1004,atB ls),(1002,⟨3,none,(A ++ ((tZ f j n).take s).map λq=>(q.1:Int)).map λz:Int=>iv z,false⟩),(1003,⟨32,none,(V ++ ((tZ f j n).take s).map (·.2)).map λz:Nat=>uv z,false⟩)]) (λs=>m-s) 0 (zK _) ?_ ?_
      .refine LeM [(1004,some 5000)] rfl rfl ?_;refine Zz ?_;exact ⟨rfl,q0G rfl qbu⟩
      .intro s hs
       by_cases hsm:s < m
       .have hsm':(s:Int) < m:=ω
        obtain ⟨a,ha⟩:∃ a,ls[s]?=some a:=⟨_,zA Oq⟩;have har:a < m:=hlb a (zI ha);have hz:(tZ f j n)[s]?=some (K ((rs j).getD a 0),(vs j).getD a 0):=by rw [<- hlz,zD,ha]; rfl
        have hra:=(hrg a har).1;have hpa:=hG.p _ (hrg a har).2;have hva:(vs j)[a]?=some ((vs j).getD a 0):=by
         have h1:(vs j)[a]?=some ((vs j)[a]'(by rw [hG.l j hlt]; omega)):=zA (by rw [hG.l j hlt]; omega);rw [zB,h1]; rfl
        have eZ:=q2f hz;obtain ⟨r,hr⟩:∃ r,r=(rs j).getD a 0:=⟨_,rfl⟩;obtain ⟨v,hv⟩:∃ v,v=(vs j).getD a 0:=⟨_,rfl⟩;rw [<- hr,<- hv] at eZ;rw [<- hr] at hra hpa;rw [<- hv] at hva;have els:=el s hs;have evs:=ev s hs;refine wk1 (x6 hsm' ha hra hpa hva (x2 els evs)) ?_;refine ⟨s+1,ω,ω,?_⟩;refine LeM [(1002,some 56),(1003,some 64)] rfl rfl ?_;refine Zz ?_;exact ⟨⟨rfl,rfl,rfl⟩,q0G rfl qbu,by rw [eZ,zJ,List.append_assoc]; rfl,by rw [eZ,zJ,List.append_assoc]; rfl⟩
       .obtain rfl:m=s:=ω
        have hsm':¬ (m:Int) < m:=ω
        have els:=el m hs;have evs:=ev m hs;rw [zV (xL hzl)] at els evs;rw [zV (xL hzl)];refine wk1 hsm' ?_;refine ⟨j+1,ω,ω,?_⟩;have e0:=hLl (j+1);refine LeM [(1001,some 70)] rfl rfl ?_;refine Zz ?_;rw [hL1,hL2,hL3,<- hA,<- hV];refine ⟨⟨rfl,σ,els.symm,evs.symm⟩,?_,rfl,rfl⟩;rw [els]
  .obtain rfl:k=j:=ω
   have hlt':¬ (k:Int) < k:=ω
   exact wk1 hlt' trivial
end
section
variable {F:Nat->Nat->Option Nat} {mi:List Int} {n j k num den:Nat} {S q r:LuS} {cols:List Int}
def qn1 (h:q14 F mi n S j k num den=(0,r)):∃ q p,upS F S j k k=some q/\p < n/\p ∉ q.rows/\ofZ (rsV F q j k p)≠0/\r=loE (pvS q k (rsV F q j k) p) k (rsZ F q j k) (ofZ (rsV F q j k p)) n:=by
 cases hu:upS F S j k k with
 | none=>rw [qn3 hu] at h; cases h
 | some q =>
  by_cases h2:∀ i,i < n->i ∉ q.rows->q0O (fR 0 (rsZ F q j k i))
  .by_cases h3:clB F mi q n j k num den < 0
   .rw [quG hu h2 h3] at h; cases h
   .have hrg:=qkM (F:=F) (mi:=mi) (q:=q) (n:=n) (j:=j) (k:=k) (num:=num) (den:=den);obtain ⟨p,hp⟩:∃ p,(clL F q n j k)[(clB F mi q n j k num den).toNat]?=some p:=⟨_,zA Oq⟩;obtain ⟨p1,p2,p3,p4,p5,p6⟩:=qas Oq hp;refine ⟨q,p,rfl,p1,p2,q9C (by rw [p4]; exact h2 p p1 p2) (by rw [p4]; exact q3q) p6,?_⟩
    by_cases hb:∀ i ∈ clL F q n j k,i≠p->q0O (q4H 0 (rsZ F q j k i) (ofZ (rsV F q j k p)))
    .rw [qn2 hu h2 ω hp hb] at h;exact (Prod.mk.inj h).2.symm
    .refine absurd (λi hi hip=>Classical.byContradiction λhf=>?_) hb;rw [quF hu h2 ω hp hi hip hf] at h;cases h
  .rw [quH hu h2] at h; cases h
def RwI (S:LuS):Prop:=∀ i m,S.iL i m=true->m < S.rows.idxOf i
def RwI_s {p:Nat} {Z:Nat->Int} {V:Nat->Nat} {d:Int} (h:RwI S) (hf:∀ i m,k<=m->S.iL i m=false) (hk:S.rows.length=k) (h2:q.iL=S.iL) (hr:q.rows=S.rows):RwI (loE (pvS q k V p) k Z d n):=λi m hm=>by
 rw [q2y,hr]
 by_cases hmk:m=k
 .subst hmk;unfold loE pvS at hm;dsimp only at hm
  by_cases hc:m=m/\i < n/\i ∉ q.rows ++ [p]
  .obtain ⟨_,_,hc⟩:=hc;rw [hr] at hc;rw [xM hc,xA];simp; omega
  .rw [if_neg hc,h2,hf i m (zY _)] at hm;cases hm
 .rw [(q3J hmk).2.1,h2] at hm;have:=h i m hm;rw [List.idxOf_append]
  split
  .exact this
  .rename_i hni;rw [xM hni] at this;omega
def facI:∀ k,(q0i F mi n cols num den k).1=0->LuI k (q0i F mi n cols num den k).2.2/\RwI (q0i F mi n cols num den k).2.2
 | 0,_=>⟨⟨λ_ _ _=>by simp [q0i,q22]; exact qgR,λ_ _ _=>rfl,by simp [q0i,q22]⟩,λ_ _ h=>by simp [q0i,q22] at h⟩
 | k+1,h=>by
  have hs:q0i F mi n cols num den (k+1)=if (q0i F mi n cols num den k).1=0 then ((q14 F mi n (q0i F mi n cols num den k).2.2 (lfN cols k) k num den).1,if (q14 F mi n (q0i F mi n cols num den k).2.2 (lfN cols k) k num den).1=9 then k else 0,(q14 F mi n (q0i F mi n cols num den k).2.2 (lfN cols k) k num den).2) else q0i F mi n cols num den k:=rfl
  have hk0:(q0i F mi n cols num den k).1=0:=Classical.byContradiction λhc=>by
   rw [hs,if_neg hc] at h;exact hc h
  obtain ⟨i1,i2⟩:=facI k hk0;have hG:=q4U (F:=F) (mi:=mi) (n:=n) (cols:=cols) (num:=num) (den:=den) k hk0;rw [hs,if_pos hk0] at h ⊢;simp only at h ⊢;generalize (q0i F mi n cols num den k).2.2=S at *;have he:q14 F mi n S (lfN cols k) k num den=(0,(q14 F mi n S (lfN cols k) k num den).2):=Prod.ext h rfl;obtain ⟨q,p,hu,p1,p2,p3,e⟩:=qn1 he;obtain ⟨ql,qiL,qr,_⟩:=qfm k q hu;rw [e];exact ⟨clS_I i1 ql qiL qr p2 p3,RwI_s i2 i1.f hG.len qiL qr⟩
def gt_L (h:RwOk n S) (hn:n<=12):GtOk n n (liL S n) (λj=>(liL S n j).map λi=>S.l i j) S.rows.idxOf (fLt S) (plL S.rows n):=⟨λr hr=>by
 unfold plL;rw [zD,zH hr,tF];unfold plI;rw [if_pos (h.mem hr)],λj _=>by rw [tD],λj _=>yO (z9 _ _) (by rw [zU]; exact hn),λj _ r hr=>zM.1 (zZ.1 hr).1,λj _=>by
 have e:((List.range (liL S n j).length).map λt=>(S.rows.idxOf ((liL S n j).getD t 0),((liL S n j).map λi=>S.l i j).getD t 0))=(liL S n j).map λr=>(S.rows.idxOf r,S.l r j):=by
  apply z6
  intro i;rw [zD,zD]
  by_cases hi:i < (liL S n j).length
  .rw [zH hi,zA hi];simp [zB,hi]
  .rw [zR (by simpa using hi),zR (by simpa using hi)]; rfl
 rw [e];exact tZ_L h⟩
def gt_U (h:RwOk n S) (hn:n<=12):GtOk n n (λj=>(liU S j).map λt=>S.rows.getD t 0) (λj=>(liU S j).map λt=>S.u t j) S.rows.idxOf (fUt S) (plL S.rows n):=⟨λr hr=>by
 unfold plL;rw [zD,zH hr,tF];unfold plI;rw [if_pos (h.mem hr)],λj _=>by rw [tD,tD],λj hj=>by rw [tD]; exact yO (z9 _ _) (by rw [zU]; omega),λj hj r hr=>by
 obtain ⟨t,ht,rfl⟩:=zN.1 hr;have:=zM.1 (zZ.1 ht).1;rw [zB,zA (by rw [h.l]; omega),zO];exact h.b _ (yU _),λj hj=>by
 have e:((List.range ((liU S j).map λt=>S.rows.getD t 0).length).map λt=>(S.rows.idxOf (((liU S j).map λt=>S.rows.getD t 0).getD t 0),((liU S j).map λt=>S.u t j).getD t 0))=(liU S j).map λt=>(t,S.u t j):=by
  apply z6
  intro i;rw [zD,zD,tD]
  by_cases hi:i < (liU S j).length
  .have ht:=zM.1 (zZ.1 (yU hi)).1;rw [zH hi,zA hi,tF,tF,zB,zB (l:=(liU S j).map λt=>S.u t j),zD,zD,zA hi,tF,tF,zO,zO,h.idx ω]
  .rw [zR (by simpa using hi),zR (by simpa using hi)]; rfl
 rw [e,tZ_U hj]⟩
def qt4 (h:(q0i F mi n cols num den n).1=0):RwOk n (q0i F mi n cols num den n).2.2:=by
 obtain ⟨i1,i2⟩:=facI n h;have hG:=q4U (F:=F) (mi:=mi) (n:=n) (cols:=cols) (num:=num) (den:=den) n h;exact ⟨i1.r,hG.r,hG.len,i2⟩
end
def qiB {l:List Int} (hn:l.length<=1000000):ACt 99 [pI l] (pI l):=by
 have hu:=bn_n (P:=Tryz.prog) (k:=none) (l:=l.map λz=>iv z) (t:=23) (E:=3) (c:=0) (d:=0) κ (by decide);refine ac0 Tryz.func99 Tryz.ntmps99 [.tmp 2] ?_;refine wk1 hu ?_;refine A_u rfl (λh=>?_) ?_
 .have e:l=[]:=List.eq_nil_of_length_eq_zero (by simpa using h);exact wk1 e trivial
 .exact wk trivial
end Go.Proofs.YtbjoghfmhgadkaaGreatDoor
namespace Go.E
open Go Go.RowKit
def qtP {off:Nat} {a b c d e:PV} {cs:List PV}:flS (some (off,5)) (.ag [a,b,c,d,e]) cs=q8s cs off [a,b,c,d,e]:=by
 rw [q5C σ];simp [flS]
attribute [go_sem] qtP
def Dd_q {hin hout:Hp} {s:Nat->PV} {h:Hp} {q:Nat->Prop} (hg:∀ i,q8b hin hout i->¬ q i) (h1:Sns q s) (h2:Hns q h):Dd hin hout s h :=
 .inr ⟨λt=>q3B (λi hi hq=>hg i hq hi) _ (h1 t),λi c hc hw=>⟨(h2 i c hc hw).1,IdL_mono (λi hi hq=>hg i hq hi) _ (h2 i c hc hw).2⟩⟩
end Go.E
namespace Go.Proofs.YtbjoghfmhgadkaaGreatDoor
open Go Go.E Go.Sp
def plF (n t:Nat):List PV:=(List.range n).map λi=>iv (if i < t then (-1:Int) else 0)
def plF_0 {n:Nat}:List.replicate n (PV.vl (.int .i64 0))=plF n 0:=by
 unfold plF
 apply z6
 intro i;rw [yY,zD]
 by_cases h:i < n
 .rw [if_pos h,zH h]; rfl
 .rw [if_neg h,zR (by simpa using h)]; rfl
def plF_s {n t:Nat} (ht:t < n):(plF n t).set t (iv (-1))=plF n (t+1):=by
 unfold plF
 apply z6
 intro i;rw [yI,zD,zD]
 by_cases h:i < n
 .rw [zH h]
  by_cases e:t=i
  .subst e;simp [h]
  .rw [if_neg e];simp only [tF]
   by_cases h2:i < t
   .rw [if_pos h2,if_pos ω]
   .rw [if_neg h2,if_neg ω]
 .rw [zR (l:=List.range n) (by simpa using h)]
  by_cases e:t=i <;> simp [e]
  omega
def plF_n {n:Nat}:plF n n=plL [] n:=by
 unfold plF plL;refine zQ λi hi=>?_;rw [if_pos (zM.1 hi)]
 rfl
def qlz {n t:Nat}:(plF n t).length=n:=by unfold plF; simp
def cnF (mi:List Int) (n t:Nat):List PV:=(List.range n).map λi=>iv (q15 (mi.take t) i)
def cnF_0 {mi:List Int} {n:Nat}:List.replicate n (PV.vl (.int .i64 0))=cnF mi n 0:=by
 unfold cnF
 apply z6
 intro i;rw [yY,zD]
 by_cases h:i < n
 .rw [if_pos h,zH h]; rfl
 .rw [if_neg h,zR (by simpa using h)]; rfl
def qkJ {mi:List Int} {t i:Nat} {x:Int} (hx:mi[t]?=some x):q15 (mi.take (t+1)) i=q15 (mi.take t) i+if x=i then 1 else 0:=by
 unfold q15;rw [q2f hx,yA,xA]
 congr 1
 by_cases h:x=(i:Int) <;> simp [h]
def qn5 {mi:List Int} {t i:Nat}:q15 (mi.take t) i<=t:=yO (z9 _ _) (by rw [yV]; omega)
def cnF_s {mi:List Int} {n t r:Nat} (hx:mi[t]?=some (r:Int)) (hr:r < n):(cnF mi n t).set r (iv ((q15 (mi.take t) r:Int)+1))=cnF mi n (t+1):=by
 unfold cnF
 apply z6
 intro i;rw [yI,zD,zD]
 by_cases h:i < n
 .rw [zH h]
  by_cases e:r=i
  .subst e;simp only [if_true,tD,zU,h,tF,qkJ hx];simp
  .rw [if_neg e];simp only [tF,qkJ hx];rw [if_neg ω,Nat.add_zero]
 .rw [zR (l:=List.range n) (by simpa using h)]
  by_cases e:r=i <;> simp [e]
  omega
def qei {mi:List Int} {n t:Nat}:(cnF mi n t).length=n:=by unfold cnF; simp
def qn6 {mi:List Int} {n t r:Nat} (hr:r < n):(cnF mi n t)[r]?=some (iv (q15 (mi.take t) r:Nat)):=by unfold cnF; rw [zD,zH hr]; rfl
def cnF_n {mi:List Int} {n:Nat}:PV.sl none (cnF mi n mi.length)=cnS mi n:=by unfold cnF cnS; rw [yZ]
def clCn {mi:List Int} {n t:Nat}:ClL (cnF mi n t):=λx hx=>by
 obtain ⟨i,_,rfl⟩:=zN.1 hx; trivial
def qpU {n t:Nat}:ClL (plF n t):=λx hx=>by
 obtain ⟨i,_,rfl⟩:=zN.1 hx; trivial
def qix {f:Nat->Nat->Option Nat} {R:Nat}:∀ (j:Nat) (x:Int),x ∈ (tM f R j).2.1->0<=x/\x < R
 | 0,x,hx=>by simp [tM] at hx
 | j+1,x,hx=>by
  have hx:x ∈ (tC f j (tM f R j).2 R).1:=hx;rw [q4b] at hx
  rcases yS.1 hx with hx | hx
  .exact qix j x hx
  .obtain ⟨⟨a,v⟩,ha,rfl⟩:=zN.1 hx;have:=(q42.1 ha).1;exact ⟨by simp only; omega,by simp only; omega⟩
def clRp {n:Nat}:ClL (List.replicate n (PV.vl (.int .i64 0))):=λx hx=>by
 rw [(List.mem_replicate.1 hx).2]; trivial
section
variable {F:Nat->Nat->Option Nat} {n:Nat} {cols:List Int} {num den:Nat}
open Classical in
def q23 (h:TOk F n n) (hn:n<=12) (hp:q4E cols n) (hnd:num<=den) (hd1:1<=den) (hd:den<=1000):ACt 36 [pT n n F,pI cols,iv num,iv den] (qfZ F (tM F n n).2.1 n cols num den):=by
 have hll:cols.length=n:=by have:=hp.1; omega
 have hlf:∀ i,i < n->∃ x:Nat,cols[i]?=some (x:Int)/\lfN cols i=x/\x < n:=λi hi=>by
  obtain ⟨x,hx⟩:∃ x,cols[i]?=some x:=⟨_,zA Oq⟩;have:=hp.2.1 x (zI hx);obtain ⟨y,rfl⟩:∃ y:Nat,x=y:=⟨x.toNat,ω⟩;exact ⟨y,hx,q9N hx,ω⟩
 have cK:=qfr h;have cP:=qga (l:=cols) (n:=n) Oq;rw [decide_eq_true hp] at cP;have cN:=qiB (l:=cols) Oq;have hC:=Hid.mk λ{S:LuS} {k j:Nat} (h1:LuG n k S) (h0:LuI k S) (h2:k < n) (h3:j < n)=>qhz (F:=F) (S:=S) (num:=num) (den:=den) h Oq h1.l h1.u h0 h1.r h1.len h2 h3 Oq hd;have hpl:pT n n F=q3G n n (tM F n n).1 (tM F n n).2.1 (tM F n n).2.2:=rfl;have hml:=q0y (f:=F) (R:=n) n;have hnn:n*n<=12*12:=z7 hn hn;have hmb:∀ (t:Nat) (x:Int),(tM F n n).2.1[t]?=some x->0<=x/\x < n:=λt x hx=>qix n x (zI hx);rw [hpl] at cK ⊢;unfold q3G at cK ⊢;generalize (tM F n n).1=ms at *;generalize (tM F n n).2.1=mi at *;generalize (tM F n n).2.2=mv at *;have hG:=λk=>q4U (F:=F) (mi:=mi) (n:=n) (cols:=cols) (num:=num) (den:=den) k;have hI:=λk=>facI (F:=F) (mi:=mi) (n:=n) (cols:=cols) (num:=num) (den:=den) k;have hR:=qt4 (F:=F) (mi:=mi) (n:=n) (cols:=cols) (num:=num) (den:=den);have hE:=λk=>@q6x F mi n cols num den k;have hs:=λk=>show q0i F mi n cols num den (k+1)=if (q0i F mi n cols num den k).1=0 then ((q14 F mi n (q0i F mi n cols num den k).2.2 (lfN cols k) k num den).1,if (q14 F mi n (q0i F mi n cols num den k).2.2 (lfN cols k) k num den).1=9 then k else 0,(q14 F mi n (q0i F mi n cols num den k).2.2 (lfN cols k) k num den).2) else q0i F mi n cols num den k from rfl
 have h0:q0i F mi n cols num den 0=(0,0,q22):=rfl;unfold qfZ qhi;generalize q0i F mi n cols num den=C at *;have q1:¬ (num:Int) < 0:=ω
 have q2:¬ (num:Int) > den:=ω
 have q3:¬ (den:Int) < 1:=ω
 have q4:¬ (den:Int) > 1000:=ω
 have b0:((0:Int) != 0)=false:=rfl;have bn:((n:Int) != n)=false:=σ
 refine ac0 Tryz.func36 Tryz.ntmps36 [.cell 8 63,.tmp 9,.tmp 10] ?_;refine wk1 (x6 q1 q2 q3 q4 b0 bn) ?_;refine q0B (λt=>t<=n) [1,2,3,9,10,4,8] [4,8] Lk Lk (λt:Nat=>[(12,.pt 1001 0 0),(70,iv n),(71,iv t)]) (λt=>[(1001,wkB n ms mi mv [.ow 1002 none 0 n,.ow 1003 none 0 n,q0T,q0T,q0T,q0T]),(1002,⟨3,none,List.replicate n (.vl (.int .i64 0)),false⟩),(1003,⟨3,none,plF n t,false⟩)]) (λt=>n-t) 0 (zK _) ?_ ?_
 .refine LeM [(1001,some 65),(1002,some 60),(1003,some 63)] rfl rfl ?_;refine Zz ?_
  repeat' (with_reducible apply And.intro)
  all_goals first
   | rfl
   | omega
   | exact q0G rfl clRp
   | exact q0G rfl qeo
   | exact q0G rfl qpU
   | exact q0G plF_0 qpU
 .intro t ht;have hpf:=qlz (n:=n) (t:=t)
  by_cases hlt:t < n
  .have hlt':(t:Int) < n:=ω
   refine wk1 (x2 hlt' hpf) ?_;refine ⟨t+1,ω,ω,?_⟩;refine LeM [] rfl rfl ?_;refine Zz ?_
   repeat' (with_reducible apply And.intro)
   all_goals first
    | rfl
    | omega
    | exact q0G rfl clRp
    | exact q0G rfl qeo
    | exact q0G rfl qpU
    | exact q0G (plF_s hlt) qpU
  .obtain rfl:n=t:=ω
   have hlt':¬ (n:Int) < n:=ω
   rw [plF_n];refine wk1 hlt' ?_;refine q0B (λt=>t<=mi.length) [1,2,3,9,10,4,8,12,82] [4,8,1001,1003] Lk Lk (λt:Nat=>[(83,iv mi.length),(84,iv t)]) (λt=>[(1002,⟨3,none,cnF mi n t,false⟩)]) (λt=>mi.length-t) 0 (zK _) ?_ ?_
   .refine LeM [] rfl rfl ?_;refine Zz ?_
    repeat' (with_reducible apply And.intro)
    all_goals first
     | rfl
     | omega
     | exact q0G rfl clRp
     | exact q0G rfl qeo
     | exact q0G rfl qpU
     | exact q0G cnF_0 clCn
   .intro t ht;have hcf:=qei (mi:=mi) (n:=n) (t:=t)
    by_cases hlt:t < mi.length
    .have hlt':(t:Int) < mi.length:=ω
     obtain ⟨x,hx⟩:∃ x,mi[t]?=some x:=⟨_,zA hlt⟩;obtain ⟨x1,x2⟩:=hmb t x hx;obtain ⟨r,rfl⟩:∃ r:Nat,x=r:=⟨x.toNat,ω⟩;have hrn:r < n:=ω
     have hg:=qn6 (mi:=mi) (n:=n) (t:=t) hrn;have hcs:=cnF_s hx hrn;have hcl:=qn5 (mi:=mi) (t:=t) (i:=r);generalize q15 (mi.take t) r=c at *;refine wk1 (x4 hlt' hx hg hcf) ?_;refine ⟨t+1,ω,ω,?_⟩;refine LeM [] rfl rfl ?_;refine Zz ?_
     repeat' (with_reducible apply And.intro)
     all_goals first
      | rfl
      | omega
      | exact q0G rfl clRp
      | exact q0G rfl qeo
      | exact q0G rfl qpU
      | exact q0G hcs clCn
    .obtain rfl:t=mi.length:=ω
     have hlt':¬ (mi.length:Int) < mi.length:=ω
     refine wk1 hlt' ?_;refine q1h (LeG [(5000,some 1001),(5001,some 1003),(5002,none),(5003,none),(5004,none),(5005,none)] (L:=wkL n ms mi mv q22 0 5002 5003 5004 5005) (B:=Go.E.h0) (xs:=[(1,pI cols),(2,iv num),(3,iv den),(9,iv 0),(10,iv 0),(4,.pt 4 0 0),(8,.pt 8 0 0),(12,.pt 5000 0 0),(98,pI cols),(99,iv n),(100,iv 0)]) (kv:=[]) (bs:=[(4,⟨26,some 5,[.ag [iv n,iv n,pI ms,pI mi,pF mv]],false⟩),(8,⟨63,some 8,[.ag [q0T,q0T,q0T,q0T,q0T,q0T,q0T,q0T]],false⟩)]) (kb:=[]) rfl (λi hi=>hi.elim) BOk.h0 (λi hi=>(hi rfl).elim) (λi hi hm=>(hi rfl).elim) (λp hp=>?_) (by simp [loN,win]) (by simp [q2e,q0Z,win,Go.E.h0]) ?_) ?_
     .simp only [zE,zC,or_false] at hp
      rcases hp with rfl | rfl | rfl | rfl | rfl | rfl <;> exact ⟨ω,ω⟩
     .try refine Zz1 hll ?_
      refine ⟨?_,q0G rfl qeo,rfl,rfl,rfl,rfl⟩;rw [<- cnF_n];refine q1A (T:=3) rfl clCn (λi hi=>?_) (by rw [yM]; exact zV (xL qei));simp only [q0Z] at hi
      repeat' split at hi
      all_goals first | (cases hi; done) | (cases hi; rfl)
     have hwl:hpG (wkL n ms mi mv q22 0 5002 5003 5004 5005) Go.E.h0=luW n ms mi mv (C 0).2.2 0:=by rw [h0]; rfl
     rw [hwl];refine q0g (λk=>k<=n/\(C k).1=0) [1,2,3,9,10,4,8,12,98,99] [4,8] Lk Lk (λk:Nat=>[(100,iv k)]) (λ_=>[]) (λk=>luW n ms mi mv (C k).2.2 k) (λk=>n-k) 0 ⟨zK _,by rw [h0]⟩ ?_ ?_
     .refine LeW [] rfl rfl ?_ ?_ (by simp [q1W,q0Z,win]) ?_
      .exact Ow
      .exact q04 q2m
      .try simp -implicitDefEqProofs (disch:=omega) only [go_sem,Nat.reduceEqDiff,Nat.reduceAdd,↓reduceIte];first | done | rfl
     .rintro k ⟨hk,hk0⟩;have hGk:=hG k hk0;have hIk:=(hI k hk0).1
      by_cases hkn:k < n
      .have hkn':(k:Int) < n:=ω
       obtain ⟨x,hx,hx2,hx3⟩:=hlf k hkn;have hsk:=hs k;rw [if_pos hk0,hx2] at hsk;have hEk:=hE (k+1);have cX:=hC.o hGk hIk hkn hx3;obtain ⟨res,hres⟩:∃ res,res=q14 F mi n (C k).2.2 x k num den:=⟨_,rfl⟩;rw [<- hres] at cX hsk;obtain ⟨e,r⟩:=res;obtain ⟨O,hO⟩:∃ O,O=luO n ms mi mv (e,r) (k+1):=⟨_,rfl⟩;have hcO:O=if e=0 then hpG (wkL n ms mi mv r (k+1) 5012 5013 5014 5015) Go.E.h0 else luE:=hO
       rw [<- hO] at cX;have hO5:O 5000≠none:=by
        rw [hcO]
        split <;> exact yB _
       simp only at hsk cX;generalize (C k).2.2=S at *;have hgo:∀ i,q8b (luW n ms mi mv S k) O i->¬ ¬ (5001<=i/\i<=5005):=λi ⟨h1,h2,h3⟩=>by
        have:=qaV h2;refine λhc=>hO5 ?_;rw [show 5000=i by omega];exact h3
       refine wk1 (x2 hkn' hx) ?_;refine qbK λK hK=>?_;refine Zz ?_;refine jx cX q2A (λ_ h=>h.elim) (Dd_q hgo ?_ ?_) ?_
       .repeat (refine q6Q ?_ (by first | (unfold IdP; first | trivial | exact λh=>absurd h.1 ω) | simp [IdP,IdL]))
        first
         | exact qfM (by simp [IdL,IdP]) (by simp [IdL,IdP])
         | exact λt=>by unfold Go.E.stV IdP; trivial
       .repeat (refine q6T ?_ rfl (by simp [IdL,IdP]))
        exact qcG (q9f (by simp [IdL,IdP]) (by simp [IdL,IdP]))
       try refine Zz ?_
       refine hK _ _ ?_; clear hK K
       by_cases e0:e=0
       .subst e0;rw [if_pos rfl] at hcO;have hskr:(C (k+1)).2.2=r:=by rw [hsk]
        rw [hcO];refine q1h (LeG [(5002,some 5012),(5003,some 5013),(5004,some 5014),(5005,some 5015)] (L:=wkL n ms mi mv r (k+1) 5002 5003 5004 5005) (B:=Go.E.h0) (xs:=[(1,pI cols),(2,iv num),(3,iv den),(9,iv 0),(10,iv 0),(4,.pt 4 0 0),(8,.pt 8 0 0),(12,.pt 5000 0 0),(98,pI cols),(99,iv n),(100,iv k),(18,iv 0)]) (kv:=[]) (bs:=[(4,⟨26,some 5,[.ag [iv n,iv n,pI ms,pI mi,pF mv]],false⟩),(8,⟨63,some 8,[.ag [q0T,q0T,q0T,q0T,q0T,q0T,q0T,q0T]],false⟩)]) (kb:=[]) rfl (λi hi=>hi.elim) BOk.h0 (λi hi=>(hi rfl).elim) (λi hi hm=>(hi rfl).elim) (λp hp=>?_) (by simp [loN,win]) (by simp [q2e,q0Z,win,Go.E.h0]) ?_) ?_
        .simp only [zE,zC,or_false] at hp
         rcases hp with rfl | rfl | rfl | rfl | rfl | rfl <;> exact ⟨ω,ω⟩
        .try refine Zz ?_
         have hsr:List.range k ++ [k]=List.range (k+1):=z8.symm
         repeat' (with_reducible apply And.intro)
         all_goals first
          | rfl
          | exact q0G rfl qeo
          | exact q0G rfl q8c
          | (rw [hsr]; exact q0G rfl qpV)
          | (rw [hsr]; exact q0G rfl qpX)
          | (rw [hsr]; exact q0G rfl qpW)
          | trace_state
        have b1:((0:Int) == 0)=true:=rfl;have hwl2:hpG (wkL n ms mi mv r (k+1) 5002 5003 5004 5005) Go.E.h0=luW n ms mi mv r (k+1):=rfl;rw [hwl2];refine wk1 b1 ?_;refine ⟨k+1,⟨ω,by rw [hsk]⟩,ω,?_⟩;rw [hskr];refine LeW [] rfl rfl ?_ ?_ (by simp [q1W,q0Z,win]) ?_
        .exact Ow
        .exact q04 q2m
        .try simp -implicitDefEqProofs (disch:=omega) only [go_sem,Nat.reduceEqDiff,Nat.reduceAdd,↓reduceIte];first | done | rfl
       .have hne:C n=(e,if e=9 then k else 0,r):=by rw [hEk (by rw [hsk]; exact e0) n ω,hsk]
        rw [hne];simp only;rw [if_neg e0,if_neg e0];unfold pLU;dsimp only;have b1:(e == 0)=false:=by simpa using e0
        by_cases e9:e=9
        .have b2:(e == 9)=true:=by simpa using e9
         rw [if_pos e9];exact wk1 (x2 b1 b2) trivial
        .have b2:(e == 9)=false:=by simpa using e9
         rw [if_neg e9,show ((0:Nat):Int)=0 from rfl];exact wk1 (x2 b1 b2) trivial
      .obtain rfl:n=k:=ω
       have hkn':¬ (n:Int) < n:=ω
       have hRw:=hR hk0;rw [if_pos hk0,if_pos hk0,hk0];generalize (C n).2.2=S at *;have gL:ACt 100 [.qt (some 11) (.ag [iv n,iv n,pI ms,pI mi,pF mv,cnS mi n,.sl none (plL S.rows n),.sl none (inX S.rows),.sl none ((List.range n).map λm=>.fm (qah (dM S n m))),.sl (some 2) ((List.range n).map (lnL S n)),.sl (some 2) ((List.range n).map (lnU S))]),.sl (some 2) ((List.range n).map (lnL S n))] (.tu [pI (tM (fLt S) n n).1,pI (tM (fLt S) n n).2.1,pF (tM (fLt S) n n).2.2]):=q8B Oq Oq (gt_L hRw hn);have gU:ACt 100 [.qt (some 11) (.ag [iv n,iv n,pI ms,pI mi,pF mv,cnS mi n,.sl none (plL S.rows n),.sl none (inX S.rows),.sl none ((List.range n).map λm=>.fm (qah (dM S n m))),.sl (some 2) ((List.range n).map (lnL S n)),.sl (some 2) ((List.range n).map (lnU S))]),.sl (some 2) ((List.range n).map (lnU S))] (.tu [pI (tM (fUt S) n n).1,pI (tM (fUt S) n n).2.1,pF (tM (fUt S) n n).2.2]):=q8B Oq Oq (gt_U hRw hn);have hno:∀ c,5000<=c->c<=5005->∀ i,q0Z [] i=some c->q0o (hpG [] Go.E.h0) (hpM [(4,⟨26,some 5,[.ag [iv n,iv n,pI ms,pI mi,pF mv]],false⟩),(8,⟨63,some 8,[.ag [q0T,q0T,q0T,q0T,q0T,q0T,q0T,q0T]],false⟩)] []) i=none:=λc h1 h2 i hi=>by
        have e:i=c:=tH.inj hi;subst e;rw [q0P ⟨ω,ω⟩]; rfl
       refine q1h (LeG [] (L:=[]) (B:=Go.E.h0) (xs:=[(1,pI cols),(4,.pt 4 0 0),(8,.pt 8 0 0),(98,pI cols),(99,iv n),(100,iv n),(12,.qt (some 11) (.ag [iv n,iv n,pI ms,pI mi,pF mv,cnS mi n,.sl none (plL S.rows n),.sl none (inX S.rows),.sl none ((List.range n).map λm=>.fm (qah (dM S n m))),.sl (some 2) ((List.range n).map (lnL S n)),.sl (some 2) ((List.range n).map (lnU S))]))]) (kv:=[]) (bs:=[(4,⟨26,some 5,[.ag [iv n,iv n,pI ms,pI mi,pF mv]],false⟩),(8,⟨63,some 8,[.ag [q0T,q0T,q0T,q0T,q0T,q0T,q0T,q0T]],false⟩)]) (kb:=[]) rfl (λi hi=>hi.elim) BOk.h0 (λi hi=>(hi rfl).elim) (λi hi hm=>(hi rfl).elim) (λp hp=>by cases hp) (by simp [loN,win]) (by simp [q2e,q0Z,win,Go.E.h0]) ?_) ?_
       .try refine Zz ?_
        refine .pqg (b:=wkB n ms mi mv [cnS mi n,.ow 5001 none 0 n,.ow 5002 none 0 n,.ow 5003 none 0 n,.ow 5004 (some 2) 0 n,.ow 5005 (some 2) 0 n]) ?_ rfl (by show 0 < 11; omega) rfl ?_ ?_ (hno 5000 Oq Oq)
        .try simp -implicitDefEqProofs (disch:=omega) only [go_sem,Nat.reduceEqDiff,Nat.reduceAdd,↓reduceIte]
        .try refine Zz ?_
         have htk:∀ {l:List PV},l.length=n->(l.drop 0).take n=l:=λ{l} hl=>by rw [yM]; exact zV (xL hl)
         refine ⟨q1A (T:=3) ?_ qeo (hno 5001 ω ω) (htk (by simp [plL])),q1A (T:=3) ?_ q8c (hno 5002 ω ω) (htk (by rw [tD,hGk.len])),q1A (T:=216) ?_ qpV (hno 5003 ω ω) (htk σ),q1A (T:=205) ?_ qpX (hno 5004 ω ω) (htk σ),q1A (T:=205) ?_ qpW (hno 5005 ω ω) (htk σ)⟩ <;> rfl
        .intro x hx;simp at hx
         rcases hx with rfl | rfl | rfl | rfl | rfl | rfl | rfl | rfl | rfl | rfl | rfl <;> trivial
       have eR:inX S.rows=(S.rows.map λz:Nat=>(z:Int)).map λz:Int=>iv z:=by rw [xK]; rfl
       unfold qjq pLU;dsimp only;rw [eR] at gL gU ⊢;generalize (S.rows.map λz:Nat=>(z:Int))=rowsI at *;generalize (tM (fLt S) n n).1=g1 at *;generalize (tM (fLt S) n n).2.1=g2 at *;generalize (tM (fLt S) n n).2.2=g3 at *;generalize (tM (fUt S) n n).1=g4 at *;generalize (tM (fUt S) n n).2.1=g5 at *;generalize (tM (fUt S) n n).2.2=g6 at *;exact wk1 hkn' trivial
end
def qru {f m e:Nat} (h1:f / 4503599627370496 % 2048=e) (h2:e≠0) (h3:e≠2047) (h4:f < 9223372036854775808) (h5:4503599627370496+f % 4503599627370496=m):ofZ f=(m:Int)*(2:Int) ^ (64461+e):=by
 refine q03 ?_;unfold ofF;rw [h1,if_neg h3,if_neg h2,decide_eq_false ω,h5]
 rfl
def fR_u {z K s:Nat} (hK:K=65536) (hs:s<=K) (hz:0 < z):fR 0 ((z:Int)*(2:Int) ^ (K-s))=rF 0 false z (2 ^ s):=by
 have hp:=q0R (K-s);have hpos:0 < (z:Int)*(2:Int) ^ (K-s):=Int.mul_pos Oq hp;unfold fR;rw [if_neg ω,decide_eq_false ω,q0M,zP,<- hK,show (2:Nat) ^ K=2 ^ s*2 ^ (K-s) by rw [<- Nat.pow_add]; congr 1; omega];exact q3d hz (q0F _) (q0F _)
section
variable {K:Nat}
end
def qlx {m:Int} {k c:Nat} (h:c<=k):(2:Int) ^ c ∣ m*(2:Int) ^ k:=by
 obtain ⟨e,rfl⟩:∃ e,k=c+e:=⟨k-c,ω⟩;rw [u7,xC];exact Int.dvd_mul_right _ _
def qmT {x y K:Nat} (hK:K=65536) (hx:q0O x) (hy:q0O y):q4J x y*(2:Int) ^ K=ofZ x*ofZ y/\∀ c,c<=60000->(2:Int) ^ c ∣ q4J x y:=by
 obtain ⟨m,k,h,h1,h2,h3⟩:=q2Z hx;obtain ⟨m',k',h',h1',h2',h3'⟩:=q2Z hy;have e:ofZ x*ofZ y=m*m'*(2:Int) ^ (k+k'):=by
  rw [q03 h,q03 h',u7];simp only [u9,xC,xH]
 have hb:bl (m*m').natAbs<=106:=by
  rw [Int.natAbs_mul];exact yO (q2P _ _) Oq
 have hm:=q5L (m:=m*m') (E := -131072+((k+k':Nat):Int)) Oq Oq;obtain ⟨t,ht⟩:∃ t,t=(-131072+((k+k':Nat):Int)+65536).toNat:=⟨_,rfl⟩;rw [<- ht] at hm;have hv:q4J x y=m*m'*(2:Int) ^ t:=by
  unfold q4J;rw [e,q2O,hm]; rfl
 refine ⟨?_,λc hc=>?_⟩
 .rw [hv,e,u9,<- u7,show t+K=k+k' by omega]
 .rw [hv]; exact qlx Oq
def awL (f1 f4 f2 f6:Nat) (j i:Nat):Option Nat:=if j=0 then (if i=0 then some f1 else some f4) else if i=0 then some f2 else some f6
section
variable {f1 f2 f4 f6 fq fh:Nat} {Q:Int}
structure AwN (f1 f2 f4 f6 fq fh:Nat) (Q:Int):Prop where
 q:0 < Q
 o1:ofZ f1=4*Q
 o2:ofZ f2=8*Q
 o4:ofZ f4=16*Q
 o6:ofZ f6=24*Q
 oq:ofZ fq=Q
 oh:ofZ fh=2*Q
 n1:q0O f1
 n4:q0O f4
 n6:q0O f6
 nq:q0O fq
 nh:q0O fh
 z1:¬ (f1=0\/f1=9223372036854775808)
 z4:¬ (f4=0\/f4=9223372036854775808)
 zh:¬ (fh=0\/fh=9223372036854775808)
 r1:fR 0 (4*Q)=f1
 r4:fR 0 (16*Q)=f4
 r6:fR 0 (24*Q)=f6
 rh:fR 0 (2*Q)=fh
 d:fQ 0 (4*Q) (16*Q)=fq
 m:q4J fq f6=6*Q
def fin_2 {p:Nat->Prop}:(∀ i,i < 2->p i) ↔ p 0/\p 1:=⟨λh=>⟨h 0 Oq,h 1 Oq⟩,λh i hi=>by
 rcases (by omega:i=0\/i=1) with rfl | rfl
 .exact h.1
 .exact h.2⟩
def qod {f:Nat} {V:Int} (h:ofZ f=V) (hV:0 < V):abZ f=V:=by unfold abZ; rw [h]; omega
section
variable {F:Nat->Nat->Option Nat} {mi:List Int} {S q t:LuS} {j k p:Nat}
def qkI (h0:q0O (rsV F q j k 0)) (h1:q0O (rsV F q j k 1)) (hb:bsP (rsV F q j k) q mi 1 1 (mxZ (rsV F q j k) 2) 2=(p:Nat)) (ht:loS (pvS q k (rsV F q j k) p) k (rsZ F q j k) (ofZ (rsV F q j k p)) 2=some t):qf0 F mi 2 S j k 1 1 q=(0,t):=by
 unfold qf0;rw [if_pos (fin_2.2 ⟨h0,h1⟩),hb,if_neg ω,zX,ht]
end
section
variable {v:Nat->Nat} {S:LuS} {mi:List Int} {num den i:Nat} {w:Int}
def qgU:mxZ v (i+1)=if mxZ v i < abZ (v i) then abZ (v i) else mxZ v i:=rfl
def qu8 (h:i ∈ S.rows\/(v i=0\/v i=9223372036854775808)\/(den:Int)*abZ (v i) < num*w):bsP v S mi num den w (i+1)=bsP v S mi num den w i:=by rw [bsP,if_pos h]
def qu7 (h:¬ (i ∈ S.rows\/(v i=0\/v i=9223372036854775808)\/(den:Int)*abZ (v i) < num*w)) (h2:bsP v S mi num den w i < 0):bsP v S mi num den w (i+1)=i:=by rw [bsP,if_neg h,if_pos (.inl h2)]
def qde {z:Nat->Int} {d:Int} {t:LuS} {k:Nat} (h:loS S k z d i=some t) (hi:i ∈ S.rows):loS S k z d (i+1)=some t:=by rw [loS,h,tG,if_pos hi]
def qm0 {z:Nat->Int} {d:Int} {t:LuS} {k f:Nat} (h:loS S k z d i=some t) (hi:i ∉ S.rows) (hq:q4H 0 (z i) d=f) (hf:q0O f):loS S k z d (i+1)=some { t with l:=q28 t.l i k f,iL:=q4W t.iL i k (decide (z i≠0)) }:=by rw [loS,h,tG,if_neg hi,hq,if_pos hf]
end
def aw_1 (h:AwN f1 f2 f4 f6 fq fh Q) {mi:List Int}:∃ r,q14 (awL f1 f4 f2 f6) mi 2 q22 0 0 1 1=(0,r)/\r.rows=[1]/\r.l 0 0=fq/\r.iL 0 0=true/\(∀ i m,(i≠0\/m≠0)->r.iL i m=false):=by
 have hq:=h.q;have e0:rsZ (awL f1 f4 f2 f6) q22 0 0 0=4*Q:=by
  show q1l [ofZ f1]=_
  rw [q2r,h.o1]
 have e1:rsZ (awL f1 f4 f2 f6) q22 0 0 1=16*Q:=by
  show q1l [ofZ f4]=_
  rw [q2r,h.o4]
 have v0:rsV (awL f1 f4 f2 f6) q22 0 0 0=f1:=by
  unfold rsV;rw [if_neg (by simp [q22]),e0,h.r1]
 have v1:rsV (awL f1 f4 f2 f6) q22 0 0 1=f4:=by
  unfold rsV;rw [if_neg (by simp [q22]),e1,h.r4]
 have a1:=qod h.o1 Oq;have a4:=qod h.o4 Oq;have hm:mxZ (rsV (awL f1 f4 f2 f6) q22 0 0) 2=16*Q:=by
  have h1:mxZ (rsV (awL f1 f4 f2 f6) q22 0 0) 1=4*Q:=by
   rw [qgU,v0,a1];exact if_pos (show (0:Int) < 4*Q by omega)
  rw [qgU,v1,a4,h1,if_pos ω]
 have hb:bsP (rsV (awL f1 f4 f2 f6) q22 0 0) q22 mi 1 1 (mxZ (rsV (awL f1 f4 f2 f6) q22 0 0) 2) 2=((1:Nat):Int):=by
  rw [hm];refine qu7 (λhc=>?_) ?_
  .rw [v1,a4] at hc
   rcases hc with hc | hc | hc
   .simp [q22] at hc
   .exact h.z4 hc
   .omega
  .rw [qu8 (.inr (.inr (by rw [v0,a1]; omega)))]
   show (-1:Int) < 0
   omega
 have hl:=qde (S:=pvS q22 0 (rsV (awL f1 f4 f2 f6) q22 0 0) 1) (i:=1) (qm0 (S:=pvS q22 0 (rsV (awL f1 f4 f2 f6) q22 0 0) 1) (k:=0) (z:=rsZ (awL f1 f4 f2 f6) q22 0 0) (d:=ofZ (rsV (awL f1 f4 f2 f6) q22 0 0 1)) (i:=0) (f:=fq) rfl (by simp [pvS,q22]) (by
  rw [v1,h.o4,e0];unfold q4H;rw [if_neg ω,h.d]) h.nq) (by simp [pvS,q22])
 rw [e0,decide_eq_true (show (4*Q:Int)≠0 by omega)] at hl;refine ⟨_,qkI (by rw [v0]; exact h.n1) (by rw [v1]; exact h.n4) hb hl,rfl,?_,?_,λi m hi=>?_⟩
 .show q28 q22.l 0 0 fq 0 0=fq
  exact if_pos ⟨rfl,rfl⟩
 .show q4W q22.iL 0 0 true 0 0=true
  exact if_pos ⟨rfl,rfl⟩
 .show q4W q22.iL 0 0 true i m=false
  refine (if_neg λhc=>?_).trans rfl
  rcases hi with hi | hi
  .exact hi hc.1
  .exact hi hc.2
def aw_2 (h:AwN f1 f2 f4 f6 fq fh Q) {mi:List Int} {S:LuS} (hr:S.rows=[1]) (hl:S.l 0 0=fq) (hi:∀ i m,(i≠0\/m≠0)->S.iL i m=false) (hi0:S.iL 0 0=true):∃ r,q14 (awL f1 f4 f2 f6) mi 2 S 1 1 1 1=(0,r)/\r.rows=[1,0]/\r.l 0 0=fq/\r.iL 0 0=true/\(∀ i m,(i≠0\/m≠0)->r.iL i m=false):=by
 have hq:=h.q;obtain ⟨q,hqq⟩:∃ q:LuS,q={ S with u:=q28 S.u 0 1 f6,iU:=q4W S.iU 0 1 true }:=⟨_,rfl⟩;have hu:upS (awL f1 f4 f2 f6) S 1 1 1=some q:=by
  have ez:luZ (awL f1 f4 f2 f6) S.l S.u (S.rows.getD 0 0) 1 1 0=24*Q:=by
   rw [hr]
   show q1l [ofZ f6]=_
   rw [q2r,h.o6]
  simp only [upS,tG,ez,h.r6];rw [if_pos h.n6,decide_eq_true ω,hqq]
 have qr:q.rows=[1]:=by rw [hqq]; exact hr
 have ql:q.l=S.l:=by rw [hqq]
 have qi:q.iL=S.iL:=by rw [hqq]
 have qu:q.u 0 1=f6:=by
  rw [hqq]
  show q28 S.u 0 1 f6 0 1=f6
  exact if_pos ⟨rfl,rfl⟩
 have e0:rsZ (awL f1 f4 f2 f6) q 1 1 0=2*Q:=by
  show q1l ([ofZ f2] ++ [-(q4J (q.l 0 0) (q.u 0 1))])=_
  rw [q10,q2r,ql,hl,qu,h.m,h.o2];omega
 have v0:rsV (awL f1 f4 f2 f6) q 1 1 0=fh:=by
  unfold rsV;rw [if_neg (by rw [qr]; simp),e0,h.rh]
 have v1:rsV (awL f1 f4 f2 f6) q 1 1 1=0:=by
  unfold rsV;rw [if_pos (by rw [qr]; simp)]
 have ah:=qod h.oh Oq;have a0:abZ 0=0:=by unfold abZ; rw [q03 q2u]; rfl
 have hm:mxZ (rsV (awL f1 f4 f2 f6) q 1 1) 2=2*Q:=by
  have h1:mxZ (rsV (awL f1 f4 f2 f6) q 1 1) 1=2*Q:=by
   rw [qgU,v0,ah];exact if_pos (show (0:Int) < 2*Q by omega)
  rw [qgU,v1,a0,h1,if_neg ω]
 have hb:bsP (rsV (awL f1 f4 f2 f6) q 1 1) q mi 1 1 (mxZ (rsV (awL f1 f4 f2 f6) q 1 1) 2) 2=((0:Nat):Int):=by
  rw [hm,qu8 (.inl (by rw [qr]; simp))];refine qu7 (λhc=>?_) (show (-1:Int) < 0 by omega);rw [v0,ah] at hc
  rcases hc with hc | hc | hc
  .rw [qr] at hc; simp at hc
  .exact h.zh hc
  .omega
 have hlo:=qde (S:=pvS q 1 (rsV (awL f1 f4 f2 f6) q 1 1) 0) (i:=1) (qde (S:=pvS q 1 (rsV (awL f1 f4 f2 f6) q 1 1) 0) (k:=1) (z:=rsZ (awL f1 f4 f2 f6) q 1 1) (d:=ofZ (rsV (awL f1 f4 f2 f6) q 1 1 0)) (i:=0) rfl (by simp [pvS])) (by simp [pvS,qr]);refine ⟨pvS q 1 (rsV (awL f1 f4 f2 f6) q 1 1) 0,?_,?_,?_,?_,?_⟩
 .unfold q14;rw [hu];exact qkI (by rw [v0]; exact h.nh) (by rw [v1]; unfold q0O; simp) hb hlo
 .show q.rows ++ [0]=_
  rw [qr]; rfl
 .show q.l 0 0=_
  rw [ql,hl]
 .show q.iL 0 0=_
  rw [qi,hi0]
 .intro i m hc
  show q.iL i m=_
  rw [qi,hi i m hc]
def qun (h:AwN f1 f2 f4 f6 fq fh Q) {mi:List Int}:∃ f:LUt,qfZ (awL f1 f4 f2 f6) mi 2 [0,1] 1 1=.tu [pLU f,iv 2,iv 0]/\f.rows=[1,0]/\f.lv=[fq]:=by
 obtain ⟨r,c1,c2,c3,c4,c5⟩:=aw_1 h (mi:=mi);obtain ⟨t,d1,d2,d3,d4,d5⟩:=aw_2 h (mi:=mi) c2 c3 c5 c4;have e1:q0i (awL f1 f4 f2 f6) mi 2 [0,1] 1 1 1=(0,0,r):=by
  have:lfN [0,1] 0=0:=rfl;simp only [q0i,this,c1,if_true]
  rfl
 have e2:q0i (awL f1 f4 f2 f6) mi 2 [0,1] 1 1 2=(0,0,t):=by
  have:lfN [0,1] 1=1:=rfl;rw [q0i,e1];simp only [this,d1,if_true]
  rfl
 refine ⟨qjq t [0,1] 2,?_,?_,?_⟩
 .unfold qfZ qhi;rw [e2]
  rfl
 .show t.rows.map _=_
  rw [d2]; rfl
 .show (tM (fLt t) 2 2).2.2=[fq]
  have g0:fLt t 0 0=none:=if_neg λhc=>by omega
  have g1:fLt t 0 1=some fq:=by
   unfold fLt;have g:t.rows.getD 1 0=0:=by rw [d2]; rfl
   rw [g,if_pos ⟨ω,d4⟩,d3]
  have g2:fLt t 1 0=none:=if_neg λhc=>by omega
  have g3:fLt t 1 1=none:=if_neg λhc=>by omega
  simp [tM,tC,g0,g1,g2,g3]
end
def qum:∃ Q,AwN 4607182418800017408 4611686018427387904 4616189618054758400 4618441417868443648 4598175219545276416 4602678819172646912 Q:=by
 obtain ⟨K,hK⟩:∃ K:Nat,K=65536:=⟨_,rfl⟩;obtain ⟨P,hP⟩:∃ P:Nat,P=K-2:=⟨_,rfl⟩;have p50:(4503599627370496:Int)=(2:Int) ^ 52:=by decide
 have p51:(6755399441055744:Int)=3*(2:Int) ^ 51:=by decide
 have hp:=q0R P;have b:∀ (f e a:Nat),f / 4503599627370496 % 2048=e->e≠0->e≠2047->f < 9223372036854775808->f % 4503599627370496=0->e=1021+a->ofZ f=(2:Int) ^ a*(2:Int) ^ P:=λf e a h1 h2 h3 h4 h5 h6=>by
  rw [qru (m:=4503599627370496) h1 h2 h3 h4 ω,show (((4503599627370496:Nat):Int))=(2:Int) ^ 52 from p50,<- u7,<- u7]
  congr 1
  omega
 have o1:ofZ 4607182418800017408=4*(2:Int) ^ P:=b _ 1023 2 Oq Oq Oq Oq Oq Oq;have o2:ofZ 4611686018427387904=8*(2:Int) ^ P:=b _ 1024 3 Oq Oq Oq Oq Oq Oq;have o4:ofZ 4616189618054758400=16*(2:Int) ^ P:=b _ 1025 4 Oq Oq Oq Oq Oq Oq;have oq:ofZ 4598175219545276416=(2:Int) ^ P:=by have:=b 4598175219545276416 1021 0 ω ω ω ω ω ω; rw [this]; exact Int.one_mul _
 have oh:ofZ 4602678819172646912=2*(2:Int) ^ P:=b _ 1022 1 Oq Oq Oq Oq Oq Oq;have o6:ofZ 4618441417868443648=24*(2:Int) ^ P:=by
  rw [qru (m:=6755399441055744) (e:=1025) ω ω ω ω ω,show (((6755399441055744:Nat):Int))=3*(2:Int) ^ 51 from p51,u9,<- u7,show (24:Int)=3*(2:Int) ^ 3 from rfl,u9,<- u7]
  congr 2
  omega
 have r:∀ z f:Nat,0 < z->rF 0 false z 4=f->fR 0 ((z:Int)*(2:Int) ^ P)=f:=λz f hz h=>by
  rw [hP,fR_u hK ω hz]; exact h
 have hm:q4J 4598175219545276416 4618441417868443648=6*(2:Int) ^ P:=by
  have h1:=(qmT hK (x:=4598175219545276416) (y:=4618441417868443648) (by unfold q0O; omega) (by unfold q0O; omega)).1;rw [oq,o6] at h1;refine Int.eq_of_mul_eq_mul_right (Int.ne_of_gt (q0R K)) (h1.trans ?_);have e:(2:Int) ^ K=4*(2:Int) ^ P:=by rw [show K=2+P by omega,u7]; rfl
  rw [e];generalize (2:Int) ^ P=x;rw [show (24:Int)*x=6*4*x from rfl];simp only [u9,xC,xH]
 have hd:fQ 0 (4*(2:Int) ^ P) (16*(2:Int) ^ P)=4598175219545276416:=by
  rw [fQ_K P ω ω]
  show rF 0 false 4 16=4598175219545276416
  kernel_rfl
 exact ⟨(2:Int) ^ P,hp,o1,o2,o4,o6,oq,oh,by unfold q0O; omega,by unfold q0O; omega,by unfold q0O; omega,by unfold q0O; omega,by unfold q0O; omega,ω,ω,ω,r 4 _ Oq κ,r 16 _ Oq κ,r 24 _ Oq κ,r 2 _ Oq κ,hd,hm⟩
def qup:TOk (awL 4607182418800017408 4616189618054758400 4611686018427387904 4618441417868443648) 2 2:=by
 refine ⟨ω,ω,ω,λj i x _ _ h=>?_,λj i x _ _ h=>?_⟩
 .unfold awL at h
  repeat' split at h
  all_goals (cases h; omega)
 .unfold awL at h
  repeat' split at h
  all_goals (cases h; unfold q0O; omega)
end Go.Proofs.YtbjoghfmhgadkaaGreatDoor
namespace Go.E
open Go Go.RowKit
end Go.E
namespace Go.Proofs.YtbjoghfmhgadkaaGreatDoor
open Go Go.E Go.Sp
section
variable {pm cp ri:List Int} {vs l:List Nat}
end
section
variable {pm cp ri:List Int} {vs b:List Nat} {f:FuncId} {r:PV}
end

def q1r {l:List Int} (hn:l.length<=1000000):ACt 41 [pI l,pI l] (bv true):=by
 have q:((l.length:Int) != (l.length:Int))=false:=σ
 refine ac0 Tryz.func41 Tryz.ntmps41 [.tmp 4] ?_;refine wk1 q ?_;refine q0B (λi=>i<=l.length) [0,1] [] Lk Lk (λi:Nat=>[(5,iv i)]) (λ_=>[]) (λi=>l.length-i) 0 (zK _) ?_ ?_
 .refine LeM [] rfl rfl ?_;refine Zz ?_
  rfl
 .intro i hi
  by_cases hil:i < l.length
  .obtain ⟨x,hx⟩:∃ x,l[i]?=some x:=⟨_,zA hil⟩;have q2:(x != x)=false:=σ
   refine wk1 (x2 hx q2) ?_;refine ⟨i+1,ω,ω,?_⟩;refine LeM [] rfl rfl ?_;refine Zz ?_
   rfl
  .exact wk trivial
end Go.Proofs.YtbjoghfmhgadkaaGreatDoor
namespace Go.E
open Go Go.RowKit
section
variable {P:Program} {Tb:World->Prop} {s:Nat->PV} {h:Hp} {K:PV->Hp->FP->Prop} {t:TypeId} {dd:Nat}
def qvF [NL] {a b c f}:ao P Tb (some dd) (.buildSlice t 4 #[(0,a),(1,b),(2,c),(3,f)]) s h K=nnK (h dd) dd (@oK _ (elK P t) ⟨λe=>@cK (4*ksz e.2.1<=16777216) ⟨vK (pe s a) λx=>vK (pe s b) λy=>vK (pe s c) λz=>vK (pe s f) λu=>q1T e.2.1 x (q1T e.2.1 y (q1T e.2.1 z (q1T e.2.1 u (K (.ow dd e.2.1 0 4) (q0S h dd ⟨e.1,e.2.1,[x,y,z,u],false⟩) ([],[dd])))))⟩⟩):=by
 have:=qfE (P:=P) (Tb:=Tb) (s:=s) (h:=h) (K:=K) (t:=t) (dd:=dd) (len:=4) (ps:=[(0,a),(1,b),(2,c),(3,f)]) rfl;simpa [oK,cK,q8E,q8D,vK] using this
attribute [go_sem ↓] qvF
end
section
variable {P:Program} {Tb:World->Prop} {J:Nat->Prop} {n:Nat} {Q:SQ} {s:Nat->PV} {h:Hp}
def leK [NL] (J:Nat->Prop) (s:Nat->PV) (h:Hp) (C:(Nat->PV)->Hp->Prop):Prop:=∃ s' h',Le J s h s' h'/\C s' h'
def qtB [NL] {C:(Nat->PV)->Hp->Prop} {s':Nat->PV} {h':Hp} (hl:Le J s h s' h') (hC:C s' h'):leK J s h C:=⟨_,_,hl,hC⟩
def A_ler [NL] {i:Nat} {l:List Oper} {b:Code} (k:Nat) {l1 l2:List Oper} (hw:∀ K:(Nat->PV)->Hp->Prop,(∀ s h,AW P Tb J n b Q s h->K s h)->AL P Tb l (λs1 h1 acc=>leK J s1 h1 λs' h'=>AL P Tb l (λs h _=>K s h) l2 s' h' acc) l1 s h [])
  (e1:l.take k=l1:=by simp only [List.take_succ_cons,List.take_zero]; rfl) (e2:l.drop k=l2:=by simp only [List.drop_succ_cons,yM]; rfl):AW P Tb J n (.seq (.region i l.toArray false) b) Q s h:=by
 subst e1 e2;refine q3N λK hK=>q9i k λK1 hK1=>?_;refine q59 (λs h acc hq=>?_) (hw K1 λs h hb=>hK1 s h (hK s h hb));obtain ⟨s',h',q1,q2⟩:=hq;exact ⟨s',h',q1,q2⟩
end
end Go.E
namespace Go.Proofs.YtbjoghfmhgadkaaGreatDoor
open Go Go.E Go.Sp
structure LUs (f:LUt):Prop where
 h1:f.rows.length<=1000000
 h2:f.cols.length<=1000000
 h3:f.ls.length<=1000000
 h4:f.li.length<=1000000
 h5:f.lv.length<=1000000
 h6:f.us.length<=1000000
 h7:f.ui.length<=1000000
 h8:f.uv.length<=1000000
def q7e {f:LUt} (h:LUs f):ACt 37 [pLU f,pLU f] (bv true):=by
 have c1:=q1r h.h1;have c2:=q1r h.h2;have c3:=q1r h.h3;have c4:=q1r h.h4;have c5:=q6K h.h5;have c6:=q1r h.h6;have c7:=q1r h.h7;have c8:=q6K h.h8;unfold pLU;refine ac0 Tryz.func37 Tryz.ntmps37 [.tmp 4] ?_;exact wk trivial
def qkE {F:Nat->Nat->Option Nat} {mi:List Int} {n num den:Nat} {cols:List Int} (hn:n<=100) (hc:cols.length<=1000000):LUs (qhi F mi n cols num den):=by
 have hnn:n*n<=100*100:=z7 hn hn;unfold qhi
 split
 .rename_i h;have hG:=q4U (F:=F) (mi:=mi) (n:=n) (cols:=cols) (num:=num) (den:=den) n h;generalize (q0i F mi n cols num den n).2.2=S at *;have h1:=q0y (f:=fLt S) (R:=n) n;have h2:=q0y (f:=fUt S) (R:=n) n;have h3:=hG.len;unfold qjq;refine ⟨?_,?_,?_,?_,?_,?_,?_,?_⟩ <;> simp only [tD] <;> omega
 .exact ⟨zK _,zK _,zK _,zK _,zK _,zK _,zK _,zK _⟩
def q53:ACt 38 [] (bv true):=by
 obtain ⟨Q,hQ⟩:=qum;have cF:=q23 (num:=1) (den:=1) (cols:=[0,1]) qup Oq ⟨rfl,λx hx=>by
  simp at hx
  rcases hx with rfl | rfl <;> exact ⟨ω,ω⟩,σ⟩ ω ω ω
 obtain ⟨f,e1,e2,e3⟩:=qun hQ (mi:=(tM (awL 4607182418800017408 4616189618054758400 4611686018427387904 4618441417868443648) 2 2).2.1);rw [e1] at cF;have cK:=q1r (l:=[1,0]) σ;obtain ⟨a1,a2,a3,a4,a5,a6,a7,a8⟩:=f;simp only at e2 e3;subst e2 e3;unfold pLU at cF;have D:ACt 36 [.ag [iv 2,iv 2,.sl none [iv 0,iv 2,iv 4],.sl none [iv 0,iv 1,iv 0,iv 1],.sl none [uv 4607182418800017408,uv 4616189618054758400,uv 4611686018427387904,uv 4618441417868443648]],.sl none [iv 0,iv 1],iv 1,iv 1] (.tu [.ag [.sl none [iv 1,iv 0],pI a2,pI a3,pI a4,.sl none [uv 4598175219545276416],pI a6,pI a7,pF a8],iv 2,iv 0]):=cF;have DK:ACt 41 [.sl none [iv 1,iv 0],.sl none [.vl (.int .i64 1),.vl (.int .i64 0)]] (bv true):=cK;clear cF cK;have hI:∀ z:Int,0 < z->z<=9->∀ f:Nat,fR 0 (z*(2:Int) ^ 65536)=f->ACt 68 [iv z,iv 0] (uv (f:Nat)):=λz h1 h2 f h=>by
  rw [<- h];exact q6B (z:=z) (mode:=0) Oq Oq (q9J (by have:=q0N (n:=z.natAbs) (k:=4) ω; omega))
 have r:∀ z f:Nat,0 < z->rF 0 false z 1=f->fR 0 ((z:Int)*(2:Int) ^ 65536)=f:=λz f hz h=>by
  have:=fR_u (z:=z) (K:=65536) (s:=0) rfl Oq hz;rw [Nat.sub_zero] at this;rw [this]; exact h
 have C2:ACt 68 [iv 2,iv 0] (uv 4611686018427387904):=hI 2 Oq Oq _ (r 2 _ Oq κ);have C4:ACt 68 [iv 4,iv 0] (uv 4616189618054758400):=hI 4 Oq Oq _ (r 4 _ Oq κ);have C6:ACt 68 [iv 6,iv 0] (uv 4618441417868443648):=hI 6 Oq Oq _ (r 6 _ Oq κ);clear hI r hQ;have b0:((0:Int) == 0)=true:=rfl;have b2:((2:Int) == 2)=true:=rfl;have bq:((4598175219545276416:Int) == 4598175219545276416)=true:=by decide
 have b1:((1:Int) == 1)=true:=rfl;refine ac0 Tryz.func38 Tryz.ntmps38 [.tmp 0] ?_;refine wk ?_;refine A_ler 8 λK hK=>?_
 try refine Zz ?_
 refine qtB (LeG [] (L:=[]) (B:=Go.E.h0) (xs:=[(17,.ag [iv 2,iv 2,.sl none [iv 0,iv 2,iv 4],.sl none [iv 0,iv 1,iv 0,iv 1],.sl none [uv 4607182418800017408,uv 4616189618054758400,uv 4611686018427387904,uv 4618441417868443648]]),(18,.sl none [iv 0,iv 1])]) (kv:=[]) (bs:=[]) (kb:=[]) rfl (λi hi=>hi.elim) BOk.h0 (λi hi=>(hi rfl).elim) (λi hi hm=>(hi rfl).elim) (λp hp=>by cases hp) (by simp [loN,win]) (by simp [q2e,q0Z,win,Go.E.h0]) ?_) ?_
 .have hno:∀ c,c < 100->∀ i,q0Z [] i=some c->q0o (hpG [] Go.E.h0) (hpM [] []) i=none:=λc hc i hi=>by
   have e:i=c:=tH.inj hi;subst e;rw [q1G λhw=>by have:=hw.1; omega]; rfl
  have hcl:∀ (k:IntKind) (l:List Int),ClL (l.map λz=>PV.vl (.int k z)):=λk l x hx=>by
   obtain ⟨z,_,rfl⟩:=zN.1 hx; trivial
  try refine Zz ?_
  exact ⟨⟨q1A (T:=3) rfl (hcl .i64 [0,2,4]) (hno 11 Oq) rfl,q1A (T:=3) rfl (hcl .i64 [0,1,0,1]) (hno 12 Oq) rfl,q1A (T:=32) rfl (hcl .u64 [4607182418800017408,4616189618054758400,4611686018427387904,4618441417868443648]) (hno 16 Oq) rfl⟩,q1A (T:=3) rfl (hcl .i64 [0,1]) (hno 18 Oq) rfl⟩
 try refine Zz ?_
 refine q0J D ?_
 try refine Zz ?_
 refine hK _ _ ?_; clear hK K;refine qfS λK hK=>?_;simp -implicitDefEqProofs (disch:=omega) only [go_sem,Nat.reduceEqDiff,Nat.reduceAdd,↓reduceIte,i64_in,yJ,u6,zU,yP,yQ,yR,zP,yK,yE,yL,yF,q5n,q5o,q5s,q5t,q5p,q5q,q2I,q2J,q2K,q2L,q2G,q2H,b0,b2,bq,b1];refine q2z DK qpH ?_;have bN:(((1:Nat):Int) == 1)=true:=rfl
 try refine Zz5 b0 b2 bq b1 bN ?_
 refine hK _ _ ?_; clear hK K;exact wk trivial
section
variable {raw:List Nat} {n st:Int} {rg:Bool}
def q8y (raw:List Nat) (n st:Int) (rg:Bool):Nat->Nat->Option Nat:=if rg then rgF (gF raw (q06 n 6) (q06 (q06 st 3:Nat) 4)) (q06 n 6) else gF raw (q06 n 6) (q06 st 4)
def qaM:TOk (q8y raw n st rg) (q06 n 6) (q06 n 6):=by
 have hN:q06 n 6 < 6:=by unfold q06; omega
 have hk:q06 (q06 st 3:Nat) 4 < 3:=by unfold q06; omega
 have hnn:q06 n 6*q06 n 6<=6*6:=z7 Oq Oq;unfold q8y
 split
 .exact qj1 Oq hk
 .exact qgu Oq Oq Oq
def qaN (hr:raw.length<=9223372036854775807) (h1 : -9223372036854775808<=n) (h2:n<=9223372036854775807) (h3 : -9223372036854775808<=st) (h4:st<=9223372036854775807):ACt 34 [pF raw,iv n,iv st,bv rg] (.tu [pT (q06 n 6) (q06 n 6) (q8y raw n st rg),pI (q3R raw (q06 n 6))]):=by
 have hN:q06 n 6 < 6:=by unfold q06; omega
 have cM:=q3H (a:=n) (n:=6) h1 h2 Oq Oq;have cO:=qgQ (raw:=raw) (N:=q06 n 6) hr Oq;cases rg
 .have cG:=q5V (raw:=raw) (st:=st) (R:=q06 n 6) (C:=q06 n 6) hr Oq Oq h3 h4;have e:q8y raw n st false=gF raw (q06 n 6) (q06 st 4):=rfl;rw [e];generalize gF raw (q06 n 6) (q06 st 4)=G at *;generalize q06 n 6=N at *;generalize q3R raw N=o at *;unfold pT q3G at *;refine ac0 Tryz.func34 Tryz.ntmps34 [.cell 8 26,.tmp 9] ?_;exact wk trivial
 .have cR:=q5z (raw:=raw) (st:=st) (n:=q06 n 6) hr Oq h3 h4;have e:q8y raw n st true=rgF (gF raw (q06 n 6) (q06 (q06 st 3:Nat) 4)) (q06 n 6):=rfl;rw [e];generalize rgF (gF raw (q06 n 6) (q06 (q06 st 3:Nat) 4)) (q06 n 6)=G at *;generalize q06 n 6=N at *;generalize q3R raw N=o at *;unfold pT q3G at *;refine ac0 Tryz.func34 Tryz.ntmps34 [.cell 8 26,.tmp 9] ?_;exact wk trivial
def thD (den:Int):Nat:=1+q06 den 1000
def thN (num den:Int):Nat:=q06 num (thD den+1)
def qqK {num den:Int}:thN num den<=thD den/\1<=thD den/\thD den<=1000:=by
 have h1:q06 den 1000 < 1000:=by unfold q06; omega
 have h2:q06 num (thD den+1) < thD den+1:=q3T Oq;unfold thN;have h3:thD den=1+q06 den 1000:=rfl;omega
def q41 {num den:Int} (h5 : -9223372036854775808<=num) (h6:num<=9223372036854775807) (h7 : -9223372036854775808<=den) (h8:den<=9223372036854775807):ACt 35 [iv num,iv den] (.tu [iv (thN num den),iv (thD den)]):=by
 have h1:q06 den 1000 < 1000:=by unfold q06; omega
 have c1:=q3H (a:=den) (n:=1000) h7 h8 Oq Oq;have c2:=q3H (a:=num) (n:=thD den+1) h5 h6 Oq (by unfold thD; omega);have e1:(1:Int)+(q06 den 1000:Nat)=(thD den:Nat):=by unfold thD; omega
 have e2:((thD den:Nat):Int)+1=((thD den+1:Nat):Int):=rfl;have hb:thD den<=1000:=by unfold thD; omega
 have e3:thN num den=q06 num (thD den+1):=rfl;rw [e3];generalize thD den=d at *;generalize q06 den 1000=m at *;generalize q06 num (d+1)=p at *;refine ac0 Tryz.func35 Tryz.ntmps35 [.tmp 4,.tmp 5] ?_;exact wk1 (x2 e1 e2) trivial
def q7q {num den:Int} (hr:raw.length<=9223372036854775807) (h1 : -9223372036854775808<=n) (h2:n<=9223372036854775807) (h3 : -9223372036854775808<=st) (h4:st<=9223372036854775807) (h5 : -9223372036854775808<=num) (h6:num<=9223372036854775807) (h7 : -9223372036854775808<=den) (h8:den<=9223372036854775807) :
  ACt 6 [pF raw,iv n,iv st,bv rg,iv num,iv den] (bv true):=by
 have hN:q06 n 6 < 6:=by unfold q06; omega
 have cP:=qaN (rg:=rg) hr h1 h2 h3 h4;have cT:=q41 h5 h6 h7 h8;have cA:=q53;have hF:=qaM (raw:=raw) (n:=n) (st:=st) (rg:=rg);obtain ⟨t1,t2,t3⟩:=qqK (num:=num) (den:=den);generalize thN num den=p at *;generalize thD den=q at *;generalize q8y raw n st rg=F at *;generalize q06 n 6=N at *;have hpm:=qaP raw N;have hll:=q5K raw N;have hP:q4E (q3R raw N) N:=⟨by rw [hll],λx hx=>by have:=hpm.1 x hx; omega,hpm.2⟩;generalize q3R raw N=o at *;have c1:=q23 hF Oq hP t1 t2 t3;have c2:=qaZ hF Oq hP t1 t2 t3;have hs:=qkE (F:=F) (mi:=(tM F N N).2.1) (n:=N) (cols:=o) (num:=p) (den:=q) Oq Oq;have cS:=q7e hs;unfold qfZ at c1 c2;generalize qhi F (tM F N N).2.1 N o p q=f at *;obtain ⟨x,hx⟩:∃ x:Nat,x=if (q0i F (tM F N N).2.1 N o p q N).1=0 then N else (q0i F (tM F N N).2.1 N o p q N).2.1:=⟨_,rfl⟩
 rw [<- hx] at c1 c2;generalize (q0i F (tM F N N).2.1 N o p q N).1=e at *;have r1:(e == e)=true:=σ
 have r2:((x:Int) == x)=true:=σ
 clear hx;unfold pLU pT q3G at *;refine ac0 Tryz.func6 Tryz.ntmps6 [.tmp 12] ?_;exact wk1 (x2 r1 r2) trivial
end
end Go.Proofs.YtbjoghfmhgadkaaGreatDoor
