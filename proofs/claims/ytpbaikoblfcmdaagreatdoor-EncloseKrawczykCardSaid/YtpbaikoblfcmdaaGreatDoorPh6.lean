/- EncloseKrawczyk: the program and the document agree 6/7. -/
import Derived.Test.YtpbaikoblfcmdaaGreatDoorPh5
open Int renaming pow_add->zM,mul_assoc->zP,natAbs_natCast->zZ,mul_pos->z6
open List renaming map_append->zA,getElem?_map->zB,getElem?_eq_getElem->zC,length_map->zD,mem_of_getElem?->zF,getElem?_range->zG,take_of_length_le->zI,take_succ_cons->zJ,drop_succ_cons->zK,getElem?_eq_none->zN,mem_map->zO,drop_zero->zQ,range_succ->zR,getElem?_append_left->zS,mem_append->zU,map_congr_left->zW,getElem?_append_right->zX,getD_eq_getElem?_getD->zY,map_cons->tL,getElem?_cons_succ->tP,getElem?_set_self->tQ,map_map->tS
open Nat renaming zero_le->zE,le_refl->zH,mul_le_mul->zL,le_trans->tT
open Option renaming some->tV,map_some->zV
set_option linter.unusedSimpArgs false
set_option linter.unusedVariables false
set_option maxRecDepth 20000
set_option maxHeartbeats 2000000
set_option linter.defProp false
namespace Go.Proofs.YtpbaikoblfcmdaaGreatDoor
open Go Go.E Go.Sp
def qbt {a:Nat}:∀ d:Nat,0 < d->a+d < 9223372036854775808->q0F (a+d)->ofZ a < ofZ (a+d)
 | 0,h,_,_=>by omega
 | d+1,_,h,hf=>by
  have h0:q0F (a+d):=by unfold q0F at *; omega
  have e:=qjS (a:=a+d) (by omega) (by rw [show a+d+1=a+(d+1) by omega]; exact hf) h0;have hp:=q0M (qbR (a+d));rw [show a+d+1=a+(d+1) by omega] at e
  by_cases hd:d=0
  ·have e0:a+d=a:=by omega
   rw [e0] at e hp; omega
  ·have:=qbt d Oq Oq h0;omega
def q9J {a b:Nat} (h:a < b) (hb:b < 9223372036854775808) (hf:q0F b):ofZ a < ofZ b:=by
 obtain ⟨d,rfl⟩:∃ d,b=a+d:=⟨b-a,by omega⟩;exact qbt d Oq hb hf
def qdX:ofZ 0=0:=q0a q4A
def qm1 {a:Nat} (ha:a < 9223372036854775808) (hf:q0F a):0<=ofZ a:=by
 by_cases h:a=0
 ·subst h; rw [qdX]; omega
 ·have:=q9J (show 0 < a by omega) ha hf;rw [qdX] at this; omega
def qm4 {f:Nat} (hf:f < 18446744073709551616) (h:q0F f):ofZ f=if 9223372036854775808<=f then -ofZ (q22 f) else ofZ (q22 f):=by
 split
 ·rename_i q;have h1:q22 f < 9223372036854775808:=q3D;have e:f=q5T (q22 f):=by unfold q5T; rw [if_pos h1]; unfold q22; omega
  conv=>lhs; rw [e]
  exact qbu Oq (q41 h)
 ·rename_i q;have e:q22 f=f:=by unfold q22; omega
  rw [e]
def qv9 {f g:Nat} (hf:f < 18446744073709551616/\q0F f) (hg:g < 18446744073709551616/\q0F g):q1F f<=q1F g ↔ ofZ f<=ofZ g:=by
 rw [qm4 hf.1 hf.2,qm4 hg.1 hg.2];unfold q1F;have a1:=q3D (f:=f);have b1:=q3D (f:=g);have a2:=q41 hf.2;have b2:=q41 hg.2;generalize q22 f=a at *;generalize q22 g=b at *;have a3:=qm1 a1 a2;have b3:=qm1 b1 b2;have c1:a < b->ofZ a < ofZ b:=λh=>q9J h b1 b2;have c2:b < a->ofZ b < ofZ a:=λh=>q9J h a1 a2;have c3:a=b->ofZ a=ofZ b:=λh=>by rw [h]
 have c4:0 < a->0 < ofZ a:=λh=>by have:=q9J h a1 a2; rw [qdX] at this; exact this
 have c5:0 < b->0 < ofZ b:=λh=>by have:=q9J h b1 b2; rw [qdX] at this; exact this
 have c6:a=0->ofZ a=0:=λh=>by rw [h]; exact qdX
 have c7:b=0->ofZ b=0:=λh=>by rw [h]; exact qdX
 generalize ofZ a=x at *;generalize ofZ b=y at *
 split <;> split <;> omega
def q2j (p:Nat × Nat):Prop:=q0F p.1/\q0F p.2/\ofZ p.1<=ofZ p.2
instance (p:Nat × Nat):Decidable (q2j p):=by unfold q2j; infer_instance
def nnI (p:Nat × Nat):Prop:=(p.1 < 18446744073709551616/\q0Y p.1≠3)/\p.2 < 18446744073709551616/\q0Y p.2≠3
def nnL (l:List (Nat × Nat)):Prop:=∀ p ∈ l,nnI p
def qqf {a b:Int}:q5V a b<=0 ↔ a<=b:=by unfold q5V; split; omega; split <;> omega
def qh1 {a b:Int}:q5V a b < 0 ↔ a < b:=by unfold q5V; split; omega; split <;> omega
section
variable {l:List (Nat × Nat)} {p q:Nat × Nat}
def qdg (hp:nnI p):ACt 264 [.ag [uv p.1,uv p.2]] (bv (decide (q2j p))):=by
 obtain ⟨⟨h1,h2⟩,h3,h4⟩:=hp;have c1:=q8G h1 h2 h3 h4;have c2:=q4q h1;have c3:=q4q h3;have key:=qqf (a:=q1F p.1) (b:=q1F p.2);unfold q2j
 by_cases f1:q0F p.1
 ·by_cases f2:q0F p.2
  ·rw [qv9 ⟨h1,f1⟩ ⟨h3,f2⟩] at key;rw [decide_eq_true f1] at c2;rw [decide_eq_true f2] at c3;generalize q5V (q1F p.1) (q1F p.2)=z at *
   by_cases f3:ofZ p.1<=ofZ p.2
   ·rw [decide_eq_true (show q0F p.1/\q0F p.2/\ofZ p.1<=ofZ p.2 from ⟨f1,f2,f3⟩)];have hz:∀ (i:Decidable (z<=0)),@decide _ i=true:=λ_=>decide_eq_true (key.2 f3);refine ac0 Tryz.func264 Tryz.ntmps264 [.tmp 2] ?_;exact wk1 hz trivial
   ·rw [decide_eq_false (show ¬ (q0F p.1/\q0F p.2/\ofZ p.1<=ofZ p.2) from λh=>f3 h.2.2)];have hz:∀ (i:Decidable (z<=0)),@decide _ i=false:=λ_=>decide_eq_false λh=>f3 (key.1 h);refine ac0 Tryz.func264 Tryz.ntmps264 [.tmp 2] ?_;exact wk1 hz trivial
  ·rw [decide_eq_false (show ¬ (q0F p.1/\q0F p.2/\ofZ p.1<=ofZ p.2) from λh=>f2 h.2.1)];rw [decide_eq_true f1] at c2;rw [decide_eq_false f2] at c3;refine ac0 Tryz.func264 Tryz.ntmps264 [.tmp 2] ?_;exact wk trivial
 ·rw [decide_eq_false (show ¬ (q0F p.1/\q0F p.2/\ofZ p.1<=ofZ p.2) from λh=>f1 h.1)];rw [decide_eq_false f1] at c2;refine ac0 Tryz.func264 Tryz.ntmps264 [.tmp 2] ?_;exact wk trivial
def q8J (hl:nnL l) (hn:l.length<=1000):ACt 175 [pP l] (bv (decide (∀ p ∈ l,q2j p))):=by
 obtain ⟨res,hres⟩:∃ res,res=decide (∀ p ∈ l,q2j p):=⟨_,rfl⟩;rw [<- hres];unfold pP;refine ac0 Tryz.func175 Tryz.ntmps175 [.tmp 2] ?_;refine wk ?_;refine q0A (λi=>i<=l.length/\∀ p ∈ l.take i,q2j p) [5,6] [] Lk Lk (λi:Nat=>[(7,iv i)]) (λ_=>[]) (λi=>l.length-i) 0 ⟨zE _,by simp⟩ ?_ ?_
 ·refine LeM [] rfl rfl ?_;refine Zz ?_
  rfl
 ·rintro i ⟨hi,hf⟩
  by_cases hil:i < l.length
  ·obtain ⟨y,hy⟩:∃ y,l[i]?=some y:=⟨_,zC hil⟩;have hm:=zF hy;have c1:=qdg (hl y hm);have gi:(l.map λp=>PV.ag [uv p.1,uv p.2])[i]?=some (.ag [uv y.1,uv y.2]):=by rw [zB,hy]; rfl
   have gl:(l.map λp=>PV.ag [uv p.1,uv p.2]).length=l.length:=zD _
   by_cases hp:q2j y
   ·rw [decide_eq_true hp] at c1;generalize (l.map λp=>PV.ag [uv p.1,uv p.2])=W at *;refine wk1 (x2 gi gl) ?_;refine ⟨i+1,⟨by omega,?_⟩,by omega,?_⟩
    ·rw [q10 hy];intro z hz
     rcases zU.1 hz with hz | hz
     ·exact hf z hz
     ·simp at hz; subst hz; exact hp
    ·refine LeM [] rfl rfl ?_;refine Zz ?_;omega
   ·rw [decide_eq_false hp] at c1;rw [decide_eq_false (λh=>hp (h y hm))] at hres;subst hres;generalize (l.map λp=>PV.ag [uv p.1,uv p.2])=W at *;exact wk1 (x2 gi gl) trivial
  ·obtain rfl:i=l.length:=by omega
   rw [List.take_length] at hf;rw [decide_eq_true hf] at hres;subst hres;have gl:(l.map λp=>PV.ag [uv p.1,uv p.2]).length=l.length:=zD _;exact wk1 gl trivial
def qdh (hp:nnI p) (hq:nnI q):ACt 92 [.ag [uv p.1,uv p.2],.ag [uv q.1,uv q.2]] (bv (decide (q1F q.1 < q1F p.1/\q1F p.2 < q1F q.2))):=by
 obtain ⟨⟨h1,h2⟩,h3,h4⟩:=hp;obtain ⟨⟨g1,g2⟩,g3,g4⟩:=hq;have c1:=q8G g1 g2 h1 h2;have c2:=q8G h3 h4 g3 g4;have k1:=qh1 (a:=q1F q.1) (b:=q1F p.1);have k2:=qh1 (a:=q1F p.2) (b:=q1F q.2);generalize q5V (q1F q.1) (q1F p.1)=z at *;generalize q5V (q1F p.2) (q1F q.2)=w at *
 by_cases f1:q1F q.1 < q1F p.1
 ·have hz:∀ (i:Decidable (z < 0)),@decide _ i=true:=λ_=>decide_eq_true (k1.2 f1)
  by_cases f2:q1F p.2 < q1F q.2
  ·have hw:w < 0:=k2.2 f2;rw [decide_eq_true (show _/\_ from ⟨f1,f2⟩)];refine ac0 Tryz.func92 Tryz.ntmps92 [.tmp 4] ?_;exact wk1 (x2 hz hw) trivial
  ·have hw:¬ w < 0:=λh=>f2 (k2.1 h);rw [decide_eq_false (show ¬ (_/\_) from λh=>f2 h.2)];refine ac0 Tryz.func92 Tryz.ntmps92 [.tmp 4] ?_;exact wk1 (x2 hz hw) trivial
 ·have hz:∀ (i:Decidable (z < 0)),@decide _ i=false:=λ_=>decide_eq_false λh=>f1 (k1.1 h);rw [decide_eq_false (show ¬ (_/\_) from λh=>f1 h.1)];refine ac0 Tryz.func92 Tryz.ntmps92 [.tmp 4] ?_;exact wk1 hz trivial
def q1K (hl:nnL l) (hn:l.length<=1000):ACt 93 [pP l] (bv (decide (∀ p ∈ l,q2j p))):=by
 obtain ⟨res,hres⟩:∃ res,res=decide (∀ p ∈ l,q2j p):=⟨_,rfl⟩;rw [<- hres];unfold pP;refine ac0 Tryz.func93 Tryz.ntmps93 [.tmp 2] ?_;refine wk ?_;refine q0A (λi=>i<=l.length/\∀ p ∈ l.take i,q2j p) [0] [] Lk Lk (λi:Nat=>[(3,iv i)]) (λ_=>[]) (λi=>l.length-i) 0 ⟨zE _,by simp⟩ ?_ ?_
 ·refine LeM [] rfl rfl ?_;refine Zz ?_
  rfl
 ·rintro i ⟨hi,hf⟩
  by_cases hil:i < l.length
  ·obtain ⟨y,hy⟩:∃ y,l[i]?=some y:=⟨_,zC hil⟩;have hm:=zF hy;obtain ⟨⟨h1,h2⟩,h3,h4⟩:=hl y hm;have c1:=q1U h1;have c2:=q1U h3;have gi:(l.map λp=>PV.ag [uv p.1,uv p.2])[i]?=some (.ag [uv y.1,uv y.2]):=by rw [zB,hy]; rfl
   have gl:(l.map λp=>PV.ag [uv p.1,uv p.2]).length=l.length:=zD _;have bad:¬ q2j y->res=false:=λh=>by rw [hres]; exact decide_eq_false λq=>h (q y hm)
   generalize (l.map λp=>PV.ag [uv p.1,uv p.2])=W at *
   by_cases f1:q0F y.1
   rotate_left
   ·rw [decide_eq_false f1] at c1;rw [bad λh=>f1 h.1];exact wk1 (x2 gi gl) trivial
   rw [decide_eq_true f1] at c1
   by_cases f2:q0F y.2
   rotate_left
   ·rw [decide_eq_false f2] at c2;rw [bad λh=>f2 h.2.1];exact wk1 (x2 gi gl) trivial
   rw [decide_eq_true f2] at c2;have c3:=q0i h1 (q0O f1);have c4:=q0i h3 (q0O f2);have c5:=q23 (A:=ofZ y.2) (B:=ofZ y.1);have N1:=q1S (V:=ofZ y.1);have N2:=q1S (V:=ofZ y.2)
   by_cases f3:ofZ y.2 < ofZ y.1
   ·rw [decide_eq_true f3] at c5;rw [bad λh=>by have:=h.2.2; omega];exact wk1 (x2 gi gl) trivial
   ·rw [decide_eq_false f3] at c5;refine wk1 (x2 gi gl) ?_;refine ⟨i+1,⟨by omega,?_⟩,by omega,?_⟩
    ·rw [q10 hy];intro z hz
     rcases zU.1 hz with hz | hz
     ·exact hf z hz
     ·simp at hz; subst hz; exact ⟨f1,f2,by omega⟩
    ·refine LeM [] rfl rfl ?_;refine Zz ?_;omega
  ·obtain rfl:i=l.length:=by omega
   rw [List.take_length] at hf;rw [decide_eq_true hf] at hres;subst hres;have gl:(l.map λp=>PV.ag [uv p.1,uv p.2]).length=l.length:=zD _;exact wk1 gl trivial
def ne_iv {k m:IntKind} {a b c d:Int}:bnP Tryz.prog .neq 58 (.ag [.vl (.int k a),.vl (.int m b)]) (.ag [.vl (.int k c),.vl (.int m d)])=some (.vl (.bool !(a == c && b == d))):=qx8 qmw
def q9B (hn:l.length<=1000000):ACt 26 [pP l,pP l] (bv true):=by
 have gl:(l.map λp=>PV.ag [uv p.1,uv p.2]).length=l.length:=zD _;have b1:∀ z:Int,(z != z)=false:=λz=>by simp
 have b2:∀ z:Int,(z == z)=true:=λz=>by simp
 unfold pP;refine ac0 Tryz.func26 Tryz.ntmps26 [.tmp 4] ?_;refine wk1 (x2 gl b1) ?_;refine q0A (λi=>i<=l.length) [0,1] [] Lk Lk (λi:Nat=>[(5,iv i)]) (λ_=>[]) (λi=>l.length-i) 0 (zE _) ?_ ?_
 ·refine LeM [] rfl rfl ?_;refine Zz ?_
  rfl
 ·intro i hi
  by_cases hil:i < l.length
  ·obtain ⟨y,hy⟩:∃ y,l[i]?=some y:=⟨_,zC hil⟩;have gi:(l.map λp=>PV.ag [uv p.1,uv p.2])[i]?=some (.ag [uv y.1,uv y.2]):=by rw [zB,hy]; rfl
   generalize (l.map λp=>PV.ag [uv p.1,uv p.2])=W at *;refine wk1 (x4 gi gl @ne_iv b2) ?_;refine ⟨i+1,by omega,by omega,?_⟩;refine LeM [] rfl rfl ?_;refine Zz ?_;omega
  ·obtain rfl:i=l.length:=by omega
   exact wk1 gl trivial
end
structure KwT where
 n:Nat
 v:List Nat
 a:Nat->Nat->Nat × Nat
 b:List (Nat × Nat)
 z:List Nat
 x:List (Nat × Nat)
abbrev ivZ (p:Nat × Nat):Int × Int:=(ofZ p.1,ofZ p.2)
abbrev ptZ (f:Nat):Int × Int:=(ofZ f,ofZ f)
def q1L (n:Nat) (a:Nat->Nat->Nat × Nat) (j:Nat):List (Nat × Nat):=(List.range n).map (a j)
def q0q {n j:Nat} {a:Nat->Nat->Nat × Nat}:(q1L n a j).length=n:=by unfold q1L; simp
def q3L {n j k:Nat} {a:Nat->Nat->Nat × Nat} (h:k < n):(q1L n a j)[k]?=some (a j k):=by unfold q1L; simp [h]
abbrev pIm (n:Nat) (a:Nat->Nat->Nat × Nat):PV:=.sl none ((List.range n).map λj=>pP (q1L n a j))
section
variable (K:KwT)
def kwD (j:Nat):Nat->Int × Int
 | 0=>ivZ (K.b.getD j (0,0))
 | k+1=>spS (kwD j k) (spM (ivZ (K.a j k)) (ptZ (K.z.getD k 0)))
def kwE (i j:Nat):Nat->Int × Int
 | 0=>if i=j then (q2I,q2I) else (0,0)
 | k+1=>spS (kwE i j k) (spM (ptZ (K.v.getD (k*K.n+i) 0)) (ivZ (K.a k j)))
def kwS (i:Nat):Nat->Int × Int
 | 0=>ptZ (K.z.getD i 0)
 | j+1=>spA (spA (kwS i j) (spM (ptZ (K.v.getD (j*K.n+i) 0)) (kwD K j K.n))) (spM (kwE K i j K.n) (spS (ivZ (K.x.getD j (0,0))) (ptZ (K.z.getD j 0))))
def kwO (i:Nat):Nat × Nat:=(fR 1 (kwS K i K.n).1,fR 2 (kwS K i K.n).2)
def kwL (m:Nat):List (Nat × Nat):=(List.range m).map (kwO K)
def kwB:Nat->Bool
 | 0=>true
 | m+1=>kwB m && decide (q1F (K.x.getD m (0,0)).1 < q1F (kwO K m).1/\q1F (kwO K m).2 < q1F (K.x.getD m (0,0)).2)
structure KwF:Prop where
 n:K.n<=20
 vl:K.v.length=K.n*K.n
 v:q07 K.v
 zl:K.z.length=K.n
 z:q07 K.z
 xl:K.x.length=K.n
 x:nnL K.x
 bl:K.b.length<=1000
 b:nnL K.b
 a:∀ j,nnL (q1L K.n K.a j)
def KwP:Prop:=(∀ j,j < K.n->∀ p ∈ q1L K.n K.a j,q2j p)/\(∀ p ∈ K.b,q2j p)/\∀ p ∈ K.x,q2j p
open Classical in
noncomputable def kwC:Int:=if K.b.length≠K.n then 2 else if KwP K then 0 else 4
noncomputable def kwA:List (Nat × Nat) × Bool × Int:=if kwC K=0 then (kwL K K.n,kwB K K.n,0) else ([],false,kwC K)
end
section
variable {K:KwT}
open Classical in
def qkm (h:KwF K):ACt 84 [pIm K.n K.a,pP K.b,pPn K.n K.n K.v,pF K.z,pP K.x] (iv (kwC K)):=by
 have hn:=h.n;have hnn:K.n*K.n<=20*20:=zL hn hn;have hvl:=h.vl;have hch:chP K.n K.n K.v=0:=by unfold chP; rw [if_neg (not_not_intro h.vl),if_pos λx hx=>(h.v x hx).2]
 have c1:=qc4 (r:=K.n) (c:=K.n) (v:=K.v) Oq Oq Oq λx hx=>(h.v x hx).1;rw [hch] at c1;have c2:=λj=>q8J (h.a j) (by rw [q0q]; omega);have c3:=q8J h.b h.bl;have c4:=q8J h.x (by have:=h.xl; omega);have c5:=qaj (l:=K.z) (λx hx=>(h.z x hx).1) (by have:=h.zl; omega);rw [decide_eq_true λx hx=>(h.z x hx).2] at c5;have hzl:=h.zl;have hxl:=h.xl;obtain ⟨res,hres⟩:∃ res,res=kwC K:=⟨_,rfl⟩;rw [<- hres];unfold kwC KwP at hres;have hrl:=λj=>show ((q1L K.n K.a j).map λp=>PV.ag [uv p.1,uv p.2]).length=K.n by rw [zD,q0q]
 have hrg:=λj (hj:j < K.n)=>show ((List.range K.n).map λj=>pP (q1L K.n K.a j))[j]?=some (pP (q1L K.n K.a j)) by rw [zB,zG hj]; rfl
 have hrr:((List.range K.n).map λj=>pP (q1L K.n K.a j)).length=K.n:=by simp
 obtain ⟨n,v,a,b,z,x⟩:=K;dsimp only at *;unfold pIm;generalize (List.range n).map (λj=>pP (q1L n a j))=M at *;unfold pPn at *;refine ac0 Tryz.func84 Tryz.ntmps84 [.tmp 10] ?_;refine wk ?_;refine q0A (λi=>i<=n) [0,1,3,4,7,11,21,22] [7] Lk Lk (λi:Nat=>[(23,iv i)]) (λ_=>[]) (λi=>n-i) 0 (zE _) ?_ ?_
 ·refine LeM [] rfl rfl ?_;refine Zz ?_
  rfl
 ·intro i hi
  by_cases hlt:i < n
  ·have q:(i:Int) < n:=by omega
   have gi:=hrg i hlt;have gl:=hrl i;have q2:((n:Int) != (n:Int))=false:=by simp
   unfold pP at gi;refine wk1 (x5 q gi hrr gl q2) ?_;refine ⟨i+1,by omega,by omega,?_⟩;refine LeM [] rfl rfl ?_;refine Zz ?_;omega
  ·obtain rfl:i=n:=by omega
   have q:¬ (i:Int) < i:=by omega
   have qz:((z.length:Int) != (i:Int))=false:=by simp; omega
   have qx:((x.length:Int) != (i:Int))=false:=by simp; omega
   have qn:((i:Int) != (i:Int))=false:=by simp
   by_cases hb:b.length=i
   rotate_left
   ·rw [if_pos hb] at hres;subst hres;have qb:((b.length:Int) != (i:Int))=true:=by simp; omega
    exact wk1 (x2 q qb) trivial
   rw [if_neg (not_not_intro hb)] at hres;have qb:((b.length:Int) != (i:Int))=false:=by simp; omega
   refine wk1 (x6 q qb qz qx qn hrr) ?_;refine q0A (λj=>j<=i/\∀ t,t < j->∀ p ∈ q1L i a t,q2j p) [1,3,4,63,64] [] Lk Lk (λj:Nat=>[(65,iv j)]) (λ_=>[]) (λj=>i-j) 0 ⟨zE _,λt ht=>by omega⟩ ?_ ?_
   ·refine LeM [] rfl rfl ?_;refine Zz ?_
    rfl
   ·rintro j ⟨hj,hf⟩
    by_cases hlt:j < i
    ·have q:(j:Int) < i:=by omega
     have gi:=hrg j hlt;have c6:=c2 j
     by_cases hp:∀ p ∈ q1L i a j,q2j p
     ·rw [decide_eq_true hp] at c6;unfold pP at gi c6;refine wk1 (x3 q gi hrr) ?_;refine ⟨j+1,⟨by omega,λt ht=>?_⟩,by omega,?_⟩
      ·by_cases e:t=j
       ·rw [e]; exact hp
       ·exact hf t Oq
      ·refine LeM [] rfl rfl ?_;refine Zz ?_;omega
     ·rw [decide_eq_false hp] at c6;rw [if_neg λhh=>hp (hh.1 j hlt)] at hres;subst hres;unfold pP at gi c6;exact wk1 (x3 q gi hrr) trivial
    ·obtain rfl:j=i:=by omega
     have q:¬ (j:Int) < j:=by omega
     by_cases hb2:∀ p ∈ b,q2j p
     rotate_left
     ·rw [decide_eq_false hb2] at c3;rw [if_neg λhh=>hb2 hh.2.1] at hres;subst hres;exact wk1 q trivial
     rw [decide_eq_true hb2] at c3
     by_cases hx2:∀ p ∈ x,q2j p
     rotate_left
     ·rw [decide_eq_false hx2] at c4;rw [if_neg λhh=>hx2 hh.2.2] at hres;subst hres;exact wk1 q trivial
     rw [decide_eq_true hx2] at c4;rw [if_pos ⟨hf,hb2,hx2⟩] at hres;subst hres;exact wk1 q trivial
end
section
variable {K:KwT}
def kw_b (h:KwF K) (hp:KwP K) (hb:K.b.length=K.n) {j:Nat} (hj:j < K.n):spK 1074 66560 (ivZ (K.b.getD j (0,0)))/\spK 1074 66560 (ivZ (K.x.getD j (0,0))):=by
 have hx:=h.xl
 constructor
 ·obtain ⟨y,hy⟩:∃ y,K.b[j]?=some y:=⟨_,zC Oq⟩;rw [getD_some hy];have:=hp.2.1 y (zF hy);exact q3u this.1 this.2.1
 ·obtain ⟨y,hy⟩:∃ y,K.x[j]?=some y:=⟨_,zC Oq⟩;rw [getD_some hy];have:=hp.2.2 y (zF hy);exact q3u this.1 this.2.1
def kw_a (hp:KwP K) {j k:Nat} (hj:j < K.n) (hk:k < K.n):q2j (K.a j k):=hp.1 j hj _ (zF (q3L (j:=j) (a:=K.a) hk))
def qcK (h:KwF K) (hp:KwP K) (hb:K.b.length=K.n) {j:Nat} (hj:j < K.n):∀ k,k<=K.n->spK 2148 (67585+k) (kwD K j k)
 | 0,_=>(kw_b h hp hb hj).1.mono Oq Oq Oq
 | k+1,hk=>by
  have ha:=kw_a hp hj (show k < K.n by omega);have h1:=q5K (q3u ha.1 ha.2.1) (q2S (q0V h.z (i:=k)).2) Oq Oq;exact qdK (qcK h hp hb hj k Oq) (h1.mono Oq Oq Oq) Oq
def qcJ (h:KwF K) (hp:KwP K) {i j:Nat} (hj:j < K.n):∀ k,k<=K.n->spK 2148 (67585+k) (kwE K i j k)
 | 0,_=>by
  unfold kwE
  split
  ·exact spK_1.mono Oq Oq Oq
  ·exact spK_0
 | k+1,hk=>by
  have ha:=kw_a hp (show k < K.n by omega) hj;have h1:=q5K (q2S (q0V h.v (i:=k*K.n+i)).2) (q3u ha.1 ha.2.1) Oq Oq;exact qdK (qcJ h hp hj k Oq) (h1.mono Oq Oq Oq) Oq
def qgH (h:KwF K) (hp:KwP K) (hb:K.b.length=K.n) {i:Nat}:∀ j,j<=K.n->spK 3222 (68700+2*j) (kwS K i j)
 | 0,_=>(q2S (q0V h.z (i:=i)).2).mono Oq Oq Oq
 | j+1,hj=>by
  have hn:=h.n;have h1:=q5K (q2S (q0V h.v (i:=j*K.n+i)).2) (qcK h hp hb (show j < K.n by omega) K.n (zH _)) Oq Oq;have h2:=qdK (kw_b h hp hb (show j < K.n by omega)).2 (q2S (q0V h.z (i:=j)).2) (zH _);have h3:=q5K (qcJ h hp (i:=i) (show j < K.n by omega) K.n (zH _)) h2 Oq Oq;exact qew (qew (qgH h hp hb j Oq) (h1.mono Oq Oq (q:=68700+2*j) Oq) (zH _)) (h3.mono Oq Oq Oq) Oq
def qmh {i:Nat}:nnI (kwO K i):=⟨⟨q3g,qag⟩,q3g,qag⟩
def qil {k p:Nat} {a c:Int × Int} (ha:spK k p a) (hc:spK k p c) (hp:p<=131071):q0Q (a.1+c.1)/\q0Q (a.2+c.2):=(qew ha hc (zH _)).d1 Oq
def qik {k p:Nat} {a c:Int × Int} (ha:spK k p a) (hc:spK k p c) (hp:p<=131071):q0Q (a.1-c.2)/\q0Q (a.2-c.1):=(qdK ha hc (zH _)).d1 Oq
def q4s {k p:Nat} {a c:Int × Int} (ha:spK k p a) (hc:spK k p c) (hp:p<=131071):ACt 86 [pS a,pS c] (pS (spS a c)):=qhH (ha.d1 Oq) (hc.d1 Oq) (qik ha hc hp).1 (qik ha hc hp).2
def q95 {k p:Nat} {a c:Int × Int} (ha:spK k p a) (hc:spK k p c) (hp:p<=131071):ACt 89 [pS a,pS c] (pS (spA a c)):=qkj (ha.d1 Oq) (hc.d1 Oq) (qil ha hc hp).1 (qil ha hc hp).2
def q48 {k p:Nat} {a c:Int × Int} (ha:spK k p a) (hc:spK k p c) (hp:p<=131071):ACt 96 [pS a,pS c] (pS (spS a c)):=qeR (ha.d1 Oq) (hc.d1 Oq) (qik ha hc hp).1 (qik ha hc hp).2
def q8d {k p:Nat} {a c:Int × Int} (ha:spK k p a) (hc:spK k p c) (hp:p<=131071):ACt 99 [pS a,pS c] (pS (spA a c)):=qiV (ha.d1 Oq) (hc.d1 Oq) (qil ha hc hp).1 (qil ha hc hp).2
def clPS {n:Nat} {g:Nat->Int × Int} {m:Nat}:ClL (rwP n (λc=>pS (g c)) m):=q1h λc=>by
 intro y hy;simp at hy
 rcases hy with rfl | rfl | rfl | rfl | rfl | rfl | rfl | rfl <;> trivial
def cdS {a:Int × Int}:Cld (pS a):=by
 intro y hy;simp at hy
 rcases hy with rfl | rfl | rfl | rfl | rfl | rfl | rfl | rfl <;> trivial
def qv6 (h:KwF K) (hp:KwP K) (hb:K.b.length=K.n) {j:Nat} (hj:j < K.n):(q2j (K.b.getD j (0,0))/\nnI (K.b.getD j (0,0)))/\q2j (K.x.getD j (0,0))/\nnI (K.x.getD j (0,0)):=by
 have hx:=h.xl;obtain ⟨y,hy⟩:∃ y,K.b[j]?=some y:=⟨_,zC Oq⟩;obtain ⟨w,hw⟩:∃ w,K.x[j]?=some w:=⟨_,zC Oq⟩;rw [getD_some hy,getD_some hw];exact ⟨⟨hp.2.1 y (zF hy),h.b y (zF hy)⟩,hp.2.2 w (zF hw),h.x w (zF hw)⟩
def qcX {p:Nat × Nat} (h1:q2j p) (h2:nnI p):ACt 85 [.ag [uv p.1,uv p.2]] (pS (ivZ p)):=qhI ⟨h2.1.1,h1.1⟩ ⟨h2.2.1,h1.2.1⟩
def q9I {f:Nat} (h:f < 18446744073709551616/\q0F f):ACt 88 [uv f] (pS (ptZ f)):=qhF h
def qbV {j k p q:Nat} {a c:Int × Int} (ha:spK j p a) (hc:spK k q c) (hjk:j+k<=65536) (hpq:p+q<=196608) (hp:p<=131072) (hq:q<=131072):ACt 87 [pS a,pS c] (pS (spM a c)):=qhE ha hc hjk hpq hp hq
def qv7 {m:Nat}:kwB K (m+1)=(kwB K m && decide (q1F (K.x.getD m (0,0)).1 < q1F (kwO K m).1/\q1F (kwO K m).2 < q1F (K.x.getD m (0,0)).2)):=rfl
def qcZ (h:KwF K):ACt 24 [pIm K.n K.a,pP K.b,pPn K.n K.n K.v,pF K.z,pP K.x] (.tu [pP (kwA K).1,bv (kwA K).2.1,iv (kwA K).2.2]):=by
 have hn:=h.n;have hnn:K.n*K.n<=20*20:=zL hn hn;have c0:=qkm h
 by_cases h0:kwC K=0
 rotate_left
 ·unfold kwA;rw [if_neg h0];have q:(kwC K != 0)=true:=by simpa using h0
  generalize kwC K=e at *;obtain ⟨n,v,a,b,z,x⟩:=K;dsimp only at *;unfold pIm pPn at *;refine ac0 Tryz.func24 Tryz.ntmps24 [.tmp 10,.tmp 11,.tmp 12] ?_;exact wk1 q trivial
 have hbl:K.b.length=K.n:=by
  unfold kwC at h0
  split at h0
  ·cases h0
  ·omega
 have hP:KwP K:=by
  unfold kwC at h0;rw [if_neg (not_not_intro hbl)] at h0
  split at h0
  ·assumption
  ·cases h0
 have hA:kwA K=(kwL K K.n,kwB K K.n,0):=by unfold kwA; rw [if_pos h0]
 rw [hA];rw [h0] at c0;clear hA h0;have hzl:=h.zl;have hxl:=h.xl;have hvl:=h.vl;have pa:=λj k (hj:j < K.n) (hk:k < K.n)=>kw_a hP hj hk;have pu:=λj k (hj:j < K.n) (hk:k < K.n)=>h.a j _ (zF (q3L (j:=j) (a:=K.a) hk));have hpi:=λi j hi hj=>qpG (i:=i) (j:=j) (show K.n<=64 by omega) (show K.n<=64 by omega) hvl hi hj;have sD:=λj (hj:j < K.n) k hk=>qcK h hP hbl hj k hk;have sE:=λi j (hj:j < K.n) k hk=>qcJ h hP (i:=i) hj k hk;have sS:=λi j hj=>qgH h hP hbl (i:=i) j hj;have sb:=λj (hj:j < K.n)=>kw_b h hP hbl hj;have pr:=λj (hj:j < K.n)=>qv6 h hP hbl hj;have hD0:=λj=>show kwD K j 0=ivZ (K.b.getD j (0,0)) from rfl;have hDs:=λj k=>show kwD K j (k+1)=spS (kwD K j k) (spM (ivZ (K.a j k)) (ptZ (K.z.getD k 0))) from rfl;have hE0:=λi j=>show kwE K i j 0=if i=j then (q2I,q2I) else (0,0) from rfl
 have hEs:=λi j k=>show kwE K i j (k+1)=spS (kwE K i j k) (spM (ptZ (K.v.getD (k*K.n+i) 0)) (ivZ (K.a k j))) from rfl;have hS0:=λi=>show kwS K i 0=ptZ (K.z.getD i 0) from rfl;have hSs:=λi j=>show kwS K i (j+1)=spA (spA (kwS K i j) (spM (ptZ (K.v.getD (j*K.n+i) 0)) (kwD K j K.n))) (spM (kwE K i j K.n) (spS (ivZ (K.x.getD j (0,0))) (ptZ (K.z.getD j 0)))) from rfl;have hO:=λi=>show kwO K i=(fR 1 (kwS K i K.n).1,fR 2 (kwS K i K.n).2) from rfl;have hOn:=λi=>qmh (K:=K) (i:=i);have hBs:=λi=>qv7 (K:=K) (m:=i);have hB0:kwB K 0=true:=rfl;have hLs:=λi=>show kwL K (i+1)=kwL K i ++ [kwO K i] by unfold kwL; rw [zR,zA]; rfl
 have hLl:=λi=>show (kwL K i).length=i by unfold kwL; simp
 have hL0:kwL K 0=[]:=rfl;have hv:=h.v;have hz:=h.z;have hx:=h.x;have hb:=h.b;have hrl:=λj=>show ((q1L K.n K.a j).map λp=>PV.ag [uv p.1,uv p.2]).length=K.n by rw [zD,q0q]
 have hrg:=λj (hj:j < K.n)=>show ((List.range K.n).map λj=>pP (q1L K.n K.a j))[j]?=some (pP (q1L K.n K.a j)) by rw [zB,zG hj]; rfl
 have hrk:=λj k (hk:k < K.n)=>show ((q1L K.n K.a j).map λp=>PV.ag [uv p.1,uv p.2])[k]?=some (.ag [uv (K.a j k).1,uv (K.a j k).2]) by rw [zB,q3L hk]; rfl
 have hrr:((List.range K.n).map λj=>pP (q1L K.n K.a j)).length=K.n:=by simp
 generalize kwD K=D at *;generalize kwE K=E at *;generalize kwS K=S at *;generalize kwO K=O at *;generalize kwL K=L at *;generalize kwB K=B at *;clear h hP;obtain ⟨n,v,a,b,z,x⟩:=K;dsimp only at *;unfold pIm at *;generalize (List.range n).map (λj=>pP (q1L n a j))=M at *;unfold pPn at *;refine ac0 Tryz.func24 Tryz.ntmps24 [.tmp 10,.tmp 11,.tmp 12] ?_;refine wk1 hrr ?_;have one:=qaC;have gxl:(x.map λp=>PV.ag [uv p.1,uv p.2]).length=n:=by rw [zD,hxl]
 have gxg:=λj (hj:j < n)=>show (x.map λp=>PV.ag [uv p.1,uv p.2])[j]?=some (.ag [uv (x.getD j (0,0)).1,uv (x.getD j (0,0)).2]) by
  obtain ⟨w,hw⟩:∃ w,x[j]?=some w:=⟨_,zC Oq⟩;rw [zB,hw,getD_some hw]; rfl
 have gbg:=λj (hj:j < n)=>show (b.map λp=>PV.ag [uv p.1,uv p.2])[j]?=some (.ag [uv (b.getD j (0,0)).1,uv (b.getD j (0,0)).2]) by
  obtain ⟨w,hw⟩:∃ w,b[j]?=some w:=⟨_,zC Oq⟩;rw [zB,hw,getD_some hw]; rfl
 have gbl:(b.map λp=>PV.ag [uv p.1,uv p.2]).length=n:=by rw [zD,hbl]
 have hzg:=λj (hj:j < n)=>show z[j]?=some (z.getD j 0) by
  obtain ⟨w,hw⟩:∃ w,z[j]?=some w:=⟨_,zC Oq⟩;rw [hw,getD_some hw]
 have hzf:=λj=>q0V hz (i:=j);have hvf:=λj=>q0V hv (i:=j);clear hb hx;unfold pP;generalize (x.map λp=>PV.ag [uv p.1,uv p.2])=xs at *;generalize (b.map λp=>PV.ag [uv p.1,uv p.2])=bs at *;generalize (λj:Nat=>x.getD j (0,0))=xf at *;refine q0A (λj=>j<=n) [0,1,3,4,7,14,39] [7] Lk Lk (λj:Nat=>[(40,iv j),(15,.ow 1001 (some 8) 0 n)]) (λj=>[(1001,⟨132,some 8,rwP n (λc=>pS (D c n)) j,false⟩)]) (λj=>n-j) 0 (zE _) ?_ ?_
 ·refine LeM [(1001,some 38)] rfl rfl ?_;refine Zz ?_;exact ⟨rfl,q81 (by simp)⟩
 ·intro j hj;have wl:=q6D (n:=n) (g:=λc=>pS (D c n)) (m:=j);have wc:=clPS (n:=n) (g:=λc=>D c n) (m:=j);have ws:=qix (n:=n) (g:=λc=>pS (D c n)) (m:=j)
  by_cases hlt:j < n
  ·have q:(j:Int) < n:=by omega
   obtain ⟨⟨p1,p2⟩,_⟩:=pr j hlt;have d0:=hD0 j;have ce:ACt 85 [.ag [uv (b.getD j (0,0)).1,uv (b.getD j (0,0)).2]] (pS (D j 0)):=by rw [d0]; exact qcX p1 p2
   have ds:=hDs j;have sDj:=sD j hlt;have paj:=λk hk=>pa j k hlt hk;have puj:=λk hk=>pu j k hlt hk;have gj:=hrg j hlt;have gk:=hrk j;have gl:=hrl j;have gbj:=gbg j hlt;generalize b.getD j (0,0)=y at *;unfold pP at gj;generalize rwP n (λc=>pS (D c n)) j=W at *;clear sD sE sS sb hD0 hDs hE0 hEs hS0 hSs hO hOn hBs hB0 hLs hLl hL0 hrg hrk hrl pa pu hpi pr gxg gbg;generalize D j=Dj at *;refine wk1 (x4 q gbj gbl wl) ?_;refine q0A (λk=>k<=n) [0,1,3,4,7,14,16,39,40,51] [7] Lk Lk (λk:Nat=>[(52,iv k),(15,.ow 1002 (some 8) 0 n)]) (λk=>[(1002,⟨132,some 8,W.set j (pS (Dj k)),false⟩)]) (λk=>n-k) 0 (zE _) ?_ ?_
   ·refine LeM [(1002,some 1001)] rfl rfl ?_;refine Zz ?_;exact ⟨rfl,q0B rfl (q2h wc cdS)⟩
   ·intro k hk;have sl:(W.set j (pS (Dj k))).length=n:=by rw [List.length_set,wl]
    by_cases hlt2:k < n
    ·have q2:(k:Int) < n:=by omega
     have gd:(W.set j (pS (Dj k)))[j]?=some (pS (Dj k)):=tQ Oq;have gz:=hzg k hlt2;have zf:=hzf k;have c2:=qcX (paj k hlt2) (puj k hlt2);have c3:=q9I zf;have k1:=q5K (q3u (paj k hlt2).1 (paj k hlt2).2.1) (q2S zf.2) Oq Oq;have c4:=qbV (q3u (paj k hlt2).1 (paj k hlt2).2.1) (q2S zf.2) Oq Oq Oq Oq;have c5:=q4s (sDj k hk) (k1.mono (k:=2148) (q:=67585+k) Oq Oq Oq) Oq;have es:=ds k;rw [<- es] at c5;have gak:=gk k hlt2;clear k1;generalize z.getD k 0=zk at *;change ACt _ _ (pS (spM (ivZ (a j k)) (ptZ zk))) at c4;change ACt _ [pS (ivZ (a j k)),pS (ptZ zk)] _ at c4;change ACt _ [_,pS (spM (ivZ (a j k)) (ptZ zk))] _ at c5;clear es ds;generalize spM (ivZ (a j k)) (ptZ zk)=m1 at *;generalize ivZ (a j k)=m2 at *;generalize ptZ zk=m3 at *;refine wk1 (x6 q2 gd gj hrr gak (x3 gl gz sl)) ?_;refine ⟨k+1,by omega,by omega,?_⟩;refine LeM [] rfl rfl ?_;refine Zz ?_;rw [List.set_set];exact ⟨by omega,q0B rfl (q2h wc cdS)⟩
    ·obtain rfl:k=n:=by omega
     have q2:¬ (k:Int) < k:=by omega
     refine wk1 q2 ?_;refine ⟨j+1,by omega,by omega,?_⟩;rw [<- ws];refine LeM [(1001,some 1002)] rfl rfl ?_;refine Zz ?_;exact ⟨by omega,q0B rfl (q2h wc cdS)⟩
  ·obtain rfl:j=n:=by omega
   have q:¬ (j:Int) < j:=by omega
   have wg:=λc (hc:c < j)=>qfE (n:=j) (g:=λc=>pS (D c j)) (m:=j) hc (zH _);generalize rwP j (λc=>pS (D c j)) j=W at *;clear ws hD0 hDs gbg gbl sb;refine wk1 q ?_;refine q0A (λi=>i<=j) [0,3,4,7,14,15,79] [7,1001] Lk Lk (λi:Nat=>[(80,iv i),(18,.ow 1003 (some 2) 0 i),(19,bv (B i))]) (λi=>[(1003,⟨58,some 2,(L i).map λp=>.ag [uv p.1,uv p.2],false⟩)]) (λi=>j-i) 0 (zE _) ?_ ?_
   ·rw [hL0,hB0];refine LeM [(1003,none)] rfl rfl ?_;refine Zz ?_;exact ⟨rfl,q0B rfl wc⟩
   ·intro i hi;have li:=hLl i
    by_cases hlt:i < j
    ·have q2:(i:Int) < j:=by omega
     have c1:=q9I (hzf i);rw [<- hS0 i] at c1;have gz:=hzg i hlt;generalize z.getD i 0=zi at *;have sSi:=λt ht=>sS i t ht;have hSi:=λt=>hSs i t;have sEi:=λt ht=>sE i t ht;have hE0i:=λt=>hE0 i t;have hEi:=λt=>hEs i t;have hOi:=hO i;have hOni:=hOn i;have hBi:=hBs i;have hLi:=hLs i;generalize S i=Si at *;generalize E i=Ei at *;generalize O i=Oi at *;clear sS hSs sE hE0 hEs hO hOn hBs hLs hS0;refine wk1 (x2 q2 gz) ?_;refine q0A (λt=>t<=j) [0,3,4,7,14,15,18,19,20,79,80,88] [7,1001,1003] Lk Lk (λt:Nat=>[(89,iv t),(21,.pt 21 0 0)]) (λt=>[(21,⟨132,some 8,[pS (Si t)],false⟩)]) (λt=>j-t) 0 (zE _) ?_ ?_
     ·refine LeM [] rfl rfl ?_;refine Zz ?_;exact ⟨rfl,q0B rfl wc,q0B rfl q1X⟩
     ·intro t ht
      by_cases hlt2:t < j
      ·have q3:(t:Int) < j:=by omega
       obtain ⟨w1,w2,y,hy⟩:=hpi i t hlt hlt2;have hyf:=hv y (zF hy);have es:=hSi t;rw [getD_some hy] at es;have kD:=sD t hlt2 j (zH _);have gd:=wg t hlt2;generalize D t j=dt at *;have c2:=q9I hyf;have k1:=q5K (q2S hyf.2) kD Oq Oq;have c3:=qbV (q2S hyf.2) kD Oq Oq Oq Oq;have k2:=(k1.mono (k:=3222) (q:=68700+2*t) Oq Oq Oq);have c4:=q95 (sSi t ht) k2 Oq;have k3:=qew (sSi t ht) k2 (zH _);have sEt:=sEi t hlt2;have hEt:=λk=>hEi t k;have hE0t:=hE0i t;obtain ⟨⟨_,_⟩,p1,p2⟩:=pr t hlt2;have gxt:=gxg t hlt2;have c6:=qcX p1 p2;have zf:=hzf t;have c7:=q9I zf;have gzt:=hzg t hlt2;have k5:=qdK (q3u p1.1 p1.2.1) (q2S zf.2) (zH _);have c8:=q4s (q3u p1.1 p1.2.1) (q2S zf.2) Oq;have c9:=qbV (sEt j (zH _)) k5 Oq Oq Oq Oq;have k6:=q5K (sEt j (zH _)) k5 Oq Oq;have c10:=q95 k3 (k6.mono (k:=3222) (q:=68700+2*t+1) Oq Oq Oq) Oq;have pat:=λk hk=>pa k t hk hlt2;have put:=λk hk=>pu k t hk hlt2;clear k1 k2 k3 k5 k6 pa pu pr;change ACt _ _ (pS (spM (ptZ y) dt)) at c3;change ACt _ [pS (ptZ y),pS dt] _ at c3;change ACt _ [_,pS (spM (ptZ y) dt)] (pS (spA (Si t) (spM (ptZ y) dt))) at c4;change ACt _ [pS (spA (Si t) (spM (ptZ y) dt)),pS (spM (Ei t j) (spS (ivZ (x.getD t (0,0))) (ptZ (z.getD t 0))))] (pS (spA (spA (Si t) (spM (ptZ y) dt)) (spM (Ei t j) (spS (ivZ (x.getD t (0,0))) (ptZ (z.getD t 0)))))) at c10;change ACt _ [pS (ivZ (x.getD t (0,0))),pS (ptZ (z.getD t 0))] (pS (spS (ivZ (x.getD t (0,0))) (ptZ (z.getD t 0)))) at c8;change ACt _ [pS (Ei t j),pS (spS (ivZ (x.getD t (0,0))) (ptZ (z.getD t 0)))] (pS (spM (Ei t j) (spS (ivZ (x.getD t (0,0))) (ptZ (z.getD t 0))))) at c9;rw [<- es] at c10;clear es;generalize z.getD t 0=zt at *;generalize x.getD t (0,0)=xt at *;generalize spM (ptZ y) dt=m1 at *;generalize spA (Si t) m1=m2 at *;generalize ivZ xt=m3 at *;generalize ptZ zt=m4 at *;generalize spS m3 m4=m5 at *;generalize spM (Ei t j) m5=m6 at *;generalize hm7:ptZ y=m7 at *;clear hm7
       generalize Ei t=Et at *;generalize t*j=tj at *;refine wk1 (x6 q3 w1 w2 hy gd wl) ?_;refine qiR λK0 hK0=>?_;have fin:∀ (s0:Nat->PV) (h:Hp),Le (λ_=>False) s0 h (stM [(0,.sl none M),(3,pF z),(4,.sl (some 2) xs),(7,.pt 7 0 0),(14,iv j),(15,.ow 1001 (some 8) 0 j),(18,.ow 1003 (some 2) 0 i),(19,bv (B i)),(20,iv i),(21,.pt 21 0 0),(22,iv t),(23,.pt 23 0 0),(79,iv j),(80,iv i),(88,iv j),(89,iv t)] []) (hpM [(7,⟨31,some 3,[.ag [iv j,iv j,pF v]],false⟩),(1001,⟨132,some 8,W,false⟩),(1003,⟨58,some 2,(L i).map λp=>.ag [uv p.1,uv p.2],false⟩),(21,⟨132,some 8,[pS m2],false⟩),(23,⟨132,some 8,[pS (Et 0)],false⟩)] [])->K0 s0 h:=by
        clear c2 c3 c4 hE0t one;intro s0 h hl;refine hK0 _ _ (q0u hl ?_); clear hK0 K0 hl;refine wk ?_;refine q0A (λk=>k<=j) [0,3,4,7,14,15,18,19,20,21,22,79,80,88,89,115] [7,21,1001,1003] Lk Lk (λk:Nat=>[(116,iv k),(23,.pt 23 0 0)]) (λk=>[(23,⟨132,some 8,[pS (Et k)],false⟩)]) (λk=>j-k) 0 (zE _) ?_ ?_
        ·refine LeM [] rfl rfl ?_;refine Zz ?_;exact ⟨rfl,q0B rfl wc,q0B rfl q1X⟩
        ·intro k hk
         by_cases hlt3:k < j
         ·have q4:(k:Int) < j:=by omega
          obtain ⟨w3,w4,u,hu⟩:=hpi i k hlt hlt3;have huf:=hv u (zF hu);have e2:=hEt k;rw [getD_some hu] at e2;have gk:=hrg k hlt3;unfold pP at gk;have gkt:=hrk k t hlt2;have glk:=hrl k;have c11:=q9I huf;have c12:=qcX (pat k hlt3) (put k hlt3);have kk:=q3u (pat k hlt3).1 (pat k hlt3).2.1;have c13:=qbV (q2S huf.2) kk Oq Oq Oq Oq;have k7:=(q5K (q2S huf.2) kk Oq Oq).mono (k:=2148) (q:=67585+k) Oq Oq Oq;have c14:=q4s (sEt k hk) k7 Oq;clear kk k7;change ACt _ [pS (ptZ u),pS (ivZ (a k t))] (pS (spM (ptZ u) (ivZ (a k t)))) at c13;change ACt _ [_,pS (spM (ptZ u) (ivZ (a k t)))] (pS (spS (Et k) (spM (ptZ u) (ivZ (a k t))))) at c14;rw [<- e2] at c14;clear e2;generalize spM (ptZ u) (ivZ (a k t))=n1 at *;generalize ivZ (a k t)=n2 at *;generalize ptZ u=n3 at *;generalize k*j=kj at *;refine wk1 (x6 q4 w3 w4 hu gk (x3 hrr gkt glk)) ?_;refine ⟨k+1,by omega,by omega,?_⟩;refine LeM [] rfl rfl ?_;refine Zz ?_;exact ⟨by omega,q0B rfl wc,q0B rfl q1X⟩
         ·obtain rfl:k=j:=by omega
          have q4:¬ (k:Int) < k:=by omega
          refine wk1 (x4 q4 gxt gxl gzt) ?_;refine ⟨t+1,by omega,by omega,?_⟩;refine LeM [] rfl rfl ?_;refine Zz ?_;exact ⟨by omega,q0B rfl wc,q0B rfl q1X⟩
       by_cases hit:i=t
       ·have q5:((i:Int) == (t:Int))=true:=by simp; omega
        rw [if_pos hit] at hE0t;rw [hE0t] at fin;unfold dT at one;refine wk1 q5 ?_;refine fin _ _ (LeM [] rfl rfl ?_)
        try refine Zz ?_
        first | exact ⟨q0B rfl wc,q0B rfl q1X⟩ | exact ⟨q0B rfl q1X,q0B rfl wc⟩
       ·have q5:((i:Int) == (t:Int))=false:=by simp; omega
        rw [if_neg hit] at hE0t;rw [hE0t] at fin;refine wk1 q5 ?_;refine fin _ _ (LeM [] rfl rfl ?_)
        try refine Zz ?_
        have d0:decide (od 0 < 0)=false:=by rw [q04]; rfl
        have e0:dyE 0=0:=if_pos rfl
        first | exact ⟨q0B rfl wc,q0B rfl q1X,d0.symm,(nfL q04).mpr trivial,e0.symm,d0.symm,(nfL q04).mpr trivial,e0.symm⟩ | exact ⟨q0B rfl wc,q0B rfl q1X,⟨d0.symm,(nfL q04).mpr trivial,e0.symm,d0.symm,(nfL q04).mpr trivial,e0.symm⟩,trivial⟩ | exact ⟨q0B rfl wc,⟨d0.symm,(nfL q04).mpr trivial,e0.symm,d0.symm,(nfL q04).mpr trivial,e0.symm⟩,q0B rfl q1X⟩
      ·obtain rfl:t=j:=by omega
       have q3:¬ (t:Int) < t:=by omega
       have dS:=(sSi t (zH _)).d1 Oq;have c2:=q4p (mode:=1) (.inr (.inl rfl)) dS.1;have c3:=q4p (mode:=2) (.inr (.inr rfl)) dS.2;unfold dT at c2 c3;obtain ⟨⟨_,_⟩,p1,p2⟩:=pr i hlt;have gxi:=gxg i hlt;have c4:=qdh (p:=Oi) (q:=x.getD i (0,0)) hOni p2;clear pr pa pu hpi;generalize x.getD i (0,0)=xi at *;rw [hOi] at c4 hBi hLi;generalize fR 1 (Si t).1=o1 at *;generalize fR 2 (Si t).2=o2 at *;generalize decide (q1F xi.1 < q1F (o1,o2).1/\q1F (o1,o2).2 < q1F xi.2)=bb at *;generalize B i=Bi at *;cases Bi
       ·refine wk1 (x4 q3 li gxi gxl) ?_;refine ⟨i+1,by omega,by omega,?_⟩;rw [hLi,hBi];refine LeM [(1003,some 167)] rfl rfl ?_;refine Zz ?_
        first | exact ⟨⟨by omega,rfl⟩,q0B rfl wc,q0B (by rw [zA]; rfl) q1X⟩ | exact ⟨⟨by omega,rfl⟩,q0B (by rw [zA]; rfl) q1X,q0B rfl wc⟩ | exact ⟨⟨by omega,rfl⟩,q0B (by rw [zA]; rfl) q1X⟩
       ·refine wk1 (x4 q3 li gxi gxl) ?_;refine ⟨i+1,by omega,by omega,?_⟩;rw [hLi,hBi];refine LeM [(1003,some 167)] rfl rfl ?_;refine Zz ?_
        first | exact ⟨⟨by omega,rfl⟩,q0B rfl wc,q0B (by rw [zA]; rfl) q1X⟩ | exact ⟨⟨by omega,rfl⟩,q0B (by rw [zA]; rfl) q1X,q0B rfl wc⟩ | exact ⟨⟨by omega,rfl⟩,q0B (by rw [zA]; rfl) q1X⟩
    ·obtain rfl:i=j:=by omega
     have q2:¬ (i:Int) < i:=by omega
     have hcl:(∀ a:Nat × Nat,a ∈ L i->Cld (PV.ag [uv a.1,uv a.2]))=True:=eq_true λa _=>by
      intro y hy;simp at hy
      rcases hy with rfl | rfl <;> trivial
     exact wk1 (x3 q2 li hcl) trivial
end
section
variable {F:Nat->Nat->Option Nat} {n:Nat} {b z v:List Nat}
def vpL (F:Nat->Nat->Option Nat) (b z:List Nat) (i k:Nat):List Int:=ofZ (b.getD i 0) :: (List.range k).map λj => -(q0n ((F j i).getD 0) (z.getD j 0))
def qtA {i k:Nat}:vpL F b z i (k+1)=vpL F b z i k ++ [-(q0n ((F k i).getD 0) (z.getD k 0))]:=by unfold vpL; rw [zR,zA]; rfl
def qoG {i k:Nat}:(vpL F b z i k).length=k+1:=by unfold vpL; simp
def qe0 {i:Nat}:∀ k,q1J (vpL F b z i k)=ofZ (b.getD i 0)-sg (λj=>q0n ((F j i).getD 0) (z.getD j 0)) k
 | 0=>by show q1J [ofZ (b.getD i 0)]=_; rw [q3J,sg]; omega
 | k+1=>by rw [qtA,q0x,qe0 k,sg]; omega
def vrL_s {i:Nat}:((List.range (i+1)).map (vrX F n b z))=(List.range i).map (vrX F n b z) ++ [vrX F n b z i]:=qu1
def qcw (h:TOk F n n) (hn:n<=20) (hl:v.length=n*n) (hv:q07 v) (hb:q07 b) (hbl:b.length=n) (hz:q07 z) (hzl:z.length=n):ACt 160 [pT n n F,pF b,pBx n v z] (.tu [.un,bv (vfO F n v b z).2,iv 0]):=by
 have hm2:n*n<=20*20:=zL hn hn;have hch:chP n n v=0:=by unfold chP; rw [if_neg (not_not_intro hl),if_pos λx hx=>(hv x hx).2]
 have C1:=qiY (r:=n) (c:=n) (v:=v) h hn hn Oq Oq Oq λx hx=>(hv x hx).1;have hbt:btA n n F n n v=(btL n v F,0):=by
  unfold btA btC;rw [if_neg (not_not_intro rfl),if_neg (not_not_intro hch),if_neg (show ¬ (n≠n\/n≠n) by omega),if_neg (show ¬ (0:Int)≠0 by decide)]
 rw [hbt] at C1;dsimp only at C1;have C2:=q9y;have C3:=q8e (l:=btL n v F) (by unfold btL; rw [q6G]; omega);have hG:=qe2 h hv;have dG:q0Q (vfG F n v):=by unfold q0Q; omega
 have C4:ACt 127 [pV q2I,pV (grZ (btL n v F))] (pV (vfG F n v)):=q8M dG;have C5:=q5e (V:=vfG F n v);have D3:=q1H (l:=b) (λx hx=>(hb x hx).1) Oq;have D4:=q1H (l:=z) (λx hx=>(hz x hx).1) Oq;rw [decide_eq_true λx hx=>(hb x hx).2] at D3;rw [decide_eq_true λx hx=>(hz x hx).2] at D4;have q1:((b.length:Int) != (n:Int))=false:=by simp; omega
 have q2:((z.length:Int) != (n:Int))=false:=by simp; omega
 have hr:=λk (hk:k < n)=>q8m h hb hz (b:=b) (z:=z) hk;have hds:=λi=>q8n (v:=v) (r:=vrX F n b z) (i:=i) Oq hv hr;have cA:∀ {i j:Nat},i < n->j < n->_:=λ{i j} hi hj=>q6u (i:=i) (j:=j) h hi hj;have hfi:∀ {i j:Nat},i < n->j < n->_:=λ{i j} hi hj=>h.fin (j:=j) (i:=i) hj hi;have cV:=λi j hi hj=>q5l (i:=i) (j:=j) (show n<=64 by omega) (show n<=64 by omega) hl hv hi hj;have C9:=q8e (l:=vfD F n v b z) (by unfold vfD; rw [q6G]; omega);have hNs:=λi (hi:i < n)=>qlc h hv hb hz (i:=i) hi;have hdD:=λi=>qtC (F:=F) (n:=n) (b:=b) (z:=z) (v:=v) (i:=i);have hrs:=λi=>vrL_s (F:=F) (n:=n) (b:=b) (z:=z) (i:=i);have hLs:=λi=>qtB (F:=F) (n:=n) (b:=b) (z:=z) (v:=v) (i:=i);have hLl:=λi=>qe1 (F:=F) (n:=n) (b:=b) (z:=z) (v:=v) (i:=i);have hL0:vfL F n v b z 0=[]:=rfl;have hvn:=λi=>show vfN F n v b z i=prZ (vdX n v (vrX F n b z) i) (vfG F n v)+prZ (btZ n v F i) (grZ (vfD F n v b z)) from rfl;have hDe:vfD F n v b z=(List.range n).map (vdX n v (vrX F n b z)):=rfl;have hBg:=λi (hi:i < n)=>show ((btL n v F).map λV=>pV V)[i]?=some (pV (btZ n v F i)) by unfold btL; rw [zB,q4h hi]; rfl
 have hBl:((btL n v F).map λV=>pV V).length=n:=by unfold btL; simp
 have hDg:=λi (hi:i < n)=>show (((List.range n).map (vdX n v (vrX F n b z))).map λV=>pV V)[i]?=some (pV (vdX n v (vrX F n b z) i)) by rw [zB,q4h hi]; rfl
 have hRg:=λi (hi:i < n)=>show (((List.range n).map (vrX F n b z)).map λV=>pV V)[i]?=some (pV (vrX F n b z i)) by rw [zB,q4h hi]; rfl
 have hDl:(((List.range n).map (vdX n v (vrX F n b z))).map λV=>pV V).length=n:=by simp
 have hRl:(((List.range n).map (vrX F n b z)).map λV=>pV V).length=n:=by simp
 have hG0:vfG F n v=q2I-grZ (btL n v F):=rfl;rw [hDe] at C9;have hvp:=λi k=>qtA (F:=F) (b:=b) (z:=z) (i:=i) (k:=k);have hvl:=λi k=>qoG (F:=F) (b:=b) (z:=z) (i:=i) (k:=k);have hv0:=λi=>show vpL F b z i 0=[ofZ (b.getD i 0)] from rfl;have hvs:=λi=>show q1J (vpL F b z i n)=vrX F n b z i from qe0 n;have hT:=λi k (hk:k < n)=>(⟨(q8l (n:=n) hv (i:=i) (hr k hk)).1,(q8l (n:=n) hv (i:=i) (hr k hk)).2.1⟩:_/\_);have hrb:=λk (hk:k < n)=>(hr k hk).2;have hdb:=λi=>(hds i).2.2;clear hr hds hG;have hts:=λi=>qeZ (n:=n) (v:=v) (r:=vrX F n b z) (i:=i);have ht0:=λi=>show vtL n v (vrX F n b z) i 0=[] from rfl;have hss:=λi k=>qsz (n:=n) (v:=v) (r:=vrX F n b z) (i:=i) (k:=k);have htl:=λi k=>qaH (n:=n) (v:=v) (r:=vrX F n b z) (i:=i) (k:=k);unfold vfO;unfold pPn at C1 cV;unfold pBx at *;unfold pT q2U at *;generalize (tM F n n).1=ms at *;generalize (tM F n n).2.1=mi at *;generalize (tM F n n).2.2=mv at *;have NG:=q1S (V:=vfG F n v);have N1:=q1S (V:=q2I);have NB:=q1S (V:=grZ (btL n v F))
 by_cases h1:q2I<=grZ (btL n v F)
 ·rw [if_pos h1];have q:(vfG F n v).sign<=0:=by
   rw [hG0]
   rcases Int.lt_or_eq_of_le h1 with h1 | h1
   ·rw [Int.sign_eq_neg_one_of_neg (by omega)]; omega
   ·rw [show q2I-grZ (btL n v F)=0 by omega]; decide
  generalize (vfG F n v).sign=s at *;generalize vfG F n v=G at *;generalize btL n v F=B at *;refine ac0 Tryz.func160 Tryz.ntmps160 [.tmp 6,.tmp 7,.tmp 8] ?_;exact wk1 (x2 q1 q2) trivial
 rw [if_neg h1];dsimp only;have hGp:0 < vfG F n v:=by omega
 rw [Int.sign_eq_one_of_pos hGp] at C5;have CQ:=λN=>qaW (A:=N) (B:=vfG F n v) (mode:=2) Oq;generalize vfG F n v=G at *;rw [hDe] at hNs hvn;generalize grZ ((List.range n).map (vdX n v (vrX F n b z)))=M at *;have NM:=q1S (V:=M);refine ac0 Tryz.func160 Tryz.ntmps160 [.tmp 6,.tmp 7,.tmp 8] ?_;refine wk1 (x2 q1 q2) ?_;refine q0A (λi=>i<=n) [1,3,5,9,11,12,14] [3,5,12] Lk Lk (λi:Nat=>[(15,iv i),(13,.ow 1001 (some 4) 0 i)]) (λi=>[(1001,⟨48,some 4,((List.range i).map (vrX F n b z)).map λV=>pV V,false⟩)]) (λi=>n-i) 0 (zE _) ?_ ?_
 ·refine LeM [(1001,none)] rfl rfl ?_;refine Zz ?_
  repeat' (first | rfl | exact q0B rfl clV | apply And.intro)
 ·intro i hi;have li:(((List.range i).map (vrX F n b z)).map λV=>pV V).length=i:=by simp
  by_cases hlt:i < n
  ·have q:(i:Int) < n:=by omega
   have p0:=hv0 i;have ps:=hvp i;have pl:=hvl i;have psum:=hvs i;have es:=hrs i;have hri:=hrb i hlt;have cAi:=λj hj=>cA (i:=i) (j:=j) hlt hj;have hfii:=λj hj=>hfi (i:=i) (j:=j) hlt hj;obtain ⟨y,hy⟩:∃ y,b[i]?=some y:=⟨_,zC Oq⟩;obtain ⟨u1,u2⟩:=hb y (zF hy);rw [getD_some hy] at p0;have c1:=q0i u1 (q0O u2);have N2:=q1S (V:=ofZ y);generalize vpL F b z i=T at *;generalize vrX F n b z i=r at *;refine wk1 (x2 q hy) ?_;refine q0A (λk=>k<=n) [1,3,5,9,11,12,13,14,15] [3,5,12,1001] Lk Lk (λk:Nat=>[(17,iv k),(16,.ow 1002 (some 4) 0 (k+1))]) (λk=>[(1002,⟨48,some 4,(T k).map λV=>pV V,false⟩)]) (λk=>n-k) 0 (zE _) ?_ ?_
   ·rw [p0];refine LeM [(1002,some 74)] rfl rfl ?_;refine Zz ?_
    repeat' (first | rfl | exact q0B rfl clV | apply And.intro)
   ·intro k hk;have lk:=pl k
    by_cases hlt2:k < n
    ·have l2:(k:Int) < n:=by omega
     have c2:=cAi k hlt2;obtain ⟨x1,xu⟩:=hfii k hlt2;have e2:=ps k;obtain ⟨w,hw⟩:∃ w,z[k]?=some w:=⟨_,zC Oq⟩;obtain ⟨w1,w2⟩:=hz w (zF hw);rw [getD_some hw] at e2;generalize (F k i).getD 0=x at *;have MM:=q0g x1 w2;have c3:=q1s xu w1 (q0O x1) (q0O w2) MM.1;have c4:=q4t (V:=q0n x w);have N3:=q1S (V := -(q0n x w));have N4:=q1S (V:=q0n x w);refine wk1 (x3 l2 lk hw) ?_;refine ⟨k+1,by omega,by omega,?_⟩;rw [e2];refine LeM [(1002,some 93)] rfl rfl ?_;refine Zz ?_
     repeat' (first | omega | rfl | exact q0B rfl clV | exact q0B (by rw [zA]; rfl) clV | exact q0B (by rw [zA]; rfl) q1X | apply And.intro)
    ·obtain rfl:k=n:=by omega
     have l2:¬ (k:Int) < k:=by omega
     have c5:=q3h (l:=T k) (by omega) (by rw [psum]; unfold q0Q; omega);rw [psum] at c5;have N5:=q1S (V:=r);refine wk1 (x3 l2 lk li) ?_;refine ⟨i+1,by omega,by omega,?_⟩;rw [es];refine LeM [(1001,some 98)] rfl rfl ?_;refine Zz ?_
     repeat' (first | omega | rfl | exact q0B rfl clV | exact q0B (by rw [zA]; rfl) clV | exact q0B (by rw [zA]; rfl) q1X | apply And.intro)
  ·obtain rfl:i=n:=by omega
   have q:¬ (i:Int) < i:=by omega
   clear cA hfi;refine wk1 q ?_;refine q0A (λj=>j<=i) [3,5,9,11,12,13] [3,5,12,1001] Lk Lk (λj:Nat=>[(18,iv j),(14,.ow 1003 (some 4) 0 j)]) (λj=>[(1003,⟨48,some 4,((List.range j).map (vdX i v (vrX F i b z))).map λV=>pV V,false⟩)]) (λj=>i-j) 0 (zE _) ?_ ?_
   ·refine LeM [(1003,none)] rfl rfl ?_;refine Zz ?_
    repeat' (first | rfl | exact q0B rfl clV | apply And.intro)
   ·intro j hj;have lj:(((List.range j).map (vdX i v (vrX F i b z))).map λV=>pV V).length=j:=by simp
    by_cases hlt:j < i
    ·have q:(j:Int) < i:=by omega
     have p0:=ht0 j;have ps:=hss j;have pl:=htl j;have psum:=hts j;have es:=hdD j;have hdj:=hdb j;have cVj:=λk hk=>cV j k hlt hk;have hTj:=λk hk=>hT j k hk;have hde:=show vdX i v (vrX F i b z) j=((vsX i v (vrX F i b z) j).natAbs:Int) from rfl;generalize vtL i v (vrX F i b z) j=T at *;generalize vsX i v (vrX F i b z) j=S at *;generalize vdX i v (vrX F i b z) j=d at *;refine wk1 q ?_;refine q0A (λk=>k<=i) [3,5,9,11,12,13,14,18] [3,5,12,1001,1003] Lk Lk (λk:Nat=>[(20,iv k),(19,.ow 1004 (some 4) 0 k)]) (λk=>[(1004,⟨48,some 4,(T k).map λV=>pV V,false⟩)]) (λk=>i-k) 0 (zE _) ?_ ?_
     ·rw [p0];refine LeM [(1004,none)] rfl rfl ?_;refine Zz ?_
      repeat' (first | rfl | exact q0B rfl clV | apply And.intro)
     ·intro k hk;have lk:=pl k
      by_cases hlt2:k < i
      ·have l2:(k:Int) < i:=by omega
       have c2:=cVj k hlt2;have e2:=ps k;have MM:=hTj k hlt2;have gk:=hRg k hlt2;generalize ofZ (v.getD (k*i+j) 0)=y at *;generalize vrX F i b z k=r at *;have c3:=q2t MM.1;have N3:=q1S (V:=y);have N4:=q1S (V:=r);have N5:=q1S (V:=prZ y r);refine wk1 (x4 l2 lk gk hRl) ?_;refine ⟨k+1,by omega,by omega,?_⟩;rw [e2];refine LeM [(1004,some 121)] rfl rfl ?_;refine Zz ?_
       repeat' (first | omega | rfl | exact q0B rfl clV | exact q0B (by rw [zA]; rfl) clV | exact q0B (by rw [zA]; rfl) q1X | apply And.intro)
      ·obtain rfl:k=i:=by omega
       have l2:¬ (k:Int) < k:=by omega
       have c5:=q3h (l:=T k) (by omega) (by rw [psum]; unfold q0Q; omega);rw [psum] at c5;have c6:=q62 (V:=S);rw [<- hde] at c6;have N5:=q1S (V:=S);have N6:=q1S (V:=d);refine wk1 (x3 l2 lk lj) ?_;refine ⟨j+1,by omega,by omega,?_⟩;rw [es];refine LeM [(1003,some 127)] rfl rfl ?_;refine Zz ?_
       repeat' (first | omega | rfl | exact q0B rfl clV | exact q0B (by rw [zA]; rfl) clV | exact q0B (by rw [zA]; rfl) q1X | apply And.intro)
    ·obtain rfl:j=i:=by omega
     have q:¬ (j:Int) < j:=by omega
     clear cV hT;have tk:List.take j (((List.range j).map (vdX j v (vrX F j b z))).map λV=>pV V)=((List.range j).map (vdX j v (vrX F j b z))).map λV=>pV V:=zI (by simp);refine wk1 q ?_;refine q0A (λi=>i<=j) [5,9,11,12,14] [5,12,1003] Lk Lk (λi:Nat=>[(22,iv i),(21,.ow 1005 (some 2) 0 i)]) (λi=>[(1005,⟨58,some 2,(vfL F j v b z i).map λp=>.ag [uv p.1,uv p.2],false⟩)]) (λi=>j-i) 0 (zE _) ?_ ?_
     ·rw [hL0];refine LeM [(1005,none)] rfl rfl ?_;refine Zz ?_
      repeat' (first | rfl | exact q0B rfl clV | apply And.intro)
     ·intro i hi;have li:=hLl i
      by_cases hlt:i < j
      ·have q:(i:Int) < j:=by omega
       have gd:=hDg i hlt;have gb:=hBg i hlt;have es:=hLs i;obtain ⟨m1,m2,m3,m4⟩:=hNs i hlt;have nn:=hvn i;obtain ⟨w,hw⟩:∃ w,z[i]?=some w:=⟨_,zC Oq⟩;obtain ⟨w1,w2⟩:=hz w (zF hw);rw [getD_some hw] at es;generalize vdX j v (vrX F j b z) i=d at *;generalize btZ j v F i=u at *;generalize vfN F j v b z i=N at *;have c1:=q2t m1;have c2:=q2t m2;have dN:q0Q N:=by unfold q0Q; omega
       have c3:=q3A (A:=prZ d G) (B:=prZ u M) (by rw [<- nn]; exact dN);rw [<- nn] at c3;have c4:=CQ N;have r1:=qgt (mode:=2) (a:=N) (b:=G) Oq;have r2:=qmu (mode:=2) (a:=N) (b:=G) Oq;unfold vIv at es;generalize fQ 2 N G=R at *;have c5:=qaV (mode:=1) (.inr (.inl rfl)) ⟨w1,w2⟩ r1 r2;have c6:=q7l (mode:=2) (.inr (.inr rfl)) ⟨w1,w2⟩ r1 r2;generalize q9p 1 w R=a1 at *;generalize q6g 2 w R=a2 at *;have N2:=q1S (V:=d);have N3:=q1S (V:=u);have N4:=q1S (V:=N);have N5:=q1S (V:=prZ d G);have N6:=q1S (V:=prZ u M);refine wk1 (x6 q gd gb hw hDl (x3 hBl li tk)) ?_;refine ⟨i+1,by omega,by omega,?_⟩;rw [es];refine LeM [(1005,some 167)] rfl rfl ?_;refine Zz ?_
       repeat' (first | omega | rfl | exact q0B rfl clV | exact q0B (by rw [zA]; rfl) clV | exact q0B (by rw [zA]; rfl) q1X | apply And.intro)
      ·obtain rfl:i=j:=by omega
       have q:¬ (i:Int) < i:=by omega
       have hcl:(∀ a:Nat × Nat,a ∈ vfL F i v b z i->Cld (PV.ag [uv a.1,uv a.2]))=True:=eq_true λa _=>by
        intro y hy;simp at hy
        rcases hy with rfl | rfl <;> trivial
       exact wk1 (x3 q li hcl) trivial
end
section
variable {K:KwT}
def qso:ACt 64 [] (dT q2I):=q6l q9y
def qcy:ACt 98 [.ag [bv false,bv false,q01,iv 0]] (.ag [bv false,bv false,q01,iv 0,bv false,bv false,q01,iv 0]):=by
 refine ac0 Tryz.func98 Tryz.ntmps98 [.cell 2 142] ?_;exact wk trivial
def qnn {x:Nat} (hu:x < 18446744073709551616/\q0F x):ACt 55 [uv x] (dT (ofZ x)):=q6l (q0i hu.1 (q0O hu.2))
def qsm {r c i j:Nat} {v:List Nat} (hr:r<=64) (hc:c<=64) (hl:v.length=r*c) (hv:q07 v) (hi:i < r) (hj:j < c):ACt 66 [pPn r c v,iv i,iv j] (dT (ofZ (v.getD (j*r+i) 0))):=q6l (q5l hr hc hl hv hi hj)
def qnr (h:KwF K) (hb:K.b.length≠K.n):ACt 25 [pIm K.n K.a,pP K.b,pPn K.n K.n K.v,pF K.z,pP K.x] (.tu [pP [],bv false,iv 2]):=by
 have hn:=h.n;have hnn:K.n*K.n<=20*20:=zL hn hn;have hvl:=h.vl;have hch:chP K.n K.n K.v=0:=by unfold chP; rw [if_neg (not_not_intro h.vl),if_pos λx hx=>(h.v x hx).2]
 have c1:=q3F (r:=K.n) (c:=K.n) (v:=K.v) Oq Oq Oq λx hx=>(h.v x hx).1;rw [hch] at c1;have c2:=λj=>q1K (h.a j) (by rw [q0q]; omega);have c3:=q1K h.b h.bl;have c4:=q1K h.x (by have:=h.xl; omega);have c5:=q1H (l:=K.z) (λx hx=>(h.z x hx).1) (by have:=h.zl; omega);rw [decide_eq_true λx hx=>(h.z x hx).2] at c5;have hzl:=h.zl;have hxl:=h.xl;have hrl:=λj=>show ((q1L K.n K.a j).map λp=>PV.ag [uv p.1,uv p.2]).length=K.n by rw [zD,q0q]
 have hrg:=λj (hj:j < K.n)=>show ((List.range K.n).map λj=>pP (q1L K.n K.a j))[j]?=some (pP (q1L K.n K.a j)) by rw [zB,zG hj]; rfl
 have hrr:((List.range K.n).map λj=>pP (q1L K.n K.a j)).length=K.n:=by simp
 clear h;obtain ⟨n,v,a,b,z,x⟩:=K;dsimp only at *;unfold pIm;generalize (List.range n).map (λj=>pP (q1L n a j))=M at *;unfold pPn at *;refine ac0 Tryz.func25 Tryz.ntmps25 [.tmp 10,.tmp 11,.tmp 12] ?_;refine wk1 hrr ?_;refine q0A (λi=>i<=n) [0,1,3,4,7,13] [7] Lk Lk (λi:Nat=>[(14,iv i)]) (λ_=>[]) (λi=>n-i) 0 (zE _) ?_ ?_
 ·refine LeM [] rfl rfl ?_;refine Zz ?_
  rfl
 intro i hi
 by_cases hlt:i < n
 ·have q:(i:Int) < n:=by omega
  have gi:=hrg i hlt;have gl:=hrl i;have q2:((n:Int) != (n:Int))=false:=by simp
  unfold pP at gi;refine wk1 (x5 q gi hrr gl q2) ?_;refine ⟨i+1,by omega,by omega,?_⟩;refine LeM [] rfl rfl ?_;refine Zz ?_;omega
 obtain rfl:i=n:=by omega
 have q:¬ (i:Int) < i:=by omega
 have qb:((b.length:Int) != (i:Int))=true:=by simp; omega
 exact wk1 (x2 q qb) trivial
def qns (h:KwF K) (hb:K.b.length=K.n) (hf:¬ ∀ p ∈ K.b,q2j p):ACt 25 [pIm K.n K.a,pP K.b,pPn K.n K.n K.v,pF K.z,pP K.x] (.tu [pP [],bv false,iv 4]):=by
 have hn:=h.n;have hnn:K.n*K.n<=20*20:=zL hn hn;have hvl:=h.vl;have hch:chP K.n K.n K.v=0:=by unfold chP; rw [if_neg (not_not_intro h.vl),if_pos λx hx=>(h.v x hx).2]
 have c1:=q3F (r:=K.n) (c:=K.n) (v:=K.v) Oq Oq Oq λx hx=>(h.v x hx).1;rw [hch] at c1;have c2:=λj=>q1K (h.a j) (by rw [q0q]; omega);have c3:=q1K h.b h.bl;have c4:=q1K h.x (by have:=h.xl; omega);have c5:=q1H (l:=K.z) (λx hx=>(h.z x hx).1) (by have:=h.zl; omega);rw [decide_eq_true λx hx=>(h.z x hx).2] at c5;have hzl:=h.zl;have hxl:=h.xl;have hrl:=λj=>show ((q1L K.n K.a j).map λp=>PV.ag [uv p.1,uv p.2]).length=K.n by rw [zD,q0q]
 have hrg:=λj (hj:j < K.n)=>show ((List.range K.n).map λj=>pP (q1L K.n K.a j))[j]?=some (pP (q1L K.n K.a j)) by rw [zB,zG hj]; rfl
 have hrr:((List.range K.n).map λj=>pP (q1L K.n K.a j)).length=K.n:=by simp
 rw [decide_eq_false hf] at c3;clear h;obtain ⟨n,v,a,b,z,x⟩:=K;dsimp only at *;unfold pIm;generalize (List.range n).map (λj=>pP (q1L n a j))=M at *;unfold pPn at *;refine ac0 Tryz.func25 Tryz.ntmps25 [.tmp 10,.tmp 11,.tmp 12] ?_;refine wk1 hrr ?_;refine q0A (λi=>i<=n) [0,1,3,4,7,13] [7] Lk Lk (λi:Nat=>[(14,iv i)]) (λ_=>[]) (λi=>n-i) 0 (zE _) ?_ ?_
 ·refine LeM [] rfl rfl ?_;refine Zz ?_
  rfl
 intro i hi
 by_cases hlt:i < n
 ·have q:(i:Int) < n:=by omega
  have gi:=hrg i hlt;have gl:=hrl i;have q2:((n:Int) != (n:Int))=false:=by simp
  unfold pP at gi;refine wk1 (x5 q gi hrr gl q2) ?_;refine ⟨i+1,by omega,by omega,?_⟩;refine LeM [] rfl rfl ?_;refine Zz ?_;omega
 obtain rfl:i=n:=by omega
 have q:¬ (i:Int) < i:=by omega
 have qb:((b.length:Int) != (i:Int))=false:=by simp; omega
 have qz:((z.length:Int) != (i:Int))=false:=by simp; omega
 have qx:((x.length:Int) != (i:Int))=false:=by simp; omega
 have qn:((i:Int) != (i:Int))=false:=by simp
 refine wk1 (x6 q qb qz qx qn hrr) ?_;refine q0A (λj=>j<=i) [0,13,16] [] Lk Lk (λj:Nat=>[(17,iv j)]) (λ_=>[]) (λj=>i-j) 0 (zE _) ?_ ?_
 ·refine LeM [] rfl rfl ?_;refine Zz ?_
  rfl
 ·intro j hj
  by_cases hlt:j < i
  ·have q:(j:Int) < i:=by omega
   refine wk1 q ?_;refine ⟨j+1,by omega,by omega,?_⟩;refine LeM [] rfl rfl ?_;refine Zz ?_;omega
  ·obtain rfl:j=i:=by omega
   have q:¬ (j:Int) < j:=by omega
   exact wk1 q trivial
def qno (h:KwF K) (hb:K.b.length=K.n) (ht:∀ p ∈ K.b,q2j p) (hf:¬ ∀ p ∈ K.x,q2j p):ACt 25 [pIm K.n K.a,pP K.b,pPn K.n K.n K.v,pF K.z,pP K.x] (.tu [pP [],bv false,iv 4]):=by
 have hn:=h.n;have hnn:K.n*K.n<=20*20:=zL hn hn;have hvl:=h.vl;have hch:chP K.n K.n K.v=0:=by unfold chP; rw [if_neg (not_not_intro h.vl),if_pos λx hx=>(h.v x hx).2]
 have c1:=q3F (r:=K.n) (c:=K.n) (v:=K.v) Oq Oq Oq λx hx=>(h.v x hx).1;rw [hch] at c1;have c2:=λj=>q1K (h.a j) (by rw [q0q]; omega);have c3:=q1K h.b h.bl;have c4:=q1K h.x (by have:=h.xl; omega);have c5:=q1H (l:=K.z) (λx hx=>(h.z x hx).1) (by have:=h.zl; omega);rw [decide_eq_true λx hx=>(h.z x hx).2] at c5;have hzl:=h.zl;have hxl:=h.xl;have hrl:=λj=>show ((q1L K.n K.a j).map λp=>PV.ag [uv p.1,uv p.2]).length=K.n by rw [zD,q0q]
 have hrg:=λj (hj:j < K.n)=>show ((List.range K.n).map λj=>pP (q1L K.n K.a j))[j]?=some (pP (q1L K.n K.a j)) by rw [zB,zG hj]; rfl
 have hrr:((List.range K.n).map λj=>pP (q1L K.n K.a j)).length=K.n:=by simp
 rw [decide_eq_true ht] at c3;rw [decide_eq_false hf] at c4;clear h;obtain ⟨n,v,a,b,z,x⟩:=K;dsimp only at *;unfold pIm;generalize (List.range n).map (λj=>pP (q1L n a j))=M at *;unfold pPn at *;refine ac0 Tryz.func25 Tryz.ntmps25 [.tmp 10,.tmp 11,.tmp 12] ?_;refine wk1 hrr ?_;refine q0A (λi=>i<=n) [0,1,3,4,7,13] [7] Lk Lk (λi:Nat=>[(14,iv i)]) (λ_=>[]) (λi=>n-i) 0 (zE _) ?_ ?_
 ·refine LeM [] rfl rfl ?_;refine Zz ?_
  rfl
 intro i hi
 by_cases hlt:i < n
 ·have q:(i:Int) < n:=by omega
  have gi:=hrg i hlt;have gl:=hrl i;have q2:((n:Int) != (n:Int))=false:=by simp
  unfold pP at gi;refine wk1 (x5 q gi hrr gl q2) ?_;refine ⟨i+1,by omega,by omega,?_⟩;refine LeM [] rfl rfl ?_;refine Zz ?_;omega
 obtain rfl:i=n:=by omega
 have q:¬ (i:Int) < i:=by omega
 have qb:((b.length:Int) != (i:Int))=false:=by simp; omega
 have qz:((z.length:Int) != (i:Int))=false:=by simp; omega
 have qx:((x.length:Int) != (i:Int))=false:=by simp; omega
 have qn:((i:Int) != (i:Int))=false:=by simp
 refine wk1 (x6 q qb qz qx qn hrr) ?_;refine q0A (λj=>j<=i) [0,13,16] [] Lk Lk (λj:Nat=>[(17,iv j)]) (λ_=>[]) (λj=>i-j) 0 (zE _) ?_ ?_
 ·refine LeM [] rfl rfl ?_;refine Zz ?_
  rfl
 ·intro j hj
  by_cases hlt:j < i
  ·have q:(j:Int) < i:=by omega
   refine wk1 q ?_;refine ⟨j+1,by omega,by omega,?_⟩;refine LeM [] rfl rfl ?_;refine Zz ?_;omega
  ·obtain rfl:j=i:=by omega
   have q:¬ (j:Int) < j:=by omega
   exact wk1 q trivial
def kwG (K:KwT):Nat->Bool
 | 0=>true
 | m+1=>kwG K m && decide (∀ p ∈ q1L K.n K.a m,q2j p)
def kwG_t {m:Nat}:kwG K m=true ↔ ∀ j,j < m->∀ p ∈ q1L K.n K.a j,q2j p:=by
 induction m with
 | zero=>simp [kwG]
 | succ m ih =>
  rw [kwG,Bool.and_eq_true,ih,decide_eq_true_eq]
  constructor
  ·rintro ⟨h1,h2⟩ j hj
   by_cases e:j=m
   ·rw [e]; exact h2
   ·exact h1 j Oq
  ·intro h;exact ⟨λj hj=>h j Oq,h m Oq⟩
def qnp (h:KwF K) (hb:K.b.length=K.n) (ht:∀ p ∈ K.b,q2j p) (ht2:∀ p ∈ K.x,q2j p) (hf:¬ ∀ j,j < K.n->∀ p ∈ q1L K.n K.a j,q2j p):ACt 25 [pIm K.n K.a,pP K.b,pPn K.n K.n K.v,pF K.z,pP K.x] (.tu [pP [],bv false,iv 4]):=by
 have hn:=h.n;have hnn:K.n*K.n<=20*20:=zL hn hn;have hvl:=h.vl;have hch:chP K.n K.n K.v=0:=by unfold chP; rw [if_neg (not_not_intro h.vl),if_pos λx hx=>(h.v x hx).2]
 have c1:=q3F (r:=K.n) (c:=K.n) (v:=K.v) Oq Oq Oq λx hx=>(h.v x hx).1;rw [hch] at c1;have c2:=λj=>q1K (h.a j) (by rw [q0q]; omega);have c3:=q1K h.b h.bl;have c4:=q1K h.x (by have:=h.xl; omega);have c5:=q1H (l:=K.z) (λx hx=>(h.z x hx).1) (by have:=h.zl; omega);rw [decide_eq_true λx hx=>(h.z x hx).2] at c5;have hzl:=h.zl;have hxl:=h.xl;have hrl:=λj=>show ((q1L K.n K.a j).map λp=>PV.ag [uv p.1,uv p.2]).length=K.n by rw [zD,q0q]
 have hrg:=λj (hj:j < K.n)=>show ((List.range K.n).map λj=>pP (q1L K.n K.a j))[j]?=some (pP (q1L K.n K.a j)) by rw [zB,zG hj]; rfl
 have hrr:((List.range K.n).map λj=>pP (q1L K.n K.a j)).length=K.n:=by simp
 rw [decide_eq_true ht] at c3;rw [decide_eq_true ht2] at c4;have g0:kwG K 0=true:=rfl;have gs:=λm=>show kwG K (m+1)=(kwG K m && decide (∀ p ∈ q1L K.n K.a m,q2j p)) from rfl;have gn:kwG K K.n=false:=by
  rw [<- Bool.not_eq_true,kwG_t];exact hf
 generalize kwG K=G at *;clear h hf ht ht2;obtain ⟨n,v,a,b,z,x⟩:=K;dsimp only at *;unfold pIm;generalize (List.range n).map (λj=>pP (q1L n a j))=M at *;unfold pPn at *;refine ac0 Tryz.func25 Tryz.ntmps25 [.tmp 10,.tmp 11,.tmp 12] ?_;refine wk1 hrr ?_;refine q0A (λi=>i<=n) [0,1,3,4,7,13] [7] Lk Lk (λi:Nat=>[(14,iv i)]) (λ_=>[]) (λi=>n-i) 0 (zE _) ?_ ?_
 ·refine LeM [] rfl rfl ?_;refine Zz ?_
  rfl
 intro i hi
 by_cases hlt:i < n
 ·have q:(i:Int) < n:=by omega
  have gi:=hrg i hlt;have gl:=hrl i;have q2:((n:Int) != (n:Int))=false:=by simp
  unfold pP at gi;refine wk1 (x5 q gi hrr gl q2) ?_;refine ⟨i+1,by omega,by omega,?_⟩;refine LeM [] rfl rfl ?_;refine Zz ?_;omega
 obtain rfl:i=n:=by omega
 have q:¬ (i:Int) < i:=by omega
 have qb:((b.length:Int) != (i:Int))=false:=by simp; omega
 have qz:((z.length:Int) != (i:Int))=false:=by simp; omega
 have qx:((x.length:Int) != (i:Int))=false:=by simp; omega
 have qn:((i:Int) != (i:Int))=false:=by simp
 refine wk1 (x6 q qb qz qx qn hrr) ?_;refine q0A (λj=>j<=i) [0,13] [] Lk Lk (λj:Nat=>[(17,iv j),(16,bv (G j))]) (λ_=>[]) (λj=>i-j) 0 (zE _) ?_ ?_
 ·rw [g0];refine LeM [] rfl rfl ?_;refine Zz ?_
  rfl
 ·intro j hj
  by_cases hlt:j < i
  ·have q:(j:Int) < i:=by omega
   have gi:=hrg j hlt;have c6:=c2 j;have e:=gs j;generalize decide (∀ p ∈ q1L i a j,q2j p)=dd at *;unfold pP at gi c6;generalize G j=Gj at *;cases Gj
   ·refine wk1 q ?_;refine ⟨j+1,by omega,by omega,?_⟩;rw [e];refine LeM [] rfl rfl ?_;refine Zz ?_;exact ⟨by omega,rfl⟩
   ·refine wk1 (x3 q gi hrr) ?_;refine ⟨j+1,by omega,by omega,?_⟩;rw [e];refine LeM [] rfl rfl ?_;refine Zz ?_;exact ⟨by omega,rfl⟩
  ·obtain rfl:j=i:=by omega
   have q:¬ (j:Int) < j:=by omega
   rw [gn];exact wk1 q trivial
end
section
variable {K:KwT}
def qbJ {p:Nat × Nat} (h1:q2j p) (h2:nnI p):ACt 95 [.ag [uv p.1,uv p.2]] (pS (ivZ p)):=qsp ⟨h2.1.1,h1.1⟩ ⟨h2.2.1,h1.2.1⟩
def q7T {j k p q:Nat} {a c:Int × Int} (ha:spK j p a) (hc:spK k q c) (hjk:j+k<=65536) (hpq:p+q<=196608) (hp:p<=131072) (hq:q<=131072):ACt 97 [pS a,pS c] (pS (spM a c)):=qeM ha hc hjk hpq hp hq
def q6p {V:Int}:ACt 98 [dT V] (pS (V,V)):=qeP
def spJ (g:Nat->Int × Int) (m:Nat):List PV:=(List.range m).map λc=>pS (g c)
def spJ_s {g:Nat->Int × Int} {m:Nat}:spJ g (m+1)=spJ g m ++ [pS (g m)]:=by unfold spJ; rw [zR,zA]; rfl
def qoa {g:Nat->Int × Int} {m:Nat}:(spJ g m).length=m:=by unfold spJ; simp
def qob {g:Nat->Int × Int} {m c:Nat} (h:c < m):(spJ g m)[c]?=some (pS (g c)):=by unfold spJ; rw [zB,zG h]; rfl
def qty {g:Nat->Int × Int} {m:Nat}:ClL (spJ g m):=λx hx=>by
 obtain ⟨c,_,rfl⟩:=zO.1 hx;exact cdS
def clJ {l:List PV} {x:PV} (h:ClL l) (hx:Cld x):ClL (l ++ [x]):=λy hy=>by
 rcases zU.1 hy with h1 | h1
 ·exact h y h1
 ·obtain rfl:=List.mem_singleton.1 h1;exact hx
def qwt {a b:Int}:(q5V a b > 0) ↔ b < a:=by unfold q5V; repeat (first | omega | split)
def qws {a b:Int}:(q5V a b < 0) ↔ a < b:=by unfold q5V; repeat (first | omega | split)
def qnq (h:KwF K) (hbl:K.b.length=K.n) (hP:KwP K):ACt 25 [pIm K.n K.a,pP K.b,pPn K.n K.n K.v,pF K.z,pP K.x] (.tu [pP (kwL K K.n),bv (kwB K K.n),iv 0]):=by
 have hn:=h.n;have hnn:K.n*K.n<=20*20:=zL hn hn;have hch:chP K.n K.n K.v=0:=by unfold chP; rw [if_neg (not_not_intro h.vl),if_pos λx hx=>(h.v x hx).2]
 have c1:=q3F (r:=K.n) (c:=K.n) (v:=K.v) Oq Oq (by have:=h.vl; omega) λx hx=>(h.v x hx).1;rw [hch] at c1;have c2:∀ j,j < K.n->_:=λj hj=>q1K (h.a j) (by rw [q0q]; omega);have c2':∀ j,j < K.n->ACt 93 [pP (q1L K.n K.a j)] (bv true):=λj hj=>by
  have:=q1K (h.a j) (by rw [q0q]; omega);rw [decide_eq_true (hP.1 j hj)] at this;exact this
 clear c2;have c3:=q1K h.b h.bl;have c4:=q1K h.x (by have:=h.xl; omega);rw [decide_eq_true hP.2.1] at c3;rw [decide_eq_true hP.2.2] at c4;have c5:=q1H (l:=K.z) (λx hx=>(h.z x hx).1) (by have:=h.zl; omega);rw [decide_eq_true λx hx=>(h.z x hx).2] at c5;have hzl:=h.zl;have hxl:=h.xl;have hvl:=h.vl;have pa:=λj k (hj:j < K.n) (hk:k < K.n)=>kw_a hP hj hk;have pu:=λj k (hj:j < K.n) (hk:k < K.n)=>h.a j _ (zF (q3L (j:=j) (a:=K.a) hk));have cV:∀ {i j:Nat},i < K.n->j < K.n->_:=λ{i j} hi hj=>qsm (i:=i) (j:=j) (show K.n<=64 by omega) (show K.n<=64 by omega) hvl h.v hi hj;have hfV:=λi=>q0V h.v (i:=i);have sD:=λj (hj:j < K.n) k hk=>qcK h hP hbl hj k hk;have sE:=λi j (hj:j < K.n) k hk=>qcJ h hP (i:=i) hj k hk;have sS:=λi j hj=>qgH h hP hbl (i:=i) j hj;have pr:=λj (hj:j < K.n)=>qv6 h hP hbl hj;have hD0:=λj=>show kwD K j 0=ivZ (K.b.getD j (0,0)) from rfl;have hDs:=λj k=>show kwD K j (k+1)=spS (kwD K j k) (spM (ivZ (K.a j k)) (ptZ (K.z.getD k 0))) from rfl;have hE0:=λi j=>show kwE K i j 0=if i=j then (q2I,q2I) else (0,0) from rfl
 have hEs:=λi j k=>show kwE K i j (k+1)=spS (kwE K i j k) (spM (ptZ (K.v.getD (k*K.n+i) 0)) (ivZ (K.a k j))) from rfl;have hS0:=λi=>show kwS K i 0=ptZ (K.z.getD i 0) from rfl;have hSs:=λi j=>show kwS K i (j+1)=spA (spA (kwS K i j) (spM (ptZ (K.v.getD (j*K.n+i) 0)) (kwD K j K.n))) (spM (kwE K i j K.n) (spS (ivZ (K.x.getD j (0,0))) (ptZ (K.z.getD j 0)))) from rfl;have hO:=λi=>show kwO K i=(fR 1 (kwS K i K.n).1,fR 2 (kwS K i K.n).2) from rfl;have hOn:=λi=>qmh (K:=K) (i:=i);have hBs:=λi=>qv7 (K:=K) (m:=i);have hB0:kwB K 0=true:=rfl;have hLs:=λi=>show kwL K (i+1)=kwL K i ++ [kwO K i] by unfold kwL; rw [zR,zA]; rfl
 have hLl:=λi=>show (kwL K i).length=i by unfold kwL; simp
 have hL0:kwL K 0=[]:=rfl;have hz:=h.z;have hrl:=λj=>show ((q1L K.n K.a j).map λp=>PV.ag [uv p.1,uv p.2]).length=K.n by rw [zD,q0q]
 have hrg:=λj (hj:j < K.n)=>show ((List.range K.n).map λj=>pP (q1L K.n K.a j))[j]?=some (pP (q1L K.n K.a j)) by rw [zB,zG hj]; rfl
 have hrk:=λj k (hk:k < K.n)=>show ((q1L K.n K.a j).map λp=>PV.ag [uv p.1,uv p.2])[k]?=some (.ag [uv (K.a j k).1,uv (K.a j k).2]) by rw [zB,q3L hk]; rfl
 have hrr:((List.range K.n).map λj=>pP (q1L K.n K.a j)).length=K.n:=by simp
 generalize kwD K=D at *;generalize kwE K=E at *;generalize kwS K=S at *;generalize kwO K=O at *;generalize kwL K=L at *;generalize kwB K=B at *;clear h hP;obtain ⟨n,v,a,b,z,x⟩:=K;dsimp only at *;unfold pIm at *;generalize (List.range n).map (λj=>pP (q1L n a j))=M at *;unfold pPn at *;have gxl:(x.map λp=>PV.ag [uv p.1,uv p.2]).length=n:=by rw [zD,hxl]
 have gxg:=λj (hj:j < n)=>show (x.map λp=>PV.ag [uv p.1,uv p.2])[j]?=some (.ag [uv (x.getD j (0,0)).1,uv (x.getD j (0,0)).2]) by
  obtain ⟨w,hw⟩:∃ w,x[j]?=some w:=⟨_,zC Oq⟩;rw [zB,hw,getD_some hw]; rfl
 have gbg:=λj (hj:j < n)=>show (b.map λp=>PV.ag [uv p.1,uv p.2])[j]?=some (.ag [uv (b.getD j (0,0)).1,uv (b.getD j (0,0)).2]) by
  obtain ⟨w,hw⟩:∃ w,b[j]?=some w:=⟨_,zC Oq⟩;rw [zB,hw,getD_some hw]; rfl
 have gbl:(b.map λp=>PV.ag [uv p.1,uv p.2]).length=n:=by rw [zD,hbl]
 have hzg:=λj (hj:j < n)=>show z[j]?=some (z.getD j 0) by
  obtain ⟨w,hw⟩:∃ w,z[j]?=some w:=⟨_,zC Oq⟩;rw [hw,getD_some hw]
 have hzf:=λj=>q0V hz (i:=j);unfold pP at *;generalize (x.map λp=>PV.ag [uv p.1,uv p.2])=xs at *;generalize (b.map λp=>PV.ag [uv p.1,uv p.2])=bs at *;clear hz hxl hvl;refine ac0 Tryz.func25 Tryz.ntmps25 [.tmp 10,.tmp 11,.tmp 12] ?_;refine wk1 hrr ?_;refine q0A (λi=>i<=n) [0,1,3,4,7,13] [7] Lk Lk (λi:Nat=>[(14,iv i)]) (λ_=>[]) (λi=>n-i) 0 (zE _) ?_ ?_
 ·refine LeM [] rfl rfl ?_;refine Zz ?_
  rfl
 intro i hi
 by_cases hlt:i < n
 ·have q:(i:Int) < n:=by omega
  have gi:=hrg i hlt;have gl:=hrl i;have q2:((n:Int) != (n:Int))=false:=by simp
  refine wk1 (x5 q gi hrr gl q2) ?_;refine ⟨i+1,by omega,by omega,?_⟩;refine LeM [] rfl rfl ?_;refine Zz ?_;omega
 obtain rfl:i=n:=by omega
 have q:¬ (i:Int) < i:=by omega
 have qn:((i:Int) != (i:Int))=false:=by simp
 have qz:((z.length:Int) != (i:Int))=false:=by simp; omega
 refine wk1 (x6 q qn gbl gxl hzl (x2 qz hrr)) ?_;refine q0A (λj=>j<=i) [0,1,3,4,7,13,16] [7] Lk Lk (λj:Nat=>[(17,iv j)]) (λ_=>[]) (λj=>i-j) 0 (zE _) ?_ ?_
 ·refine LeM [] rfl rfl ?_;refine Zz ?_
  rfl
 ·intro j hj
  by_cases hlt:j < i
  ·have q:(j:Int) < i:=by omega
   have gi:=hrg j hlt;have c6:=c2' j hlt;refine wk1 (x3 q gi hrr) ?_;refine ⟨j+1,by omega,by omega,?_⟩;refine LeM [] rfl rfl ?_;refine Zz ?_;omega
  ·obtain rfl:j=i:=by omega
   have q:¬ (j:Int) < j:=by omega
   clear c1 c2' c3 c4 c5;refine wk1 q ?_;refine q0A (λi=>i<=j) [0,1,3,4,7,13] [7] Lk Lk (λi:Nat=>[(19,iv i),(18,.ow 1001 (some 8) 0 i)]) (λi=>[(1001,⟨142,some 8,spJ (λc=>D c j) i,false⟩)]) (λi=>j-i) 0 (zE _) ?_ ?_
   ·rw [show spJ (λc=>D c j) 0=[] from rfl];refine LeM [(1001,none)] rfl rfl ?_;refine Zz ?_
    rfl
   ·intro i hi;have wl:=qoa (g:=λc=>D c j) (m:=i);have wc:=qty (g:=λc=>D c j) (m:=i);have ws:spJ (λc=>D c j) (i+1)=spJ (λc=>D c j) i ++ [pS (D i j)]:=spJ_s
    by_cases hlt:i < j
    ·have q:(i:Int) < j:=by omega
     obtain ⟨⟨p1,p2⟩,_⟩:=pr i hlt;have d0:=hD0 i;have ce:ACt 95 [.ag [uv (b.getD i (0,0)).1,uv (b.getD i (0,0)).2]] (pS (D i 0)):=by rw [d0]; exact qbJ p1 p2
     have ds:=hDs i;have sDj:=sD i hlt;have paj:=λk hk=>pa i k hlt hk;have puj:=λk hk=>pu i k hlt hk;have gj:=hrg i hlt;have gk:=hrk i;have gl:=hrl i;have gbj:=gbg i hlt;generalize b.getD i (0,0)=y at *;generalize spJ (λc=>D c j) i=W at *;clear sD sE sS hD0 hDs hE0 hEs hS0 hSs hO hOn hBs hB0 hLs hLl hL0 hrg hrk hrl pa pu pr gxg gbg cV hfV;generalize D i=Dj at *;refine wk1 (x4 q gbj gbl wl) ?_;refine q0A (λk=>k<=j) [0,1,3,4,7,13,18,19] [7,1001] Lk Lk (λk:Nat=>[(21,iv k),(20,.pt 20 0 0)]) (λk=>[(20,⟨142,some 8,[pS (Dj k)],false⟩)]) (λk=>j-k) 0 (zE _) ?_ ?_
     ·refine LeM [] rfl rfl ?_;refine Zz ?_;exact ⟨rfl,q0B rfl wc⟩
     ·intro k hk
      by_cases hlt2:k < j
      ·have q2:(k:Int) < j:=by omega
       have gz:=hzg k hlt2;have zf:=hzf k;have c2:=qbJ (paj k hlt2) (puj k hlt2);have c3:=qnn zf;have c3':=q6p (V:=ofZ (z.getD k 0));have k1:=q5K (q3u (paj k hlt2).1 (paj k hlt2).2.1) (q2S zf.2) Oq Oq;have c4:=q7T (q3u (paj k hlt2).1 (paj k hlt2).2.1) (q2S zf.2) Oq Oq Oq Oq;have c5:=q48 (sDj k hk) (k1.mono (k:=2148) (q:=67585+k) Oq Oq Oq) Oq;have es:=ds k;rw [<- es] at c5;have gak:=gk k hlt2;clear k1;generalize z.getD k 0=zk at *;change ACt _ _ (pS (spM (ivZ (a i k)) (ptZ zk))) at c4;change ACt _ [pS (ivZ (a i k)),pS (ptZ zk)] _ at c4;change ACt _ [_,pS (spM (ivZ (a i k)) (ptZ zk))] _ at c5;change ACt _ _ (pS (ptZ zk)) at c3';clear es ds;generalize spM (ivZ (a i k)) (ptZ zk)=m1 at *;generalize ivZ (a i k)=m2 at *;generalize ptZ zk=m3 at *;unfold dT at c3 c3';generalize ofZ zk=m4 at *;refine wk1 (x6 q2 gj hrr gak gl gz) ?_;refine ⟨k+1,by omega,by omega,?_⟩;refine LeM [] rfl rfl ?_;refine Zz ?_;exact ⟨by omega,q0B rfl wc⟩
      ·obtain rfl:k=j:=by omega
       have q2:¬ (k:Int) < k:=by omega
       refine wk1 (x2 q2 wl) ?_;refine ⟨i+1,by omega,by omega,?_⟩;refine LeM [(1001,some 141)] rfl rfl ?_;refine Zz ?_;rw [ws];exact ⟨by omega,q0B rfl (clJ wc cdS)⟩
    ·obtain rfl:i=j:=by omega
     have q:¬ (i:Int) < i:=by omega
     have wg:=λc (hc:c < i)=>qob (g:=λc=>D c i) (m:=i) hc;generalize spJ (λc=>D c i) i=W at *;clear ws hD0 hDs gbg gbl;refine wk1 q ?_;refine q0A (λj=>j<=i) [0,3,4,7,13,18] [7,1001] Lk Lk (λj:Nat=>[(24,iv j),(22,.ow 1003 (some 2) 0 j),(23,bv (B j))]) (λj=>[(1003,⟨58,some 2,(L j).map λp=>.ag [uv p.1,uv p.2],false⟩)]) (λj=>i-j) 0 (zE _) ?_ ?_
     ·rw [hL0,hB0];refine LeM [(1003,none)] rfl rfl ?_;refine Zz ?_
      first | exact q0B rfl wc | exact ⟨rfl,q0B rfl wc⟩
     ·intro j hj;have li:=hLl j
      by_cases hlt:j < i
      ·have q2:(j:Int) < i:=by omega
       have c1:=qnn (hzf j);have c1':ACt 98 [dT (ofZ (z.getD j 0))] (pS (S j 0)):=by rw [hS0 j]; exact q6p
       have gz:=hzg j hlt;generalize z.getD j 0=zi at *;unfold dT at c1 c1';generalize ofZ zi=yi at *;have sSi:=λt ht=>sS j t ht;have hSi:=λt=>hSs j t;have sEi:=λt ht=>sE j t ht;have hE0i:=λt=>hE0 j t;have hEi:=λt=>hEs j t;have hOi:=hO j;have hOni:=hOn j;have hBi:=hBs j;have hLi:=hLs j;generalize S j=Si at *;generalize E j=Ei at *;generalize O j=Oi at *;clear sS hSs sE hE0 hEs hO hOn hBs hLs hS0;refine wk1 (x2 q2 gz) ?_;refine q0A (λt=>t<=i) [0,3,4,7,13,18,22,23,24] [7,1001,1003] Lk Lk (λt:Nat=>[(26,iv t),(25,.pt 25 0 0)]) (λt=>[(25,⟨142,some 8,[pS (Si t)],false⟩)]) (λt=>i-t) 0 (zE _) ?_ ?_
       ·refine LeM [] rfl rfl ?_;refine Zz ?_
        first | exact ⟨rfl,q0B rfl wc,q0B rfl q1X⟩
       ·intro t ht
        by_cases hlt2:t < i
        ·have q3:(t:Int) < i:=by omega
         have c2:=cV hlt hlt2;have hyf:=hfV (t*i+j);have es:=hSi t;have kD:=sD t hlt2 i (zH _);have gd:=wg t hlt2;generalize D t i=dt at *;have c2':=q6p (V:=ofZ (v.getD (t*i+j) 0));have k1:=q5K (q2S hyf.2) kD Oq Oq;have c3:=q7T (q2S hyf.2) kD Oq Oq Oq Oq;have k2:=(k1.mono (k:=3222) (q:=68700+2*t) Oq Oq Oq);have c4:=q8d (sSi t ht) k2 Oq;have k3:=qew (sSi t ht) k2 (zH _);have sEt:=sEi t hlt2;have hEt:=λk=>hEi t k;have hE0t:=hE0i t;obtain ⟨⟨_,_⟩,p1,p2⟩:=pr t hlt2;have gxt:=gxg t hlt2;have c6:=qbJ p1 p2;have zf:=hzf t;have c7:=qnn zf;have c7':=q6p (V:=ofZ (z.getD t 0));have gzt:=hzg t hlt2;have k5:=qdK (q3u p1.1 p1.2.1) (q2S zf.2) (zH _);have c8:=q48 (q3u p1.1 p1.2.1) (q2S zf.2) Oq;have c9:=q7T (sEt i (zH _)) k5 Oq Oq Oq Oq;have k6:=q5K (sEt i (zH _)) k5 Oq Oq;have c10:=q8d k3 (k6.mono (k:=3222) (q:=68700+2*t+1) Oq Oq Oq) Oq;have pat:=λk hk=>pa k t hk hlt2;have put:=λk hk=>pu k t hk hlt2;have cVi:=λ{k:Nat} (hk:k < i)=>cV hlt hk;have hfi:=λk=>hfV (k*i+j);clear k1 k2 k3 k5 k6 pa pu pr cV;generalize v.getD (t*i+j) 0=y at *;change ACt _ _ (pS (ptZ y)) at c2';change ACt _ _ (pS (spM (ptZ y) dt)) at c3;change ACt _ [pS (ptZ y),pS dt] _ at c3;change ACt _ [_,pS (spM (ptZ y) dt)] (pS (spA (Si t) (spM (ptZ y) dt))) at c4;change ACt _ [pS (spA (Si t) (spM (ptZ y) dt)),pS (spM (Ei t i) (spS (ivZ (x.getD t (0,0))) (ptZ (z.getD t 0))))] (pS (spA (spA (Si t) (spM (ptZ y) dt)) (spM (Ei t i) (spS (ivZ (x.getD t (0,0))) (ptZ (z.getD t 0)))))) at c10;change ACt _ [pS (ivZ (x.getD t (0,0))),pS (ptZ (z.getD t 0))] (pS (spS (ivZ (x.getD t (0,0))) (ptZ (z.getD t 0)))) at c8;change ACt _ [pS (Ei t i),pS (spS (ivZ (x.getD t (0,0))) (ptZ (z.getD t 0)))] (pS (spM (Ei t i) (spS (ivZ (x.getD t (0,0))) (ptZ (z.getD t 0))))) at c9;change ACt _ _ (pS (ptZ (z.getD t 0))) at c7';rw [<- es] at c10;clear es;generalize z.getD t 0=zt at *;generalize x.getD t (0,0)=xt at *;generalize spM (ptZ y) dt=m1 at *
         generalize spA (Si t) m1=m2 at *;generalize ivZ xt=m3 at *;generalize ptZ zt=m4 at *;generalize spS m3 m4=m5 at *;generalize spM (Ei t i) m5=m6 at *;generalize ptZ y=m7 at *;unfold dT at c2 c2' c7 c7';generalize ofZ zt=m8 at *;generalize ofZ y=m9 at *;have p0:=qcy;refine wk1 (x3 q3 gd wl) ?_;clear p0;refine qiR λK0 hK0=>?_;have fin:∀ (s0:Nat->PV) (h:Hp),Le (λ_=>False) s0 h (stM [(0,.sl none M),(3,pF z),(4,.sl (some 2) xs),(7,.pt 7 0 0),(13,iv i),(18,.ow 1001 (some 8) 0 i),(22,.ow 1003 (some 2) 0 j),(23,bv (B j)),(24,iv j),(25,.pt 25 0 0),(26,iv t),(27,.pt 27 0 0)] []) (hpM [(7,⟨31,some 3,[.ag [iv i,iv i,pF v]],false⟩),(1001,⟨142,some 8,W,false⟩),(1003,⟨58,some 2,(L j).map λp=>.ag [uv p.1,uv p.2],false⟩),(25,⟨142,some 8,[pS m2],false⟩),(27,⟨142,some 8,[pS (Ei t 0)],false⟩)] [])->K0 s0 h:=by
          clear c2 c2' c3 c4 hE0t;intro s0 h hl;refine hK0 _ _ (q0u hl ?_); clear hK0 K0 hl;refine wk ?_;refine q0A (λk=>k<=i) [0,3,4,7,13,18,22,23,24,25,26] [7,25,1001,1003] Lk Lk (λk:Nat=>[(28,iv k),(27,.pt 27 0 0)]) (λk=>[(27,⟨142,some 8,[pS (Ei t k)],false⟩)]) (λk=>i-k) 0 (zE _) ?_ ?_
          ·refine LeM [] rfl rfl ?_;refine Zz ?_
           first | exact ⟨rfl,q0B rfl wc,q0B rfl q1X⟩
          ·intro k hk
           by_cases hlt3:k < i
           ·have q4:(k:Int) < i:=by omega
            have huf:=hfi k;have e2:=hEt k;have cu:=cVi hlt3;have gk:=hrg k hlt3;have gkt:=hrk k t hlt2;have glk:=hrl k;have c11:=q6p (V:=ofZ (v.getD (k*i+j) 0));have c12:=qbJ (pat k hlt3) (put k hlt3);have kk:=q3u (pat k hlt3).1 (pat k hlt3).2.1;have c13:=q7T (q2S huf.2) kk Oq Oq Oq Oq;have k7:=(q5K (q2S huf.2) kk Oq Oq).mono (k:=2148) (q:=67585+k) Oq Oq Oq;have c14:=q48 (sEt k hk) k7 Oq;clear kk k7;generalize v.getD (k*i+j) 0=u at *;change ACt _ _ (pS (ptZ u)) at c11;change ACt _ [pS (ptZ u),pS (ivZ (a k t))] (pS (spM (ptZ u) (ivZ (a k t)))) at c13;change ACt _ [_,pS (spM (ptZ u) (ivZ (a k t)))] (pS (spS (Ei t k) (spM (ptZ u) (ivZ (a k t))))) at c14;rw [<- e2] at c14;clear e2;generalize spM (ptZ u) (ivZ (a k t))=n1 at *;generalize ivZ (a k t)=n2 at *;generalize ptZ u=n3 at *;unfold dT at cu c11;generalize ofZ u=n4 at *;clear cVi;refine wk1 (x5 q4 gk hrr gkt glk) ?_;refine ⟨k+1,by omega,by omega,?_⟩;refine LeM [] rfl rfl ?_;refine Zz ?_
            first | exact ⟨by omega,q0B rfl wc,q0B rfl q1X⟩
           ·obtain rfl:k=i:=by omega
            have q4:¬ (k:Int) < k:=by omega
            clear cVi;refine wk1 (x4 q4 gxt gxl gzt) ?_;refine ⟨t+1,by omega,by omega,?_⟩;refine LeM [] rfl rfl ?_;refine Zz ?_
            first | exact ⟨by omega,q0B rfl wc,q0B rfl q1X⟩
         have one:=qso;have p1:=q6p (V:=q2I);unfold dT at one p1;clear cVi
         by_cases hit:j=t
         ·have q5:((j:Int) == (t:Int))=true:=by simp; omega
          rw [if_pos hit] at hE0t;rw [hE0t] at fin;refine wk1 q5 ?_;refine fin _ _ (LeM [] rfl rfl ?_)
          try refine Zz ?_
          first | exact ⟨q0B rfl wc,q0B rfl q1X⟩
         ·have q5:((j:Int) == (t:Int))=false:=by simp; omega
          rw [if_neg hit] at hE0t;rw [hE0t] at fin;have d0:decide (od 0 < 0)=false:=by rw [q04]; rfl
          have e0:dyE 0=0:=if_pos rfl;clear one p1;refine wk1 q5 ?_;refine fin _ _ (LeM [] rfl rfl ?_)
          try refine Zz ?_
          first | exact ⟨q0B rfl wc,q0B rfl q1X,d0.symm,(nfL q04).mpr trivial,e0.symm,d0.symm,(nfL q04).mpr trivial,e0.symm⟩ | exact ⟨q0B rfl wc,q0B rfl q1X,⟨d0.symm,(nfL q04).mpr trivial,e0.symm,d0.symm,(nfL q04).mpr trivial,e0.symm⟩,trivial⟩
        ·obtain rfl:t=i:=by omega
         have q3:¬ (t:Int) < t:=by omega
         have dS:=(sSi t (zH _)).d1 Oq;have c2:=q5w (mode:=1) dS.1;have c3:=q5w (mode:=2) dS.2;unfold dT at c2 c3;obtain ⟨⟨_,_⟩,p1,p2⟩:=pr j hlt;have gxi:=gxg j hlt;have c4:=qbo hOni.1.1 hOni.1.2 p2.1.1 p2.1.2;have c5:=qbo hOni.2.1 hOni.2.2 p2.2.1 p2.2.2;have eb:∀ o:Nat × Nat,decide (q1F (x.getD j (0,0)).1 < q1F o.1/\q1F o.2 < q1F (x.getD j (0,0)).2)=(decide (q5V (q1F o.1) (q1F (x.getD j (0,0)).1) > 0) && decide (q5V (q1F o.2) (q1F (x.getD j (0,0)).2) < 0)):=λo=>by
          rw [Bool.decide_and]
          congr 1 <;> simp only [qwt,qws]
         rw [eb] at hBi;clear pr pa pu cV eb;generalize x.getD j (0,0)=xi at *;rw [hOi] at c4 c5 hBi hLi;dsimp only at c4 c5 hBi;generalize fR 1 (Si t).1=o1 at *;generalize fR 2 (Si t).2=o2 at *;generalize q5V (q1F o1) (q1F xi.1)=k1 at *;generalize q5V (q1F o2) (q1F xi.2)=k2 at *;generalize B j=Bi at *;cases Bi
         ·rw [Bool.false_and] at hBi;refine wk1 (x4 q3 li gxi gxl) ?_;refine ⟨j+1,by omega,by omega,?_⟩;rw [hLi,hBi];refine LeM [(1003,some 255)] rfl rfl ?_;refine Zz ?_
          first | exact ⟨⟨by omega,by simp [*]⟩,q0B (by rw [zA]; rfl) q1X,q0B rfl wc⟩ | exact ⟨by omega,q0B (by rw [zA]; rfl) q1X,q0B rfl wc⟩
         ·by_cases g1:k1 > 0
          ·by_cases g2:k2 < 0
           ·rw [decide_eq_true g1,decide_eq_true g2] at hBi;refine wk1 (x4 q3 li gxi gxl) ?_;refine ⟨j+1,by omega,by omega,?_⟩;rw [hLi,hBi];refine LeM [(1003,some 255)] rfl rfl ?_;refine Zz ?_
            first | exact ⟨⟨by omega,by simp [*]⟩,q0B (by rw [zA]; rfl) q1X,q0B rfl wc⟩ | exact ⟨by omega,q0B (by rw [zA]; rfl) q1X,q0B rfl wc⟩
           ·rw [decide_eq_true g1,decide_eq_false g2] at hBi;refine wk1 (x4 q3 li gxi gxl) ?_;refine ⟨j+1,by omega,by omega,?_⟩;rw [hLi,hBi];refine LeM [(1003,some 255)] rfl rfl ?_;refine Zz ?_
            first | exact ⟨⟨by omega,by simp [*]⟩,q0B (by rw [zA]; rfl) q1X,q0B rfl wc⟩ | exact ⟨by omega,q0B (by rw [zA]; rfl) q1X,q0B rfl wc⟩
          ·rw [decide_eq_false g1,Bool.false_and,Bool.and_false] at hBi;refine wk1 (x4 q3 li gxi gxl) ?_;refine ⟨j+1,by omega,by omega,?_⟩;rw [hLi,hBi];refine LeM [(1003,some 255)] rfl rfl ?_;refine Zz ?_
           first | exact ⟨⟨by omega,by simp [*]⟩,q0B (by rw [zA]; rfl) q1X,q0B rfl wc⟩ | exact ⟨by omega,q0B (by rw [zA]; rfl) q1X,q0B rfl wc⟩
      ·obtain rfl:j=i:=by omega
       have q2:¬ (j:Int) < j:=by omega
       have hcl:(∀ a:Nat × Nat,a ∈ L j->Cld (PV.ag [uv a.1,uv a.2]))=True:=eq_true λa _=>by
        intro y hy;simp at hy
        rcases hy with rfl | rfl <;> trivial
       exact wk1 (x3 q2 li hcl) trivial
end
section
variable {C:Nat} {F:Nat->Nat->Option Nat} {f:LUt} {b:List Nat}
def qdw (l:List Nat):Prop:=(∀ v ∈ l,v < 9223372036854775808/\q0F v)/\∀ (k u v:Nat),l[k]?=some u->l[k+1]?=some v->2*ofZ v<=ofZ u
def qdw.snoc {l:List Nat} {a v:Nat} (h:qdw (l ++ [a])) (hv:v < 9223372036854775808/\q0F v) (h2:2*ofZ v<=ofZ a):qdw (l ++ [a] ++ [v]):=by
 refine ⟨λx hx=>?_,λk u w hu hw=>?_⟩
 ·rcases zU.1 hx with hx | hx
  ·exact h.1 x hx
  ·simp at hx; subst hx; exact hv
 ·by_cases hk:k+1 < (l ++ [a]).length
  ·rw [zS (by omega)] at hu;rw [zS hk] at hw;exact h.2 k u w hu hw
  ·have hk2:=(List.getElem?_eq_some_iff.1 hw).1;simp at hk hk2;obtain rfl:k=l.length:=by omega
   rw [zS (by simp),zX (zH _),Nat.sub_self] at hu;rw [zX (by simp),show l.length+1-(l ++ [a]).length=0 by simp] at hw;cases hu; cases hw; exact h2
def RefG (C:Nat) (F:Nat->Nat->Option Nat) (b:List Nat) (q:List (Nat × Nat) × List Nat × Int):Prop:=q.2.2=0->q.1.length=C/\(∀ p ∈ q.1,(p.1 < 18446744073709551616/\q0F p.1)/\p.2=0)/\q07 (rdL F q.1 b C C)/\qdw q.2.1/\∃ l,q.2.1=l ++ [q1r (rdL F q.1 b C C) C]
def chL_0 {x:List (Nat × Nat)} {d:List Nat} {n:Nat}:∀ p ∈ chL false x d n,p.2=0:=λp hp=>by
 obtain ⟨j,_,rfl⟩:=zO.1 hp
 rfl
def qu4:∀ (k:Nat) (x:List (Nat × Nat)) (r l:List Nat),r=rdL F x b C C->x.length=C->(∀ p ∈ x,(p.1 < 18446744073709551616/\q0F p.1)/\p.2=0)->q07 r->qdw (l ++ [q1r r C])->RefG C F b (rfL C F f b false k x r (l ++ [q1r r C]))
 | 0,x,r,l,hr,h1,h2,h3,h4=>λ_=>⟨h1,h2,hr ▸ h3,h4,l,by rw [hr]; rfl⟩
 | k+1,x,r,l,hr,h1,h2,h3,h4=>by
  rw [rfL]
  by_cases c1:q1r r C=0
  ·rw [if_pos c1]; exact λ_=>⟨h1,h2,hr ▸ h3,h4,l,by rw [hr]⟩
  rw [if_neg c1]
  by_cases c2:(lgE f r).2≠0
  ·rw [if_pos c2]; exact λh=>(c2 h).elim
  rw [if_neg c2]
  by_cases c3:¬ ∀ p ∈ chL false x (lgE f r).1 C,q0F p.1
  ·rw [if_pos c3]; exact λh=>by cases h
  rw [if_neg c3]
  by_cases c4:¬ ∀ v ∈ rdL F (chL false x (lgE f r).1 C) b C C,q0F v
  ·rw [if_pos c4]; exact λh=>by cases h
  rw [if_neg c4]
  by_cases c5:ofZ (q1r r C) < 2*ofZ (q1r (rdL F (chL false x (lgE f r).1 C) b C C) C)
  ·rw [if_pos c5]; exact λ_=>⟨h1,h2,hr ▸ h3,h4,l,by rw [hr]⟩
  rw [if_neg c5];have hfin:q07 (rdL F (chL false x (lgE f r).1 C) b C C):=λv hv=>⟨qow v hv,Classical.not_not.1 c4 v hv⟩;have hsz:=qb7 hfin;rw [qaU] at hsz;refine qu4 k _ _ (l ++ [q1r r C]) rfl qar (λp hp=>⟨⟨(qh6 (Classical.not_not.1 c3) p hp).1.1,Classical.not_not.1 c3 p hp⟩,chL_0 p hp⟩) hfin (h4.snoc hsz Oq)
def rfS_G {R:Nat} {steps:Int} (hb:LUb f) (hu:∀ v ∈ b,v < 18446744073709551616):RefG C F b (rfS C F f b false R steps):=by
 unfold rfS
 by_cases c1:rfR R C f steps≠0
 ·rw [if_pos c1]; exact λh=>(c1 h).elim
 rw [if_neg c1];obtain ⟨_,_,hC,_,_⟩:=qjB (Classical.not_not.1 c1)
 by_cases c2:(lgE f b).2≠0
 ·rw [if_pos c2]; exact λh=>(c2 h).elim
 rw [if_neg c2];obtain ⟨_,_,_,e1,e2⟩:=q7H hb hu (Classical.not_not.1 c2)
 by_cases c3:¬ ∀ v ∈ rdL F ((lgE f b).1.map λv=>(v,0)) b C C,q0F v
 ·rw [if_pos c3]; exact λh=>by cases h
 rw [if_neg c3];have hfin:q07 (rdL F ((lgE f b).1.map λv=>(v,0)) b C C):=λv hv=>⟨qow v hv,Classical.not_not.1 c3 v hv⟩;have hsz:=qb7 hfin;rw [qaU] at hsz;have hH:qdw ([] ++ [q1r (rdL F ((lgE f b).1.map λv=>(v,0)) b C C) C]):=⟨λx hx=>by simp at hx; subst hx; exact hsz,λk u v hu hv=>by simp at hv⟩;exact qu4 _ _ _ [] rfl (by rw [zD]; omega) (λp hp=>by
  obtain ⟨v,hv,rfl⟩:=zO.1 hp;exact ⟨e2 v hv,rfl⟩) hfin hH
end
abbrev pBo (m:Nat) (v z:List Nat):PV:=.ag [iv m,iv m,.ow 5000 none 0 v.length,pF z]
section
variable {F:Nat->Nat->Option Nat} {n m:Nat} {b z v:List Nat}
def BxOk (F:Nat->Nat->Option Nat) (n m:Nat) (v z:List Nat):Prop:=(m=n/\v.length=n*n/\q07 v/\z.length=n/\q07 z/\¬ q2I<=grZ (btL n v F))\/(m=0/\v=[]/\z=[])
def LeBn {J:Nat->Prop} {h:Hp} (hJ:∀ i,¬ J i) {k:Int}:Le J (λ_=>.tu [q01,.ag [iv 0,iv 0,q01,q01],iv k]) h (λ_=>.tu [.un,pBo 0 [] [],.un]) (q0R h0 5000 ⟨33,none,([]:List Nat).map λz:Nat=>uv z,false⟩) :=
 b5n hJ λ_=>.tu rfl λi x y hx hy=>by
  rcases i with _ | _ | _ | i
  ·cases hx; cases hy; exact .un
  ·cases hx; cases hy;exact .ag rfl λi x y hx hy=>by
    rcases i with _ | _ | _ | _ | i
    ·cases hx; cases hy; exact .cl trivial
    ·cases hx; cases hy; exact .cl trivial
    ·cases hx; cases hy; exact .nilow rfl q0K rfl
    ·cases hx; cases hy; exact .nilsl
    ·simp at hx
  ·cases hx; cases hy; exact .un
  ·simp at hx
def qsq (h:TOk F n n) (hn:n<=20) (hb:q07 b) (hbl:b.length=n):∃ m v z,BxOk F n m v z/\qdx 59 [pT n n F,pF b] h0 (.tu [.un,pBo m v z,.un]) (q0R h0 5000 ⟨33,none,v.map λz:Nat=>uv z,false⟩):=by
 have hJ:∀ i,¬ (h0 i≠none):=λi h=>h rfl;have hJe:(λi=>(h0:Hp) i≠none)=λ_=>False:=funext λi=>eq_false (hJ i);have C1:=qaN h;have D3:=q1H (l:=b) (λx hx=>(hb x hx).1) Oq;rw [decide_eq_true λx hx=>(hb x hx).2] at D3;have cL:=qj0 (num:=1) (den:=1) h Oq (cols:=q8o n) (qe5 n) Oq Oq Oq;have hLL:LUb (qmt F (tM F n n).2.1 n (q8o n) 1 1)/\(qmt F (tM F n n).2.1 n (q8o n) 1 1).rows.length<=n:=qvv (by omega) (by rw [q73]; omega);unfold facP at cL;obtain ⟨e0,he0⟩:∃ e0,e0=(q3Q F (tM F n n).2.1 n (q8o n) 1 1 n).1:=⟨_,rfl⟩;rw [<- he0] at cL;clear he0;obtain ⟨k0,hk0⟩:∃ k0:Nat,k0=(if e0=0 then n else (q3Q F (tM F n n).2.1 n (q8o n) 1 1 n).2.1:Nat):=⟨_,rfl⟩;rw [<- hk0] at cL;clear hk0;generalize qmt F (tM F n n).2.1 n (q8o n) 1 1=f at *;obtain ⟨hLb,hLr⟩:=hLL;have cV:=qiW hLb Oq;have hI:=qva (g:=f) hLb;have cR:=qcx (steps:=2) h hLb Oq (λx hx=>(hb x hx).1) Oq Oq Oq;have hG:=rfS_G (C:=n) (F:=F) (f:=f) (b:=b) (R:=n) (steps:=2) hLb λx hx=>(hb x hx).1;unfold rfH at cR;obtain ⟨x,hx⟩:∃ x,x=(rfS n F f b false n 2).1.map (·.1):=⟨_,rfl⟩;have hxo:(rfS n F f b false n 2).2.2=0->x.length=n/\q07 x:=λq=>by
  obtain ⟨g1,g2,_⟩:=hG q;refine ⟨by rw [hx,zD]; exact g1,λy hy=>?_⟩;rw [hx] at hy;obtain ⟨p,hp,rfl⟩:=zO.1 hy;exact (g2 p hp).1
 rw [<- hx] at cR;have hnr:(rfS n F f b false n 2).2.2=0->n=f.rows.length:=λq=>by
  unfold rfS at q
  by_cases c1:rfR n n f 2≠0
  ·rw [if_pos c1] at q; exact (c1 q).elim
  ·exact (qjB (Classical.not_not.1 c1)).2.1
 clear hx hG;generalize (rfS n F f b false n 2).2.1=sz at *;generalize (rfS n F f b false n 2).2.2=e3 at *;have hI1:=hI.1;have hI2:=hI.2.1;clear hI;generalize (ivA f).1=M at *;generalize (ivA f).2.1=W at *;generalize (ivA f).2.2=e2 at *;have hres:∃ m v z,BxOk F n m v z/\((e0=0/\e2=0/\e3=0/\(vfO F n W b x).2=true)->m=n/\v=W/\z=x)/\(¬ (e0=0/\e2=0/\e3=0/\(vfO F n W b x).2=true)->m=0/\v=[]/\z=[]):=by
  by_cases c:e0=0/\e2=0/\e3=0/\(vfO F n W b x).2=true
  ·obtain ⟨c0,c2,c3,c4⟩:=c;obtain ⟨x1,x2⟩:=hxo c3;obtain ⟨w1,w2⟩:=hI1 c2;refine ⟨n,W,x,.inl ⟨rfl,by rw [w2,<- hnr c3],hI2,x1,x2,λq=>?_⟩,λ_=>⟨rfl,rfl,rfl⟩,λq=>(q ⟨c0,c2,c3,c4⟩).elim⟩;unfold vfO at c4;rw [if_pos q] at c4;cases c4
  ·exact ⟨0,[],[],.inr ⟨rfl,rfl,rfl⟩,λq=>(c q).elim,λ_=>⟨rfl,rfl,rfl⟩⟩
 obtain ⟨m,v,z,hok,hp,hq⟩:=hres;refine ⟨m,v,z,hok,?_⟩;have cW:e2=0->e3=0->M=n/\ACt 160 [pT n n F,pF b,pBx n W x] (.tu [.un,bv (vfO F n W b x).2,iv 0]):=λc2 c3=>by
  obtain ⟨x1,x2⟩:=hxo c3;obtain ⟨w1,w2⟩:=hI1 c2;have hn3:=hnr c3;exact ⟨by omega,qcw h hn (by rw [w2,<- hn3]) hI2 hb hbl x2 x1⟩
 clear hok hI1 hxo hnr;have q1:((b.length:Int) != (n:Int))=false:=by simp; omega
 have q0:((n:Int) != (n:Int))=false:=by simp
 generalize (vfO F n W b x).2=ok at *;have NB:Nz (.tu [.un,bv ok,iv 0]):=nz_tu λx hx=>by
  simp at hx
  rcases hx with rfl | rfl | rfl
  ·exact λw D B v hB h=>by unfold Rd; trivial
  ·exact qbw
  ·exact qbw
 unfold pLU at cL cV cR;unfold pBx at cW;unfold pT q2U at *;generalize (tM F n n).1=ms at *;generalize (tM F n n).2.1=mi at *;generalize (tM F n n).2.2=mv at *;refine qeJ qxN Tryz.func59 rfl Tryz.ntmps59 (by kernel_rfl) ?_ ?_ ?_ ?_
 ·intro i b hb; cases hb
 ·intro i b hb
  by_cases hi:i=5000
  ·subst hi; exact ⟨by omega,by omega⟩
  ·rw [q0C hi] at hb; cases hb
 ·exact IdL.of λx hx=>by
   simp at hx
   rcases hx with rfl | rfl
   ·unfold IdP;exact IdL.of λx hx=>by
     simp at hx
     rcases hx with rfl | rfl | rfl | rfl | rfl <;> unfold IdP <;> trivial
   ·unfold IdP; trivial
 have hW:WfH h0:=⟨λi b hb=>by cases hb⟩;rw [hJe];refine wk1 (x2 q0 q1) ?_;refine q0U (λi=>i<=n) [1,2,4,5,6,8] [2,5] Lk Lk (λi:Nat=>[(10,iv i),(9,.ow 1001 none 0 i)]) (λi=>[(1001,⟨3,none,(q8o i).map λz=>iv z,false⟩)]) (λ_=>h0) (λi=>n-i) 0 (zE _) ?_ ?_
 ·refine LeW [(1001,none)] rfl rfl ?_ ?_ (by simp [q0w,q0h,win]) ?_
  ·exact Ow
  ·exact hW
  ·try refine Zz ?_
   first | done | rfl | exact ⟨rfl,rfl⟩
 ·intro i hi;have l1:=q73 i;have l2:=qe4 i
  by_cases hlt:i < n
  ·have q:(i:Int) < n:=by omega
   refine wk1 (x2 q l1) ?_;refine ⟨i+1,by omega,by omega,?_⟩;rw [l2];refine LeW [(1001,some 58)] rfl rfl ?_ ?_ (by simp [q0w,q0h,win]) ?_
   ·exact Ow
   ·exact hW
   ·try refine Zz ?_
    omega
  ·obtain rfl:i=n:=by omega
   have q:¬ (i:Int) < i:=by omega
   refine wk1 q ?_;refine q0u (LeW [] rfl rfl (hw:=h0) (xs:=[(1,pF b),(2,.pt 2 0 0),(4,q01),(5,.pt 5 0 0),(6,iv 0),(8,iv i),(9,pI (q8o i))]) (kv:=[]) (bs:=[(2,⟨27,some 5,[.ag [iv i,iv i,pI ms,pI mi,pF mv]],false⟩),(5,⟨37,some 4,[.ag [iv 0,iv 0,q01,q01]],false⟩)]) (kb:=[]) ?_ hW (by simp [q0w,q0h,win]) ?_) ?_
   ·exact Ow
   ·try refine Zz ?_
    refine qn8 (T:=3) (l:=(q8o i).map λz=>iv z) ?_ clI ?_ (by rw [zD,l1])
    ·try simp -implicitDefEqProofs (disch:=omega) only [go_sem,Nat.reduceEqDiff,Nat.reduceAdd,↓reduceIte]
    ·try simp -implicitDefEqProofs (disch:=omega) only [go_sem,Nat.reduceEqDiff,Nat.reduceAdd,↓reduceIte]
   by_cases g0:e0=0
   rotate_left
   ·have q2:(e0 != 0)=true:=by simpa using g0
    obtain ⟨rfl,rfl,rfl⟩:=hq λq=>g0 q.1;clear cV cW cR;refine wk1 q2 ?_;refine (rtM (rs:=[.tmp 4,.cell 5 37,.tmp 6]) rfl rfl Lq ?_ (.inl rfl));exact LeBn hJ
   subst g0;refine wk ?_;refine ql7 λK hK=>?_;refine Zz ?_;refine jmF cV ?_ ?_
   ·exact Ow
   try refine Zz ?_
   refine hK _ _ ?_; clear hK K
   by_cases g2:e2=0
   rotate_left
   ·have q2:(e2 != 0)=true:=by simpa using g2
    obtain ⟨rfl,rfl,rfl⟩:=hq λq=>g2 q.2.1;clear cW cR;refine wk1 q2 ?_;refine (rtM (rs:=[.tmp 4,.cell 5 37,.tmp 6]) rfl rfl Lq ?_ (.inl rfl));exact LeBn hJ
   subst g2
   by_cases g3:e3=0
   rotate_left
   ·have q2:(e3 != 0)=true:=by simpa using g3
    obtain ⟨rfl,rfl,rfl⟩:=hq λq=>g3 q.2.2.1;clear cW;refine wk1 q2 ?_;refine (rtM (rs:=[.tmp 4,.cell 5 37,.tmp 6]) rfl rfl Lq ?_ (.inl rfl));exact LeBn hJ
   subst g3;obtain ⟨rfl,cW⟩:=cW rfl rfl;have tk:List.take W.length (W.map λz:Nat=>uv z)=W.map λz:Nat=>uv z:=zI (by simp);cases ok
   ·obtain ⟨rfl,rfl,rfl⟩:=hq λq=>by cases q.2.2.2
    refine wk1 tk ?_;refine (rtM (rs:=[.tmp 4,.cell 5 37,.tmp 6]) rfl rfl Lq ?_ (.inl rfl));exact LeBn hJ
   ·obtain ⟨rfl,rfl,rfl⟩:=hp ⟨rfl,rfl,rfl,rfl⟩;refine wk1 tk ?_;refine (rtM (rs:=[.tmp 4,.cell 5 37,.tmp 6]) rfl rfl Lq ?_ (.inl rfl));refine b5 (a:=5000) hJ ?_ clU λ_=>.tu rfl λi x y hx hy=>?_
    ·try simp -implicitDefEqProofs (disch:=omega) only [go_sem,Nat.reduceEqDiff,Nat.reduceAdd,↓reduceIte]
    ·rcases i with _ | _ | _ | i
     ·cases hx; cases hy; exact .un
     ·cases hx; cases hy;exact .ag rfl λi x y hx hy=>by
       rcases i with _ | _ | _ | _ | i
       ·cases hx; cases hy; exact .cl trivial
       ·cases hx; cases hy; exact .cl trivial
       ·cases hx; cases hy; exact .ow (if_pos rfl) q0K
       ·cases hx; cases hy; exact .cl trivial
       ·simp at hx
     ·cases hx; cases hy; exact .un
     ·simp at hx
end
def sqX (raw:List Nat) (s k x:Nat):Nat:=(x+s*(q47 raw (k:Int) % 1000)) % 18446744073709551616
def sqL (raw:List Nat) (s:Nat) (p:List Nat) (i:Nat):List Nat:=(List.range p.length).map λk=>if k < i then sqX raw s k (p.getD k 0) else p.getD k 0
section
variable {raw p:List Nat} {s i N:Nat} {st sp n:Int} {rg wild:Bool}
def q7d:(sqL raw s p i).length=p.length:=by unfold sqL; simp
def sqL_0:sqL raw s p 0=p:=by
 unfold sqL;refine List.ext_getElem? λk=>?_;rw [zB]
 by_cases h:k < p.length
 ·rw [zG h,zV,if_neg (by omega),zY,zC h]; rfl
 ·rw [zN (by simpa using h),zN (by omega)]; rfl
def qo9 (h:i < p.length):(sqL raw s p i)[i]?=some (p.getD i 0):=by
 unfold sqL;rw [zB,zG h,zV,if_neg (by omega)]
def sqL_s (h:i < p.length):(sqL raw s p i).set i (sqX raw s i (p.getD i 0))=sqL raw s p (i+1):=by
 refine List.ext_getElem? λk=>?_;rw [List.getElem?_set,q7d];unfold sqL;rw [zB,zB]
 by_cases hk:k < p.length
 ·rw [zG hk,zV,zV]
  by_cases e:i=k
  ·subst e; rw [if_pos rfl,if_pos hk,if_pos (by omega)]
  ·rw [if_neg e]
   by_cases h2:k < i
   ·rw [if_pos h2,if_pos (by omega)]
   ·rw [if_neg h2,if_neg (by omega)]
 ·rw [zN (by simpa using hk),if_neg (by omega)]; rfl
def qf8 (hr:raw.length<=9223372036854775807) (h1 : -9223372036854775808<=n) (h2:n<=9223372036854775807) (h3 : -9223372036854775808<=st) (h4:st<=9223372036854775807) :
  ACt 14 [pF raw,iv n,iv st,bv rg] (.tu [pT (q02 n 5) (q02 n 5) (ckT raw (q02 n 5) st rg),pF (q50 raw 30 (q02 st 4) (q02 n 5))]):=by
 have cM:=q4C (a:=n) (n:=5) h1 h2 Oq Oq;have hN:q02 n 5 < 5:=by unfold q02; omega
 generalize q02 n 5=N at *;have cG:=q6X (raw:=raw) (st:=st) (R:=N) (C:=N) hr Oq Oq h3 h4;have cR:=qdO (raw:=raw) (st:=st) (n:=N) hr Oq h3 h4;have cV:=qe3 (raw:=raw) (k:=30) (st:=st) (n:=N) hr Oq Oq Oq h3 h4;have e1:rg=false->ckT raw N st rg=gF raw N (q02 st 4):=λq=>by subst q; rfl
 have e2:rg=true->ckT raw N st rg=rgF (gF raw N (q02 (q02 st 3:Nat) 4)) N:=λq=>by subst q; rfl
 generalize q50 raw 30 (q02 st 4) N=y at *;cases rg
 ·rw [e1 rfl];clear e1 e2 cR;generalize gF raw N (q02 st 4)=F at *;unfold pT q2U at *;refine ac0 Tryz.func14 Tryz.ntmps14 [.cell 8 27,.tmp 9] ?_;exact wk trivial
 ·rw [e2 rfl];clear e1 e2 cG;generalize rgF (gF raw N (q02 (q02 st 3:Nat) 4)) N=F at *;unfold pT q2U at *;refine ac0 Tryz.func14 Tryz.ntmps14 [.cell 8 27,.tmp 9] ?_;exact wk trivial
def PfOk (raw:List Nat) (F:Nat->Nat->Option Nat) (n s:Nat) (w y:List Nat):Prop:=y.length=n/\q07 y/\∃ v,w=sqL raw s v v.length/\v.length=n*n/\((q07 v/\¬ q2I<=grZ (btL n v F))\/v=q50 raw 500 (q02 2 4) (n*n)\/n=0)
def qpE {F:Nat->Nat->Option Nat} {n:Nat} {b:List Nat} (hr:raw.length<=9223372036854775807) (h5 : -9223372036854775808<=sp) (h6:sp<=9223372036854775807) (h:TOk F n n) (hn:n<=4) (hb:q07 b) (hbl:b.length=n) :
  ∃ w y,PfOk raw F n (q02 sp 4) w y/\qdx 15 [pT n n F,pF b,pF raw,iv sp,bv wild] h0 (pBo n w y) (q0R h0 5000 ⟨33,none,w.map λz:Nat=>uv z,false⟩):=by
 have hJ:∀ i,¬ (h0 i≠none):=λi h=>h rfl;have hJe:(λi=>(h0:Hp) i≠none)=λ_=>False:=funext λi=>eq_false (hJ i);have cS:=q4C (a:=sp) (n:=4) h5 h6 Oq Oq;have hs:q02 sp 4 < 4:=by unfold q02; omega
 generalize q02 sp 4=s at *;obtain ⟨M,V,Z,hB,cB⟩:=qsq h Oq hb hbl;have cP:=qf9 (raw:=raw) (r:=n) (c:=n) (st:=2) hr Oq Oq Oq Oq;have cV:=qe3 (raw:=raw) (k:=8) (st:=0) (n:=n) hr Oq Oq Oq Oq Oq;have hVl:=q3H (raw:=raw) (k:=500) (st:=q02 2 4) (n:=n*n);have hVf:=q3r (raw:=raw) (k:=500) (st:=q02 2 4) (n:=n*n);have hYl:=q3H (raw:=raw) (k:=8) (st:=q02 0 4) (n:=n);have hYf:=q3r (raw:=raw) (k:=8) (st:=q02 0 4) (n:=n);have hres:∃ v y,PfOk raw F n s (sqL raw s v v.length) y/\v.length=n*n/\(∀ x ∈ v,x < 18446744073709551616)/\((wild=true\/Z.length≠n)->v=q50 raw 500 (q02 2 4) (n*n)/\y=q50 raw 8 (q02 0 4) n)/\(¬ (wild=true\/Z.length≠n)->M=n/\v=V/\y=Z):=by
  by_cases c:wild=true\/Z.length≠n
  ·exact ⟨_,_,⟨hYl,λx hx=>hYf x hx,_,rfl,hVl,.inr (.inl rfl)⟩,hVl,λx hx=>(hVf x hx).1,λ_=>⟨rfl,rfl⟩,λq=>(q c).elim⟩
  ·have hz:Z.length=n:=Classical.not_not.1 λq=>c (.inr q)
   rcases hB with ⟨b1,b2,b3,b4,b5,b6⟩ | ⟨b1,b2,b3⟩
   ·exact ⟨V,Z,⟨b4,b5,V,rfl,b2,.inl ⟨b3,b6⟩⟩,b2,λx hx=>(b3 x hx).1,λq=>(c q).elim,λ_=>⟨b1,rfl,rfl⟩⟩
   ·subst b2 b3;have hn0:n=0:=hz.symm;subst hn0;exact ⟨[],[],⟨rfl,λx hx=>(by cases hx),[],rfl,rfl,.inr (.inr rfl)⟩,rfl,λx hx=>(by cases hx),λq=>(c q).elim,λ_=>⟨b1,rfl,rfl⟩⟩
 obtain ⟨p,y,hpf,hpl,hpu,hp1,hp2⟩:=hres;refine ⟨_,y,hpf,?_⟩;have hMl:M*0=0:=Nat.mul_zero M;have hyl:=hpf.1;clear hpf hB hVf hYf hMl;generalize q50 raw 500 (q02 2 4) (n*n)=VV at *;generalize q50 raw 8 (q02 0 4) n=YY at *;have hNN:n*n<=4*4:=zL Oq Oq;have hql:(sqL raw s p p.length).length=n*n:=by rw [q7d]; exact hpl
 unfold pBo;rw [hql];unfold pT q2U at *;generalize (tM F n n).1=ms at *;generalize (tM F n n).2.1=mi at *;generalize (tM F n n).2.2=mv at *;refine qeJ qxQ Tryz.func15 rfl Tryz.ntmps15 (by kernel_rfl) ?_ ?_ ?_ ?_
 ·intro i b hb; cases hb
 ·intro i b hb
  by_cases hi:i=5000
  ·subst hi; exact ⟨by omega,by omega⟩
  ·rw [q0C hi] at hb; cases hb
 ·exact IdL.of λx hx=>by
   simp at hx
   rcases hx with rfl | rfl | rfl | rfl | rfl <;> unfold IdP
   ·exact IdL.of λx hx=>by
     simp at hx
     rcases hx with rfl | rfl | rfl | rfl | rfl <;> unfold IdP <;> trivial
   all_goals trivial
 rw [hJe];refine wk ?_;refine ql7 λK hK=>?_;refine Zz ?_;refine jmF cB ?_ ?_
 ·exact Ow
 try refine Zz ?_
 refine hK _ _ ?_; clear hK K;refine wk ?_;refine qiR λK hK=>?_;have q5F:∀ (s0:Nat->PV) (h:Hp),Le (λ_=>False) s0 h (stM [(2,pF raw),(3,iv sp),(10,.pt 10 0 0),(12,.pt 12 0 0)] []) (q1B (q0R h0 5000 ⟨33,none,p.map λz:Nat=>uv z,false⟩) (hpM [(10,⟨37,some 4,[.ag [iv 0,iv 0,q01,q01]],false⟩),(12,⟨37,some 4,[.ag [iv n,iv n,.ow 5000 none 0 (n*n),pF y]],false⟩)] []))->K s0 h:=by
  intro s0 h hl;refine hK _ _ (q0u hl ?_); clear hK K hl;refine wk ?_;refine q0U (λi=>i<=n*n) [2,3,10,12] [10,12] Lk Lk (λi:Nat=>[(14,iv i)]) (λ_=>[]) (λi=>q0R h0 5000 ⟨33,none,(sqL raw s p i).map λz:Nat=>uv z,false⟩) (λi=>n*n-i) 0 (zE _) ?_ ?_
  ·rw [sqL_0];refine LeW [] rfl rfl ?_ ?_ (by simp [q0w,q0h,win]) ?_
   ·exact Ow
   ·exact qsR _
   ·try refine Zz ?_
    rfl
  ·intro i hi
   by_cases hlt:i < n*n
   ·have q:(i:Int) < ((n*n:Nat):Int):=by omega
    have C1:=q5p (raw:=raw) (k:=(i:Int)) hr Oq Oq;have l1:=q7d (raw:=raw) (s:=s) (p:=p) (i:=i);have l2:=qo9 (raw:=raw) (s:=s) (p:=p) (i:=i) Oq;have l3:=sqL_s (raw:=raw) (s:=s) (p:=p) (i:=i) Oq;have hx:p.getD i 0 < 18446744073709551616:=by
     rw [zY,zC (by omega)];exact hpu _ (List.getElem_mem _)
    have e1:((q47 raw (i:Int):Nat):Int).tmod 1000=((q47 raw (i:Int) % 1000:Nat):Int):=rfl;have e6:sqX raw s i (p.getD i 0)=(p.getD i 0+s*(q47 raw (i:Int) % 1000)) % 18446744073709551616:=rfl;have hw:=q2l raw (i:Int);generalize sqL raw s p i=P at *;generalize p.getD i 0=x at *;generalize sqX raw s i x=y' at *;generalize q47 raw (i:Int)=w at *;obtain ⟨m,hm⟩:∃ m,m=w % 1000:=⟨_,rfl⟩;rw [<- hm] at e1 e6;have hmm:m < 1000:=by omega
    have e2:IntKind.i64.wrap ((m:Nat):Int)=(m:Int):=i64_in Oq Oq;have hsm:s*m<=3*1000:=zL Oq Oq;have e3:IntKind.i64.wrap ((s:Int)*(m:Int))=((s*m:Nat):Int):=by rw [<- Int.natCast_mul,i64_in (by omega) (by omega)]
    have e4:IntKind.u64.wrap ((s*m:Nat):Int)=((s*m:Nat):Int):=u64_in Oq Oq;have e5:IntKind.u64.wrap ((x:Int)+((s*m:Nat):Int))=((y':Nat):Int):=by rw [q0p,e6]; omega
    have N1:Nz (uv (w:Nat)):=qbw;have N2:Nz (iv (s:Nat)):=qbw;generalize s*m=sm at *;refine wk1 (x6 q l1 l2 e1 e2 (x3 e3 e4 e5)) ?_;refine ⟨i+1,by omega,by omega,?_⟩;rw [<- l3];refine LeW [] rfl rfl ?_ ?_ (by simp [q0w,q0h,win]) ?_
    ·intro c hc
     by_cases ec:c=5000
     ·subst ec;rw [q0K,q0K,List.map_set]
     ·rw [q0C ec,q0X hc,q0C ec,q0C ec]
    ·exact qsR _
    ·try refine Zz ?_
     omega
   ·obtain rfl:i=n*n:=by omega
    have q:¬ ((n*n:Nat):Int) < ((n*n:Nat):Int):=by omega
    rw [hpl];refine wk1 q ?_;refine (rtM (rs:=[.cell 10 37]) rfl rfl Lq ?_ (.inl rfl));refine LeF ?_ (λi b hb=>?_) (qsR _) (.ag rfl λi x y hx hy=>?_)
    ·exact Ow
    ·by_cases hi:i=5000
     ·subst hi; exact ⟨by omega,by omega⟩
     ·rw [q0C hi] at hb; cases hb
    ·rcases i with _ | _ | _ | _ | i
     ·cases hx; cases hy; exact .cl trivial
     ·cases hx; cases hy; exact .cl trivial
     ·cases hx; cases hy; exact .ow rfl q0K
     ·cases hx; cases hy; exact .cl trivial
     ·simp at hx
 by_cases c:wild=true\/Z.length≠n
 rotate_left
 ·obtain ⟨rfl,rfl,rfl⟩:=hp2 c;obtain rfl:wild=false:=by
   cases wild
   ·rfl
   ·exact (c (.inl rfl)).elim
  have q3:((p.length:Int) != (p.length:Int))=false:=by simp
  have q4:((y.length:Int) != (M:Int))=false:=by simp; omega
  refine wk1 q4 ?_;refine q5F _ _ ?_;rw [<- hpl];refine LeW [] rfl rfl ?_ ?_ (by simp [q0w,q0h,win]) ?_
  ·exact Ow
  ·exact qsR _
  ·try simp -implicitDefEqProofs (disch:=omega) only [go_sem,Nat.reduceEqDiff,Nat.reduceAdd,↓reduceIte]
 ·obtain ⟨rfl,rfl⟩:=hp1 c;cases wild
  ·have q4:((Z.length:Int) != (n:Int))=true:=by
    rcases c with c | c
    ·cases c
    ·simp; omega
   refine wk1 q4 ?_;refine q0u (LeM [] rfl rfl (xs:=[(2,pF raw),(3,iv sp),(5,.pt 5 0 0),(10,.pt 10 0 0),(12,.pt 12 0 0)]) (kv:=[]) (bs:=[(5,⟨27,some 5,[.ag [iv n,iv n,pI ms,pI mi,pF mv]],false⟩),(10,⟨37,some 4,[.ag [iv 0,iv 0,q01,q01]],false⟩),(12,⟨37,some 4,[.un],false⟩)]) (kb:=[]) ?_) ?_
   ·try simp -implicitDefEqProofs (disch:=omega) only [go_sem,Nat.reduceEqDiff,Nat.reduceAdd,↓reduceIte]
   refine q9o q4o (.one 0 (.one 1 (.one 3 (.one 6 (.one 7 (.alt (.one 2 (.alt (.one 4 (.alt (.one 5 (.one 8 (.one 9 (.one 10 (.one 11 .fin))))) (.one 8 (.one 5 (.one 9 (.one 10 (.one 11 .fin))))))) (.one 8 (.one 4 (.one 5 (.one 9 (.one 10 (.one 11 .fin)))))))) (.alt (.one 4 (.alt (.one 2 (.alt (.one 5 (.one 8 (.one 9 (.one 10 (.one 11 .fin))))) (.one 8 (.one 5 (.one 9 (.one 10 (.one 11 .fin))))))) (.one 8 (.one 2 (.one 5 (.one 9 (.one 10 (.one 11 .fin)))))))) (.one 8 (.alt (.one 2 (.one 4 (.one 5 (.one 9 (.one 10 (.one 11 .fin)))))) (.one 4 (.one 2 (.one 5 (.one 9 (.one 10 (.one 11 .fin))))))))))))))) (by kernel_rfl) λK9 hK9=>?_;refine Zz ?_
   repeat' (with_reducible apply And.intro)
   all_goals
    refine jmF cP ?_ ?_
    ·exact Ow
    try refine Zz ?_
    refine jc ?_
    try refine Zz ?_
    refine q0S cV ?_
    try refine Zz ?_
    refine hK9 _ _ (q5F _ _ ?_);refine LeW [] rfl rfl ?_ ?_ (by simp [q0w,q0h,win]) ?_
    ·exact Ow
    ·exact qsR _
    ·try simp -implicitDefEqProofs (disch:=omega) only [go_sem,Nat.reduceEqDiff,Nat.reduceAdd,↓reduceIte]
  ·refine wk ?_;refine q0u (LeM [] rfl rfl (xs:=[(2,pF raw),(3,iv sp),(5,.pt 5 0 0),(10,.pt 10 0 0),(12,.pt 12 0 0)]) (kv:=[]) (bs:=[(5,⟨27,some 5,[.ag [iv n,iv n,pI ms,pI mi,pF mv]],false⟩),(10,⟨37,some 4,[.ag [iv 0,iv 0,q01,q01]],false⟩),(12,⟨37,some 4,[.un],false⟩)]) (kb:=[]) ?_) ?_
   ·try simp -implicitDefEqProofs (disch:=omega) only [go_sem,Nat.reduceEqDiff,Nat.reduceAdd,↓reduceIte]
   refine q9o q4o (.one 0 (.one 1 (.one 3 (.one 6 (.one 7 (.alt (.one 2 (.alt (.one 4 (.alt (.one 5 (.one 8 (.one 9 (.one 10 (.one 11 .fin))))) (.one 8 (.one 5 (.one 9 (.one 10 (.one 11 .fin))))))) (.one 8 (.one 4 (.one 5 (.one 9 (.one 10 (.one 11 .fin)))))))) (.alt (.one 4 (.alt (.one 2 (.alt (.one 5 (.one 8 (.one 9 (.one 10 (.one 11 .fin))))) (.one 8 (.one 5 (.one 9 (.one 10 (.one 11 .fin))))))) (.one 8 (.one 2 (.one 5 (.one 9 (.one 10 (.one 11 .fin)))))))) (.one 8 (.alt (.one 2 (.one 4 (.one 5 (.one 9 (.one 10 (.one 11 .fin)))))) (.one 4 (.one 2 (.one 5 (.one 9 (.one 10 (.one 11 .fin))))))))))))))) (by kernel_rfl) λK9 hK9=>?_;refine Zz ?_
   repeat' (with_reducible apply And.intro)
   all_goals
    refine jmF cP ?_ ?_
    ·exact Ow
    try refine Zz ?_
    refine jc ?_
    try refine Zz ?_
    refine q0S cV ?_
    try refine Zz ?_
    refine hK9 _ _ (q5F _ _ ?_);refine LeW [] rfl rfl ?_ ?_ (by simp [q0w,q0h,win]) ?_
    ·exact Ow
    ·exact qsR _
    ·try simp -implicitDefEqProofs (disch:=omega) only [go_sem,Nat.reduceEqDiff,Nat.reduceAdd,↓reduceIte]
end
section
variable {x y:List Nat} {t:Nat}
end
section
variable {f:Nat->Nat->Option Nat} {x:List Nat} {R C:Nat}
end


end Go.Proofs.YtpbaikoblfcmdaaGreatDoor
namespace Go.E
open Go Go.RowKit
end Go.E
namespace Go.Proofs.YtpbaikoblfcmdaaGreatDoor
open Go Go.E Go.Sp
section
variable {pm cp ri:List Int} {vs l:List Nat}
end
end Go.Proofs.YtpbaikoblfcmdaaGreatDoor
namespace Go.Sp
open Go Go.E Go.Proofs.YtpbaikoblfcmdaaGreatDoor
section
open Classical
end
section
variable {n:Nat} {f:Nat->Nat->Option Nat} {F:List Int × List Int × List Int × List Nat} {x r p:List Nat} {rho:Int}
end
end Go.Sp
namespace Go.E
open Go Go.RowKit
end Go.E
namespace Go.Proofs.YtpbaikoblfcmdaaGreatDoor
open Go Go.E Go.Sp
section
variable {n:Nat} {f:Nat->Nat->Option Nat} {F:List Int × List Int × List Int × List Nat} {x r p:List Nat} {rho:Int}
def qv4 {a0 a1 a2 a3 a4 a5 a6 a7 a8 a9 a10 a11 a12 a13 a14 a15 a16:PV}:ldU (some 17) (some 5) 0 (.ag [a0,a1,a2,a3,a4,a5,a6,a7,a8,a9,a10,a11,a12,a13,a14,a15,a16])=some (.ag [a0,a1,a2,a3,a4]):=by simp [ldU]
def qv5 {a0 a1 a2 a3 a4 a5 a6 a7 a8 a9 a10 a11 a12 a13 a14 a15 a16:PV}:ldU (some 17) (some 4) 5 (.ag [a0,a1,a2,a3,a4,a5,a6,a7,a8,a9,a10,a11,a12,a13,a14,a15,a16])=some (.ag [a5,a6,a7,a8]):=by simp [ldU]
def qv3 {a0 a1 a2 a3 a4 a5 a6 a7 a8 a9 a10 a11 a12 a13 a14 a15 a16:PV}:ldU (some 17) (some 4) 13 (.ag [a0,a1,a2,a3,a4,a5,a6,a7,a8,a9,a10,a11,a12,a13,a14,a15,a16])=some (.ag [a13,a14,a15,a16]):=by simp [ldU]
def qtx {a0 a1 a2 a3 a4 a5 a6 a7 a8 a9 a10 a11 a12 a13 a14 a15 a16 b0 b1 b2 b3:PV}:stU (some 17) (some 4) 13 (.ag [a0,a1,a2,a3,a4,a5,a6,a7,a8,a9,a10,a11,a12,a13,a14,a15,a16]) (.ag [b0,b1,b2,b3])=some (.ag [a0,a1,a2,a3,a4,a5,a6,a7,a8,a9,a10,a11,a12,b0,b1,b2,b3]):=by simp [stU]
attribute [go_sem] qv4 qv5 qv3 qtx
end
section
variable {R C:Nat} {f:Nat->Nat->Option Nat} {F:List Int × List Int × List Int × List Nat} {b:List Nat} {steps:Int}
end
end Go.Proofs.YtpbaikoblfcmdaaGreatDoor
namespace Go.E
open Go Go.RowKit
def flS_5 {off:Nat} {a b c d e:PV} {cs:List PV}:flS (some (off,5)) (.ag [a,b,c,d,e]) cs=q9r cs off [a,b,c,d,e]:=by
 rw [q4e (by simp)];simp [flS]
attribute [go_sem] flS_5
end Go.E
namespace Go.Proofs.YtpbaikoblfcmdaaGreatDoor
open Go Go.E Go.Sp
section
variable {R C:Nat} {f:Nat->Nat->Option Nat} {F:List Int × List Int × List Int × List Nat} {b:List Nat} {steps:Int}
end
section
variable {n k:Nat} {f:Nat->Nat->Option Nat} {F:List Int × List Int × List Int × List Nat} {x r p x' r' p' l:List Nat} {rho rho' e:Int}
end
section
variable {R C:Nat} {f:Nat->Nat->Option Nat} {F:List Int × List Int × List Int × List Nat} {b:List Nat} {steps:Int}
end
def qnC {h:Hp}:clo h .un=some (.un,[]):=by
 unfold clo q3S;exact if_pos trivial
section
variable {f:Nat->Nat->Option Nat} {n:Nat}
end

end Go.Proofs.YtpbaikoblfcmdaaGreatDoor
namespace Go.Sp
open Go Go.E Go.Proofs.YtpbaikoblfcmdaaGreatDoor
def qpP {z:Int} {K:Nat} (hK:K=65536) (h:z.natAbs<=9):ofZ (flz z)=z*(2:Int) ^ K:=by rw [hK]; exact q0a (qg4 (by omega))
section
variable {c1 c2 c4 c8 K:Nat}
end
def fR_ex {m:Int} {t K:Nat} (hK:K=65536) (hm:m.natAbs < 9007199254740992) (h1:K<=t+1000) (h2:t<=K+900):ofZ (fR 0 (m*(2:Int) ^ t))=m*(2:Int) ^ t/\fR 0 (m*(2:Int) ^ t) < 18446744073709551616/\q0F (fR 0 (m*(2:Int) ^ t)):=by
 have key:ofF (fR 0 (m*(2:Int) ^ t))=some (m*(2:Int) ^ t)/\fR 0 (m*(2:Int) ^ t) < 18446744073709551616:=by
  unfold fR;rw [<- hK]
  by_cases h0:m=0
  ·subst h0;rw [Int.zero_mul,if_pos rfl];exact ⟨q4A,by omega⟩
  ·have hp:=q0M t;have hne:m*(2:Int) ^ t≠0:=Int.mul_ne_zero h0 (Int.ne_of_gt hp);have hsg:decide (m*(2:Int) ^ t < 0)=decide (m < 0):=by
    rw [decide_eq_decide]
    constructor
    ·intro h
     rcases Int.lt_or_le m 0 with h1 | h1
     ·exact h1
     ·have:=Int.mul_nonneg h1 (Int.le_of_lt hp); omega
    ·intro h; exact Int.mul_neg_of_neg_of_pos h hp
   rw [if_neg hne,hsg,q0J];have hb:bl m.natAbs<=53:=q0P hm;have:=qbn (mode:=0) (neg:=decide (m < 0)) (N:=m.natAbs*2 ^ t) (D:=2 ^ K) (M:=m.natAbs) (f:=(t:Int)-K) (q0H K) Oq hb Oq Oq (by
    rcases Nat.le_total K t with h | h
    ·obtain ⟨d,rfl⟩:∃ d,t=K+d:=⟨t-K,by omega⟩;rw [show (-(((K+d:Nat):Int)-K)).toNat=0 by omega,show (((K+d:Nat):Int)-K).toNat=d by omega,Nat.pow_zero,Nat.mul_one,Nat.pow_add,Nat.mul_comm (2 ^ K) m.natAbs,Nat.mul_assoc]
    ·obtain ⟨d,rfl⟩:∃ d,K=t+d:=⟨K-t,by omega⟩;rw [show (-((t:Int)-((t+d:Nat):Int))).toNat=d by omega,show ((t:Int)-((t+d:Nat):Int)).toNat=0 by omega,Nat.pow_zero,Nat.mul_one,Nat.pow_add,Nat.mul_comm _ m.natAbs,Nat.mul_assoc])
   rw [q08,show ((t:Int)-K+65536).toNat=t by omega] at this;exact this
 refine ⟨q0a key.1,key.2,λh=>?_⟩;have:=key.1;unfold ofF at this;rw [if_pos h] at this;cases this
end Go.Sp
namespace Go.Proofs.YtpbaikoblfcmdaaGreatDoor
open Go Go.E Go.Sp
section
variable {n:Nat} {o:List Int} {vs:List Nat}
end
section
variable {n U:Nat} {o:List Int} {vs b:List Nat} {h:Nat->Nat} {c:Nat->Int} {f:Nat->Nat->Option Nat}
end
def pw2 (t:Nat):Nat:=fR 0 (1*(2:Int) ^ t)
def qmX {U t:Nat} (hU:U+8=65536) (h1:U<=t+500) (h2:t<=U+500):ofZ (pw2 t)=(2:Int) ^ t/\pw2 t < 18446744073709551616/\q0F (pw2 t):=by
 have:=fR_ex (m:=1) (t:=t) (K:=U+8) hU Oq Oq Oq;rw [Int.one_mul] at this;unfold pw2;rw [Int.one_mul];exact this
def qbg {n:Int} {U t:Nat} (hU:U+8=65536) (h1 : -400<=n) (h2:n<=400) (ht:(t:Int)=U+8+n):ACt 21 [uv 4607182418800017408,iv n,iv 0] (uv (pw2 t:Nat)):=by
 have e1:flz 1=4607182418800017408:=qps;have hf:q0F 4607182418800017408:=by rw [<- e1]; exact qg5 (by omega)
 have ho:ofZ 4607182418800017408=(1:Int)*(2:Int) ^ (U+8):=by rw [<- e1,qpP hU (by omega)]
 obtain ⟨o1,o2⟩:=qjQ (m:=(1:Int)*(2:Int) ^ (U+8)) (o:=1) (k:=U+8) rfl rfl;have hne:(1:Int)*(2:Int) ^ (U+8)≠0:=Int.mul_ne_zero Oq (Int.ne_of_gt (q0M _));have hd:dyE ((1:Int)*(2:Int) ^ (U+8))=0:=by unfold dyE; rw [if_neg hne,o2]; omega
 have hm:=q6N (m:=1) (E:=n) Oq (by have:bl (1:Int).natAbs<=1:=q0P (by decide); omega);rw [show (n+65536).toNat=t by omega] at hm;have:=qgs (x:=4607182418800017408) (n:=n) (W:=1*(2:Int) ^ t) (mode:=0) (by omega) hf (by omega) (by omega) (by rw [ho,o1,hd,Int.zero_add]; exact hm);rw [if_pos (show q0Y 4607182418800017408=1 from rfl)] at this;exact this
def qv2 {a b c d:PV}:ldU (some 4) (some 2) 0 (.ag [a,b,c,d])=some (.ag [a,b]):=by simp [ldU]
def qv1 {a b c d:PV}:ldU (some 4) (some 2) 2 (.ag [a,b,c,d])=some (.ag [c,d]):=by simp [ldU]
def qto {a b c d x y:PV}:stU (some 4) (some 2) 0 (.ag [a,b,c,d]) (.ag [x,y])=some (.ag [x,y,c,d]):=by simp [stU]
attribute [go_sem] qv2 qv1 qto
def qs (q:Rat) (b:Nat):Prop:=bl q.num.natAbs<=b/\bl q.den<=b
def qs.mono {q:Rat} {a b:Nat} (h:qs q a) (hab:a<=b):qs q b:=⟨tT h.1 hab,tT h.2 hab⟩
end Go.Proofs.YtpbaikoblfcmdaaGreatDoor
namespace Go.E
open Go Go.RowKit
section
variable {T1 T2:TypeId} {K:Kd} {N R n m:Nat} {p:Nat->Nat} {row:Nat->List PV}
def qt3 (T1 T2:TypeId) (K:Kd) (N R n m:Nat) (p:Nat->Nat) (row:Nat->List PV):Hp:=λi =>
 if i=N then some ⟨T1,none,(List.range n).map λj=>.ow (p j+R) K 0 m,false⟩
 else if R<=i/\i < R+n then some ⟨T2,K,row (i-R),false⟩ else none
def qt2:qt3 T1 T2 K N R n m p row N=some ⟨T1,none,(List.range n).map λj=>.ow (p j+R) K 0 m,false⟩:=if_pos rfl
def qt1 {j:Nat} (hN:N < R) (hj:j < n):qt3 T1 T2 K N R n m p row (j+R)=some ⟨T2,K,row j,false⟩:=by
 unfold qt3;rw [if_neg (by omega),if_pos (by omega),Nat.add_sub_cancel]
def qoS {i:Nat} (h1:i < N) (h2:i < R):qt3 T1 T2 K N R n m p row i=none:=by
 unfold qt3;rw [if_neg (by omega),if_neg (by omega)]
attribute [go_sem ↓] qt2 qt1 qoS
end
end Go.E
namespace Go.Proofs.YtpbaikoblfcmdaaGreatDoor
open Go Go.E Go.Sp
section
open Go.Dt
variable {A B:Mx} {j k n i:Nat}
end

def qyf [NL] {J:Nat->Prop} {s s' s2:Nat->PV} {h h' h2:Hp} (a:Le J s h s' h') (b:Le J s' h' s2 h2):Le J s h s2 h2:=λD0 w0 ρ e w hJ S=>by
 obtain ⟨ρ',S'⟩:=a D0 w0 ρ e w hJ S;exact b D0 w0 ρ' e w hJ S'
def qbL {K:KwT} (h:KwF K):ACt 25 [pIm K.n K.a,pP K.b,pPn K.n K.n K.v,pF K.z,pP K.x] (.tu [pP (kwA K).1,bv (kwA K).2.1,iv (kwA K).2.2]):=by
 by_cases hb:K.b.length=K.n
 rotate_left
 ·have e:kwC K=2:=by unfold kwC; rw [if_pos hb]
  have hA:kwA K=([],false,2):=by unfold kwA; rw [e]; rfl
  rw [hA];exact qnr h hb
 by_cases hP:KwP K
 ·have e:kwC K=0:=by unfold kwC; rw [if_neg (not_not_intro hb),if_pos hP]
  have hA:kwA K=(kwL K K.n,kwB K K.n,0):=by unfold kwA; rw [if_pos e]
  rw [hA];exact qnq h hb hP
 ·have e:kwC K=4:=by unfold kwC; rw [if_neg (not_not_intro hb),if_neg hP]
  have hA:kwA K=([],false,4):=by unfold kwA; rw [e]; rfl
  rw [hA]
  by_cases f1:∀ p ∈ K.b,q2j p
  ·by_cases f2:∀ p ∈ K.x,q2j p
   ·exact qnp h hb f1 f2 λf3=>hP ⟨f3,f1,f2⟩
   ·exact qno h hb f1 f2
  ·exact qns h hb f1
def q40 {m:Int} {a b:Nat} (ha:q0Y a≠3) (hb:q0Y b≠3):q0Y (q6g m a b)≠3:=by
 unfold q6g
 split
 ·exact hb
 ·split
  ·exact ha
  ·split
   ·split <;> decide
   ·exact qag
def arW (raw:List Nat) (wd k:Int):Nat:=if q47 raw k % 3=0 then 0 else pw2 (65532-q02 wd 50)
def arF (raw:List Nat) (wd k:Int) (v:Nat):Nat × Nat:=(q9p 1 v (arW raw wd k),q6g 2 v (arW raw wd k))
section
variable {raw b:List Nat} {wd k:Int} {v N:Nat} {F:Nat->Nat->Option Nat}
def qnV:arW raw wd k < 18446744073709551616/\q0F (arW raw wd k):=by
 unfold arW
 split
 ·exact ⟨by omega,by unfold q0F; omega⟩
 ·exact (qmX (U:=65528) rfl (by unfold q02; omega) Oq).2
def qnW (hv:v < 18446744073709551616/\q0F v):nnI (arF raw wd k v):=by
 obtain ⟨w1,w2⟩:=qnV (raw:=raw) (wd:=wd) (k:=k);unfold arF;exact ⟨⟨q8Y hv.1 (q7p w1),q40 (q0l hv.2) (by rw [q4B w1]; exact q0l w2)⟩,q8Y hv.1 w1,q40 (q0l hv.2) (q0l w2)⟩
def q9i (hr:raw.length<=9223372036854775807) (h1 : -9223372036854775808<=wd) (h2:wd<=9223372036854775807) (h3 : -9223372036854775808<=k) (h4:k<=9223372036854775807) (hv:v < 18446744073709551616/\q0F v):ACt 74 [uv v,iv k,pF raw,iv wd] (.ag [uv (arF raw wd k v).1,uv (arF raw wd k v).2]):=by
 obtain ⟨w1,w2⟩:=qnV (raw:=raw) (wd:=wd) (k:=k);have c1:=q4C (a:=wd) (n:=50) h1 h2 Oq Oq;have hm:q02 wd 50 < 50:=by unfold q02; omega
 have c2:=qbg (n := -4-(q02 wd 50:Int)) (U:=65528) (t:=65532-q02 wd 50) rfl Oq Oq Oq;have c3:=q5p (raw:=raw) (k:=k) hr h3 h4;have c4:=qaV (mode:=1) (a:=v) (.inr (.inl rfl)) hv w1 (q0l w2);have c5:=q7l (mode:=2) (a:=v) (.inr (.inr rfl)) hv w1 (q0l w2);have e1:((q47 raw k:Nat):Int).tmod 3=((q47 raw k % 3:Nat):Int):=rfl;have hA:arF raw wd k v=(q9p 1 v (arW raw wd k),q6g 2 v (arW raw wd k)):=rfl;have hW:arW raw wd k=if q47 raw k % 3=0 then 0 else pw2 (65532-q02 wd 50):=rfl
 have hw:=q2l raw k;generalize pw2 (65532-q02 wd 50)=W0 at *;generalize q02 wd 50=m at *;generalize arF raw wd k v=A at *;generalize arW raw wd k=W at *;generalize q9p 1 v W=S1 at *;generalize q6g 2 v W=S2 at *;subst hA;generalize q47 raw k=wo at *
 by_cases h0:wo % 3=0
 ·rw [if_pos h0] at hW;rw [h0] at e1;subst hW;have q:(((wo:Nat):Int).tmod 3 == 0)=true:=by rw [e1]; rfl
  refine ac0 Tryz.func74 Tryz.ntmps74 [.cell 8 58] ?_;exact wk1 q trivial
 ·rw [if_neg h0] at hW;subst hW;have q:(((wo:Nat):Int).tmod 3 == 0)=false:=by rw [e1]; simp; omega
  refine ac0 Tryz.func74 Tryz.ntmps74 [.cell 8 58] ?_;exact wk1 q trivial
def bxA (raw:List Nat) (wd:Int) (F:Nat->Nat->Option Nat) (i j:Nat):Nat × Nat:=arF raw wd (10*(i:Int)+(j:Int)) ((F j i).getD 0)
def bxR (raw:List Nat) (wd:Int) (b:List Nat) (m:Nat):List (Nat × Nat):=(List.range m).map λi:Nat=>arF raw wd (200+(i:Int)) (b.getD i 0)
def rwA (n:Nat) (a:Nat->Nat->Nat × Nat) (t:Nat):List PV:=(q1L n a t).map λp=>.ag [uv p.1,uv p.2]
def rwA_s {c t:Nat} {a:Nat->Nat->Nat × Nat}:rwA (c+1) a t=rwA c a t ++ [.ag [uv (a t c).1,uv (a t c).2]]:=by
 unfold rwA q1L;rw [zR,zA,zA]; rfl
def q4g {n t:Nat} {a:Nat->Nat->Nat × Nat}:(rwA n a t).length=n:=by unfold rwA; rw [zD,q0q]
abbrev tXI (n t:Nat) (a:Nat->Nat->Nat × Nat):Hp:=q17 52 58 (some 2) 5000 10000 t (rwA n a) h0
def q5A {n t:Nat} {a:Nat->Nat->Nat × Nat} (ht:t<=1000):BOk (tXI n t a) win:=q1l BOk.h0 (λ_ _=>q1X) Oq ⟨⟨by omega,by omega⟩,λj hj=>⟨by omega,by omega⟩⟩
def box_m (hr:raw.length<=9223372036854775807) (h1 : -9223372036854775808<=wd) (h2:wd<=9223372036854775807) (h:TOk F N N) (hN:N<=4) (hb:q07 b) (hbl:b.length=N):qdx 20 [pT N N F,pF b,pF raw,iv wd] h0 (.tu [.ow 5000 none 0 N,pP (bxR raw wd b N)]) (tXI N N (bxA raw wd F)):=by
 have cA:=λi j (hi:i < N) (hj:j < N)=>q6u (i:=i) (j:=j) h hi hj;have hf:∀ i j,i < N->j < N->q0F ((F j i).getD 0)/\(F j i).getD 0 < 18446744073709551616:=λi j hi hj=>h.fin (j:=j) (i:=i) hj hi;have cR:=λ(i j:Nat) (hi:i < N) (hj:j < N)=>q9i (raw:=raw) (wd:=wd) (k:=10*(i:Int)+(j:Int)) (v:=(F j i).getD 0) hr h1 h2 Oq Oq ⟨(hf i j hi hj).2,(hf i j hi hj).1⟩;have hbf:=λj=>q0V hb (i:=j);have cS:=λ(i:Nat) (hi:i < N)=>q9i (raw:=raw) (wd:=wd) (k:=200+(i:Int)) (v:=b.getD i 0) hr h1 h2 Oq Oq (hbf i);have hbg:=λj (hj:j < N)=>show b[j]?=some (b.getD j 0) by
  obtain ⟨w,hw⟩:∃ w,b[j]?=some w:=⟨_,zC Oq⟩;rw [hw,getD_some hw]
 have hRs:=λi:Nat=>show bxR raw wd b (i+1)=bxR raw wd b i ++ [arF raw wd (200+(i:Int)) (b.getD i 0)] by unfold bxR; rw [zR,zA]; rfl
 have hRl:=λi=>show (bxR raw wd b i).length=i by unfold bxR; simp
 have hR0:bxR raw wd b 0=[]:=rfl;have hAe:=λi j:Nat=>show bxA raw wd F i j=arF raw wd (10*(i:Int)+(j:Int)) ((F j i).getD 0) from rfl;generalize bxA raw wd F=A at *;generalize bxR raw wd b=R at *;clear hf;unfold pT q2U at *;generalize (tM F N N).1=ms at *;generalize (tM F N N).2.1=mi at *;generalize (tM F N N).2.2=mv at *;refine qeJ qxP Tryz.func20 rfl Tryz.ntmps20 (by kernel_rfl) ?_ ?_ ?_ ?_
 ·intro i b hb; cases hb
 ·exact λi b hb=>((q5A Oq).b i b hb).1
 ·exact IdL.of λx hx=>by
   simp at hx
   rcases hx with rfl | rfl | rfl | rfl <;> unfold IdP
   ·exact IdL.of λx hx=>by
     simp at hx
     rcases hx with rfl | rfl | rfl | rfl | rfl <;> unfold IdP <;> trivial
   all_goals trivial
 refine wk ?_;refine q0u (LeT (hw:=tXI N 0 A) tnW (λ_ h=>(h rfl).elim) (λi hi hw=>?_) (λi b hw hb=>?_) (λi j x hi hj ti tj=>?_) (xs:=[(1,pF b),(2,pF raw),(3,iv wd),(4,.pt 4 0 0),(10,.ow 5000 none 0 0),(11,q01),(12,iv 0)]) (kv:=[]) (bs:=[(4,⟨27,some 5,[.ag [iv N,iv N,pI ms,pI mi,pF mv]],false⟩)]) (kb:=[]) ?_) ?_
 ·simp at hi;subst hi;unfold win at hw;omega
 ·unfold LeB;rw [qbU hw.1 hw.2]
  rcases q1E hb with ⟨rfl,rfl⟩ | ⟨_,h1,h2,_⟩ | ⟨_,_,hb⟩
  ·rfl
  ·omega
  ·cases hb
 ·unfold tnW at ti tj
  split at ti <;> split at tj <;> cases ti <;> cases tj <;> rfl
 ·try simp -implicitDefEqProofs (disch:=omega) only [go_sem,Nat.reduceEqDiff,Nat.reduceAdd,↓reduceIte]
 refine q0U (λt=>t<=N) [1,2,3,4] [4] Lk Lk (λt:Nat=>[(10,.ow 5000 none 0 t),(11,.ow 1003 (some 2) 0 t),(12,iv t)]) (λt=>[(1003,⟨58,some 2,(R t).map λp=>.ag [uv p.1,uv p.2],false⟩)]) (λt=>tXI N t A) (λt=>N-t) 0 (zE _) ?_ ?_
 ·rw [hR0];refine LeW [(1003,none)] rfl rfl ?_ ?_ (by simp [q0w,q0h,win]) ?_
  ·exact Ow
  ·exact wfB (q5A Oq)
  ·try refine Zz ?_
   rfl
 ·intro t ht
  by_cases hlt:t < N
  ·have q:(t:Int) < N:=by omega
   have cAt:=λj (hj:j < N)=>cA t j hlt hj;have cRt:=λj (hj:j < N)=>cR t j hlt hj;have hAt:=λj=>hAe t j;have cSt:=cS t hlt;have gb:=hbg t hlt;have rs:=hRs t;have rl:=hRl t;refine wk1 q ?_;refine q0U (λc=>c<=N) [1,2,3,4,10,11,12] [4,1003] Lk Lk (λc:Nat=>[(13,.ow 1001 (some 2) 0 c),(14,iv c)]) (λc=>[(1001,⟨58,some 2,rwA c A t,false⟩)]) (λ_=>tXI N t A) (λc=>N-c) 0 (zE _) ?_ ?_
   ·refine LeW [(1001,none)] rfl rfl ?_ ?_ (by simp [q0w,q0h,win]) ?_
    ·exact Ow
    ·exact wfB (q5A Oq)
    ·try refine Zz ?_
     exact ⟨rfl,rfl,q0B rfl q1X⟩
   ·intro c hc
    by_cases hlc:c < N
    ·have q2:(c:Int) < N:=by omega
     have c1:=cAt c hlc;have c2:=cRt c hlc;have e1:=hAt c;rw [<- e1] at c2;have ws:=rwA_s (a:=A) (t:=t) (c:=c);have wl:=q4g (a:=A) (t:=t) (n:=c);generalize (F c t).getD 0=v at *;generalize A t c=ap at *;refine wk1 (x2 q2 wl) ?_;refine ⟨c+1,by omega,by omega,?_⟩;refine LeW [(1001,some 40)] rfl rfl ?_ ?_ (by simp [q0w,q0h,win]) ?_
     ·exact Ow
     ·exact wfB (q5A Oq)
     ·try refine Zz ?_
      exact ⟨by omega,q0B (by rw [ws]) q1X,q0B rfl q1X⟩
    ·obtain rfl:c=N:=by omega
     have q2:¬ (c:Int) < c:=by omega
     refine wk1 (x3 q2 gb rl) ?_;refine ⟨t+1,by omega,by omega,?_⟩;refine qyf (q35 (T1:=52) (T2:=58) (K:=some 2) (N:=5000) (R:=10000) (n:=t) (o:=44) (r:=1001) (l:=rwA c A t) (hw:=tXI c t A) (hw':=tXI c (t+1) A) (xs:=[(1,pF b),(2,pF raw),(3,iv wd),(4,.pt 4 0 0),(10,.ow 5000 none 0 (t+1)),(11,.ow 56 (some 2) 0 (t+1)),(12,iv ((t+1:Nat):Int))]) (kv:=[]) (bs:=[(4,⟨27,some 5,[.ag [iv c,iv c,pI ms,pI mi,pF mv]],false⟩),(56,⟨58,some 2,(R (t+1)).map λp=>.ag [uv p.1,uv p.2],false⟩)]) (kb:=[]) (λ_ h=>h rfl) q1X (λj=>(rwA c A j).length) ?_ ?_ (λi h1 h2=>?_) q18 (q1O (by omega) (by omega)) (λi h1 h2=>q1t h1 h2) (λj hj=>q5t (by omega)) (q5A (by omega)) (qbG qsE (λ_ _=>q1X) λj hj=>by omega) ?_ (by omega) (by omega) (by omega) (by omega) (by omega) (by omega) (by simp [nmW]) ?_) ?_
     ·try refine Zz ?_
      rw [q4g]
     ·try simp -implicitDefEqProofs (disch:=omega) only [go_sem,Nat.reduceEqDiff,Nat.reduceAdd,↓reduceIte]
     ·obtain ⟨w1,w2⟩:=h1
      repeat rw [q0C (by omega)]
      rw [q0X ⟨w1,w2⟩]
     ·exact q0N Oq (.inr Oq)
     ·try refine Zz ?_
      exact ⟨by omega,q0B (by rw [rs,zA]; rfl) q1X⟩
     ·refine LeW [(1003,some 56)] rfl rfl ?_ ?_ (by simp [q0w,q0h,win]) ?_
      ·exact Ow
      ·exact wfB (q5A Oq)
      ·try refine Zz ?_
       exact q0B rfl q1X
  ·obtain rfl:t=N:=by omega
   have q:¬ (t:Int) < t:=by omega
   refine wk1 q ?_;refine (rtM (rs:=[.tmp 8,.tmp 9]) rfl rfl Lq ?_ (.inl rfl));refine LeF q4v (λi b hb=>((q5A Oq).b i b hb).1) (wfB (q5A Oq)) (.tu rfl λi x y hx hy=>?_)
   rcases i with _ | _ | i
   ·cases hx; cases hy; exact .ow rfl q18
   ·cases hx; cases hy;refine q33 (T:=58) (l:=(R t).map λp=>.ag [uv p.1,uv p.2]) ?_ q1X (λi hi=>?_) ?_
    ·try simp -implicitDefEqProofs (disch:=omega) only [go_sem,Nat.reduceEqDiff,Nat.reduceAdd,↓reduceIte]
    ·cases hi;unfold tXI q17;rw [if_neg (by omega),if_neg (by omega)]
     rfl
    ·rw [zQ];exact zI (Nat.le_of_eq (by rw [zD,hRl]))
   ·simp at hx
end
def qqX {mode:Int} {z y s:Nat} (hz:0 < z) (hy:0 < y):fQ mode ((z:Int)*(2:Int) ^ s) ((y:Int)*(2:Int) ^ s)=rF mode false z y:=by
 have hp:=q0M s;have h1:0 < (z:Int)*(2:Int) ^ s:=z6 Oq hp;have h2:0 < (y:Int)*(2:Int) ^ s:=z6 Oq hp;unfold fQ;rw [if_neg (by omega),decide_eq_false (by omega),decide_eq_false (by omega),q0J,q0J,zZ,zZ];exact q3M hz hy (q0H _)
def q6f (f:Nat):Nat->Nat->Option Nat:=λj i=>if j=0 then (if i=0 then some f else none) else none
section
variable {K f1 f3 t r:Nat}
def aw41 (hK:K=65536) (u1:q0F f1) (u3:q0F f3) (ut:q0F t) (ur:r < 18446744073709551616/\q0F r) (o1:ofZ f1=(2:Int) ^ K) (o3:ofZ f3=3*(2:Int) ^ K) (ot:ofZ t=6004799503160661*(2:Int) ^ (K-54)) (or:ofZ r=6004799503160662*(2:Int) ^ (K-108))
  (hr:rF 2 false 6004799503160661 (18014398509481983*2 ^ 54)=r):vrX (q6f f3) 1 [f1] [t] 0=(2:Int) ^ (K-54)/\vfG (q6f f3) 1 [t]=18014398509481983*(2:Int) ^ (K-54)/\vfN (q6f f3) 1 [t] [f1] [t] 0=6004799503160661*(2:Int) ^ (K-108)/\fQ 2 (vfN (q6f f3) 1 [t] [f1] [t] 0) (vfG (q6f f3) 1 [t])=r:=by
 have e1:q2I=(2:Int) ^ K:=by rw [qfc,hK]
 obtain ⟨P,hP⟩:∃ P:Int,P=(2:Int) ^ (K-162):=⟨_,rfl⟩;have hPp:0 < P:=by rw [hP]; exact q0M _
 have p108:(2:Int) ^ (K-108)=18014398509481984*P:=by
  rw [hP,show (18014398509481984:Int)=(2:Int) ^ 54 from by decide,<- zM]; congr 1; omega
 have p54:(2:Int) ^ (K-54)=18014398509481984*(18014398509481984*P):=by
  rw [<- p108,show (18014398509481984:Int)=(2:Int) ^ 54 from by decide,<- zM]; congr 1; omega
 have pK:(2:Int) ^ K=18014398509481984*(18014398509481984*(18014398509481984*P)):=by
  rw [<- p54,show (18014398509481984:Int)=(2:Int) ^ 54 from by decide,<- zM]; congr 1; omega
 have pp:∀ a b s u:Int,a*s*(b*u)=a*b*(s*u):=λa b s u=>by rw [zP,zP,Int.mul_left_comm s b u]
 have m1:q0n t f3=18014398509481983*(2:Int) ^ (K-54):=qvH hK ut u3 (by
  rw [ot,o3];generalize (2:Int) ^ (K-54)=a;generalize (2:Int) ^ K=c;rw [pp,show (6004799503160661:Int)*3=18014398509481983 from by decide,zP])
 have m2:q0n f3 t=18014398509481983*(2:Int) ^ (K-54):=by rw [qm8]; exact m1
 have dK:∀ m:Nat,m<=K->∀ a:Nat,bl a<=60000->q0Q ((a:Int)*(2:Int) ^ m):=λm hm a ha=>by
  unfold q0Q;rw [q0J,zZ]
  by_cases h0:a=0
  ·subst h0; rw [Nat.zero_mul,q0f]; omega
  ·rw [q1P h0]; omega
 have pz:∀ (a b V:Int),q0Q V->a*b=V*(2:Int) ^ K->prZ a b=V:=λa b V hV e=>by
  unfold prZ;rw [e,hK,q58 hV]; rfl
 have b1:bl 6004799503160661<=60000:=tT (q0P (k:=53) (by decide)) Oq;have b2:bl (6004799503160661*18014398509481983)<=60000:=tT (q0P (k:=200) (by decide)) Oq;have hE:btE 1 [t] (q6f f3) 0 0=(2:Int) ^ (K-54):=by
  show (if 0=0 then q2I else 0)-(0+q0n t f3)=_
  rw [if_pos rfl,e1,m1,pK,p54];omega
 have hZ:btZ 1 [t] (q6f f3) 0=(2:Int) ^ (K-54):=by
  show 0+(((btE 1 [t] (q6f f3) 0 0).natAbs:Nat):Int)=_
  rw [hE];have:=q0M (K-54);omega
 have hL:grZ (btL 1 [t] (q6f f3))=(2:Int) ^ (K-54):=by
  show max 0 (btZ 1 [t] (q6f f3) 0)=_
  rw [hZ];have:=q0M (K-54);omega
 have hG:vfG (q6f f3) 1 [t]=18014398509481983*(2:Int) ^ (K-54):=by
  unfold vfG;rw [hL,e1,pK,p54];omega
 have hR:vrX (q6f f3) 1 [f1] [t] 0=(2:Int) ^ (K-54):=by
  show ofZ f1-(0+q0n f3 t)=_
  rw [o1,m2,pK,p54];omega
 have hD:vdX 1 [t] (vrX (q6f f3) 1 [f1] [t]) 0=6004799503160661*(2:Int) ^ (K-108):=by
  show (((0+prZ (ofZ t) (vrX (q6f f3) 1 [f1] [t] 0)).natAbs:Nat):Int)=_
  rw [hR,ot,pz _ _ (6004799503160661*(2:Int) ^ (K-108)) (dK (K-108) (by omega) 6004799503160661 b1) (by
   rw [zP,zP,<- zM,<- zM]; congr 2; omega)]
  have:=q0M (K-108);omega
 have hM:grZ (vfD (q6f f3) 1 [t] [f1] [t])=6004799503160661*(2:Int) ^ (K-108):=by
  show max 0 (vdX 1 [t] (vrX (q6f f3) 1 [f1] [t]) 0)=_
  rw [hD];have:=q0M (K-108);omega
 have hN:vfN (q6f f3) 1 [t] [f1] [t] 0=6004799503160661*(2:Int) ^ (K-108):=by
  unfold vfN vnX;rw [hD,hG,hZ,hM];have a1:prZ (6004799503160661*(2:Int) ^ (K-108)) (18014398509481983*(2:Int) ^ (K-54))=((6004799503160661*18014398509481983:Nat):Int)*(2:Int) ^ (K-162):=pz _ _ _ (dK (K-162) Oq _ b2) (by
   rw [pp,<- zM,show K-108+(K-54)=K-162+K by omega,zM,<- zP]; rfl)
  have a2:prZ ((2:Int) ^ (K-54)) (6004799503160661*(2:Int) ^ (K-108))=((6004799503160661:Nat):Int)*(2:Int) ^ (K-162):=pz _ _ _ (dK (K-162) Oq _ b1) (by
   rw [Int.mul_left_comm,<- zM,show K-54+(K-108)=K-162+K by omega,zM,<- zP]; rfl)
  rw [a1,a2,p108,<- hP];omega
 refine ⟨hR,hG,hN,?_⟩;rw [hN,hG,<- hr,show (18014398509481983:Int)*(2:Int) ^ (K-54)=((18014398509481983*2 ^ 54:Nat):Int)*(2:Int) ^ (K-108) by rw [p54,<- p108,show ((18014398509481983*2 ^ 54:Nat):Int)=18014398509481983*18014398509481984 from by decide,zP]];exact qqX (z:=6004799503160661) (by decide) (by decide)
def aw41b (hK:K=65536) (ut:q0F t) (ur:r < 18446744073709551616/\q0F r) (ot:ofZ t=6004799503160661*(2:Int) ^ (K-54)) (or:ofZ r=6004799503160662*(2:Int) ^ (K-108)) (ta:q22 t≠0) {lo hi:Nat}
  (hlo:rF 1 false (6004799503160661*18014398509481984-6004799503160662) (2 ^ 108)=lo) (hhi:rF 2 false (6004799503160661*18014398509481984+6004799503160662) (2 ^ 108)=hi):q9p 1 t r=lo/\q6g 2 t r=hi:=by
 have hp:=q0M (K-108);have p54:(2:Int) ^ (K-54)=18014398509481984*(2:Int) ^ (K-108):=by
  rw [show (18014398509481984:Int)=(2:Int) ^ 54 from by decide,<- zM]; congr 1; omega
 have hon:ofZ (q5T r) = -ofZ r:=qbu ur.1 ur.2;have hs:(2:Int) ^ K=((2 ^ 108:Nat):Int)*(2:Int) ^ (K-108):=by
  rw [q09,<- zM]; congr 1; omega
 constructor
 ·unfold q9p q6g;rw [if_neg (not_not_intro ((qjT ur.1).2 ur.2)),if_neg λq=>ta q.1,hon,ot,or,p54];have e:6004799503160661*(18014398509481984*(2:Int) ^ (K-108)) + -(6004799503160662*(2:Int) ^ (K-108))=((6004799503160661*18014398509481984-6004799503160662:Nat):Int)*(2:Int) ^ (K-108):=by
   rw [show ((6004799503160661*18014398509481984-6004799503160662:Nat):Int)=6004799503160661*18014398509481984-6004799503160662 from by decide];omega
  rw [e,if_neg (by
   have:0 < ((6004799503160661*18014398509481984-6004799503160662:Nat):Int)*(2:Int) ^ (K-108):=z6 (by decide) hp;omega),qvx hK,hs,qqX (by decide) (by decide),hlo]
 ·unfold q6g;rw [if_neg (not_not_intro ur.2),if_neg λq=>ta q.1,ot,or,p54];have e:6004799503160661*(18014398509481984*(2:Int) ^ (K-108))+6004799503160662*(2:Int) ^ (K-108)=((6004799503160661*18014398509481984+6004799503160662:Nat):Int)*(2:Int) ^ (K-108):=by
   rw [show ((6004799503160661*18014398509481984+6004799503160662:Nat):Int)=6004799503160661*18014398509481984+6004799503160662 from by decide];omega
  rw [e,if_neg (by
   have:0 < ((6004799503160661*18014398509481984+6004799503160662:Nat):Int)*(2:Int) ^ (K-108):=z6 (by decide) hp;omega),qvx hK,hs,qqX (by decide) (by decide),hhi]
end
def q7R {T id n:Nat} {h h':Hp} {l:List PV} (h1:h id=some ⟨T,none,l,false⟩) (hc:ClL l) (h2:h' id=none) (hn:l.length=n):LeV (q0h []) h h' (.ow id none 0 n) (.sl none l):=q33 (T:=T) (l:=l) h1 hc (λi hi=>by
 have hi:some i=some id:=hi;cases hi;exact h2) (by rw [zQ]; exact zI (by omega))
def qvc {y:PV}:q59 (some 2) (.sl (some 2) [y]) (iv 0)=some (.qt (some 2) y):=by
 unfold q59;simp [ksz]
def vfL_1 {F:Nat->Nat->Option Nat} {v b z:List Nat}:vfL F 1 v b z 1=[vIv (z.getD 0 0) (vfN F 1 v b z 0) (vfG F 1 v)]:=rfl
def qdq:ACt 19 [] (bv true):=by
 obtain ⟨K,hK⟩:∃ K:Nat,K=65536:=⟨_,rfl⟩;have p52:(4503599627370496:Int)=(2:Int) ^ 52:=by decide
 have o1:ofZ 4607182418800017408=(2:Int) ^ K:=by
  rw [qjO (m:=4503599627370496) (e:=1023) (by omega) (by omega) (by omega) (by omega) (by omega),show (((4503599627370496:Nat):Int))=(2:Int) ^ 52 from p52,<- zM,show 52+(64461+1023)=K by omega]
 have o3:ofZ 4613937818241073152=3*(2:Int) ^ K:=by
  rw [qjO (m:=6755399441055744) (e:=1024) (by omega) (by omega) (by omega) (by omega) (by omega),show (((6755399441055744:Nat):Int))=3*(2:Int) ^ 51 from by decide,zP,<- zM,show 51+(64461+1024)=K by omega]
 have ot:ofZ 4599676419421066581=6004799503160661*(2:Int) ^ (K-54):=by
  rw [qjO (m:=6004799503160661) (e:=1021) (by omega) (by omega) (by omega) (by omega) (by omega),show 64461+1021=K-54 by omega]; rfl
 have or:ofZ 4356482039543059798=6004799503160662*(2:Int) ^ (K-108):=by
  rw [qjO (m:=6004799503160662) (e:=967) (by omega) (by omega) (by omega) (by omega) (by omega),show 64461+967=K-108 by omega]; rfl
 have hr:rF 2 false 6004799503160661 (18014398509481983*2 ^ 54)=4356482039543059798:=by kernel_rfl
 have hlo:rF 1 false (6004799503160661*18014398509481984-6004799503160662) (2 ^ 108)=4599676419421066580:=by kernel_rfl
 have hhi:rF 2 false (6004799503160661*18014398509481984+6004799503160662) (2 ^ 108)=4599676419421066582:=by kernel_rfl
 have z3:rF 0 false 3 1=4613937818241073152:=by kernel_rfl
 have f3:flz 3=4613937818241073152:=by
  have h1:=fR_u (z:=3) (K:=65536) (s:=0) rfl Oq Oq;have h2:fR 0 (((3:Nat):Int)*(2:Int) ^ (65536-0))=flz 3:=rfl;rw [<- h2,h1];exact z3
 obtain ⟨r1,r2,r3,r4⟩:=aw41 (f1:=4607182418800017408) (f3:=4613937818241073152) (t:=4599676419421066581) (r:=4356482039543059798) hK (by unfold q0F; omega) (by unfold q0F; omega) (by unfold q0F; omega) ⟨by omega,by unfold q0F; omega⟩ o1 o3 ot or hr;obtain ⟨s1,s2⟩:=aw41b (t:=4599676419421066581) (r:=4356482039543059798) hK (by unfold q0F; omega) ⟨by omega,by unfold q0F; omega⟩ ot or (by unfold q22; omega) hlo hhi;have hm:TOk (q6f 4613937818241073152) 1 1:=by
  refine ⟨by omega,by omega,by omega,λj i x _ _ h=>?_,λj i x _ _ h=>?_⟩
  all_goals
   unfold q6f at h
   split at h
   ·split at h
    ·cases h; first | omega | (unfold q0F; omega)
    ·cases h
   ·cases h
 have hv:vfO (q6f 4613937818241073152) 1 [4599676419421066581] [4607182418800017408] [4599676419421066581]=([(4599676419421066580,4599676419421066582)],true):=by
  have hg:¬ q2I<=grZ (btL 1 [4599676419421066581] (q6f 4613937818241073152)):=λh=>by
   have h1:=r2;unfold vfG at h1;have hp:=q0M (K-54);generalize grZ (btL 1 [4599676419421066581] (q6f 4613937818241073152))=g at h h1;generalize q2I=o at h h1;generalize (2:Int) ^ (K-54)=c at hp h1;omega
  unfold vfO;rw [if_neg hg,vfL_1,show ([4599676419421066581]:List Nat).getD 0 0=4599676419421066581 from rfl];unfold vIv;rw [r4,s1,s2]
 have C1:ACt 73 [iv 3,iv 0] (uv (4613937818241073152:Nat)):=by
  rw [<- f3];exact q7B (z:=3) (mode:=0) Oq Oq (q7v (by have:=q0P (n:=(3:Int).natAbs) (k:=4) (by decide); omega))
 have C2:=qdf (v:=[4599676419421066581]) (b:=[4607182418800017408]) (z:=[4599676419421066581]) hm (by omega) rfl (λx hx=>by simp at hx; subst hx; exact ⟨by omega,by unfold q0F; omega⟩) (λx hx=>by simp at hx; subst hx; exact ⟨by omega,by unfold q0F; omega⟩) rfl (λx hx=>by simp at hx; subst hx; exact ⟨by omega,by unfold q0F; omega⟩) rfl;rw [hv] at C2;clear hv hm r1 r2 r3 r4 s1 s2 hr hlo hhi z3 f3 o1 o3 ot or p52;have D1:ACt 73 [iv 3,iv 0] (uv 4613937818241073152):=C1;have D2:ACt 27 [.ag [iv 1,iv 1,.sl none [iv 0,iv 1],.sl none [iv 0],.sl none [uv 4613937818241073152]],.sl none [uv 4607182418800017408],.ag [iv 1,iv 1,.sl none [uv 4599676419421066581],.sl none [uv 4599676419421066581]]] (.tu [.sl (some 2) [.ag [uv 4599676419421066580,uv 4599676419421066582]],bv true,iv 0]):=C2;clear C1 C2;have b1:((4599676419421066580:Int) == 4599676419421066580)=true:=by decide
 have b2:((4599676419421066582:Int) == 4599676419421066582)=true:=by decide
 have b3:((0:Int) == 0)=true:=rfl;have b4:((1:Int) == 1)=true:=rfl;have w1:IntKind.u64.wrap (4599676419421066581-1)=4599676419421066580:=rfl;have w2:IntKind.u64.wrap (4599676419421066581+1)=4599676419421066582:=rfl;refine ac0 Tryz.func19 Tryz.ntmps19 [.tmp 0] ?_;refine wk ?_;refine q34 λK0 hK0=>?_;refine qbI 8 λK hK=>?_;rw [zJ,zJ,zJ,zJ,zJ,zJ,zJ,zJ,List.take_zero,zK,zK,zK,zK,zK,zK,zK,zK,zQ]
 try refine Zz ?_
 refine ⟨_,_,LeM [] rfl rfl (xs:=[(2,uv 4599676419421066581),(12,.ag [iv 1,iv 1,.sl none [iv 0,iv 1],.sl none [iv 0],.sl none [uv 4613937818241073152]]),(13,.sl none [uv 4607182418800017408]),(19,.ag [iv 1,iv 1,.sl none [uv 4599676419421066581],.sl none [uv 4599676419421066581]])]) (kv:=[]) (bs:=[]) (kb:=[]) ?_,?_⟩
 ·try refine Zz ?_
  exact ⟨⟨q7R rfl (clI (l:=[0,1])) rfl rfl,q7R rfl (clI (l:=[0])) rfl rfl,q7R rfl (clU (l:=[4613937818241073152])) rfl rfl⟩,q7R rfl (clU (l:=[4607182418800017408])) rfl rfl,q7R rfl (clU (l:=[4599676419421066581])) rfl rfl,q7R rfl (clU (l:=[4599676419421066581])) rfl rfl⟩
 try refine Zz ?_
 refine q0S D2 ?_
 try refine Zz ?_
 refine hK _ _ ?_;refine hK0 _ _ ?_;clear hK hK0 K K0;exact wk1 (x6 b1 b2 b3 b4 w1 (x2 w2 @qvc)) trivial
def krP (y:List Nat) (W i:Nat):Nat × Nat:=(q9p 0 (y.getD i 0) W,q6g 0 (y.getD i 0) W)
def krX (y:List Nat) (W m:Nat):List (Nat × Nat):=(List.range m).map λi:Nat=>krP y W i
section
variable {raw b w y:List Nat} {wd n sp:Int} {W N m i:Nat} {F A:Nat->Nat->Option Nat} {wild:Bool}
def krX_s:krX y W (i+1)=krX y W i ++ [krP y W i]:=by unfold krX; rw [zR,zA]; rfl
def qv8 (hy:∀ i,y.getD i 0 < 18446744073709551616/\q0F (y.getD i 0)) (hW:W < 18446744073709551616/\q0F W):nnL (krX y W i):=λp hp=>by
 obtain ⟨c,_,rfl⟩:=zO.1 hp;exact ⟨⟨q8Y (hy c).1 (q7p hW.1),q40 (q0l (hy c).2) (by rw [q4B hW.1]; exact q0l hW.2)⟩,q8Y (hy c).1 hW.1,q40 (q0l (hy c).2) (q0l hW.2)⟩
def qxW {N:Nat} (h:TOk F N N) (i j:Nat) (hi:i < N) (hj:j < N):nnI (bxA raw wd F i j):=by
 have hf:q0F ((F j i).getD 0)/\(F j i).getD 0 < 18446744073709551616:=h.fin (j:=j) (i:=i) hj hi;exact qnW ⟨hf.2,hf.1⟩
def qxV (hb:q07 b):nnL (bxR raw wd b m):=λp hp=>by
 obtain ⟨c,_,rfl⟩:=zO.1 hp;exact qnW (q0V hb)
def pf0 {F:Nat->Nat->Option Nat} {N:Nat} (h:PfOk raw F N (q02 0 4) w y):y.length=N/\q07 y/\w.length=N*N/\q07 w:=by
 obtain ⟨h1,h2,v,rfl,h3,h4⟩:=h;have hv:q07 v:=by
  rcases h4 with h4 | h4 | h4
  ·exact h4.1
  ·rw [h4]; exact λx hx=>q3r x hx
  ·subst h4;have:v=[]:=List.length_eq_zero_iff.1 h3;rw [this]; exact λx hx=>by cases hx
 refine ⟨h1,h2,by rw [q7d]; exact h3,λx hx=>?_⟩;unfold sqL at hx;obtain ⟨k,hk,rfl⟩:=zO.1 hx;have hg:=q0V hv (i:=k);have e:sqX raw (q02 0 4) k (v.getD k 0)=v.getD k 0:=by
  unfold sqX;rw [show q02 0 4=0 from rfl,Nat.zero_mul,Nat.add_zero];exact Nat.mod_eq_of_lt hg.1
 rw [e]
 split <;> exact hg
def q9F {A A':Nat->Nat->Nat × Nat} {i:Nat} (h:∀ j,j < N->A i j=A' i j):q1L N A i=q1L N A' i:=zW λj hj=>h j (List.mem_range.1 hj)
def qih {A A':Nat->Nat->Nat × Nat} (h:∀ i j,i < N->j < N->A i j=A' i j):tXI N N A=tXI N N A':=by
 funext i
 unfold tXI q17
 by_cases h0:i=5000
 ·rw [if_pos h0,if_pos h0]
  congr 2
  exact zW λj _=>by rw [q4g,q4g]
 ·rw [if_neg h0,if_neg h0]
  by_cases h1:10000<=i/\i < 10000+N
  ·rw [if_pos h1,if_pos h1];unfold rwA;rw [q9F λj hj=>h _ j (by omega) hj]
  ·rw [if_neg h1,if_neg h1]
def qbx {A:Nat->Nat->Nat × Nat} (h:∀ i j,nnI (A i j)) (j:Nat):nnL (q1L N A j):=λp hp=>by
 obtain ⟨c,_,rfl⟩:=zO.1 hp;exact h j c
def qgI {K:KwT} (h:K.n<=20):(kwA K).1.length<=1000000:=by
 unfold kwA
 split
 ·show (kwL K K.n).length<=_
  unfold kwL;rw [zD,List.length_range]; omega
 ·exact zE _
def qyj {h h':Hp} {A:Nat->Nat->Nat × Nat} (h1:∀ i,win i->h i=tXI N N A i) (h2:∀ i,win i->h' i=none) (hN:N<=100):LeV (q0h []) h h' (.ow 5000 none 0 N) (pIm N A):=by
 have e:(((List.range N).map λj=>pP (q1L N A j)).drop 0).take N=((List.range N).map λj=>pP (q1L N A j)):=by
  rw [zQ];exact zI (by simp)
 unfold pIm;rw [<- e];refine .fzg (b:=⟨52,none,(List.range N).map λj=>.ow (j+10000) (some 2) 0 (rwA N A j).length,false⟩) ?_ rfl rfl (by simp) (λi x y hx hy=>?_) (λy hy=>?_) (λi hi=>?_)
 ·rw [h1 5000 ⟨by omega,by omega⟩]; exact q18
 ·by_cases hiN:i < N
  ·rw [zB,zG hiN] at hx hy;cases hx; cases hy;refine q33 (T:=58) (l:=rwA N A i) ?_ q1X (λj hj=>?_) ?_
   ·rw [h1 (i+10000) ⟨by omega,by omega⟩]; exact q1O (by omega) hiN
   ·obtain rfl:=tV.inj hj;exact h2 _ ⟨by omega,by omega⟩
   ·rw [zQ];exact zI (zH _)
  ·rw [zN (by simp; omega)] at hx; cases hx
 ·obtain ⟨c,_,rfl⟩:=zO.1 hy
  trivial
 ·obtain rfl:=tV.inj hi;exact h2 _ ⟨by omega,by omega⟩
def qeF (N:Nat) (A:Nat->Nat->Nat × Nat):List PV:=(List.range (N-1)).map λj=>pP (q1L N A (j+1))
def qpZ {A:Nat->Nat->Nat × Nat}:ClL (qeF N A):=λx hx=>by
 obtain ⟨c,_,rfl⟩:=zO.1 hx
 trivial
def qsA {h h':Hp} {A:Nat->Nat->Nat × Nat} {b:Bk} (h0:0 < N) (hN:N<=100) (h1:∀ i,win i->h i=tXI N N A i) (h2:∀ i,win i->h' i=none) (h3:h' 1002=some b):LeL (q0h [(1001,some 5000),(1002,some 10000)]) h h' ((List.range N).map λj=>.ow (j+10000) (some 2) 0 (rwA N A j).length) (.ow 1002 (some 2) 0 N :: qeF N A):=by
 refine ⟨by unfold qeF; simp; omega,λi x y hx hy=>?_⟩
 by_cases hi:i < N
 ·rw [zB,zG hi] at hx;cases hx
  rcases i with _ | i
  ·cases hy;dsimp only;rw [q4g];exact .ow rfl h3
  ·rw [tP] at hy;unfold qeF at hy;rw [zB,zG (by omega)] at hy;cases hy;refine q33 (T:=58) (l:=rwA N A (i+1)) ?_ q1X (λj hj=>?_) ?_
   ·rw [h1 (i+1+10000) ⟨by omega,by omega⟩]; exact q1O (by omega) hi
   ·unfold q0h at hj;dsimp only at hj
    split at hj
    ·cases hj
    ·unfold q0h at hj;dsimp only at hj
     split at hj
     ·have:=tV.inj hj; omega
     ·obtain rfl:=tV.inj hj;exact h2 _ ⟨by omega,by omega⟩
   ·rw [zQ];exact zI (zH _)
 ·rw [zN (by simp; omega)] at hx; cases hx
def q82 {h h':Hp} {A:Nat->Nat->Nat × Nat} {b:Bk} {τ:Nat->Option Nat} (hτ:τ 1002=some 1002) (h3:h' 1002=some b):LeL τ h h' (.ow 1002 (some 2) 0 N :: qeF N A) (.ow 1002 (some 2) 0 N :: qeF N A):=by
 refine ⟨rfl,λi x y hx hy=>?_⟩
 rcases i with _ | i
 ·cases hx; cases hy;exact .ow hτ h3
 ·rw [hx] at hy;cases hy;exact .cl (qpZ _ (zF hx))
def stA (A:Nat->Nat->Nat × Nat) (v:Nat):Nat->Nat->Nat × Nat:=λr c=>if r=0/\c=0 then ((A 0 0).1,v) else A r c
def qry {h h':Hp} {A:Nat->Nat->Nat × Nat} {v:Nat} (h0:0 < N) (e1:h 1001=some ⟨52,none,.ow 1002 (some 2) 0 N :: qeF N A,false⟩) (e2:h 1002=some ⟨58,some 2,(rwA N A 0).set 0 (.ag [uv (A 0 0).1,uv v]),false⟩) (h1:h' 1001=none) (h2:h' 1002=none):LeV (q0h []) h h' (.ow 1001 none 0 N) (pIm N (stA A v)):=by
 have e:(((List.range N).map λj=>pP (q1L N (stA A v) j)).drop 0).take N=((List.range N).map λj=>pP (q1L N (stA A v) j)):=by
  rw [zQ];exact zI (by simp)
 have hw:(rwA N A 0).set 0 (.ag [uv (A 0 0).1,uv v])=rwA N (stA A v) 0:=by
  obtain ⟨m,rfl⟩:∃ m,N=m+1:=⟨N-1,by omega⟩;unfold rwA q1L;rw [List.range_succ_eq_map,tL,tL,tL,tL,List.set_cons_zero]
  congr 1
  rw [tS,tS,tS,tS];refine zW λj _=>?_
  show PV.ag _=PV.ag _
  unfold stA;rw [if_neg (by simp)]
 have hr:∀ i,q1L N A (i+1)=q1L N (stA A v) (i+1):=λi=>q9F λj _=>by
  unfold stA;rw [if_neg (by omega)]
 rw [hw] at e2;unfold pIm;rw [<- e];refine .fzg (b:=⟨52,none,.ow 1002 (some 2) 0 N :: qeF N A,false⟩) e1 rfl rfl (by unfold qeF; simp; omega) (λi x y hx hy=>?_) (λy hy=>?_) (λi hi=>?_)
 ·by_cases hiN:i < N
  ·rw [zB,zG hiN] at hy;cases hy
   rcases i with _ | i
   ·cases hx;refine q33 (T:=58) (l:=rwA N (stA A v) 0) e2 q1X (λj hj=>?_) ?_
    ·obtain rfl:=tV.inj hj;exact h2
    ·rw [zQ];exact zI (by rw [q4g]; exact zH _)
   ·rw [tP] at hx;unfold qeF at hx;rw [zB,zG (by omega)] at hx;cases hx;dsimp only;rw [hr];exact .cl trivial
  ·rw [zN (by simp; omega)] at hy; cases hy
 ·obtain ⟨c,_,rfl⟩:=zO.1 hy
  trivial
 ·obtain rfl:=tV.inj hi;exact h1
def qtw {A:Nat->Nat->Nat × Nat} (h:∀ i j,nnI (A i j)) (i j:Nat):nnI (stA A 9218868437227405312 i j):=by
 unfold stA
 split
 ·refine ⟨(h 0 0).1,by omega,?_⟩
  show q0Y 9218868437227405312≠3
  decide
 ·exact h i j
def hp110 {b1 b2 b3:Bk} {i:Nat} (hi:win i):hpM [(11,b1),(1001,b2),(1002,b3)] [] i=none:=by
 unfold win at hi;unfold hpM;rw [if_neg (by omega)];unfold hpM;rw [if_neg (by omega)];unfold hpM;rw [if_neg (by omega)]
 rfl
def hp11 {b:Bk} {i:Nat} (hi:win i):hpM [(11,b)] [] i=none:=by
 unfold win at hi;unfold hpM;rw [if_neg (by omega)]
 rfl
def q6k (hr:raw.length<=9223372036854775807) (h1 : -9223372036854775808<=n) (h2:n<=9223372036854775807) (h3 : -9223372036854775808<=wd) (h4:wd<=9223372036854775807) (h5 : -9223372036854775808<=sp) (h6:sp<=9223372036854775807) :
  ACt 4 [pF raw,iv n,iv wd,bv wild,iv sp] (bv true):=by
 have cA:=qdq;have cM:=q4C (a:=n) (n:=4) h1 h2 Oq Oq;have cMw:=q4C (a:=wd) (n:=20) h3 h4 Oq Oq;have cMs:=q4C (a:=sp) (n:=6) h5 h6 Oq Oq;change ACt _ [iv n,iv 4] _ at cM;change ACt _ [iv wd,iv 20] _ at cMw;change ACt _ [iv sp,iv 6] _ at cMs;have hN0:q02 n 4 < 4:=by unfold q02; omega
 have hW0:q02 wd 20 < 20:=by unfold q02; omega
 have hS0:q02 sp 6 < 6:=by unfold q02; omega
 have eN:q02 (q02 n 4:Nat) 5=q02 n 4:=by
  generalize q02 n 4=m at *;unfold q02;omega
 have cPk:=qf8 (raw:=raw) (n:=(q02 n 4:Nat)) (st:=0) (rg:=true) hr Oq Oq Oq Oq;rw [eN] at cPk;have hF:=qxF (raw:=raw) (N:=q02 n 4) (st:=0) (rg:=true) Oq;have hbf:=q3r (raw:=raw) (k:=30) (st:=q02 0 4) (n:=q02 n 4);have hbl:=q3H (raw:=raw) (k:=30) (st:=q02 0 4) (n:=q02 n 4);have cBx:=box_m (raw:=raw) (wd:=wd) hr h3 h4 hF Oq hbf hbl;obtain ⟨w,y,hPf,cPr⟩:=qpE (raw:=raw) (sp:=0) (wild:=wild) hr Oq Oq hF Oq hbf hbl;obtain ⟨hyl,hyf,hwl,hwf⟩:=pf0 hPf;have hAn:=qxW (raw:=raw) (wd:=wd) hF;have hRn:=qxV (raw:=raw) (wd:=wd) (b:=q50 raw 30 (q02 0 4) (q02 n 4)) (m:=q02 n 4) hbf;have hRl:(bxR raw wd (q50 raw 30 (q02 0 4) (q02 n 4)) (q02 n 4)).length=q02 n 4:=by unfold bxR; simp
 clear hPf;generalize ckT raw (q02 n 4) 0 true=F at *;generalize q50 raw 30 (q02 0 4) (q02 n 4)=b at *;have cSc:=qbg (n := -(q02 wd 20:Int)) (U:=65528) (t:=65536-q02 wd 20) rfl Oq Oq Oq;have hPw:=(qmX (U:=65528) (t:=65536-q02 wd 20) rfl Oq Oq).2;generalize pw2 (65536-q02 wd 20)=W at *;have hy:∀ i,y.getD i 0 < 18446744073709551616/\q0F (y.getD i 0):=λi=>q0V hyf;have cS:=λi=>qaV (mode:=0) (.inl rfl) (hy i) hPw.1 (q0l hPw.2);have cD:=λi=>q7l (mode:=0) (.inl rfl) (hy i) hPw.1 (q0l hPw.2);have hXs:=λi=>krX_s (y:=y) (W:=W) (i:=i);have hXl:=λi=>show (krX y W i).length=i by unfold krX; simp
 have hX0:krX y W 0=[]:=rfl;have hXn:=λi=>qv8 (y:=y) (W:=W) (i:=i) hy hPw;have hXe:=λi=>show krP y W i=(q9p 0 (y.getD i 0) W,q6g 0 (y.getD i 0) W) from rfl;have hyg:=λj (hj:j < q02 n 4)=>show y[j]?=some (y.getD j 0) by
  obtain ⟨w,hw⟩:∃ w,y[j]?=some w:=⟨_,zC Oq⟩;rw [hw,getD_some hw]
 clear hF hbf hbl hPw hy eN;generalize krX y W=X at *;generalize krP y W=XP at *;generalize bxA raw wd F=A at *;generalize bxR raw wd b (q02 n 4)=R at *;generalize q02 n 4=N at *;generalize q02 wd 20=m at *;generalize q02 sp 6=sv at *;obtain ⟨A',hA'⟩:∃ A':Nat->Nat->Nat × Nat,A'=λi j=>if i < N/\j < N then A i j else (0,0):=⟨_,rfl⟩
 have eA:tXI N N A=tXI N N A':=qih λi j hi hj=>by rw [hA']; exact (if_pos ⟨hi,hj⟩).symm
 rw [eA] at cBx;have hAp:∀ i j,nnI (A' i j):=λi j=>by
  rw [hA'];dsimp only
  split
  ·rename_i hh;exact hAn i j hh.1 hh.2
  ·exact ⟨⟨by omega,by decide⟩,by omega,by decide⟩
 clear hAn eA hA';clear A;have hNN:N*N<=3*3:=zL Oq Oq;unfold pBo at cPr;rw [hwl] at cPr;have tk:List.take (N*N) (w.map λz:Nat=>uv z)=w.map λz:Nat=>uv z:=zI (Nat.le_of_eq (by rw [zD,hwl]));unfold pT q2U at *;generalize (tM F N N).1=ms at *;generalize (tM F N N).2.1=mi at *;generalize (tM F N N).2.2=mv at *;have hbt:decide (true=true)=true:=rfl;refine ac0 Tryz.func4 Tryz.ntmps4 [.tmp 10] ?_;refine wk ?_;refine ql7 λK hK=>?_;refine Zz ?_;refine jmF cBx ?_ ?_
 ·exact Ow
 try refine Zz ?_
 refine hK _ _ ?_; clear hK K
 by_cases hsp:sv=1/\0 < N
 ·obtain ⟨hs1,hs2⟩:=hsp;refine q0u (LeM [(1001,some 5000),(1002,some 10000)] rfl rfl (xs:=[(0,pF raw),(2,iv wd),(3,bv wild),(4,iv sp),(11,.pt 11 0 0),(12,pF b),(13,.ow 1001 none 0 N),(14,pP R)]) (kv:=[]) (bs:=[(11,⟨27,some 5,[.ag [iv N,iv N,pI ms,pI mi,pF mv]],false⟩),(1001,⟨52,none,.ow 1002 (some 2) 0 N :: qeF N A',false⟩),(1002,⟨58,some 2,rwA N A' 0,false⟩)]) (kb:=[]) ?_) ?_
  ·have e10:tXI N N A' 10000=some ⟨58,some 2,rwA N A' 0,false⟩:=by
    have:=q1O (T1:=52) (T2:=58) (K:=some 2) (N:=5000) (R:=10000) (n:=N) (row:=rwA N A') (B:=h0) (j:=0) Oq hs2;rw [Nat.zero_add] at this;exact this
   try refine Zz1 e10 ?_
   exact ⟨qsA hs2 Oq (λi hi=>q0X hi) (λi hi=>hp110 hi) rfl,q0B rfl q1X⟩
  ·clear cBx cM cPk;refine wk ?_;refine ql7 λK hK=>?_;refine Zz ?_;refine jmF cPr ?_ ?_
   ·exact Ow
   try refine Zz ?_
   refine hK _ _ ?_; clear hK K;refine q0u (LeM [] rfl rfl (xs:=[(2,iv wd),(4,iv sp),(11,.pt 11 0 0),(13,.ow 1001 none 0 N),(14,pP R),(15,.pt 15 0 0)]) (kv:=[]) (bs:=[(11,⟨27,some 5,[.ag [iv N,iv N,pI ms,pI mi,pF mv]],false⟩),(15,⟨37,some 4,[.ag [iv N,iv N,pF w,pF y]],false⟩),(1001,⟨52,none,.ow 1002 (some 2) 0 N :: qeF N A',false⟩),(1002,⟨58,some 2,rwA N A' 0,false⟩)]) (kb:=[]) ?_) ?_
   ·try refine Zz ?_
    exact ⟨q5I (T:=33) rfl clU rfl (by rw [zD,hwl]),q82 rfl rfl,q0B rfl q1X⟩
   clear cPr;refine wk ?_;refine q0A (λi=>i<=N) [2,4,11,13,14,15] [11,15,1001,1002] Lk Lk (λi:Nat=>[(17,iv i),(16,.ow 1004 (some 2) 0 i)]) (λi=>[(1004,⟨58,some 2,(X i).map λp=>.ag [uv p.1,uv p.2],false⟩)]) (λi=>N-i) 0 (zE _) ?_ ?_
   ·rw [hX0];refine LeM [(1004,none)] rfl rfl ?_;refine Zz ?_;exact ⟨rfl,q82 rfl rfl,q0B rfl q1X⟩
   ·intro i hi;have xl:=hXl i
    by_cases hlt:i < N
    ·have q:(i:Int) < N:=by omega
     have c1:=cS i;have c2:=cD i;have xs:=hXs i;have xe:=hXe i;have gy:=hyg i hlt;generalize y.getD i 0=yi at *;generalize q9p 0 yi W=u1 at *;generalize q6g 0 yi W=u2 at *;rw [xe] at xs;clear hXn hXe cS cD hXs;have hng:IntKind.i64.wrap (0-(m:Int)) = -(m:Int):=by rw [i64_in (by omega) (by omega)]; omega
     refine wk1 (x4 q gy xl hng) ?_;refine ⟨i+1,by omega,by omega,?_⟩;rw [xs];refine LeM [(1004,some 72)] rfl rfl ?_;refine Zz ?_;exact ⟨by omega,q0B (by rw [zA]; rfl) q1X,q82 rfl rfl,q0B rfl q1X⟩
    ·obtain rfl:i=N:=by omega
     have q:¬ (i:Int) < i:=by omega
     clear cS cD hXs hXe cSc;have xn:=hXn i;clear hXn hXl hX0;generalize X i=Xs at *;have hs3:Nat.ble 1 i=true:=Nat.ble_eq_true_of_le hs2;clear hs2;refine wk1 (x2 q xl) ?_;refine qiR λK0 hK0=>?_;have fin:∀ K':KwT,K'.n=i->K'.v=w->K'.z=y->KwF K'->∀ (s0:Nat->PV) (h:Hp),Le (λ_=>False) s0 h (stM [(13,pIm i K'.a),(14,pP K'.b),(15,.pt 15 0 0),(16,pP K'.x)] []) (hpM [(15,⟨37,some 4,[.ag [iv i,iv i,pF w,pF y]],false⟩)] [])->K0 s0 h:=by
      clear hAp;intro K' e1 e2 e3 kf s0 h hl;refine hK0 _ _ (q0u hl ?_); clear hK0 K0 hl;have k1:=qcZ kf;have k2:=qbL kf;rw [e1,e2,e3] at k1 k2;have k3:=q9B (qgI (K:=K') Oq);generalize kwA K'=q at *;obtain ⟨q1,q2,q3⟩:=q;dsimp only at k1 k2 k3;unfold pIm at *;generalize (List.range i).map (λj=>pP (q1L i K'.a j))=M' at *;unfold pPn at *;generalize hb':K'.b=b' at *;generalize hx':K'.x=x' at *;clear hb' hx' kf e1 e2 e3;have b1:∀ x:Int,(x == x)=true:=λx=>by simp
      have b2:∀ x:Bool,(x == x)=true:=λx=>by simp
      exact wk1 (x2 b1 b2) trivial
     have hs2:=Nat.le_of_ble_eq_true hs3;have kf0:KwF ⟨i,w,stA A' 9218868437227405312,R,y,Xs⟩:=⟨by dsimp only; omega,hwl,hwf,hyl,hyf,xl,xn,by dsimp only; omega,hRn,qbx (qtw hAp)⟩;have g:(i:Int) > 0:=by omega
     have t0:((sv:Int) == 0)=false:=by simp; omega
     have t1:((sv:Int) == 1)=true:=by simp; omega
     have ix1:q59 (some 1) (.ow 1001 none 0 i) (PV.vl (.int .i64 0))=some (.pt 1001 0 0):=by
      simp [q59,ksz]; omega
     have ix2:q59 (some 2) (.ow 1002 (some 2) 0 i) (PV.vl (.int .i64 0))=some (.pt 1002 0 0):=by
      simp [q59,ksz]; omega
     have hget:(rwA i A' 0)[0]?=some (.ag [uv (A' 0 0).1,uv (A' 0 0).2]):=by
      unfold rwA;rw [zB,q3L (by omega)]; rfl
     have hsto:=λ(x:PV) (K:Bk->Prop)=>qb2 (T:=58) (m:=2) (j:=1) (x:=x) (K:=K) hget (by simp);have fin3:=fin ⟨i,w,stA A' 9218868437227405312,R,y,Xs⟩ rfl rfl rfl kf0;clear fin hK0 cA;refine wk1 (x6 g t0 t1 ix1 ix2 (x2 hget hsto)) ?_;refine fin3 _ _ (LeM [] rfl rfl ?_)
     try refine Zz ?_
     exact ⟨qry hs2 rfl rfl rfl rfl,q5I (T:=58) rfl q1X rfl (by rw [zD,xl])⟩
 ·refine q0u (LeM [] rfl rfl (xs:=[(0,pF raw),(2,iv wd),(3,bv wild),(4,iv sp),(11,.pt 11 0 0),(12,pF b),(13,pIm N A'),(14,pP R)]) (kv:=[]) (bs:=[(11,⟨27,some 5,[.ag [iv N,iv N,pI ms,pI mi,pF mv]],false⟩)]) (kb:=[]) ?_) ?_
  ·try refine Zz ?_
   exact qyj (λi hi=>q0X hi) (λi hi=>hp11 hi) Oq
  ·clear cBx cM cPk;refine wk ?_;refine ql7 λK hK=>?_;refine Zz ?_;refine jmF cPr ?_ ?_
   ·exact Ow
   try refine Zz ?_
   refine hK _ _ ?_; clear hK K;refine q0u (LeM [] rfl rfl (xs:=[(2,iv wd),(4,iv sp),(11,.pt 11 0 0),(13,pIm N A'),(14,pP R),(15,.pt 15 0 0)]) (kv:=[]) (bs:=[(11,⟨27,some 5,[.ag [iv N,iv N,pI ms,pI mi,pF mv]],false⟩),(15,⟨37,some 4,[.ag [iv N,iv N,pF w,pF y]],false⟩)]) (kb:=[]) ?_) ?_
   ·try refine Zz ?_
    exact q5I (T:=33) rfl clU rfl (by rw [zD,hwl])
   clear cPr;refine wk ?_;refine q0A (λi=>i<=N) [2,4,11,13,14,15] [11,15] Lk Lk (λi:Nat=>[(17,iv i),(16,.ow 1004 (some 2) 0 i)]) (λi=>[(1004,⟨58,some 2,(X i).map λp=>.ag [uv p.1,uv p.2],false⟩)]) (λi=>N-i) 0 (zE _) ?_ ?_
   ·rw [hX0];refine LeM [(1004,none)] rfl rfl ?_;refine Zz ?_
    rfl
   ·intro i hi;have xl:=hXl i
    by_cases hlt:i < N
    ·have q:(i:Int) < N:=by omega
     have c1:=cS i;have c2:=cD i;have xs:=hXs i;have xe:=hXe i;have gy:=hyg i hlt;generalize y.getD i 0=yi at *;generalize q9p 0 yi W=u1 at *;generalize q6g 0 yi W=u2 at *;rw [xe] at xs;clear hXn hXe cS cD hXs;have hng:IntKind.i64.wrap (0-(m:Int)) = -(m:Int):=by rw [i64_in (by omega) (by omega)]; omega
     refine wk1 (x4 q gy xl hng) ?_;refine ⟨i+1,by omega,by omega,?_⟩;rw [xs];refine LeM [(1004,some 72)] rfl rfl ?_;refine Zz ?_;exact ⟨by omega,q0B (by rw [zA]; rfl) q1X⟩
    ·obtain rfl:i=N:=by omega
     have q:¬ (i:Int) < i:=by omega
     clear cS cD hXs hXe cSc;have xn:=hXn i;clear hXn hXl hX0;generalize X i=Xs at *;refine wk1 (x2 q xl) ?_;refine qiR λK0 hK0=>?_;have fin:∀ K':KwT,K'.n=i->K'.v=w->K'.z=y->KwF K'->∀ (s0:Nat->PV) (h:Hp),Le (λ_=>False) s0 h (stM [(13,pIm i K'.a),(14,pP K'.b),(15,.pt 15 0 0),(16,pP K'.x)] []) (hpM [(15,⟨37,some 4,[.ag [iv i,iv i,pF w,pF y]],false⟩)] [])->K0 s0 h:=by
      clear hAp;intro K' e1 e2 e3 kf s0 h hl;refine hK0 _ _ (q0u hl ?_); clear hK0 K0 hl;have k1:=qcZ kf;have k2:=qbL kf;rw [e1,e2,e3] at k1 k2;have k3:=q9B (qgI (K:=K') Oq);generalize kwA K'=q at *;obtain ⟨q1,q2,q3⟩:=q;dsimp only at k1 k2 k3;unfold pIm at *;generalize (List.range i).map (λj=>pP (q1L i K'.a j))=M' at *;unfold pPn at *;generalize hb':K'.b=b' at *;generalize hx':K'.x=x' at *;clear hb' hx' kf e1 e2 e3;have b1:∀ x:Int,(x == x)=true:=λx=>by simp
      have b2:∀ x:Bool,(x == x)=true:=λx=>by simp
      exact wk1 (x2 b1 b2) trivial
     have kf0:KwF ⟨i,w,A',R,y,Xs⟩:=⟨by dsimp only; omega,hwl,hwf,hyl,hyf,xl,xn,by dsimp only; omega,hRn,qbx hAp⟩;clear hK0 cA
     by_cases g:(i:Int) > 0
     rotate_left
     ·refine wk1 (x2 g xl) ?_;refine fin ⟨i,w,A',R,y,Xs⟩ rfl rfl rfl kf0 _ _ (LeM [] rfl rfl ?_)
      try refine Zz ?_
      exact q5I (T:=58) rfl q1X rfl (by rw [zD,xl])
     by_cases s0:sv=0
     ·have t0:((sv:Int) == 0)=true:=by simp; omega
      obtain ⟨x0,X1,rfl⟩:∃ x0 X1,Xs=x0 :: X1:=by
       cases Xs with
       | nil=>simp at xl; omega
       | cons a l=>exact ⟨a,l,rfl⟩
      have ix:q59 (some 2) (.ow 1004 (some 2) 0 i) (PV.vl (.int .i64 0))=some (.pt 1004 0 0):=by
       simp [q59,ksz]; omega
      have kf1:KwF ⟨i,w,A',R,y,(x0.2,x0.1) :: X1⟩:=⟨by dsimp only; omega,hwl,hwf,hyl,hyf,xl,λp hp=>by
       rcases List.mem_cons.1 hp with rfl | hp
       ·exact (xn x0 List.mem_cons_self).symm
       ·exact xn p (List.mem_cons_of_mem _ hp),by dsimp only; omega,hRn,qbx hAp⟩
      clear kf0;obtain ⟨XS,hXS⟩:∃ XS,XS=(x0 :: X1).map λp=>PV.ag [uv p.1,uv p.2]:=⟨_,rfl⟩;have hget:XS[0]?=some (.ag [uv x0.1,uv x0.2]):=by rw [hXS]; rfl
      have hset:XS.set 0 (.ag [uv x0.2,uv x0.1])=((x0.2,x0.1) :: X1).map λp=>PV.ag [uv p.1,uv p.2]:=by rw [hXS]; rfl
      have hlen:XS.length=i:=by rw [hXS,zD]; exact xl
      rw [<- hXS];clear hXS;have hst1:=λ(x:PV) (K:Bk->Prop)=>qb2 (T:=58) (m:=2) (j:=0) (x:=x) (K:=K) hget (by simp);refine wk1 (x2 g t0) ?_;have hg2:(XS.set 0 (PV.ag [uv x0.2,uv x0.2]))[0]?=some (.ag [uv x0.2,uv x0.2]):=tQ Oq;have hst2:=λ(x:PV) (K:Bk->Prop)=>qb2 (T:=58) (m:=2) (j:=1) (x:=x) (K:=K) hg2 (by simp);have goal:∀ (s0:Nat->PV) (h:Hp),Le (λ_=>False) s0 h (stM [(13,pIm i A'),(14,pP R),(15,.pt 15 0 0),(16,.ow 1004 (some 2) 0 i)] []) (hpM [(15,⟨37,some 4,[.ag [iv i,iv i,pF w,pF y]],false⟩),(1004,⟨58,some 2,XS.set 0 (.ag [uv x0.2,uv x0.1]),false⟩)] [])->K0 s0 h:=λs0 h hl=>by
       refine fin ⟨i,w,A',R,y,(x0.2,x0.1) :: X1⟩ rfl rfl rfl kf1 _ _ (qyf hl (LeM [] rfl rfl ?_))
       try refine Zz ?_
       have e:pP ((x0.2,x0.1) :: X1)=.sl (some 2) (XS.set 0 (.ag [uv x0.2,uv x0.1])):=by rw [hset]
       rw [e];exact q5I (T:=58) rfl (by rw [hset]; exact q1X) rfl (by rw [List.length_set]; exact hlen)
      have hcl:ClL (XS.set 0 (.ag [uv x0.2,uv x0.1])):=by rw [hset]; exact q1X
      refine q9o q4o (.one 0 (.one 1 (.one 2 (.one 3 (.one 4 (.one 6 (.one 7 (.one 8 (.alt (.one 5 (.one 9 (.one 10 (.one 11 (.one 12 (.one 13 (.one 14 (.one 15 .fin)))))))) (.one 9 (.one 5 (.one 10 (.one 11 (.one 12 (.one 13 (.one 14 (.one 15 .fin))))))))))))))))) (by kernel_rfl) λK9 hK9=>?_;refine Zz4 ix hget hst1 hst2 ?_
      repeat' (with_reducible apply And.intro)
      all_goals
       refine hK9 _ _ (goal _ _ (LeM [] rfl rfl ?_))
       try refine Zz ?_
       exact q0B (by rw [List.set_set]) hcl
     have t0:((sv:Int) == 0)=false:=by simp; omega
     by_cases s1:sv=1
     ·exact absurd ⟨s1,by omega⟩ hsp
     have t1:((sv:Int) == 1)=false:=by simp; omega
     by_cases s2:sv=2
     ·have t2:((sv:Int) == 2)=true:=by simp; omega
      have w1:IntKind.i64.wrap ((i:Int)-1)=((i-1:Nat):Int):=by rw [i64_in (by omega) (by omega)]; omega
      have es:slP (some 2) none (some (iv ((i-1:Nat):Int))) (.sl (some 2) (R.map λp=>.ag [uv p.1,uv p.2]))=some (.sl (some 2) ((R.take (i-1)).map λp=>.ag [uv p.1,uv p.2])):=by
       simp [slP,q9v,ksz,List.map_take,hRl]
      have hRm:(R.map λp=>PV.ag [uv p.1,uv p.2]).length=i:=by rw [zD,hRl]
      have hRt:(R.take (i-1)).length=i-1:=by rw [List.length_take]; omega
      have kf2:KwF ⟨i,w,A',R.take (i-1),y,Xs⟩:=⟨by dsimp only; omega,hwl,hwf,hyl,hyf,xl,xn,by dsimp only; omega,λp hp=>hRn p (List.mem_of_mem_take hp),qbx hAp⟩;refine wk1 (x6 g t0 t1 t2 hRl (x3 hRm w1 es)) ?_;refine fin ⟨i,w,A',R.take (i-1),y,Xs⟩ rfl rfl rfl kf2 _ _ (LeM [] rfl rfl ?_)
      try refine Zz ?_
      exact q5I (T:=58) rfl q1X rfl (by rw [zD,xl])
     ·have t2:((sv:Int) == 2)=false:=by simp; omega
      refine wk1 (x4 g t0 t1 t2) ?_;refine fin ⟨i,w,A',R,y,Xs⟩ rfl rfl rfl kf0 _ _ (LeM [] rfl rfl ?_)
      try refine Zz ?_
      exact q5I (T:=58) rfl q1X rfl (by rw [zD,xl])
end
end Go.Proofs.YtpbaikoblfcmdaaGreatDoor
