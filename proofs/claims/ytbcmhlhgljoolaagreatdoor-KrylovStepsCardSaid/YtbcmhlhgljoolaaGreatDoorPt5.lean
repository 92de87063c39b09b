/- KrylovSteps. 5/7. -/
import Derived.Test.YtbcmhlhgljoolaaGreatDoorPt4
set_option linter.unusedSimpArgs false
set_option linter.unusedVariables false
set_option maxRecDepth 20000
set_option maxHeartbeats 2000000
set_option linter.defProp false
namespace Go.Proofs.YtbcmhlhgljoolaaGreatDoor
open Go Go.E Go.Sp
def qap (e:Int × Int × Nat):PV:=.ag [iv e.1,iv e.2.1,uv e.2.2]
def pE (l:List (Int × Int × Nat)):PV:=.sl (some 3) (l.map qap)
def qcu (ix:List Int) (vl:List Nat) (j a b:Nat):List (Int × Int × Nat):=(List.range' a (b-a)).map fun k=>(ix.getD k 0,(j:Int),vl.getD k 0)
def qc7 (st ix:List Int) (vl:List Nat) (n:Nat):List (Int × Int × Nat):=(List.range n).flatMap fun j=>qcu ix vl j (st.getD j 0).toNat (st.getD (j+1) 0).toNat
open Classical in
noncomputable def entM (rows cols:Int) (st ix:List Int) (vl:List Nat):List (Int × Int × Nat):=if q3H rows cols st ix vl=0 then qc7 st ix vl cols.toNat else []
def qt3 {ix:List Int} {vl:List Nat} {j a k:Nat} {v:Int} {u:Nat} (h:a≤k) (hv:ix[k]?=some v) (hu:vl[k]?=some u):qcu ix vl j a (k+1)=qcu ix vl j a k ++ [(v,(j:Int),u)]:=by
 unfold qcu;rw [show k+1-a=(k-a)+1 by omega,List.range'_1_concat,List.map_append,show a+(k-a)=k by omega];simp [List.getD_eq_getElem?_getD,hv,hu]
def qt4 {ix:List Int} {vl:List Nat} {j a:Nat}:qcu ix vl j a a=[]:=by simp [qcu]
def qbS {ix:List Int} {vl:List Nat} {j a b:Nat}:(qcu ix vl j a b).length=b-a:=by simp [qcu]
def qlQ {st ix:List Int} {vl:List Nat} {j a b:Nat} (ha:(st.getD j 0).toNat=a) (hb:(st.getD (j+1) 0).toNat=b):qc7 st ix vl (j+1)=qc7 st ix vl j ++ qcu ix vl j a b:=by
 simp only [qc7,List.range_succ,List.flatMap_append,List.flatMap_cons,List.flatMap_nil,List.append_nil,ha,hb]
def q5f {n:Nat} {st ix:List Int} {vl:List Nat} (hP:MPt n st ix vl):∀ j,j≤n→(qc7 st ix vl j).length=(st.getD j 0).toNat
 | 0,_=>by simp [qc7,List.getD_eq_getElem?_getD,hP.f]
 | j+1,hj=>by
  obtain ⟨a,b,hx,hy,hab,hb,ea,eb⟩:=hP.col (show j < n by omega);rw [qlQ ea eb,List.length_append,q5f hP j (by omega),qbS,ea,eb]; omega
def clE {l:List (Int × Int × Nat)}:ClL (l.map qap):=fun x hx=>by
 obtain ⟨e,_,rfl⟩:=List.mem_map.1 hx;intro y hy;simp only [List.mem_cons,List.not_mem_nil,or_false] at hy
 rcases hy with rfl | rfl | rfl <;> trivial
def qgu {τ:Nat→Option Nat} {h h':Hp} {l m:List PV} {k:List (Int × Int × Nat)} (he:l=m) (hm:m=k.map qap):LeL τ h h' l m:=q1A he (by rw [hm]; exact clE)
def qfq {rows cols:Int} {st ix:List Int} {vl:List Nat}:(q3H rows cols st ix vl=0→entM rows cols st ix vl=qc7 st ix vl cols.toNat)∧(¬ q3H rows cols st ix vl=0→entM rows cols st ix vl=[]):=⟨fun h=>if_pos h,fun h=>if_neg h⟩
def q96 {rows cols:Int} {st ix:List Int} {vl:List Nat} (hl:st.length≤9223372036854775807) (hli:ix.length≤9223372036854775807) (hlv:vl.length≤9223372036854775807) (hu:∀ x ∈ vl,x < 18446744073709551616):ACt 227 [q3G rows cols st ix vl] (pE (entM rows cols st ix vl)):=by
 have hA:=q56 (rows:=rows) (cols:=cols) hl hli hlv hu;obtain ⟨c1,c0⟩:=qfq (rows:=rows) (cols:=cols) (st:=st) (ix:=ix) (vl:=vl);generalize entM rows cols st ix vl=res at *;unfold q3G at *;unfold pE;refine ac0 Tryz.func227 Tryz.ntmps227 [.tmp 2] ?_;refine wk ?_
 by_cases hz:q3H rows cols st ix vl=0
 case neg =>
  have e1:(q3H rows cols st ix vl != 0)=true:=by simpa using hz
  exact wk1 (x2 e1 (c0 hz)) trivial
 have e1:(q3H rows cols st ix vl != 0)=false:=by simpa using hz
 refine wk1 e1 ?_;have d1:=c1 hz;obtain ⟨hz1,hP,hX,hfn⟩:=chk0 hz;have hc:=hz1.c1;have hi:=hz1.i1;obtain ⟨n,rfl⟩:∃ n:Nat,cols=n:=⟨cols.toNat,by have:=hz1.c0; omega⟩;rw [Int.toNat_natCast] at d1;subst d1;refine wk ?_;refine q0L (fun j=>j≤n) [1] [1] Lk Lk (fun j:Nat=>[(4,iv j),(3,.ow 1001 (some 3) 0 (st.getD j 0).toNat)]) (fun j=>[(1001,⟨224,some 3,(qc7 st ix vl j).map qap,false⟩)]) (fun j=>n-j) 0 (Nat.zero_le _) ?_ ?_
 ·refine LeM [(1001,none)] rfl rfl ?_;refine Zz ?_;exact ⟨⟨rfl,by simp [List.getD_eq_getElem?_getD,hP.f]⟩,rfl⟩
 ·intro j hj
  by_cases hlt:j < n
  ·have hlt':(j:Int) < n:=by omega
   obtain ⟨a,b,hx,hy,hab,hb,ea,eb⟩:=hP.col hlt;have hUl:=q5f hP j Oq;rw [ea] at hUl;rw [ea];have wi:IntKind.i64.wrap ((j:Int)+1)=((j+1:Nat):Int):=by rw [i64_in (by omega) (by omega)]; omega
   refine wk1 (x2 hlt' hx) ?_;refine q0L (fun k=>a≤k∧k≤b) [1,4] [1] Lk Lk (fun k:Nat=>[(5,iv k),(3,.ow 1002 (some 3) 0 k)]) (fun k=>[(1002,⟨224,some 3,(qc7 st ix vl j ++ qcu ix vl j a k).map qap,false⟩)]) (fun k=>b-k) a ⟨Nat.le_refl _,hab⟩ ?_ ?_
   ·refine LeM [(1002,some 1001)] rfl rfl ?_;simp -implicitDefEqProofs (disch:=omega) only [go_sem,Nat.reduceEqDiff,Nat.reduceAdd,↓reduceIte,qt4,List.append_nil];exact qgu rfl rfl
   ·rintro k ⟨hk,hkb⟩;refine wk ?_
    by_cases hltk:k < b
    ·have hltk':(k:Int) < b:=by omega
     refine wk1 (x3 wi hy hltk') ?_;obtain ⟨v,hv⟩:∃ v,ix[k]?=some v:=⟨_,List.getElem?_eq_getElem Oq⟩;obtain ⟨u,hu'⟩:∃ u,vl[k]?=some u:=⟨_,List.getElem?_eq_getElem (by have:=hP.v; omega)⟩;have hlen:(qc7 st ix vl j ++ qcu ix vl j a k).length=k:=by rw [List.length_append,hUl,qbS]; omega
     refine wk1 (x3 hv hu' hlen) ?_;refine ⟨k+1,⟨by omega,by omega⟩,by omega,?_⟩;rw [qt3 hk hv hu',← List.append_assoc];refine LeM [(1002,some 44)] rfl rfl ?_;refine Zz ?_;exact ⟨by omega,qgu (by simp [qap]) rfl⟩
    ·have hltk':¬ (k:Int) < b:=by omega
     refine wk1 (x3 wi hy hltk') ?_;obtain rfl:k=b:=by omega
     refine ⟨j+1,by omega,by omega,?_⟩;rw [qlQ ea eb,eb];refine LeM [(1001,some 1002)] rfl rfl ?_;refine Zz ?_;exact qgu rfl rfl
  ·have hlt':¬ (j:Int) < n:=by omega
   obtain rfl:j=n:=by omega
   refine q5V (LeM [] rfl rfl (xs:=[(1,.pt 1 0 0),(4,iv j),(3,pE (qc7 st ix vl j))]) (kv:=[]) (bs:=[(1,⟨52,some 5,[.ag [iv rows,iv j,pI st,pI ix,pF vl]],false⟩)]) (kb:=[]) ?_) ?_
   ·unfold pE
    try refine Zz ?_
    refine q3m (T:=224) rfl clE (fun i hi=>?_) ?_
    ·have hi:some i=some 1001:=hi;cases hi
     rfl
    ·rw [List.drop_zero]; exact List.take_of_length_le (by rw [List.length_map,q5f hP j (by omega)]; exact Nat.le_refl _)
   unfold pE;exact wk1 hlt' trivial
def tC (f:Nat→Nat→Option Nat) (j:Nat) (p:List Int × List Nat):Nat→List Int × List Nat
 | 0=>p
 | i+1=>match f j i with
  | some x=>((tC f j p i).1 ++ [(i:Int)],(tC f j p i).2 ++ [x])
  | none=>tC f j p i
def tM (f:Nat→Nat→Option Nat) (R:Nat):Nat→List Int × List Int × List Nat
 | 0=>([0],[],[])
 | j+1=>((tM f R j).1 ++ [((tC f j (tM f R j).2 R).1.length:Int)],tC f j (tM f R j).2 R)
def pT (R C:Nat) (f:Nat→Nat→Option Nat):PV:=q3G R C (tM f R C).1 (tM f R C).2.1 (tM f R C).2.2
def qa7 {f:Nat→Nat→Option Nat} {j:Nat} {p:List Int × List Nat} (hp:p.1.length=p.2.length):∀ i,(tC f j p i).1.length=(tC f j p i).2.length∧p.1.length≤(tC f j p i).1.length∧(tC f j p i).1.length≤p.1.length+i
 | 0=>⟨hp,Nat.le_refl _,Nat.le_refl _⟩
 | i+1=>by
  have:=qa7 (f:=f) (j:=j) hp i;simp only [tC]
  split
  ·simp only [List.length_append,List.length_cons,List.length_nil]; omega
  ·omega
def q1y {f:Nat→Nat→Option Nat} {R:Nat}:∀ j,(tM f R j).1.length=j+1∧(tM f R j).2.1.length=(tM f R j).2.2.length∧(tM f R j).2.1.length≤j*R
 | 0=>⟨rfl,rfl,by simp [tM]⟩
 | j+1=>by
  have h1:=q1y (f:=f) (R:=R) j;have h2:=qa7 (f:=f) (j:=j) h1.2.1 R;simp only [tM];refine ⟨by simp [h1.1],h2.1,?_⟩;rw [Nat.succ_mul]; omega
def pkL (l:List (Int × Int × Nat)) (R C:Nat):Nat→List Int
 | 0=>List.replicate (R*C) 0
 | i+1=>match l[i]? with
  | some e=>(pkL l R C i).set (e.2.1.toNat*R+e.1.toNat) ((i:Int)+1)
  | none=>pkL l R C i
def q98 {l:List (Int × Int × Nat)} {R C:Nat}:∀ i,(pkL l R C i).length=R*C
 | 0=>by simp [pkL]
 | i+1=>by
  have:=q98 (l:=l) (R:=R) (C:=C) i;simp only [pkL]
  split <;> simp [this]
def qe0 {l:List (Int × Int × Nat)} {R C:Nat}:∀ i,∀ x ∈ pkL l R C i,0≤x∧x≤i
 | 0,x,hx=>by simp [pkL] at hx; omega
 | i+1,x,hx=>by
  simp only [pkL] at hx
  split at hx
  ·rcases List.mem_or_eq_of_mem_set hx with hx | hx
   ·have:=qe0 i x hx; omega
   ·omega
  ·have:=qe0 i x hx; omega
def pkF (l:List (Int × Int × Nat)) (R C:Nat) (j i:Nat):Option Nat:=match (pkL l R C l.length)[j*R+i]? with | some k=>if 0 < k then (l[(k-1).toNat]?).map (·.2.2) else none | none=>none
def qe9 {j C i R:Nat} (hj:j < C) (hi:i < R):j*R+i < R*C:=by
 have:(j+1)*R≤C*R:=Nat.mul_le_mul_right _ hj;rw [Nat.succ_mul,Nat.mul_comm C R] at this;omega
def qiB {R C:Nat} {l:List (Int × Int × Nat)} (hR:R≤1000) (hC:C≤1000) (hl:l.length≤1000000) (hin:∀ e ∈ l,(0≤e.1∧e.1 < R)∧0≤e.2.1∧e.2.1 < C) :
  ACt 228 [iv R,iv C,pE l] (pT R C (pkF l R C)):=by
 have hRC:R*C≤1000*1000:=Nat.mul_le_mul hR hC;have wRC:IntKind.i64.wrap ((R:Int)*C)=((R*C:Nat):Int):=by
  rw [← Int.natCast_mul]; exact i64_in (by omega) (by omega)
 unfold pE;refine ac0 Tryz.func228 Tryz.ntmps228 [.cell 6 52] ?_;refine wk1 wRC ?_;refine q4z [0,1,2,6,7,8,9] Lk ?_;refine wk ?_;refine q0L (fun i=>i≤l.length) [0,1,2,6,7,8] [6,7,15] Lk Lk (fun i:Nat=>[(9,iv i)]) (fun i=>[(20,⟨3,none,(pkL l R C i).map fun z=>iv z,false⟩)]) (fun i=>l.length-i) 0 (Nat.zero_le _) ?_ ?_
 ·refine LeM [] rfl rfl ?_;refine Zz ?_;exact ⟨rfl,rfl⟩
 ·intro i hi;refine wk ?_
  by_cases hlt:i < l.length
  ·have hlt':(i:Int) < l.length:=by omega
   refine wk1 hlt' ?_;obtain ⟨⟨er,ec,ev⟩,he⟩:∃ e,l[i]?=some e:=⟨_,List.getElem?_eq_getElem hlt⟩;have hr:=hin _ (List.mem_of_getElem? he);simp only at hr;obtain ⟨r,rfl⟩:∃ r:Nat,er=r:=⟨er.toNat,by omega⟩;obtain ⟨c,rfl⟩:∃ c:Nat,ec=c:=⟨ec.toNat,by omega⟩;have hlt2:=qe9 (show c < C by omega) (show r < R by omega);have hln:=q98 (l:=l) (R:=R) (C:=C) i;have w1:IntKind.i64.wrap ((c:Int)*R)=((c*R:Nat):Int):=by
    rw [← Int.natCast_mul]; exact i64_in (by omega) (by omega)
   have w2:IntKind.i64.wrap (((c*R:Nat):Int)+r)=((c*R+r:Nat):Int):=by
    rw [← Int.natCast_add]; exact i64_in (by omega) (by omega)
   have w3:IntKind.i64.wrap ((i:Int)+1)=(i:Int)+1:=i64_in Oq Oq;refine wk1 (x6 he @qap.eq_1 w1 w2 w3 hln) ?_;refine ⟨i+1,by omega,by omega,?_⟩;have ek:pkL l R C (i+1)=(pkL l R C i).set (c*R+r) ((i:Int)+1):=by simp only [pkL,he,Int.toNat_natCast]
   rw [ek];refine LeM [] rfl rfl ?_;refine Zz ?_;omega
  ·have hlt':¬ (i:Int) < l.length:=by omega
   obtain rfl:i=l.length:=by omega
   refine wk1 hlt' ?_;have hln:=q98 (l:=l) (R:=R) (C:=C) l.length;have hub:=qe0 (l:=l) (R:=R) (C:=C) l.length;have hf:∀ j i,pkF l R C j i=match (pkL l R C l.length)[j*R+i]? with | some k=>if 0 < k then (l[(k-1).toNat]?).map (·.2.2) else none | none=>none:=fun _ _=>rfl
   generalize pkF l R C=F at *;generalize pkL l R C l.length=cs at *;unfold pT q3G;refine wk ?_;refine q0L (fun j=>j≤C) [0,1,2,6,7,8] [6,20] Lk Lk (fun j:Nat=>[(10,iv j)]) (fun j=>[(7,⟨52,some 5,[.ag [iv R,iv C,.ow 1001 none 0 (tM F R j).1.length,.ow 1002 none 0 (tM F R j).2.1.length,.ow 1003 none 0 (tM F R j).2.2.length]],false⟩),(1001,⟨3,none,(tM F R j).1.map fun z=>iv z,false⟩),(1002,⟨3,none,(tM F R j).2.1.map fun z=>iv z,false⟩),(1003,⟨30,none,(tM F R j).2.2.map fun z:Nat=>uv z,false⟩)]) (fun j=>C-j) 0 (Nat.zero_le _) ?_ ?_
   ·refine LeM [(1001,some 15),(1002,none),(1003,none)] rfl rfl ?_;refine Zz ?_;exact ⟨rfl,⟨rfl,rfl,rfl⟩,rfl,rfl,rfl⟩
   ·intro j hj;have hg:=q1y (f:=F) (R:=R) j;have hjR:j*R≤1000*1000:=Nat.mul_le_mul Oq hR;refine wk ?_
    by_cases hlt:j < C
    ·have hlt':(j:Int) < C:=by omega
     refine wk1 hlt' ?_;refine q0L (fun i=>i≤R) [0,1,2,6,7,8,10] [6,20,1001] Lk Lk (fun i:Nat=>[(11,iv i)]) (fun i=>[(7,⟨52,some 5,[.ag [iv R,iv C,.ow 1001 none 0 (tM F R j).1.length,.ow 1002 none 0 (tC F j (tM F R j).2 i).1.length,.ow 1003 none 0 (tC F j (tM F R j).2 i).2.length]],false⟩),(1002,⟨3,none,(tC F j (tM F R j).2 i).1.map fun z=>iv z,false⟩),(1003,⟨30,none,(tC F j (tM F R j).2 i).2.map fun z:Nat=>uv z,false⟩)]) (fun i=>R-i) 0 (Nat.zero_le _) ?_ ?_
     ·refine LeM [] rfl rfl ?_;refine Zz ?_;exact ⟨rfl,⟨rfl,rfl⟩,rfl,rfl⟩
     ·intro i hi;have hq:=qa7 (f:=F) (j:=j) hg.2.1 i;refine wk ?_
      by_cases hlt2:i < R
      ·have hlt2':(i:Int) < R:=by omega
       refine wk1 hlt2' ?_;have hcl:=qe9 (show j < C by omega) hlt2;have w1:IntKind.i64.wrap ((j:Int)*R)=((j*R:Nat):Int):=by
        rw [← Int.natCast_mul]; exact i64_in (by omega) (by omega)
       have w2:IntKind.i64.wrap (((j*R:Nat):Int)+i)=((j*R+i:Nat):Int):=by
        rw [← Int.natCast_add]; exact i64_in (by omega) (by omega)
       obtain ⟨x,hx⟩:∃ x,cs[j*R+i]?=some x:=⟨_,List.getElem?_eq_getElem Oq⟩;have hxb:=hub x (List.mem_of_getElem? hx);have hfx:=hf j i;rw [hx] at hfx;simp only at hfx;refine wk1 (x4 w1 w2 hx hln) ?_
       by_cases hx0:0 < x
       ·rw [if_pos hx0] at hfx;obtain ⟨k,rfl⟩:∃ k:Nat,x=((k+1:Nat):Int):=⟨(x-1).toNat,by omega⟩;obtain ⟨⟨er,ec,ev⟩,he⟩:∃ e,l[k]?=some e:=⟨_,List.getElem?_eq_getElem Oq⟩;rw [show (((k+1:Nat):Int)-1).toNat=k by omega,he] at hfx;have w3:IntKind.i64.wrap (((k+1:Nat):Int)-1)=(k:Int):=by rw [i64_in (by omega) (by omega)]; omega
        have e0:decide ((0:Int) < ((k+1:Nat):Int))=true:=decide_eq_true hx0;refine wk1 (x4 hx0 w3 he @qap.eq_1) ?_;have eg:tC F j (tM F R j).2 (i+1)=((tC F j (tM F R j).2 i).1 ++ [(i:Int)],(tC F j (tM F R j).2 i).2 ++ [ev]):=by
         simp only [tC,hfx,Option.map_some]
        refine ⟨i+1,by omega,by omega,?_⟩;rw [eg];refine LeM [(1002,some 68),(1003,some 79)] rfl rfl ?_;refine Zz ?_;omega
       ·rw [if_neg hx0] at hfx;refine wk1 hx0 ?_;have eg:tC F j (tM F R j).2 (i+1)=tC F j (tM F R j).2 i:=by simp only [tC,hfx]
        refine ⟨i+1,by omega,by omega,?_⟩;rw [eg];refine LeM [] rfl rfl ?_;refine Zz ?_;omega
      ·have hlt2':¬ (i:Int) < R:=by omega
       obtain rfl:i=R:=by omega
       refine wk1 hlt2' ?_;refine ⟨j+1,by omega,by omega,?_⟩;refine LeM [(1001,some 87)] rfl rfl ?_;refine Zz ?_;exact ⟨by omega,⟨by simp [tM],rfl,rfl⟩,rfl,rfl,rfl⟩
    ·have hlt':¬ (j:Int) < C:=by omega
     obtain rfl:j=C:=by omega
     exact wk1 hlt' trivial
def q5E {α β:Type} {f g:α→List β}:∀ {l:List α},(∀ x ∈ l,f x=g x)→l.flatMap f=l.flatMap g
 | [],_=>rfl
 | a :: l,h=>by rw [List.flatMap_cons,List.flatMap_cons,h a List.mem_cons_self,q5E fun x hx=>h x (List.mem_cons_of_mem _ hx)]
section
variable {f:Nat→Nat→Option Nat} {R C:Nat}
def tZ (f:Nat→Nat→Option Nat) (j i:Nat):List (Nat × Nat):=(List.range i).filterMap fun k=>(f j k).map fun x=>(k,x)
def qrI {j i:Nat}:tZ f j (i+1)=tZ f j i ++ (match f j i with | some x=>[(i,x)] | none=>[]):=by
 unfold tZ;rw [List.range_succ,List.filterMap_append]
 congr 1
 cases h:f j i <;> simp [h]
def q4I {j i k x:Nat}:(k,x) ∈ tZ f j i ↔ k < i∧f j k=some x:=by
 unfold tZ;rw [List.mem_filterMap]
 constructor
 ·rintro ⟨a,ha,h⟩;obtain ⟨y,hy,h2⟩:=Option.map_eq_some_iff.1 h;cases h2;exact ⟨List.mem_range.1 ha,hy⟩
 ·rintro ⟨h1,h2⟩;exact ⟨k,List.mem_range.2 h1,by rw [h2]; rfl⟩
def qkU {j:Nat}:∀ i,(tZ f j i).Pairwise fun a b=>a.1 < b.1
 | 0=>by simp [tZ]
 | i+1=>by
  rw [qrI,List.pairwise_append];refine ⟨qkU i,?_,fun a ha b hb=>?_⟩
  ·split <;> simp
  ·have h1:=(q4I.1 (show (a.1,a.2) ∈ tZ f j i from ha)).1
   split at hb
   ·simp at hb; subst hb; exact h1
   ·cases hb
def q9V {j:Nat} {p:List Int × List Nat}:∀ i,tC f j p i=(p.1 ++ (tZ f j i).map (fun q=>(q.1:Int)),p.2 ++ (tZ f j i).map (·.2))
 | 0=>by simp [tC,tZ]
 | i+1=>by
  rw [tC,qrI,q9V i];cases h:f j i <;> simp
def tO (f:Nat→Nat→Option Nat) (R j:Nat):Nat:=(tM f R j).2.1.length
def qhd {j:Nat}:tO f R (j+1)=tO f R j+(tZ f j R).length:=by simp [tO,tM,q9V]
def tM_st {j:Nat}:(tM f R j).1[j]?=some (tO f R j:Int):=by
 cases j with
 | zero=>simp [tM,tO]
 | succ j =>
  have:=(q1y (f:=f) (R:=R) j).1;simp only [tM,tO];rw [List.getElem?_append_right (by omega),this];simp
def qdX {j:Nat}:∀ d,∃ a b c,(tM f R (j+d)).1=(tM f R j).1 ++ a∧(tM f R (j+d)).2.1=(tM f R j).2.1 ++ b∧(tM f R (j+d)).2.2=(tM f R j).2.2 ++ c
 | 0=>⟨[],[],[],by simp,by simp,by simp⟩
 | d+1=>by
  obtain ⟨a,b,c,h1,h2,h3⟩:=qdX (j:=j) d;have e1:(tM f R (j+(d+1))).1=(tM f R (j+d)).1 ++ [((tC f (j+d) (tM f R (j+d)).2 R).1.length:Int)]:=rfl;have e2:(tM f R (j+(d+1))).2=tC f (j+d) (tM f R (j+d)).2 R:=rfl;rw [q9V] at e2;rw [e1,e2,h1,h2,h3];simp only [List.append_assoc];exact ⟨_,_,_,rfl,rfl,rfl⟩
def q29 {j:Nat} (hj:j≤C):(tM f R C).1[j]?=some (tO f R j:Int):=by
 obtain ⟨a,b,c,h1,_,_⟩:=qdX (f:=f) (R:=R) (j:=j) (C-j);rw [show j+(C-j)=C by omega] at h1;rw [h1,List.getElem?_append_left (by rw [(q1y j).1]; omega)];exact tM_st
def qrK {j:Nat} (hj:j < C):∃ b c,(tM f R C).2.1=(tM f R j).2.1 ++ (tZ f j R).map (fun q=>(q.1:Int)) ++ b∧(tM f R C).2.2=(tM f R j).2.2 ++ (tZ f j R).map (·.2) ++ c:=by
 obtain ⟨a,b,c,_,h2,h3⟩:=qdX (f:=f) (R:=R) (j:=j+1) (C-(j+1));rw [show j+1+(C-(j+1))=C by omega] at h2 h3;refine ⟨b,c,?_,?_⟩
 ·rw [h2]; simp only [tM,q9V]
 ·rw [h3]; simp only [tM,q9V]
def q9T {j k:Nat} (hj:j < C) (h1:tO f R j≤k) (h2:k < tO f R (j+1)):∃ q,(tZ f j R)[k-tO f R j]?=some q∧(tM f R C).2.1[k]?=some (q.1:Int)∧(tM f R C).2.2[k]?=some q.2:=by
 obtain ⟨b,c,e1,e2⟩:=qrK (f:=f) (R:=R) hj;rw [qhd] at h2;have hl:=(q1y (f:=f) (R:=R) j).2.1;have ho:tO f R j=(tM f R j).2.1.length:=rfl;obtain ⟨q,hq⟩:∃ q,(tZ f j R)[k-tO f R j]?=some q:=⟨_,List.getElem?_eq_getElem Oq⟩;refine ⟨q,hq,?_,?_⟩
 ·rw [e1,List.getElem?_append_left (by simp; omega),List.getElem?_append_right (by omega),List.getElem?_map,← ho,hq]; rfl
 ·rw [e2,List.getElem?_append_left (by simp; omega),List.getElem?_append_right (by omega),List.getElem?_map,← hl,← ho,hq]; rfl
def qmd:MPt C (tM f R C).1 (tM f R C).2.1 (tM f R C).2.2:=by
 have hl:=q1y (f:=f) (R:=R) C;refine ⟨hl.2.1.symm,by omega,?_,by rw [Int.toNat_natCast]; exact q29 (Nat.le_refl _),fun j x y hx hy=>?_⟩
 ·rw [q29 (Nat.zero_le _)]; rfl
 ·have h1:=(List.getElem?_eq_some_iff.1 hy).1;rw [q29 (by omega)] at hx hy;cases hx; cases hy;have:=qhd (f:=f) (R:=R) (j:=j);omega
def qrJ:MIx R (tM f R C).1 (tM f R C).2.1:=fun j x y hx hy k h1 h2 v hv=>by
 have hl:=q1y (f:=f) (R:=R) C;have h3:=(List.getElem?_eq_some_iff.1 hy).1;rw [q29 (by omega)] at hx hy;cases hx; cases hy;obtain ⟨q,q1,q2,q3⟩:=q9T (f:=f) (R:=R) (C:=C) (j:=j) (k:=k) Oq Oq Oq;rw [hv] at q2;cases q2;have:=(q4I.1 (show (q.1,q.2) ∈ _ from List.mem_of_getElem? q1)).1;refine ⟨by omega,by omega,fun hk u hu=>?_⟩;obtain ⟨p,p1,p2,p3⟩:=q9T (f:=f) (R:=R) (C:=C) (j:=j) (k:=k-1) Oq Oq Oq;rw [hu] at p2;cases p2;have ha:=List.pairwise_iff_getElem.1 (qkU (f:=f) (j:=j) R);obtain ⟨a1,a2⟩:=List.getElem?_eq_some_iff.1 p1;obtain ⟨b1,b2⟩:=List.getElem?_eq_some_iff.1 q1;have:=ha _ _ a1 b1 Oq;rw [a2,b2] at this;omega
def q9S {x:Nat}:∀ C,x ∈ (tM f R C).2.2→∃ j i,j < C∧i < R∧f j i=some x
 | 0,h=>by simp [tM] at h
 | C+1,h=>by
  simp only [tM,q9V,List.mem_append] at h
  rcases h with h | h
  ·obtain ⟨j,i,h1,h2,h3⟩:=q9S C h;exact ⟨j,i,by omega,h2,h3⟩
  ·obtain ⟨⟨k,y⟩,hq,rfl⟩:=List.mem_map.1 h;have:=q4I.1 hq;exact ⟨C,k,by omega,this.1,this.2⟩
def qrL (hR:R≤200) (hC:C≤200) (hRC:C*R≤10000) (hf:∀ j i x,j < C→i < R→f j i=some x→q0Y x):q3H R C (tM f R C).1 (tM f R C).2.1 (tM f R C).2.2=0:=by
 have hl:=q1y (f:=f) (R:=R) C;have hz:MSz R C (tM f R C).2.1:=⟨by omega,by omega,by omega,by omega,by omega⟩;unfold q3H;rw [if_pos hz,if_pos ⟨qmd,qrJ⟩,if_pos];intro x hx;obtain ⟨j,i,h1,h2,h3⟩:=q9S C hx;exact hf j i x h1 h2 h3
def qkW:∀ n,n≤C→qc7 (tM f R C).1 (tM f R C).2.1 (tM f R C).2.2 n=(List.range n).flatMap fun j=>(tZ f j R).map fun q=>((q.1:Int),(j:Int),q.2):=fun n hn=>by
 unfold qc7;refine q5E fun j hj=>?_;have hj:=List.mem_range.1 hj;have e1:((tM f R C).1.getD j 0).toNat=tO f R j:=by rw [List.getD_eq_getElem?_getD,q29 (by omega)]; rfl
 have e2:((tM f R C).1.getD (j+1) 0).toNat=tO f R (j+1):=by rw [List.getD_eq_getElem?_getD,q29 (by omega)]; rfl
 rw [e1,e2];unfold qcu;have hs:=qhd (f:=f) (R:=R) (j:=j)
 apply List.ext_getElem?
 intro k;rw [List.getElem?_map,List.getElem?_map]
 by_cases hk:k < (tZ f j R).length
 ·rw [List.getElem?_range' (by omega)];obtain ⟨q,q1,q2,q3⟩:=q9T (f:=f) (R:=R) (C:=C) (j:=j) (k:=tO f R j+k) Oq Oq Oq;rw [Nat.add_sub_cancel_left] at q1;simp only [Nat.one_mul,Option.map_some,List.getD_eq_getElem?_getD,q2,q3,q1]
  rfl
 ·rw [List.getElem?_eq_none (by simp; omega),List.getElem?_eq_none (by omega)]; rfl
end
def qnS {R j i c r:Nat} (hi:i < R) (hr:r < R) (h:c*R+r=j*R+i):c=j∧r=i:=by
 have h1:(c*R+r) / R=c:=by rw [Nat.mul_comm,Nat.mul_add_div (by omega),Nat.div_eq_of_lt hr]; omega
 have h2:(j*R+i) / R=j:=by rw [Nat.mul_comm,Nat.mul_add_div (by omega),Nat.div_eq_of_lt hi]; omega
 have:c=j:=by rw [← h1,← h2,h]
 subst this;exact ⟨rfl,by omega⟩
def qkk {l:List (Int × Int × Nat)} {R C:Nat} (hin:∀ e ∈ l,(0≤e.1∧e.1 < R)∧0≤e.2.1∧e.2.1 < C) {j i:Nat} (hi:i < R) (hj:j < C):∀ n,n≤l.length→∃ k,(pkL l R C n)[j*R+i]?=some k∧((k=0∧∀ m < n,∀ e,l[m]?=some e→¬ (e.1=i∧e.2.1=j))∨∃ m e,k=((m+1:Nat):Int)∧l[m]?=some e∧e.1=i∧e.2.1=j)
 | 0,_=>⟨0,by simp [pkL,qe9 hj hi],.inl ⟨rfl,fun m hm=>by omega⟩⟩
 | n+1,hn=>by
  obtain ⟨k,hk,h⟩:=qkk hin hi hj n Oq;obtain ⟨e,he⟩:∃ e,l[n]?=some e:=⟨_,List.getElem?_eq_getElem Oq⟩;have hr:=hin e (List.mem_of_getElem? he);have hlt:=(List.getElem?_eq_some_iff.1 hk).1;simp only [pkL,he]
  by_cases hp:e.2.1.toNat*R+e.1.toNat=j*R+i
  ·obtain ⟨q1,q2⟩:=qnS hi Oq hp;refine ⟨(n:Int)+1,by rw [hp,List.getElem?_set_self hlt],.inr ⟨n,e,by omega,he,by omega,by omega⟩⟩
  ·refine ⟨k,by rw [List.getElem?_set_ne hp]; exact hk,h.imp (fun ⟨h1,h2⟩=>⟨h1,fun m hm e' he' hee=>?_⟩) id⟩
   by_cases hmn:m=n
   ·subst hmn;rw [he] at he'; cases he'
    apply hp
    rw [hee.1,hee.2,Int.toNat_natCast,Int.toNat_natCast]
   ·exact h2 m Oq e' he' hee
def qsX {l:List (Int × Int × Nat)} {R C:Nat} {g:Nat→Nat→Option Nat} (hg:∀ e,e ∈ l ↔ ∃ j i x,j < C∧i < R∧g j i=some x∧e=((i:Int),(j:Int),x)) {j i:Nat} (hi:i < R) (hj:j < C):pkF l R C j i=g j i:=by
 have hin:∀ e ∈ l,(0≤e.1∧e.1 < R)∧0≤e.2.1∧e.2.1 < C:=fun e he=>by
  obtain ⟨j,i,x,h1,h2,_,rfl⟩:=(hg e).1 he;exact ⟨⟨by simp,by simp; omega⟩,by simp,by simp; omega⟩
 obtain ⟨k,hk,h⟩:=qkk hin hi hj l.length (Nat.le_refl _);unfold pkF;rw [hk];simp only
 rcases h with ⟨rfl,h2⟩ | ⟨m,e,rfl,he,e1,e2⟩
 ·rw [if_neg (by omega)];cases hx:g j i with
  | none=>rfl
  | some x =>
   obtain ⟨m,hm⟩:=List.getElem?_of_mem ((hg (i,j,x)).2 ⟨j,i,x,hj,hi,hx,rfl⟩);exact absurd ⟨rfl,rfl⟩ (h2 m (List.getElem?_eq_some_iff.1 hm).1 _ hm)
 ·rw [if_pos (by omega),show (((m+1:Nat):Int)-1).toNat=m by omega,he];obtain ⟨j',i',x,_,_,hx,rfl⟩:=(hg e).1 (List.mem_of_getElem? he);simp only at e1 e2;have:i'=i:=by omega
  have:j'=j:=by omega
  subst i'; subst j';rw [hx]; rfl
def qd3 {f g:Nat→Nat→Option Nat} {j:Nat} {p:List Int × List Nat}:∀ i,(∀ k,k < i→f j k=g j k)→tC f j p i=tC g j p i
 | 0,_=>rfl
 | i+1,h=>by rw [tC,tC,h i (by omega),qd3 i fun k hk=>h k (by omega)]
def qdY {f g:Nat→Nat→Option Nat} {R:Nat}:∀ C,(∀ j i,j < C→i < R→f j i=g j i)→tM f R C=tM g R C
 | 0,_=>rfl
 | C+1,h=>by rw [tM,tM,qdY C fun j i hj=>h j i (by omega),qd3 R fun k hk=>h C k (by omega) hk]
def tE (f:Nat→Nat→Option Nat) (R C:Nat):List (Int × Int × Nat):=(List.range C).flatMap fun j=>(tZ f j R).map fun q=>((q.1:Int),(j:Int),q.2)
def qa6 {f:Nat→Nat→Option Nat} {R C:Nat} {e:Int × Int × Nat}:e ∈ tE f R C ↔ ∃ j i x,j < C∧i < R∧f j i=some x∧e=((i:Int),(j:Int),x):=by
 unfold tE;rw [List.mem_flatMap]
 constructor
 ·rintro ⟨j,hj,he⟩;obtain ⟨⟨i,x⟩,hq,rfl⟩:=List.mem_map.1 he;have:=q4I.1 hq;exact ⟨j,i,x,List.mem_range.1 hj,this.1,this.2,rfl⟩
 ·rintro ⟨j,i,x,h1,h2,h3,rfl⟩;exact ⟨j,List.mem_range.2 h1,List.mem_map.2 ⟨(i,x),q4I.2 ⟨h2,h3⟩,rfl⟩⟩
def qkX {f:Nat→Nat→Option Nat} {R C:Nat}:(tE f R C).length=(tM f R C).2.1.length:=by
 have h1:=q5f (qmd (f:=f) (R:=R) (C:=C)) C (Nat.le_refl _);rw [qkW C (Nat.le_refl _),List.getD_eq_getElem?_getD,q29 (Nat.le_refl _)] at h1;exact h1
def q72 (f:Nat→Nat→Option Nat) (j i:Nat):Option Nat:=if j≤i then f j i else none
structure TOk (f:Nat→Nat→Option Nat) (R C:Nat):Prop where
 r:R≤200
 c:C≤200
 m:C*R≤10000
 u:∀ j i x,j < C→i < R→f j i=some x→x < 18446744073709551616
 v:∀ j i x,j < C→i < R→f j i=some x→q0Y x
def TOk.vl {f:Nat→Nat→Option Nat} {R C:Nat} (h:TOk f R C):(tM f R C).1.length≤9223372036854775807∧(tM f R C).2.1.length≤9223372036854775807∧(tM f R C).2.2.length≤9223372036854775807∧(∀ x ∈ (tM f R C).2.2,x < 18446744073709551616):=by
 have:=q1y (f:=f) (R:=R) C;have:=h.c;have:=h.m;refine ⟨by omega,by omega,by omega,fun x hx=>?_⟩;obtain ⟨j,i,h1,h2,h3⟩:=q9S C hx;exact h.u j i x h1 h2 h3
def TOk.chk {f:Nat→Nat→Option Nat} {R C:Nat} (h:TOk f R C):q3H R C (tM f R C).1 (tM f R C).2.1 (tM f R C).2.2=0:=qrL h.r h.c h.m h.v
def qd2 {f:Nat→Nat→Option Nat} {R C:Nat} (h:TOk f R C):ACt 81 [pT R C f] (iv 0):=by
 obtain ⟨h1,h2,h3,h4⟩:=h.vl;have:=q56 (rows:=R) (cols:=C) h1 h2 h3 h4;rw [h.chk] at this;exact this
def qd0 {f:Nat→Nat→Option Nat} {R C:Nat} (h:TOk f R C):ACt 227 [pT R C f] (pE (tE f R C)):=by
 obtain ⟨h1,h2,h3,h4⟩:=h.vl;have:=q96 (rows:=R) (cols:=C) h1 h2 h3 h4;rw [qfq.1 h.chk,Int.toNat_natCast,qkW C (Nat.le_refl _)] at this;exact this
def qhc {l:List (Int × Int × Nat)} {g:Nat→Nat→Option Nat} {R C:Nat} (hR:R≤1000) (hC:C≤1000) (hl:l.length≤1000000) (hg:∀ e,e ∈ l ↔ ∃ j i x,j < C∧i < R∧g j i=some x∧e=((i:Int),(j:Int),x)):ACt 228 [iv R,iv C,pE l] (pT R C g):=by
 have:=qiB (R:=R) (C:=C) (l:=l) hR hC hl fun e he=>by
  obtain ⟨j,i,x,h1,h2,_,rfl⟩:=(hg e).1 he;exact ⟨⟨by simp,by simp; omega⟩,by simp,by simp; omega⟩
 unfold pT at this ⊢;rw [qdY C fun j i hj hi=>qsX hg hi hj] at this;exact this
def qdZ {f:Nat→Nat→Option Nat} {R C:Nat} (h:TOk f R C):ACt 169 [pT R C f] (.tu [pT R C (q72 f),iv 0]):=by
 have hA:=qd2 h;have hE:=qd0 h;have hlen:(tE f R C).length≤10000:=by rw [qkX]; have:=(q1y (f:=f) (R:=R) C).2.2; have:=h.m; omega
 have hP:∀ l:List (Int × Int × Nat),l.length≤10000→l=(tE f R C).filter (fun e=>decide (e.2.1≤e.1))→ACt 228 [iv R,iv C,pE l] (pT R C (q72 f)):=fun l hl he=>qhc (by have:=h.r; omega) (by have:=h.c; omega) Oq fun e=>by
  rw [he,List.mem_filter,qa6]
  constructor
  ·rintro ⟨⟨j,i,x,h1,h2,h3,rfl⟩,h4⟩;have h4:(j:Int)≤i:=by simpa using h4
   exact ⟨j,i,x,h1,h2,by unfold q72; rw [if_pos (by omega)]; exact h3,rfl⟩
  ·rintro ⟨j,i,x,h1,h2,h3,rfl⟩;unfold q72 at h3
   split at h3
   ·exact ⟨⟨j,i,x,h1,h2,h3,rfl⟩,by simp; omega⟩
   ·cases h3
 have hpt:pT R C f=q3G R C (tM f R C).1 (tM f R C).2.1 (tM f R C).2.2:=rfl;obtain ⟨st',ix',vl',hpl⟩:∃ st' ix' vl',pT R C (q72 f)=.ag [iv R,iv C,pI st',pI ix',pF vl']:=⟨_,_,_,rfl⟩;rw [hpl] at hP ⊢;generalize tE f R C=L at *;rw [hpt] at hA hE ⊢;clear hpt;unfold q3G at hA hE ⊢;generalize (tM f R C).1=st at *;generalize (tM f R C).2.1=ix at *;generalize (tM f R C).2.2=vl at *;refine act qlg Tryz.func169 rfl Tryz.ntmps169 (by kernel_rfl) ?_;refine Az ?_;have e0:((0:Int) != 0)=false:=rfl;unfold pE at hE;refine q2g fun K0 hK0=>?_;refine qcy fun K hK=>?_;refine Zz ?_;refine q2B hA ?_
 try refine Zz ?_
 refine hK _ _ ?_; clear hK K;refine Az1 e0 ?_;refine A_f Cz ?_;refine q7x (hK0 _ _ ?_); clear hK0 K0;refine Az ?_;refine qcy fun K hK=>?_;refine Zz ?_;refine q2B hE ?_
 try refine Zz ?_
 refine hK _ _ ?_; clear hK K;refine q2g fun K0 hK0=>?_;refine Az ?_;refine q7y ?_;obtain ⟨F,hF⟩:∃ F:Nat→List (Int × Int × Nat),F=fun k=>(L.take k).filter (fun e=>decide (e.2.1≤e.1)):=⟨_,rfl⟩;have F0:F 0=[]:=by rw [hF]; simp
 have Fs:∀ k e,L[k]?=some e→F (k+1)=F k ++ (if e.2.1≤e.1 then [e] else []):=fun k e he=>by
  rw [hF];simp only [q4F he,List.filter_append]
  congr 1
  by_cases h:e.2.1≤e.1 <;> simp [h]
 have Fl:∀ k,(F k).length≤L.length:=fun k=>by
  rw [hF];have:=List.length_filter_le (fun e:Int × Int × Nat=>decide (e.2.1≤e.1)) (L.take k);have:(L.take k).length≤L.length:=by rw [List.length_take]; omega
  simp only;omega
 refine q0L (fun k=>k≤L.length) [1,2,3,6] [1,2] Lk Lk (fun k:Nat=>[(7,iv k),(5,.ow 1001 (some 3) 0 (F k).length)]) (fun k=>[(1001,⟨224,some 3,(F k).map qap,false⟩)]) (fun k=>L.length-k) 0 (Nat.zero_le _) ?_ ?_
 ·refine LeM [(1001,none)] rfl rfl ?_;refine Zz ?_;rw [F0];exact ⟨⟨rfl,rfl⟩,rfl⟩
 ·intro k hk;have hFk:=Fl k;refine q2g fun K1 hK1=>?_
  by_cases hlt:k < L.length
  ·have hlt':(k:Int) < L.length:=by omega
   refine Az1 hlt' ?_;refine A_t Cz ?_;refine q7x (hK1 _ _ ?_); clear hK1 K1;refine A_sb fun Kb hKb=>?_;obtain ⟨⟨er,ec,ev⟩,he⟩:∃ e,L[k]?=some e:=⟨_,List.getElem?_eq_getElem hlt⟩;have hs:=Fs k _ he;simp only at hs
   by_cases hge:ec≤er
   ·rw [if_pos hge] at hs;refine A_sd [] q0l (by kernel_rfl) fun K hK=>?_;simp -implicitDefEqProofs (disch:=omega) only [go_sem,Nat.reduceEqDiff,Nat.reduceAdd,↓reduceIte,he,qap,hge];refine hK _ _ ?_; clear hK K;refine A_t Cz ?_;refine q9C fun K9 hK9=>?_;simp -implicitDefEqProofs (disch:=omega) only [go_sem,Nat.reduceEqDiff,Nat.reduceAdd,↓reduceIte,he,qap];refine hK9 _ _ ?_; clear hK9 K9;refine hKb _ _ ?_; clear hKb;refine q9C fun K9 hK9=>?_;refine Zz1 @i64_in ?_;refine hK9 _ _ ?_; clear hK9 K9;refine ⟨k+1,by omega,by omega,?_⟩;rw [hs];refine LeM [(1001,some 39)] rfl rfl ?_;refine Zz ?_;exact ⟨by omega,qgu (by simp [qap]) rfl⟩
   ·rw [if_neg hge,List.append_nil] at hs;refine A_sd [] q0l (by kernel_rfl) fun K hK=>?_;simp -implicitDefEqProofs (disch:=omega) only [go_sem,Nat.reduceEqDiff,Nat.reduceAdd,↓reduceIte,he,qap,hge];refine hK _ _ ?_; clear hK K;refine A_f Cz ?_;refine q7x (hKb _ _ ?_); clear hKb;refine q9C fun K9 hK9=>?_;refine Zz1 @i64_in ?_;refine hK9 _ _ ?_; clear hK9 K9;refine ⟨k+1,by omega,by omega,?_⟩;rw [hs];refine LeM [] rfl rfl ?_;refine Zz ?_;exact ⟨by omega,qgu rfl rfl⟩
  ·have hlt':¬ (k:Int) < L.length:=by omega
   obtain rfl:k=L.length:=by omega
   refine Az1 hlt' ?_;refine A_f Cz ?_;refine qhA (hK0 _ _ ?_); clear hK0;have hP:=hP (F L.length) (by omega) (by rw [hF]; simp);refine q5V (LeM [] rfl rfl (xs:=[(1,.pt 1 0 0),(2,.pt 2 0 0),(5,pE (F L.length))]) (kv:=[]) (bs:=[(1,⟨52,some 5,[.ag [iv R,iv C,pI st,pI ix,pF vl]],false⟩),(2,⟨52,some 5,[.ag [iv 0,iv 0,.vl (.slice none 0 0),.vl (.slice none 0 0),.vl (.slice none 0 0)]],false⟩)]) (kb:=[]) ?_) ?_
   ·unfold pE;refine Zz ?_;refine q3m (T:=224) rfl clE (fun i hi=>?_) ?_
    ·have hi:some i=some 1001:=hi;cases hi
     rfl
    ·rw [List.drop_zero]; exact List.take_of_length_le (by simp)
   ·unfold pE at hP ⊢;refine qcy fun K hK=>?_;refine Zz ?_;refine q2B hP ?_
    try refine Zz ?_
    refine hK _ _ ?_; clear hK K;refine qgw (rt (rs:=[.cell 2 52,.tmp 3]) rfl rfl ?_ (.inl rfl));exact Zy
def pG (adj:List (List Int)):PV:=.ag [.sl none (adj.map fun l=>pI l)]
def GRow (adj:List (List Int)) (v:Nat) (w:Int):Prop:=0≤w∧w < adj.length∧¬ w=v∧∀ l,adj[w.toNat]?=some l→(v:Int) ∈ l
def GOk (adj:List (List Int)):Prop:=∀ (v:Nat) (l:List Int),adj[v]?=some l→Asc l∧∀ w ∈ l,GRow adj v w
open Classical in
noncomputable def qcd (adj:List (List Int)):Int:=if (200:Int) < adj.length then 6 else if GOk adj then 0 else 1
def q9t {adj:List (List Int)} (hl:∀ l ∈ adj,l.length≤9223372036854775807):ACt 165 [pG adj] (iv (qcd adj)):=by
 have c6:(200:Int) < adj.length→qcd adj=6:=fun h=>if_pos h;have c1:¬ (200:Int) < adj.length→¬ GOk adj→qcd adj=1:=fun h h2=>by unfold qcd; rw [if_neg h,if_neg h2]
 have c0:¬ (200:Int) < adj.length→GOk adj→qcd adj=0:=fun h h2=>by unfold qcd; rw [if_neg h,if_pos h2]
 generalize qcd adj=res at *;unfold pG;refine ac0 Tryz.func165 Tryz.ntmps165 [.tmp 2] ?_;refine wk ?_
 by_cases hn:(200:Int) < adj.length
 ·refine wk1 hn ?_;rw [c6 hn]
 refine wk1 hn ?_;have c1:=c1 hn;have c0:=c0 hn;refine q4z [1,3,4] Lk ?_;refine wk ?_;refine q0L (fun v=>v≤adj.length∧∀ v' l,v' < v→adj[v']?=some l→Asc l∧∀ w ∈ l,GRow adj v' w) [1,3] [1] Lk Lk (fun v:Nat=>[(4,iv v)]) (fun _=>[]) (fun v=>adj.length-v) 0 ⟨Nat.zero_le _,by omega⟩ ?_ ?_
 ·refine LeM [] rfl rfl ?_;refine Zz ?_
  rfl
 ·rintro v ⟨hv,hr⟩;refine wk ?_
  by_cases hlt:v < adj.length
  ·have hlt':(v:Int) < adj.length:=by omega
   refine wk1 hlt' ?_;obtain ⟨l,hx⟩:∃ l,adj[v]?=some l:=⟨_,List.getElem?_eq_getElem hlt⟩;have hll:=hl l (List.mem_of_getElem? hx);have C1:=(qnp hll);refine wk1 hx ?_
   by_cases ha:Asc l
   case neg =>
    have ea:∀ (i:Decidable (Asc l)),@decide _ i=false:=fun _=>decide_eq_false ha;refine wk1 ea ?_;rw [c1 fun h=>ha (h v l hx).1]
   have ea:∀ (i:Decidable (Asc l)),@decide _ i=true:=fun _=>decide_eq_true ha;refine wk1 ea ?_;refine q0L (fun k=>k≤l.length∧∀ w ∈ l.take k,GRow adj v w) [1,3,4] [1] Lk Lk (fun k:Nat=>[(5,iv k)]) (fun _=>[]) (fun k=>l.length-k) 0 ⟨Nat.zero_le _,by simp⟩ ?_ ?_
   ·refine LeM [] rfl rfl ?_;refine Zz ?_
    rfl
   ·rintro k ⟨hk,hrk⟩;refine wk ?_
    by_cases hltk:k < l.length
    ·have hltk':(k:Int) < l.length:=by omega
     refine wk1 (x2 hx hltk') ?_;obtain ⟨w,hw⟩:∃ w,l[k]?=some w:=⟨_,List.getElem?_eq_getElem hltk⟩;have bad:¬ GRow adj v w→res=1:=fun h=>c1 fun hG=>h ((hG v l hx).2 w (List.mem_of_getElem? hw));refine wk1 (x2 hx hw) ?_
     by_cases h1:w < 0
     ·refine wk1 h1 ?_;rw [bad fun h=>by have:=h.1; omega]
     by_cases h2:(adj.length:Int)≤w
     ·refine wk1 (x2 h1 h2) ?_;rw [bad fun h=>by have:=h.2.1; omega]
     by_cases hwv:w=v
     ·have e1:(w == (v:Int))=true:=by simpa using hwv
      refine wk1 (x3 h1 h2 e1) ?_;rw [bad fun h=>h.2.2.1 hwv]
     have e1:(w == (v:Int))=false:=by simpa using hwv
     obtain ⟨w,rfl⟩:∃ w':Nat,w=w':=⟨w.toNat,by omega⟩;obtain ⟨m,hm⟩:∃ m,adj[w]?=some m:=⟨_,List.getElem?_eq_getElem Oq⟩;have C2:=qlB (v:=(v:Int)) (hl m (List.mem_of_getElem? hm));refine wk1 (x4 h1 h2 e1 hm) ?_
     by_cases hin:(v:Int) ∈ m
     ·have ei:∀ (i:Decidable ((v:Int) ∈ m)),@decide _ i=true:=fun _=>decide_eq_true hin;refine wk1 (x4 ei h1 h2 e1) ?_;refine ⟨k+1,⟨by omega,q5X hw hrk ⟨by omega,by omega,hwv,fun l' hl'=>?_⟩⟩,by omega,?_⟩
      ·rw [Int.toNat_natCast,hm] at hl';cases hl';exact hin
      ·refine LeM [] rfl rfl ?_;refine Zz ?_;omega
     ·have ei:∀ (i:Decidable ((v:Int) ∈ m)),@decide _ i=false:=fun _=>decide_eq_false hin;refine wk1 (x4 ei h1 h2 e1) ?_;rw [bad fun h=>hin (h.2.2.2 m (by rw [Int.toNat_natCast]; exact hm))]
    ·have hltk':¬ (k:Int) < l.length:=by omega
     obtain rfl:k=l.length:=by omega
     refine wk1 (x2 hx hltk') ?_;rw [List.take_length] at hrk;refine wk ?_;refine ⟨v+1,⟨by omega,fun v' l' hv' hx'=>?_⟩,by omega,?_⟩
     ·by_cases hvv:v'=v
      ·subst hvv;rw [hx] at hx'; cases hx';exact ⟨ha,hrk⟩
      ·exact hr v' l' Oq hx'
     ·refine LeM [] rfl rfl ?_;refine Zz ?_;omega
  ·have hlt':¬ (v:Int) < adj.length:=by omega
   obtain rfl:v=adj.length:=by omega
   refine wk1 hlt' ?_;rw [c0 fun v l hx=>hr v l (List.getElem?_eq_some_iff.1 hx).1 hx]
def qcQ (t:Nat→Nat→Bool) (n:Nat):PV:=.sl none ((List.range n).map fun v=>.sl none ((List.range n).map fun w=>bv (t v w)))
def q1Y (t:Nat→Nat→Bool) (v w:Nat):Bool:=decide (v≠w) && (t v w || t w v)
def frL (t:Nat→Nat→Bool) (v w:Nat):List Int:=((List.range w).filter fun x=>q1Y t v x).map fun x:Nat=>(x:Int)
def frG (t:Nat→Nat→Bool) (n:Nat):List (List Int):=(List.range n).map fun v=>frL t v n
def qaT {τ:Nat→Option Nat} {h h':Hp} {a b c d:List PV} (h1:LeL τ h h' a c) (h2:LeL τ h h' b d):LeL τ h h' (a ++ b) (c ++ d):=by
 obtain ⟨l1,e1⟩:=h1;obtain ⟨l2,e2⟩:=h2;refine ⟨by simp [l1,l2],fun i x y hx hy=>?_⟩
 by_cases hi:i < a.length
 ·rw [List.getElem?_append_left hi] at hx;rw [List.getElem?_append_left (by omega)] at hy;exact e1 i x y hx hy
 ·rw [List.getElem?_append_right (by omega)] at hx;rw [List.getElem?_append_right (by omega),← l1] at hy;exact e2 _ x y hx hy
def qoK {t:Nat→Nat→Bool} {v w:Nat}:frL t v (w+1)=frL t v w ++ (if q1Y t v w=true then [(w:Int)] else []):=by
 unfold frL;rw [List.range_succ,List.filter_append,List.map_append]
 congr 1
 cases h:q1Y t v w <;> simp [h]
def qfP {t:Nat→Nat→Bool} {v w:Nat}:(frL t v w).length≤w:=by
 unfold frL;have:=List.length_filter_le (fun x=>q1Y t v x) (List.range w);simp only [List.length_map,List.length_range] at *;exact this
def clR {α:Type} {f:α→List Int} {l:List α}:ClL (l.map fun v=>pI (f v)):=fun x hx=>by
 obtain ⟨e,_,rfl⟩:=List.mem_map.1 hx
 trivial
def qvk {α:Type} {f:α→List Int} {l:List α} {τ:Nat→Option Nat} {h h':Hp}:LeL τ h h' (l.map fun v=>pI (f v)) (l.map fun v=>pI (f v))=True:=eq_true (q1A rfl clR)
attribute [local go_sem] qvk
def q4W {t:Nat→Nat→Bool} {n:Nat} (hn:n≤1000):ACt 230 [qcQ t n] (pG (frG t n)):=by
 unfold qcQ pG;refine ac0 Tryz.func230 Tryz.ntmps230 [.cell 2 141] ?_;refine wk ?_;refine q0L (fun v=>v≤n) [0,2,3] [2] Lk Lk (fun v:Nat=>[(4,iv v)]) (fun v=>[(3,⟨141,some 1,[.ag [.ow 1001 none 0 v]],false⟩),(1001,⟨24,none,(List.range v).map fun v=>pI (frL t v n),false⟩)]) (fun v=>n-v) 0 (Nat.zero_le _) ?_ ?_
 ·refine LeM [(1001,none)] rfl rfl ?_;refine Zz ?_;exact ⟨rfl,rfl⟩
 ·intro v hv;refine wk ?_
  by_cases hlt:v < n
  ·have hlt':(v:Int) < n:=by omega
   refine wk1 hlt' ?_;refine q0L (fun w=>w≤n) [0,2,3,4] [2,3,1001] Lk Lk (fun w:Nat=>[(6,iv w),(5,.ow 1002 none 0 (frL t v w).length)]) (fun w=>[(1002,⟨3,none,(frL t v w).map fun z=>iv z,false⟩)]) (fun w=>n-w) 0 (Nat.zero_le _) ?_ ?_
   ·refine LeM [(1002,none)] rfl rfl ?_;refine Zz ?_;simp [frL]
   ·intro w hw;have hlen:=qfP (t:=t) (v:=v) (w:=w);refine wk ?_
    by_cases hltw:w < n
    ·have hltw':(w:Int) < n:=by omega
     refine wk1 hltw' ?_;have r1:(List.range n)[v]?=some v:=List.getElem?_range hlt;have r2:(List.range n)[w]?=some w:=List.getElem?_range hltw;have skip:q1Y t v w=false→frL t v (w+1)=frL t v w:=fun h=>by rw [qoK,h]; simp
     have push:q1Y t v w=true→frL t v (w+1)=frL t v w ++ [(w:Int)]:=fun h=>by rw [qoK,h]; simp
     have no:q1Y t v w=false→True:=fun _=>trivial
     by_cases hvw:v=w
     ·have e1:((v:Int) != (w:Int))=false:=by simp; omega
      have hj:q1Y t v w=false:=by unfold q1Y; simp [hvw]
      refine wk1 e1 ?_;refine ⟨w+1,by omega,by omega,?_⟩;rw [skip hj];refine LeM [] rfl rfl ?_;refine Zz ?_
      first | omega | exact ⟨by omega,trivial⟩ | (refine ⟨?_,?_⟩ <;> first | omega | trivial)
     have e1:((v:Int) != (w:Int))=true:=by simp; omega
     have hjj:q1Y t v w=(t v w || t w v):=by unfold q1Y; simp [hvw]
     cases h1:t v w
     ·cases h2:t w v
      ·have hj:q1Y t v w=false:=by rw [hjj,h1,h2]; rfl
       refine wk1 (x5 e1 r1 r2 h1 h2) ?_;refine ⟨w+1,by omega,by omega,?_⟩;rw [skip hj];refine LeM [] rfl rfl ?_;refine Zz ?_
       first | omega | exact ⟨by omega,trivial⟩ | trace_state
      ·have hj:q1Y t v w=true:=by rw [hjj,h1,h2]; rfl
       refine wk1 (x5 e1 r1 r2 h1 h2) ?_;refine ⟨w+1,by omega,by omega,?_⟩;rw [push hj];refine LeM [(1002,some 43)] rfl rfl ?_;refine Zz ?_;omega
     ·have hj:q1Y t v w=true:=by rw [hjj,h1]; rfl
      refine wk1 (x4 e1 r1 r2 h1) ?_;refine ⟨w+1,by omega,by omega,?_⟩;rw [push hj];refine LeM [(1002,some 43)] rfl rfl ?_;refine Zz ?_;omega
    ·have hltw':¬ (w:Int) < n:=by omega
     obtain rfl:w=n:=by omega
     refine wk1 hltw' ?_;refine ⟨v+1,by omega,by omega,?_⟩;rw [List.range_succ,List.map_append];refine LeM [(1001,some 48)] rfl rfl ?_;refine Zz ?_;refine ⟨by omega,qaT (q1A rfl clR) ?_⟩;rw [q4y];refine q3m (T:=3) (l:=(frL t v w).map fun z:Int=>iv z) ?_ clI (fun i hi=>?_) ?_
     ·try simp -implicitDefEqProofs (disch:=omega) only [go_sem,Nat.reduceEqDiff,Nat.reduceAdd,↓reduceIte]
     ·unfold q1s at hi
      split at hi
      ·cases hi
      ·obtain rfl:i=1002:=by cases hi; rfl
       try simp -implicitDefEqProofs (disch:=omega) only [go_sem,Nat.reduceEqDiff,Nat.reduceAdd,↓reduceIte]
     ·rw [List.drop_zero]; exact List.take_of_length_le (by simp)
  ·have hlt':¬ (v:Int) < n:=by omega
   obtain rfl:v=n:=by omega
   refine wk1 hlt' ?_;rw [List.take_of_length_le (by simp),frG,List.map_map]; rfl
open Classical in
noncomputable def sqM (rows cols:Int) (st ix:List Int) (vl:List Nat) (order:List Int):Int :=
 if q3H rows cols st ix vl=0 then (if rows=cols then (if q2y order rows then 0 else 90) else 5) else q3H rows cols st ix vl
def qcL {rows cols:Int} {st ix order:List Int} {vl:List Nat} (hl:st.length≤9223372036854775807) (hli:ix.length≤9223372036854775807) (hlv:vl.length≤9223372036854775807) (hu:∀ x ∈ vl,x < 18446744073709551616):ACt 108 [q3G rows cols st ix vl,pI order] (iv (sqM rows cols st ix vl order)):=by
 have hA:=q56 (rows:=rows) (cols:=cols) hl hli hlv hu;have c1:¬ q3H rows cols st ix vl=0→sqM rows cols st ix vl order=q3H rows cols st ix vl:=fun h=>if_neg h;have c2:q3H rows cols st ix vl=0→¬ rows=cols→sqM rows cols st ix vl order=5:=fun h h2=>by unfold sqM; rw [if_pos h,if_neg h2]
 have c3:q3H rows cols st ix vl=0→rows=cols→¬ q2y order rows→sqM rows cols st ix vl order=90:=fun h h2 h3=>by unfold sqM; rw [if_pos h,if_pos h2,if_neg h3]
 have c4:q3H rows cols st ix vl=0→rows=cols→q2y order rows→sqM rows cols st ix vl order=0:=fun h h2 h3=>by unfold sqM; rw [if_pos h,if_pos h2,if_pos h3]
 generalize sqM rows cols st ix vl order=res at *;unfold q3G at *;refine ac0 Tryz.func108 Tryz.ntmps108 [.tmp 4] ?_;refine wk ?_
 by_cases hz:q3H rows cols st ix vl=0
 case neg =>
  have e1:(q3H rows cols st ix vl != 0)=true:=by simpa using hz
  refine wk1 e1 ?_;rw [c1 hz]
 have e1:(q3H rows cols st ix vl != 0)=false:=by simpa using hz
 refine wk1 e1 ?_;obtain ⟨hz1,_⟩:=chk0 hz;have b0:=hz1.r0;have b1:=hz1.r1;refine wk ?_
 by_cases hrc:rows=cols
 case neg =>
  have e2:(rows != cols)=true:=by simpa using hrc
  refine wk1 e2 ?_;rw [c2 hz hrc]
 have e2:(rows != cols)=false:=by simpa using hrc
 have C1:=@qiA;refine wk1 e2 ?_
 by_cases hp:q2y order rows
 ·have ep:∀ (i:Decidable (q2y order rows)),@decide _ i=true:=fun _=>decide_eq_true hp;refine wk1 ep ?_;rw [c4 hz hrc hp]
 ·have ep:∀ (i:Decidable (q2y order rows)),@decide _ i=false:=fun _=>decide_eq_false hp;refine wk1 ep ?_;rw [c3 hz hrc hp]
def qcB {f:Nat→Nat→Option Nat} {R:Nat} {order:List Int} (h:TOk f R R) (hp:q2y order R):ACt 108 [pT R R f,pI order] (iv 0):=by
 obtain ⟨h1,h2,h3,h4⟩:=h.vl;have:=qcL (rows:=R) (cols:=R) (order:=order) h1 h2 h3 h4;unfold sqM at this;rw [if_pos h.chk,if_pos rfl,if_pos hp] at this;exact this
def qbJ {ix:List Int} {i:Int}:∀ {d a:Nat} {k:Nat},q8e ix i a (a+d)=some k→a≤k∧k < a+d∧ix[k]?=some i:=fun {d a k} h=>by
 unfold q8e at h;have h1:=List.find?_some h;have h2:=List.mem_of_find?_eq_some h;rw [List.mem_range'_1] at h2;exact ⟨h2.1,by omega,by simpa using h1⟩
def qij {ix:List Int} {i:Int} {d a:Nat} (h:q8e ix i a (a+d)=none):∀ k,a≤k→k < a+d→¬ ix[k]?=some i:=fun k h1 h2 h3=>by
 unfold q8e at h;have:=List.find?_eq_none.1 h k (by rw [List.mem_range'_1]; omega);simp [h3] at this
def qkV {f:Nat→Nat→Option Nat} {R C i j:Nat} (hi:i < R) (hj:j < C):(match qgI (tM f R C).1 (tM f R C).2.1 i j with | some k=>(tM f R C).2.2[k]? | none=>none)=f j i:=by
 have e1:((tM f R C).1.getD j 0).toNat=tO f R j:=by rw [List.getD_eq_getElem?_getD,q29 (by omega)]; rfl
 have e2:((tM f R C).1.getD (j+1) 0).toNat=tO f R (j+1):=by rw [List.getD_eq_getElem?_getD,q29 (by omega)]; rfl
 unfold qgI;rw [e1,e2,qhd];cases h:q8e (tM f R C).2.1 i (tO f R j) (tO f R j+(tZ f j R).length) with
 | some k =>
  obtain ⟨h1,h2,h3⟩:=qbJ h;obtain ⟨q,q1,q2,q3⟩:=q9T (f:=f) (R:=R) (C:=C) (j:=j) (k:=k) hj h1 (by rw [qhd]; exact h2);rw [q2] at h3;have hqi:q.1=i:=by have:=Option.some.inj h3; omega
  have:=(q4I.1 (show (q.1,q.2) ∈ _ from List.mem_of_getElem? q1)).2;simp only;rw [q3,← this,hqi]
 | none =>
  cases hx:f j i with
  | none=>rfl
  | some x =>
   obtain ⟨m,hm⟩:=List.getElem?_of_mem (q4I.2 ⟨hi,hx⟩:(i,x) ∈ tZ f j R);have hml:=(List.getElem?_eq_some_iff.1 hm).1;obtain ⟨q,q1,q2,q3⟩:=q9T (f:=f) (R:=R) (C:=C) (j:=j) (k:=tO f R j+m) hj (by omega) (by rw [qhd]; omega);rw [Nat.add_sub_cancel_left,hm] at q1;cases q1;exact absurd q2 (qij h _ Oq Oq)
def qkY {f:Nat→Nat→Option Nat} {R C i j:Nat} (h:TOk f R C) (hi:i < R) (hj:j < C):ACt 93 [pT R C f,iv i,iv j] (uv (((f j i).getD 0:Nat):Int)):=by
 obtain ⟨h1,h2,h3,h4⟩:=h.vl;have:=qsM (rows:=R) (cols:=C) (i:=i) (j:=j) h1 h2 h3 h4;unfold atM at this;rw [if_pos ⟨h.chk,by omega,by omega⟩,Int.toNat_natCast] at this;have hf:=qkV (f:=f) hi hj;cases hc:qgI (tM f R C).1 (tM f R C).2.1 i j with
 | some k =>
  rw [hc] at this hf;simp only at this hf;rw [List.getD_eq_getElem?_getD,hf] at this;exact this
 | none =>
  rw [hc] at this hf;simp only at this hf;rw [← hf];exact this
def qcA {f:Nat→Nat→Option Nat} {R C i j:Nat} (h:TOk f R C) (hi:i < R) (hj:j < C):ACt 96 [pT R C f,iv i,iv j] (bv (f j i).isSome):=by
 have hl:=q1y (f:=f) (R:=R) C;have hm:=h.m;have hcc:=h.c;have:=qcK (rows:=R) (cols:=C) (i:=i) (j:=j) (st:=(tM f R C).1) (ix:=(tM f R C).2.1) (vl:=(tM f R C).2.2) Oq Oq qmd;unfold qrP at this;rw [if_pos ⟨by omega,by omega,by omega,by omega⟩,Int.toNat_natCast] at this;have hf:=qkV (f:=f) hi hj;cases hc:qgI (tM f R C).1 (tM f R C).2.1 i j with
 | some k =>
  rw [hc] at this hf;simp only at this hf;have hk:k < (tM f R C).2.2.length:=by
   unfold qgI at hc;have e1:((tM f R C).1.getD j 0).toNat=tO f R j:=by rw [List.getD_eq_getElem?_getD,q29 (by omega)]; rfl
   have e2:((tM f R C).1.getD (j+1) 0).toNat=tO f R (j+1):=by rw [List.getD_eq_getElem?_getD,q29 (by omega)]; rfl
   rw [e1,e2,qhd] at hc;have:=(List.getElem?_eq_some_iff.1 (qbJ hc).2.2).1;omega
  rw [← hf,List.getElem?_eq_getElem hk];exact this
 | none =>
  rw [hc] at this hf;simp only at this hf;rw [← hf];exact this
def qbs {x:Nat}:ACt 87 [uv x] (bv (decide (x=0∨x=9223372036854775808))):=by
 have h0:((x:Int) == 0)=decide (x=0):=by
  rw [Bool.eq_iff_iff,beq_iff_eq,decide_eq_true_iff]; omega
 have h1:((x:Int) == 9223372036854775808)=decide (x=9223372036854775808):=by
  rw [Bool.eq_iff_iff,beq_iff_eq,decide_eq_true_iff]; omega
 refine ac0 Tryz.func87 Tryz.ntmps87 [.tmp 2] ?_;refine wk ?_
 by_cases e0:x=0
 ·refine wk1 (x2 h0 (decide_eq_true e0)) ?_;simp [e0]
 ·by_cases e1:x=9223372036854775808
  ·refine wk1 (x4 h0 (decide_eq_false e0) h1 (decide_eq_true e1)) ?_;simp [e1]
  ·refine wk1 (x4 h0 (decide_eq_false e0) h1 (decide_eq_false e1)) ?_;simp [e0,e1]
def q9G {x y:Nat} {A B V:Int} (hx:x < 18446744073709551616) (hy:y < 18446744073709551616) (ha:ofF x=some A) (hb:ofF y=some B) (hv:mkV (A*B) (-131072)=some V):ACt 113 [uv x,uv y] (pV V):=by
 refine ac0 Tryz.func113 Tryz.ntmps113 [.cell 4 74] ?_;have C1:=(q8V hx ha);have C2:=(q8V hy hb);have C3:=(qnH hv);exact wk trivial
def qmN {A B:Int} {x:Nat} (h:ACt 137 [pV A,pV B,iv 0] (uv x)):ACt 72 [pV A,pV B] (uv x):=by
 refine ac0 Tryz.func72 Tryz.ntmps72 [.tmp 4] ?_;have C1:=@h;exact wk trivial
def qhM {A:Int} {x:Nat} (h:ACt 174 [pV A,iv 0] (uv x)):ACt 114 [pV A] (uv x):=by
 refine ac0 Tryz.func114 Tryz.ntmps114 [.tmp 2] ?_;have C1:=@h;exact wk trivial
def fL_U {x:Nat} {D:Nat→Prop} {v:Value} {w:World}:In (fL (x:Int)) D v w ↔ In (fU (lim x)) D v w:=Iff.rfl
def rd_P {G H:Fam} {w:World} {D:Nat→Prop} {v:Value} {ρ:Nat→Option Nat} {h:Hp} (hr:In (fP G H) D v w):Rd w D (.tu [.fm G,.fm H]) ρ h v:=by
 obtain ⟨a,b,rfl,h1,h2⟩:=hr;unfold Rd;refine ⟨[a,b],rfl,?_⟩;unfold RdL;refine ⟨_,_,rfl,q7T h1,?_⟩;unfold RdL;exact ⟨_,_,rfl,q7T h2,by unfold RdL; rfl⟩
def qcC {x y:Nat} (hx:bl x≤20000000) (hy:bl y≤20000000) (hy0:y≠0):ACt 268 [.fm (fL x),.fm (fL y)] (.tu [.fm (fL (x / y:Nat)),.fm (fL (x % y:Nat))]):=q1N (r:=.fm (fP (fL (x / y:Nat)) (fL (x % y:Nat)))) (fun D w v h=>rd_P (q2z h)) (q6u ql3 fun D w vs hT hF hR=>by
 obtain ⟨_,_,rfl,h3,h4⟩:=q6Y hR;exact qeS (fL_U.1 (q2z h3)) (fL_U.1 (q2z h4)) hx hy hy0 hF)
def q8L {s:Bool} {z:Nat} (hz:bl z≤20000000):ACt 208 [bv s,.fm (fL z)] (bT (sgn s z)):=q1N (r:=.fm (fB (sgn s z))) (fun D w v h=>q1B.2 (q2z h)) (q6u q3C fun D w vs hT hF hR=>by
 obtain ⟨_,_,rfl,h3,h4⟩:=q6Y hR;rw [q6W h3];obtain ⟨A,n,c,rfl,h5⟩:=q2z h4;have hn:=h5.len;have hl:=q05 (x:=z) Oq;rw [Int.natAbs_natCast] at hn h5;have:=q0x (q1a (s:=s) h5 Oq hF)
 rwa [q0I] at this)
def q8K {a:Int} (ha:bl a.natAbs≤20000000):ACt 157 [bT a] (bT a):=q1N (r:=.fm (fB a)) (fun D w v h=>q1B.2 (q2z h)) (q6u q6s fun D w vs hT hF hR=>by
 obtain ⟨_,rfl,h3⟩:=qal hR;exact qeO (q1B.1 h3) ha hF)
def q34 {a:Int} (ha:bl a.natAbs≤20000000):ACt 155 [bT a] (iv (bl a.natAbs:Nat)):=qvU qg1 fun D w vs hT hF hR=>by
 obtain ⟨_,rfl,h3⟩:=qal hR;exact q5z (q1B.1 h3) ha
def q9U {a:Int} (h1 : -9223372036854775808≤a) (h2:a≤9223372036854775807):ACt 150 [iv a] (bT a):=q1N (r:=.fm (fB a)) (fun D w v h=>q1B.2 (q2z h)) (q6u qg5 fun D w vs hT hF hR=>by
 obtain ⟨_,rfl,h3⟩:=qal hR;rw [q6W h3];exact q6f h1 h2 hF)
def sgn_f {z:Nat}:sgn false z=z:=rfl
def q6a {a b:Nat} (ha:bl a≤20000000) (hb:bl b≤20000000) (hb0:b≠0):ACt 248 [bT a,bT b] (.tu [bT (a / b:Nat),bT (a % b:Nat)]):=by
 have h1:=q0d (Nat.div_le_self a b);have h2:=q0d (Nat.mod_le a b);have cA:=q8K (a:=a) (by rw [Int.natAbs_natCast]; exact ha);have cB:=q8K (a:=b) (by rw [Int.natAbs_natCast]; exact hb);have cD:=qcC ha hb hb0;have cQ:=q8L (s:=false) (z:=a / b) Oq;have cR:=q8L (s:=false) (z:=a % b) Oq;have cS:=q1m (a:=(a % b:Nat)) (by rw [Int.natAbs_natCast]; omega);rw [sgn_f] at cQ cR;have d:∀ z:Nat,decide ((z:Int) < 0)=false:=fun z=>decide_eq_false Oq;have hs:((a % b:Nat):Int).sign < 0 ↔ False:=by
  rcases Nat.eq_zero_or_pos (a % b) with h | h
  ·rw [h]; simp
  ·rw [Int.sign_eq_one_of_pos (by omega)]; simp
 generalize ((a % b:Nat):Int).sign=sg at *;generalize a % b=r at *;generalize a / b=q at *;have hs':¬ sg < 0:=fun h=>hs.1 h;have e0:(false != false)=false:=rfl;unfold bT at *;rw [d] at *;simp only [d] at *;refine ac0 Tryz.func248 Tryz.ntmps248 [.cell 4 72,.cell 5 72] ?_;exact wk1 (x2 e0 hs') trivial
def nwt (a x:Nat):Nat:=if h:x≤(x+a / x) / 2 then x else nwt a ((x+a / x) / 2)
termination_by x
decreasing_by omega
def qn9 {a x:Nat} (h:x≤(x+a / x) / 2):nwt a x=x:=by rw [nwt,dif_pos h]
def qn8 {a x:Nat} (h:¬ x≤(x+a / x) / 2):nwt a x=nwt a ((x+a / x) / 2):=by rw [nwt,dif_neg h]
def sqN (a:Nat):Nat:=nwt a (2 ^ ((bl a+1) / 2))
def qkp {a k:Nat} (ha:0 < a):∀ x,0 < x→bl x≤k→0 < nwt a x∧bl (nwt a x)≤k:=fun x=>by
 induction x using Nat.strongRecOn with
 | _ x ih =>
  intro hx hk
  by_cases h:x≤(x+a / x) / 2
  ·rw [qn9 h]; exact ⟨hx,hk⟩
  ·rw [qn8 h];refine ih _ Oq ?_ (Nat.le_trans (q0d Oq) hk)
   by_cases h1:x=1
   ·subst h1; rw [Nat.div_one]; omega
   ·generalize a / x=q; omega
def qha {a:Nat} (ha0:0 < a) (ha:bl a≤1000000):ACt 257 [bT a] (bT (sqN a:Nat)):=by
 have cS:=q1m (a:=a) (by rw [Int.natAbs_natCast]; omega);have cB:=q34 (a:=a) (by rw [Int.natAbs_natCast]; omega);rw [Int.natAbs_natCast] at cB;have c1:=q9U (a:=1) Oq Oq;have e0:((a:Int).sign == 0)=false:=by rw [Int.sign_eq_one_of_pos (by omega)]; rfl
 obtain ⟨k,hk⟩:∃ k,k=(bl a+1) / 2:=⟨_,rfl⟩;have cH:=q4J (a:=1) (m:=k) (Nat.le_trans (q0T (k:=1) (by decide)) Oq) Oq Oq;have eH:shI 1 (k:Int)=((2 ^ k:Nat):Int):=by unfold shI; rw [if_pos (by omega),Int.one_mul,Int.toNat_natCast]; simp
 rw [eH] at cH;have hx0:0 < 2 ^ k:=Nat.pos_of_ne_zero (by simp);have hbx:bl (2 ^ k)≤500002:=Nat.le_trans (q0T (k:=k+1) (Nat.pow_lt_pow_right Oq Oq)) Oq;have hres:sqN a=nwt a (2 ^ k):=by rw [hk]; rfl
 rw [hres];clear hres eH;have dk:Int.tdiv ((bl a:Int)+1) 2=(k:Int):=by rw [hk]; rfl
 have cDM:∀ x:Nat,x≠0→bl x≤500002→_:=fun x h1 h2=>q6a (a:=a) (b:=x) Oq Oq h1;have cAd:∀ x q:Nat,bl x≤500002→bl q≤1000000→_:=fun x q h1 h2=>qmf (a:=x) (b:=q) (by rw [Int.natAbs_natCast]; omega) (by rw [Int.natAbs_natCast]; omega);generalize hx2:2 ^ k=x0 at *;have d:∀ z:Nat,decide ((z:Int) < 0)=false:=fun z=>decide_eq_false Oq;unfold bT at *;refine ac0 Tryz.func257 Tryz.ntmps257 [.cell 2 72] ?_;refine wk1 e0 ?_;have e2:((2:Int)=0)=False:=eq_false Oq;refine wk1 (x2 dk e2) ?_;refine q0L (fun x:Nat=>0 < x∧bl x≤500002∧nwt a x=nwt a x0) [1,2] [1,2] Lk Lk (fun _=>[(3,.pt 1001 0 0)]) (fun x=>[(1001,⟨72,some 2,[.ag [bv (decide ((x:Int) < 0)),.fm (fL x)]],false⟩)]) (fun x=>x) x0 ⟨hx0,hbx,rfl⟩ ?_ ?_
 ·refine LeM [(1001,some 3)] rfl rfl ?_;exact Zy
 ·rintro x ⟨hx,hbl,hr⟩;have hq:bl (a / x)≤1000000:=Nat.le_trans (q0d (Nat.div_le_self a x)) ha;have cD:=cDM x Oq hbl;have cA:=cAd x (a / x) hbl hq;have eA:(x:Int)+((a / x:Nat):Int)=((x+a / x:Nat):Int):=by omega
  rw [eA] at cA;have hbs:bl (x+a / x)≤1000001:=q3Y Oq hq;have cH:=q4J (a:=(x+a / x:Nat)) (m := -1) (by rw [Int.natAbs_natCast]; omega) (by omega) (by omega);have eH:shI ((x+a / x:Nat):Int) (-1)=(((x+a / x) / 2:Nat):Int):=by unfold shI; rw [if_neg (by omega)]; rfl
  rw [eH] at cH;have hby:bl ((x+a / x) / 2)≤1000001:=Nat.le_trans (q0d (Nat.div_le_self _ 2)) hbs;have cC:=qd1 (a:=((x+a / x) / 2:Nat)) (b:=x) (by rw [Int.natAbs_natCast]; omega) (by rw [Int.natAbs_natCast]; omega);have hy0:0 < (x+a / x) / 2:=by
   by_cases h1:x=1
   ·subst h1; rw [Nat.div_one]; omega
   ·generalize a / x=q; omega
  have n1:=@qn9 a x;have n2:=@qn8 a x;generalize (x+a / x) / 2=y at *;generalize x+a / x=z at *;generalize a / x=q at *;generalize a % x=r at *;unfold bT at *;simp only [d] at cA cD cH cC
  by_cases hxy:x≤y
  ·have es:(0:Int)≤((y:Int)-(x:Int)).sign:=by
    rcases Nat.lt_or_ge x y with h | h
    ·rw [Int.sign_eq_one_of_pos (by omega)]; omega
    ·rw [show (y:Int)-x=0 by omega]; simp
   refine wk1 es ?_;rw [← hr,n1 hxy]
  ·have es:¬ (0:Int)≤((y:Int)-(x:Int)).sign:=by
    rw [Int.sign_eq_neg_one_of_neg (by omega)]; omega
   refine wk1 es ?_;refine ⟨y,⟨hy0,Nat.le_trans (q0d (by omega)) hbl,by rw [← n2 hxy,hr]⟩,by omega,?_⟩;refine LeM [] rfl rfl ?_;exact Zy
def q5n {N M:Nat} {neg more:Bool} {mode e:Int} (hM:0 < M) (hN:M≤N) (hm:more=decide (N % M≠0)) (hmb:more=true→55≤bl (N / M)) (hb:bl (N / M)≤200000) (he1 : -200000≤e) (he2:e≤200000) :
  ACt 152 [bv neg,bT (N / M:Nat),iv e,bv more,iv mode] (uv (rE mode neg N M e:Nat)):=q5x rfl hM hN hm hmb hb he1 he2
def qhe {a b:Int} (ha:bl a.natAbs≤20000000) (hb:bl b.natAbs≤20000000):ACt 233 [bT a,bT b] (bT (a*b)):=qbU rfl rfl ha hb
def rtK (a b:Nat):Nat:=62+bl b-bl a
def qdW {a b:Nat} (ha0:a≠0) (hb0:b≠0) (ha:bl a≤200000) (hb:bl b≤200000) :
  ACt 200 [bT a,bT b,iv 60] (.tu [bT (a*2 ^ rtK a b / b:Nat),iv (-(rtK a b:Int)),bv (decide (a*2 ^ rtK a b % b≠0))]):=by
 obtain ⟨k,hk⟩:∃ k,k=rtK a b:=⟨_,rfl⟩;rw [← hk];unfold rtK at hk;have cA:=q34 (a:=a) (by rw [Int.natAbs_natCast]; omega);have cB:=q34 (a:=b) (by rw [Int.natAbs_natCast]; omega);rw [Int.natAbs_natCast] at cA cB;have cH:=q4J (a:=a) (m:=k) (by rw [Int.natAbs_natCast]; omega) (by omega) (by omega);have eH:shI a (k:Int)=((a*2 ^ k:Nat):Int):=by unfold shI; rw [if_pos (by omega),Int.toNat_natCast]; simp
 rw [eH] at cH;have hbk:bl (a*2 ^ k)≤600000:=by rw [q1i ha0]; omega
 have cD:=q6a (a:=a*2 ^ k) (b:=b) Oq Oq hb0;have hbm:=q0d (Nat.mod_le (a*2 ^ k) b);have cS:=q1m (a:=(a*2 ^ k % b:Nat)) (by rw [Int.natAbs_natCast]; omega);have w1:IntKind.i64.wrap ((62:Int)+(bl b:Nat))=((62+bl b:Nat):Int):=by rw [i64_in (by omega) (by omega)]; omega
 have w2:IntKind.i64.wrap (((62+bl b:Nat):Int)-(bl a:Nat))=((62+bl b:Nat):Int)-(bl a:Nat):=i64_in Oq Oq;have em:max (((62+bl b:Nat):Int)-(bl a:Nat)) 0=(k:Int):=by omega
 have w3:IntKind.i64.wrap (0-(k:Int)) = -(k:Int):=by rw [i64_in (by omega) (by omega)]; omega
 have es:(((a*2 ^ k % b:Nat):Int).sign != 0)=decide (a*2 ^ k % b≠0):=by
  by_cases h:a*2 ^ k % b=0
  ·rw [h]; rfl
  ·rw [Int.sign_eq_one_of_pos (by omega),decide_eq_true h]; rfl
 generalize decide (a*2 ^ k % b≠0)=mr at *;generalize ((a*2 ^ k % b:Nat):Int).sign=sg at *;generalize a*2 ^ k % b=r at *;generalize a*2 ^ k / b=q at *;generalize a*2 ^ k=m at *;unfold bT at *;have w0:IntKind.i64.wrap ((60:Int)+2)=62:=rfl;refine ac0 Tryz.func200 Tryz.ntmps200 [.cell 6 72,.tmp 7,.tmp 8] ?_;exact wk1 (x6 w0 w1 w2 em w3 es) trivial
def qnF {A B mode:Int} (hB0:B≠0):ACt 137 [pV A,pV B,iv mode] (uv (fQ mode A B:Nat)):=q6V (al':=[dT A,dT B,iv mode]) (p:=q0k A∧q0k B) qg6 (fun D w vs hR=>by
 obtain ⟨a,b,c,rfl,h1,h2,h3⟩:=rd_3 hR;obtain ⟨h4,h5⟩:=q2q.2 (q2z h1);obtain ⟨h6,h7⟩:=q2q.2 (q2z h2);refine ⟨?_,h5,h7⟩;unfold RdL;refine ⟨_,_,rfl,h4,?_⟩;unfold RdL;exact ⟨_,_,rfl,h6,RdL.one h3⟩) fun ⟨hA,hB⟩=>by
 obtain ⟨a1,a2,a3⟩:=q1L hA;obtain ⟨b1,b2,b3⟩:=q1L hB;have b4:=qbW hB;have cA:=q1P hA;have cB:=q1P hB;have sB:=q1m (a:=od B) Oq;have sA:=q1m (a:=od A) Oq;have oB:=q3c hB0;have e1:((od B).sign == 0)=false:=by simpa [Int.sign_eq_zero_iff_zero] using oB
 by_cases hA0:A=0
 ·have oA:od A=0:=by
   have:=q1z A;rw [hA0] at this ⊢
   rcases Int.mul_eq_zero.1 this with h | h
   ·exact h
   ·exact absurd h (Int.ne_of_gt (q08 _))
  have e2:((od A).sign == 0)=true:=by rw [oA]; rfl
  have hres:fQ mode A B=0:=by unfold fQ; rw [if_pos hA0]
  rw [hres];unfold dT at *;unfold bT at *;refine ac0 Tryz.func137 Tryz.ntmps137 [.tmp 6] ?_;refine wk1 (x2 e1 e2) ?_
  rfl
 have oA:=q3c hA0;have e2:((od A).sign == 0)=false:=by simpa [Int.sign_eq_zero_iff_zero] using oA
 have tA:=q9W (a:=od A) Oq;have tB:=q9W (a:=od B) Oq;have pA:(od A).natAbs≠0:=by omega
 have pB:(od B).natAbs≠0:=by omega
 have cR:=qdW pA pB Oq Oq;obtain ⟨k,hk⟩:∃ k,k=rtK (od A).natAbs (od B).natAbs:=⟨_,rfl⟩;rw [← hk] at cR;have hk2:62+bl (od B).natAbs-bl (od A).natAbs=k:=hk.symm;have hbk:=q1i pA (k:=k);have hge:=q8t pB (N:=(od A).natAbs*2 ^ k) (k:=60) (by rw [hbk]; omega);have hle:(od B).natAbs≤(od A).natAbs*2 ^ k:=by
  rcases Nat.lt_or_ge ((od A).natAbs*2 ^ k) (od B).natAbs with h | h
  ·rw [Nat.div_eq_of_lt h] at hge; simp [bl] at hge
  ·exact h
 have hbq:=q0d (Nat.div_le_self ((od A).natAbs*2 ^ k) (od B).natAbs);have hrd:=q5n (N:=(od A).natAbs*2 ^ k) (M:=(od B).natAbs) (neg:=decide (A < 0) != decide (B < 0)) (mode:=mode) (e:=dyE A-k-dyE B) (Nat.pos_of_ne_zero pB) hle rfl (fun _=>by omega) Oq Oq Oq;rw [qke hA0 hB0] at hrd;have hres:fQ mode A B=rF mode (decide (A < 0) != decide (B < 0)) A.natAbs B.natAbs:=by unfold fQ; rw [if_neg hA0]
 rw [hres];have w1:IntKind.i64.wrap (dyE A-dyE B)=dyE A-dyE B:=qhh Oq Oq;have w2:IntKind.i64.wrap (dyE A-dyE B + -(k:Int))=dyE A-k-dyE B:=by rw [i64_in (by omega) (by omega)]; omega
 have s1:=q1u A;have s2:=q1u B;generalize rF mode (decide (A < 0) != decide (B < 0)) A.natAbs B.natAbs=res at *;generalize decide ((od A).natAbs*2 ^ k % (od B).natAbs≠0)=mr at *;generalize (od A).natAbs*2 ^ k / (od B).natAbs=q at *;have d1:∀ z:Nat,decide ((z:Int) < 0)=false:=fun z=>decide_eq_false Oq;unfold dT at *;unfold bT at *;rw [← s1,← s2] at hrd;refine ac0 Tryz.func137 Tryz.ntmps137 [.tmp 6] ?_;exact wk1 (x4 e1 e2 w1 w2) trivial
def qiP {a x s:Nat} (hs:s*s≤a) (hx:0 < x):s≤(x+a / x) / 2:=by
 have h1:=Nat.div_add_mod a x;have h2:=Nat.mod_lt a hx;generalize a / x=q at *;generalize a % x=r at *
 rcases Nat.lt_or_ge (x+q) (2*s) with h | h
 ·exfalso
  have h3:x*(q+1)≤x*(2*s-x):=Nat.mul_le_mul_left x Oq;have h4:x*(2*s-x)≤s*s:=by
   rcases Nat.le_total x s with h5 | h5
   ·obtain ⟨d,rfl⟩:∃ d,s=x+d:=⟨s-x,by omega⟩;rw [show 2*(x+d)-x=x+2*d by omega,Nat.mul_add,Nat.mul_add,Nat.add_mul,Nat.add_mul];have:x*(2*d)=x*d+d*x:=by rw [Nat.mul_comm d x,← Nat.two_mul,Nat.mul_left_comm]
    omega
   ·obtain ⟨d,rfl⟩:∃ d,x=s+d:=⟨x-s,by omega⟩
    rcases Nat.le_total d s with h6 | h6
    ·obtain ⟨t,rfl⟩:∃ t,s=d+t:=⟨s-d,by omega⟩;rw [show 2*(d+t)-(d+t+d)=t by omega];have e1:(d+t+d)*t=d*t+t*t+d*t:=by rw [Nat.add_mul,Nat.add_mul]
     have e2:(d+t)*(d+t)=d*d+t*d+(d*t+t*t):=by rw [Nat.mul_add,Nat.add_mul,Nat.add_mul]
     have e3:t*d=d*t:=Nat.mul_comm _ _;omega
    ·rw [show 2*s-(s+d)=0 by omega]; omega
  rw [Nat.mul_add,Nat.mul_one] at h3;omega
 ·omega
def qs9 {a s:Nat} (hs:s*s≤a):∀ x,0 < x→0 < s→s≤x→s≤nwt a x:=fun x=>by
 induction x using Nat.strongRecOn with
 | _ x ih =>
  intro hx h0 hsx;have hy:=qiP hs hx
  by_cases h:x≤(x+a / x) / 2
  ·rw [qn9 h]; exact hsx
  ·rw [qn8 h];exact ih _ Oq Oq h0 hy
def qr3 {a:Nat} (ha:111≤bl a) (hb:bl a≤400000):55≤bl (sqN a)∧bl (sqN a)≤200002∧0 < sqN a:=by
 have ha0:0 < a:=by
  rcases Nat.eq_zero_or_pos a with h | h
  ·subst h; simp [bl] at ha
  ·exact h
 obtain ⟨k,hk⟩:∃ k,k=(bl a+1) / 2:=⟨_,rfl⟩;have hx0:0 < 2 ^ k:=Nat.pos_of_ne_zero (by simp);have e:sqN a=nwt a (2 ^ k):=by rw [hk]; rfl
 have h1:=qkp (k:=k+1) ha0 (2 ^ k) hx0 (q0T (Nat.pow_lt_pow_right Oq Oq));have h2:2 ^ 54≤nwt a (2 ^ k):=by
  refine qs9 (s:=2 ^ 54) ?_ _ hx0 (by decide) (Nat.pow_le_pow_right Oq Oq);rw [← Nat.pow_add]
  rcases Nat.lt_or_ge a (2 ^ (54+54)) with h | h
  ·have:=q0T h; omega
  ·exact h
 rw [← e] at h1 h2;refine ⟨?_,by omega,h1.1⟩
 rcases Nat.lt_or_ge (bl (sqN a)) 55 with h | h
 ·have:=q1d (k:=54) (show bl (sqN a)≤54 by omega);omega
 ·exact h
def td2 (z:Int) : -(z.natAbs:Int)≤Int.tdiv z 2∧Int.tdiv z 2≤z.natAbs ∧ -2≤Int.tmod z 2∧Int.tmod z 2≤2:=by
 have key:∀ n:Nat,Int.tdiv (n:Int) 2=((n / 2:Nat):Int)∧Int.tmod (n:Int) 2=((n % 2:Nat):Int):=fun n=>⟨rfl,rfl⟩;obtain ⟨n,rfl | rfl⟩:=Int.eq_nat_or_neg z
 ·rw [(key n).1,(key n).2]; omega
 ·rw [Int.neg_tdiv,Int.neg_tmod,(key n).1,(key n).2]; omega
def qhb {a:Nat} {x:Int} (ha0:a≠0) (ha:bl a≤150000) (h1 : -70000≤x) (h2:x≤70000):∃ (q:Nat) (e:Int) (more:Bool),ACt 234 [bT a,iv x,iv 60] (.tu [bT q,iv e,bv more])∧55≤bl q∧bl q≤200000∧0 < q ∧ -200000≤e∧e≤200000:=by
 have cB:=q34 (a:=a) (by rw [Int.natAbs_natCast]; omega);rw [Int.natAbs_natCast] at cB;obtain ⟨k0,hk0⟩:∃ k0,k0=126-bl a:=⟨_,rfl⟩;obtain ⟨od,hod⟩:∃ b,b=(Int.tmod (x-(k0:Int)) 2 != 0):=⟨_,rfl⟩;obtain ⟨k,hk⟩:∃ k,k=if od then k0+1 else k0:=⟨_,rfl⟩
 have hkb:k0≤k∧k≤k0+1:=by rw [hk]; split <;> omega
 have t1:=td2 (x-(k0:Int));have t2:=td2 (x-(k:Int));have cH:=q4J (a:=a) (m:=k) (by rw [Int.natAbs_natCast]; omega) (by omega) (by omega);have eH:shI a (k:Int)=((a*2 ^ k:Nat):Int):=by unfold shI; rw [if_pos (by omega),Int.toNat_natCast]; simp
 rw [eH] at cH;have hbk:bl (a*2 ^ k)=bl a+k:=q1i ha0 k;have hlp:=q45 ha0;have hm0:0 < a*2 ^ k:=Nat.mul_pos (Nat.pos_of_ne_zero ha0) (q0P k);have cS:=qha hm0 Oq;obtain ⟨q1,q2,q3⟩:=qr3 (a:=a*2 ^ k) Oq Oq;have hq:bl (sqN (a*2 ^ k))≤200000:=by
  have:=(qkp (k:=(bl (a*2 ^ k)+1) / 2+1) hm0 (2 ^ ((bl (a*2 ^ k)+1) / 2)) (q0P _) (q0T (Nat.pow_lt_pow_right Oq Oq))).2;have e:sqN (a*2 ^ k)=nwt (a*2 ^ k) (2 ^ ((bl (a*2 ^ k)+1) / 2)):=rfl;rw [e]; omega
 have cM:=qhe (a:=sqN (a*2 ^ k)) (b:=sqN (a*2 ^ k)) (by rw [Int.natAbs_natCast]; omega) (by rw [Int.natAbs_natCast]; omega);have hmm:=q2K (sqN (a*2 ^ k)) (sqN (a*2 ^ k));have cC:=qd1 (a:=(sqN (a*2 ^ k):Int)*sqN (a*2 ^ k)) (b:=(a*2 ^ k:Nat)) (by rw [Int.natAbs_mul,Int.natAbs_natCast]; omega) (by rw [Int.natAbs_natCast]; omega);refine ⟨sqN (a*2 ^ k),Int.tdiv (x-k) 2,(((sqN (a*2 ^ k):Int)*sqN (a*2 ^ k)-(a*2 ^ k:Nat)).sign != 0),?_,q1,hq,q3,by omega,by omega⟩;clear q1 q2 q3 hq hmm;have w1:IntKind.i64.wrap ((126:Int)-(bl a:Nat))=(126:Int)-(bl a:Nat):=i64_in Oq Oq;have em:max ((126:Int)-(bl a:Nat)) 0=(k0:Int):=by omega
 have w2:IntKind.i64.wrap (x-(k0:Int))=x-k0:=i64_in Oq Oq;have w3:IntKind.i64.wrap (Int.tmod (x-(k0:Int)) 2)=Int.tmod (x-(k0:Int)) 2:=i64_in Oq Oq;have w4:IntKind.i64.wrap ((k0:Int)+1)=((k0+1:Nat):Int):=by rw [i64_in (by omega) (by omega)]; omega
 have w5:IntKind.i64.wrap (x-(k:Int))=x-k:=i64_in Oq Oq;have w6:IntKind.i64.wrap (Int.tdiv (x-(k:Int)) 2)=Int.tdiv (x-(k:Int)) 2:=i64_in Oq Oq;have e2:((2:Int)=0)=False:=eq_false Oq;have v0:IntKind.i64.wrap ((2:Int)*60)=120:=rfl;have v1:IntKind.i64.wrap ((120:Int)+6)=126:=rfl;generalize (((sqN (a*2 ^ k):Int)*sqN (a*2 ^ k)-(a*2 ^ k:Nat)).sign)=sg at *;generalize sqN (a*2 ^ k)=q at *;generalize (q:Int)*q=qq at *;generalize a*2 ^ k=m at *;unfold bT at *;refine ac0 Tryz.func234 Tryz.ntmps234 [.cell 6 72,.tmp 7,.tmp 8] ?_;refine wk1 (x6 v0 v1 w1 em w2 (x3 w3 e2 hod.symm)) ?_;refine A_jn fun K0 hK0=>?_;have fin:∀ (s:Nat→PV) (h:Hp),s 1=iv x→s 3=.pt 3 0 0→s 6=.pt 6 0 0→s 9=iv k→h 3=some ⟨72,some 2,[.ag [bv (decide ((a:Int) < 0)),.fm (fL a)]],false⟩→h 6=some ⟨72,some 2,[.ag [.vl (.bool false),q6Z]],false⟩→h 10=none→K0 s h:=fun s h s1 s3 s6 s9 h3 h6 h10=>by
  refine hK0 _ _ ?_; clear hK0 K0;exact wk1 (x6 s1 s3 s6 s9 h3 (x5 h6 h10 w5 w6 e2)) trivial
 cases od with
 | false =>
  have:k=k0:=by simpa using hk
  subst this;refine wk ?_;refine fin _ _ ?_ ?_ ?_ ?_ ?_ ?_ ?_ <;> first | rfl | simp -implicitDefEqProofs (disch:=omega) only [go_sem,Nat.reduceEqDiff,Nat.reduceAdd,↓reduceIte]
 | true =>
  have:k=k0+1:=by simpa using hk
  subst this;refine wk1 w4 ?_;refine fin _ _ ?_ ?_ ?_ ?_ ?_ ?_ ?_ <;> first | rfl | simp -implicitDefEqProofs (disch:=omega) only [go_sem,Nat.reduceEqDiff,Nat.reduceAdd,↓reduceIte]
open Classical in
def q7V {V:Int} (hV:0 < V):∃ x:Nat,x < 18446744073709551616∧ACt 174 [pV V,iv 0] (uv x):=by
 by_cases hA:q0k V
 case neg =>
  refine ⟨0,by omega,qba,fun D w vs hT hF hR=>?_⟩;obtain ⟨_,_,rfl,h3,_⟩:=q6Y hR;exact (hA ((q2q (ρ:=fun _=>none) (h:=h0)).2 (q2z h3)).2).elim
 obtain ⟨a1,a2,a3⟩:=q1L hA;have oA:=q3c (show V≠0 by omega);have s1:=q1u V;have hpos:0 < od V:=by
  have h1:decide (od V < 0)=false:=by rw [s1]; exact decide_eq_false (by omega)
  have:=of_decide_eq_false h1;omega
 obtain ⟨a,ha⟩:∃ a:Nat,od V=a:=⟨(od V).toNat,by omega⟩;have ha0:a≠0:=by omega
 obtain ⟨q,e,more,cR,q1,q2,q3,e1,e2⟩:=qhb (a:=a) (x:=dyE V) ha0 (by rw [ha,Int.natAbs_natCast] at a3; omega) (by omega) (by omega);obtain ⟨N,M,hM,hN,hNM,hmore⟩:∃ N M:Nat,0 < M∧M≤N∧N / M=q∧more=decide (N % M≠0):=by
  cases more with
  | false=>exact ⟨q,1,by omega,by omega,Nat.div_one q,by rw [Nat.mod_one]; rfl⟩
  | true=>exact ⟨2*q+1,2,by omega,by omega,by omega,by rw [show (2*q+1) % 2=1 by omega]; rfl⟩
 have hrd:=q5n (N:=N) (M:=M) (neg:=false) (mode:=0) (e:=e) hM hN hmore (fun _=>by rw [hNM]; exact q1) (by rw [hNM]; exact q2) e1 e2;refine ⟨rE 0 false N M e,qnM hM hN,?_⟩;rw [hNM] at hrd;generalize rE 0 false N M e=res at *;have cA:=q1P hA;have sA:=q1m (a:=od V) Oq;have g1:¬ (od V).sign < 0:=by rw [Int.sign_eq_one_of_pos hpos]; omega
 have g2:((od V).sign == 0)=false:=by rw [Int.sign_eq_one_of_pos hpos]; rfl
 rw [← ha] at cR;refine q6V (al':=[dT V,iv 0]) (p:=True) qba (fun D w vs hR=>by
  obtain ⟨b,c,rfl,h1,h2⟩:=q6Y hR;refine ⟨?_,trivial⟩;unfold RdL;exact ⟨_,_,rfl,(q2q.2 (q2z h1)).1,RdL.one h2⟩) fun _=>?_
 unfold dT at *;unfold bT at *;refine ac0 Tryz.func174 Tryz.ntmps174 [.tmp 4] ?_;exact wk1 (x2 g1 g2) trivial
open Classical in
noncomputable def qeD (V:Int):Nat:=if h:0 < V then (q7V h).choose else 0
def qhv {V:Int}:qeD V < 18446744073709551616:=by
 unfold qeD
 split
 ·rename_i h; exact (q7V h).choose_spec.1
 ·omega
def qhx {V:Int} (hV:0 < V):ACt 174 [pV V,iv 0] (uv (qeD V:Nat)):=by
 unfold qeD;rw [dif_pos hV];exact (q7V hV).choose_spec.2
def q9M (raw:List Nat) (k:Int) (st n:Nat):List Nat:=(List.range n).map fun i:Nat=>q2s st (q5H raw (k+i))
def qaV {raw:List Nat} {k:Int} {st n:Nat}:(q9M raw k st n).length=n:=by simp [q9M]
def qqj {raw:List Nat} {k:Int} {st n:Nat}:q9M raw k st (n+1)=q9M raw k st n ++ [q2s st (q5H raw (k+n))]:=by simp [q9M,List.range_succ]
def keep (x:Nat):Prop:=0 < x / 1099511627776 % 3
instance {x:Nat}:Decidable (keep x):=inferInstanceAs (Decidable (_ < _))
def gC (raw:List Nat) (R st j:Nat) (p:List Int × List Nat):Nat→List Int × List Nat
 | 0=>p
 | i+1=>let q:=gC raw R st j p i
  if keep (q5H raw (100+j*R+i)) then (q.1 ++ [(i:Int)],q.2 ++ [q2s st (q5H raw (100+j*R+i))]) else q
def gM (raw:List Nat) (R st:Nat):Nat→List Int × List Int × List Nat
 | 0=>([0],[],[])
 | j+1=>let m:=gM raw R st j
  let p:=gC raw R st j m.2 R
  (m.1 ++ [(p.1.length:Int)],p)
abbrev pM (R C:Int) (m:List Int × List Int × List Nat):PV:=.ag [iv R,iv C,pI m.1,pI m.2.1,pF m.2.2]
def qfN {raw:List Nat} {R st j:Nat} {p:List Int × List Nat} (hp:p.1.length=p.2.length):∀ i,(gC raw R st j p i).1.length=(gC raw R st j p i).2.length∧(gC raw R st j p i).1.length≤p.1.length+i
 | 0=>⟨hp,Nat.le_refl _⟩
 | i+1=>by
  have:=qfN (raw:=raw) (R:=R) (st:=st) (j:=j) hp i;simp only [gC]
  split
  ·simp only [List.length_append,List.length_cons,List.length_nil]; omega
  ·omega
def qlG {raw:List Nat} {R st:Nat}:∀ j,(gM raw R st j).1.length=j+1∧(gM raw R st j).2.1.length=(gM raw R st j).2.2.length∧(gM raw R st j).2.1.length≤j*R
 | 0=>⟨rfl,rfl,by simp [gM]⟩
 | j+1=>by
  have h1:=qlG (raw:=raw) (R:=R) (st:=st) j;have h2:=qfN (raw:=raw) (R:=R) (st:=st) (j:=j) h1.2.1 R;simp only [gM];refine ⟨by simp [h1.1],h2.1,?_⟩;rw [Nat.succ_mul]; omega
def qc3 {raw : List Nat} {st : Int} {R C : Nat} (hr : raw.length ≤ 9223372036854775807) (hR : R ≤ 1000) (hC : C ≤ 1000) (h3 : -9223372036854775808 ≤ st) (h4 : st ≤ 9223372036854775807) :
    ACt 29 [pF raw, iv R, iv C, iv st] (pM R C (gM raw R (q19 st 4) C)) := by
  refine ac0 Tryz.func29 Tryz.ntmps29 [.cell 8 52] ?_
  refine wk ?_
  obtain ⟨sm, hsm⟩ : ∃ sm, sm = q19 st 4 := ⟨_, rfl⟩
  rw [← hsm]
  refine q0L (fun j => j ≤ C) [0, 1, 2, 3, 8, 9] [8] Lk Lk (fun j : Nat => [(10, iv j)]) (fun j => [(9, ⟨52, some 5, [.ag [iv R, iv C, .ow 1001 none 0 (gM raw R sm j).1.length, .ow 1002 none 0 (gM raw R sm j).2.1.length, .ow 1003 none 0 (gM raw R sm j).2.2.length]], false⟩), (1001, ⟨3, none, (gM raw R sm j).1.map fun z => iv z, false⟩), (1002, ⟨3, none, (gM raw R sm j).2.1.map fun z => iv z, false⟩), (1003, ⟨30, none, (gM raw R sm j).2.2.map fun z : Nat => uv z, false⟩)]) (fun j => C - j) 0 (Nat.zero_le _) ?_ ?_
  · refine LeM [(1001, some 15), (1002, none), (1003, none)] rfl rfl ?_
    refine Zz ?_
    exact ⟨rfl, ⟨rfl, rfl, rfl⟩, rfl, rfl, rfl⟩
  · intro j hj
    have hg := qlG (raw := raw) (R := R) (st := sm) j
    have hjR : j * R ≤ 1000 * 1000 := Nat.mul_le_mul Oq hR
    refine wk ?_
    by_cases hlt : j < C
    · have hlt' : (j : Int) < C := by omega
      refine wk1 hlt' ?_
      refine q0L (fun i => i ≤ R) [0, 1, 2, 3, 8, 9, 10] [8, 1001] Lk Lk (fun i : Nat => [(11, iv i)]) (fun i => [(9, ⟨52, some 5, [.ag [iv R, iv C, .ow 1001 none 0 (gM raw R sm j).1.length, .ow 1002 none 0 (gC raw R sm j (gM raw R sm j).2 i).1.length, .ow 1003 none 0 (gC raw R sm j (gM raw R sm j).2 i).2.length]], false⟩), (1002, ⟨3, none, (gC raw R sm j (gM raw R sm j).2 i).1.map fun z => iv z, false⟩), (1003, ⟨30, none, (gC raw R sm j (gM raw R sm j).2 i).2.map fun z : Nat => uv z, false⟩)]) (fun i => R - i) 0 (Nat.zero_le _) ?_ ?_
      · refine LeM [] rfl rfl ?_
        refine Zz ?_
        exact ⟨rfl, ⟨rfl, rfl⟩, rfl, rfl⟩
      · intro i hi
        have hq := qfN (raw := raw) (R := R) (st := sm) (j := j) hg.2.1 i
        refine wk ?_
        by_cases hlt2 : i < R
        · have hlt2' : (i : Int) < R := by omega
          refine wk1 hlt2' ?_
          have e0 : 0 ≤ (j : Int) * R := Int.mul_nonneg Oq Oq
          have e1 : (j : Int) * R ≤ 1000000 := by have : ((j * R : Nat) : Int) ≤ 1000000 := by omega
                                                  rwa [Int.natCast_mul] at this
          obtain ⟨x, hx⟩ : ∃ x, x = q5H raw (100 + j * R + i) := ⟨_, rfl⟩
          have hxl : x < 18446744073709551616 := by rw [hx]; exact q3p _ _
          have e2 : (((x : Nat) : Int).fdiv (2 ^ min (Int.toNat 40) 64)) = ((x / 1099511627776 : Nat) : Int) := by
            show (((x : Nat) : Int).fdiv (2 ^ 40)) = _
            rw [show ((2 : Int) ^ 40) = ((1099511627776 : Nat) : Int) from rfl, Int.fdiv_eq_ediv_of_nonneg _ (by omega)]; rfl
          have e3 : (((x / 1099511627776 : Nat) : Int).tmod 3) = ((x / 1099511627776 % 3 : Nat) : Int) := by rw [Int.tmod_eq_emod_of_nonneg (by omega)]; rfl
          have C1 := @q9J
          have C2 := @qkq
          have ek : (decide (((x / 1099511627776 % 3 : Nat) : Int) > 0)) = decide (keep x) := by unfold keep; congr 1; exact propext ⟨fun h => by omega, fun h => by omega⟩
          by_cases hkp : keep x
          · refine wk1 (x6 hx.symm hsm.symm e2 e3 ek hkp) ?_
            have eg : gC raw R sm j (gM raw R sm j).2 (i + 1) = ((gC raw R sm j (gM raw R sm j).2 i).1 ++ [(i : Int)], (gC raw R sm j (gM raw R sm j).2 i).2 ++ [q2s sm x]) := by
              simp only [gC]; rw [← hx, if_pos hkp]
            refine ⟨i + 1, by omega, by omega, ?_⟩
            rw [eg]
            refine LeM [(1002, some 43), (1003, some 51)] rfl rfl ?_
            refine Zz ?_
            omega
          · refine wk1 (x5 hx.symm e2 e3 ek hkp) ?_
            refine ⟨i + 1, by omega, by omega, ?_⟩
            have eg : gC raw R sm j (gM raw R sm j).2 (i + 1) = gC raw R sm j (gM raw R sm j).2 i := by
              simp only [gC]; rw [← hx, if_neg hkp]
            rw [eg]
            refine LeM [] rfl rfl ?_
            refine Zz ?_
            omega
        · have hlt2' : ¬ (i : Int) < R := by omega
          obtain rfl : i = R := by omega
          refine wk1 hlt2' ?_
          refine ⟨j + 1, by omega, by omega, ?_⟩
          refine LeM [(1001, some 59)] rfl rfl ?_
          refine Zz ?_
          exact ⟨by omega, ⟨by simp [gM], rfl, rfl⟩, rfl, rfl, rfl⟩
    · have hlt' : ¬ (j : Int) < C := by omega
      obtain rfl : j = C := by omega
      exact wk1 (x2 hlt' hsm.symm) trivial
def gF (raw:List Nat) (R st:Nat) (j i:Nat):Option Nat:=if keep (q5H raw (100+j*R+i)) then some (q2s st (q5H raw (100+j*R+i))) else none
def gC_s {raw:List Nat} {R st j i:Nat} {p:List Int × List Nat} {x:Nat} (hx:q5H raw (100+j*R+i)=x):gC raw R st j p (i+1)=if keep x then ((gC raw R st j p i).1 ++ [(i:Int)],(gC raw R st j p i).2 ++ [q2s st x]) else gC raw R st j p i:=by
 subst hx; rfl
def gF_x {raw:List Nat} {R st j i x:Nat} (hx:q5H raw (100+j*R+i)=x):gF raw R st j i=if keep x then some (q2s st x) else none:=by
 subst hx; rfl
def qme {f:Nat→Nat→Option Nat} {j i x:Nat} {p:List Int × List Nat} (h:f j i=some x):tC f j p (i+1)=((tC f j p i).1 ++ [(i:Int)],(tC f j p i).2 ++ [x]):=by simp only [tC,h]
def qrM {f:Nat→Nat→Option Nat} {j i:Nat} {p:List Int × List Nat} (h:f j i=none):tC f j p (i+1)=tC f j p i:=by simp only [tC,h]
def gC_eq {raw:List Nat} {R st j:Nat} {p:List Int × List Nat} {G:Nat→Nat→Option Nat} (hG:∀ i,G j i=gF raw R st j i) (i:Nat):gC raw R st j p i=tC G j p i:=by
 induction i with
 | zero=>unfold gC tC; rfl
 | succ i ih =>
  obtain ⟨x,hx⟩:∃ x,q5H raw (100+j*R+i)=x:=⟨_,rfl⟩;have e2:=(hG i).trans (gF_x (R:=R) (st:=st) hx);rw [gC_s hx,ih]
  by_cases h:keep x
  ·rw [if_pos h] at e2 ⊢;rw [qme e2]
  ·rw [if_neg h] at e2 ⊢;rw [qrM e2]
def gM_eq {raw:List Nat} {R st:Nat} (j:Nat):gM raw R st j=tM (gF raw R st) R j:=by
 induction j with
 | zero=>rfl
 | succ j ih =>
  have e1:gM raw R st (j+1)=((gM raw R st j).1 ++ [((gC raw R st j (gM raw R st j).2 R).1.length:Int)],gC raw R st j (gM raw R st j).2 R):=rfl;rw [e1,ih,gC_eq (G:=gF raw R st) fun _=>rfl]; rfl
def q9q {raw:List Nat} {st:Int} {R C:Nat} (hr:raw.length≤9223372036854775807) (hR:R≤1000) (hC:C≤1000) (h3 : -9223372036854775808≤st) (h4:st≤9223372036854775807) :
  ACt 29 [pF raw,iv R,iv C,iv st] (pT R C (gF raw R (q19 st 4))):=by
 have:=qc3 (R:=R) (C:=C) hr hR hC h3 h4;rw [gM_eq] at this;exact this
def num1_ok {x:Nat} (hx:x < 18446744073709551616):q0Y (q2s 1 x)∧q2s 1 x < 18446744073709551616:=by
 unfold q0Y q2s;rw [if_pos rfl];omega
def qnb {x:Nat} (hx:x < 18446744073709551616):q0Y (q2s 2 x)∧q2s 2 x < 18446744073709551616:=by
 unfold q0Y q2s;rw [if_neg (by omega),if_pos rfl];have h1:x / 9223372036854775808≤1:=by omega
 have h2:x / 256 % 81 < 81:=by omega
 have h3:x / 2251799813685248 % 2≤1:=by omega
 generalize x / 9223372036854775808=a at *;generalize x / 256 % 81=b at *;generalize x / 2251799813685248 % 2=c at *;omega
def qe4 {k x:Nat} (hx:x < 18446744073709551616):q0Y (q2s k x)∧q2s k x < 18446744073709551616:=by
 by_cases h1:k=1
 ·subst h1;unfold q0Y q2s;rw [if_pos rfl];omega
 by_cases h2:k=2
 ·subst h2; exact qnb hx
 by_cases h3:k=3
 ·subst h3;unfold q0Y q2s;rw [if_neg (by omega),if_neg (by omega),if_pos rfl]
  split <;> omega
 have hs:=q7L x;unfold q2s;rw [if_neg h1,if_neg h2,if_neg h3];exact ⟨q4s Oq,qfU Oq⟩
def qtH {raw:List Nat} {R C st:Nat} (hR:R≤200) (hC:C≤200) (hm:C*R≤10000):TOk (gF raw R st) R C:=by
 have key:∀ j i x,gF raw R st j i=some x→q0Y x∧x < 18446744073709551616:=fun j i x h=>by
  obtain ⟨u,hu⟩:∃ u,q5H raw (100+j*R+i)=u:=⟨_,rfl⟩;have hl:u < 18446744073709551616:=by rw [← hu]; exact q3p _ _
  rw [gF_x hu] at h
  split at h
  ·have h:=Option.some.inj h;rw [← h]; exact qe4 hl
  ·cases h
 exact ⟨hR,hC,hm,fun j i x _ _ h=>(key j i x h).2,fun j i x _ _ h=>(key j i x h).1⟩
section
variable {D:Nat→Prop} {L:List Nat} {N0 g n gy:Nat} {rows:List (List Int)} {ss:List (Option Addr × Nat × Nat)} {w w':World}
def Sums.kpo (h:Sums w D L N0 g n rows ss) (k:Kp (fun k=>k≠gy) w w') (hD:∀ k,D k→k≠gy) (hg:gy ∉ L):Sums w' D L N0 g n rows ss :=
 ⟨h.own.kp k (fun a ha=>by cases ha; exact fun e=>hg (e ▸ h.gL)),h.len,fun i s r a b=>(h.row i s r a b).kp k (fun k hd=>hD k hd.1) (fun A hA e=>hg (e ▸ (h.mem i s A a hA).1)),h.mem,h.ne,h.gL,h.lo,fun j hj=>Nat.lt_of_lt_of_le (h.hi j hj) k.size⟩
def qsL {mode:Int} {neg:Bool} {N M:Nat} (hN:0 < N) (hM:0 < M):rF mode neg N M < 18446744073709551616:=by
 have h1:M≤N*2 ^ bl M:=Nat.le_trans (Nat.le_of_lt (q2w M)) (Nat.le_mul_of_pos_left _ hN);have:=qnM (mode:=mode) (neg:=neg) (e := -((bl M:Nat):Int)) hM h1;unfold rE at this;rw [show (-((bl M:Nat):Int)).toNat=0 by omega,show (- -((bl M:Nat):Int)).toNat=bl M by omega,Nat.pow_zero,Nat.mul_one,q57 hN hM (q0P _)] at this;exact this
def q9z {mode a b:Int} (hb:b≠0):fQ mode a b < 18446744073709551616:=by
 unfold fQ
 split
 ·omega
 ·exact qsL Oq Oq
def qtX:Option (List Nat)→Fam
 | some ys=>fP (fSc q2h ys) (fc (.int .i64 0))
 | none=>fP (fSc q2h []) (fc (.int .i64 233))
structure RowsOk (f:Fac) (k:Nat) (rows:List (List Int)):Prop where
 len:rows.length=f.pm.length
 row:∀ r ∈ rows,r.length≤1+k∧∀ x ∈ r,bl x.natAbs≤67600
structure RowsIn (f:Fac) (k p b:Nat) (rows:List (List Int)):Prop where
 len:rows.length=f.pm.length
 row:∀ (i:Nat) (r:List Int),rows[i]?=some r→r.length≤2+k∧((∃ p',p≤p'∧p' < b∧f.ri[p']?=some (i:Int))→r.length≤1+k)∧∀ x ∈ r,bl x.natAbs≤67600
def RowsOk.into {f:Fac} {k p b:Nat} (h:RowsOk f k rows):RowsIn f k p b rows :=
 ⟨h.len,fun i r hr=>by
  obtain ⟨h1,h2⟩:=h.row r (List.mem_of_getElem? hr);exact ⟨by omega,fun _=>h1,h2⟩⟩
def RowsIn.out {f:Fac} {k p b:Nat} (h:RowsIn f k p b rows):RowsOk f (k+1) rows :=
 ⟨h.len,fun r hr=>by
  obtain ⟨i,hi⟩:=List.mem_iff_getElem?.1 hr;obtain ⟨h1,_,h2⟩:=h.row i r hi;exact ⟨by omega,h2⟩⟩
def RowsIn.step {f:Fac} {j a k p b i:Nat} {r:List Int} {x q:Nat} (hc:Col f j a b) (h:RowsIn f k p b rows) (hp1:a < p) (hp2:p < b) (hi:f.ri[p]?=some (i:Int)) (hr:rows[i]?=some r) (hx:q0Y x) (hq:q0Y q):RowsIn f k (p+1) b (rows.set i (r ++ [-(q1e x q)])):=by
 have h2:=(q0u hx hq).2;obtain ⟨l1,l2,l3⟩:=h.row i r hr;refine ⟨by rw [List.length_set]; exact h.len,fun i' r' hr'=>?_⟩
 rcases q1k hr' with ⟨rfl,rfl,_⟩ | ⟨hne,hr'⟩
 ·have:=l2 ⟨p,Nat.le_refl _,hp2,hi⟩;refine ⟨by simp; omega,?_,fun y hy=>?_⟩
  ·rintro ⟨p',h1,h2,h3⟩;have:=hc.mono (p'-p) p i i Oq Oq hi (by rw [show p+(p'-p)=p' by omega]; exact h3);rw [if_neg (by omega)] at this; omega
  ·rcases List.mem_append.1 hy with hy | hy
   ·exact l3 y hy
   ·simp at hy; subst hy; rwa [Int.natAbs_neg]
 ·obtain ⟨m1,m2,m3⟩:=h.row i' r' hr';exact ⟨m1,fun ⟨p',h1,h2,h3⟩=>m2 ⟨p',by omega,h2,h3⟩,m3⟩
def qeB {k:Nat} {f:Fac} {r:List Int} (h:RowsOk f k rows) (hr:r ∈ rows) (hk:k≤500):r.length≤501∧(∀ x ∈ r,q0k x)∧q0k (q1I r):=by
 obtain ⟨h1,h2⟩:=h.row r hr;refine ⟨by omega,fun x hx=>?_,?_⟩
 ·have:=h2 x hx; unfold q0k; omega
 ·have:=q7F (i:=r.length) h2 Oq;rw [List.take_length] at this;unfold q0k; omega
end
def inI {D:Nat→Prop} {a:Addr} {n c i:Nat} {l:List Int} {w:World} {z:Int} (h:In (fSc q4S l) D (.slice (some a) n c) w) (hi:l[i]?=some z):w.cell? (a.add i)=some (.int .i64 z):=by
 obtain ⟨_,hc,_,x⟩:=h.ixI hi; cases hc; exact x
def inU {D:Nat→Prop} {a:Addr} {n c i:Nat} {l:List Nat} {w:World} {z:Nat} (h:In (fSc q2h l) D (.slice (some a) n c) w) (hi:l[i]?=some z):w.cell? (a.add i)=some (.int .u64 (z:Int)):=by
 obtain ⟨_,hc,_,x⟩:=h.ixU hi; cases hc; exact x
def owG {B g n c j:Nat} {xs:List Value} {v:Value} {w:World} (h:Own w B 30 1 (some ⟨g,0,none⟩) n c xs) (hj:xs[j]?=some v):w.cell? ⟨g,j,none⟩=some v:=by
 obtain ⟨_,hg,_,hc,_⟩:=h.cell (List.getElem?_eq_some_iff.1 hj).1;cases hg;rw [hc]; exact (List.getElem?_eq_getElem _).symm.trans hj
def qc4 {E:Nat→Prop} {f:Fac} {v:Value} {A A2:Option Addr} {n c n2 c2:Nat} {l:List Nat} {ps:List Int} {w:World} (hT:q2i w) (h:In (fFac f) E v w) (ho:FacOk f) (hb:In (fSc q2h l) E (.slice A n c) w) (hl:q1f l) (hn:n=f.pm.length)
  (hp:In (fSc q4S ps) E (.slice A2 n2 c2) w) (hps:∀ x ∈ ps,0≤x∧x < n) (hpl:n2≤200) (hf:Fr E w) :
  Calls Tryz.prog 49 #[v,.slice A n c,.slice A2 n2 c2] w (Rt (qtX (qhG f ps (l.map fun x=>[ofZ x]) (List.replicate n 0))) E w):=by
 obtain ⟨A3,n3,c3,A4,n4,c4,A5,n5,c5,A6,n6,c6,rfl,h1,h2,h3,h4⟩:=q8h h;have l1:=h1.sc_len;have l2:=h2.sc_len;have l3:=h3.sc_len;have l4:=h4.sc_len;have lb:=hb.sc_len;have lp:=hp.sc_len;have hnb:=ho.n;have hbeg:=fun {w':World} {D':Nat→Prop} (hx:Ext w w') (hd:∀ k,k < w.heap.size→D' k) (hf':Fr D' w')=>qbg (D:=D') (vals:=l.map ofZ) (hT.ext hx) ((hb.sub fun k hk _=>hd k hk).ext hx) (by simp) Oq (fun i x hi=>⟨(hl x (List.mem_of_getElem? hi)).1,ofZ x,by simp [hi],q0g (hl x (List.mem_of_getElem? hi)).2⟩) hf';obtain ⟨N,hN⟩:∃ N,N=w.heap.size:=⟨_,rfl⟩;have b2:=h2.db (w':=w);have b3:=h3.db (w':=w);have b4:=h4.db (w':=w);have bp:=hp.db (w':=w);rw [← hN] at b2 b3 b4 bp;refine q0J Tryz.func49 rfl Tryz.ntmps49 (by kernel_rfl) ?_;refine q0A fun K hK=>?_;refine Zz ?_;refine q01 ?_;intro g3 w3 hg3 hx3 hb3 hs3;refine hK _ _ ?_; clear hK K;have hx:Ext w w3:=hx3;replace b2:=b2.ext hx;replace b3:=b3.ext hx;replace b4:=b4.ext hx;replace bp:=bp.ext hx;clear hx3;refine q7u (fun e' w'=>∃ (N0 g gy:Nat) (L:List Nat) (ss:List (Option Addr × Nat × Nat)),e' 3=.pointer (some ⟨g3,0,none⟩)∧e' 2=.slice A2 n2 c2∧e' 8=.slice (some ⟨g,0,none⟩) n n∧e' 9=.slice (some ⟨gy,0,none⟩) n n∧Ext w3 w'∧Sums w' (fun k=>k≠gy) L N0 g n (l.map fun x=>[ofZ x]) ss∧Own w' N 30 1 (some ⟨gy,0,none⟩) n n (List.replicate n (q2h 0))∧gy ∉ L∧g3 < N0∧N≤N0∧g3 < gy) ?_ ?_
 ·refine W_dA q0l (.one 0 (.one 2 (.one 3 (.alt (.one 1 (.one 5 (.one 4 (.one 6 .fin)))) (.one 4 (.one 1 (.one 5 (.one 6 .fin)))))))) (by kernel_rfl) fun KE wE hKE hxE=>?_;replace b2:=b2.ext hxE;replace b3:=b3.ext hxE;replace b4:=b4.ext hxE;replace bp:=bp.ext hxE;replace hb3:=hb3.ext hxE;replace hx:=hx.trans hxE;simp only [q0o] at hKE;have hlt3:=hb3.lt;have hmm:(l.map ofZ).map (fun V=>[V])=l.map fun x=>[ofZ x]:=by rw [List.map_map]; rfl
  rw [hmm] at hbeg;have hrp:List.replicate n (Value.int .u64 0)=List.replicate n (q2h 0):=rfl;have hNE:=hx.size;rw [← hN] at hNE;simp -implicitDefEqProofs (disch:=omega) only [go_sem,Nat.reduceEqDiff,Nat.reduceAdd,↓reduceIte,qbm,qbn,qgo,q8Z,qas,List.toList_toArray];refine ⟨?_,?_⟩
  ·refine q0F qgO (hbeg (D':=fun _=>True) hx (fun _ _=>trivial) (Fr.triv _)) ?_;rintro _ w14 ⟨rfl,hx14,L,ss,hS⟩; refine ⟨_,rfl,?_⟩;refine q6D (Nat.le_refl _) Oq (by unfold maxLen; omega) fun w17 hx17 hO17 hs17=>?_;have hs14:=hx14.size;refine hKE _ _ ⟨_,_,w14.heap.size,L,ss,Ue,Ue,Ue,Ue,(hxE.trans hx14).trans hx17,(hS.sub (D':=fun k=>k≠w14.heap.size) fun k hk _=>by omega).ext hx17,hO17.mono Oq,fun hm=>?_,hlt3,hNE,by omega⟩;have:=hS.hi _ hm;omega
  ·refine q6D (Nat.le_refl _) Oq (by unfold maxLen; omega) fun w17 hx17 hO17 hs17=>?_;refine q0F qgO (hbeg (D':=fun k=>k≠wE.heap.size) (hx.trans hx17) (fun k hk=>by omega) (fun k hk=>by omega)) ?_;rintro _ w14 ⟨rfl,hx14,L,ss,hS⟩; refine ⟨_,rfl,?_⟩;refine hKE _ _ ⟨_,_,wE.heap.size,L,ss,Ue,Ue,Ue,Ue,(hxE.trans hx17).trans hx14,hS,(hO17.mono Oq).ext hx14,fun hm=>?_,by omega,by omega,hlt3⟩;have:=hS.lo _ hm;omega
 ·rintro e0 w1 ⟨N0,g,gy,L,ss,k3,k2,k8,k9,hx1,hS,hO,hgL,hgN,hNN,hg3y⟩;replace b2:=b2.ext hx1;replace b3:=b3.ext hx1;replace b4:=b4.ext hx1;replace bp:=bp.ext hx1;replace hb3:=hb3.ext hx1;replace hx:=hx.trans hx1;refine q0B fun K0 hK0=>?_;refine Wz1 k2 ?_;refine q0X ?_;refine q0a (fun e2 w2=>∃ (i:Nat) (L:List Nat) (rows:List (List Int)) (ys:List Nat) (ss:List (Option Addr × Nat × Nat)),e2 20=.int .i64 i∧i≤n2∧Ext w w2∧Blk w2 g3 27 #[.slice A3 n3 c3,.slice A4 n4 c4,.slice A5 n5 c5,.slice A6 n6 c6]∧In (fSc q4S f.cp) (Db E N) (.slice A4 n4 c4) w2∧In (fSc q4S f.ri) (Db E N) (.slice A5 n5 c5) w2∧In (fSc q2h f.vs) (Db E N) (.slice A6 n6 c6) w2∧In (fSc q4S ps) (Db E N) (.slice A2 n2 c2) w2∧Sums w2 (fun k=>k≠gy) L N0 g n rows ss∧Own w2 N 30 1 (some ⟨gy,0,none⟩) n n (ys.map q2h)∧gy ∉ L∧RowsOk f i rows∧ys.length=n∧qhG f (ps.drop i) rows ys=qhG f ps (l.map fun x=>[ofZ x]) (List.replicate n 0)) (fun e2 _=>n2-(RowKit.intOf (e2 20)).toNat) ⟨0,L,_,_,ss,rfl,Nat.zero_le _,hx,hb3,b2,b3,b4,bp,hS,by rw [List.map_replicate]; exact hO,hgL,⟨by simp; omega,fun r hr=>?_⟩,by simp,rfl⟩ ?_
  ·rw [List.mem_map] at hr;obtain ⟨y,hy,rfl⟩:=hr;exact ⟨by simp,fun x hx=>by simp at hx; subst hx; exact q6B (hl y hy).2⟩
  clear hx hb3 b2 b3 b4 bp hS hO hgL;rintro e1 w2 ⟨i,L,rows,ys,ss,k20,hi,hx,hb3,b2,b3,b4,bp,hS,hO,hgL,hR,hys,hfw⟩ hkk;have r3:e1 3=.pointer (some ⟨g3,0,none⟩):=(hkk 3 (by kernel_rfl)).trans Ue;have r8:e1 8=.slice (some ⟨g,0,none⟩) n n:=(hkk 8 (by kernel_rfl)).trans Ue;have r9:e1 9=.slice (some ⟨gy,0,none⟩) n n:=(hkk 9 (by kernel_rfl)).trans Ue;have r18:e1 18=.slice A2 n2 c2:=(hkk 18 (by kernel_rfl)).trans Ue;have r19:e1 19=.int .i64 n2:=(hkk 19 (by kernel_rfl)).trans Ue;clear hkk
  by_cases hlt:i < n2
  ·have hlt':(i:Int) < n2:=by omega
   refine Wz3 k20 r19 hlt' ?_;refine q0B fun K1 hK1=>?_;refine Wt (q0G (hK1 _ _ ?_));clear hK1;refine q0N fun K hK=>?_;obtain ⟨x,hxi⟩:∃ x,ps[i]?=some x:=⟨_,List.getElem?_eq_getElem Oq⟩;obtain ⟨hx0,hxn⟩:=hps x (List.mem_of_getElem? hxi);obtain ⟨k,rfl⟩:∃ k:Nat,x=(k:Int):=⟨x.toNat,by omega⟩;obtain ⟨adp,rfl,ip,xp⟩:=bp.ixI hxi;obtain ⟨a,b,hcol⟩:=ho.col k Oq;obtain ⟨dx,dV,d1,d2,d3⟩:=hcol.diag;obtain ⟨ad2,rfl,i2,x2⟩:=b2.ixI hcol.ha;obtain ⟨ad4,rfl,i4,x4⟩:=b4.ixU d1;have hrl:=hR.len;obtain ⟨r,hrk⟩:∃ r,rows[k]?=some r:=⟨_,List.getElem?_eq_getElem Oq⟩;obtain ⟨s1,s2,s3⟩:=qeB hR (List.mem_of_getElem? hrk) Oq;obtain ⟨hdx,hdf⟩:=ho.vals dx (List.mem_of_getElem? d1);obtain ⟨q,hq⟩:∃ q,q=fQ 0 (q1I r) dV:=⟨_,rfl⟩;obtain ⟨D,hDq⟩:∃ D:Nat→Prop,D=fun _=>True:=⟨_,rfl⟩;have hDl:∀ k,Dl D [] k:=fun k=>⟨by rw [hDq]; trivial,by simp⟩;have hD:Fr (Dl D []) w2:=fun k _=>hDl k;have ik:(0:Int)≤(k:Int)∧(k:Int) < n:=by omega
   refine Wz4 r18 k20 ip xp ?_;refine q0B fun K2 hK2=>?_;have hqu:=fun {w:World} {v v':Value} (hT:q2i w) (h:In (fV (q1I r)) (Dl D []) v w) (h':In (fV dV) (Dl D []) v' w) (hf:Fr (Dl D []) w)=>qlM hT h h' Oq hf;rw [← hq] at hqu;clear x2 x4 xp;refine qaR q0l (Kp (fun k=>k ∉ ([]:List Nat))) (fun _ _=>False) (Kp.pre _) [true,true,true,true,false,true,true,true,true,true,true,true,true,true,false,false,false,false] [false,false,false,false,false,false,false,false,false,false,false,false,false,false,false,false,false,false] [1,1,1,1,0,1,1,1,1,1,1,1,1,1,0,0,1,1] (by kernel_rfl) ?_
   apply Exists.intro
   refine ⟨fun wE hE KE hKE=>?_,fun wE hE KE hKE=>?_,fun wE hxE hr=>?_⟩
   ·skip
    replace hE:=Kp.all hE;replace hb3:=hb3.ext hE;replace b2:=b2.ext hE;replace b3:=b3.ext hE;replace b4:=b4.ext hE;replace bp:=bp.ext hE;replace hS:=hS.ext hE;replace hO:=hO.ext hE;refine Zz10 r3 r8 r9 hb3.c1 hb3.c3 i2 (inI b2 hcol.ha) i4 (inU b4 d1) ik ?_;exact hKE
   ·exact hE.elim
   simp only [q2D,q2F,q2E];replace b2:=b2.ext hxE;replace b3:=b3.ext hxE;replace b4:=b4.ext hxE;replace bp:=bp.ext hxE;replace hS:=hS.ext hxE;replace hO:=hO.ext hxE;replace hb3:=hb3.ext hxE;replace hD:=hD.kp hxE;replace hx:=hx.trans hxE;simp -implicitDefEqProofs (disch:=omega) only [go_sem,Nat.reduceEqDiff,Nat.reduceAdd,↓reduceIte,List.toList_toArray,r3,r8,r9,hb3.c1,hb3.c3,i2,(inI b2 hcol.ha),i4,(inU b4 d1),ik];refine Cr qpF (qa0 (hT.ext hx) (hS.sub (D':=Dl D []) fun k _ _=>hDl k) hrk Oq s2 s3 (fun k _=>hDl k) hD) fun v28 w28 hx28 h28=>?_;replace b2:=b2.ext hx28;replace b3:=b3.ext hx28;replace b4:=b4.ext hx28;replace bp:=bp.ext hx28;replace hS:=hS.ext hx28;replace hO:=hO.ext hx28;replace hb3:=hb3.ext hx28;replace hD:=hD.kp hx28;replace hx:=hx.trans hx28;replace hr:=hr.trans (Kp.of_ext hx28);clear hx28;refine ⟨hr,?_⟩;refine Cr qce (qfk (hT.ext hx) hdx d2 hD) fun v38 w38 hx38 h38=>?_;replace b2:=b2.ext hx38;replace b3:=b3.ext hx38;replace b4:=b4.ext hx38;replace bp:=bp.ext hx38;replace hS:=hS.ext hx38;replace hO:=hO.ext hx38;replace h28:=h28.ext hx38;replace hb3:=hb3.ext hx38;replace hD:=hD.kp hx38;replace hx:=hx.trans hx38;replace hr:=hr.trans (Kp.of_ext hx38);clear hx38;refine ⟨hr,?_⟩;refine Ck qpG (hqu (hT.ext hx) h28 h38 hD) fun w39 hx39=>?_;replace b2:=b2.ext hx39;replace b3:=b3.ext hx39;replace b4:=b4.ext hx39;replace bp:=bp.ext hx39;replace hS:=hS.ext hx39;replace hO:=hO.ext hx39;replace h28:=h28.ext hx39;replace h38:=h38.ext hx39;replace hb3:=hb3.ext hx39;replace hD:=hD.kp hx39;replace hx:=hx.trans hx39;replace hr:=hr.trans (Kp.of_ext hx39);clear hx39;refine ⟨hr,?_⟩;have hqlt:q < 18446744073709551616:=by rw [hq]; exact q9z Oq
   have hyl:(ys.map q2h).length=n:=by rw [List.length_map]; exact hys
   refine qac hO (by omega:k < n) qmj rfl rfl fun w5 hO5 hk5 hs5=>?_;replace hS:=hS.kpo hk5 (fun _ h=>h) hgL;replace b2:=b2.kpb hk5 fun k hk=>by omega
   replace b3:=b3.kpb hk5 fun k hk=>by omega
   replace b4:=b4.kpb hk5 fun k hk=>by omega
   replace bp:=bp.kpb hk5 fun k hk=>by omega
   replace hb3:=hb3.kpne hk5 Oq;replace hx:=hx.under hk5 fun k hk=>by omega
   have cy:=hO5.cell_set Oq;have hO6:Own w5 N 30 1 (some ⟨gy,0,none⟩) n n ((ys.set k q).map q2h):=by rw [List.map_set]; exact hO5
   clear hO hO5 hk5 hD;simp only [q0o];refine hK2 _ _ ?_; clear hK2;refine q0B fun K3 hK3=>?_;refine q0A fun K hK=>?_;refine Zz3 r9 ik cy ?_;refine q0F qpE (q5F hqlt) ?_;rintro _ _ ⟨rfl,rfl⟩; refine ⟨_,rfl,?_⟩;have hdr:ps.drop i=(k:Int) :: ps.drop (i+1):=by
    rw [List.drop_eq_getElem_cons (by omega)]
    congr 1
    exact Option.some.inj ((List.getElem?_eq_getElem Oq).symm.trans hxi)
   rw [hdr,q8d hcol.ha hcol.hb d1 hrk,q0t d2,← hq] at hfw
   by_cases hfin:q0Y q
   ·rw [if_pos hfin] at hfw;rw [decide_eq_true hfin];refine Zz ?_;refine hK _ _ ?_; clear hK;refine Wf (q0G (hK3 _ _ ?_));clear hK3;obtain ⟨k1,hk1⟩:∃ k1,k1=k+1:=⟨_,rfl⟩;have hcb:=hcol.hb;rw [← hk1] at hcb;have hle:=hcol.le;have hlt:=hcol.lt;have hrib:=ho.rib;have hril:=ho.ril;obtain ⟨_,hcc,i2',x2'⟩:=b2.ixI hcol.ha;cases hcc;have e1':IntKind.i64.wrap ((a:Int)+1)=((a+1:Nat):Int):=by rw [i64_in Oq (by omega)]; omega
    have e2':IntKind.i64.wrap ((k:Int)+1)=(k1:Int):=by rw [i64_in Oq (by omega)]; omega
    clear cy i2;refine Wz5 r3 hb3.c1 i2' x2' e1' ?_;refine q0X ?_;refine q0a (fun e2 w2=>∃ (p:Nat) (L:List Nat) (rows':List (List Int)) (ss:List (Option Addr × Nat × Nat)),e2 12=.int .i64 p∧a+1≤p∧p≤b∧Ext w w2∧Blk w2 g3 27 #[.slice A3 n3 c3,.slice (some ad2) n4 c4,.slice A5 n5 c5,.slice (some ad4) n6 c6]∧In (fSc q4S f.cp) (Db E N) (.slice (some ad2) n4 c4) w2∧In (fSc q4S f.ri) (Db E N) (.slice A5 n5 c5) w2∧In (fSc q2h f.vs) (Db E N) (.slice (some ad4) n6 c6) w2∧In (fSc q4S ps) (Db E N) (.slice (some adp) n2 c2) w2∧Sums w2 (fun k=>k≠gy) L N0 g n rows' ss∧Own w2 N 30 1 (some ⟨gy,0,none⟩) n n ((ys.set k q).map q2h)∧gy ∉ L∧RowsIn f i p b rows'∧qd6 f q p (b-p) rows'=qd6 f q (a+1) (b-(a+1)) rows) (fun e2 _=>b-(RowKit.intOf (e2 12)).toNat) ⟨a+1,L,rows,ss,rfl,Nat.le_refl _,hlt,hx,hb3,b2,b3,b4,bp,hS,hO6,hgL,hR.into,rfl⟩ ?_;clear hx hb3 b2 b3 b4 bp hS hO6 hgL x2' hrk hR hrl s1 s2 s3;rintro e3 w6 ⟨p,L,rows',ss,k12,hp1,hp2,hx,hb3,b2,b3,b4,bp,hS,hO,hgL,hR,hsub⟩ hkk;have q3:e3 3=.pointer (some ⟨g3,0,none⟩):=(hkk 3 (by kernel_rfl)).trans Ue;have q8:e3 8=.slice (some ⟨g,0,none⟩) n n:=(hkk 8 (by kernel_rfl)).trans Ue;have q9:e3 9=.slice (some ⟨gy,0,none⟩) n n:=(hkk 9 (by kernel_rfl)).trans Ue;have q11:e3 11=.int .i64 k:=(hkk 11 (by kernel_rfl)).trans Ue;have q20:e3 20=.int .i64 i:=(hkk 20 (by kernel_rfl)).trans Ue;clear hkk;obtain ⟨_,hcc,i2,x2⟩:=b2.ixI hcb;cases hcc
    by_cases hlt2:p < b
    ·have hlt2':(p:Int) < b:=by omega
     refine q0B fun K5 hK5=>?_;refine q0A fun K hK=>?_;simp -implicitDefEqProofs (disch:=omega) only [go_sem,Nat.reduceEqDiff,Nat.reduceAdd,↓reduceIte,k12,q3,hb3.c1,q11,e2',i2,x2,hlt2'];refine hK _ _ ?_; clear hK K;refine Wt (q0G (hK5 _ _ ?_));clear hK5;refine q0N fun K6 hK6=>?_;obtain ⟨j0,hj1,hj2,hj3⟩:=hcol.row ho.n Oq hlt2;obtain ⟨xv,hxv⟩:∃ xv,f.vs[p]?=some xv:=⟨_,List.getElem?_eq_getElem Oq⟩;obtain ⟨hv1,hv2⟩:=ho.vals xv (List.mem_of_getElem? hxv);obtain ⟨ad5,rfl,i5,x5⟩:=b3.ixI hj1;obtain ⟨_,hcc,i6,x6⟩:=b4.ixU hxv;cases hcc;have hyu:((ys.set k q).map q2h)[k]?=some (.int .u64 (q:Int)):=by rw [List.getElem?_map,List.getElem?_set_self (by omega)]; rfl
     have hrl:=hR.len;obtain ⟨r,hrk⟩:∃ r,rows'[j0]?=some r:=⟨_,List.getElem?_eq_getElem Oq⟩;have hrl2:=(hR.row j0 r hrk).1;have hgy:gy < w6.heap.size:=by
      rcases hO.form with ⟨h0,_⟩ | ⟨_,_,h0,_,hb,_⟩
      ·cases h0
      ·cases h0; exact hb.lt
     clear x2 x5 x6;obtain ⟨hmu,_⟩:=q0u hv2 hfin;refine qaR q0l (Kp (fun k=>k ∉ ([]:List Nat))) (fun _ _=>False) (Kp.pre _) [true,true,true,true,true,true,true,true,true,true,true,true,true,true,true,false] [false,false,false,false,false,false,false,false,false,false,false,false,false,false,false,false] [1,1,1,1,1,1,1,1,1,1,1,1,1,1,1,1] (by kernel_rfl) ?_
     apply Exists.intro
     refine ⟨fun wE hE KE hKE=>?_,fun wE hE KE hKE=>?_,fun wE hxE hr=>?_⟩
     ·skip
      replace hE:=Kp.all hE;replace hb3:=hb3.ext hE;replace b2:=b2.ext hE;replace b3:=b3.ext hE;replace b4:=b4.ext hE;replace bp:=bp.ext hE;replace hS:=hS.ext hE;replace hO:=hO.ext hE;refine Zz13 k12 q3 q8 q9 q11 hb3.c2 hb3.c3 i5 (inI b3 hj1) i6 (inU b4 hxv) ik (owG hO hyu) ?_;exact hKE
     ·exact hE.elim
     simp only [q2D,q2F,q2E];replace b2:=b2.ext hxE;replace b3:=b3.ext hxE;replace b4:=b4.ext hxE;replace bp:=bp.ext hxE;replace hS:=hS.ext hxE;replace hO:=hO.ext hxE;replace hb3:=hb3.ext hxE;replace hx:=hx.trans hxE;clear hr;simp -implicitDefEqProofs (disch:=omega) only [go_sem,Nat.reduceEqDiff,Nat.reduceAdd,↓reduceIte,List.toList_toArray,k12,q3,q8,q9,q11,hb3.c2,hb3.c3,i5,(inI b3 hj1),i6,(inU b4 hxv),ik,(owG hO hyu)];have hw':=hxE.size;refine q0F qpD (q5p (hT.ext hx) hS hrk hv1 hqlt (q0g hv2) (q0g hfin) hmu Oq (fun k hk=>by omega)) ?_;rintro _ w7 ⟨rfl,hk7,L',ss',hL1,hL2,hS7⟩; refine ⟨_,rfl,?_⟩;have hlo:∀ j,j < N→j ∉ L:=fun j hj hm=>by have:=hS.lo j hm; omega
     replace b2:=b2.kpb hk7 hlo;replace b3:=b3.kpb hk7 hlo;replace b4:=b4.kpb hk7 hlo;replace bp:=bp.kpb hk7 hlo;replace hb3:=hb3.kp hk7 fun hm=>by have:=hS.lo _ hm; omega
     replace hx:=hx.under hk7 fun j hj=>hlo j Oq;replace hO:=hO.kp hk7 fun a ha=>by cases ha; exact hgL
     have hgL7:gy ∉ L':=fun hm=>by
      rcases hL2 _ hm with h | h
      ·exact hgL h
      ·omega
     simp only [q0o,qns];refine hK6 _ _ ?_; clear hK6;refine q0Q fun K9 hK9=>?_;refine Zz2 k12 @i64_in ?_;refine hK9 _ _ ?_; clear hK9 K9;refine ⟨⟨p+1,L',_,ss',rfl,by omega,by omega,hx,hb3,b2,b3,b4,bp,hS7,hO,hgL7,hR.step hcol Oq hlt2 hj1 hrk hv2 hfin,?_⟩,by simp only [q0E,↓reduceIte,RowKit.intOf,k12]; omega⟩;rw [← hsub,show b-p=(b-(p+1))+1 by omega,q8N hj1 hxv hrk]
    ·have hlt2':¬ (p:Int) < b:=by omega
     refine q0B fun K5 hK5=>?_;refine q0A fun K hK=>?_;simp -implicitDefEqProofs (disch:=omega) only [go_sem,Nat.reduceEqDiff,Nat.reduceAdd,↓reduceIte,k12,q3,hb3.c1,q11,e2',i2,x2,hlt2'];refine hK _ _ ?_; clear hK K;refine Wf (q04 (hK _ _ ?_));obtain rfl:p=b:=by omega
     rw [Nat.sub_self] at hsub;rw [← hsub] at hfw;refine q0Q fun K9 hK9=>?_;refine Zz2 q20 @i64_in ?_;refine hK9 _ _ ?_; clear hK9 K9;exact ⟨⟨i+1,L,rows',ys.set k q,ss,rfl,by omega,hx,hb3,b2,b3,b4,bp,hS,hO,hgL,hR.out,by rw [List.length_set]; exact hys,hfw⟩,by simp only [q0E,↓reduceIte,RowKit.intOf,k20]; omega⟩
   ·rw [if_neg hfin] at hfw;rw [decide_eq_false hfin];refine Zz ?_;refine hK _ _ ?_; clear hK;refine Wt ?_;refine Wz ?_;refine q0O ?_
    try simp only [q0D,q0S]
    refine q8S rfl ⟨_,rfl,hx,by rw [← hfw]; exact ⟨_,_,rfl,by simp only [q0E,Nat.reduceEqDiff,↓reduceIte]; exact In.sc_nil,by simp only [q0E,Nat.reduceEqDiff,↓reduceIte]; exact rfl⟩⟩
  ·have hlt':¬ (i:Int) < n2:=by omega
   refine Wz3 k20 r19 hlt' ?_;refine q0B fun K1 hK1=>?_;refine Wf (q04 (hK0 _ _ ?_));obtain rfl:i=n2:=by omega
   rw [List.drop_of_length_le (by omega)] at hfw;rw [← hfw];refine Wz1 r9 ?_;refine q0O ?_
   try simp only [q0D,q0S]
   refine q8S rfl ⟨_,rfl,hx,⟨_,_,rfl,by simp only [q0E,Nat.reduceEqDiff,↓reduceIte]; exact qn3 hO fun k hk=>hf k Oq,by simp only [q0E,Nat.reduceEqDiff,↓reduceIte]; exact rfl⟩⟩
def nz_V {V:Int}:Nz (pV V):=fun w D B v hB h=>by
 obtain ⟨s,A,n,c,rfl,⟨h1,h2⟩,h3⟩:=q2z h;refine q7T ⟨s,A,n,c,rfl,⟨h1,⟨h2.1.cap,h2.1.len,fun hx=>?_⟩,h2.2⟩,h3⟩;obtain ⟨ad,hA,hd,hcell⟩:=h2.1.at_ hx;refine ⟨ad,hA,⟨hd,fun hb=>?_⟩,hcell⟩;obtain ⟨cs,T,hb,hc⟩:=hB _ hb;obtain ⟨x,hx0⟩:∃ x,((lim (od V).natAbs).map q7z)[0]?=some x:=⟨_,List.getElem?_eq_getElem hx⟩;have h1:=hcell 0 x hx0;have h2:∃ d:Int,x=.int .u32 d:=by
  rw [List.getElem?_map] at hx0;cases hl:(lim (od V).natAbs)[0]? with
  | none=>rw [hl] at hx0; cases hx0
  | some d=>rw [hl] at hx0; exact ⟨_,(Option.some.inj hx0).symm⟩
 obtain ⟨d,rfl⟩:=h2;have h3:w.heap[ad.block]?=some (.cells cs T (0,0)):=hb;have h4:(ad.add 0).block=ad.block:=q1U ad 0;unfold World.cell? at h1;rw [h4,h3] at h1;simp only at h1
 split at h1
 ·cases h1
 ·have:=hc _ (Array.mem_toList_iff.2 (Array.mem_of_getElem? h1));cases this
abbrev pVs (l:List Int):PV:=.sl (some 4) (l.map fun V=>pV V)
def clV {l:List Int}:ClL (l.map fun V=>pV V):=fun x hx=>by
 obtain ⟨e,_,rfl⟩:=List.mem_map.1 hx
 trivial
def qgG {l:List Int} (hn:l.length≤1000) (hv:q0k (q1I l)):ACt 95 [pVs l] (pV (q1I l)):=⟨by kernel_rfl,fun D w vs hT hF hR=>by
 refine (qob hn (fun x hx=>?_) hv).2 D w vs hT hF hR;obtain ⟨_,rfl,h3⟩:=qal hR;obtain ⟨i,hi⟩:=List.mem_iff_getElem?.1 hx;unfold Rd at h3;obtain ⟨_,_,_,us,_,_,_,h5,_⟩:=h3;obtain ⟨v,_,hr⟩:=h5.get (show (l.map fun V=>pV V)[i]?=some (pV x) by simp [hi]);exact ((q2q (ρ:=fun _=>none) (h:=h0)).2 (q2z hr)).2⟩
def qs4:Int:=(mkV 1 0).getD 0
def q99:mkV 1 0=some qs4∧bl qs4.natAbs≤67600:=by
 have h1:bl (Int.natAbs 1)≤1:=q0T (by decide);have h:=qav (m:=1) (E:=0) Oq Oq;unfold qs4;rw [h];refine ⟨rfl,?_⟩;obtain ⟨k,hk⟩:∃ k,k=((0:Int)+65536).toNat:=⟨_,rfl⟩;have hk2:k≤65536:=by omega
 rw [← hk,Option.getD_some,q0U,q1i (by decide)];omega
def dgL (G:Nat→Nat→Option Nat) (i:Nat):Nat→List Int
 | 0=>[qs4]
 | k+1=>if k=i then dgL G i k else dgL G i k ++ [((ofZ ((G (min i k) (max i k)).getD 0)).natAbs:Int)]
def dfF (G:Nat→Nat→Option Nat) (n j i:Nat):Option Nat:=if i=j then some (fR 2 (q1I (dgL G i n))) else G j i
def qfh {mode V:Int}:fR mode V < 18446744073709551616:=by
 unfold fR
 split
 ·omega
 ·exact qsL Oq (by exact Nat.two_pow_pos 65536)
def TOk.fin {f:Nat→Nat→Option Nat} {R C j i:Nat} (h:TOk f R C) (hj:j < C) (hi:i < R):q0Y ((f j i).getD 0)∧(f j i).getD 0 < 18446744073709551616:=by
 cases hx:f j i with
 | none=>exact ⟨by unfold q0Y; simp,by simp⟩
 | some x=>exact ⟨h.v j i x hj hi hx,h.u j i x hj hi hx⟩
def qgC {G:Nat→Nat→Option Nat} {n i:Nat} (h:TOk G n n) (hi:i < n):∀ k,k≤n→(dgL G i k).length≤k+1∧∀ x ∈ dgL G i k,bl x.natAbs≤67600
 | 0,_=>⟨Nat.le_refl _,fun x hx=>by unfold dgL at hx; simp at hx; subst hx; exact q99.2⟩
 | k+1,hk=>by
  obtain ⟨h1,h2⟩:=qgC h hi k Oq;unfold dgL
  split
  ·exact ⟨by omega,h2⟩
  ·refine ⟨by simp; omega,fun x hx=>?_⟩
   rcases List.mem_append.1 hx with hx | hx
   ·exact h2 x hx
   ·simp at hx; subst hx;rw [Int.natAbs_natCast];exact q6B (h.fin Oq Oq).1
def qa8 {l:List Int} (h:∀ x ∈ l,bl x.natAbs≤67600) (hl:l.length≤1024):q0k (q1I l):=by
 have:=q7F h hl;rw [List.take_length] at this;unfold q0k;omega
def qaA {raw:List Nat} {st:Int} {n:Nat} (hr:raw.length≤9223372036854775807) (hn:n≤100) (h3 : -9223372036854775808≤st) (h4:st≤9223372036854775807) :
  ACt 30 [pF raw,iv n,iv st] (pT n n (dfF (gF raw n (q19 (q19 st 3:Nat) 4)) n)):=by
 have hs3:q19 st 3 < 3:=by unfold q19; omega
 have hnn:n*n≤100*100:=Nat.mul_le_mul hn hn;have cM:=q6k (a:=st) (n:=3) h3 h4 Oq Oq;have cG:=q9q (raw:=raw) (st:=(q19 st 3:Nat)) (R:=n) (C:=n) hr Oq Oq Oq Oq;have hG:=qtH (raw:=raw) (R:=n) (C:=n) (st:=q19 (q19 st 3:Nat) 4) Oq Oq Oq;generalize gF raw n (q19 (q19 st 3:Nat) 4)=G at *;have cA:∀ {i j:Nat},i < n→j < n→_:=fun {i j} hi hj=>qkY (i:=i) (j:=j) hG hi hj;have cS:∀ {i j:Nat},i < n→j < n→_:=fun {i j} hi hj=>qcA (i:=i) (j:=j) hG hi hj;generalize hFn:dfF G n=F;have hpt:pT n n F=pM n n (tM F n n):=rfl;have hpG:pT n n G=q3G n n (tM G n n).1 (tM G n n).2.1 (tM G n n).2.2:=rfl;rw [hpG] at cG;simp only [hpG] at cA cS;rw [hpt];clear hpG hpt;unfold q3G at cG cA cS;generalize (tM G n n).1=gs at *;generalize (tM G n n).2.1=gi at *;generalize (tM G n n).2.2=gv at *;have c1:=q8X (z:=1) Oq Oq q99.1;refine ac0 Tryz.func30 Tryz.ntmps30 [.cell 6 52] ?_;refine wk ?_;refine q0L (fun j=>j≤n) [1,6,7,8] [6,7] Lk Lk (fun j:Nat=>[(9,iv j)]) (fun j=>[(8,⟨52,some 5,[.ag [iv n,iv n,.ow 1001 none 0 (tM F n j).1.length,.ow 1002 none 0 (tM F n j).2.1.length,.ow 1003 none 0 (tM F n j).2.2.length]],false⟩),(1001,⟨3,none,(tM F n j).1.map fun z=>iv z,false⟩),(1002,⟨3,none,(tM F n j).2.1.map fun z=>iv z,false⟩),(1003,⟨30,none,(tM F n j).2.2.map fun z:Nat=>uv z,false⟩)]) (fun j=>n-j) 0 (Nat.zero_le _) ?_ ?_
 ·refine LeM [(1001,some 21),(1002,none),(1003,none)] rfl rfl ?_;refine Zz ?_;exact ⟨rfl,⟨rfl,rfl,rfl⟩,rfl,rfl,rfl⟩
 ·intro j hj;have hg:=q1y (f:=F) (R:=n) j;have hjn:j*n≤100*100:=Nat.mul_le_mul Oq hn;refine wk ?_
  by_cases hlt:j < n
  ·have hlt':(j:Int) < n:=by omega
   refine wk1 hlt' ?_;have hM1:(tM F n (j+1)).1=(tM F n j).1 ++ [((tC F j (tM F n j).2 n).1.length:Int)]:=rfl;have hM2:(tM F n (j+1)).2=tC F j (tM F n j).2 n:=rfl;generalize (tM F n j).1=ms at *;generalize (tM F n j).2=mp at *;refine q0L (fun i=>i≤n) [1,6,7,8,9] [6,7,1001] Lk Lk (fun i:Nat=>[(10,iv i)]) (fun i=>[(8,⟨52,some 5,[.ag [iv n,iv n,.ow 1001 none 0 ms.length,.ow 1002 none 0 (tC F j mp i).1.length,.ow 1003 none 0 (tC F j mp i).2.length]],false⟩),(1002,⟨3,none,(tC F j mp i).1.map fun z=>iv z,false⟩),(1003,⟨30,none,(tC F j mp i).2.map fun z:Nat=>uv z,false⟩)]) (fun i=>n-i) 0 (Nat.zero_le _) ?_ ?_
   ·refine LeM [] rfl rfl ?_;refine Zz ?_;exact ⟨rfl,⟨rfl,rfl⟩,rfl,rfl⟩
   ·intro i hi;have hq:=qa7 (f:=F) (j:=j) hg.2.1 i;refine wk ?_
    by_cases hlt2:i < n
    ·have hlt2':(i:Int) < n:=by omega
     refine wk1 hlt2' ?_
     by_cases hij:i=j
     ·have e1:((i:Int) == (j:Int))=true:=by simp; omega
      have hF:F j i=some (fR 2 (q1I (dgL G i n))):=by rw [← hFn]; unfold dfF; rw [if_pos hij]
      obtain ⟨z,hz⟩:∃ z,z=fR 2 (q1I (dgL G i n)):=⟨_,rfl⟩;rw [← hz] at hF;have eg:=qme (p:=mp) hF;refine wk1 e1 ?_;refine q0L (fun k=>k≤n) [1,6,7,8,9,10] [6,7,8,1001,1002,1003] Lk Lk (fun k:Nat=>[(12,iv k),(11,.ow 1004 (some 4) 0 (dgL G i k).length)]) (fun k=>[(1004,⟨74,some 4,(dgL G i k).map fun V=>pV V,false⟩)]) (fun k=>n-k) 0 (Nat.zero_le _) ?_ ?_
      ·refine LeM [(1004,some 37)] rfl rfl ?_;refine Zz ?_;exact ⟨⟨rfl,rfl⟩,q1A rfl clV⟩
      ·intro k hk;obtain ⟨d1,d2⟩:=qgC hG hlt2 k hk;refine wk ?_
       by_cases hlk:k < n
       ·have hlk':(k:Int) < n:=by omega
        refine wk1 hlk' ?_
        by_cases hki:k=i
        ·have e2:((k:Int) != (i:Int))=false:=by simp; omega
         have es:dgL G i (k+1)=dgL G i k:=by rw [dgL,if_pos hki]
         refine wk1 e2 ?_;refine ⟨k+1,by omega,by omega,?_⟩;rw [es];refine LeM [] rfl rfl ?_;refine Zz ?_;exact ⟨by omega,q1A rfl clV⟩
        ·have e2:((k:Int) != (i:Int))=true:=by simp; omega
         obtain ⟨u,hu⟩:∃ u,u=(G (min i k) (max i k)).getD 0:=⟨_,rfl⟩;have hmx:max i k < n:=by omega
         have hmn:min i k < n:=by omega
         obtain ⟨f1,f2⟩:=hG.fin (j:=min i k) (i:=max i k) hmn hmx;have cE:=cA hmx hmn;rw [← hu] at f1 f2 cE;have cO:=q8V f2 (q0g f1);have es:dgL G i (k+1)=dgL G i k ++ [((ofZ u).natAbs:Int)]:=by rw [dgL,if_neg hki,hu]
         have m1:max (i:Int) k=((max i k:Nat):Int):=by omega
         have m2:min (i:Int) k=((min i k:Nat):Int):=by omega
         have C1:=@qok;refine wk1 (x3 e2 m1 m2) ?_;refine ⟨k+1,by omega,by omega,?_⟩;rw [es];refine LeM [(1004,some 58)] rfl rfl ?_;refine Zz ?_;exact ⟨by omega,q1A (by simp) clV⟩
       ·have hlk':¬ (k:Int) < n:=by omega
        obtain rfl:k=n:=by omega
        have hsd:=qa8 d2 Oq;have C2:=qgG (l:=dgL G i k) Oq hsd;have C3:=nz_V (V:=q1I (dgL G i k));have C4:=q8U (V:=q1I (dgL G i k)) (mode:=2);rw [← hz] at C4;refine wk1 hlk' ?_;refine ⟨i+1,by omega,by omega,?_⟩;rw [eg];refine LeM [(1002,some 63),(1003,some 71)] rfl rfl ?_;refine Zz ?_;omega
     ·have e1:((i:Int) == (j:Int))=false:=by simp; omega
      have hF:F j i=G j i:=by rw [← hFn]; unfold dfF; rw [if_neg hij]
      have C5:=(cS hlt2 hlt);refine wk1 e1 ?_;have cE:=cA hlt2 hlt;cases hx:G j i with
      | none =>
       rw [hx] at hF;have eg:=qrM (p:=mp) hF;have ei:(none:Option Nat).isSome=false:=rfl;refine wk1 ei ?_;refine ⟨i+1,by omega,by omega,?_⟩;rw [eg];refine LeM [] rfl rfl ?_;refine Zz ?_;omega
      | some z =>
       rw [hx] at hF cE;rw [Option.getD_some] at cE;have eg:=qme (p:=mp) hF;have ei:(some z).isSome=true:=rfl;refine wk1 ei ?_;refine ⟨i+1,by omega,by omega,?_⟩;rw [eg];refine LeM [(1002,some 81),(1003,some 90)] rfl rfl ?_;refine Zz ?_;omega
    ·have hlt2':¬ (i:Int) < n:=by omega
     obtain rfl:i=n:=by omega
     refine wk1 hlt2' ?_;refine ⟨j+1,by omega,by omega,?_⟩;rw [hM1,hM2];refine LeM [(1001,some 98)] rfl rfl ?_;refine Zz ?_;omega
  ·have hlt':¬ (j:Int) < n:=by omega
   obtain rfl:j=n:=by omega
   exact wk1 hlt' trivial
abbrev tbH (N R n m:Nat) (g:Nat→Nat→Bool):Hp:=q4e 23 4 N R n m g
def q8c {n:Nat} (hn:n≤1000):qcz 229 [iv n] h0 (.ow 5000 none 0 n) (tbH 5000 10000 n n fun _ _=>false):=by
 have hd:∀ {g:Nat→Nat→Bool} {m:Nat},∀ i b,tbH 5000 10000 n m g i=some b→win i:=fun i b hb=>q5Y Oq Oq Oq hb;refine qhK qlc Tryz.func229 rfl Tryz.ntmps229 (by kernel_rfl) ?_ ?_ ?_ ?_
 ·intro i b hb; cases hb
 ·exact hd
 ·exact IdL.of fun x hx=>by simp at hx; subst hx; unfold IdP; trivial
 have hJ:∀ i,¬ (h0 i≠none):=fun i h=>h rfl;refine wk ?_;refine q0e (fun k=>k≤n) [0] [] Lk Lk (fun k:Nat=>[(4,iv k),(3,.ow 5000 none 0 k)]) (fun _=>[]) (fun k=>tbH 5000 10000 k n fun _ _=>false) (fun k=>n-k) 0 (Nat.zero_le _) ?_ ?_
 ·refine qdR hJ Oq Oq trivial ?_;refine Zz ?_
  rfl
 ·intro k hk;refine wk ?_
  by_cases hlt:k < n
  ·have hlt':(k:Int) < n:=by omega
   refine wk1 hlt' ?_;refine ⟨k+1,by omega,by omega,?_⟩;refine qa2 (o:=14) (r:=12) hJ ?_ ?_ (fun j hj=>?_) Oq Oq Oq Oq Oq Oq trivial ?_
   ·exact Zy
   ·refine Zz ?_;rw [q4j]
   ·exact Zy
   ·refine Zz ?_;omega
  ·have hlt':¬ (k:Int) < n:=by omega
   obtain rfl:k=n:=by omega
   refine wk1 hlt' ?_;refine (rtM (rs:=[.tmp 2]) rfl rfl Lq ?_ (.inl rfl));refine LeF q2x hd (q1t Oq Oq Oq) ?_;exact Zy
def adT (adj:List (List Int)) (v w:Nat):Bool:=decide ((w:Int) ∈ adj.getD v [])
def q8b {adj:List (List Int)} {n:Nat} (hl:adj.length=n) (hn:n≤1000) (hv:∀ l ∈ adj,l.length≤1000000∧∀ w ∈ l,0≤w∧w < n):qcz 226 [pG adj] h0 (.ow 5002 none 0 n) (tbH 5002 20000 n n (adT adj)):=by
 have hd:∀ {g:Nat→Nat→Bool} {m:Nat},∀ i b,tbH 5002 20000 n m g i=some b→win i:=fun i b hb=>q5Y Oq Oq Oq hb;unfold pG;refine qhK qld Tryz.func226 rfl Tryz.ntmps226 (by kernel_rfl) ?_ ?_ ?_ ?_
 ·intro i b hb; cases hb
 ·exact hd
 ·exact IdL.of fun x hx=>by
   simp at hx; subst hx; unfold IdP;exact IdL.of fun x hx=>by simp at hx; subst hx; unfold IdP; trivial
 have hJ:∀ i,¬ (h0 i≠none):=fun i h=>h rfl;subst hl;refine wk ?_;refine q0e (fun k=>k≤adj.length) [1,3] [1] Lk Lk (fun k:Nat=>[(5,iv k),(4,.ow 5002 none 0 k)]) (fun _=>[]) (fun k=>tbH 5002 20000 k adj.length (adT adj)) (fun k=>adj.length-k) 0 (Nat.zero_le _) ?_ ?_
 ·refine qdR hJ (by omega) (by omega) (by simp [nmW]) ?_;refine Zz ?_;exact rfl
 ·intro k hk;refine wk ?_
  by_cases hlt:k < adj.length
  ·have hlt':(k:Int) < adj.length:=by omega
   obtain ⟨l,hx⟩:∃ l,adj[k]?=some l:=⟨_,List.getElem?_eq_getElem hlt⟩;obtain ⟨hll,hlv⟩:=hv l (List.mem_of_getElem? hx);refine wk1 hlt' ?_;refine q0e (fun i=>i≤l.length) [1,3,4,5] [1] Lk Lk (fun i:Nat=>[(7,iv i),(6,.ow 1001 none 0 adj.length)]) (fun i=>[(1001,⟨4,none,(List.range adj.length).map fun c:Nat=>bv (decide ((c:Int) ∈ l.take i)),false⟩)]) (fun _=>tbH 5002 20000 k adj.length (adT adj)) (fun i=>l.length-i) 0 (Nat.zero_le _) ?_ ?_
   ·refine LeW [(1001,some 17)] rfl rfl ?_ ?_ (by simp [q21,q1s,win]) ?_
    ·exact Ow
    ·exact q1t Oq Oq Oq
    ·refine Zz ?_;rw [q4j];exact ⟨rfl,qqC fun c _=>by simp⟩
   ·intro i hi;refine wk ?_
    by_cases hi2:i < l.length
    ·have hi':(i:Int) < l.length:=by omega
     obtain ⟨w,hw⟩:∃ w,l[i]?=some w:=⟨_,List.getElem?_eq_getElem hi2⟩;obtain ⟨h1,h2⟩:=hlv w (List.mem_of_getElem? hw);obtain ⟨w,rfl⟩:∃ q:Nat,w=q:=⟨w.toNat,by omega⟩;refine wk1 (x3 hx hi' hw) ?_;refine ⟨i+1,by omega,by omega,?_⟩;refine LeW [] rfl rfl ?_ ?_ (by simp [q21,q1s,win]) ?_
     ·exact Ow
     ·exact q1t Oq Oq Oq
     ·refine Zz ?_;rw [q94];refine ⟨by omega,qqC fun c _=>?_⟩;rw [List.take_succ_eq_append_getElem hi2];have e:l[i]=(w:Int):=Option.some.inj ((List.getElem?_eq_getElem hi2).symm.trans hw);rw [e]
      by_cases hc:c=w <;> simp [hc]
      intro h; omega
    ·have hi':¬ (i:Int) < l.length:=by omega
     obtain rfl:i=l.length:=by omega
     refine wk1 (x2 hx hi') ?_;refine ⟨k+1,by omega,by omega,?_⟩;refine qa2 (o:=41) (r:=1001) hJ ?_ ?_ (fun j hj=>?_) (by omega) (by omega) (by omega) (by omega) (by omega) (by omega) (by simp [nmW]) ?_
     ·exact Zy
     ·refine Zz ?_;have e:∀ c:Nat,decide ((c:Int) ∈ l)=adT adj k c:=fun c=>by unfold adT; rw [List.getD_eq_getElem?_getD,hx]; rfl
      simp only [e]
     ·exact Zy
     ·refine Zz ?_;omega
  ·have hlt':¬ (k:Int) < adj.length:=by omega
   obtain rfl:k=adj.length:=by omega
   refine wk1 hlt' ?_;refine (rtM (rs:=[.tmp 2]) rfl rfl Lq ?_ (.inl rfl));refine LeF ?_ hd (q1t Oq Oq Oq) ?_
   ·exact Ow
   exact Zy
def qjY (l:List (Int × Int × Nat)) (k r c:Nat):Bool:=decide (∃ e ∈ l.take k,e.1=(r:Int)∧e.2.1=(c:Int))
def qhi (f:Nat→Nat→Option Nat) (r c:Nat):Bool:=(f c r).isSome
def qfR {t t':Nat→Nat→Bool} {n:Nat} (h:∀ r c,r < n→c < n→t r c=t' r c):frG t n=frG t' n:=by
 unfold frG;refine List.map_congr_left fun v hv=>?_;unfold frL
 congr 1
 refine List.filter_congr fun x hx=>?_;have hv:=List.mem_range.1 hv;have hx:=List.mem_range.1 hx;unfold q1Y;rw [h v x hv hx,h x v hx hv]
def q61 {f:Nat→Nat→Option Nat} {n:Nat} (h:TOk f n n):ACt 170 [pT n n f] (.tu [pG (frG (qhi f) n),iv 0]):=by
 have cC:=qd2 h;have cE:=qd0 h;have hn:=h.r;have hlen:(tE f n n).length≤1000000:=by rw [qkX]; have:=(q1y (f:=f) (R:=n) n).2.2; have:n*n≤200*200:=Nat.mul_le_mul (by omega) (by omega); omega
 have hin:∀ e ∈ tE f n n,(0≤e.1∧e.1 < n)∧0≤e.2.1∧e.2.1 < n:=fun e he=>by
  obtain ⟨j,i,x,h1,h2,_,rfl⟩:=qa6.1 he;simp only; omega
 have hfin:∀ r c,r < n→c < n→qjY (tE f n n) (tE f n n).length r c=qhi f r c:=fun r c hr hc=>by
  unfold qjY qhi;rw [List.take_length];cases hx:f c r with
  | none =>
   refine decide_eq_false fun ⟨e,he,h1,h2⟩=>?_;obtain ⟨j,i,x,_,_,h5,rfl⟩:=qa6.1 he;simp only at h1 h2;obtain rfl:i=r:=by omega
   obtain rfl:j=c:=by omega
   rw [hx] at h5; cases h5
  | some x=>exact decide_eq_true ⟨_,qa6.2 ⟨c,r,x,hc,hr,hx,rfl⟩,rfl,rfl⟩
 have cF:=q4W (t:=qjY (tE f n n) (tE f n n).length) (n:=n) Oq;have hfr:frG (qjY (tE f n n) (tE f n n).length) n=frG (qhi f) n:=by
  exact qfR hfin
 rw [hfr] at cF;clear hfr;have hpt:pT n n f=q3G n n (tM f n n).1 (tM f n n).2.1 (tM f n n).2.2:=rfl;obtain ⟨st,ix,vl,hpl⟩:∃ st ix vl,pT n n f=.ag [iv n,iv n,pI st,pI ix,pF vl]:=⟨_,_,_,rfl⟩;rw [hpl] at cC cE ⊢;clear hpl hpt hfin;unfold pG qcQ at cF;unfold pG;generalize tE f n n=es at *;generalize frG (qhi f) n=adj at *;unfold pE qap at cE;have e0:((0:Int) != 0)=false:=rfl;have eN:((n:Int) != n)=false:=by simp
 refine ac0 Tryz.func170 Tryz.ntmps170 [.cell 2 141,.tmp 3] ?_;refine wk1 (x2 e0 eN) ?_;refine qhL fun K hK=>?_;refine Zz ?_;refine jmF (q8c Oq) ?_ ?_
 ·exact Ow
 try refine Zz ?_
 refine hK _ _ ?_; clear hK K;refine wk ?_;refine q0e (fun k=>k≤es.length) [2,5,6] [2] Lk Lk (fun k:Nat=>[(7,iv k)]) (fun _=>[]) (fun k=>tbH 5000 10000 n n (qjY es k)) (fun k=>es.length-k) 0 (Nat.zero_le _) ?_ ?_
 ·refine LeW [] rfl rfl ?_ ?_ (by simp [q21,q1s,win]) ?_
  ·have:(fun (_ _:Nat)=>false)=qjY es 0:=by funext r c; simp [qjY]
   rw [this];exact Ow
  ·exact q1t Oq Oq Oq
  ·refine Zz ?_
   rfl
 ·intro k hk;refine wk ?_
  by_cases hlt:k < es.length
  ·have hlt':(k:Int) < es.length:=by omega
   obtain ⟨e,he⟩:∃ e,es[k]?=some e:=⟨_,List.getElem?_eq_getElem hlt⟩;obtain ⟨⟨h1,h2⟩,h3,h4⟩:=hin e (List.mem_of_getElem? he);obtain ⟨r,c,x⟩:=e;simp only at h1 h2 h3 h4;obtain ⟨r,rfl⟩:∃ q:Nat,r=q:=⟨r.toNat,by omega⟩;obtain ⟨c,rfl⟩:∃ q:Nat,c=q:=⟨c.toNat,by omega⟩;have hr2:r < n:=by omega
   have hc2:c < n:=by omega
   have r1:(List.range n)[r]?=some r:=List.getElem?_range hr2;refine wk1 (x3 hlt' he r1) ?_;refine ⟨k+1,by omega,by omega,?_⟩;refine LeW [] rfl rfl ?_ ?_ (by simp [q21,q1s,win]) ?_
   ·refine qaQ (qgl q2x) ?_;rw [q7E (by omega) hr2];refine q5Z fun r' c' _ _=>?_;unfold qig qjY;rw [q4F he]
    by_cases hrc:r'=r∧c'=c
    ·obtain ⟨rfl,rfl⟩:=hrc;rw [if_pos ⟨rfl,rfl⟩];exact (decide_eq_true ⟨_,List.mem_append_right _ (List.mem_singleton.2 rfl),rfl,rfl⟩).symm
    ·rw [if_neg hrc];refine decide_eq_decide.2 ⟨fun ⟨e,h,q⟩=>⟨e,List.mem_append_left _ h,q⟩,fun ⟨e,h,q1,q2⟩=>?_⟩
     rcases List.mem_append.1 h with h | h
     ·exact ⟨e,h,q1,q2⟩
     ·rw [List.mem_singleton] at h;subst h;simp only at q1 q2;exact (hrc ⟨by omega,by omega⟩).elim
   ·exact q1t Oq Oq Oq
   ·refine Zz ?_;omega
  ·have hlt':¬ (k:Int) < es.length:=by omega
   obtain rfl:k=es.length:=by omega
   refine wk1 hlt' ?_;refine q5V (LeM [] rfl rfl (xs:=[(2,.pt 2 0 0),(5,qcQ (qjY es es.length) n)]) (kv:=[]) (bs:=[(2,⟨141,some 1,[.ag [q6Z]],false⟩)]) (kb:=[]) ?_) ?_
   ·unfold qcQ;refine Zz ?_;exact qdS q2x (by omega) (by omega) (by omega) (q9o (by simp [nmW]) (by simp [nmW])) fun i j hi _=>by cases hi; rfl
   unfold qcQ;exact wk trivial
def qrr {f:Nat→Nat→Option Nat} {R i j x y:Nat} {order:List Int} {V:Int} (h:TOk f R R) (hi:order[i]?=some (x:Int)) (hj:order[j]?=some (y:Int)) (hx:x < R) (hy:y < R) (hv:ofF ((f (min x y) (max x y)).getD 0)=some V):ACt 111 [pT R R f,pI order,iv i,iv j] (pV V):=by
 have hu:(f (min x y) (max x y)).getD 0 < 18446744073709551616:=by
  cases hf:f (min x y) (max x y) with
  | none=>simp
  | some u=>exact h.u _ _ u Oq Oq hf
 have cA:=qkY (i:=max x y) (j:=min x y) h Oq Oq;have m1:max (x:Int) y=((max x y:Nat):Int):=by omega
 have m2:min (x:Int) y=((min x y:Nat):Int):=by omega
 generalize (f (min x y) (max x y)).getD 0=u at *;have hpt:pT R R f=q3G R R (tM f R R).1 (tM f R R).2.1 (tM f R R).2.2:=rfl;rw [hpt] at cA ⊢;clear hpt;unfold q3G at *;refine ac0 Tryz.func111 Tryz.ntmps111 [.cell 8 74] ?_;have C1:=(q8V hu hv);exact wk1 (x4 hi hj m1 m2) trivial
open Classical in
def qeH {l:List Int} (hl:l.length≤1000000):ACt 255 [pI l] (bv (decide (¬ l.Nodup))):=by
 refine ac0 Tryz.func255 Tryz.ntmps255 [.tmp 2] ?_;refine wk ?_;refine q0L (fun i=>i≤l.length∧(l.take i).Nodup) [0] [] Lk Lk (fun i:Nat=>[(3,iv i)]) (fun _=>[]) (fun i=>l.length-i) 0 ⟨Nat.zero_le _,by simp⟩ ?_ ?_
 ·refine LeM [] rfl rfl ?_;refine Zz ?_
  rfl
 ·rintro i ⟨hi,hr⟩;refine wk ?_
  by_cases hlt:i < l.length
  ·have hlt':(i:Int) < l.length:=by omega
   refine wk1 hlt' ?_;obtain ⟨x,hx⟩:∃ x,l[i]?=some x:=⟨_,List.getElem?_eq_getElem hlt⟩;have ht:=q4F hx;have es:slP (some 1) none (some (iv (i:Int))) (pI l)=some (pI (l.take i)):=by
    simp [slP,qcv,ksz,List.map_take];omega
   have C1:=qlB (l:=l.take i) (v:=x) (by rw [List.length_take]; omega);refine wk1 (x2 hx es) ?_
   by_cases hm:x ∈ l.take i
   ·have em:∀ (i':Decidable (x ∈ l.take i)),@decide _ i'=true:=fun _=>decide_eq_true hm;refine wk1 em ?_;refine (@decide_eq_true (¬ l.Nodup) _ fun h=>?_).symm;have h2:=h.sublist (List.take_sublist (i+1) l);rw [ht,List.nodup_append] at h2;exact h2.2.2 _ hm _ (by simp) rfl
   ·have em:∀ (i':Decidable (x ∈ l.take i)),@decide _ i'=false:=fun _=>decide_eq_false hm;refine wk1 em ?_;refine ⟨i+1,⟨by omega,?_⟩,by omega,?_⟩
    ·rw [ht,List.nodup_append];exact ⟨hr,by simp,fun a ha b hb e=>by simp at hb; subst hb; subst e; exact hm ha⟩
    ·refine LeM [] rfl rfl ?_;refine Zz ?_;omega
  ·have hlt':¬ (i:Int) < l.length:=by omega
   obtain rfl:i=l.length:=by omega
   refine wk1 hlt' ?_;rw [List.take_length] at hr;exact (@decide_eq_false (¬ l.Nodup) _ fun h=>h hr).symm
def lfN (l:List Int) (r:Nat):Nat:=(l.getD r 0).toNat
def qi6 (adj:List (List Int)) (l:List Int) (i j r c:Nat):Bool:=decide (r < i∨(r=i∧c < j)) && adT adj (lfN l r) (lfN l c)
def qk9 (adj:List (List Int)) (l:List Int) (r c:Nat):Bool:=adT adj (lfN l r) (lfN l c)
def q9f {l:List Int} {r x:Nat} (h:l[r]?=some (x:Int)):lfN l r=x:=by
 unfold lfN; rw [List.getD_eq_getElem?_getD,h]; simp
def q9s {adj:List (List Int)} {l:List Int} {n m:Nat} (hn:adj.length=n) (hl:l.length=m) (hn2:n≤200) (hm:m≤1000) (hG:GOk adj) (hv:∀ q ∈ adj,q.length≤1000000∧∀ w ∈ q,0≤w∧w < n) (hr:∀ x ∈ l,0≤x∧x < n) (hd:l.Nodup) :
  ACt 232 [pG adj,pI l] (.tu [pG (frG (qk9 adj l) m),iv 0]):=by
 have cK:=q9t (adj:=adj) (fun q hq=>by have:=(hv q hq).1; omega);have c0:qcd adj=0:=by unfold qcd; rw [if_neg (by omega),if_pos hG]
 rw [c0] at cK;have cR:=qeN (l:=l) (n:=n) Oq;have eR:∀ (i:Decidable (qbo l n)),@decide _ i=true:=fun _=>decide_eq_true (by unfold qbo; exact hr);have cW:=qeH (l:=l) Oq;have eW:∀ (i:Decidable (¬ l.Nodup)),@decide _ i=false:=fun _=>decide_eq_false (fun h=>h hd);have cT:=q8b hn Oq hv;have cF:=q4W (t:=qi6 adj l m 0) (n:=m) Oq;have hfr:frG (qi6 adj l m 0) m=frG (qk9 adj l) m:=qfR fun r c hr _=>by unfold qi6 qk9; rw [decide_eq_true (Or.inl hr),Bool.true_and]
 rw [hfr] at cF;clear hfr;generalize frG (qk9 adj l) m=res at *;have e0:((0:Int) != 0)=false:=rfl;subst hn;subst hl;unfold pG qcQ at cF;unfold pG at cK cT;unfold pG;refine ac0 Tryz.func232 Tryz.ntmps232 [.cell 4 141,.tmp 5] ?_;refine wk1 (x3 e0 eR eW) ?_;refine qhL fun K hK=>?_;refine Zz ?_;refine jmF cT ?_ ?_
 ·exact Ow
 try refine Zz ?_
 refine hK _ _ ?_; clear hK K;refine wk ?_;refine q5V (LeM [] rfl rfl (xs:=[(1,pI l),(4,.pt 4 0 0),(7,qcQ (adT adj) adj.length)]) (kv:=[]) (bs:=[(4,⟨141,some 1,[.ag [q6Z]],false⟩)]) (kb:=[]) ?_) ?_
 ·unfold qcQ;refine Zz ?_;refine qdS (T1:=23) (T2:=4) (R:=20000) ?_ (by omega) (by omega) (by omega) (q9o (by simp [nmW]) (by simp [nmW])) fun i j hi _=>by cases hi; rfl
  exact Ow
 unfold qcQ;refine wk ?_;refine qhL fun K hK=>?_;refine Zz ?_;refine jmF (q8c Oq) ?_ ?_
 ·exact Ow
 try refine Zz ?_
 refine hK _ _ ?_; clear hK K;refine wk ?_;refine q0e (fun i=>i≤l.length) [1,4,7,8] [4] Lk Lk (fun i:Nat=>[(9,iv i)]) (fun _=>[]) (fun i=>tbH 5000 10000 l.length l.length (qi6 adj l i 0)) (fun i=>l.length-i) 0 (Nat.zero_le _) ?_ ?_
 ·refine LeW [] rfl rfl ?_ ?_ (by simp [q21,q1s,win]) ?_
  ·refine qaQ (hw:=tbH 5000 10000 l.length l.length fun _ _=>false) ?_ (q5Z fun r c _ _=>?_)
   ·exact Ow
   ·unfold qi6; rw [decide_eq_false (by omega)]; rfl
  ·exact q1t Oq Oq Oq
  ·refine Zz ?_
   rfl
 ·intro i hi;refine wk ?_
  by_cases hlt:i < l.length
  ·have hlt':(i:Int) < l.length:=by omega
   obtain ⟨a,ha⟩:∃ x,l[i]?=some x:=⟨_,List.getElem?_eq_getElem hlt⟩;obtain ⟨a1,a2⟩:=hr a (List.mem_of_getElem? ha);obtain ⟨a,rfl⟩:∃ q:Nat,a=q:=⟨a.toNat,by omega⟩;have ra:(List.range adj.length)[a]?=some a:=List.getElem?_range Oq;have ri:(List.range l.length)[i]?=some i:=List.getElem?_range hlt;refine wk1 hlt' ?_;refine q0e (fun j=>j≤l.length) [1,4,7,8,9] [4] Lk Lk (fun j:Nat=>[(10,iv j)]) (fun _=>[]) (fun j=>tbH 5000 10000 l.length l.length (qi6 adj l i j)) (fun j=>l.length-j) 0 (Nat.zero_le _) ?_ ?_
   ·refine LeW [] rfl rfl ?_ ?_ (by simp [q21,q1s,win]) ?_
    ·exact Ow
    ·exact q1t Oq Oq Oq
    ·refine Zz ?_
     rfl
   ·intro j hj;refine wk ?_
    by_cases hj2:j < l.length
    ·have hj':(j:Int) < l.length:=by omega
     obtain ⟨b,hb⟩:∃ x,l[j]?=some x:=⟨_,List.getElem?_eq_getElem hj2⟩;obtain ⟨b1,b2⟩:=hr b (List.mem_of_getElem? hb);obtain ⟨b,rfl⟩:∃ q:Nat,b=q:=⟨b.toNat,by omega⟩;have rb:(List.range adj.length)[b]?=some b:=List.getElem?_range Oq;refine wk1 (x6 hj' ha hb ra rb ri) ?_;refine ⟨j+1,by omega,by omega,?_⟩;refine LeW [] rfl rfl ?_ ?_ (by simp [q21,q1s,win]) ?_
     ·refine qaQ (qgl q2x) ?_;rw [q7E (by omega) hlt];refine q5Z fun r c _ _=>?_;unfold qig qi6
      by_cases hrc:r=i∧c=j
      ·obtain ⟨rfl,rfl⟩:=hrc;rw [if_pos ⟨rfl,rfl⟩,decide_eq_true (by omega),Bool.true_and,q9f ha,q9f hb]
      ·rw [if_neg hrc]
       congr 1
       exact decide_eq_decide.2 ⟨fun h=>by omega,fun h=>by omega⟩
     ·exact q1t Oq Oq Oq
     ·refine Zz ?_;omega
    ·have hj':¬ (j:Int) < l.length:=by omega
     obtain rfl:j=l.length:=by omega
     refine wk1 hj' ?_;refine ⟨i+1,by omega,by omega,?_⟩;refine LeW [] rfl rfl ?_ ?_ (by simp [q21,q1s,win]) ?_
     ·refine qaQ q2x (q5Z fun r c _ hc=>?_);unfold qi6
      congr 1
      exact decide_eq_decide.2 ⟨fun h=>by omega,fun h=>by omega⟩
     ·exact q1t Oq Oq Oq
     ·refine Zz ?_;omega
  ·have hlt':¬ (i:Int) < l.length:=by omega
   obtain rfl:i=l.length:=by omega
   refine wk1 hlt' ?_;refine q5V (LeM [] rfl rfl (xs:=[(4,.pt 4 0 0),(8,qcQ (qi6 adj l l.length 0) l.length)]) (kv:=[]) (bs:=[(4,⟨141,some 1,[.ag [q6Z]],false⟩)]) (kb:=[]) ?_) ?_
   ·unfold qcQ;refine Zz ?_;exact qdS (R:=10000) q2x (by omega) (by omega) (by omega) (q9o (by simp [nmW]) (by simp [nmW])) fun i j hi _=>by cases hi; rfl
   unfold qcQ;exact wk trivial
def q9r {adj:List (List Int)} {l:List Int} {n:Nat} (hn:adj.length=n) (hn2:n≤200) (hG:GOk adj) (hv:∀ q ∈ adj,q.length≤1000000∧∀ w ∈ q,0≤w∧w < n) (hp:q2y l n) :
  ACt 171 [pG adj,pI l] (.tu [pG (frG (qk9 adj l) n),iv 0]):=by
 have hll:l.length=n:=by have:=hp.1; omega
 have cI:=q9s (l:=l) hn hll hn2 Oq hG hv hp.2.1 hp.2.2;have cK:=q9t (adj:=adj) (fun q hq=>by have:=(hv q hq).1; omega);have c0:qcd adj=0:=by unfold qcd; rw [if_neg (by omega),if_pos hG]
 rw [c0] at cK;have cP:=qi5 (l:=l) (n:=n) Oq;have eP:∀ (i:Decidable (q2y l n)),@decide _ i=true:=fun _=>decide_eq_true hp;generalize frG (qk9 adj l) n=res at *;have e0:((0:Int) != 0)=false:=rfl;have eN:((l.length:Int) != (adj.length:Int))=false:=by simp; omega
 subst hn;unfold pG at cI cK ⊢;refine ac0 Tryz.func171 Tryz.ntmps171 [.cell 4 141,.tmp 5] ?_;exact wk1 (x3 e0 eN eP) trivial
def elH (n:Nat) (g:Nat→Nat→Bool) (gn:Nat→Bool):Hp:=fun i=>if i=5000 then some ⟨220,some 2,[.ag [.ow 5002 none 0 n,.ow 5001 none 0 n]],false⟩ else if i=5001 then some ⟨4,none,(List.range n).map fun c=>bv (gn c),false⟩ else tbH 5002 20000 n n g i
section
variable {n:Nat} {g g':Nat→Nat→Bool} {gn gn':Nat→Bool} {h:Hp}
def qoa:elH n g gn 5000=some ⟨220,some 2,[.ag [.ow 5002 none 0 n,.ow 5001 none 0 n]],false⟩:=rfl
def qo9:elH n g gn 5001=some ⟨4,none,(List.range n).map fun c=>bv (gn c),false⟩:=rfl
def qo8:elH n g gn 5002=some ⟨23,none,(List.range n).map fun j=>.ow (j+20000) none 0 n,false⟩:=rfl
def qo7 {j:Nat} (hj:j < n):elH n g gn (j+20000)=some ⟨4,none,(List.range n).map fun c=>bv (g j c),false⟩:=by
 unfold elH;rw [if_neg (by omega),if_neg (by omega)];exact q69 Oq hj
def q4Z {i:Nat} {b:Bk} (hb:elH n g gn i=some b):(i=5000∧b=⟨220,some 2,[.ag [.ow 5002 none 0 n,.ow 5001 none 0 n]],false⟩)∨(i=5001∧b=⟨4,none,(List.range n).map fun c=>bv (gn c),false⟩)∨(i≠5000∧i≠5001∧tbH 5002 20000 n n g i=some b):=by
 unfold elH at hb
 split at hb
 ·cases hb; exact .inl ⟨‹_›,rfl⟩
 ·split at hb
  ·cases hb; exact .inr (.inl ⟨‹_›,rfl⟩)
  ·exact .inr (.inr ⟨‹_›,‹_›,hb⟩)
def qlS {i:Nat} (hi:i < 5000):elH n g gn i=none:=by
 unfold elH;rw [if_neg (by omega),if_neg (by omega)];exact qrF Oq (.inl Oq)
attribute [go_sem ↓] qoa qo9 qo8 qo7 qlS
def q3y (hn:n≤1000) {i:Nat} {b:Bk} (hb:elH n g gn i=some b):win i:=by
 rcases q4Z hb with ⟨rfl,_⟩ | ⟨rfl,_⟩ | ⟨_,_,h⟩
 ·exact ⟨by omega,by omega⟩
 ·exact ⟨by omega,by omega⟩
 ·exact q5Y Oq Oq Oq h
def qti {i:Nat} (h:tbH 5002 20000 n n g i≠none):elH n g gn i≠none:=by
 unfold elH
 split
 ·exact Option.some_ne_none _
 ·split
  ·exact Option.some_ne_none _
  ·exact h
def q2W (hn:n≤1000):WfH (elH n g gn):=⟨fun i b hb=>by
 rcases q4Z hb with ⟨_,rfl⟩ | ⟨_,rfl⟩ | ⟨_,_,h⟩
 ·refine ⟨rfl,IdL.of fun x hx=>?_⟩;simp at hx; subst hx;unfold IdP;refine IdL.of fun x hx=>?_;simp at hx
  rcases hx with rfl | rfl <;> (unfold IdP; exact ⟨⟨by omega,by omega⟩,Option.some_ne_none _⟩)
 ·exact ⟨rfl,qsy⟩
 ·obtain ⟨q1,q2⟩:=(q1t (T1:=23) (T2:=4) (N:=5002) (R:=20000) (n:=n) (m:=n) (g:=g) Oq Oq Oq).wf i b h;exact ⟨q1,IdL.of fun x hx=>by
   have:=q2.mem x hx
   rcases q14 h with ⟨_,rfl⟩ | ⟨_,_,rfl⟩
   ·obtain ⟨z,hz,rfl⟩:=List.mem_map.1 hx;unfold IdP at this ⊢;exact ⟨this.1,qti this.2⟩
   ·obtain ⟨z,hz,rfl⟩:=List.mem_map.1 hx;unfold IdP; trivial⟩⟩
def qlR (hn:n≤1000):∀ i b,elH n g gn i=some b→win i∧b.st=false∧IdL win b.xs∧∃ b',elH n g' gn' i=some b'∧b'.k=b.k∧b.xs.length≤b'.xs.length:=fun i b hb=>by
 have hw:=q3y hn hb;obtain ⟨q1,q2⟩:=(q2W hn).wf i b hb;refine ⟨hw,q1,IdL.of fun x hx=>?_,?_⟩
 ·have:=q2.mem x hx
  rcases q4Z hb with ⟨_,rfl⟩ | ⟨_,rfl⟩ | ⟨_,_,h⟩
  ·simp at hx; subst hx;unfold IdP;refine IdL.of fun x hx=>?_;simp at hx
   rcases hx with rfl | rfl <;> (unfold IdP; exact ⟨by omega,by omega⟩)
  ·obtain ⟨z,hz,rfl⟩:=List.mem_map.1 hx;unfold IdP; trivial
  ·rcases q14 h with ⟨_,rfl⟩ | ⟨_,_,rfl⟩
   ·obtain ⟨z,hz,rfl⟩:=List.mem_map.1 hx;unfold IdP at this ⊢;exact this.1
   ·obtain ⟨z,hz,rfl⟩:=List.mem_map.1 hx;unfold IdP; trivial
 ·rcases q4Z hb with ⟨rfl,rfl⟩ | ⟨rfl,rfl⟩ | ⟨a1,a2,h⟩
  ·exact ⟨_,qoa,rfl,Nat.le_refl _⟩
  ·exact ⟨_,qo9,rfl,by simp⟩
  ·rcases q14 h with ⟨rfl,rfl⟩ | ⟨b1,b2,rfl⟩
   ·exact ⟨_,qo8,rfl,Nat.le_refl _⟩
   ·have:=qo7 (g:=g') (gn:=gn') (n:=n) (j:=i-20000) Oq;rw [Nat.sub_add_cancel b1] at this;exact ⟨_,this,rfl,by simp⟩
def qo6 {r c:Nat} {b:Bool} (hr:r < n):q07 (elH n g gn) (r+20000) ⟨4,none,((List.range n).map fun y=>bv (g r y)).set c (bv b),false⟩=elH n (qig g r c b) gn:=by
 have:=q7E (T1:=23) (T2:=4) (N:=5002) (R:=20000) (m:=n) (g:=g) (c:=c) (b:=b) Oq hr
 funext i
 have e:=congrFun this i;unfold q07 at e ⊢;unfold elH
 by_cases hi:i=r+20000
 ·rw [if_pos hi] at e ⊢;rw [if_neg (by omega),if_neg (by omega)];exact e
 ·rw [if_neg hi] at e ⊢;have e:tbH 5002 20000 n n g i=tbH 5002 20000 n n (qig g r c b) i:=e;rw [e]
def qj0 {c:Nat} {b:Bool}:q07 (elH n g gn) 5001 ⟨4,none,((List.range n).map fun y=>bv (gn y)).set c (bv b),false⟩=elH n g (fun y=>if y=c then b else gn y):=by
 funext i
 unfold q07 elH
 by_cases hi:i=5001
 ·rw [if_pos hi,if_neg (by omega),if_pos hi,q94]
 ·rw [if_neg hi,if_neg hi]
  by_cases h0:i=5000
  ·rw [if_pos h0,if_pos h0]
  ·rw [if_neg h0,if_neg h0,if_neg hi]
def tb:Nat→Option Nat:=fun i=>if i=5000 then some 10 else if i=5001 then some 8 else some i
def qjZ (hn:n≤1000) (h10:h 10=some ⟨220,some 2,[.ag [.ow 5002 none 0 n,.ow 8 none 0 n]],false⟩) (h8:h 8=some ⟨4,none,List.replicate n (bv false),false⟩) (hq:Wn h (tbH 5002 20000 n n g)):Le (fun i=>h0 i≠none) (fun _=>.pt 10 0 0) h (fun _=>.pt 5000 0 0) (elH n g fun _=>false):=by
 have tI:∀ i,i≠5000→i≠5001→tb i=some i:=fun i a b=>by unfold tb; rw [if_neg a,if_neg b]
 refine q30 tb (fun i b hb=>?_) (fun i j k b c hi hj ti tj=>?_) (fun _=>.pt (i:=5000) rfl qoa) fun i hi=>(hi rfl).elim
 ·rcases q4Z hb with ⟨rfl,rfl⟩ | ⟨rfl,rfl⟩ | ⟨a1,a2,hb⟩
  ·refine ⟨_,h10,rfl,rfl,⟨rfl,rfl⟩,?_⟩;rw [q4y,qmG];exact ⟨.ow (tI 5002 Oq Oq) qo8,.ow (i:=5001) rfl qo9,trivial⟩
  ·refine ⟨_,h8,rfl,rfl,⟨rfl,rfl⟩,?_⟩;rw [q4j];exact qqC fun _ _=>rfl
  ·unfold LeB;rw [tI i a1 a2];have hw:win i:=q5Y Oq Oq Oq hb;obtain ⟨q1,q2⟩:=(q1t (T1:=23) (T2:=4) (N:=5002) (R:=20000) (n:=n) (m:=n) (g:=g) Oq Oq Oq).wf i b hb;refine ⟨b,(hq i hw).trans hb,rfl,rfl,⟨q1,q1⟩,?_⟩
   rcases q14 hb with ⟨rfl,rfl⟩ | ⟨_,_,rfl⟩
   ·exact LeL_self (p:=fun j=>∃ c,c < n∧j=c+20000) (fun j ⟨c,hc,e⟩=>by subst e; exact ⟨tI _ Oq Oq,_,qo7 hc⟩) _ (qa4 fun c hc=>⟨c,hc,rfl⟩)
   ·exact LeL_self (p:=fun _=>False) (fun _ h=>h.elim) _ qsy
 ·have key:∀ i b,elH n g (fun _=>false) i=some b→∀ a,tb i=some a→(i=5000∧a=10)∨(i=5001∧a=8)∨(i=a∧5000≤a):=fun i b hb a ha=>by
   have hw:=q3y hn hb
   by_cases e1:i=5000
   ·subst e1; cases ha; exact .inl ⟨rfl,rfl⟩
   ·by_cases e2:i=5001
    ·subst e2; cases ha; exact .inr (.inl ⟨rfl,rfl⟩)
    ·rw [tI i e1 e2] at ha; cases ha; exact .inr (.inr ⟨rfl,hw.1⟩)
  rcases key i b hi k ti with ⟨e1,e2⟩ | ⟨e1,e2⟩ | ⟨e1,e2⟩ <;> rcases key j c hj k tj with ⟨f1,f2⟩ | ⟨f1,f2⟩ | ⟨f1,f2⟩ <;> omega
end
def ag243:q0f Tryz.prog 220=some (some 2):=by kernel_rfl
attribute [go_sem] ag243
def qfs {adj:List (List Int)} {n:Nat} (hl:adj.length=n) (hn:n≤1000) (hv:∀ l ∈ adj,l.length≤1000000∧∀ w ∈ l,0≤w∧w < n):qcz 166 [pG adj] h0 (.pt 5000 0 0) (elH n (adT adj) fun _=>false):=by
 have cT:=q8b hl hn hv;subst hl;unfold pG at cT ⊢;refine qhK qlj Tryz.func166 rfl Tryz.ntmps166 (by kernel_rfl) ?_ ?_ ?_ ?_
 ·intro i b hb; cases hb
 ·exact fun i b hb=>q3y hn hb
 ·exact IdL.of fun x hx=>by
   simp at hx; subst hx; unfold IdP;exact IdL.of fun x hx=>by simp at hx; subst hx; unfold IdP; trivial
 refine wk ?_;refine A_dj q0l (.one 2 (.alt (.one 0 (.alt (.one 1 (.one 3 (.one 4 (.one 5 (.one 6 (.one 7 (.one 8 .fin))))))) (.one 3 (.one 4 (.alt (.one 1 (.one 5 (.one 6 (.one 7 (.one 8 .fin))))) (.one 5 (.one 1 (.one 6 (.one 7 (.one 8 .fin)))))))))) (.one 3 (.one 4 (.alt (.one 0 (.alt (.one 1 (.one 5 (.one 6 (.one 7 (.one 8 .fin))))) (.one 5 (.one 1 (.one 6 (.one 7 (.one 8 .fin))))))) (.one 5 (.one 0 (.one 1 (.one 6 (.one 7 (.one 8 .fin))))))))))) (by kernel_rfl) fun K hK=>?_;refine Zz ?_
 repeat' apply And.intro
 all_goals
  refine jm cT (by repeat (first | exact Wn_0 | refine Wn_l (by omega) ?_)) (by simp) ?_;refine Zz ?_;refine hK _ _ ?_; clear hK K;refine qgw ?_;refine rtM (rs:=[.tmp 2]) (l:=[.pt 10 0 0]) rfl rfl ?_ ?_ (.inl rfl)
  ·exact Zy
  rw [qsh];refine qjZ hn ?_ ?_ ?_
  ·exact Zy
  ·exact Zy
  ·exact Ow
def nbL (g:Nat→Nat→Bool) (gn:Nat→Bool) (v k:Nat):List Nat:=(List.range k).filter fun w=>g v w && !gn w
abbrev pN (l:List Nat):PV:=.sl none (l.map fun z:Nat=>iv z)
def nbL_s {g:Nat→Nat→Bool} {gn:Nat→Bool} {v k:Nat}:nbL g gn v (k+1)=nbL g gn v k ++ (if (g v k && !gn k)=true then [k] else []):=by
 unfold nbL;rw [List.range_succ,List.filter_append]
 congr 1
 cases h:(g v k && !gn k) <;> simp [h]
def q7Z {g:Nat→Nat→Bool} {gn:Nat→Bool} {v k:Nat}:(nbL g gn v k).length≤k:=by
 unfold nbL;have:=List.length_filter_le (fun w=>g v w && !gn w) (List.range k);simpa using this
def clN {l:List Nat}:ClL (l.map fun z:Nat=>iv z):=fun x hx=>by
 obtain ⟨e,_,rfl⟩:=List.mem_map.1 hx
 trivial
def q8l {n v:Nat} {g:Nat→Nat→Bool} {gn:Nat→Bool} (hn:n≤1000) (hv:v < n):qcz 167 [.pt 5000 0 0,iv v] (elH n g gn) (pN (nbL g gn v n)) (elH n g gn):=by
 refine qhK qli Tryz.func167 rfl Tryz.ntmps167 (by kernel_rfl) ?_ ?_ ?_ ?_
 ·exact qlR hn
 ·exact fun i b hb=>q3y hn hb
 ·exact IdL.of fun x hx=>by
   simp at hx
   rcases hx with rfl | rfl <;> unfold IdP <;> first | trivial | exact ⟨by omega,by omega⟩
 have rv:(List.range n)[v]?=some v:=List.getElem?_range hv;refine wk ?_;refine q0e (fun k=>k≤n) [0,1] [] Lk Lk (fun k:Nat=>[(6,iv k),(5,.ow 1001 none 0 (nbL g gn v k).length)]) (fun k=>[(1001,⟨3,none,(nbL g gn v k).map fun z:Nat=>iv z,false⟩)]) (fun _=>elH n g gn) (fun k=>n-k) 0 (Nat.zero_le _) ?_ ?_
 ·refine LeW [(1001,none)] rfl rfl ?_ ?_ (by simp [q21,q1s,win]) ?_
  ·exact Wn_r
  ·exact q2W hn
  ·refine Zz ?_;exact ⟨⟨rfl,rfl⟩,rfl⟩
 ·intro k hk;have hlen:=q7Z (g:=g) (gn:=gn) (v:=v) (k:=k);refine wk ?_
  by_cases hlt:k < n
  ·have hlt':(k:Int) < n:=by omega
   have rk:(List.range n)[k]?=some k:=List.getElem?_range hlt;refine wk1 hlt' ?_;have hns:=nbL_s (g:=g) (gn:=gn) (v:=v) (k:=k);cases h1:g v k with
   | false =>
    rw [h1] at hns;simp only [Bool.false_and,Bool.false_eq_true,if_false,List.append_nil] at hns;refine wk1 (x3 rv rk h1) ?_;refine ⟨k+1,by omega,by omega,?_⟩;rw [hns];refine LeW [] rfl rfl ?_ ?_ (by simp [q21,q1s,win]) ?_
    ·exact Ow
    ·exact q2W hn
    ·refine Zz ?_;exact ⟨by omega,q1A rfl clN⟩
   | true =>
    cases h2:gn k with
    | true =>
     rw [h1,h2] at hns;simp only [Bool.not_true,Bool.and_false,Bool.false_eq_true,if_false,List.append_nil] at hns;refine wk1 (x4 rv rk h1 h2) ?_;refine ⟨k+1,by omega,by omega,?_⟩;rw [hns];refine LeW [] rfl rfl ?_ ?_ (by simp [q21,q1s,win]) ?_
     ·exact Ow
     ·exact q2W hn
     ·refine Zz ?_;exact ⟨by omega,q1A rfl clN⟩
    | false =>
     rw [h1,h2] at hns;simp only [Bool.not_false,Bool.and_true,if_true] at hns;refine wk1 (x4 rv rk h1 h2) ?_;refine ⟨k+1,by omega,by omega,?_⟩;rw [hns];refine LeW [(1001,some 39)] rfl rfl ?_ ?_ (by simp [q21,q1s,win]) ?_
     ·exact Ow
     ·exact q2W hn
     ·refine Zz ?_;exact ⟨by omega,q1A (by simp) clN⟩
  ·have hlt':¬ (k:Int) < n:=by omega
   obtain rfl:k=n:=by omega
   refine wk1 hlt' ?_;refine (rtM (rs:=[.tmp 4]) rfl rfl Lq ?_ (.inl rfl));refine LeF q2x (fun i b hb=>q3y hn hb) (q2W hn) ?_;refine Zz ?_;refine q3m (T:=3) (qfD Oq) clN (fun i hi=>?_) ?_
   ·cases hi; exact qlS Oq
   ·rw [List.drop_zero]; exact List.take_of_length_le (by simp)
def eJ (l:List Nat) (g:Nat→Nat→Bool) (i:Nat):Nat→Nat→Nat→Bool
 | 0=>g
 | j+1=>if i=j then eJ l g i j else qig (eJ l g i j) (l.getD i 0) (l.getD j 0) true
def eI (l:List Nat) (g:Nat→Nat→Bool):Nat→Nat→Nat→Bool
 | 0=>g
 | i+1=>eJ l (eI l g i) i l.length
def qo5 (g:Nat→Nat→Bool) (gn:Nat→Bool) (v n:Nat):Nat→Nat→Bool:=eI (nbL g gn v n) g (nbL g gn v n).length
def qt9 (gn:Nat→Bool) (v:Nat):Nat→Bool:=fun y=>if y=v then true else gn y
def qj2 {n v:Nat} {g:Nat→Nat→Bool} {gn:Nat→Bool} (hn:n≤1000) (hv:v < n):qcz 168 [.pt 5000 0 0,iv v] (elH n g gn) (.tu []) (elH n (qo5 g gn v n) (qt9 gn v)):=by
 refine qhK qlh Tryz.func168 rfl Tryz.ntmps168 (by kernel_rfl) ?_ ?_ ?_ ?_
 ·exact qlR hn
 ·exact fun i b hb=>q3y hn hb
 ·exact IdL.of fun x hx=>by
   simp at hx
   rcases hx with rfl | rfl <;> unfold IdP <;> first | trivial | exact ⟨by omega,by omega⟩
 have rv:(List.range n)[v]?=some v:=List.getElem?_range hv;have hl:∀ (i x:Nat),(nbL g gn v n)[i]?=some x→x < n:=fun i x hx=>by
  have:=List.mem_of_getElem? hx;unfold nbL at this;exact List.mem_range.1 (List.mem_filter.1 this).1
 have hlen:=q7Z (g:=g) (gn:=gn) (v:=v) (k:=n);unfold qo5;refine wk ?_;refine qhL fun K hK=>?_;refine Zz ?_;refine jm (q8l hn hv) ?_ (fun i h _=>h) ?_
 ·exact Wn_r
 try refine Zz ?_
 refine hK _ _ ?_; clear hK K;generalize nbL g gn v n=l at *
 try refine Zz ?_
 refine wk ?_;refine q0e (fun i=>i≤l.length) [0,1,4] [] Lk Lk (fun i:Nat=>[(5,iv i)]) (fun _=>[]) (fun i=>elH n (eI l g i) gn) (fun i=>l.length-i) 0 (Nat.zero_le _) ?_ ?_
 ·refine LeW [] rfl rfl ?_ ?_ (by simp [q21,q1s,win]) ?_
  ·exact q2x
  ·exact q2W hn
  ·refine Zz ?_
   rfl
 ·intro i hi;refine wk ?_
  by_cases hlt:i < l.length
  ·have hlt':(i:Int) < l.length:=by omega
   obtain ⟨a,ha⟩:∃ x,l[i]?=some x:=⟨_,List.getElem?_eq_getElem hlt⟩;have han:=hl i a ha;have ra:(List.range n)[a]?=some a:=List.getElem?_range han;have da:l.getD i 0=a:=by rw [List.getD_eq_getElem?_getD,ha]; rfl
   refine wk1 hlt' ?_;refine q0e (fun j=>j≤l.length) [0,1,4,5] [] Lk Lk (fun j:Nat=>[(6,iv j)]) (fun _=>[]) (fun j=>elH n (eJ l (eI l g i) i j) gn) (fun j=>l.length-j) 0 (Nat.zero_le _) ?_ ?_
   ·refine LeW [] rfl rfl ?_ ?_ (by simp [q21,q1s,win]) ?_
    ·exact q2x
    ·exact q2W hn
    ·refine Zz ?_;omega
   ·intro j hj;refine wk ?_
    by_cases hj2:j < l.length
    ·have hj':(j:Int) < l.length:=by omega
     obtain ⟨b,hb⟩:∃ x,l[j]?=some x:=⟨_,List.getElem?_eq_getElem hj2⟩;have hbn:=hl j b hb;have rb:(List.range n)[b]?=some b:=List.getElem?_range hbn;have db:l.getD j 0=b:=by rw [List.getD_eq_getElem?_getD,hb]; rfl
     refine wk1 hj' ?_
     by_cases hij:i=j
     ·have e1:((i:Int) != (j:Int))=false:=by simp; omega
      refine wk1 e1 ?_;refine ⟨j+1,by omega,by omega,?_⟩;have es:eJ l (eI l g i) i (j+1)=eJ l (eI l g i) i j:=by rw [eJ,if_pos hij]
      rw [es];refine LeW [] rfl rfl ?_ ?_ (by simp [q21,q1s,win]) ?_
      ·exact q2x
      ·exact q2W hn
      ·refine Zz ?_;omega
     ·have e1:((i:Int) != (j:Int))=true:=by simp; omega
      refine wk1 (x5 e1 ha hb ra rb) ?_;refine ⟨j+1,by omega,by omega,?_⟩;have es:eJ l (eI l g i) i (j+1)=qig (eJ l (eI l g i) i j) a b true:=by rw [eJ,if_neg hij,da,db]
      rw [es];refine LeW [] rfl rfl ?_ ?_ (by simp [q21,q1s,win]) ?_
      ·exact qaQ (qgl q2x) (qo6 han)
      ·exact q2W hn
      ·refine Zz ?_;omega
    ·have hj':¬ (j:Int) < l.length:=by omega
     obtain rfl:j=l.length:=by omega
     refine wk1 hj' ?_;refine ⟨i+1,by omega,by omega,?_⟩;refine LeW [] rfl rfl ?_ ?_ (by simp [q21,q1s,win]) ?_
     ·exact q2x
     ·exact q2W hn
     ·refine Zz ?_;omega
  ·have hlt':¬ (i:Int) < l.length:=by omega
   obtain rfl:i=l.length:=by omega
   refine wk1 (x2 hlt' rv) ?_;refine rtM (rs:=[]) rfl rfl Lq ?_ (.inr rfl);refine LeF (qaQ (qgl q2x) qj0) (fun i b hb=>q3y hn hb) (q2W hn) ?_;exact Zy
def elS (g:Nat→Nat→Bool) (n:Nat):Nat→(Nat→Nat→Bool) × (Nat→Bool)
 | 0=>(g,fun _=>false)
 | j+1=>(qo5 (elS g n j).1 (elS g n j).2 j n,qt9 (elS g n j).2 j)
def qlW (g:Nat→Nat→Bool) (n j:Nat):List Nat:=j :: nbL (elS g n j).1 (elS g n j).2 j n
def q2v (g:Nat→Nat→Bool) (n k:Nat):List (List Nat):=(List.range k).map (qlW g n)
abbrev pNN (l:List (List Nat)):PV:=.sl none (l.map fun q=>pN q)
def clNN {l:List (List Nat)}:ClL (l.map fun q=>pN q):=fun x hx=>by
 obtain ⟨e,_,rfl⟩:=List.mem_map.1 hx
 trivial
def qor {g:Nat→Nat→Bool} {n j x:Nat} (hj:j < n) (h:x ∈ qlW g n j):x < n:=by
 unfold qlW at h
 rcases List.mem_cons.1 h with rfl | h
 ·exact hj
 ·unfold nbL at h;exact List.mem_range.1 (List.mem_filter.1 h).1
def qbZ {g:Nat→Nat→Bool} {n j:Nat}:(qlW g n j).length≤n+1:=by
 unfold qlW;have:=q7Z (g:=(elS g n j).1) (gn:=(elS g n j).2) (v:=j) (k:=n);simp; omega
def qoq {g:Nat→Nat→Bool} {n k:Nat}:q2v g n (k+1)=q2v g n k ++ [qlW g n k]:=by
 unfold q2v;rw [List.range_succ,List.map_append]; rfl
def qaE {adj:List (List Int)} {n:Nat} (hl:adj.length=n) (hn:n≤200) (hG:GOk adj) (hv:∀ l ∈ adj,l.length≤1000000∧∀ w ∈ l,0≤w∧w < n):ACt 109 [pG adj] (.tu [pNN (q2v (adT adj) n n),iv 0]):=by
 have cB:=qfs hl Oq hv;have cK:=q9t (adj:=adj) (fun q hq=>by have:=(hv q hq).1; omega);have c0:qcd adj=0:=by unfold qcd; rw [if_neg (by omega),if_pos hG]
 rw [c0] at cK;clear c0;have e0:((0:Int) != 0)=false:=rfl;generalize adT adj=g at *;subst hl;unfold pG at cB cK ⊢;refine ac0 Tryz.func109 Tryz.ntmps109 [.tmp 2,.tmp 3] ?_;refine wk1 e0 ?_;refine qhL fun K hK=>?_;refine Zz ?_;refine jmF cB ?_ ?_
 ·exact Ow
 try refine Zz ?_
 refine hK _ _ ?_; clear hK K;refine wk ?_;refine q0e (fun j=>j≤adj.length) [1,5] [1] Lk Lk (fun j:Nat=>[(7,iv j),(6,.ow 1001 none 0 j)]) (fun j=>[(1001,⟨24,none,(q2v g adj.length j).map fun q=>pN q,false⟩)]) (fun j=>elH adj.length (elS g adj.length j).1 (elS g adj.length j).2) (fun j=>adj.length-j) 0 (Nat.zero_le _) ?_ ?_
 ·refine LeW [(1001,none)] rfl rfl ?_ ?_ (by simp [q21,q1s,win]) ?_
  ·exact q2x
  ·exact q2W Oq
  ·refine Zz ?_;exact ⟨rfl,rfl⟩
 ·intro j hj;refine wk ?_
  by_cases hlt:j < adj.length
  ·have hlt':(j:Int) < adj.length:=by omega
   refine wk1 hlt' ?_;have hnl:=q7Z (g:=(elS g adj.length j).1) (gn:=(elS g adj.length j).2) (v:=j) (k:=adj.length);have hcl:(q2v g adj.length j).length=j:=by simp [q2v]
   refine wk ?_;refine qhL fun K hK=>?_;refine Zz ?_;refine jmF (q8l (g:=(elS g adj.length j).1) (gn:=(elS g adj.length j).2) Oq hlt) ?_ ?_
   ·exact Ow
   refine Zz1 hcl ?_;refine hK _ _ ?_; clear hK K;refine qgx fun K9 hK9=>?_;refine Zz ?_;refine jmF (qj2 (g:=(elS g adj.length j).1) (gn:=(elS g adj.length j).2) Oq hlt) ?_ ?_
   ·exact Ow
   try refine Zz ?_
   refine hK9 _ _ ?_; clear hK9 K9;refine wk ?_;refine ⟨j+1,by omega,by omega,?_⟩;refine LeW [(1001,some 30)] rfl rfl ?_ ?_ (by simp [q21,q1s,win]) ?_
   ·exact q2x
   ·exact q2W Oq
   ·refine Zz ?_;rw [qoq,List.map_append];refine ⟨by omega,qaT (q1A rfl clNN) ?_⟩;rw [List.map_singleton,q4y];refine q3m (T:=3) (l:=(qlW g adj.length j).map fun z:Nat=>iv z) ?_ clN (fun i hi=>?_) ?_
    ·refine Zz ?_
     rfl
    ·have:i=28:=by
      unfold q1s at hi
      split at hi
      ·cases hi
      ·unfold q1s at hi; cases hi; rfl
     subst this;exact Zy
    ·rw [List.drop_zero]; exact List.take_of_length_le (by simp [qlW]; omega)
  ·have hlt':¬ (j:Int) < adj.length:=by omega
   obtain rfl:j=adj.length:=by omega
   refine wk1 hlt' ?_;exact List.take_of_length_le (by simp [q2v])
def q9v {t:Nat→Nat→Bool} {n:Nat}:(frG t n).length=n:=by simp [frG]
def q79 {t:Nat→Nat→Bool} {v n:Nat} {w:Int}:w ∈ frL t v n ↔ ∃ k:Nat,w=k∧k < n∧q1Y t v k=true:=by
 unfold frL;rw [List.mem_map]
 constructor
 ·rintro ⟨k,hk,rfl⟩;obtain ⟨h1,h2⟩:=List.mem_filter.1 hk;exact ⟨k,rfl,List.mem_range.1 h1,h2⟩
 ·rintro ⟨k,rfl,h1,h2⟩;exact ⟨k,List.mem_filter.2 ⟨List.mem_range.2 h1,h2⟩,rfl⟩
def q9u {t:Nat→Nat→Bool} {v:Nat}:∀ n,Asc (frL t v n)
 | 0=>fun i x y h=>by simp [frL] at h
 | n+1=>fun i x y hx hy=>by
  rw [qoK] at hx hy
  split at hy
  ·by_cases h1:i+1 < (frL t v n).length
   ·rw [List.getElem?_append_left h1] at hy;rw [if_pos (by assumption),List.getElem?_append_left (by omega)] at hx;exact q9u n i x y hx hy
   ·have h2:i+1=(frL t v n).length:=by
     have:=(List.getElem?_eq_some_iff.1 hy).1;simp at this; omega
    rw [List.getElem?_append_right (by omega),h2] at hy;simp at hy;rw [if_pos (by assumption),List.getElem?_append_left (by omega)] at hx;obtain ⟨k,rfl,hk,_⟩:=q79.1 (List.mem_of_getElem? hx);omega
  ·rw [if_neg (by assumption)] at hx;rw [List.append_nil] at hx hy;exact q9u n i x y hx hy
def qfQ {t:Nat→Nat→Bool} {n v:Nat} {l:List Int} (h:(frG t n)[v]?=some l):v < n∧l=frL t v n:=by
 unfold frG at h;rw [List.getElem?_map] at h
 rcases Nat.lt_or_ge v n with hv | hv
 ·rw [List.getElem?_range hv] at h;cases h; exact ⟨hv,rfl⟩
 ·rw [List.getElem?_eq_none (by simpa using hv)] at h; cases h
def q9h {t:Nat→Nat→Bool} {v w:Nat}:q1Y t v w=q1Y t w v:=by
 unfold q1Y;rw [Bool.or_comm]
 congr 1
 exact decide_eq_decide.2 ⟨Ne.symm,Ne.symm⟩
def qlH {t:Nat→Nat→Bool} {n:Nat}:GOk (frG t n):=fun v l hl=>by
 obtain ⟨hv,rfl⟩:=qfQ hl;refine ⟨q9u n,fun w hw=>?_⟩;obtain ⟨k,rfl,hk,hj⟩:=q79.1 hw;refine ⟨by omega,by rw [q9v]; omega,fun e=>?_,fun q hq=>?_⟩
 ·obtain rfl:k=v:=by omega
  simp [q1Y] at hj
 ·rw [Int.toNat_natCast] at hq;obtain ⟨_,rfl⟩:=qfQ hq;exact q79.2 ⟨v,rfl,hv,by rw [q9h]; exact hj⟩
def qlI {t:Nat→Nat→Bool} {n:Nat} (hn:n≤1000):∀ l ∈ frG t n,l.length≤1000000∧∀ w ∈ l,0≤w∧w < n:=fun l hl=>by
 obtain ⟨v,hv,rfl⟩:=List.mem_map.1 hl;have:=qfP (t:=t) (v:=v) (w:=n);refine ⟨by omega,fun w hw=>?_⟩;obtain ⟨k,rfl,hk,_⟩:=q79.1 hw;omega
def q83 {f:Nat→Nat→Option Nat} {j i x:Nat} (h:q72 f j i=some x):f j i=some x:=by
 unfold q72 at h
 split at h
 ·exact h
 ·cases h
def qnh {f:Nat→Nat→Option Nat} {R C:Nat} (h:TOk f R C):TOk (q72 f) R C:=⟨h.r,h.c,h.m,fun j i x h1 h2 h3=>h.u j i x h1 h2 (q83 h3),fun j i x h1 h2 h3=>h.v j i x h1 h2 (q83 h3)⟩
def qcO (f:Nat→Nat→Option Nat) (l:List Int) (n:Nat):List (List Int):=frG (qk9 (frG (qhi (q72 f)) n) l) n
def qdt {f:Nat→Nat→Option Nat} {n:Nat} {l:List Int} (h:TOk f n n) (hp:q2y l n):ACt 110 [pT n n f,pI l] (pG (qcO f l n)):=by
 have hn:=h.r;have cL:=qdZ h;have cM:=q61 (qnh h);have cR:=q9r (adj:=frG (qhi (q72 f)) n) (l:=l) q9v hn qlH (qlI Oq) hp;have e:frG (qk9 (frG (qhi (q72 f)) n) l) n=qcO f l n:=rfl;rw [e] at cR;clear e;generalize qcO f l n=res at *;generalize frG (qhi (q72 f)) n=adj at *;have hpl:pT n n f=q3G n n (tM f n n).1 (tM f n n).2.1 (tM f n n).2.2:=rfl;have hpl2:pT n n (q72 f)=q3G n n (tM (q72 f) n n).1 (tM (q72 f) n n).2.1 (tM (q72 f) n n).2.2:=rfl;rw [hpl] at cL ⊢;rw [hpl2] at cL cM;clear hpl hpl2;unfold q3G at *;unfold pG at *;generalize (tM f n n).1=st at *;generalize (tM f n n).2.1=ix at *;generalize (tM f n n).2.2=vl at *;generalize (tM (q72 f) n n).1=st' at *;generalize (tM (q72 f) n n).2.1=ix' at *;generalize (tM (q72 f) n n).2.2=vl' at *;refine ac0 Tryz.func110 Tryz.ntmps110 [.cell 4 141] ?_;exact wk trivial
def qs5 {V:Int} (h:V=0):od V=0:=by
 have:=q1z V;rw [h] at this ⊢
 rcases Int.mul_eq_zero.1 this with h | h
 ·exact h
 ·exact absurd h (Int.ne_of_gt (q08 _))
def qhz {A B mode:Int} (hB0:B=0):ACt 137 [pV A,pV B,iv mode] (uv 9221120237041090560):=q6V (al':=[dT A,dT B,iv mode]) (p:=q0k A∧q0k B) qg6 (fun D w vs hR=>by
 obtain ⟨a,b,c,rfl,h1,h2,h3⟩:=rd_3 hR;obtain ⟨h4,h5⟩:=q2q.2 (q2z h1);obtain ⟨h6,h7⟩:=q2q.2 (q2z h2);refine ⟨?_,h5,h7⟩;unfold RdL;refine ⟨_,_,rfl,h4,?_⟩;unfold RdL;exact ⟨_,_,rfl,h6,RdL.one h3⟩) fun ⟨hA,hB⟩=>by
 have b3:=q3b hB;have cA:=q1P hA;have cB:=q1P hB;have sB:=q1m (a:=od B) Oq;have e1:((od B).sign == 0)=true:=by rw [qs5 hB0]; rfl
 unfold dT at *;unfold bT at *;refine ac0 Tryz.func137 Tryz.ntmps137 [.tmp 6] ?_;exact wk1 e1 trivial
def qhD (mode A B:Int):Nat:=if B=0 then 9221120237041090560 else fQ mode A B
def qeV {mode A B:Int}:qhD mode A B < 18446744073709551616:=by
 unfold qhD
 split
 ·omega
 ·exact q9z (by assumption)
def qhy {A B mode:Int}:ACt 137 [pV A,pV B,iv mode] (uv (qhD mode A B:Nat)):=by
 unfold qhD
 split
 ·exact qhz (by assumption)
 ·exact qnF (by assumption)
def qeM {V:Int} (hV:¬ 0 < V):ACt 174 [pV V,iv 0] (uv (if V < 0 then 9221120237041090560 else 0:Nat)):=q6V (al':=[dT V,iv 0]) (p:=q0k V) qba (fun D w vs hR=>by
  obtain ⟨b,c,rfl,h1,h2⟩:=q6Y hR;obtain ⟨h4,h5⟩:=q2q.2 (q2z h1);refine ⟨?_,h5⟩;unfold RdL;exact ⟨_,_,rfl,h4,RdL.one h2⟩) fun hA=>by
 have a3:=q3b hA;have cA:=q1P hA;have sA:=q1m (a:=od V) Oq
 by_cases h0:V < 0
 ·rw [if_pos h0];have hn:od V < 0:=by
   have h1:=q1u V;rw [decide_eq_true h0] at h1;exact of_decide_eq_true h1
  have g1:(od V).sign < 0:=by rw [Int.sign_eq_neg_one_of_neg hn]; omega
  unfold dT at *;unfold bT at *;refine ac0 Tryz.func174 Tryz.ntmps174 [.tmp 4] ?_;refine wk1 g1 ?_
  rfl
 ·rw [if_neg h0];have hz:od V=0:=qs5 Oq;have g1:¬ (od V).sign < 0:=by rw [hz]; simp
  have g2:((od V).sign == 0)=true:=by rw [hz]; rfl
  unfold dT at *;unfold bT at *;refine ac0 Tryz.func174 Tryz.ntmps174 [.tmp 4] ?_;refine wk1 (x2 g1 g2) ?_
  rfl
noncomputable def q4N (V:Int):Nat:=if 0 < V then qeD V else if V < 0 then 9221120237041090560 else 0
def qaj {V:Int}:q4N V < 18446744073709551616:=by
 unfold q4N
 split
 ·exact qhv
 ·split <;> omega
def qeL {V:Int}:ACt 174 [pV V,iv 0] (uv (q4N V:Nat)):=by
 unfold q4N
 split
 ·exact qhx (by assumption)
 ·exact qeM (by assumption)
end Go.Proofs.YtbcmhlhgljoolaaGreatDoor
namespace Go.E
open Go Go.RowKit
section
variable {P:Program} {J:Nat→Prop} {s:Nat→PV} {h hw:Hp} {τ:Nat→Option Nat} {T1 T2:TypeId} {N R n k m:Nat} {g:Nat→Nat→Nat}
def q6X (T1 T2:TypeId) (N R n k m:Nat) (g:Nat→Nat→Nat):Hp:=fun i =>
 if i=N then some ⟨T1,none,(List.range n).map fun j=>if j < k then .ow (j+R) none 0 m else .vl (.slice none 0 0),false⟩
 else if R≤i∧i < R+k then some ⟨T2,none,(List.range m).map fun c=>.vl (.int .u64 (g (i-R) c:Nat)),false⟩ else none
def qrE:q6X T1 T2 N R n k m g N=some ⟨T1,none,(List.range n).map fun j=>if j < k then .ow (j+R) none 0 m else .vl (.slice none 0 0),false⟩:=if_pos rfl
def qa3 {j:Nat} (hN:N < R) (hj:j < k):q6X T1 T2 N R n k m g (j+R)=some ⟨T2,none,(List.range m).map fun c=>.vl (.int .u64 (g j c:Nat)),false⟩:=by
 unfold q6X;rw [if_neg (by omega),if_pos (by omega),Nat.add_sub_cancel]
attribute [go_sem ↓] qrE qa3
def q4G {i:Nat} {b:Bk} (hb:q6X T1 T2 N R n k m g i=some b):(i=N∧b=⟨T1,none,(List.range n).map fun j=>if j < k then .ow (j+R) none 0 m else .vl (.slice none 0 0),false⟩)∨(R≤i∧i < R+k∧b=⟨T2,none,(List.range m).map fun c=>.vl (.int .u64 (g (i-R) c:Nat)),false⟩):=by
 unfold q6X at hb
 split at hb
 ·cases hb; exact .inl ⟨‹_›,rfl⟩
 ·split at hb
  ·rename_i hi; cases hb; exact .inr ⟨hi.1,hi.2,rfl⟩
  ·cases hb
def idU2 {α:Type} {p:Nat→Prop} {l:List α} {f:α→Nat}:IdL p (l.map fun z=>.vl (.int .u64 (f z:Nat))):=IdL.of fun x hx=>by
 obtain ⟨z,_,rfl⟩:=List.mem_map.1 hx;unfold IdP; trivial
def qh7 {p:Nat→Prop} (hp:∀ j,j < k→p (j+R)):IdL p ((List.range n).map fun j=>if j < k then .ow (j+R) none 0 m else .vl (.slice none 0 0)):=IdL.of fun x hx=>by
 obtain ⟨z,hz,rfl⟩:=List.mem_map.1 hx
 split
 ·unfold IdP; exact hp z (by assumption)
 ·unfold IdP; trivial
def q3M (hN:5000≤N) (hNR:N < R) (hR:R+k≤1000000):WfH (q6X T1 T2 N R n k m g):=⟨fun i b hb=>by
 rcases q4G hb with ⟨_,rfl⟩ | ⟨h1,h2,rfl⟩
 ·refine ⟨rfl,qh7 fun j hj=>⟨⟨by omega,by omega⟩,?_⟩⟩;rw [qa3 hNR hj]; exact Option.some_ne_none _
 ·exact ⟨rfl,idU2⟩⟩
def qkv (g:Nat→Nat→Nat) (r c v:Nat):Nat→Nat→Nat:=fun x y=>if x=r∧y=c then v else g x y
def qhu {f:Nat→Nat} {c v:Nat}:((List.range m).map fun y=>PV.vl (.int .u64 (f y:Nat))).set c (.vl (.int .u64 (v:Nat)))=(List.range m).map fun y=>PV.vl (.int .u64 (if y=c then v else f y:Nat)):=by
 apply List.ext_getElem?
 intro i;rw [List.getElem?_set];simp only [List.length_map,List.length_range,List.getElem?_map]
 by_cases hi:i < m
 ·rw [List.getElem?_range hi]
  by_cases hc:c=i
  ·subst hc; simp [hi]
  ·simp [hc,Ne.symm hc]
 ·rw [List.getElem?_eq_none (by simpa using hi)]
  by_cases hc:c=i <;> simp [hc]
  omega
def qh5 (hNR:N < R) {r c v:Nat} (hr:r < k):q07 (q6X T1 T2 N R n k m g) (r+R) ⟨T2,none,((List.range m).map fun y=>.vl (.int .u64 (g r y:Nat))).set c (.vl (.int .u64 (v:Nat))),false⟩=q6X T1 T2 N R n k m (qkv g r c v):=by
 funext i
 rw [qhu];unfold q07
 split
 ·rename_i hi;subst hi;rw [qa3 hNR hr];simp [qkv]
 ·rename_i hi;unfold q6X
  split
  ·rfl
  ·split
   ·congr 2
    refine List.map_congr_left fun y _=>?_;unfold qkv;rw [if_neg (by omega)]
   ·rfl
def tnU (N o:Nat):Nat→Option Nat:=fun i=>if i=N then some o else some i
def qqw {o i:Nat}:tnU N o i=if i=N then some o else some i:=rfl
attribute [go_sem ↓] qqw
def qh6 {o:Nat} (hJ:∀ i,¬ J i) (ho:h o=some ⟨T1,none,List.replicate n (.vl (.slice none 0 0)),false⟩) (h5:o < 5000) (hN:5000≤N) (hNR:N < R) {xs kv:List (Nat × PV)} {kb:List (Nat × Option Bk)} (hn:nmW o o (kb.map (·.1)))
  (hh:q5U (tnU N o) h (q1Q (q6X T1 T2 N R n 0 m g) (hpM [] kb)) s xs∧q5U (tnU N o) h (q1Q (q6X T1 T2 N R n 0 m g) (hpM [] kb)) s kv∧q9F (tnU N o) h (q1Q (q6X T1 T2 N R n 0 m g) (hpM [] kb)) kb):Le J s h (stM xs kv) (q1Q (q6X T1 T2 N R n 0 m g) (hpM [] kb)):=by
 obtain ⟨h1,h2,h4⟩:=hh;have key:∀ i b,q1Q (q6X T1 T2 N R n 0 m g) (hpM [] kb) i=some b→i=N∨(i < 5000∧i≠o):=fun i b hb=>by
  by_cases hi:win i
  ·rw [q0m hi] at hb
   rcases q4G hb with ⟨e,_⟩ | ⟨q1,q2,_⟩
   ·exact .inl e
   ·omega
  ·rw [q1J hi] at hb;have:=q3t hn i (q2Y h4 i b hb).2;exact .inr ⟨this.1,this.2.1⟩
 refine q30 (tnU N o) (fun i b hb=>?_) (fun i j k' b c hi hj ti tj=>?_) (fun t=>q3n h2 h1 t) fun i hi=>(hJ i hi).elim
 ·by_cases hi:win i
  ·rw [q0m hi] at hb
   rcases q4G hb with ⟨rfl,rfl⟩ | ⟨q1,q2,_⟩
   ·unfold LeB tnU;rw [if_pos rfl];refine ⟨_,ho,rfl,rfl,⟨rfl,rfl⟩,?_⟩;rw [q4j];refine ⟨by simp,fun c x y hx hy=>?_⟩;have hc:c < n:=by have:=(List.getElem?_eq_some_iff.1 hy).1; simpa using this
    rw [List.getElem?_map,List.getElem?_range hc,Option.map_some] at hx hy;cases hx; cases hy;rw [if_neg (by omega)];exact .cl trivial
   ·omega
  ·rw [q1J hi] at hb;exact (q2Y h4 i b hb).1
 ·unfold tnU at ti tj
  rcases key i b hi with rfl | ⟨a1,a2⟩ <;> rcases key j c hj with rfl | ⟨b1,b2⟩
  ·rfl
  ·rw [if_pos rfl] at ti; rw [if_neg (by omega)] at tj; cases ti; cases tj; exact (b2 rfl).elim
  ·rw [if_neg (by omega)] at ti; rw [if_pos rfl] at tj; cases ti; cases tj; exact (a2 rfl).elim
  ·rw [if_neg (by omega)] at ti tj; cases ti; cases tj; rfl
def qdT {r:Nat} (hJ:∀ i,¬ J i) (hk:k < n) (ho:h N=some ⟨T1,none,((List.range n).map fun j=>if j < k then .ow (j+R) none 0 m else .vl (.slice none 0 0)).set k (.ow r none 0 m),false⟩) (hr:h r=some ⟨T2,none,(List.range m).map fun c=>.vl (.int .u64 (g k c:Nat)),false⟩)
  (hrow:∀ j,j < k→h (j+R)=some ⟨T2,none,(List.range m).map fun c=>.vl (.int .u64 (g j c:Nat)),false⟩) (h6:r < 5000) (hN:5000≤N) (hNR:N < R) (hR:R+k < 1000000) {xs kv:List (Nat × PV)} {kb:List (Nat × Option Bk)} (hn:nmW r r (kb.map (·.1)))
  (hh:q5U (tnU (k+R) r) h (q1Q (q6X T1 T2 N R n (k+1) m g) (hpM [] kb)) s xs∧q5U (tnU (k+R) r) h (q1Q (q6X T1 T2 N R n (k+1) m g) (hpM [] kb)) s kv∧q9F (tnU (k+R) r) h (q1Q (q6X T1 T2 N R n (k+1) m g) (hpM [] kb)) kb):Le J s h (stM xs kv) (q1Q (q6X T1 T2 N R n (k+1) m g) (hpM [] kb)):=by
 obtain ⟨q1,q2,q4⟩:=hh;have tK:tnU (k+R) r (k+R)=some r:=if_pos rfl;have tI:∀ i,i≠k+R→tnU (k+R) r i=some i:=fun i a=>if_neg a;have key:∀ i b,q1Q (q6X T1 T2 N R n (k+1) m g) (hpM [] kb) i=some b→i≠r:=fun i b hb=>by
  by_cases hi:win i
  ·unfold win at hi; omega
  ·rw [q1J hi] at hb;exact (q3t hn i (q2Y q4 i b hb).2).2.1
 refine q30 (tnU (k+R) r) (fun i b hb=>?_) (fun i j k' b c hi hj ti tj=>?_) (fun t=>q3n q2 q1 t) fun i hi=>(hJ i hi).elim
 ·by_cases hi:win i
  ·rw [q0m hi] at hb
   rcases q4G hb with ⟨rfl,rfl⟩ | ⟨a1,a2,rfl⟩
   ·unfold LeB;rw [tI i (by omega)];refine ⟨_,ho,rfl,rfl,⟨rfl,rfl⟩,by simp,fun c x y hx hy=>?_⟩;have hc:c < n:=by have:=(List.getElem?_eq_some_iff.1 hy).1; simpa using this
    rw [List.getElem?_map,List.getElem?_range hc,Option.map_some] at hy;cases hy;rw [List.getElem?_set] at hx;have hex:c < k+1→∃ b,q1Q (q6X T1 T2 i R n (k+1) m g) (hpM [] kb) (c+R)=some b:=fun h=>⟨_,by rw [q0m ⟨by omega,by omega⟩,qa3 hNR h]⟩
    by_cases hck:k=c
    ·subst hck;rw [if_pos rfl,if_pos (by simpa using hc)] at hx;cases hx;obtain ⟨bb,hbb⟩:=hex Oq;rw [if_pos (by omega)];exact .ow tK hbb
    ·rw [if_neg hck,List.getElem?_map,List.getElem?_range hc,Option.map_some] at hx;cases hx
     by_cases hlt:c < k
     ·obtain ⟨bb,hbb⟩:=hex Oq;rw [if_pos hlt,if_pos (by omega)];exact .ow (tI _ Oq) hbb
     ·rw [if_neg hlt,if_neg (by omega)];exact .cl trivial
   ·by_cases e:i=k+R
    ·subst e;unfold LeB;rw [tK,Nat.add_sub_cancel];exact ⟨_,hr,rfl,rfl,⟨rfl,rfl⟩,LeL_self (p:=fun _=>False) (fun _ h=>h.elim) _ idU2⟩
    ·unfold LeB;rw [tI i e];have:=hrow (i-R) Oq;rw [Nat.sub_add_cancel a1] at this;exact ⟨_,this,rfl,rfl,⟨rfl,rfl⟩,LeL_self (p:=fun _=>False) (fun _ h=>h.elim) _ idU2⟩
  ·rw [q1J hi] at hb;exact (q2Y q4 i b hb).1
 ·have a1:=key i b hi;have a2:=key j c hj;unfold tnU at ti tj
  split at ti <;> split at tj <;> cases ti <;> cases tj <;> first | omega | rfl | exact (a1 rfl).elim | exact (a2 rfl).elim
end
end Go.E
namespace Go.Proofs.YtbcmhlhgljoolaaGreatDoor
open Go Go.E Go.Sp
def lcS (F:Nat→Nat→Option Nat) (l:List Int) (g:Nat→Nat→Nat) (i j:Nat):Nat→List Int
 | 0=>[ofZ ((F (min (lfN l i) (lfN l j)) (max (lfN l i) (lfN l j))).getD 0)]
 | m+1=>lcS F l g i j m ++ [-(q1e (g m i) (g m j))]
open Classical in
noncomputable def lcV (d:Int) (g:Nat→Nat→Nat) (i j:Nat):Option Nat :=
 if i=j then (if 0 < d∧¬ (q4N d=0∨q4N d=9223372036854775808)∧q0Y (q4N d) then some (q4N d) else none)
 else (if q0Y (qhD 0 d (ofZ (g j j))) then some (qhD 0 d (ofZ (g j j))) else none)
abbrev LSt:=(Nat→Nat→Nat) × List Int × List Nat
noncomputable def lcC (F:Nat→Nat→Option Nat) (l:List Int) (cs:List Nat) (j:Nat) (p:LSt):Nat→Option LSt
 | 0=>some p
 | c+1=>(lcC F l cs j p c).bind fun q=>(lcV (q1I (lcS F l q.1 (cs.getD c 0) j j)) q.1 (cs.getD c 0) j).map fun v=>(qkv q.1 j (cs.getD c 0) v,q.2.1 ++ [(cs.getD c 0:Int)],q.2.2 ++ [v])
noncomputable def lcM (F:Nat→Nat→Option Nat) (l:List Int) (cols:List (List Nat)):Nat→Option (List Int × LSt)
 | 0=>some ([0],fun _ _=>0,[],[])
 | j+1=>(lcM F l cols j).bind fun q=>(lcC F l (cols.getD j []) j q.2 (cols.getD j []).length).map fun r=>(q.1 ++ [(r.2.1.length:Int)],r)
noncomputable def q6F (F:Nat→Nat→Option Nat) (l:List Int) (cols:List (List Nat)) (n:Nat):List Int × List Int × List Int × List Nat :=
 match lcM F l cols n with
 | some q=>(l,q.1,q.2.2.1,q.2.2.2)
 | none=>([],[],[],[])
def q4O (f:List Int × List Int × List Int × List Nat):PV:=.ag [pI f.1,pI f.2.1,pI f.2.2.1,pF f.2.2.2]
section
variable {F:Nat→Nat→Option Nat} {l:List Int} {cs:List Nat} {cols:List (List Nat)} {j n:Nat} {p:LSt}
def qbA {c:Nat} (h:lcC F l cs j p c=none):∀ c',c≤c'→lcC F l cs j p c'=none
 | 0,hc=>by
  obtain rfl:c=0:=by omega
  exact h
 | c'+1,hc=>by
  by_cases e:c=c'+1
  ·subst e; exact h
  ·rw [lcC,qbA h c' (by omega)]; rfl
def qaz {a:Nat} (h:lcM F l cols a=none):∀ b,a≤b→lcM F l cols b=none
 | 0,hb=>by
  obtain rfl:a=0:=by omega
  exact h
 | b+1,hb=>by
  by_cases e:a=b+1
  ·subst e; exact h
  ·rw [lcM,qaz h b (by omega)]; rfl
structure LGd (n:Nat) (q:LSt):Prop where
 fin:∀ r c,q0Y (q.1 r c)∧q.1 r c < 18446744073709551616
 len:q.2.1.length=q.2.2.length
def qi2 {d:Int} {g:Nat→Nat→Nat} {i v:Nat} (h:lcV d g i j=some v):q0Y v∧v < 18446744073709551616:=by
 unfold lcV at h
 split at h
 ·split at h
  ·rename_i hc; cases h; exact ⟨hc.2.2,qaj⟩
  ·cases h
 ·split at h
  ·cases h; exact ⟨by assumption,qeV⟩
  ·cases h
def LGd.step {q:LSt} (h:LGd n q) {r c v:Nat} (hv:q0Y v∧v < 18446744073709551616) {x:Int}:LGd n (qkv q.1 r c v,q.2.1 ++ [x],q.2.2 ++ [v]):=by
 refine ⟨fun r' c'=>?_,by simp [h.len]⟩;unfold qkv;simp only
 split
 ·exact hv
 ·exact h.fin r' c'
def lcC_s {c:Nat} {q:LSt} (h:lcC F l cs j p c=some q):lcC F l cs j p (c+1)=(lcV (q1I (lcS F l q.1 (cs.getD c 0) j j)) q.1 (cs.getD c 0) j).map fun v=>(qkv q.1 j (cs.getD c 0) v,q.2.1 ++ [(cs.getD c 0:Int)],q.2.2 ++ [v]):=by rw [lcC,h]; rfl
def lcM_s {q:List Int × LSt} (h:lcM F l cols j=some q):lcM F l cols (j+1)=(lcC F l (cols.getD j []) j q.2 (cols.getD j []).length).map fun r=>(q.1 ++ [(r.2.1.length:Int)],r):=by rw [lcM,h]; rfl
def qcV {a:Nat} (h:lcM F l cols a=none) (ha:a≤n):q6F F l cols n=([],[],[],[]):=by
 unfold q6F;rw [qaz h n ha]
def qes {g:Nat→Nat→Nat} {i:Nat}:∀ m,(lcS F l g i j m).length=m+1
 | 0=>rfl
 | m+1=>by rw [lcS,List.length_append,qes m]; rfl
def qky {g:Nat→Nat→Nat} {i:Nat} (hg:∀ r c,q0Y (g r c)∧g r c < 18446744073709551616) (hF:q0Y ((F (min (lfN l i) (lfN l j)) (max (lfN l i) (lfN l j))).getD 0)):∀ m,∀ x ∈ lcS F l g i j m,bl x.natAbs≤67600
 | 0,x,hx=>by unfold lcS at hx; simp at hx; subst hx; exact q6B hF
 | m+1,x,hx=>by
  unfold lcS at hx
  rcases List.mem_append.1 hx with hx | hx
  ·exact qky hg hF m x hx
  ·simp at hx; subst hx;rw [Int.natAbs_neg];exact (q0u (hg m i).1 (hg m j).1).2
end
end Go.Proofs.YtbcmhlhgljoolaaGreatDoor
namespace Go.E
open Go Go.RowKit
def LeFac {J:Nat→Prop} {h:Hp} {a1 a2 a3 a4 n1 n2 n3 n4:Nat} {T1 T2 T3 T4:TypeId} {l1 l2 l3 l4 m1 m2 m3:List PV} {x y:PV} (hJ:∀ i,¬ J i) (h1:h a1=some ⟨T1,none,l1,false⟩) (h2:h a2=some ⟨T2,none,l2,false⟩) (h3:h a3=some ⟨T3,none,l3,false⟩) (h4:h a4=some ⟨T4,none,l4,false⟩)
  (c1:ClL l1) (c2:ClL l2) (c3:ClL l3) (c4:ClL l4) (d:a4≠a1∧a4≠a2∧a4≠a3) (e1:l1.take n1=m1) (e2:l2.take n2=m2) (e3:l3.take n3=m3) :
  Le J (fun _=>.tu [.ag [.ow a1 none 0 n1,.ow a2 none 0 n2,.ow a3 none 0 n3,.ow a4 none 0 n4],x,y]) h (fun _=>.tu [.ag [.sl none m1,.sl none m2,.sl none m3,.ow 5000 none 0 n4],.un,.un]) (q07 h0 5000 ⟨T4,none,l4,false⟩):=by
 have hn:∀ a,a4≠a→∀ i,(if i=5000 then some a4 else none)=some a→q07 h0 5000 ⟨T4,none,l4,false⟩ i=none:=fun a ha i hi=>by
  split at hi
  ·exact absurd (Option.some.inj hi) ha
  ·cases hi
 refine q30 (fun i=>if i=5000 then some a4 else none) (fun i b' hb'=>?_) (fun i j k b c hi hj ti tj=>?_) (fun _=>.tu rfl fun i x y hx hy=>?_) fun i hi=>(hJ i hi).elim
 ·by_cases hi:i=5000
  ·subst hi;rw [q0V] at hb'; cases hb';unfold LeB;exact ⟨_,h4,rfl,rfl,⟨rfl,rfl⟩,q1A rfl c4⟩
  ·rw [q0M hi] at hb'; cases hb'
 ·split at ti
  ·split at tj
   ·rename_i e1 e2; rw [e1,e2]
   ·cases tj
  ·cases ti
 ·rcases i with _ | _ | _ | i
  ·cases hx; cases hy;refine .ag rfl fun i x y hx hy=>?_
   rcases i with _ | _ | _ | _ | i
   ·cases hx; cases hy; exact q3m h1 c1 (hn a1 d.1) e1
   ·cases hx; cases hy; exact q3m h2 c2 (hn a2 d.2.1) e2
   ·cases hx; cases hy; exact q3m h3 c3 (hn a3 d.2.2) e3
   ·cases hx; cases hy; exact .ow (if_pos rfl) q0V
   ·simp at hx
  ·cases hy; exact .un
  ·cases hy; exact .un
  ·simp at hx
def LeFn {J:Nat→Prop} {h:Hp} {T:TypeId} {x y:PV} (hJ:∀ i,¬ J i):Le J (fun _=>.tu [.ag [.vl (.slice none 0 0),.vl (.slice none 0 0),.vl (.slice none 0 0),.vl (.slice none 0 0)],x,y]) h (fun _=>.tu [.ag [.sl none [],.sl none [],.sl none [],.ow 5000 none 0 0],.un,.un]) (q07 h0 5000 ⟨T,none,[],false⟩):=by
 refine q30 (fun _=>none) (fun i b' hb'=>?_) (fun i j k b c hi hj ti tj=>by cases ti) (fun _=>.tu rfl fun i x y hx hy=>?_) fun i hi=>(hJ i hi).elim
 ·by_cases hi:i=5000
  ·subst hi;rw [q0V] at hb'; cases hb'
   rfl
  ·rw [q0M hi] at hb'; cases hb'
 ·rcases i with _ | _ | _ | i
  ·cases hx; cases hy;refine .ag rfl fun i x y hx hy=>?_
   rcases i with _ | _ | _ | _ | i
   ·cases hx; cases hy; exact .nilsl
   ·cases hx; cases hy; exact .nilsl
   ·cases hx; cases hy; exact .nilsl
   ·cases hx; cases hy; exact .nilow rfl q0V rfl
   ·simp at hx
  ·cases hy; exact .un
  ·cases hy; exact .un
  ·simp at hx
end Go.E
namespace Go.Proofs.YtbcmhlhgljoolaaGreatDoor
open Go Go.E Go.Sp
abbrev tbU (n:Nat) (k:Nat) (g:Nat→Nat→Nat):Hp:=q6X 25 30 5000 30000 n k n g
set_option maxHeartbeats 1000000 in
def qn2 (f:List Int × List Int × List Int × List Nat):PV:=.ag [pI f.1,pI f.2.1,pI f.2.2.1,.ow 5000 none 0 f.2.2.2.length]
def qss {F:Nat→Nat→Option Nat} {n:Nat} {l:List Int} (h:TOk F n n) (hn100:n≤100) (hp:q2y l n) :
  qcz 41 [pT n n F,pI l] h0 (.tu [qn2 (q6F F l (q2v (adT (qcO F l n)) n n) n),.un,.un]) (q07 h0 5000 ⟨30,none,(q6F F l (q2v (adT (qcO F l n)) n n) n).2.2.2.map fun z:Nat=>uv z,false⟩):=by
 have hJ:∀ i,¬ (h0 i≠none):=fun i h=>h rfl;have hJe:(fun i=>(h0:Hp) i≠none)=fun _=>False:=funext fun i=>eq_false (hJ i);have hll:l.length=n:=by have:=hp.1; omega
 have cS:=qcB h hp;have cG:=qdt h hp;have cC:=qaE (adj:=qcO F l n) (n:=n) q9v Oq qlH (qlI Oq);have cA:∀ {i j x y:Nat} {V:Int},_:=fun {i j x y V}=>qrr (i:=i) (j:=j) (x:=x) (y:=y) (order:=l) (V:=V) h;have hcl:(q2v (adT (qcO F l n)) n n).length=n:=by simp [q2v]
 have hcc:∀ (j:Nat) (cs:List Nat),(q2v (adT (qcO F l n)) n n)[j]?=some cs→cs.length≤n+1∧∀ x ∈ cs,x < n:=fun j cs hj=>by
  unfold q2v at hj;rw [List.getElem?_map] at hj
  rcases Nat.lt_or_ge j n with hjn | hjn
  ·rw [List.getElem?_range hjn] at hj;cases hj;exact ⟨qbZ,fun x hx=>qor hjn hx⟩
  ·rw [List.getElem?_eq_none (by simpa using hjn)] at hj; cases hj
 have hFin:∀ {j i:Nat},j < n→i < n→_:=fun {j i} hj hi=>h.fin (j:=j) (i:=i) hj hi;generalize q2v (adT (qcO F l n)) n n=cols at *;generalize qcO F l n=adj at *;have hlf:∀ i,i < n→∃ x:Nat,l[i]?=some (x:Int)∧lfN l i=x∧x < n:=fun i hi=>by
  obtain ⟨x,hx⟩:∃ x,l[i]?=some x:=⟨_,List.getElem?_eq_getElem Oq⟩;have:=hp.2.1 x (List.mem_of_getElem? hx);obtain ⟨y,rfl⟩:∃ y:Nat,x=y:=⟨x.toNat,by omega⟩;exact ⟨y,hx,q9f hx,by omega⟩
 have e0:((0:Int) != 0)=false:=rfl;have hres:∀ a,a≤n→lcM F l cols a=none→q6F F l cols n=([],[],[],[]):=fun a ha hq=>qcV hq ha;have hres2:∀ q,lcM F l cols n=some q→q6F F l cols n=(l,q.1,q.2.2.1,q.2.2.2):=fun q hq=>by unfold q6F; rw [hq]
 generalize q6F F l cols n=res at *;have hpl:pT n n F=q3G n n (tM F n n).1 (tM F n n).2.1 (tM F n n).2.2:=rfl;rw [hpl] at cS cG ⊢;simp only [hpl] at cA;clear hpl;unfold q3G at cS cG cA ⊢;unfold pG at cG cC;generalize (tM F n n).1=ms at *;generalize (tM F n n).2.1=mi at *;generalize (tM F n n).2.2=mv at *;unfold qn2;refine qhK quR Tryz.func41 rfl Tryz.ntmps41 (by kernel_rfl) ?_ ?_ ?_ ?_
 ·intro i b hb; cases hb
 ·intro i b hb
  by_cases hi:i=5000
  ·subst hi; exact ⟨by omega,by omega⟩
  ·rw [q0M hi] at hb; cases hb
 ·exact IdL.of fun x hx=>by
   simp at hx
   rcases hx with rfl | rfl
   ·unfold IdP IdL IdL IdL IdL IdL IdL;unfold IdP;exact ⟨trivial,trivial,trivial,trivial,trivial,trivial⟩
   ·unfold IdP; trivial
 rw [hJe];refine wk1 e0 ?_;refine q5V (qh6 (o:=38) (N:=5000) (R:=30000) (n:=n) (T1:=25) (T2:=30) (m:=n) (g:=fun _ _=>0) (fun _ h=>h) ?_ (by omega) (by omega) (by omega) (xs:=[(1,pI l),(2,.pt 2 0 0),(4,.pt 4 0 0),(8,iv n),(9,pNN cols),(11,.ow 5000 none 0 n),(12,iv 0)]) (kv:=[]) (kb:=[(2,some ⟨52,some 5,[.ag [iv n,iv n,pI ms,pI mi,pF mv]],false⟩),(4,some ⟨27,some 4,[.ag [q6Z,q6Z,q6Z,q6Z]],false⟩)]) (by simp [nmW]) ?_) ?_
 ·exact Zy
 ·exact Zy
 refine q0e (fun k=>k≤n) [1,2,4,8,9,11] [2,4] Lk Lk (fun k:Nat=>[(12,iv k)]) (fun _=>[]) (fun k=>tbU n k fun _ _=>0) (fun k=>n-k) 0 (Nat.zero_le _) ?_ ?_
 ·refine LeW [] rfl rfl ?_ ?_ (by simp [q21,q1s,win]) ?_
  ·exact Ow
  ·exact q3M Oq Oq Oq
  ·refine Zz ?_
   rfl
 ·intro k hk;refine wk ?_
  by_cases hlt:k < n
  ·have hlt':(k:Int) < n:=by omega
   refine wk1 hlt' ?_;refine ⟨k+1,by omega,by omega,?_⟩;refine qdT (r:=47) (fun _ h=>h) hlt ?_ ?_ (fun j hj=>?_) (by omega) (by omega) (by omega) (by omega) (by simp [nmW]) ?_
   ·exact Zy
   ·refine Zz ?_;rw [q4j]; rfl
   ·exact Zy
   ·refine Zz ?_;omega
  ·have hlt':¬ (k:Int) < n:=by omega
   obtain rfl:n=k:=by omega
   refine wk1 hlt' ?_;clear hlt hlt' hk;refine wk ?_;refine q0e (fun q:Nat × (List Int × LSt)=>q.1≤n∧lcM F l cols q.1=some q.2∧LGd n q.2.2∧q.2.1.length=q.1+1∧q.2.2.2.1.length≤q.1*(n+1)) [1,2,4,8,9,11,13] [2,4] Lk Lk (fun q=>[(14,iv q.1)]) (fun q=>[(13,⟨27,some 4,[.ag [.ow 1001 none 0 l.length,.ow 1002 none 0 q.2.1.length,.ow 1003 none 0 q.2.2.2.1.length,.ow 1004 none 0 q.2.2.2.2.length]],false⟩),(1001,⟨3,none,l.map fun z=>iv z,false⟩),(1002,⟨3,none,q.2.1.map fun z=>iv z,false⟩),(1003,⟨3,none,q.2.2.2.1.map fun z=>iv z,false⟩),(1004,⟨30,none,q.2.2.2.2.map fun z:Nat=>uv z,false⟩)]) (fun q=>tbU n n q.2.2.1) (fun q=>n-q.1) (0,([0],fun _ _=>0,[],[])) ⟨Nat.zero_le _,rfl,⟨fun _ _=>⟨by unfold q0Y; simp,by simp⟩,rfl⟩,rfl,by simp⟩ ?_ ?_
   ·refine LeW [(1001,some 51),(1002,some 52),(1003,none),(1004,none)] rfl rfl ?_ ?_ (by simp [q21,q1s,win]) ?_
    ·exact Ow
    ·exact q3M Oq Oq Oq
    ·refine Zz ?_
     rfl
   ·rintro ⟨j,st,g,ix,vl⟩ ⟨hj,hM,hgd,hst,hix⟩;simp only at hj hM hgd hst hix ⊢;have hjn:j*(n+1)≤100*101:=Nat.mul_le_mul Oq Oq;have hvl:=hgd.len;simp only at hvl;refine wk ?_
    by_cases hlt:j < n
    ·have hlt':(j:Int) < n:=by omega
     obtain ⟨cs,hcs⟩:∃ cs,cols[j]?=some cs:=⟨_,List.getElem?_eq_getElem Oq⟩;obtain ⟨hcl1,hcl2⟩:=hcc j cs hcs;have hgD:cols.getD j []=cs:=by rw [List.getD_eq_getElem?_getD,hcs]; rfl
     have hMs:=lcM_s hM;rw [hgD] at hMs;refine wk1 hlt' ?_;refine q0e (fun q:Nat × LSt=>q.1≤cs.length∧lcC F l cs j (g,ix,vl) q.1=some q.2∧LGd n q.2∧q.2.2.1.length=ix.length+q.1) [1,2,4,8,9,11,13,14] [2,4,1001,1002] Lk Lk (fun q=>[(15,iv q.1)]) (fun q=>[(13,⟨27,some 4,[.ag [.ow 1001 none 0 l.length,.ow 1002 none 0 st.length,.ow 1003 none 0 q.2.2.1.length,.ow 1004 none 0 q.2.2.2.length]],false⟩),(1003,⟨3,none,q.2.2.1.map fun z=>iv z,false⟩),(1004,⟨30,none,q.2.2.2.map fun z:Nat=>uv z,false⟩)]) (fun q=>tbU n n q.2.1) (fun q=>cs.length-q.1) (0,(g,ix,vl)) ⟨Nat.zero_le _,rfl,hgd,rfl⟩ ?_ ?_
     ·refine LeW [] rfl rfl ?_ ?_ (by simp [q21,q1s,win]) ?_
      ·exact q2x
      ·exact q3M Oq Oq Oq
      ·refine Zz ?_
       rfl
     ·rintro ⟨c,g2,ix2,vl2⟩ ⟨hc,hC,hgd2,hix2⟩;simp only at hc hC hgd2 hix2 ⊢;have hvl2:=hgd2.len;simp only at hvl2;refine q2g fun K2 hK2=>?_
      by_cases hltc:c < cs.length
      ·have hltc':(c:Int) < cs.length:=by omega
       obtain ⟨i,hi⟩:∃ i,cs[c]?=some i:=⟨_,List.getElem?_eq_getElem hltc⟩;have hin:=hcl2 i (List.mem_of_getElem? hi);have hCs:=lcC_s hC;have hgi:cs.getD c 0=i:=by rw [List.getD_eq_getElem?_getD,hi]; rfl
       rw [hgi] at hCs;simp only at hCs;refine wk1 (x2 hcs hltc') ?_;refine hK2 _ _ ?_; clear hK2 K2;refine wk1 (x2 hcs hi) ?_;obtain ⟨x,hx,hx2,hx3⟩:=hlf i hin;obtain ⟨y,hy,hy2,hy3⟩:=hlf j hlt;have hFa:=(hFin (j:=min x y) (i:=max x y) Oq Oq).1;have cE:=cA hx hy hx3 hy3 (q0g hFa);have hS0:lcS F l g2 i j 0=[ofZ ((F (min x y) (max x y)).getD 0)]:=by rw [lcS,hx2,hy2]
       have hSb:=fun m=>qky (F:=F) (l:=l) (g:=g2) (i:=i) (j:=j) hgd2.fin (by rw [hx2,hy2]; exact hFa) m;refine wk ?_;refine q0e (fun m=>m≤j) [1,2,4,8,9,11,13,14,15,16] [2,4,13,1001,1002,1003,1004] Lk Lk (fun m:Nat=>[(18,iv m),(17,.ow 1005 (some 4) 0 (m+1))]) (fun m=>[(1005,⟨74,some 4,(lcS F l g2 i j m).map fun V=>pV V,false⟩)]) (fun _=>tbU n n g2) (fun m=>j-m) 0 (Nat.zero_le _) ?_ ?_
       ·refine LeW [(1005,some 80)] rfl rfl ?_ ?_ (by simp [q21,q1s,win]) ?_
        ·exact Ow
        ·exact q3M Oq Oq Oq
        ·refine Zz ?_;rw [hS0];exact ⟨rfl,q1A rfl (clV (l:=[_]))⟩
       ·intro m hm;have hSl:=qes (F:=F) (l:=l) (g:=g2) (i:=i) (j:=j) m;refine wk ?_
        by_cases hltm:m < j
        ·have hltm':(m:Int) < j:=by omega
         have rm:(List.range n)[m]?=some m:=List.getElem?_range Oq;have ri:(List.range n)[i]?=some i:=List.getElem?_range hin;have rj:(List.range n)[j]?=some j:=List.getElem?_range hlt;have qm:(m < n)=True:=eq_true Oq;obtain ⟨u1,u2⟩:=hgd2.fin m i;obtain ⟨v1,v2⟩:=hgd2.fin m j;have cP:=q9G u2 v2 (q0g u1) (q0g v1) (q0u u1 v1).1;have C1:=@qoj;refine wk1 (x6 hltm' rm ri rj qm hSl) ?_;refine ⟨m+1,by omega,by omega,?_⟩;refine LeW [(1005,some 104)] rfl rfl ?_ ?_ (by simp [q21,q1s,win]) ?_
         ·exact Ow
         ·exact q3M Oq Oq Oq
         ·refine Zz ?_;refine ⟨by omega,q1A ?_ clV⟩;rw [lcS,List.map_append]; rfl
        ·have hltm':¬ (m:Int) < j:=by omega
         obtain rfl:j=m:=by omega
         refine wk1 hltm' ?_;have hsd:=qa8 (hSb j) Oq;obtain ⟨d,hd⟩:∃ d,d=q1I (lcS F l g2 i j j):=⟨_,rfl⟩;rw [← hd] at hsd hCs;have cD:=qgG (l:=lcS F l g2 i j j) (by omega) (by rw [← hd]; exact hsd);rw [← hd] at cD;refine qhL fun K hK=>?_;refine Zz ?_;refine jc ?_
         try refine Zz ?_
         refine q42 cD nz_V ?_
         try refine Zz ?_
         refine hK _ _ ?_; clear hK K;refine qhL fun K hK=>?_;refine Zz ?_;refine hK _ _ ?_; clear hK K;refine q5V (LeW [] rfl rfl (hw:=tbU n n g2) (xs:=[(1,pI l),(2,.pt 2 0 0),(4,.pt 4 0 0),(8,iv n),(9,pNN cols),(11,.ow 5000 none 0 n),(13,.pt 13 0 0),(14,iv j),(15,iv c),(16,iv i),(19,.pt 19 0 0)]) (kv:=[]) (bs:=[(2,⟨52,some 5,[.ag [iv n,iv n,pI ms,pI mi,pF mv]],false⟩),(4,⟨27,some 4,[.ag [q6Z,q6Z,q6Z,q6Z]],false⟩),(13,⟨27,some 4,[.ag [.ow 1001 none 0 l.length,.ow 1002 none 0 st.length,.ow 1003 none 0 ix2.length,.ow 1004 none 0 vl2.length]],false⟩),(19,⟨74,some 4,[pV d],false⟩),(1001,⟨3,none,l.map fun z=>iv z,false⟩),(1002,⟨3,none,st.map fun z=>iv z,false⟩),(1003,⟨3,none,ix2.map fun z=>iv z,false⟩),(1004,⟨30,none,vl2.map fun z:Nat=>uv z,false⟩)]) (kb:=[]) ?_ ?_ (by simp [q21,q1s,win]) ?_) ?_
         ·exact Ow
         ·exact q3M Oq Oq Oq
         ·exact Zy
         clear hSb hSl hltm hltm' hm cD hsd;have err:lcV d g2 i j=none→res=([],[],[],[]):=fun hv=>by
          rw [hv] at hCs;refine hres (j+1) Oq ?_;rw [hMs];simp only;rw [qbA hCs cs.length (by omega)]; rfl
         refine q2g fun K2 hK2=>?_;have fin:∀ (s:Nat→PV) (v:Nat),v < 18446744073709551616→(q0Y v→lcV d g2 i j=some v)→(¬ q0Y v→lcV d g2 i j=none)→s 1=pI l→s 2=.pt 2 0 0→s 4=.pt 4 0 0→s 8=iv n→s 9=pNN cols→s 11=.ow 5000 none 0 n→s 13=.pt 13 0 0→s 14=iv j→s 15=iv c→s 16=iv i→s 20=uv v→K2 s (q1Q (tbU n n g2) (hpM [(2,⟨52,some 5,[.ag [iv n,iv n,pI ms,pI mi,pF mv]],false⟩),(4,⟨27,some 4,[.ag [q6Z,q6Z,q6Z,q6Z]],false⟩),(13,⟨27,some 4,[.ag [.ow 1001 none 0 l.length,.ow 1002 none 0 st.length,.ow 1003 none 0 ix2.length,.ow 1004 none 0 vl2.length]],false⟩),(19,⟨74,some 4,[pV d],false⟩),(1001,⟨3,none,l.map fun z=>iv z,false⟩),(1002,⟨3,none,st.map fun z=>iv z,false⟩),(1003,⟨3,none,ix2.map fun z=>iv z,false⟩),(1004,⟨30,none,vl2.map fun z:Nat=>uv z,false⟩)] [])):=by
          intro s v hvl hv1 hv2 s1 s2 s4 s8 s9 s11 s13 s14 s15 s16 s20;refine hK2 _ _ ?_; clear hK2 K2;have ri:(List.range n)[i]?=some i:=List.getElem?_range hin;have rj:(List.range n)[j]?=some j:=List.getElem?_range hlt;have qj:(j < n)=True:=eq_true hlt;have C3:=(q95 hvl);refine wk1 (x6 s1 s2 s4 s8 s9 (x6 s11 s13 s14 s15 s16 s20)) ?_
          by_cases hf:q0Y v
          ·have ef:∀ (i:Decidable (q0Y v)),@decide _ i=true:=fun _=>decide_eq_true hf;refine wk1 (x6 ef s1 s2 s4 s8 (x6 s9 s11 s13 s14 s15 (x5 s16 s20 ri rj qj))) ?_;rw [hv1 hf,Option.map_some] at hCs;refine ⟨(c+1,(qkv g2 j i v,ix2 ++ [(i:Int)],vl2 ++ [v])),⟨by omega,hCs,hgd2.step ⟨hf,hvl⟩,by simp only [List.length_append,List.length_cons,List.length_nil]; omega⟩,by simp only; omega,?_⟩;simp only;refine LeW [(1003,some 146),(1004,some 152)] rfl rfl ?_ ?_ (by simp [q21,q1s,win]) ?_
           ·repeat refine Wn_l Oq ?_
            exact qaQ (qgl q2x) (qh5 Oq hlt)
           ·exact q3M Oq Oq Oq
           ·refine Zz11 s1 s2 s4 s8 s9 s11 s13 s14 s15 s16 s20 ?_;omega
          ·have ef:∀ (i:Decidable (q0Y v)),@decide _ i=false:=fun _=>decide_eq_false hf;refine wk1 (x6 ef s1 s2 s4 s8 (x6 s9 s11 s13 s14 s15 (x2 s16 s20))) ?_;rw [err (hv2 hf)];refine (rtM (rs:=[.cell 4 27,.tmp 5,.tmp 6]) rfl rfl (by first | (refine Zz1 s4 ?_; done) | (simp -implicitDefEqProofs (disch:=omega) only [go_sem,Nat.reduceEqDiff,Nat.reduceAdd,↓reduceIte,s4]; rfl) | rfl) ?_ (.inl rfl));exact LeFn hJ
         by_cases hij:i=j
         ·have e1:((i:Int) == (j:Int))=true:=by simp; omega
          refine wk1 e1 ?_;have hlc:lcV d g2 i j=if 0 < d∧¬ (q4N d=0∨q4N d=9223372036854775808)∧q0Y (q4N d) then some (q4N d) else none:=by unfold lcV; rw [if_pos hij]
          have cR:=qhM (qeL (V:=d));have hvl:q4N d < 18446744073709551616:=qaj;generalize q4N d=v at *;refine wk ?_
          by_cases hd0:0 < d
          case neg =>
           have es:d.sign≤0:=by
            rcases Int.lt_or_le d 0 with h | h
            ·rw [Int.sign_eq_neg_one_of_neg h]; omega
            ·rw [show d=0 by omega]; simp
           have C4:=@qbY;refine wk1 es ?_;rw [err (by rw [hlc,if_neg fun h=>hd0 h.1])];refine (rtM (rs:=[.cell 4 27,.tmp 5,.tmp 6]) rfl rfl Lq ?_ (.inl rfl));exact LeFn hJ
          have es:¬ d.sign≤0:=by rw [Int.sign_eq_one_of_pos hd0]; omega
          have C5:=@qbY;have C6:=@qbs;refine wk1 es ?_
          by_cases hz:v=0∨v=9223372036854775808
          ·have ez:∀ (i:Decidable (v=0∨v=9223372036854775808)),@decide _ i=true:=fun _=>decide_eq_true hz;refine wk1 ez ?_;rw [err (by rw [hlc,if_neg fun h=>h.2.1 hz])];refine (rtM (rs:=[.cell 4 27,.tmp 5,.tmp 6]) rfl rfl Lq ?_ (.inl rfl));exact LeFn hJ
          ·have ez:∀ (i:Decidable (v=0∨v=9223372036854775808)),@decide _ i=false:=fun _=>decide_eq_false hz;refine wk1 ez ?_;refine fin _ v hvl (fun hf=>by rw [hlc,if_pos ⟨hd0,hz,hf⟩]) (fun hf=>by rw [hlc,if_neg fun h=>hf h.2.2]) ?_ ?_ ?_ ?_ ?_ ?_ ?_ ?_ ?_ ?_ ?_ <;> simp -implicitDefEqProofs (disch:=omega) only [go_sem,Nat.reduceEqDiff,Nat.reduceAdd,↓reduceIte]
         ·have e1:((i:Int) == (j:Int))=false:=by simp; omega
          refine wk1 e1 ?_;have hlc:lcV d g2 i j=if q0Y (qhD 0 d (ofZ (g2 j j))) then some (qhD 0 d (ofZ (g2 j j))) else none:=by unfold lcV; rw [if_neg hij]
          have cQ:=qmN (qhy (A:=d) (B:=ofZ (g2 j j)) (mode:=0));have hvl:qhD 0 d (ofZ (g2 j j)) < 18446744073709551616:=qeV;generalize qhD 0 d (ofZ (g2 j j))=v at *;have rj:(List.range n)[j]?=some j:=List.getElem?_range hlt;have qj:(j < n)=True:=eq_true hlt;obtain ⟨w1,w2⟩:=hgd2.fin j j;have C7:=(q8V w2 (q0g w1));refine wk1 (x2 rj qj) ?_;refine fin _ v hvl (fun hf=>by rw [hlc,if_pos hf]) (fun hf=>by rw [hlc,if_neg hf]) ?_ ?_ ?_ ?_ ?_ ?_ ?_ ?_ ?_ ?_ ?_ <;> simp -implicitDefEqProofs (disch:=omega) only [go_sem,Nat.reduceEqDiff,Nat.reduceAdd,↓reduceIte]
      ·have hltc':¬ (c:Int) < cs.length:=by omega
       obtain rfl:c=cs.length:=by omega
       have hM2:=hMs;simp only at hM2;rw [hC] at hM2;simp only [Option.map_some] at hM2;have hj1:(j+1)*(n+1)=j*(n+1)+(n+1):=Nat.succ_mul _ _;refine wk1 (x2 hcs hltc') ?_;refine ⟨(j+1,(st ++ [(ix2.length:Int)],g2,ix2,vl2)),⟨by omega,hM2,hgd2,by simp [hst],by simp only; omega⟩,by simp only; omega,?_⟩;simp only;refine LeW [(1002,some 160)] rfl rfl ?_ ?_ (by simp [q21,q1s,win]) ?_
       ·exact Ow
       ·exact q3M Oq Oq Oq
       ·refine Zz ?_;omega
    ·have hlt':¬ (j:Int) < n:=by omega
     obtain rfl:n=j:=by omega
     refine wk1 hlt' ?_;rw [hres2 _ hM];refine (rtM (rs:=[.cell 4 27,.tmp 5,.tmp 6]) rfl rfl Lq ?_ (.inl rfl));refine LeFac hJ (a1:=1001) (a2:=1002) (a3:=1003) (a4:=1004) (T1:=3) (T2:=3) (T3:=3) (l1:=l.map fun z=>iv z) (l2:=st.map fun z=>iv z) (l3:=ix.map fun z=>iv z) ?_ ?_ ?_ ?_ clI clI clI (fun x hx=>by obtain ⟨z,_,rfl⟩:=List.mem_map.1 hx; trivial) (by omega) ?_ ?_ ?_ <;> first | (simp -implicitDefEqProofs (disch:=omega) only [go_sem,Nat.reduceEqDiff,Nat.reduceAdd,↓reduceIte]; done) | exact List.take_of_length_le (by simp)
open Classical in
def qey {l:List Int} (hl:l.length≤1000000):ACt 115 [pI l] (bv (decide (q2y l l.length))):=by
 refine ac0 Tryz.func115 Tryz.ntmps115 [.tmp 2] ?_;refine wk ?_;refine q0L (fun i=>i≤l.length∧(∀ x ∈ l.take i,0≤x∧x < l.length)∧(l.take i).Nodup) [0,9,10] [] Lk Lk (fun i:Nat=>[(11,iv i),(3,.ow 1001 none 0 l.length)]) (fun i=>[(1001,⟨4,none,(q5I l i).map fun z=>bv z,false⟩)]) (fun i=>l.length-i) 0 ⟨Nat.zero_le _,by simp,by simp⟩ ?_ ?_
 ·refine LeM [(1001,some 8)] rfl rfl ?_;refine Zz ?_;exact ⟨rfl,qdq⟩
 ·rintro i ⟨hi,hr,hd⟩
  by_cases hlt:i < l.length
  ·have hlt':(i:Int) < l.length:=by omega
   obtain ⟨x,hx⟩:∃ x,l[i]?=some x:=⟨_,List.getElem?_eq_getElem hlt⟩;have hmem:=List.mem_of_getElem? hx;have ht:=q4F hx;refine wk1 (x2 hlt' hx) ?_
   by_cases hx0:x < 0
   ·refine wk1 hx0 ?_;exact (decide_eq_false fun h=>by have:=(h.2.1 x hmem).1; omega).symm
   ·obtain ⟨k,rfl⟩:∃ k:Nat,x=k:=⟨x.toNat,by omega⟩
    by_cases hxn:(l.length:Int)≤k
    ·refine wk1 (x2 hx0 hxn) ?_;exact (decide_eq_false fun h=>by have:=(h.2.1 _ hmem).2; omega).symm
    ·have hk:k < l.length:=by omega
     have hs:=q7O (i:=i) hk
     by_cases hm:(k:Int) ∈ l.take i
     ·refine wk1 (x4 hx0 hxn hs hm) ?_;refine (decide_eq_false fun h=>?_).symm;have:=(h.2.2.sublist (List.take_sublist (i+1) l));rw [ht,List.nodup_append] at this;exact this.2.2 _ hm _ (by simp) rfl
     ·refine wk1 (x6 hx0 hxn hs hm hx @q7N) ?_;refine ⟨i+1,⟨by omega,?_,?_⟩,by omega,?_⟩
      ·rw [ht];intro y hy
       rcases List.mem_append.1 hy with hy | hy
       ·exact hr y hy
       ·simp at hy; subst hy; omega
      ·rw [ht,List.nodup_append];exact ⟨hd,by simp,fun a ha b hb=>by simp at hb; subst hb; exact fun e=>hm (e ▸ ha)⟩
      ·refine LeM [] rfl rfl ?_;refine Zz ?_;exact ⟨by omega,q7M hx⟩
  ·have hlt':¬ (i:Int) < l.length:=by omega
   refine wk1 hlt' ?_;have hil:i=l.length:=by omega
   rw [hil,List.take_length] at hr hd;exact (decide_eq_true ⟨rfl,hr,hd⟩).symm
structure CoC (n j:Nat) (col:List Int):Prop where
 f:col[0]?=some (j:Int)
 l:∀ z,col[col.length-1]?=some z→z < n
 m:∀ (i:Nat) (x y:Int),col[i]?=some x→col[i+1]?=some y→x < y
structure FStr (n:Nat) (cp ri:List Int):Prop where
 c0:cp[0]?=some 0
 cn:cp[n]?=some (ri.length:Int)
 col:∀ j,j < n→∃ a b:Nat,cp[j]?=some (a:Int)∧cp[j+1]?=some (b:Int)∧a≤b∧b≤ri.length∧CoC n j ((ri.take b).drop a)
open Classical in
def q7I {pm cp ri:List Int} {vs:List Nat} {n:Nat} (hn:pm.length=n) (hn2:n≤200) (hcl:cp.length=n+1) (hri:ri.length≤1000000):ACt 116 [q4O (pm,cp,ri,vs)] (bv (decide (FStr n cp ri))):=by
 have no:∀ {p:Prop},¬ FStr n cp ri→decide (FStr n cp ri)=false:=fun h=>decide_eq_false h;obtain ⟨res,hres⟩:∃ res,res=decide (FStr n cp ri):=⟨_,rfl⟩;rw [← hres];have rF:¬ FStr n cp ri→res=false:=fun h=>by rw [hres]; exact decide_eq_false h
 have rT:FStr n cp ri→res=true:=fun h=>by rw [hres]; exact decide_eq_true h
 clear hres no;obtain ⟨x0,hx0⟩:∃ x,cp[0]?=some x:=⟨_,List.getElem?_eq_getElem Oq⟩;obtain ⟨xn,hxn⟩:∃ x,cp[n]?=some x:=⟨_,List.getElem?_eq_getElem Oq⟩;unfold q4O;subst hn;refine ac0 Tryz.func116 Tryz.ntmps116 [.tmp 2] ?_;refine wk ?_
 by_cases h0:x0=0
 case neg =>
  have e1:(x0 != 0)=true:=by simpa using h0
  refine wk1 (x2 hx0 e1) ?_;rw [rF fun h=>h0 (Option.some.inj (hx0.symm.trans h.c0))]
 subst h0;have e1:((0:Int) != 0)=false:=rfl
 by_cases hn0:xn=ri.length
 case neg =>
  have e2:(xn != (ri.length:Int))=true:=by simpa using hn0
  refine wk1 (x4 hx0 e1 hxn e2) ?_;rw [rF fun h=>hn0 (Option.some.inj (hxn.symm.trans h.cn))]
 subst hn0;have e2:((ri.length:Int) != (ri.length:Int))=false:=by simp
 refine wk1 (x4 hx0 e1 hxn e2) ?_;refine q0L (fun j=>j≤pm.length∧(∃ a:Nat,cp[j]?=some (a:Int))∧∀ j',j' < j→∃ a b:Nat,cp[j']?=some (a:Int)∧cp[j'+1]?=some (b:Int)∧a≤b∧b≤ri.length∧CoC pm.length j' ((ri.take b).drop a)) [1,3,26] [1] Lk Lk (fun j:Nat=>[(27,iv j)]) (fun _=>[]) (fun j=>pm.length-j) 0 ⟨Nat.zero_le _,⟨0,hx0⟩,by omega⟩ ?_ ?_
 ·refine LeM [] rfl rfl ?_;refine Zz ?_
  rfl
 ·rintro j ⟨hj,⟨a,ha⟩,hr⟩
  by_cases hlt:j < pm.length
  ·have hlt':(j:Int) < pm.length:=by omega
   obtain ⟨y,hy⟩:∃ y,cp[j+1]?=some y:=⟨_,List.getElem?_eq_getElem Oq⟩;have w1:IntKind.i64.wrap ((j:Int)+1)=((j+1:Nat):Int):=by rw [i64_in (by omega) (by omega)]; omega
   have bad:(∀ b:Nat,y=b→a≤b→b≤ri.length→¬ CoC pm.length j ((ri.take b).drop a))→res=false:=fun h=>rF fun hS=>by
    obtain ⟨a',b',h1,h2,h3,h4,h5⟩:=hS.col j hlt;rw [ha] at h1; rw [hy] at h2;have:a'=a:=by have:=Option.some.inj h1; omega
    subst this;exact h b' (Option.some.inj h2) h3 h4 h5
   refine wk1 hlt' ?_
   by_cases hay:(a:Int) > y
   ·refine wk1 (x4 ha hy w1 hay) ?_;rw [bad fun b hb h1 _=>by omega]
   by_cases hyr:y > (ri.length:Int)
   ·refine wk1 (x5 ha hy w1 hay hyr) ?_;rw [bad fun b hb _ h1=>by omega]
   obtain ⟨b,rfl⟩:∃ b:Nat,y=b:=⟨y.toNat,by omega⟩;have bad2:¬ CoC pm.length j ((ri.take b).drop a)→res=false:=fun h=>bad fun b' hb _ _=>by
    have:b'=b:=by omega
    subst this; exact h
   clear bad;refine wk1 (x5 ha hy w1 hay hyr) ?_;have es:slP (some 1) (some (iv (a:Int))) (some (iv (b:Int))) (pI ri)=some (pI ((ri.take b).drop a)):=by
    simp [slP,qcv,ksz,List.map_take,List.map_drop];omega
   have hcl2:((ri.take b).drop a).length=b-a:=by simp; omega
   generalize hcol:(ri.take b).drop a=col at bad2 es hcl2;refine wk1 (x4 ha hy w1 es) ?_
   by_cases hl0:col.length=0
   ·have e3:((col.length:Int) == 0)=true:=by simp [hl0]
    refine wk1 e3 ?_;rw [bad2 fun h=>by have:=h.f; rw [List.getElem?_eq_none (by omega)] at this; cases this]
   have e3:((col.length:Int) == 0)=false:=by simpa using hl0
   obtain ⟨c0,hc0⟩:∃ x,col[0]?=some x:=⟨_,List.getElem?_eq_getElem Oq⟩;obtain ⟨cl,hcl3⟩:∃ x,col[col.length-1]?=some x:=⟨_,List.getElem?_eq_getElem Oq⟩;have wl:IntKind.i64.wrap ((col.length:Int)-1)=((col.length-1:Nat):Int):=by rw [i64_in (by omega) (by omega)]; omega
   by_cases h0:c0=j
   case neg =>
    have e4:(c0 != (j:Int))=true:=by simpa using h0
    refine wk1 (x3 e3 hc0 e4) ?_;rw [bad2 fun h=>h0 (Option.some.inj (hc0.symm.trans h.f))]
   subst h0;have e4:((j:Int) != (j:Int))=false:=by simp
   by_cases hge:(pm.length:Int)≤cl
   ·refine wk1 (x6 e3 hc0 e4 wl hcl3 hge) ?_;rw [bad2 fun h=>by have:=h.l _ hcl3; omega]
   refine wk1 (x6 e3 hc0 e4 wl hcl3 hge) ?_;refine q0L (fun i=>1≤i∧i≤col.length∧∀ (k:Nat) (x y:Int),k+1 < i→col[k]?=some x→col[k+1]?=some y→x < y) [1,3,4,5,26,27] [1] Lk Lk (fun i:Nat=>[(6,iv i)]) (fun _=>[]) (fun i=>col.length-i) 1 ⟨Nat.le_refl _,by omega,by omega⟩ ?_ ?_
   ·refine LeM [] rfl rfl ?_;refine Zz ?_
    rfl
   ·rintro i ⟨hi1,hi2,hm⟩
    by_cases hil:i < col.length
    ·have hil':(i:Int) < col.length:=by omega
     obtain ⟨x,hx⟩:∃ x,col[i-1]?=some x:=⟨_,List.getElem?_eq_getElem Oq⟩;obtain ⟨y,hy2⟩:∃ x,col[i]?=some x:=⟨_,List.getElem?_eq_getElem Oq⟩;have wi:IntKind.i64.wrap ((i:Int)-1)=((i-1:Nat):Int):=by rw [i64_in (by omega) (by omega)]; omega
     have wj:IntKind.i64.wrap ((i:Int)+1)=((i+1:Nat):Int):=by rw [i64_in (by omega) (by omega)]; omega
     refine wk1 hil' ?_
     by_cases hxy:y≤x
     ·refine wk1 (x4 hx hy2 wi hxy) ?_;rw [bad2 fun h=>by
       have:=h.m (i-1) x y hx (by rw [show i-1+1=i by omega]; exact hy2);omega]
     ·refine wk1 (x5 hx hy2 wi hxy wj) ?_;refine ⟨i+1,⟨by omega,by omega,?_⟩,by omega,?_⟩
      ·intro k u v hk hu hv
       by_cases hki:k+1 < i
       ·exact hm k u v hki hu hv
       ·obtain rfl:k=i-1:=by omega
        rw [show i-1+1=i by omega] at hv;have h1:=Option.some.inj (hx.symm.trans hu);have h2:=Option.some.inj (hy2.symm.trans hv);omega
      ·refine LeM [] rfl rfl ?_;exact Zy
    ·have hil':¬ (i:Int) < col.length:=by omega
     refine wk1 (x2 hil' w1) ?_;refine ⟨j+1,⟨by omega,⟨b,hy⟩,?_⟩,by omega,?_⟩
     ·intro j' hj'
      by_cases hjj:j' < j
      ·exact hr j' hjj
      ·obtain rfl:j'=j:=by omega
       refine ⟨a,b,ha,hy,by omega,by omega,?_⟩;rw [hcol];refine ⟨hc0,fun z hz=>by have:=Option.some.inj (hcl3.symm.trans hz); omega,fun k u v hu hv=>?_⟩;have hk:k+1 < col.length:=(List.getElem?_eq_some_iff.1 hv).1;exact hm k u v Oq hu hv
     ·refine LeM [] rfl rfl ?_;exact Zy
  ·have hlt':¬ (j:Int) < pm.length:=by omega
   obtain rfl:pm.length=j:=by omega
   refine wk1 hlt' ?_;exact (rT ⟨hx0,hxn,hr⟩).symm
def FDg (n:Nat) (cp:List Int) (vs:List Nat):Prop:=∀ j,j < n→∀ (a x:Nat),cp[j]?=some (a:Int)→vs[a]?=some x→0 < ofZ x
open Classical in
noncomputable def q8B (f:List Int × List Int × List Int × List Nat):Int :=
 if f.1.length > 200 then 6 else if ¬ q2y f.1 f.1.length then 90 else if f.2.1.length≠f.1.length+1∨f.2.2.1.length≠f.2.2.2.length then 2 else if ¬ FStr f.1.length f.2.1 f.2.2.1 then 240 else if (∀ x ∈ f.2.2.2,q0Y x)∧FDg f.1.length f.2.1 f.2.2.2 then 0 else 4
open Classical in
def qb5 {pm cp ri:List Int} {vs:List Nat} (hp:pm.length≤1000000) (hc:cp.length≤1000000) (hr:ri.length≤1000000) (hv:vs.length≤1000000) (hu:∀ x ∈ vs,x < 18446744073709551616):ACt 44 [q4O (pm,cp,ri,vs)] (iv (q8B (pm,cp,ri,vs))):=by
 obtain ⟨res,hres⟩:∃ res,res=q8B (pm,cp,ri,vs):=⟨_,rfl⟩;rw [← hres];unfold q8B at hres;dsimp only at hres;unfold q4O;dsimp only;refine ac0 Tryz.func44 Tryz.ntmps44 [.tmp 2] ?_;refine wk ?_
 by_cases h1:pm.length > 200
 ·rw [if_pos h1] at hres;have h1':(pm.length:Int) > 200:=by omega
  refine wk1 h1' ?_;exact hres.symm
 have h1':¬ (pm.length:Int) > 200:=by omega
 rw [if_neg h1] at hres;refine wk1 h1' ?_;have cP:=qey hp
 by_cases h2:q2y pm pm.length
 case neg =>
  rw [if_pos h2] at hres;rw [decide_eq_false h2] at cP;refine wk ?_;exact hres.symm
 rw [if_neg (not_not_intro h2)] at hres;rw [decide_eq_true h2] at cP;refine wk ?_;have w1:IntKind.i64.wrap ((pm.length:Int)+1)=((pm.length+1:Nat):Int):=by rw [i64_in (by omega) (by omega)]; omega
 by_cases h3:cp.length≠pm.length+1∨ri.length≠vs.length
 ·rw [if_pos h3] at hres
  by_cases h4:cp.length=pm.length+1
  ·have e1:((cp.length:Int) != ((pm.length+1:Nat):Int))=false:=by simp; omega
   have e2:((ri.length:Int) != (vs.length:Int))=true:=by simp; omega
   refine wk1 (x3 w1 e1 e2) ?_;exact hres.symm
  ·have e1:((cp.length:Int) != ((pm.length+1:Nat):Int))=true:=by simp; omega
   refine wk1 (x2 w1 e1) ?_;exact hres.symm
 rw [if_neg h3] at hres;have h4:cp.length=pm.length+1:=by omega
 have h5:ri.length=vs.length:=by omega
 have e1:((cp.length:Int) != ((pm.length+1:Nat):Int))=false:=by simp; omega
 have e2:((ri.length:Int) != (vs.length:Int))=false:=by simp; omega
 refine wk1 (x3 w1 e1 e2) ?_;have cS:=q7I (vs:=vs) (rfl:pm.length=_) Oq h4 hr;unfold q4O at cS;dsimp only at cS
 by_cases h6:FStr pm.length cp ri
 case neg =>
  rw [if_pos h6] at hres;rw [decide_eq_false h6] at cS;refine wk ?_;exact hres.symm
 rw [if_neg (not_not_intro h6)] at hres;rw [decide_eq_true h6] at cS;refine wk ?_;refine q4z [1,3,39,40,41] Lk ?_;have bad:¬ ((∀ x ∈ vs,q0Y x)∧FDg pm.length cp vs)→res=4:=fun h=>by rw [hres,if_neg h]
 have good:((∀ x ∈ vs,q0Y x)∧FDg pm.length cp vs)→res=0:=fun h=>by rw [hres,if_pos h]
 clear hres;refine q0L (fun i=>i≤vs.length∧∀ x ∈ vs.take i,q0Y x) [1,3,39,40] [1] Lk Lk (fun i:Nat=>[(41,iv i)]) (fun _=>[]) (fun i=>vs.length-i) 0 ⟨Nat.zero_le _,by simp⟩ ?_ ?_
 ·refine LeM [] rfl rfl ?_;refine Zz ?_
  rfl
 ·rintro i ⟨hi,hf⟩
  by_cases hil:i < vs.length
  ·have hil':(i:Int) < vs.length:=by omega
   obtain ⟨x,hx⟩:∃ x,vs[i]?=some x:=⟨_,List.getElem?_eq_getElem hil⟩;have hm:=List.mem_of_getElem? hx;have cF:=q4t (hu x hm)
   by_cases hfx:q0Y x
   case neg =>
    rw [decide_eq_false hfx] at cF;refine wk1 hx ?_;exact (bad fun h=>hfx (h.1 x hm)).symm
   rw [decide_eq_true hfx] at cF;refine wk1 hx ?_;refine ⟨i+1,⟨by omega,?_⟩,by omega,?_⟩
   ·rw [q4F hx];intro y hy
    rcases List.mem_append.1 hy with hy | hy
    ·exact hf y hy
    ·simp at hy; subst hy; exact hfx
   ·refine LeM [] rfl rfl ?_;refine Zz ?_
    rfl
  ·have hil':¬ (i:Int) < vs.length:=by omega
   obtain rfl:vs.length=i:=by omega
   rw [List.take_length] at hf;refine wk1 hil' ?_;refine q0L (fun j=>j≤pm.length∧∀ j',j' < j→∀ (a x:Nat),cp[j']?=some (a:Int)→vs[a]?=some x→0 < ofZ x) [1,3,49] [1] Lk Lk (fun i:Nat=>[(50,iv i)]) (fun _=>[]) (fun i=>pm.length-i) 0 ⟨Nat.zero_le _,by omega⟩ ?_ ?_
   ·refine LeM [] rfl rfl ?_;refine Zz ?_
    rfl
   ·rintro j ⟨hj,hd⟩
    by_cases hjl:j < pm.length
    ·have hjl':(j:Int) < pm.length:=by omega
     obtain ⟨a,b,ha,hb,hab,hbr,hcol⟩:=h6.col j hjl;have hal:a < vs.length:=by
      have:=(List.getElem?_eq_some_iff.1 hcol.f).1;simp at this;omega
     obtain ⟨x,hx⟩:∃ x,vs[a]?=some x:=⟨_,List.getElem?_eq_getElem hal⟩;have hm:=List.mem_of_getElem? hx;have wj:IntKind.i64.wrap ((j:Int)+1)=((j+1:Nat):Int):=by rw [i64_in (by omega) (by omega)]; omega
     have cO:=q3U (hu x hm) (q0g (hf x hm))
     by_cases hs:(ofZ x).sign≤0
     ·have C1:=(q2k (fOk (q0g (hf x hm))));refine wk1 (x3 ha hx hs) ?_;refine (bad fun h=>?_).symm;have:=Int.sign_eq_one_of_pos (h.2 j hjl a x ha hx);omega
     ·have C2:=(q2k (fOk (q0g (hf x hm))));refine wk1 (x4 ha hx hs wj) ?_;refine ⟨j+1,⟨by omega,?_⟩,by omega,?_⟩
      ·intro j' hj' a' x' h1 h2
       by_cases hjj:j' < j
       ·exact hd j' hjj a' x' h1 h2
       ·obtain rfl:j'=j:=by omega
        have e:a'=a:=by have:=Option.some.inj (h1.symm.trans ha); omega
        subst e;have e:=Option.some.inj (h2.symm.trans hx);subst e;exact Int.sign_pos_iff.1 Oq
      ·refine LeM [] rfl rfl ?_;exact Zy
    ·have hjl':¬ (j:Int) < pm.length:=by omega
     obtain rfl:pm.length=j:=by omega
     refine wk1 hjl' ?_;exact (good ⟨hf,hd⟩).symm
def qkb {w:World} {D:Nat→Prop} {ρ:Nat→Option Nat} {h:Hp} {v:Value} {pm cp ri:List Int} {vs:List Nat} (hr:Rd w D (q4O (pm,cp,ri,vs)) ρ h v):In (fFac ⟨pm,cp,ri,vs⟩) D v w:=by
 unfold q4O Rd at hr;obtain ⟨l,rfl,h1⟩:=hr;obtain ⟨_,_,_,_,rfl,h1,h2,h3,h4⟩:=rd_4 h1;obtain ⟨A1,n1,c1,rfl,i1⟩:=q8T (f:=q4S) h1;obtain ⟨A2,n2,c2,rfl,i2⟩:=q8T (f:=q4S) h2;obtain ⟨A3,n3,c3,rfl,i3⟩:=q8T (f:=q4S) h3;obtain ⟨A4,n4,c4,rfl,i4⟩:=q8T (f:=q2h) h4;exact ⟨_,_,_,_,rfl,i1,i2,i3,i4⟩
def q7H {l:List Int} {a b p:Nat} (h:a+p < b):((l.take b).drop a)[p]?=l[a+p]?:=by
 rw [List.getElem?_drop,List.getElem?_take,if_pos h]
def qbP {pm cp ri:List Int} {vs:List Nat} (h:q8B (pm,cp,ri,vs)=0) (hr:ri.length≤1000000) (hu:∀ x ∈ vs,x < 18446744073709551616):FacOk ⟨pm,cp,ri,vs⟩:=by
 unfold q8B at h;dsimp only at h
 split at h
 ·cases h
 split at h
 ·cases h
 split at h
 ·cases h
 split at h
 ·cases h
 split at h
 case isFalse=>cases h
 rename_i h1 h2 h3 h4 h5;obtain ⟨h5,h6⟩:=h5;have h2:=Classical.not_not.1 h2;have h4:=Classical.not_not.1 h4;refine ⟨⟨fun x hx=>h2.2.1 x hx,h2.2.2⟩,by dsimp only; omega,by dsimp only; omega,by dsimp only; omega,hr,h4.c0,h4.cn,fun j hj=>?_,fun x hx=>⟨hu x hx,h5 x hx⟩⟩;obtain ⟨a,b,ha,hb,hab,hbr,hc⟩:=h4.col j hj;have hl:((ri.take b).drop a).length=b-a:=by simp; omega
 have hlt:a < b:=by
  have:=(List.getElem?_eq_some_iff.1 hc.f).1;omega
 refine ⟨a,b,ha,hb,hlt,hbr,?_,?_,?_,?_⟩
 ·have:=hc.f
  rwa [q7H (by omega)] at this
 ·obtain ⟨z,hz⟩:∃ z,ri[b-1]?=some z:=⟨_,List.getElem?_eq_getElem Oq⟩;refine ⟨z,hz,hc.l z ?_⟩;rw [hl,q7H (by omega),show a+(b-a-1)=b-1 by omega];exact hz
 ·intro i h7 h8;obtain ⟨y,hy⟩:∃ z,ri[i-1]?=some z:=⟨_,List.getElem?_eq_getElem Oq⟩;obtain ⟨z,hz⟩:∃ z,ri[i]?=some z:=⟨_,List.getElem?_eq_getElem Oq⟩;refine ⟨y,z,hy,hz,hc.m (i-1-a) y z ?_ ?_⟩
  ·rw [q7H (by omega),show a+(i-1-a)=i-1 by omega]; exact hy
  ·rw [q7H (by omega),show a+(i-1-a+1)=i by omega]; exact hz
 ·obtain ⟨x,hx⟩:∃ x,vs[a]?=some x:=⟨_,List.getElem?_eq_getElem Oq⟩;exact ⟨x,ofZ x,hx,q0g (h5 x (List.mem_of_getElem? hx)),h6 j hj a x ha hx⟩
def fwP:Option (List Nat)→PV
 | some ys=>.tu [pF ys,iv 0]
 | none=>.tu [pF [],iv 233]
def qnD {w:World} {D:Nat→Prop} {ρ:Nat→Option Nat} {h:Hp} {v:Value} {l:List Nat} (hr:In (fSc q2h l) D v w):Rd w D (pF l) ρ h v:=qrq (f:=q2h) (fun x=>⟨rfl,rfl⟩) hr
def qka {o:Option (List Nat)} {w:World} {D:Nat→Prop} {ρ:Nat→Option Nat} {h:Hp} {v:Value} (hr:In (qtX o) D v w):Rd w D (fwP o) ρ h v:=by
 cases o with
 | some ys =>
  obtain ⟨a,b,rfl,h1,h2⟩:=hr;unfold fwP Rd;refine ⟨[a,b],rfl,?_⟩;unfold RdL;refine ⟨_,_,rfl,qnD h1,?_⟩;unfold RdL;exact ⟨_,_,rfl,by unfold Rd; exact h2,by unfold RdL; rfl⟩
 | none =>
  obtain ⟨a,b,rfl,h1,h2⟩:=hr;unfold fwP Rd;refine ⟨[a,b],rfl,?_⟩;unfold RdL;refine ⟨_,_,rfl,qnD h1,?_⟩;unfold RdL;exact ⟨_,_,rfl,by unfold Rd; exact h2,by unfold RdL; rfl⟩
def qux {n:Nat} (hn:n≤1000000):ACt 51 [iv n] (pI (qbz n)):=by
 have hl:=qaW;refine ac0 Tryz.func51 Tryz.ntmps51 [.tmp 2] ?_;refine wk ?_;refine q0L (fun i=>i≤n) [5] [] Lk Lk (fun i:Nat=>[(6,iv i),(3,.ow 1001 none 0 i)]) (fun i=>[(1001,⟨3,none,(qbz i).map fun z=>iv z,false⟩)]) (fun i=>n-i) 0 (Nat.zero_le _) ?_ ?_
 ·refine LeM [(1001,none)] rfl rfl ?_;refine Zz ?_;exact ⟨rfl,rfl⟩
 ·intro i hi
  by_cases hlt:i < n
  ·refine wk1 (hl i) ?_;refine ⟨i+1,by omega,by omega,?_⟩;refine LeM [(1001,some 12)] rfl rfl ?_;refine Zz ?_;exact ⟨by omega,by rw [qdK]⟩
  ·obtain rfl:i=n:=by omega
   exact wk1 (hl i) trivial
def qtJ {f:List Int × List Int × List Int × List Nat} {ps:List Int} {l:List Nat} (ho:FacOk ⟨f.1,f.2.1,f.2.2.1,f.2.2.2⟩) (hl:q1f l) (hn:l.length=f.1.length) (hps:∀ x ∈ ps,0≤x∧x < l.length) (hpl:ps.length≤200) :
  ACt 49 [q4O f,pF l,pI ps] (fwP (qhG ⟨f.1,f.2.1,f.2.2.1,f.2.2.2⟩ ps (l.map fun x=>[ofZ x]) (List.replicate l.length 0))):=q1N (r:=.fm (qtX _)) (fun D w v h=>qka (q2z h)) (q6u quP fun D w vs hT hF hR=>by
 obtain ⟨_,_,_,rfl,h3,h4,h5⟩:=rd_3 hR;obtain ⟨A,n,c,rfl,h6⟩:=q8T (f:=q2h) h4;obtain ⟨A2,n2,c2,rfl,h7⟩:=q8T (f:=q4S) h5;obtain rfl:n=l.length:=h6.sc_len.symm;obtain rfl:n2=ps.length:=h7.sc_len.symm;exact qc4 hT (qkb h3) ho h6 hl hn h7 hps hpl hF)

def qmv {mode:Int} {neg:Bool} {N D:Nat}:N / D≤rq mode neg N D:=by unfold rq; (repeat' split) <;> omega
def qnK {mode:Int} {neg:Bool} {N D K:Nat} (hN:0 < N) (hD:0 < D) (hK:1074≤K):∃ u r:Nat,K≤u+1074∧rF mode neg N D=fin mode neg r ((u:Int)-K)∧r=rq mode neg (N*2 ^ K) (D*2 ^ u)∧r≤9007199254740992∧(u+1074=K∨(4503599627370496≤r∧D*2 ^ (u+52)≤N*2 ^ K)):=by
 obtain ⟨q,hq⟩:∃ q,q=qet N D:=⟨_,rfl⟩;have hq1:q=max (lgq N D-52) (-1074):=hq;obtain ⟨u,hu⟩:∃ u:Nat,(u:Int)=q+K:=⟨(q+K).toNat,by omega⟩;have hbl:D≤N*2 ^ bl D:=Nat.le_trans (Nat.le_of_lt (q2w D)) (Nat.le_mul_of_pos_left _ hN);obtain ⟨g,hg⟩:∃ g,bl (N*2 ^ bl D / D)=g+1:=⟨bl (N*2 ^ bl D / D)-1,by
  have:bl (N*2 ^ bl D / D)≠0:=fun h=>by
   have h1:=q2w (N*2 ^ bl D / D);rw [h] at h1;have:=Nat.div_pos hbl hD;omega
  omega⟩
 have hlg:lgq N D=(g:Int)-bl D:=by unfold lgq; omega
 have f2:N*2 ^ bl D < D*2 ^ (g+1):=by
  have:=q2w (N*2 ^ bl D / D);rw [hg,Nat.div_lt_iff_lt_mul hD] at this;rw [Nat.mul_comm D];exact this
 have f1:D*2 ^ g≤N*2 ^ bl D:=by
  have:=q7l (n:=N*2 ^ bl D / D) (by have:=Nat.div_pos hbl hD; omega);rw [hg,Nat.le_div_iff_mul_le hD] at this;rw [Nat.mul_comm D];exact this
 generalize bl D=b at *;have hr:rat mode neg N D q=rq mode neg (N*2 ^ K) (D*2 ^ u):=by
  unfold rat;rw [← q53 (c:=2 ^ (K-(-q).toNat)) (q0P _),Nat.mul_assoc,Nat.mul_assoc,← Nat.pow_add,← Nat.pow_add,show (-q).toNat+(K-(-q).toNat)=K by omega,show q.toNat+(K-(-q).toNat)=u by omega]
 refine ⟨u,_,by omega,?_,rfl,?_,?_⟩
 ·unfold rF;rw [← hq,hr,show (u:Int)-K=q by omega]
 ·refine Nat.le_trans qrw ?_;have:N*2 ^ K / (D*2 ^ u) < 2 ^ 53:=by
   rw [Nat.div_lt_iff_lt_mul (Nat.mul_pos hD (q0P _))];refine Nat.lt_of_mul_lt_mul_right (a:=2 ^ b) ?_;have e1:N*2 ^ K*2 ^ b=N*2 ^ b*2 ^ K:=by rw [Nat.mul_right_comm]
   have e2:2 ^ 53*(D*2 ^ u)*2 ^ b=D*2 ^ (53+u+b):=by rw [Nat.mul_left_comm,Nat.mul_assoc,← Nat.pow_add,← Nat.pow_add]
   rw [e1,e2];refine Nat.lt_of_lt_of_le (Nat.mul_lt_mul_of_pos_right f2 (q0P K)) ?_;rw [Nat.mul_assoc,← Nat.pow_add];exact Nat.mul_le_mul_left _ (Nat.pow_le_pow_right Oq Oq)
  have h53:(2:Nat) ^ 53=9007199254740992:=by decide
  omega
 ·by_cases h:u+1074=K
  ·exact .inl h
  ·right
   have hm:D*2 ^ (u+52)≤N*2 ^ K:=by
    refine Nat.le_of_mul_le_mul_right (c:=2 ^ b) ?_ (q0P b);have e1:N*2 ^ K*2 ^ b=N*2 ^ b*2 ^ K:=by rw [Nat.mul_right_comm]
    have e2:D*2 ^ (u+52)*2 ^ b=D*2 ^ g*2 ^ K:=by rw [Nat.mul_assoc,Nat.mul_assoc,← Nat.pow_add,← Nat.pow_add]; congr 2; omega
    rw [e1,e2];exact Nat.mul_le_mul_right _ f1
   refine ⟨Nat.le_trans ?_ qmv,hm⟩;rw [Nat.le_div_iff_mul_le (Nat.mul_pos hD (q0P _))];have h52:(2:Nat) ^ 52=4503599627370496:=by decide
   rw [← h52,Nat.mul_left_comm,← Nat.pow_add,Nat.add_comm 52];exact hm
def qo0 {mode:Int} {neg:Bool} {r u:Nat} {K:Nat} (hK:K=65536) (h1:K≤u+1074) (h2:r≤9007199254740992) (h3:u+1074=K∨4503599627370496≤r) (h4:u+1076 < 2047+K):ofF (fin mode neg r ((u:Int)-K))=some (sgn neg r*(2:Int) ^ u):=by
 unfold fin
 split
 ·rename_i h;rw [q7b Oq Oq Oq Oq,show ((u:Int)-K+1+65536).toNat=u+1 by omega,h]
  congr 1
  cases neg <;> simp [sgn,Int.pow_succ] <;> omega
 ·rw [q7b Oq Oq Oq Oq,show ((u:Int)-K+65536).toNat=u by omega]
def qaq:ofF 0=some 0:=by
 unfold ofF;rw [if_neg (by decide),if_pos (by decide)];have:sgn (decide (9223372036854775808≤0)) (0 % 4503599627370496)=0:=by decide
 rw [this,Int.zero_mul]
def qtW {mode V:Int} {K c:Nat} (hK:K=65536) (hc:c=900) (h:V.natAbs < 2 ^ c*2 ^ K):q0Y (fR mode V):=by
 unfold fR
 split
 ·unfold q0Y; simp
 ·rw [← hK];obtain ⟨u,r,h1,h2,h3,h4,h5⟩:=qnK (mode:=mode) (neg:=decide (V < 0)) (N:=V.natAbs) (D:=2 ^ K) (K:=K) Oq (q0P _) Oq;rw [h2];have hu:u+1076 < 2047+K:=by
   rcases h5 with h5 | ⟨_,h5⟩
   ·omega
   ·have h6:2 ^ K*2 ^ (u+52) < 2 ^ c*2 ^ K*2 ^ K:=Nat.lt_of_le_of_lt h5 (Nat.mul_lt_mul_of_pos_right h (q0P K));rw [← Nat.pow_add,← Nat.pow_add,← Nat.pow_add] at h6;have:=(Nat.pow_lt_pow_iff_right (by omega:1 < 2)).1 h6;omega
  have:=qo0 (mode:=mode) (neg:=decide (V < 0)) hK h1 h4 Oq hu;intro hn;unfold ofF at this;rw [if_pos hn] at this;cases this
def qp1 (m:Int) (k:Nat) (h1:m.natAbs < 9007199254740992) (h2:k≤65561):bl (m*(2:Int) ^ k).natAbs≤66000:=by
 have h53:∀ n:Nat,n < 9007199254740992→bl n≤53:=fun n h=>q0T (Nat.lt_of_lt_of_le h (Nat.le_refl _))
 by_cases hm:m=0
 ·subst hm; rw [Int.zero_mul]; simp [q1c]
 ·rw [q0U,q1i (by omega)]; have:=h53 _ h1; omega
def qkn {f:Nat} (h:f / 4503599627370496 % 2048≤1100):bl (ofZ f).natAbs≤66000:=by
 have hm:=Nat.mod_lt f (show 0 < 4503599627370496 by omega);have hfm:∃ (m:Int) (k:Nat),ofF f=some (m*(2:Int) ^ k)∧m.natAbs < 9007199254740992∧k≤65561:=by
  unfold ofF;rw [if_neg (by omega)];generalize f / 4503599627370496 % 2048=x at *;generalize f % 4503599627370496=m at *
  split
  ·exact ⟨_,64462,rfl,by rw [q1R]; omega,by omega⟩
  ·exact ⟨_,64461+x,rfl,by rw [q1R]; omega,by omega⟩
 obtain ⟨m,k,h1,h2,h3⟩:=hfm;rw [q0t h1];exact qp1 m k h2 h3
def qna {k x:Nat} (hk:k < 3) (hx:x < 18446744073709551616):bl (ofZ (q2s k x)).natAbs≤66000:=by
 by_cases h1:k=1
 ·subst h1;refine qkn ?_;unfold q2s;rw [if_pos rfl];omega
 by_cases h2:k=2
 ·subst h2;refine qkn ?_;unfold q2s;rw [if_neg (by omega),if_pos rfl];have h1:x / 9223372036854775808≤1:=by omega
  have h2:x / 256 % 81 < 81:=by omega
  have h3:x / 2251799813685248 % 2≤1:=by omega
  generalize x / 9223372036854775808=a at *;generalize x / 256 % 81=b at *;generalize x / 2251799813685248 % 2=c at *;omega
 have hs:=q7L x;unfold q2s;rw [if_neg h1,if_neg h2,if_neg (by omega),q0t (q8f (by omega))];exact qp1 _ 65536 Oq Oq
def qn5:bl qs4.natAbs≤66000:=by
 have h:=q9d (z:=1) (by have:=q0T (n:=Int.natAbs 1) (k:=1) (by decide); omega);rw [q99.1] at h;rw [Option.some.inj h];exact qp1 1 65536 (by decide) Oq
def gF_bl {raw:List Nat} {R k:Nat} (hk:k < 3) {j i:Nat}:bl (ofZ ((gF raw R k j i).getD 0)).natAbs≤66000:=by
 unfold gF
 split
 ·exact qna hk (q3p _ _)
 ·rw [Option.getD_none,q0t qaq]; simp [q1c]
def qgD {raw:List Nat} {R k i:Nat} (hk:k < 3):∀ m,∀ x ∈ dgL (gF raw R k) i m,bl x.natAbs≤66000
 | 0,x,hx=>by unfold dgL at hx; simp at hx; subst hx; exact qn5
 | m+1,x,hx=>by
  unfold dgL at hx
  split at hx
  ·exact qgD hk m x hx
  ·rcases List.mem_append.1 hx with hx | hx
   ·exact qgD hk m x hx
   ·simp at hx; subst hx;rw [Int.natAbs_natCast];exact gF_bl hk
def qtr {raw:List Nat} {n k:Nat} (hn:n≤100) (hk:k < 3):TOk (dfF (gF raw n k) n) n n:=by
 have hnn:n*n≤100*100:=Nat.mul_le_mul hn hn;have hG:=qtH (raw:=raw) (R:=n) (C:=n) (st:=k) Oq Oq Oq;have key:∀ i,i < n→q0Y (fR 2 (q1I (dgL (gF raw n k) i n))):=fun i hi=>by
  have hl:=(qgC hG hi n (Nat.le_refl _)).1;have h1:=q7F (K:=66000) (qgD (raw:=raw) (R:=n) (i:=i) hk n) (i:=(dgL (gF raw n k) i n).length) Oq;rw [List.take_length] at h1;obtain ⟨c,hc⟩:∃ c,c=900:=⟨_,rfl⟩;obtain ⟨K,hK⟩:∃ K,K=65536:=⟨_,rfl⟩;refine qtW hK hc (Nat.lt_of_lt_of_le (q2w _) ?_);rw [← Nat.pow_add];exact Nat.pow_le_pow_right Oq Oq
 refine ⟨hG.r,hG.c,hG.m,fun j i x hj hi h=>?_,fun j i x hj hi h=>?_⟩
 ·unfold dfF at h
  split at h
  ·have h:=Option.some.inj h; rw [← h]; exact qfh
  ·exact hG.u j i x hj hi h
 ·unfold dfF at h
  split at h
  ·have h:=Option.some.inj h; rw [← h]; exact key i hi
  ·exact hG.v j i x hj hi h
def qb2 {xs:List Nat}:q3d (q07 h0 5000 ⟨30,none,xs.map fun z:Nat=>uv z,false⟩) (.ow 5000 none 0 xs.length)=some (pF xs,[5000]):=by
 unfold q3d;dsimp only;rw [q0V,Option.bind_some,if_pos ⟨rfl,rfl,fun x hx=>by obtain ⟨z,_,rfl⟩:=List.mem_map.1 hx; trivial⟩,List.drop_zero,List.take_of_length_le (by rw [List.length_map]; exact Nat.le_refl _)]
def qbr {f:FuncId} {al:List PV} {x y:PV} {ids:List Nat} {hout:Hp} (hM:ACm Tryz.prog q2i f al h0 x hout) (hi:∀ i ∈ ids,∃ b,hout i=some b) (hc:∀ (D0:Nat→Prop) (w0:Base) (s:Nat→PV) (ρ:Nat→Option Nat) (e:Env) (w:World) (v:Value),Sat D0 w0 s hout ρ e w→Rd w (dm D0 ρ hout) x ρ hout v→Rd w (fun k=>dm D0 ρ hout k∨∃ i ∈ ids,ρ i=some k) y (fun _=>none) h0 v):ACt f al y:=by
 refine ⟨hM.ca,fun D w vs hT hF hR=>?_⟩;have hlen:=hR.len;have hdm:dm D (fun _=>none) h0=D:=by
  funext k
  exact propext ⟨fun h=>h.1,fun h=>⟨h,fun i b hi=>by cases hi⟩⟩
 have S:Sat D ⟨w,fun k=>k < w.heap.size,fun _ _ _=>False,fun _ _=>False,fun _ h=>h,fun _ _ h=>h.elim⟩ (enP al) h0 (fun _=>none) (q4Y vs) w:=by
  refine ⟨fun i j b c g hi=>(by cases hi),fun i b g hi=>(by cases hi),fun i b hi=>(by cases hi),fun t=>?_,Kp.refl _ _,hF,fun _ _ _ h=>h.elim,fun _ _ h=>h.elim⟩;rw [hdm];obtain ⟨h1,h2⟩:=RdL.iff.1 hR;unfold enP q4Y;rw [List.getD_eq_getElem?_getD,List.getD_eq_getElem?_getD];cases ht:al[t]? with
  | none=>simp only [Option.getD_none]; unfold Rd; trivial
  | some x =>
   have hlt:=(List.getElem?_eq_some_iff.1 ht).1;have hv:=List.getElem?_eq_getElem (l:=vs) (show t < vs.length by omega);rw [hv];exact h2 t x _ ht hv
 refine (hM.run D ⟨w,fun k=>k < w.heap.size,fun _ _ _=>False,fun _ _=>False,fun _ h=>h,fun _ _ h=>h.elim⟩ _ w vs (fun w' hx=>q7D _ _ (hx.mono fun k hk _=>hk) hT) (fun _ _ h=>h.elim) hF Oq S).mono fun x w' ⟨v,ρ',hx,S',hr⟩=>?_;refine ⟨v,hx,S'.ext.mono fun k hk _=>hk,?_⟩;exact (hc _ _ _ _ _ _ _ S' hr).sub (D':=D) fun k _ hq=>by
  rcases hq with hq | ⟨i,hj,hg⟩
  ·exact hq.1
  ·obtain ⟨b,hb'⟩:=hi i hj;exact (S'.own i b k hb' hg).1.2
def qqL {f:FuncId} {al:List PV} {x y:PV} {ids:List Nat} {hout:Hp} (hM:ACm Tryz.prog q2i f al h0 x hout) (hc:q2e hout [x]=some ([y],ids)):ACt f al y :=
 qbr hM (q41 hc) fun _ _ _ _ _ _ _ S hr=>(RdL.iff.1 (q4u S hc (RdL.one hr))).2 0 _ _ rfl rfl
def qkO {f:FuncId} {al l cl:List PV} {ids:List Nat} {hout:Hp} (hM:ACm Tryz.prog q2i f al h0 (.tu l) hout) (hc:q2e hout l=some (cl,ids)):ACt f al (.tu cl) :=
 qbr hM (q41 hc) fun _ _ _ _ _ _ _ S hr=>by
  unfold Rd at hr ⊢;obtain ⟨us,hv,hr⟩:=hr;exact ⟨us,hv,q4u S hc hr⟩
def qje {a b:Int}:ACt 253 [iv a,iv b] (bv (decide (a < b))):=by
 have C1:∀ x:Int,ACt 269 [iv x] (bv false):=fun x=>by
  have q:(x != x)=false:=by simp
  refine ac0 Tryz.func269 Tryz.ntmps269 [.tmp 2] ?_;exact wk1 q trivial
 refine ac0 Tryz.func253 Tryz.ntmps253 [.tmp 4] ?_;exact wk trivial
def q9j {l:List Int} (hl:∀ (i:Nat) (x y:Int),l[i]?=some x→l[i+1]?=some y→x≤y) (hn:l.length≤1000000):ACt 223 [pI l] (bv true):=by
 have C1:=@qje;refine ac0 Tryz.func223 Tryz.ntmps223 [.tmp 2] ?_;refine wk ?_;refine q0L (fun i:Int=>i < l.length ∧ -1≤i) [0] [] Lk Lk (fun i:Int=>[(3,iv i)]) (fun _=>[]) (fun i=>(i+1).toNat) (l.length-1:Int) ⟨by omega,by omega⟩ ?_ ?_
 ·refine LeM [] rfl rfl ?_;exact Zy
 ·rintro i ⟨hi,h0⟩
  by_cases hlt:i > 0
  ·obtain ⟨k,rfl⟩:∃ k:Nat,i=((k+1:Nat):Int):=⟨(i-1).toNat,by omega⟩;obtain ⟨x,hx⟩:∃ x,l[k]?=some x:=⟨_,List.getElem?_eq_getElem Oq⟩;obtain ⟨y,hy⟩:∃ y,l[k+1]?=some y:=⟨_,List.getElem?_eq_getElem Oq⟩;have:=hl k x y hx hy;have q:¬ y < x:=by omega
   have e:IntKind.i64.wrap (((k+1:Nat):Int)-1)=(k:Int):=by rw [i64_in (by omega) (by omega)]; omega
   refine wk1 (x6 hlt hx hy q e (decide_eq_false q)) ?_;refine ⟨k,⟨by omega,by omega⟩,by omega,?_⟩;refine LeM [] rfl rfl ?_;exact Zy
  ·exact wk1 hlt trivial
def qrO {l:List Int} {a b p:Nat} (h:a+p < b):((l.take b).drop a)[p]?=l[a+p]?:=by
 rw [List.getElem?_drop,List.getElem?_take,if_pos h]
def qcW (ix:List Int) (a k:Nat):Int:=if k=a then -1 else ix.getD (k-1) 0
def qiV {R C:Nat} {st ix:List Int} {vl:List Nat} (hS:MSz R C ix) (hP:MPt C st ix vl) (hI:MIx R st ix):ACt 161 [q3G R C st ix vl] (bv true):=by
 obtain ⟨z1,z2,z3,z4,z5⟩:=hS;have hnn:=hP.nn;have hub:=hP.ub Oq;obtain ⟨p1,p2,p3,p4,p5⟩:=hP;rw [Int.toNat_natCast] at p4;have C1:=q9j (l:=st) p5 Oq;have hsl:st.length=C+1:=by omega
 have hg:∀ j,j < C→∃ a b:Nat,st[j]?=some (a:Int)∧st[j+1]?=some (b:Int)∧a≤b∧b≤ix.length:=fun j hj=>by
  obtain ⟨x,hx⟩:∃ x,st[j]?=some x:=⟨_,List.getElem?_eq_getElem Oq⟩;obtain ⟨y,hy⟩:∃ y,st[j+1]?=some y:=⟨_,List.getElem?_eq_getElem Oq⟩;have h1:=hnn j x hx;have h2:=p5 j x y hx hy;have h3:=hub (C-(j+1)) (j+1) y (by rw [Int.toNat_natCast]; omega) hy;exact ⟨x.toNat,y.toNat,by rw [hx]; congr 1; omega,by rw [hy]; congr 1; omega,by omega,by omega⟩
 unfold q3G;refine ac0 Tryz.func161 Tryz.ntmps161 [.tmp 2] ?_;refine wk1 (x4 hsl p1 p3 p4) ?_;refine q0L (fun j=>j≤C) [1,2,49] [1] Lk Lk (fun j:Nat=>[(50,iv j)]) (fun _=>[]) (fun j=>C-j) 0 (Nat.zero_le _) ?_ ?_
 ·refine LeM [] rfl rfl ?_;refine Zz ?_
  rfl
 ·intro j hj
  by_cases hlt:j < C
  ·obtain ⟨a,b,g1,g2,g3,g4⟩:=hg j hlt;have es:slP (some 1) (some (iv (a:Int))) (some (iv (b:Int))) (pI ix)=some (pI ((ix.take b).drop a)):=by
    simp [slP,qcv,ksz,List.map_take,List.map_drop];omega
   have hl:((ix.take b).drop a).length=b-a:=by simp; omega
   have wj:(j:Int)+1=((j+1:Nat):Int):=rfl;have ww:IntKind.i64.wrap ((j+1:Nat):Int)=((j+1:Nat):Int):=i64_in Oq Oq;have hsb:=fun p (h:a+p < b)=>qrO (l:=ix) (p:=p) h;generalize (ix.take b).drop a=L at *;refine wk1 (x6 g1 g2 es wj ww hl) ?_;refine q0L (fun t=>t≤b-a) [1,2,3,49,50,66,67] [1] Lk Lk (fun t:Nat=>[(68,iv t),(4,iv (qcW ix a (a+t)))]) (fun _=>[]) (fun t=>b-a-t) 0 (Nat.zero_le _) ?_ ?_
   ·refine LeM [] rfl rfl ?_;refine Zz ?_;unfold qcW;exact ⟨rfl,(if_pos rfl).symm⟩
   ·intro t ht
    by_cases hlt2:t < b-a
    ·obtain ⟨x,hx⟩:∃ x,ix[a+t]?=some x:=⟨_,List.getElem?_eq_getElem Oq⟩;obtain ⟨h1,h2,h3⟩:=hI j _ _ g1 g2 (a+t) Oq Oq x hx;have hx2:=(hsb t Oq).trans hx;have hlast:qcW ix a (a+t) < x∧qcW ix a (a+(t+1))=x:=by
      unfold qcW;rw [if_neg (show ¬ a+(t+1)=a by omega),show a+(t+1)-1=a+t by omega,getD_some hx];refine ⟨?_,rfl⟩
      by_cases h0:t=0
      ·rw [if_pos (by omega)]; omega
      ·obtain ⟨u,hu⟩:∃ u,ix[a+t-1]?=some u:=⟨_,List.getElem?_eq_getElem Oq⟩;rw [if_neg (by omega),getD_some hu];exact h3 Oq u hu
     obtain ⟨q1,q2⟩:=hlast;have q3:¬ x≤qcW ix a (a+t):=by omega
     have q4:¬ (R:Int)≤x:=by omega
     refine wk1 (x3 hx2 q3 q4) ?_;refine ⟨t+1,by omega,by omega,?_⟩;rw [q2];refine LeM [] rfl rfl ?_;refine Zz ?_;omega
    ·have hlt3:¬ (t:Int) < ((b-a:Nat):Int):=by omega
     refine wk1 hlt3 ?_;refine ⟨j+1,by omega,by omega,?_⟩;refine LeM [] rfl rfl ?_;refine Zz ?_;omega
  ·have hlt':¬ (j:Int) < C:=by omega
   exact wk1 hlt' trivial
def qiW {x:Nat} (hx:x < 18446744073709551616):ACt 163 [uv x] (bv (!decide (q0Y x))):=by
 have C1:=q4t hx;refine ac0 Tryz.func163 Tryz.ntmps163 [.tmp 2] ?_;exact wk trivial
def qng {R C:Nat} {st ix:List Int} {vl:List Nat} (h:q3H R C st ix vl=0) (hu:∀ x ∈ vl,x < 18446744073709551616):ACt 105 [q3G R C st ix vl] (iv 0):=by
 unfold q3H at h
 split at h
 ·rename_i hS
  split at h
  ·rename_i hP
   split at h
   ·rename_i hf;have C1:=qiV hS hP.1 hP.2;have hvl:=hP.1.v;obtain ⟨z1,z2,z3,z4,z5⟩:=hS;have C2:=q3W (f:=163) (l:=vl) (fun x hx=>qiW hx) hu Oq;rw [decide_eq_true hf] at C2;have C3:∀ n:Nat,n≤200→ACt 160 [iv n,iv 0,iv 200] (bv true):=fun n hn=>by
     have q1:(0:Int)≤n:=by omega
     have q2:(n:Int)≤200:=by omega
     refine ac0 Tryz.func160 Tryz.ntmps160 [.tmp 6] ?_;exact wk1 (x2 q1 q2) trivial
    unfold q3G at *;refine ac0 Tryz.func105 Tryz.ntmps105 [.tmp 2] ?_;exact wk trivial
   ·cases h
  ·cases h
 ·cases h
def qhf {f:Nat→Nat→Option Nat} {R C:Nat} (h:TOk f R C):ACt 105 [pT R C f] (iv 0):=qng h.chk h.vl.2.2.2
end Go.Proofs.YtbcmhlhgljoolaaGreatDoor
namespace Go.Sp
open Go.E Go.Proofs.YtbcmhlhgljoolaaGreatDoor
def prL (x y:List Nat) (i:Nat):List Int:=(List.range i).map fun k=>q1e (x.getD k 0) (y.getD k 0)
def q40 (x y:List Nat):Int:=q1I (prL x y x.length)
def lnE (x:List Nat) (t:Nat) (y:List Nat) (k:Nat):Int:=ofZ (x.getD k 0)+q1e t (y.getD k 0)
def lnF (x:List Nat) (t:Nat) (y:List Nat) (i:Nat):List Nat:=(List.range i).map fun k=>fR 0 (lnE x t y k)
def qsO {x y:List Nat} {i:Nat}:prL x y (i+1)=prL x y i ++ [q1e (x.getD i 0) (y.getD i 0)]:=by unfold prL; rw [List.range_succ,List.map_append]; rfl
def lnF_s {x y:List Nat} {t i:Nat}:lnF x t y (i+1)=lnF x t y i ++ [fR 0 (lnE x t y i)]:=by unfold lnF; rw [List.range_succ,List.map_append]; rfl
def q97 {x y:List Nat} {i:Nat}:(prL x y i).length=i:=by simp [prL]
def q3u {x y:List Nat} {t i:Nat}:(lnF x t y i).length=i:=by simp [lnF]
def q2c {l:List Nat} {i:Nat} (h:q1f l):l.getD i 0 < 18446744073709551616∧q0Y (l.getD i 0):=qfM h
def qki {x y:List Nat} (hx:q1f x) (hy:q1f y) {i:Nat}:∀ z ∈ prL x y i,bl z.natAbs≤67600:=fun z hz=>by
 obtain ⟨k,_,rfl⟩:=List.mem_map.1 hz;exact (q0u (q2c hx).2 (q2c hy).2).2
def qeZ {x y:List Nat} (hx:q1f x) (hy:q1f y) {i:Nat} (hi:i≤1000):q0k (q1I (prL x y i)):=qa8 (qki hx hy) (by rw [q97]; omega)
def q7e {x y:List Nat} (hx:q1f x) (hy:q1f y) (hn:x.length≤1000):q0k (q40 x y):=qeZ hx hy hn
def qsl {x y:List Nat} {t k:Nat} (hx:q1f x) (hy:q1f y) (ht:q0Y t):q0k (lnE x t y k):=by
 have h1:=q6B (q2c (i:=k) hx).2;have h2:=(q0u ht (q2c (i:=k) hy).2).2;unfold q0k lnE;have:=qgc h1 h2;omega
def q3g {f:Nat} (h:q0Y f):q0k (ofZ f):=by
 have:=q6B h;unfold q0k;omega
end Go.Sp
namespace Go.Proofs.YtbcmhlhgljoolaaGreatDoor
open Go Go.E Go.Sp
def qs8 {V:Int} (ho:q0k V):Nz (dT V):=fun w D B v hB h=>(q2q.2 (q2z (nz_V w D B v hB (q7T (q2q.1 ⟨h,ho⟩))))).1
section
variable {x y:List Nat} {t:Nat}
def q6I (hx:q1f x) (hy:q1f y) (hn:x.length≤1000) (hl:y.length=x.length):ACt 77 [pF x,pF y] (dT (q40 x y)):=by
 have hpl:=fun i=>q97 (x:=x) (y:=y) (i:=i);refine ac0 Tryz.func77 Tryz.ntmps77 [.cell 4 74] ?_;refine wk ?_;refine q0L (fun i=>i≤x.length) [0,1,4,8] [4] Lk Lk (fun i:Nat=>[(9,iv i),(5,.ow 1001 (some 4) 0 i)]) (fun i=>[(1001,⟨74,some 4,(prL x y i).map fun V=>pV V,false⟩)]) (fun i=>x.length-i) 0 (Nat.zero_le _) ?_ ?_
 ·refine LeM [(1001,none)] rfl rfl ?_;refine Zz ?_;exact ⟨rfl,rfl⟩
 ·intro i hi
  by_cases hlt:i < x.length
  ·obtain ⟨u,hu⟩:∃ u,x[i]?=some u:=⟨_,List.getElem?_eq_getElem hlt⟩;obtain ⟨v,hv⟩:∃ v,y[i]?=some v:=⟨_,List.getElem?_eq_getElem Oq⟩;obtain ⟨u1,u2⟩:=hx u (List.mem_of_getElem? hu);obtain ⟨v1,v2⟩:=hy v (List.mem_of_getElem? hv);have C1:=q3U u1 (q0g u2);have C2:=q3U v1 (q0g v2);have C3:=qnP (q5j (q3g u2) (q3g v2) (q0u u2 v2).1) (q5C (q0u u2 v2).1).2.2.2;have es:=@qsO x y i;rw [getD_some hu,getD_some hv] at es;refine wk1 (x3 hu hv (hpl i)) ?_;refine ⟨i+1,by omega,by omega,?_⟩;rw [es,List.map_append];refine LeM [(1001,some 25)] rfl rfl ?_;refine Zz ?_;exact ⟨by omega,qaT (q1A rfl clV) (q1A rfl (clV (l:=[_])))⟩
  ·obtain rfl:i=x.length:=by omega
   have C1:=q9H (l:=prL x y x.length) (by rw [q97]; exact hn) (fun z hz=>by have:=qki hx hy z hz; unfold q0k; omega) (qeZ hx hy hn);have N1:=qs8 (qeZ hx hy hn);unfold q40;exact wk1 (hpl x.length) trivial
def lnR (l:List Nat):PV:=.tu [pF l,bv (decide (∀ x ∈ l,q0Y x))]
def q77 {c:Int} (hc:c=ofZ t) (hx:q1f x) (hy:q1f y) (ht:q0Y t) (hn:x.length≤1000) (hl:y.length=x.length):ACt 141 [pF x,dT c,pF y] (lnR (lnF x t y x.length)):=by
 subst hc;have hpl:=fun i=>q3u (x:=x) (y:=y) (t:=t) (i:=i);have hfu:∀ z ∈ lnF x t y x.length,z < 18446744073709551616:=fun z hz=>by
  obtain ⟨k,_,rfl⟩:=List.mem_map.1 hz;exact qfh
 have C7:=q4r hfu (by rw [hpl]; omega);unfold lnR;have N1:Nz (bv (decide (∀ z ∈ lnF x t y x.length,q0Y z))):=qs7;generalize decide (∀ z ∈ lnF x t y x.length,q0Y z)=b at *;refine ac0 Tryz.func141 Tryz.ntmps141 [.tmp 6,.tmp 7] ?_;refine wk ?_;refine q0L (fun i=>i≤x.length) [0,2,4,11] [4] Lk Lk (fun i:Nat=>[(12,iv i),(8,.ow 1001 none 0 i)]) (fun i=>[(1001,⟨30,none,(lnF x t y i).map fun z:Nat=>uv z,false⟩)]) (fun i=>x.length-i) 0 (Nat.zero_le _) ?_ ?_
 ·refine LeM [(1001,none)] rfl rfl ?_;refine Zz ?_;exact ⟨rfl,rfl⟩
 ·intro i hi
  by_cases hlt:i < x.length
  ·obtain ⟨u,hu⟩:∃ u,x[i]?=some u:=⟨_,List.getElem?_eq_getElem hlt⟩;obtain ⟨v,hv⟩:∃ v,y[i]?=some v:=⟨_,List.getElem?_eq_getElem Oq⟩;obtain ⟨u1,u2⟩:=hx u (List.mem_of_getElem? hu);obtain ⟨v1,v2⟩:=hy v (List.mem_of_getElem? hv);have C1:=q3U u1 (q0g u2);have C2:=q3U v1 (q0g v2);have hm:=q0u ht v2;have C3:=q5j (q3g ht) (q3g v2) hm.1;have es:=@lnF_s x y t i;have hd:=qsl (k:=i) hx hy ht;unfold lnE at es hd;rw [getD_some hu,getD_some hv] at es hd;have C4:=qmP (q3g u2) (q5C hm.1).2.2.2 hd;have C5:=q8i hd;refine wk1 (x3 hu hv (hpl i)) ?_;refine ⟨i+1,by omega,by omega,?_⟩;rw [es];refine LeM [(1001,some 31)] rfl rfl ?_;refine Zz ?_;omega
  ·obtain rfl:i=x.length:=by omega
   exact wk1 (hpl x.length) trivial
end
end Go.Proofs.YtbcmhlhgljoolaaGreatDoor
namespace Go.E
open Go Go.RowKit
section
variable {J:Nat→Prop} {s:Nat→PV} {h:Hp} {T1 T2:TypeId} {K:Kd} {N R n:Nat} {row:Nat→List PV}
def q8A (T1 T2:TypeId) (K:Kd) (N R n:Nat) (row:Nat→List PV):Hp:=fun i =>
 if i=N then some ⟨T1,none,(List.range n).map fun j=>.ow (j+R) K 0 (row j).length,false⟩
 else if R≤i∧i < R+n then some ⟨T2,K,row (i-R),false⟩ else none
def qrG:q8A T1 T2 K N R n row N=some ⟨T1,none,(List.range n).map fun j=>.ow (j+R) K 0 (row j).length,false⟩:=if_pos rfl
def qa5 {j:Nat} (hN:N < R) (hj:j < n):q8A T1 T2 K N R n row (j+R)=some ⟨T2,K,row j,false⟩:=by
 unfold q8A;rw [if_neg (by omega),if_pos (by omega),Nat.add_sub_cancel]
attribute [go_sem ↓] qrG qa5
def q4H {i:Nat} {b:Bk} (hb:q8A T1 T2 K N R n row i=some b):(i=N∧b=⟨T1,none,(List.range n).map fun j=>.ow (j+R) K 0 (row j).length,false⟩)∨(R≤i∧i < R+n∧b=⟨T2,K,row (i-R),false⟩):=by
 unfold q8A at hb
 split at hb
 ·cases hb; exact .inl ⟨‹_›,rfl⟩
 ·split at hb
  ·rename_i hi; cases hb; exact .inr ⟨hi.1,hi.2,rfl⟩
  ·cases hb
def qh9 {p:Nat→Prop} (hp:∀ j,j < n→p (j+R)):IdL p ((List.range n).map fun j=>.ow (j+R) K 0 (row j).length):=IdL.of fun x hx=>by
 obtain ⟨z,hz,rfl⟩:=List.mem_map.1 hx;unfold IdP; exact hp z (List.mem_range.1 hz)
def qma (hrow:∀ j,∀ p,IdL p (row j)) (hN:5000≤N) (hNR:N < R) (hR:R+n≤1000000):WfH (q8A T1 T2 K N R n row):=⟨fun i b hb=>by
 rcases q4H hb with ⟨_,rfl⟩ | ⟨h1,h2,rfl⟩
 ·refine ⟨rfl,qh9 fun j hj=>⟨⟨by omega,by omega⟩,?_⟩⟩;rw [qa5 hNR hj]; exact Option.some_ne_none _
 ·exact ⟨rfl,hrow _ _⟩⟩
def tnG (N R n o:Nat):Nat→Option Nat:=fun i=>if i=N then some o else if R≤i∧i < R+n then none else some i
def qqx {o i:Nat} (h1:i < N) (h2:i < R):tnG N R n o i=some i:=by
 unfold tnG;rw [if_neg (by omega),if_neg (by omega)]
attribute [go_sem ↓] qqx
def qh8 {o:Nat} (hJ:∀ i,¬ J i) (ho:h o=some ⟨T1,none,List.replicate n (.vl (.slice none 0 0)),false⟩) (h5:o < 5000) (hN:5000≤N) (hNR:N < R) (hR:R+n≤1000000) {xs kv:List (Nat × PV)} {kb:List (Nat × Option Bk)} (hn:nmW o o (kb.map (·.1)))
  (hh:q5U (tnG N R n o) h (q1Q (q8A T1 T2 K N R n fun _=>[]) (hpM [] kb)) s xs∧q5U (tnG N R n o) h (q1Q (q8A T1 T2 K N R n fun _=>[]) (hpM [] kb)) s kv∧q9F (tnG N R n o) h (q1Q (q8A T1 T2 K N R n fun _=>[]) (hpM [] kb)) kb):Le J s h (stM xs kv) (q1Q (q8A T1 T2 K N R n fun _=>[]) (hpM [] kb)):=by
 obtain ⟨h1,h2,h4⟩:=hh;have tN:tnG N R n o N=some o:=if_pos rfl;have tR:∀ i,R≤i→i < R+n→tnG N R n o i=none:=fun i a b=>by unfold tnG; rw [if_neg (by omega),if_pos ⟨a,b⟩]
 have tI:∀ i,i < 5000→tnG N R n o i=some i:=fun i a=>by unfold tnG; rw [if_neg (by omega),if_neg (by omega)]
 have key:∀ i b,q1Q (q8A T1 T2 K N R n fun _=>[]) (hpM [] kb) i=some b→i=N∨(R≤i∧i < R+n)∨(i < 5000∧i≠o):=fun i b hb=>by
  by_cases hi:win i
  ·rw [q0m hi] at hb
   rcases q4H hb with ⟨e,_⟩ | ⟨q1,q2,_⟩
   ·exact .inl e
   ·exact .inr (.inl ⟨q1,q2⟩)
  ·rw [q1J hi] at hb;have:=q3t hn i (q2Y h4 i b hb).2;exact .inr (.inr ⟨this.1,this.2.1⟩)
 refine q30 (tnG N R n o) (fun i b hb=>?_) (fun i j k' b c hi hj ti tj=>?_) (fun t=>q3n h2 h1 t) fun i hi=>(hJ i hi).elim
 ·by_cases hi:win i
  ·rw [q0m hi] at hb
   rcases q4H hb with ⟨rfl,rfl⟩ | ⟨q1,q2,rfl⟩
   ·unfold LeB;rw [tN];refine ⟨_,ho,rfl,rfl,⟨rfl,rfl⟩,?_⟩;rw [q4j];refine ⟨by simp,fun c x y hx hy=>?_⟩;have hc:c < n:=by have:=(List.getElem?_eq_some_iff.1 hy).1; simpa using this
    rw [List.getElem?_map,List.getElem?_range hc,Option.map_some] at hx hy;cases hx; cases hy;exact .nilow (tR _ (by omega) (by omega)) (by rw [q0m ⟨by omega,by omega⟩]; exact qa5 hNR hc) rfl
   ·unfold LeB;rw [tR i q1 q2]
  ·rw [q1J hi] at hb;exact (q2Y h4 i b hb).1
 ·rcases key i b hi with rfl | ⟨a1,a2⟩ | ⟨a1,a2⟩ <;> rcases key j c hj with rfl | ⟨b1,b2⟩ | ⟨b1,b2⟩
  ·rfl
  ·rw [tR _ b1 b2] at tj; cases tj
  ·rw [tN] at ti; rw [tI _ b1] at tj; cases ti; cases tj; exact (b2 rfl).elim
  ·rw [tR _ a1 a2] at ti; cases ti
  ·rw [tR _ a1 a2] at ti; cases ti
  ·rw [tR _ a1 a2] at ti; cases ti
  ·rw [tI _ a1] at ti; rw [tN] at tj; cases ti; cases tj; exact (a2 rfl).elim
  ·rw [tR _ b1 b2] at tj; cases tj
  ·rw [tI _ a1] at ti; rw [tI _ b1] at tj; cases ti; cases tj; rfl
def q4L (row:Nat→List PV) (k:Nat) (x:PV):Nat→List PV:=fun j=>if j=k then row k ++ [x] else row j
def q8J {r k:Nat} {x:PV} (hJ:∀ i,¬ J i) (hk:k < n) (hcl:∀ j,ClL (q4L row k x j)) (ho:h N=some ⟨T1,none,((List.range n).map fun j=>.ow (j+R) K 0 (row j).length).set k (.ow r K 0 ((row k).length+1)),false⟩) (hr:h r=some ⟨T2,K,row k ++ [x],false⟩)
  (hrow:∀ j,j < n→j≠k→h (j+R)=some ⟨T2,K,row j,false⟩) (h6:r < 5000) (hN:5000≤N) (hNR:N < R) (hR:R+n≤1000000) {xs kv:List (Nat × PV)} {kb:List (Nat × Option Bk)} (hn:nmW r r (kb.map (·.1)))
  (hh:q5U (tnU (k+R) r) h (q1Q (q8A T1 T2 K N R n (q4L row k x)) (hpM [] kb)) s xs∧q5U (tnU (k+R) r) h (q1Q (q8A T1 T2 K N R n (q4L row k x)) (hpM [] kb)) s kv∧q9F (tnU (k+R) r) h (q1Q (q8A T1 T2 K N R n (q4L row k x)) (hpM [] kb)) kb):Le J s h (stM xs kv) (q1Q (q8A T1 T2 K N R n (q4L row k x)) (hpM [] kb)):=by
 obtain ⟨q1,q2,q4⟩:=hh;have tK:tnU (k+R) r (k+R)=some r:=if_pos rfl;have tI:∀ i,i≠k+R→tnU (k+R) r i=some i:=fun i a=>if_neg a;have key:∀ i b,q1Q (q8A T1 T2 K N R n (q4L row k x)) (hpM [] kb) i=some b→i≠r:=fun i b hb=>by
  by_cases hi:win i
  ·unfold win at hi; omega
  ·rw [q1J hi] at hb;exact (q3t hn i (q2Y q4 i b hb).2).2.1
 refine q30 (tnU (k+R) r) (fun i b hb=>?_) (fun i j k' b c hi hj ti tj=>?_) (fun t=>q3n q2 q1 t) fun i hi=>(hJ i hi).elim
 ·by_cases hi:win i
  ·rw [q0m hi] at hb
   rcases q4H hb with ⟨rfl,rfl⟩ | ⟨a1,a2,rfl⟩
   ·unfold LeB;rw [tI i (by omega)];refine ⟨_,ho,rfl,rfl,⟨rfl,rfl⟩,by simp,fun c u v hx hy=>?_⟩;have hc:c < n:=by have:=(List.getElem?_eq_some_iff.1 hy).1; simpa using this
    rw [List.getElem?_map,List.getElem?_range hc,Option.map_some] at hy;cases hy;rw [List.getElem?_set] at hx;have hex:∃ b,q1Q (q8A T1 T2 K i R n (q4L row k x)) (hpM [] kb) (c+R)=some b:=⟨_,by rw [q0m ⟨by omega,by omega⟩,qa5 hNR hc]⟩;obtain ⟨bb,hbb⟩:=hex
    by_cases hck:k=c
    ·subst hck;rw [if_pos rfl,if_pos (by simpa using hc)] at hx;cases hx;rw [show (q4L row k x k).length=(row k).length+1 by unfold q4L; rw [if_pos rfl,List.length_append]; rfl];exact .ow tK hbb
    ·rw [if_neg hck,List.getElem?_map,List.getElem?_range hc,Option.map_some] at hx;cases hx;rw [show q4L row k x c=row c from if_neg (Ne.symm hck)];exact .ow (tI _ Oq) hbb
   ·by_cases e:i=k+R
    ·subst e;unfold LeB;rw [tK,Nat.add_sub_cancel];have e2:q4L row k x k=row k ++ [x]:=if_pos rfl;refine ⟨_,hr,rfl,rfl,⟨rfl,rfl⟩,q1A e2.symm (hcl k)⟩
    ·unfold LeB;rw [tI i e];have:=hrow (i-R) Oq Oq;rw [Nat.sub_add_cancel a1] at this;have e2:q4L row k x (i-R)=row (i-R):=if_neg Oq;refine ⟨_,this,rfl,rfl,⟨rfl,rfl⟩,q1A e2.symm (hcl _)⟩
  ·rw [q1J hi] at hb;exact (q2Y q4 i b hb).1
 ·have a1:=key i b hi;have a2:=key j c hj;unfold tnU at ti tj
  split at ti <;> split at tj <;> cases ti <;> cases tj <;> first | omega | rfl | exact (a1 rfl).elim | exact (a2 rfl).elim
end
end Go.E
namespace Go.Sp
open Go.E Go.Proofs.YtbcmhlhgljoolaaGreatDoor
def sg (g:Nat→Int):Nat→Int
 | 0=>0
 | n+1=>sg g n+g n
def q4K {g h:Nat→Int}:∀ n,(∀ i,i < n→g i=h i)→sg g n=sg h n
 | 0,_=>rfl
 | n+1,e=>by rw [sg,sg,q4K n fun i hi=>e i (by omega),e n (by omega)]
def qah {g h:Nat→Int}:∀ n,sg (fun i=>g i+h i) n=sg g n+sg h n
 | 0=>rfl
 | n+1=>by rw [sg,sg,sg,qah n]; omega
def qdl {g:Nat→Int}:∀ n,(∀ i,i < n→g i=0)→sg g n=0
 | 0,_=>rfl
 | n+1,e=>by rw [sg,qdl n fun i hi=>e i (by omega),e n (by omega)]; rfl
def qdm {g:Nat→Int} {r:Nat}:∀ n,sg (fun i=>if r=i then g i else 0) n=if r < n then g r else 0
 | 0=>by rw [if_neg (by omega)]; rfl
 | n+1=>by
  rw [sg,qdm n]
  by_cases h:r=n
  ·subst h; rw [if_neg (by omega),if_pos rfl,if_pos (by omega)]; omega
  ·rw [if_neg h]
   by_cases h2:r < n
   ·rw [if_pos h2,if_pos (by omega)]; omega
   ·rw [if_neg h2,if_neg (by omega)]; rfl
def qkh {x y:List Nat}:∀ i,q1I (prL x y i)=sg (fun k=>q1e (x.getD k 0) (y.getD k 0)) i
 | 0=>rfl
 | i+1=>by rw [qsO,q1T,qkh i,sg]
def qea {y:Nat}:q1e 0 y=0:=by
 unfold q1e;rw [show ofZ 0=0 from q0t (by unfold ofF; rw [if_neg (by decide),if_pos (by decide),show sgn (decide (9223372036854775808≤0)) (0 % 4503599627370496)=0 from rfl,Int.zero_mul]),Int.zero_mul,q2R]
 rfl
section
variable {f:Nat→Nat→Option Nat} {x:List Nat} {n J r:Nat} {rows:Nat→List Int}
def qkZ (f:Nat→Nat→Option Nat) (n r:Nat):List Nat:=(List.range n).map fun j=>(f (min r j) (max r j)).getD 0
def q4f (f:Nat→Nat→Option Nat) (x:List Nat) (n i:Nat):List Nat:=(List.range i).map fun r=>fR 0 (q40 (qkZ f n r) x)
def ce (x:List Nat) (J:Nat) (e:Nat × Nat) (r:Nat):Int:=if J≤e.1 then (if r=e.1 then q1e e.2 (x.getD J 0) else 0)+(if r=J∧J < e.1 then q1e e.2 (x.getD e.1 0) else 0) else 0
def q2j (rows:Nat→List Int) (k:Nat) (z:Int):Nat→List Int:=fun j=>if j=k then rows k ++ [z] else rows j
def apZ (x:List Nat) (J:Nat) (e:Nat × Nat) (rows:Nat→List Int):Nat→List Int :=
 if J≤e.1 then (if J < e.1 then q2j (q2j rows e.1 (q1e e.2 (x.getD J 0))) J (q1e e.2 (x.getD e.1 0)) else q2j rows e.1 (q1e e.2 (x.getD J 0))) else rows
def q5i {k:Nat} {z:Int}:q1I (q2j rows k z r)=q1I (rows r)+if r=k then z else 0:=by
 unfold q2j
 by_cases h:r=k
 ·subst h; rw [if_pos rfl,if_pos rfl,q1T]
 ·rw [if_neg h,if_neg h]; omega
def qpd {e:Nat × Nat}:q1I (apZ x J e rows r)=q1I (rows r)+ce x J e r:=by
 unfold apZ ce
 by_cases h:J≤e.1
 ·rw [if_pos h,if_pos h]
  by_cases h2:J < e.1
  ·rw [if_pos h2,q5i,q5i]
   by_cases h3:r=J
   ·rw [if_pos h3,if_pos (And.intro h3 h2:r=J∧J < e.1)]; omega
   ·rw [if_neg h3,if_neg (show ¬ (r=J∧J < e.1) from fun q=>h3 q.1)]; omega
  ·rw [if_neg h2,q5i,if_neg (show ¬ (r=J∧J < e.1) from fun q=>h2 q.2)]; omega
 ·rw [if_neg h,if_neg h]; omega
structure RI (x:List Nat) (n:Nat) (rows:Nat→List Int) (S:Nat→Int) (m:Nat):Prop where
 s:∀ r,r < n→q1I (rows r)=S r
 l:∀ r,(rows r).length≤m
 b:∀ r,∀ z ∈ rows r,bl z.natAbs≤67600
def qaU {k m:Nat} {z:Int} (hl:∀ r,(rows r).length≤m) (hb:∀ r,∀ z ∈ rows r,bl z.natAbs≤67600) (hz:bl z.natAbs≤67600):(∀ r,(q2j rows k z r).length≤m+1)∧∀ r,∀ y ∈ q2j rows k z r,bl y.natAbs≤67600:=by
 unfold q2j;refine ⟨fun r=>?_,fun r y hy=>?_⟩
 ·have h1:=hl r; have h2:=hl k
  split
  ·simp; omega
  ·omega
 ·split at hy
  ·rcases List.mem_append.1 hy with hy | hy
   ·exact hb k y hy
   ·simp at hy; subst hy; exact hz
  ·exact hb r y hy
def RI.step {S:Nat→Int} {m:Nat} {e:Nat × Nat} (h:RI x n rows S m) (hx:q1f x) (he:q0Y e.2):RI x n (apZ x J e rows) (fun r=>S r+ce x J e r) (m+2):=by
 have h1:=(q0u he (q2c (i:=J) hx).2).2;have h2:=(q0u he (q2c (i:=e.1) hx).2).2;have b1:=qaU (k:=e.1) h.l h.b h1;have b2:=qaU (k:=J) b1.1 b1.2 h2;refine ⟨fun r hr=>by rw [qpd,h.s r hr],fun r=>?_,fun r z hz=>?_⟩
 ·unfold apZ;have:=b1.1 r;have:=b2.1 r;have:=h.l r
  split
  ·split <;> omega
  ·omega
 ·unfold apZ at hz
  split at hz
  ·split at hz
   ·exact b2.2 r z hz
   ·exact b1.2 r z hz
  ·exact h.b r z hz
def qaD:∀ i,q1I ((tZ f J i).map fun e=>ce x J e r)=sg (fun i=>ce x J (i,(f J i).getD 0) r) i
 | 0=>rfl
 | i+1=>by
  rw [qrI,List.map_append,sg];cases h:f J i with
  | none =>
   rw [List.map_nil,List.append_nil,qaD i];have:ce x J (i,(none:Option Nat).getD 0) r=0:=by
    unfold ce;simp only [Option.getD_none,qea]
    split
    ·split <;> split <;> rfl
    ·rfl
   omega
  | some v=>rw [List.map_singleton,q1T,qaD i]; rfl
def qpo (hr:r < n) (hx:x.length=n):sg (fun J=>sg (fun i=>ce x J (i,(f J i).getD 0) r) n) n=q40 (qkZ f n r) x:=by
 have h1:∀ J,J < n→sg (fun i=>ce x J (i,(f J i).getD 0) r) n=(if J≤r then q1e ((f J r).getD 0) (x.getD J 0) else 0)+if r=J then sg (fun i=>if r < i then q1e ((f r i).getD 0) (x.getD i 0) else 0) n else 0:=fun J hJ=>by
  have e1:sg (fun i=>ce x J (i,(f J i).getD 0) r) n=sg (fun i=>(if r=i then (if J≤i then q1e ((f J i).getD 0) (x.getD J 0) else 0) else 0)+if r=J∧J < i then q1e ((f J i).getD 0) (x.getD i 0) else 0) n:=q4K n fun i _=>by
   unfold ce;dsimp only
   by_cases hJi:J≤i
   ·rw [if_pos hJi,if_pos hJi]
   ·rw [if_neg hJi,if_neg hJi,if_neg (by omega:¬ (r=J∧J < i))]; split <;> rfl
  rw [e1,qah,qdm,if_pos hr]
  congr 1
  by_cases hrJ:r=J
  ·subst hrJ;rw [if_pos rfl];exact q4K n fun i _=>by by_cases h:r < i <;> simp [h]
  ·rw [if_neg hrJ];exact qdl n fun i _=>if_neg fun q=>hrJ q.1
 rw [q4K n h1,qah];have h2:=qdm (r:=r) (g:=fun _=>sg (fun i=>if r < i then q1e ((f r i).getD 0) (x.getD i 0) else 0) n) n;rw [if_pos hr] at h2;rw [h2,← qah];unfold q40;rw [show (qkZ f n r).length=n by simp [qkZ],qkh];refine q4K n fun j hj=>?_;have e:(qkZ f n r).getD j 0=(f (min r j) (max r j)).getD 0:=by
  unfold qkZ;rw [List.getD_eq_getElem?_getD,List.getElem?_map,List.getElem?_range hj]; rfl
 rw [e]
 by_cases h:j≤r
 ·rw [if_pos h,if_neg (by omega),Nat.min_eq_right h,Nat.max_eq_left h]; omega
 ·rw [if_neg h,if_pos (by omega),Nat.min_eq_left (by omega),Nat.max_eq_right (by omega)]; omega
end
end Go.Sp
namespace Go.Proofs.YtbcmhlhgljoolaaGreatDoor
open Go Go.E Go.Sp
abbrev qrx (rows:Nat→List Int):Nat→List PV:=fun r=>(rows r).map fun V=>pV V
abbrev qrH (n:Nat) (rows:Nat→List Int):Hp:=q8A 125 74 (some 4) 5000 10000 n (qrx rows)
def q4M {rows:Nat→List Int} {k:Nat} {z:Int}:q4L (qrx rows) k (pV z)=qrx (q2j rows k z):=by
 funext j
 unfold q4L q2j qrx
 by_cases h:j=k <;> simp [h]
def idV {l:List Int} {p:Nat→Prop}:IdL p (l.map fun V=>pV V):=IdL.of fun x hx=>by
 obtain ⟨z,_,rfl⟩:=List.mem_map.1 hx;unfold IdP; trivial
def q3s {n:Nat} {rows:Nat→List Int} (hn:n≤1000):WfH (qrH n rows):=qma (fun _ _=>idV) Oq Oq Oq
section
variable {f:Nat→Nat→Option Nat} {x:List Nat} {n:Nat}
def qex (h:TOk f n n) (hx:q1f x) (hxl:x.length=n) (hn:n≤20):ACt 107 [pT n n f,pF x] (lnR (q4f f x n n)):=by
 have hml:=q1y (f:=f) (R:=n) n;have hg:=fun j hj=>q29 (f:=f) (R:=n) (C:=n) (j:=j) hj;have hix:=fun j k hj h1 h2=>q9T (f:=f) (R:=n) (C:=n) (j:=j) (k:=k) hj h1 h2;have hos:=fun j=>qhd (f:=f) (R:=n) (j:=j);obtain ⟨o,ho⟩:∃ o,o=tO f n:=⟨_,rfl⟩;have h4:=h.m;unfold pT;rw [← ho] at hg hix hos;generalize (tM f n n).1=st at *;generalize (tM f n n).2.1=ix at *;generalize (tM f n n).2.2=vl at *;obtain ⟨m1,m2,m3⟩:=hml;unfold q3G;refine ac0 Tryz.func107 Tryz.ntmps107 [.tmp 4,.tmp 5] ?_;refine wk1 hxl ?_;refine q5V (qh8 (o:=16) (N:=5000) (R:=10000) (n:=n) (T1:=125) (T2:=74) (K:=some 4) (fun _ h=>h) ?_ (by omega) (by omega) (by omega) (by omega) (xs:=[(1,pF x),(2,.pt 2 0 0),(6,.ow 5000 none 0 n),(18,iv n),(19,iv 0)]) (kv:=[]) (kb:=[(2,some ⟨52,some 5,[.ag [iv n,iv n,pI st,pI ix,pF vl]],false⟩)]) (by simp [nmW]) ?_) ?_
 ·try simp -implicitDefEqProofs (disch:=omega) only [go_sem,Nat.reduceEqDiff,Nat.reduceAdd,↓reduceIte]
 ·try refine Zz ?_
  exact if_pos rfl
 refine q0e (fun q:Nat × (Nat→List Int)=>q.1≤n∧RI x n q.2 (fun r=>sg (fun J=>sg (fun i=>ce x J (i,(f J i).getD 0) r) n) q.1) (q.1*(2*n))) [1,2,6,18] [2] Lk Lk (fun q=>[(19,iv q.1)]) (fun _=>[]) (fun q=>qrH n q.2) (fun q=>n-q.1) (0,fun _=>[]) ⟨Nat.zero_le _,fun _ _=>rfl,fun _=>Nat.zero_le _,fun _ z hz=>by cases hz⟩ ?_ ?_
 ·refine LeW [] rfl rfl ?_ ?_ (by simp [q21,q1s,win]) ?_
  ·exact Ow
  ·exact q3s Oq
  ·try refine Zz ?_
   rfl
 ·rintro ⟨J,rows⟩ ⟨hJ,hI⟩;simp only at hJ hI ⊢
  by_cases hlt:J < n
  ·have hlt':(J:Int) < n:=by omega
   have g1:=hg J Oq;have g2:=hg (J+1) Oq;have oJ:=hos J;have ww:IntKind.i64.wrap ((J:Int)+1)=((J+1:Nat):Int):=by rw [i64_in (by omega) (by omega)]; omega
   have hZ:=fun k v=>q4I (f:=f) (j:=J) (i:=n) (k:=k) (x:=v);obtain ⟨L,hL⟩:∃ L,L=tZ f J n:=⟨_,rfl⟩;have hLn:L.length≤n:=by rw [hL]; unfold tZ; exact Nat.le_trans (List.length_filterMap_le _ _) (by simp)
   have hcs:=fun r=>qaD (f:=f) (x:=x) (J:=J) (r:=r) n;have hixJ:=hix J;rw [← hL] at oJ hZ hcs hixJ;clear hL;obtain ⟨y1,hx1⟩:∃ v,x[J]?=some v:=⟨_,List.getElem?_eq_getElem Oq⟩;obtain ⟨u1,u2⟩:=hx y1 (List.mem_of_getElem? hx1);refine wk1 (x2 hlt' g1) ?_;refine q0e (fun q:Nat × (Nat→List Int)=>q.1≤L.length∧RI x n q.2 (fun r=>sg (fun J=>sg (fun i=>ce x J (i,(f J i).getD 0) r) n) J+q1I ((L.take q.1).map fun e=>ce x J e r)) (J*(2*n)+2*q.1)) [1,2,6,7,18,19] [2] Lk Lk (fun q=>[(8,iv ((o J+q.1:Nat):Int))]) (fun _=>[]) (fun q=>qrH n q.2) (fun q=>L.length-q.1) (0,rows) ⟨Nat.zero_le _,by simpa [qa9] using hI⟩ ?_ ?_
   ·refine LeW [] rfl rfl ?_ ?_ (by simp [q21,q1s,win]) ?_
    ·exact Ow
    ·exact q3s Oq
    ·try simp -implicitDefEqProofs (disch:=omega) only [go_sem,Nat.reduceEqDiff,Nat.reduceAdd,↓reduceIte]
   ·rintro ⟨t,rows⟩ ⟨ht,hI⟩;simp only at ht hI ⊢
    by_cases hlt2:t < L.length
    ·obtain ⟨⟨i,v⟩,e1,e2,e3⟩:=hixJ (o J+t) Oq Oq Oq;rw [Nat.add_sub_cancel_left] at e1;dsimp only at e2 e3;obtain ⟨hin,hfv⟩:=(hZ i v).1 (List.mem_of_getElem? e1);have hv1:=h.u J i v hlt hin hfv;have hv2:=h.v J i v hlt hin hfv;have hq:((o J+t:Nat):Int) < ((o (J+1):Nat):Int):=by omega
     have C1:=q3U hv1 (q0g hv2);have C2:=q3U u1 (q0g u2);obtain ⟨y2,hx2⟩:∃ v,x[i]?=some v:=⟨_,List.getElem?_eq_getElem Oq⟩;obtain ⟨w1,w2⟩:=hx y2 (List.mem_of_getElem? hx2);have C3:=q3U w1 (q0g w2);have M1:=q0u hv2 u2;have M2:=q0u hv2 w2;have C4:=qnP (q5j (q3g hv2) (q3g u2) M1.1) (q5C M1.1).2.2.2;have C5:=qnP (q5j (q3g hv2) (q3g w2) M2.1) (q5C M2.1).2.2.2;have hI2:=hI.step (J:=J) (e:=(i,v)) hx hv2;have hI3:RI x n (apZ x J (i,v) rows) (fun r=>sg (fun J=>sg (fun i=>ce x J (i,(f J i).getD 0) r) n) J+q1I ((L.take (t+1)).map fun e=>ce x J e r)) (J*(2*n)+2*(t+1)) :=
      ⟨fun r hr=>by rw [hI2.s r hr,q4F e1,List.map_append,List.map_singleton,q1T]; omega,fun r=>by have:=hI2.l r; omega,hI2.b⟩
     have hJn:J*(2*n)≤20*40:=Nat.mul_le_mul Oq Oq;have hrl:=hI.l;clear hI hI2;have hr1:(List.range n)[i]?=some i:=List.getElem?_range hin;have hr2:(List.range n)[J]?=some J:=List.getElem?_range hlt;have hob:=(List.getElem?_eq_some_iff.1 e2).1;have wt:IntKind.i64.wrap (((o J+t:Nat):Int)+1)=((o J+(t+1):Nat):Int):=by rw [i64_in (by omega) (by omega)]; omega
     by_cases hlt3:i < J
     ·have q3:(i:Int) < J:=by omega
      refine wk1 (x6 g1 g2 ww hq e2 (x3 e3 q3 wt)) ?_;refine ⟨(t+1,rows),⟨hlt2,by rwa [show apZ x J (i,v) rows=rows from if_neg (by dsimp only; omega)] at hI3⟩,by simp only; omega,?_⟩;refine LeW [] rfl rfl ?_ ?_ (by simp [q21,q1s,win]) ?_
      ·exact Ow
      ·exact q3s Oq
      ·try simp -implicitDefEqProofs (disch:=omega) only [go_sem,Nat.reduceEqDiff,Nat.reduceAdd,↓reduceIte]
     ·have q3:¬ (i:Int) < J:=by omega
      have hli:(rows i).length≤2000:=by have:=hrl i; omega
      refine wk1 (x6 g1 g2 ww hq e2 (x4 e3 q3 hr1 hx1)) ?_;refine q5V (q8J (r:=65) (k:=i) (x:=pV (q1e v y1)) (T1:=125) (T2:=74) (K:=some 4) (N:=5000) (R:=10000) (n:=n) (row:=qrx rows) (fun _ h=>h) hin (fun j=>by rw [q4M]; exact clV) ?_ ?_ (fun j hj hne=>?_) (by omega) (by omega) (by omega) (by omega) (xs:=[(1,pF x),(2,.pt 2 0 0),(6,.ow 5000 none 0 n),(7,iv J),(8,iv ((o J+t:Nat):Int)),(9,iv i),(10,.pt 10 0 0),(18,iv n),(19,iv J),(69,bv (decide ((i:Int) > J)))]) (kv:=[]) (kb:=[(2,some ⟨52,some 5,[.ag [iv n,iv n,pI st,pI ix,pF vl]],false⟩),(10,some ⟨74,some 4,[dT (ofZ v)],false⟩)]) (by simp [nmW]) ?_) ?_
      ·try simp -implicitDefEqProofs (disch:=omega) only [go_sem,Nat.reduceEqDiff,Nat.reduceAdd,↓reduceIte]
      ·try simp -implicitDefEqProofs (disch:=omega) only [go_sem,Nat.reduceEqDiff,Nat.reduceAdd,↓reduceIte]
      ·try refine Zz ?_
       exact if_neg hne
      ·try simp -implicitDefEqProofs (disch:=omega) only [go_sem,Nat.reduceEqDiff,Nat.reduceAdd,↓reduceIte]
      rw [q4M]
      by_cases hgt:i > J
      ·have q4:(i:Int) > J:=by omega
       have hli2:(q2j rows i (q1e v y1) J).length≤2000:=by unfold q2j; rw [if_neg (by omega)]; have:=hrl J; omega
       refine wk1 (x4 q4 hr2 hx2 wt) ?_;refine ⟨(t+1,q2j (q2j rows i (q1e v y1)) J (q1e v y2)),⟨hlt2,by rwa [show apZ x J (i,v) rows=q2j (q2j rows i (q1e v y1)) J (q1e v y2) by unfold apZ; dsimp only; rw [if_pos (by omega),if_pos hgt,getD_some hx1,getD_some hx2]] at hI3⟩,by simp only; omega,?_⟩;have er:=q4M (rows:=q2j rows i (q1e v y1)) (k:=J) (z:=q1e v y2);simp only;unfold qrH;rw [← er];refine q8J (r:=84) (fun _ h=>h) hlt (fun j=>by rw [q4M]; exact clV) ?_ ?_ (fun j hj hne=>?_) (by omega) (by omega) (by omega) (by omega) (by simp [nmW]) ?_
       ·try simp -implicitDefEqProofs (disch:=omega) only [go_sem,Nat.reduceEqDiff,Nat.reduceAdd,↓reduceIte]
       ·try simp -implicitDefEqProofs (disch:=omega) only [go_sem,Nat.reduceEqDiff,Nat.reduceAdd,↓reduceIte]
       ·try refine Zz ?_
        exact if_neg hne
       ·try simp -implicitDefEqProofs (disch:=omega) only [go_sem,Nat.reduceEqDiff,Nat.reduceAdd,↓reduceIte]
      ·have q4:¬ (i:Int) > J:=by omega
       refine wk1 (x2 q4 wt) ?_;refine ⟨(t+1,q2j rows i (q1e v y1)),⟨hlt2,by rwa [show apZ x J (i,v) rows=q2j rows i (q1e v y1) by unfold apZ; dsimp only; rw [if_pos (by omega),if_neg hgt,getD_some hx1]] at hI3⟩,by simp only; omega,?_⟩;refine LeW [] rfl rfl ?_ ?_ (by simp [q21,q1s,win]) ?_
       ·exact Ow
       ·exact q3s Oq
       ·try simp -implicitDefEqProofs (disch:=omega) only [go_sem,Nat.reduceEqDiff,Nat.reduceAdd,↓reduceIte]
    ·obtain rfl:t=L.length:=by omega
     have hq:¬ ((o J+L.length:Nat):Int) < ((o (J+1):Nat):Int):=by omega
     rw [List.take_length] at hI;refine wk1 (x3 g2 ww hq) ?_;refine ⟨(J+1,rows),⟨hlt,fun r hr=>by rw [hI.s r hr,hcs r]; rfl,fun r=>by have:=hI.l r; simp only; rw [Nat.succ_mul]; omega,hI.b⟩,by simp only; omega,?_⟩;refine LeW [] rfl rfl ?_ ?_ (by simp [q21,q1s,win]) ?_
     ·exact Ow
     ·exact q3s Oq
     ·try simp -implicitDefEqProofs (disch:=omega) only [go_sem,Nat.reduceEqDiff,Nat.reduceAdd,↓reduceIte]
  ·obtain rfl:J=n:=by omega
   have hlt':¬ (J:Int) < J:=by omega
   have hJn:J*(2*J)≤20*40:=Nat.mul_le_mul Oq Oq;have hsum:∀ r,r < J→q1I (rows r)=q40 (qkZ f J r) x:=fun r hr=>(hI.s r hr).trans (qpo hr hxl);have hrl:=hI.l;have hdy:=fun r=>qa8 (hI.b r) (by have:=hrl r; omega);have hb:=hI.b;have hal:=fun i=>show (q4f f x J i).length=i by simp [q4f]
   have has:=fun i=>show q4f f x J (i+1)=q4f f x J i ++ [fR 0 (q40 (qkZ f J i) x)] by unfold q4f; rw [List.range_succ,List.map_append]; rfl
   have ha0:q4f f x J 0=[]:=rfl;have hfu:∀ z ∈ q4f f x J J,z < 18446744073709551616:=fun z hz=>by
    obtain ⟨k,_,rfl⟩:=List.mem_map.1 hz;exact qfh
   have C7:=q4r hfu (by rw [hal]; omega);unfold lnR;have N1:Nz (bv (decide (∀ z ∈ q4f f x J J,q0Y z))):=qs7;generalize decide (∀ z ∈ q4f f x J J,q0Y z)=bb at *;generalize q4f f x J=A at *;clear hI hg hix;refine wk1 hlt' ?_;refine q0e (fun r=>r≤J) [87,88] [] Lk Lk (fun r:Nat=>[(89,iv r),(11,.ow 1001 none 0 r)]) (fun r=>[(1001,⟨30,none,(A r).map fun z:Nat=>uv z,false⟩)]) (fun _=>qrH J rows) (fun r=>J-r) 0 (Nat.zero_le _) ?_ ?_
   ·refine LeW [(1001,none)] rfl rfl ?_ ?_ (by simp [q21,q1s,win]) ?_
    ·exact Ow
    ·exact q3s Oq
    ·try refine Zz ?_
     rw [ha0];exact ⟨rfl,rfl⟩
   ·intro r hr
    by_cases hlt2:r < J
    ·have q2:(r:Int) < J:=by omega
     have hr1:(List.range J)[r]?=some r:=List.getElem?_range hlt2;have hd:=hdy r;have C1:=q9H (l:=rows r) (by have:=hrl r; omega) (fun z hz=>by have:=hb r z hz; unfold q0k; omega) hd;have C2:=q8i hd;have N2:=qs8 hd;rw [hsum r hlt2] at C1 C2 N2;have es:=has r;have hll:=hal r;have hli:=hrl r;refine wk1 (x3 q2 hr1 hll) ?_;refine ⟨r+1,by omega,by omega,?_⟩;rw [es];refine LeW [(1001,some 98)] rfl rfl ?_ ?_ (by simp [q21,q1s,win]) ?_
     ·exact Ow
     ·exact q3s Oq
     ·try refine Zz ?_
      omega
    ·obtain rfl:r=J:=by omega
     exact wk1 (x2 hlt' (hal r)) trivial
end
structure PtrOk (n:Nat) (cp:List Int) (m:Nat):Prop where
 c0:cp[0]?=some 0
 cn:cp[n]?=some (m:Int)
 mono:∀ i,i < n→∀ x y,cp[i]?=some x→cp[i+1]?=some y→x≤y
def PtrOk.le {n m:Nat} {cp:List Int} (h:PtrOk n cp m) (hl:cp.length=n+1):∀ d j,j+d=n→∀ x,cp[j]?=some x→x≤m
 | 0,j,hj,x,hx=>by
  obtain rfl:j=n:=by omega
  have:=Option.some.inj (hx.symm.trans h.cn); omega
 | d+1,j,hj,x,hx=>by
  obtain ⟨y,hy⟩:∃ y,cp[j+1]?=some y:=⟨_,List.getElem?_eq_getElem Oq⟩;have h1:=h.mono j Oq _ _ hx hy;have h2:=h.le hl d (j+1) Oq y hy;omega
def CoC.lt {n j:Nat} {col:List Int} (h:CoC n j col):∀ d p,p+d+1=col.length→∀ z,col[p]?=some z→z < n
 | 0,p,hp,z,hz=>h.l z (by rw [show col.length-1=p by omega]; exact hz)
 | d+1,p,hp,z,hz=>by
  obtain ⟨y,hy⟩:∃ y,col[p+1]?=some y:=⟨_,List.getElem?_eq_getElem Oq⟩;have h1:=h.m p z y hz hy;have h2:=h.lt d (p+1) Oq y hy;omega
def q5l {f:Fac} {i:Int}:∀ (k a:Nat),(∀ p,a≤p→p < a+k→f.ri[p]?≠some i)→q3K f i a k=0
 | 0,_,_=>rfl
 | k+1,a,h=>by
  unfold q3K;rw [if_neg (h a (Nat.le_refl _) Oq)];exact q5l k (a+1) fun p h1 h2=>h p Oq Oq
def qdJ {f:Fac} {i:Int} (h:q1f f.vs):∀ (k a:Nat),q3K f i a k < 18446744073709551616∧q0Y (q3K f i a k)
 | 0,_=>⟨by simp [q3K],by unfold q3K q0Y; simp⟩
 | k+1,a=>by
  unfold q3K
  split
  ·exact qfM h
  ·exact qdJ h k (a+1)
def q6C {q:Nat}:q1e 0 q=0:=by
 unfold q1e;rw [q0t qaq,Int.zero_mul,q2R]
 rfl
def q8M {f:Fac} {j a b q:Nat} (h:Col f j a b) (hn:f.pm.length≤200) (hrv:f.ri.length=f.vs.length) :
  ∀ (c p:Nat) (rows:List (List Int)),a < p→p+c=b→f.pm.length≤rows.length→∀ (i:Nat) (r:List Int),rows[i]?=some r→∃ r',(qd6 f q p c rows)[i]?=some r'∧q1I r'=q1I r-q1e (q3K f i p c) q
 | 0,p,rows,_,_,_,i,r,hr=>⟨r,hr,by simp [q3K,q6C]⟩
 | c+1,p,rows,ha,hp,hl,i,r,hr=>by
  obtain ⟨i0,h1,h2,h3⟩:=h.row hn ha Oq;have hle:=h.le;obtain ⟨x,hv⟩:∃ x,f.vs[p]?=some x:=⟨_,List.getElem?_eq_getElem Oq⟩;obtain ⟨r0,hr0⟩:∃ r0,rows[i0]?=some r0:=⟨_,List.getElem?_eq_getElem Oq⟩;rw [q8N h1 hv hr0];have ih:=q8M (q:=q) h hn hrv c (p+1) (rows.set i0 (r0 ++ [-(q1e x q)])) Oq Oq (by simpa using hl) i
  by_cases hi:i=i0
  ·subst hi;obtain rfl:r=r0:=Option.some.inj (hr.symm.trans hr0);obtain ⟨r',h4,h5⟩:=ih _ (List.getElem?_set_self Oq);refine ⟨r',h4,?_⟩;have hnone:q3K f i (p+1) c=0:=q5l c (p+1) fun p' q1 q2 hc=>by
    have:=h.mono (p'-p) p i i Oq Oq h1 (by rw [show p+(p'-p)=p' by omega]; exact hc);rw [if_neg (by omega)] at this;omega
   have hsome:q3K f i p (c+1)=x:=by unfold q3K; rw [if_pos h1]; exact getD_some hv
   rw [h5,hnone,hsome,q1T,q6C];omega
  ·obtain ⟨r',h4,h5⟩:=ih r (by rw [List.getElem?_set_ne (fun e=>hi e.symm)]; exact hr);refine ⟨r',h4,?_⟩;have hne:q3K f i p (c+1)=q3K f i (p+1) c:=by
    rw [q3K,if_neg (by rw [h1]; intro e; have:=Option.some.inj e; omega)]
   rw [h5,hne]
def elF (f:Fac) (i j:Nat):Nat:=q3K f i (f.cp.getD j 0).toNat ((f.cp.getD (j+1) 0).toNat-(f.cp.getD j 0).toNat)
def q6p {f:Fac} {i j a b:Nat} (h:Col f j a b):elF f i j=q3K f i a (b-a):=by
 unfold elF;rw [getD_some h.ha,getD_some h.hb]; rfl
def qhF (f:Fac) (b ys:List Nat) (k:Nat):Nat→List Int
 | 0=>[ofZ (b.getD k 0)]
 | m+1=>qhF f b ys k m ++ [-(q1e (elF f k m) (ys.getD m 0))]
def q6l {f:Fac} {b ys zs:List Nat} {k:Nat}:∀ m,(∀ i,i < m→ys.getD i 0=zs.getD i 0)→qhF f b ys k m=qhF f b zs k m
 | 0,_=>rfl
 | m+1,h=>by unfold qhF; rw [q6l m fun i hi=>h i Oq,h m (by omega)]
open Classical in
noncomputable def q9Z (e:Int) (n:Nat) (l:List Nat):Int:=if e≠0 then e else if l.length≠n then 2 else if ¬ ∀ x ∈ l,q0Y x then 4 else 0
def qk8 (B:Int) (l x:List Nat):Nat→List Int
 | 0=>[B]
 | m+1=>qk8 B l x m ++ [-(q1e (l.getD m 0) (x.getD m 0))]
def clU {l:List Nat}:ClL (l.map fun z:Nat=>uv z):=fun x hx=>by
 obtain ⟨q,_,rfl⟩:=List.mem_map.1 hx
 trivial
def qry {n c v:Nat} {f:Nat→Nat}:(((List.range n).map f).set c v)=(List.range n).map fun y=>if y=c then v else f y:=by
 apply List.ext_getElem?
 intro i;rw [List.getElem?_set];simp only [List.length_map,List.length_range,List.getElem?_map]
 by_cases hi:i < n
 ·rw [List.getElem?_range hi]
  by_cases hc:c=i
  ·subst hc; simp [hi]
  ·simp [hc,Ne.symm hc]
 ·rw [List.getElem?_eq_none (by simpa using hi)]
  by_cases hc:c=i <;> simp [hc]
  omega
def rwG (n:Nat) (g:Nat→Nat) (m:Nat):List Nat:=(List.range n).map fun j=>if j < m then g j else 0
def q5t {n m:Nat} {g:Nat→Nat}:(rwG n g m).length=n:=by simp [rwG]
def rwG_s {n m:Nat} {g:Nat→Nat}:(rwG n g m).set m (g m)=rwG n g (m+1):=by
 unfold rwG;rw [qry];refine List.map_congr_left fun y _=>?_
 by_cases h:y=m
 ·subst h; rw [if_pos rfl,if_pos (by omega)]
 ·rw [if_neg h]
  by_cases h2:y < m
  ·rw [if_pos h2,if_pos (by omega)]
  ·rw [if_neg h2,if_neg (by omega)]
def rwG_0 {n:Nat} {g:Nat→Nat}:List.replicate n 0=rwG n g 0:=by
 unfold rwG;simp [List.map_const']
def q63 (f:Fac) (n k:Nat):List (List Nat):=(List.range k).map fun i=>rwG n (elF f i) (i+1)
def trS (L:List (List Nat)) (n k:Nat):List (List Nat):=(List.range k).map fun i=>rwG n (fun j=>(L.getD j []).getD i 0) n
def qj9 {f:Fac} {n k:Nat}:(q63 f n k).length=k:=by simp [q63]
def qm2 {L:List (List Nat)} {n k:Nat}:(trS L n k).length=k:=by simp [trS]
noncomputable def loV (L:List (List Nat)) (b ys:List Nat) (k:Nat):Nat:=fQ 0 (q1I (qk8 (ofZ (b.getD k 0)) ((L.getD k []).take k) (ys.take k) k)) (ofZ ((L.getD k []).getD k 0))
noncomputable def loF (L:List (List Nat)) (b:List Nat):Nat→Nat→List Nat→Option (List Nat)
 | 0,_,ys=>some ys
 | m+1,k,ys=>if q0Y (loV L b ys k) then loF L b m (k+1) (ys.set k (loV L b ys k)) else none
noncomputable def upV (U:List (List Nat)) (b ys:List Nat) (n k:Nat):Nat:=fQ 0 (q1I (qk8 (ofZ (b.getD k 0)) ((U.getD k []).drop (k+1)) (ys.drop (k+1)) (n-(k+1)))) (ofZ ((U.getD k []).getD k 0))
noncomputable def upF (U:List (List Nat)) (b:List Nat) (n:Nat):Nat→List Nat→Option (List Nat)
 | 0,ys=>some ys
 | k+1,ys=>if q0Y (upV U b ys n k) then upF U b n k (ys.set k (upV U b ys n k)) else none
def q5e {l:List Nat} {k v:Nat} (h:q1f l) (h1:v < 18446744073709551616) (h2:q0Y v):q1f (l.set k v):=fun x hx=>by
 rcases List.mem_or_eq_of_mem_set hx with h3 | rfl
 ·exact h x h3
 ·exact ⟨h1,h2⟩
def q4X {n:Nat}:q1f (List.replicate n 0):=fun x hx=>by
 rw [List.eq_of_mem_replicate hx];exact ⟨by omega,by unfold q0Y; simp⟩
structure SqM (L:List (List Nat)) (n:Nat):Prop where
 len:L.length=n
 row:∀ r ∈ L,r.length=n∧q1f r
 dg:∀ k,k < n→ofZ ((L.getD k []).getD k 0)≠0
def q4i {n m i:Nat} {g:Nat→Nat} (hi:i < n):(rwG n g m)[i]?=some (if i < m then g i else 0):=by
 unfold rwG;rw [List.getElem?_map,List.getElem?_range hi]; rfl
def q7g {f:Fac} {n k:Nat} (hk:k < n):(q63 f n n)[k]?=some (rwG n (elF f k) (k+1)):=by
 unfold q63;rw [List.getElem?_map,List.getElem?_range hk]; rfl
def q8I {α:Type} {l:List α} {k i:Nat} {d:α} (hi:i < k):(l.take k).getD i d=l.getD i d:=by
 rw [List.getD_eq_getElem?_getD,List.getD_eq_getElem?_getD,List.getElem?_take,if_pos hi]
def qdz {f:Fac} {b ys:List Nat} {n k:Nat} (hk:k < n):∀ m,m≤k→qk8 (ofZ (b.getD k 0)) ((rwG n (elF f k) (k+1)).take k) (ys.take k) m=qhF f b ys k m
 | 0,_=>rfl
 | m+1,hm=>by
  rw [qk8,qhF,qdz hk m (by omega),q8I (by omega),q8I (by omega),getD_some (q4i (by omega)),if_pos (by omega)]
def qni {f:Fac} {b ys:List Nat} {n k:Nat} (hk:k < n):loV (q63 f n n) b ys k=fQ 0 (q1I (qhF f b ys k k)) (ofZ (elF f k k)):=by
 unfold loV;rw [getD_some (q7g hk),qdz hk k (Nat.le_refl _),getD_some (q4i hk),if_pos (by omega)]
def qfO {f:Fac} {b:List Nat} (ho:FacOk f):∀ (m k:Nat) (rows:List (List Int)) (ys:List Nat),k+m=f.pm.length→rows.length=f.pm.length→ys.length=f.pm.length →
  (∀ i,k≤i→i < f.pm.length→∃ r,rows[i]?=some r∧q1I r=q1I (qhF f b ys i k))→qhG f ((List.range' k m).map fun i:Nat=>(i:Int)) rows ys=loF (q63 f f.pm.length f.pm.length) b m k ys
 | 0,k,rows,ys,_,_,_,_=>by
  simp only [List.range'_zero,List.map_nil]
  rfl
 | m+1,k,rows,ys,hk,hr,hy,h=>by
  obtain ⟨a,e,hcol⟩:=ho.col k Oq;have hlt:=hcol.lt;have hle:=hcol.le;obtain ⟨r,hr0,hsum⟩:=h k (Nat.le_refl _) Oq;obtain ⟨x,V,d1,d2,d3⟩:=hcol.diag;have hel:elF f k k=x:=by
   rw [q6p hcol,show e-a=(e-(a+1))+1 by omega,q3K,if_pos hcol.first];exact getD_some d1
  rw [List.range'_succ,List.map_cons,q8d hcol.ha hcol.hb d1 hr0,loF,qni (by omega),hel,← hsum];obtain ⟨y,hyv⟩:∃ y,y=fQ 0 (q1I r) (ofZ x):=⟨_,rfl⟩;rw [← hyv]
  by_cases hfin:q0Y y
  case neg=>rw [if_neg hfin,if_neg hfin]
  rw [if_pos hfin,if_pos hfin];have hset:∀ i,i < k→ys.getD i 0=(ys.set k y).getD i 0:=fun i hi=>by
   rw [List.getD_eq_getElem?_getD,List.getD_eq_getElem?_getD,List.getElem?_set_ne (by omega)]
  have hsk:(ys.set k y).getD k 0=y:=getD_some (List.getElem?_set_self Oq);refine qfO ho m (k+1) _ _ (by omega) (by rw [qab]; exact hr) (by simpa using hy) ?_;intro i hi1 hi2;obtain ⟨ri,h1,h2⟩:=h i Oq hi2;obtain ⟨r',h3,h4⟩:=q8M (q:=y) hcol ho.n ho.ril (e-(a+1)) (a+1) rows Oq Oq Oq i ri h1;refine ⟨r',h3,?_⟩;have hel2:elF f i k=q3K f i (a+1) (e-(a+1)):=by
   rw [q6p hcol,show e-a=(e-(a+1))+1 by omega,q3K,if_neg (by rw [hcol.first]; intro e; have:=Option.some.inj e; omega)]
  rw [h4,h2,qhF,q1T,hsk,hel2,← q6l k hset];omega
def qtI {f:Fac} {b:List Nat} (ho:FacOk f) (hb:b.length=f.pm.length):qhG f (qbz b.length) (b.map fun x=>[ofZ x]) (List.replicate b.length 0)=loF (q63 f f.pm.length f.pm.length) b f.pm.length 0 (List.replicate f.pm.length 0):=by
 rw [hb,← qfO (b:=b) ho f.pm.length 0 (b.map fun x=>[ofZ x]) (List.replicate f.pm.length 0) (by omega) (by simpa using hb) (by simp) ?_]
 ·unfold qbz; rw [List.range_eq_range']
 intro i _ hi;obtain ⟨x,hx⟩:∃ x,b[i]?=some x:=⟨_,List.getElem?_eq_getElem Oq⟩;refine ⟨[ofZ x],by rw [List.getElem?_map,hx]; rfl,?_⟩;rw [qhF,getD_some hx]
def qgF {f:Fac} (ho:FacOk f):SqM (q63 f f.pm.length f.pm.length) f.pm.length:=⟨qj9,fun r hr=>by
 obtain ⟨i,hi,rfl⟩:=List.mem_map.1 hr;refine ⟨q5t,fun x hx=>?_⟩;obtain ⟨j,hj,rfl⟩:=List.mem_map.1 hx
 split
 ·obtain ⟨a,b,hc⟩:=ho.col j (List.mem_range.1 hj);rw [q6p hc];exact qdJ ho.vals _ _
 ·exact ⟨by omega,by unfold q0Y; simp⟩,fun k hk=>by
 rw [getD_some (q7g hk),getD_some (q4i hk),if_pos (by omega)];obtain ⟨a,e,hcol⟩:=ho.col k hk;have hlt:=hcol.lt;obtain ⟨x,V,d1,d2,d3⟩:=hcol.diag;have hel:elF f k k=x:=by
  rw [q6p hcol,show e-a=(e-(a+1))+1 by omega,q3K,if_pos hcol.first];exact getD_some d1
 rw [hel,q0t d2];omega⟩
section
variable {x y:List Nat} {t:Nat}
end
section
variable {f:Nat→Nat→Option Nat} {x:List Nat} {R C:Nat}
end
open Classical in
def qcG {l:List Nat} (hu:∀ x ∈ l,x < 18446744073709551616) (hn:l.length≤1000000):ACt 46 [pF l] (iv (if ¬ ∀ x ∈ l,q0Y x then 4 else 0)):=by
 obtain ⟨res,hres⟩:∃ res:Int,res=if ¬ ∀ x ∈ l,q0Y x then 4 else 0:=⟨_,rfl⟩
 rw [← hres];refine ac0 Tryz.func46 Tryz.ntmps46 [.tmp 2] ?_;refine wk ?_;refine q0L (fun i=>i≤l.length∧∀ x ∈ l.take i,q0Y x) [0,5,6] [] Lk Lk (fun i:Nat=>[(7,iv i)]) (fun _=>[]) (fun i=>l.length-i) 0 ⟨Nat.zero_le _,by simp⟩ ?_ ?_
 ·refine LeM [] rfl rfl ?_;refine Zz ?_
  rfl
 ·rintro i ⟨hi,hf⟩
  by_cases hil:i < l.length
  ·obtain ⟨x,hx⟩:∃ x,l[i]?=some x:=⟨_,List.getElem?_eq_getElem hil⟩;have hmx:=List.mem_of_getElem? hx;have cF:=q4t (hu x hmx)
   by_cases hfx:q0Y x
   case neg =>
    rw [decide_eq_false hfx] at cF;refine wk1 hx ?_;exact (hres.trans (if_pos fun h=>hfx (h x hmx))).symm
   rw [decide_eq_true hfx] at cF;refine wk1 hx ?_;refine ⟨i+1,⟨by omega,?_⟩,by omega,?_⟩
   ·rw [q4F hx];intro y hy
    rcases List.mem_append.1 hy with hy | hy
    ·exact hf y hy
    ·simp at hy; subst hy; exact hfx
   ·refine LeM [] rfl rfl ?_;refine Zz ?_
    rfl
  ·obtain rfl:i=l.length:=by omega
   rw [List.take_length] at hf;refine wk ?_;exact (hres.trans (if_neg (not_not_intro hf))).symm
def qds {pm cp ri:List Int} {vs l:List Nat} (hp:pm.length≤1000000) (hc:cp.length≤1000000) (hr:ri.length≤1000000) (hv:vs.length≤1000000) (hu:∀ x ∈ vs,x < 18446744073709551616) (hul:∀ x ∈ l,x < 18446744073709551616) (hl:l.length≤1000000) :
  ACt 50 [q4O (pm,cp,ri,vs),pF l] (iv (q9Z (q8B (pm,cp,ri,vs)) pm.length l)):=by
 have cC:=qb5 hp hc hr hv hu;have cF:=qcG hul hl;have cV:ACt 56 [pF l,iv pm.length] (iv (q9Z 0 pm.length l)):=by
  unfold q9Z;rw [if_neg (not_not_intro rfl)];refine ac0 Tryz.func56 Tryz.ntmps56 [.tmp 4] ?_
  by_cases h:l.length=pm.length
  ·have q:((l.length:Int) != (pm.length:Int))=false:=by simp; omega
   rw [if_neg (not_not_intro h)];generalize (if ¬ ∀ x ∈ l,q0Y x then (4:Int) else 0)=z at *;exact wk1 q trivial
  ·have q:((l.length:Int) != (pm.length:Int))=true:=by simp; omega
   rw [if_pos h];exact wk1 q trivial
 generalize q8B (pm,cp,ri,vs)=e at *;unfold q4O at *;dsimp only at *
 by_cases h0:e=0
 ·subst h0;generalize q9Z 0 pm.length l=z at *;refine ac0 Tryz.func50 Tryz.ntmps50 [.tmp 4] ?_;have q:((0:Int) != 0)=false:=rfl;exact wk1 q trivial
 ·have q:(e != 0)=true:=by simpa using h0
  have hs:q9Z e pm.length l=e:=if_pos h0;rw [hs];refine ac0 Tryz.func50 Tryz.ntmps50 [.tmp 4] ?_;exact wk1 q trivial
def qrg {e:Int} {n:Nat} {l:List Nat} (h:q9Z e n l=0):e=0∧l.length=n∧∀ x ∈ l,q0Y x:=by
 unfold q9Z at h
 split at h
 ·exact absurd h (by assumption)
 ·split at h
  ·cases h
  ·split at h
   ·cases h
   ·rename_i h1 h2 h3;exact ⟨Decidable.not_not.1 h1,Decidable.not_not.1 h2,Classical.not_not.1 h3⟩
def q4q {l:List Nat} (hn:l.length≤1000000):ACt 23 [pF l,pF l] (bv true):=by
 have q:((l.length:Int) != (l.length:Int))=false:=by simp
 refine ac0 Tryz.func23 Tryz.ntmps23 [.tmp 4] ?_;refine wk1 q ?_;refine q0L (fun i=>i≤l.length) [0,1] [] Lk Lk (fun i:Nat=>[(5,iv i)]) (fun _=>[]) (fun i=>l.length-i) 0 (Nat.zero_le _) ?_ ?_
 ·refine LeM [] rfl rfl ?_;refine Zz ?_
  rfl
 ·intro i hi
  by_cases hil:i < l.length
  ·obtain ⟨x,hx⟩:∃ x,l[i]?=some x:=⟨_,List.getElem?_eq_getElem hil⟩;have q2:((x:Int) != (x:Int))=false:=by simp
   refine wk1 (x2 hx q2) ?_;refine ⟨i+1,by omega,by omega,?_⟩;refine LeM [] rfl rfl ?_;refine Zz ?_
   rfl
  ·exact wk trivial
end Go.Proofs.YtbcmhlhgljoolaaGreatDoor
namespace Go.E
open Go Go.RowKit
def LeO {J:Nat→Prop} {h:Hp} {a n:Nat} {T:TypeId} {xs:List PV} (hJ:∀ i,¬ J i) (hb:h a=some ⟨T,none,xs,false⟩) (hc:ClL xs):Le J (fun _=>.ow a none 0 n) h (fun _=>.ow 5000 none 0 n) (q07 h0 5000 ⟨T,none,xs,false⟩):=by
 refine q30 (fun i=>if i=5000 then some a else none) (fun i b' hb'=>?_) (fun i j k b c hi hj ti tj=>?_) (fun _=>.ow (if_pos rfl) q0V) fun i hi=>(hJ i hi).elim
 ·by_cases hi:i=5000
  ·subst hi;rw [q0V] at hb'; cases hb';unfold LeB;exact ⟨_,hb,rfl,rfl,⟨rfl,rfl⟩,q1A rfl hc⟩
  ·rw [q0M hi] at hb'; cases hb'
 ·split at ti
  ·split at tj
   ·rename_i e1 e2; rw [e1,e2]
   ·cases tj
  ·cases ti
end Go.E
namespace Go.Proofs.YtbcmhlhgljoolaaGreatDoor
open Go Go.E Go.Sp
def qby {raw:List Nat} {k st:Int} {n:Nat} (hr:raw.length≤9223372036854775807) (hn:n≤1000000) (h1 : -1000000≤k) (h2:k≤1000000) (h3 : -9223372036854775808≤st) (h4:st≤9223372036854775807) :
  qcz 31 [pF raw,iv k,iv n,iv st] h0 (.ow 5000 none 0 n) (q07 h0 5000 ⟨30,none,(q9M raw k (q19 st 4) n).map fun z:Nat=>uv z,false⟩):=by
 have hJ:∀ i,¬ (h0 i≠none):=fun i h=>h rfl;refine qhK quT Tryz.func31 rfl Tryz.ntmps31 (by kernel_rfl) ?_ ?_ ?_ ?_
 ·intro i b hb; cases hb
 ·intro i b hb
  by_cases hi:i=5000
  ·subst hi; exact ⟨by omega,by omega⟩
  ·rw [q0M hi] at hb; cases hb
 ·exact IdL.of fun x hx=>by
   simp at hx
   rcases hx with rfl | rfl | rfl | rfl <;> unfold IdP <;> trivial
 have hW:WfH h0:=⟨fun i b hb=>by cases hb⟩;refine wk ?_;refine q0e (fun i=>i≤n) [0,1,2,3] [] Lk Lk (fun i:Nat=>[(10,iv i),(9,.ow 11 none 0 i)]) (fun i=>[(11,⟨30,none,(q9M raw k (q19 st 4) i).map fun z:Nat=>uv z,false⟩)]) (fun _=>h0) (fun i=>n-i) 0 (Nat.zero_le _) ?_ ?_
 ·refine LeW [] rfl rfl ?_ ?_ (by simp [q21,q1s,win]) ?_
  ·exact Ow
  ·exact hW
  ·try refine Zz ?_
   exact ⟨rfl,rfl⟩
 ·intro i hi
  by_cases hlt:i < n
  ·have C1:=@q9J;have C2:=@qkq;have C3:=@q3p;refine wk1 @qaV ?_;refine ⟨i+1,by omega,by omega,?_⟩;refine LeW [(11,some 26)] rfl rfl ?_ ?_ (by simp [q21,q1s,win]) ?_
   ·exact Ow
   ·exact hW
   ·try refine Zz ?_
    exact ⟨by omega,by rw [qqj]⟩
  ·obtain rfl:i=n:=by omega
   refine wk ?_;refine (rtM (rs:=[.tmp 8]) rfl rfl Lq ?_ (.inl rfl));refine LeO hJ ?_ clU
   try simp -implicitDefEqProofs (disch:=omega) only [go_sem,Nat.reduceEqDiff,Nat.reduceAdd,↓reduceIte]
def qgL {D:Nat→Prop} {l:List Nat} {A:Option Addr} {n c:Nat} {w:World} (h:In (fSc q2h l) D (.slice A n c) w) (hb:n≤1000000000) (hf:Fr D w):Calls Tryz.prog 75 #[.slice A n c] w (Rt (fSc q2h l) D w):=by
 have hln:=h.sc_len;refine q0J Tryz.func75 rfl Tryz.ntmps75 (by kernel_rfl) ?_;refine Wz ?_;refine q0B fun K1 hK1=>?_;refine q0A fun K hK=>?_;refine Zz ?_;refine hK _ _ ?_; clear hK;cases A with
 | none =>
  have hl:l=[]:=by
   rcases Nat.eq_zero_or_pos l.length with h0 | h0
   ·exact List.eq_nil_of_length_eq_zero h0
   ·obtain ⟨ad,h1,_⟩:=h.sc_get (i:=0) h0; cases h1
  subst hl;refine Wt ?_;refine Wz ?_;refine q0O ?_
  try simp only [q0D,q0S]
  refine q1S rfl ⟨_,rfl,Kp.refl _ _,In.sc_nil⟩
 | some ad =>
  refine Wf (q0G (hK1 _ _ ?_));clear hK1;refine q0A fun K hK=>?_;refine Zz ?_;refine q3i fun w1 hx1 hb1 hs1=>?_;have hO:Own w1 w.heap.size 30 1 (some ⟨w.heap.size,0,none⟩) 0 0 []:=by
   have:=Own.made (w:=w1) (w':=w) (B:=w.heap.size) (sz:=1) (n:=0) (c:=0) hb1 (Nat.le_refl _) (by simp [maxLen]) rfl (Nat.le_refl _);simpa using this
  obtain ⟨_,_,_,e,hR1⟩:=h.ext hx1;cases e;refine q7o (xs:=[]) qt5 rfl Oq hO hR1 (fun u hu=>by
   obtain ⟨d,_,rfl⟩:=List.mem_map.1 hu; rfl) Oq hx1.size fun A' c' w' ho hk hat=>?_
  rw [Nat.zero_add,List.nil_append] at ho;refine hK _ _ ?_; clear hK;refine q0O (q1S rfl ⟨.slice A' n c',by simp [upd],hO.under hx1 hk,qn3 ho fun k hk=>hf k hk⟩)
def q8o {l:List Nat} (hn:l.length≤1000000):ACt 75 [pF l] (pF l):=q1N (r:=.fm (fSc q2h l)) (fun D w v h=>qrq (f:=q2h) (fun x=>⟨rfl,rfl⟩) (q2z h)) (q6u quN fun D w vs hT hF hR=>by
 obtain ⟨_,rfl,h3⟩:=qal hR;obtain ⟨A,n,c,rfl,h6⟩:=q8T (f:=q2h) h3;have:=h6.sc_len;exact qgL h6 Oq hF)
def upT (f:Fac) (ys:List Nat) (p:Nat):Nat→List Int
 | 0=>[]
 | c+1=>upT f ys p c ++ [-(q1e (f.vs.getD (p+c) 0) (ys.getD (f.ri.getD (p+c) 0).toNat 0))]
noncomputable def bwV (f:Fac) (l ys:List Nat) (k:Nat):Nat :=
 fQ 0 (q1I (ofZ (l.getD k 0) :: upT f ys ((f.cp.getD k 0).toNat+1) ((f.cp.getD (k+1) 0).toNat-((f.cp.getD k 0).toNat+1)))) (ofZ (f.vs.getD (f.cp.getD k 0).toNat 0))
noncomputable def bwS (f:Fac) (l:List Nat):Nat→List Nat→Option (List Nat)
 | 0,ys=>some ys
 | k+1,ys=>if q0Y (bwV f l ys k) then bwS f l k (ys.set k (bwV f l ys k)) else none
def stZ (f:Fac) (ys:List Nat):Nat→Nat→Int
 | _,0=>0
 | p,c+1=>q1e (f.vs.getD p 0) (ys.getD (f.ri.getD p 0).toNat 0)+stZ f ys (p+1) c
def qrY {f:Fac} {ys:List Nat}:∀ c p,stZ f ys p (c+1)=stZ f ys p c+q1e (f.vs.getD (p+c) 0) (ys.getD (f.ri.getD (p+c) 0).toNat 0)
 | 0,p=>by simp [stZ]
 | c+1,p=>by
  rw [stZ,qrY c (p+1),show p+1+c=p+(c+1) by omega,stZ,Int.add_assoc]
def qdL {f:Fac} {ys:List Nat} {B:Int} {p:Nat}:∀ c,q1I (B :: upT f ys p c)=B-stZ f ys p c
 | 0=>by simp [upT,stZ,q1I]
 | c+1=>by
  rw [upT,← List.cons_append,q1T,qdL c,qrY];omega
def rwZ (g:Nat→Nat) (ys:List Nat):Nat→Nat→Int
 | _,0=>0
 | r,m+1=>q1e (g r) (ys.getD r 0)+rwZ g ys (r+1) m
def qrs {g:Nat→Nat} {ys:List Nat}:∀ m r,rwZ g ys r (m+1)=rwZ g ys r m+q1e (g (r+m)) (ys.getD (r+m) 0)
 | 0,r=>by simp [rwZ]
 | m+1,r=>by
  rw [rwZ,qrs m (r+1),show r+1+m=r+(m+1) by omega,rwZ,Int.add_assoc]
def qdy {g:Nat→Nat} {l x ys:List Nat} {B:Int} {r:Nat} (hl:∀ i,l.getD i 0=g (r+i)) (hx:∀ i,x.getD i 0=ys.getD (r+i) 0):∀ m,q1I (qk8 B l x m)=B-rwZ g ys r m
 | 0=>by simp [qk8,rwZ,q1I]
 | m+1=>by
  rw [qk8,q1T,qdy hl hx m,qrs,hl,hx];omega
def q7J {f:Fac} {j a b:Nat} {ys:List Nat} (h:Col f j a b) (hn:f.pm.length≤200) (hrv:f.ri.length=f.vs.length) :
  ∀ m r p,r+m=f.pm.length→a < p→p≤b→(∀ p',p≤p'→p' < b→∃ i:Nat,f.ri[p']?=some (i:Int)∧r≤i)→stZ f ys p (b-p)=rwZ (fun i=>q3K f i p (b-p)) ys r m
 | 0,r,p,hr,ha,hpb,hi=>by
  have hp:p=b:=by
   rcases Nat.lt_or_ge p b with h1 | h1
   ·obtain ⟨i,h2,h3⟩:=hi p (Nat.le_refl _) h1;obtain ⟨i',h4,_,h5⟩:=h.row hn ha h1;rw [h2] at h4;have:=Option.some.inj h4;omega
   ·omega
  rw [hp,Nat.sub_self]; rfl
 | m+1,r,p,hr,ha,hpb,hi=>by
  rw [rwZ]
  by_cases hp:p < b∧f.ri[p]?=some (r:Int)
  ·obtain ⟨hp1,hp2⟩:=hp;have hle:=h.le;obtain ⟨x,hv⟩:∃ x,f.vs[p]?=some x:=⟨_,List.getElem?_eq_getElem Oq⟩;have hlater:∀ p',p+1≤p'→p' < b→∃ i:Nat,f.ri[p']?=some (i:Int)∧r+1≤i:=fun p' q1 q2=>by
    obtain ⟨i,h1,_⟩:=hi p' Oq q2;have:=h.mono (p'-p) p r i (by omega) (by omega) hp2 (by rw [show p+(p'-p)=p' by omega]; exact h1);rw [if_neg (by omega)] at this;exact ⟨i,h1,by omega⟩
   have hc:b-p=(b-(p+1))+1:=by omega
   have e1:q3K f (r:Int) p (b-p)=x:=by rw [hc,q3K,if_pos hp2]; exact getD_some hv
   have e2:rwZ (fun i=>q3K f i p (b-p)) ys (r+1) m=rwZ (fun i=>q3K f i (p+1) (b-(p+1))) ys (r+1) m:=by
    have key:∀ m r',r+1≤r'→rwZ (fun i=>q3K f i p (b-p)) ys r' m=rwZ (fun i=>q3K f i (p+1) (b-(p+1))) ys r' m:=fun m=>by
     induction m with
     | zero=>intro _ _; rfl
     | succ m ih =>
      intro r' hr';rw [rwZ,rwZ,ih (r'+1) (by omega)]
      congr 2
      show q3K f (r':Int) p (b-p)=_
      rw [hc,q3K,if_neg (by rw [hp2]; intro e; have:=Option.some.inj e; omega)]
    exact key m (r+1) (Nat.le_refl _)
   rw [e1,e2,← q7J h hn hrv m (r+1) (p+1) (by omega) (by omega) (by omega) hlater,hc,stZ,getD_some hv,getD_some hp2]
   rfl
  ·have hge:∀ p',p≤p'→p' < b→∃ i:Nat,f.ri[p']?=some (i:Int)∧r+1≤i:=fun p' q1 q2=>by
    obtain ⟨i,h1,h2⟩:=hi p' q1 q2;refine ⟨i,h1,?_⟩
    rcases Nat.lt_or_ge r i with h3 | h3
    ·omega
    ·obtain rfl:i=r:=by omega
     by_cases hpp:p'=p
     ·subst hpp; exact absurd ⟨q2,h1⟩ hp
     ·obtain ⟨i0,h4,h5⟩:=hi p (Nat.le_refl _) Oq;have:=h.mono (p'-p) p i0 i (by omega) (by omega) h4 (by rw [show p+(p'-p)=p' by omega]; exact h1);rw [if_neg (by omega)] at this;omega
   have e0:q3K f (r:Int) p (b-p)=0:=q5l _ _ fun p' q1 q2 e=>by
    obtain ⟨i,h1,h2⟩:=hge p' q1 Oq;rw [h1] at e;have:=Option.some.inj e;omega
   rw [e0,q6C,Int.zero_add];exact q7J h hn hrv m (r+1) p Oq ha hpb hge
def qdv {g g':Nat→Nat} {ys:List Nat}:∀ m r,(∀ i,r≤i→i < r+m→g i=g' i)→rwZ g ys r m=rwZ g' ys r m
 | 0,_,_=>rfl
 | m+1,r,h=>by rw [rwZ,rwZ,h r (Nat.le_refl _) (by omega),qdv m (r+1) fun i q1 q2=>h i (by omega) (by omega)]
def quW {f:Fac} {l ys:List Nat} {k n:Nat} (ho:FacOk f) (hn:n=f.pm.length) (hk:k < n):bwV f l ys k=upV (trS (q63 f n n) n n) l ys n k:=by
 obtain ⟨a,b,hc⟩:=ho.col k Oq;have hlt:=hc.lt;obtain ⟨x,V,d1,d2,d3⟩:=hc.diag;have hel:elF f k k=x:=by
  rw [q6p hc,show b-a=(b-(a+1))+1 by omega,q3K,if_pos hc.first];exact getD_some d1
 have hU:(trS (q63 f n n) n n).getD k []=rwG n (fun j=>((q63 f n n).getD j []).getD k 0) n:=by
  refine getD_some ?_;unfold trS;rw [List.getElem?_map,List.getElem?_range hk]; rfl
 obtain ⟨g,hg⟩:∃ g:Nat→Nat,g=fun j=>if j < n then ((q63 f n n).getD j []).getD k 0 else 0:=⟨_,rfl⟩
 have hgd:∀ i,(rwG n (fun j=>((q63 f n n).getD j []).getD k 0) n).getD i 0=g i:=fun i=>by
  rw [hg]
  by_cases hi:i < n
  ·rw [getD_some (q4i hi)]
  ·rw [List.getD_eq_getElem?_getD,List.getElem?_eq_none (by rw [q5t]; omega)];simp only [if_neg hi]; rfl
 have hgk:∀ i,k≤i→i < n→g i=elF f i k:=fun i h1 h2=>by
  rw [hg];simp only [if_pos h2];rw [getD_some (q7g h2),getD_some (q4i hk),if_pos (by omega)]
 unfold bwV upV;rw [getD_some hc.ha,getD_some hc.hb,hU,hgd,hgk k (Nat.le_refl _) hk,hel];rw [show ((a:Int)).toNat=a by omega,show ((b:Int)).toNat=b by omega,getD_some d1,qdL];rw [qdy (g:=g) (ys:=ys) (r:=k+1) (fun i=>by rw [List.getD_eq_getElem?_getD,List.getElem?_drop,← List.getD_eq_getElem?_getD,hgd]) (fun i=>by rw [List.getD_eq_getElem?_getD,List.getElem?_drop,← List.getD_eq_getElem?_getD])];rw [q7J hc ho.n ho.ril (n-(k+1)) (k+1) (a+1) (by omega) (by omega) (by omega) fun p q1 q2=>by
  obtain ⟨i,h1,h2,_⟩:=hc.row ho.n Oq q2;exact ⟨i,h1,by omega⟩]
 rw [qdv (g:=g) (g':=fun i=>q3K f i (a+1) (b-(a+1))) _ _ fun i q1 q2=>by
  rw [hgk i (by omega) (by omega),q6p hc,show b-a=(b-(a+1))+1 by omega,q3K,if_neg (by rw [hc.first]; intro e; have:=Option.some.inj e; omega)]]
def qlv {f:Fac} {l:List Nat} {n:Nat} (ho:FacOk f) (hn:n=f.pm.length):∀ (k:Nat) (ys:List Nat),k≤n→bwS f l k ys=upF (trS (q63 f n n) n n) l n k ys
 | 0,_,_=>rfl
 | k+1,ys,hk=>by rw [bwS,upF,quW ho hn (by omega),qlv ho hn k _ (by omega)]
def qqv {L:List (List Nat)} {n:Nat} (h:SqM L n):SqM (trS L n n) n:=⟨qm2,fun r hr=>by
 obtain ⟨i,hi,rfl⟩:=List.mem_map.1 hr;have hi:=List.mem_range.1 hi;refine ⟨q5t,fun x hx=>?_⟩;obtain ⟨j,hj,rfl⟩:=List.mem_map.1 hx;have hj:=List.mem_range.1 hj;rw [if_pos hj];have hl:=h.len;obtain ⟨r,hr⟩:∃ r,L[j]?=some r:=⟨_,List.getElem?_eq_getElem Oq⟩;obtain ⟨h1,h2⟩:=h.row r (List.mem_of_getElem? hr);obtain ⟨x,hx⟩:∃ x,r[i]?=some x:=⟨_,List.getElem?_eq_getElem Oq⟩
 show (L.getD j []).getD i 0 < 18446744073709551616∧q0Y ((L.getD j []).getD i 0)
 rw [getD_some hr,getD_some hx];exact h2 x (List.mem_of_getElem? hx),fun k hk=>by
 have e:(trS L n n)[k]?=some (rwG n (fun j=>(L.getD j []).getD k 0) n):=by
  unfold trS;rw [List.getElem?_map,List.getElem?_range hk]; rfl
 rw [getD_some e,getD_some (q4i hk),if_pos hk];exact h.dg k hk⟩
def q4V {l:List Nat} (h:q1f l) (i:Nat):l.getD i 0 < 18446744073709551616∧q0Y (l.getD i 0):=by
 rw [List.getD_eq_getElem?_getD];cases hx:l[i]? with
 | none=>exact ⟨by simp,by unfold q0Y; simp⟩
 | some x=>exact h x (List.mem_of_getElem? hx)
def q9O {f:Fac} {ys:List Nat} {p:Nat}:∀ c,(upT f ys p c).length=c
 | 0=>rfl
 | c+1=>by rw [upT,List.length_append,q9O c]; rfl
def qkP {f:Fac} {ys:List Nat} {p:Nat} (hv:q1f f.vs) (hy:q1f ys):∀ c,∀ x ∈ upT f ys p c,bl x.natAbs≤67600
 | 0,x,hx=>by cases hx
 | c+1,x,hx=>by
  rw [upT] at hx
  rcases List.mem_append.1 hx with hx | hx
  ·exact qkP hv hy c x hx
  ·simp only [List.mem_singleton] at hx;subst hx;rw [Int.natAbs_neg];exact (q0u (q4V hv _).2 (q4V hy _).2).2
def RowsOk.up {f:Fac} {rows:List (List Int)} {r:List Int} {k:Nat} (h:RowsOk f 500 rows) (h1:r.length≤501) (h2:∀ x ∈ r,bl x.natAbs≤67600):RowsOk f 500 (rows.set k r) :=
 ⟨by rw [List.length_set]; exact h.len,fun r' hr'=>by
  rcases List.mem_or_eq_of_mem_set hr' with h3 | rfl
  ·exact h.row r' h3
  ·exact ⟨by omega,h2⟩⟩
def Col.climb {f:Fac} {j a b:Nat} (h:Col f j a b):∀ d,a+d < b→∃ i:Nat,f.ri[a+d]?=some (i:Int)∧j+d≤i
 | 0,_=>⟨j,h.first,Nat.le_refl _⟩
 | d+1,hd=>by
  obtain ⟨i,h1,h2⟩:=h.climb d Oq;obtain ⟨y,z,h3,h4,h5⟩:=h.inc (a+(d+1)) Oq hd;rw [show a+(d+1)-1=a+d by omega,h1] at h3;cases h3;exact ⟨z.toNat,by rw [h4]; congr 1; omega,by omega⟩
def Col.short {f:Fac} {j a b:Nat} (h:Col f j a b) (hn:f.pm.length≤200):b≤a+201:=by
 rcases Nat.lt_or_ge b (a+202) with h1 | h1
 ·omega
 obtain ⟨i,h2,h3⟩:=h.climb (b-a-1) Oq;obtain ⟨i',h4,_,h5⟩:=h.row hn (p:=a+(b-a-1)) Oq Oq;rw [h2] at h4;have:=Option.some.inj h4;omega
def qh2 {f:Fac} {l ys:List Nat} {rows:List (List Int)} {k p c i x y:Nat} (hi:f.ri[p+c]?=some (i:Int)) (hx:f.vs[p+c]?=some x) (hy:ys[i]?=some y) :
  (rows.set k (ofZ (l.getD k 0) :: upT f ys p c)).set k ((ofZ (l.getD k 0) :: upT f ys p c) ++ [-(q1e x y)])=rows.set k (ofZ (l.getD k 0) :: upT f ys p (c+1)):=by
 rw [List.set_set,upT,getD_some hi,getD_some hx,show ((i:Int)).toNat=i by omega,getD_some hy]
 rfl
end Go.Proofs.YtbcmhlhgljoolaaGreatDoor
