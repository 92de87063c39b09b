/- Krylov. 5/6. -/
import Derived.Test.YtbcmhlhgljoolaaGreatDoorPk4
set_option linter.unusedSimpArgs false
set_option linter.unusedVariables false
set_option maxRecDepth 20000
set_option maxHeartbeats 2000000
set_option linter.defProp false
namespace Go.E
open Go Go.RowKit
def LeFac {J:Nat→Prop} {h:Hp} {a1 a2 a3 a4 n1 n2 n3 n4:Nat} {T1 T2 T3 T4:TypeId} {l1 l2 l3 l4 m1 m2 m3:List PV} {x y:PV} (hJ:∀ i,¬ J i) (h1:h a1=some ⟨T1,none,l1,false⟩) (h2:h a2=some ⟨T2,none,l2,false⟩) (h3:h a3=some ⟨T3,none,l3,false⟩) (h4:h a4=some ⟨T4,none,l4,false⟩)
  (c1:ClL l1) (c2:ClL l2) (c3:ClL l3) (c4:ClL l4) (d:a4≠a1∧a4≠a2∧a4≠a3) (e1:l1.take n1=m1) (e2:l2.take n2=m2) (e3:l3.take n3=m3) :
  Le J (fun _=>.tu [.ag [.ow a1 none 0 n1,.ow a2 none 0 n2,.ow a3 none 0 n3,.ow a4 none 0 n4],x,y]) h (fun _=>.tu [.ag [.sl none m1,.sl none m2,.sl none m3,.ow 5000 none 0 n4],.un,.un]) (q0R h0 5000 ⟨T4,none,l4,false⟩):=by
 have hn:∀ a,a4≠a→∀ i,(if i=5000 then some a4 else none)=some a→q0R h0 5000 ⟨T4,none,l4,false⟩ i=none:=fun a ha i hi=>by
  split at hi
  ·exact absurd (Option.some.inj hi) ha
  ·cases hi
 refine q2b (fun i=>if i=5000 then some a4 else none) (fun i b' hb'=>?_) (fun i j k b c hi hj ti tj=>?_) (fun _=>.tu rfl fun i x y hx hy=>?_) fun i hi=>(hJ i hi).elim
 ·by_cases hi:i=5000
  ·subst hi;rw [q0I] at hb'; cases hb';unfold LeB;exact ⟨_,h4,rfl,rfl,⟨rfl,rfl⟩,q0Y rfl c4⟩
  ·rw [q0F hi] at hb'; cases hb'
 ·split at ti
  ·split at tj
   ·rename_i e1 e2; rw [e1,e2]
   ·cases tj
  ·cases ti
 ·rcases i with _ | _ | _ | i
  ·cases hx; cases hy;refine .ag rfl fun i x y hx hy=>?_
   rcases i with _ | _ | _ | _ | i
   ·cases hx; cases hy; exact q1z h1 c1 (hn a1 d.1) e1
   ·cases hx; cases hy; exact q1z h2 c2 (hn a2 d.2.1) e2
   ·cases hx; cases hy; exact q1z h3 c3 (hn a3 d.2.2) e3
   ·cases hx; cases hy; exact .ow (if_pos rfl) q0I
   ·simp at hx
  ·cases hy; exact .un
  ·cases hy; exact .un
  ·simp at hx
def LeFn {J:Nat→Prop} {h:Hp} {T:TypeId} {x y:PV} (hJ:∀ i,¬ J i):Le J (fun _=>.tu [.ag [.vl (.slice none 0 0),.vl (.slice none 0 0),.vl (.slice none 0 0),.vl (.slice none 0 0)],x,y]) h (fun _=>.tu [.ag [.sl none [],.sl none [],.sl none [],.ow 5000 none 0 0],.un,.un]) (q0R h0 5000 ⟨T,none,[],false⟩):=by
 refine q2b (fun _=>none) (fun i b' hb'=>?_) (fun i j k b c hi hj ti tj=>by cases ti) (fun _=>.tu rfl fun i x y hx hy=>?_) fun i hi=>(hJ i hi).elim
 ·by_cases hi:i=5000
  ·subst hi;rw [q0I] at hb'; cases hb'
   rfl
  ·rw [q0F hi] at hb'; cases hb'
 ·rcases i with _ | _ | _ | i
  ·cases hx; cases hy;refine .ag rfl fun i x y hx hy=>?_
   rcases i with _ | _ | _ | _ | i
   ·cases hx; cases hy; exact .nilsl
   ·cases hx; cases hy; exact .nilsl
   ·cases hx; cases hy; exact .nilsl
   ·cases hx; cases hy; exact .nilow rfl q0I rfl
   ·simp at hx
  ·cases hy; exact .un
  ·cases hy; exact .un
  ·simp at hx
end Go.E
namespace Go.Proofs.YtbcmhlhgljoolaaGreatDoor
open Go Go.E Go.Sp
abbrev tbU (n:Nat) (k:Nat) (g:Nat→Nat→Nat):Hp:=q61 25 30 5000 30000 n k n g
set_option maxHeartbeats 1000000 in
def qnF (f:List Int × List Int × List Int × List Nat):PV:=.ag [pI f.1,pI f.2.1,pI f.2.2.1,.ow 5000 none 0 f.2.2.2.length]
def qsY {F:Nat→Nat→Option Nat} {n:Nat} {l:List Int} (h:TOk F n n) (hn100:n≤100) (hp:q2R l n) :
  q9Y 41 [pT n n F,pI l] h0 (.tu [qnF (q6E F l (q27 (adT (qck F l n)) n n) n),.un,.un]) (q0R h0 5000 ⟨30,none,(q6E F l (q27 (adT (qck F l n)) n n) n).2.2.2.map fun z:Nat=>uv z,false⟩):=by
 have hJ:∀ i,¬ (h0 i≠none):=fun i h=>h rfl;have hJe:(fun i=>(h0:Hp) i≠none)=fun _=>False:=funext fun i=>eq_false (hJ i);have hll:l.length=n:=by have:=hp.1; omega
 have cS:=qc9 h hp;have cG:=qe4 h hp;have cC:=qa3 (adj:=qck F l n) (n:=n) qaV Oq qlF (qlG Oq);have cA:∀ {i j x y:Nat} {V:Int},_:=fun {i j x y V}=>qrZ (i:=i) (j:=j) (x:=x) (y:=y) (order:=l) (V:=V) h;have hcl:(q27 (adT (qck F l n)) n n).length=n:=by simp [q27]
 have hcc:∀ (j:Nat) (cs:List Nat),(q27 (adT (qck F l n)) n n)[j]?=some cs→cs.length≤n+1∧∀ x ∈ cs,x < n:=fun j cs hj=>by
  unfold q27 at hj;rw [List.getElem?_map] at hj
  rcases Nat.lt_or_ge j n with hjn | hjn
  ·rw [List.getElem?_range hjn] at hj;cases hj;exact ⟨qbz,fun x hx=>qoY hjn hx⟩
  ·rw [List.getElem?_eq_none (by simpa using hjn)] at hj; cases hj
 have hFin:∀ {j i:Nat},j < n→i < n→_:=fun {j i} hj hi=>h.fin (j:=j) (i:=i) hj hi;generalize q27 (adT (qck F l n)) n n=cols at *;generalize qck F l n=adj at *;have hlf:∀ i,i < n→∃ x:Nat,l[i]?=some (x:Int)∧lfN l i=x∧x < n:=fun i hi=>by
  obtain ⟨x,hx⟩:∃ x,l[i]?=some x:=⟨_,List.getElem?_eq_getElem Oq⟩;have:=hp.2.1 x (List.mem_of_getElem? hx);obtain ⟨y,rfl⟩:∃ y:Nat,x=y:=⟨x.toNat,by omega⟩;exact ⟨y,hx,qaF hx,by omega⟩
 have e0:((0:Int) != 0)=false:=rfl;have hres:∀ a,a≤n→lcM F l cols a=none→q6E F l cols n=([],[],[],[]):=fun a ha hq=>qcu hq ha;have hres2:∀ q,lcM F l cols n=some q→q6E F l cols n=(l,q.1,q.2.2.1,q.2.2.2):=fun q hq=>by unfold q6E; rw [hq]
 generalize q6E F l cols n=res at *;have hpl:pT n n F=q2M n n (tM F n n).1 (tM F n n).2.1 (tM F n n).2.2:=rfl;rw [hpl] at cS cG ⊢;simp only [hpl] at cA;clear hpl;unfold q2M at cS cG cA ⊢;unfold pG at cG cC;generalize (tM F n n).1=ms at *;generalize (tM F n n).2.1=mi at *;generalize (tM F n n).2.2=mv at *;unfold qnF;refine qcQ qto Tryz.func41 rfl Tryz.ntmps41 (by kernel_rfl) ?_ ?_ ?_ ?_
 ·intro i b hb; cases hb
 ·intro i b hb
  by_cases hi:i=5000
  ·subst hi; exact ⟨by omega,by omega⟩
  ·rw [q0F hi] at hb; cases hb
 ·exact IdL.of fun x hx=>by
   simp at hx
   rcases hx with rfl | rfl
   ·unfold IdP IdL IdL IdL IdL IdL IdL;unfold IdP;exact ⟨trivial,trivial,trivial,trivial,trivial,trivial⟩
   ·unfold IdP; trivial
 rw [hJe];refine wk1 e0 ?_;refine q3J (qh9 (o:=38) (N:=5000) (R:=30000) (n:=n) (T1:=25) (T2:=30) (m:=n) (g:=fun _ _=>0) (fun _ h=>h) ?_ (by omega) (by omega) (by omega) (xs:=[(1,pI l),(2,.pt 2 0 0),(4,.pt 4 0 0),(8,iv n),(9,pNN cols),(11,.ow 5000 none 0 n),(12,iv 0)]) (kv:=[]) (kb:=[(2,some ⟨52,some 5,[.ag [iv n,iv n,pI ms,pI mi,pF mv]],false⟩),(4,some ⟨27,some 4,[.ag [q5A,q5A,q5A,q5A]],false⟩)]) (by simp [nmW]) ?_) ?_
 ·exact Zy
 ·exact Zy
 refine q00 (fun k=>k≤n) [1,2,4,8,9,11] [2,4] Lk Lk (fun k:Nat=>[(12,iv k)]) (fun _=>[]) (fun k=>tbU n k fun _ _=>0) (fun k=>n-k) 0 (Nat.zero_le _) ?_ ?_
 ·refine LeW [] rfl rfl ?_ ?_ (by simp [q1o,q1Q,win]) ?_
  ·exact Ow
  ·exact q2r Oq Oq Oq
  ·refine Zz ?_
   rfl
 ·intro k hk;refine wk ?_
  by_cases hlt:k < n
  ·have hlt':(k:Int) < n:=by omega
   refine wk1 hlt' ?_;refine ⟨k+1,by omega,by omega,?_⟩;refine qdt (r:=47) (fun _ h=>h) hlt ?_ ?_ (fun j hj=>?_) (by omega) (by omega) (by omega) (by omega) (by simp [nmW]) ?_
   ·exact Zy
   ·refine Zz ?_;rw [q4j]; rfl
   ·exact Zy
   ·refine Zz ?_;omega
  ·have hlt':¬ (k:Int) < n:=by omega
   obtain rfl:n=k:=by omega
   refine wk1 hlt' ?_;clear hlt hlt' hk;refine wk ?_;refine q00 (fun q:Nat × (List Int × LSt)=>q.1≤n∧lcM F l cols q.1=some q.2∧LGd n q.2.2∧q.2.1.length=q.1+1∧q.2.2.2.1.length≤q.1*(n+1)) [1,2,4,8,9,11,13] [2,4] Lk Lk (fun q=>[(14,iv q.1)]) (fun q=>[(13,⟨27,some 4,[.ag [.ow 1001 none 0 l.length,.ow 1002 none 0 q.2.1.length,.ow 1003 none 0 q.2.2.2.1.length,.ow 1004 none 0 q.2.2.2.2.length]],false⟩),(1001,⟨3,none,l.map fun z=>iv z,false⟩),(1002,⟨3,none,q.2.1.map fun z=>iv z,false⟩),(1003,⟨3,none,q.2.2.2.1.map fun z=>iv z,false⟩),(1004,⟨30,none,q.2.2.2.2.map fun z:Nat=>uv z,false⟩)]) (fun q=>tbU n n q.2.2.1) (fun q=>n-q.1) (0,([0],fun _ _=>0,[],[])) ⟨Nat.zero_le _,rfl,⟨fun _ _=>⟨by unfold q0J; simp,by simp⟩,rfl⟩,rfl,by simp⟩ ?_ ?_
   ·refine LeW [(1001,some 51),(1002,some 52),(1003,none),(1004,none)] rfl rfl ?_ ?_ (by simp [q1o,q1Q,win]) ?_
    ·exact Ow
    ·exact q2r Oq Oq Oq
    ·refine Zz ?_
     rfl
   ·rintro ⟨j,st,g,ix,vl⟩ ⟨hj,hM,hgd,hst,hix⟩;simp only at hj hM hgd hst hix ⊢;have hjn:j*(n+1)≤100*101:=Nat.mul_le_mul Oq Oq;have hvl:=hgd.len;simp only at hvl;refine wk ?_
    by_cases hlt:j < n
    ·have hlt':(j:Int) < n:=by omega
     obtain ⟨cs,hcs⟩:∃ cs,cols[j]?=some cs:=⟨_,List.getElem?_eq_getElem Oq⟩;obtain ⟨hcl1,hcl2⟩:=hcc j cs hcs;have hgD:cols.getD j []=cs:=by rw [List.getD_eq_getElem?_getD,hcs]; rfl
     have hMs:=lcM_s hM;rw [hgD] at hMs;refine wk1 hlt' ?_;refine q00 (fun q:Nat × LSt=>q.1≤cs.length∧lcC F l cs j (g,ix,vl) q.1=some q.2∧LGd n q.2∧q.2.2.1.length=ix.length+q.1) [1,2,4,8,9,11,13,14] [2,4,1001,1002] Lk Lk (fun q=>[(15,iv q.1)]) (fun q=>[(13,⟨27,some 4,[.ag [.ow 1001 none 0 l.length,.ow 1002 none 0 st.length,.ow 1003 none 0 q.2.2.1.length,.ow 1004 none 0 q.2.2.2.length]],false⟩),(1003,⟨3,none,q.2.2.1.map fun z=>iv z,false⟩),(1004,⟨30,none,q.2.2.2.map fun z:Nat=>uv z,false⟩)]) (fun q=>tbU n n q.2.1) (fun q=>cs.length-q.1) (0,(g,ix,vl)) ⟨Nat.zero_le _,rfl,hgd,rfl⟩ ?_ ?_
     ·refine LeW [] rfl rfl ?_ ?_ (by simp [q1o,q1Q,win]) ?_
      ·exact q2a
      ·exact q2r Oq Oq Oq
      ·refine Zz ?_
       rfl
     ·rintro ⟨c,g2,ix2,vl2⟩ ⟨hc,hC,hgd2,hix2⟩;simp only at hc hC hgd2 hix2 ⊢;have hvl2:=hgd2.len;simp only at hvl2;refine q1n fun K2 hK2=>?_
      by_cases hltc:c < cs.length
      ·have hltc':(c:Int) < cs.length:=by omega
       obtain ⟨i,hi⟩:∃ i,cs[c]?=some i:=⟨_,List.getElem?_eq_getElem hltc⟩;have hin:=hcl2 i (List.mem_of_getElem? hi);have hCs:=lcC_s hC;have hgi:cs.getD c 0=i:=by rw [List.getD_eq_getElem?_getD,hi]; rfl
       rw [hgi] at hCs;simp only at hCs;refine wk1 (x2 hcs hltc') ?_;refine hK2 _ _ ?_; clear hK2 K2;refine wk1 (x2 hcs hi) ?_;obtain ⟨x,hx,hx2,hx3⟩:=hlf i hin;obtain ⟨y,hy,hy2,hy3⟩:=hlf j hlt;have hFa:=(hFin (j:=min x y) (i:=max x y) Oq Oq).1;have cE:=cA hx hy hx3 hy3 (q0Q hFa);have hS0:lcS F l g2 i j 0=[ofZ ((F (min x y) (max x y)).getD 0)]:=by rw [lcS,hx2,hy2]
       have hSb:=fun m=>qkv (F:=F) (l:=l) (g:=g2) (i:=i) (j:=j) hgd2.fin (by rw [hx2,hy2]; exact hFa) m;refine wk ?_;refine q00 (fun m=>m≤j) [1,2,4,8,9,11,13,14,15,16] [2,4,13,1001,1002,1003,1004] Lk Lk (fun m:Nat=>[(18,iv m),(17,.ow 1005 (some 4) 0 (m+1))]) (fun m=>[(1005,⟨74,some 4,(lcS F l g2 i j m).map fun V=>pV V,false⟩)]) (fun _=>tbU n n g2) (fun m=>j-m) 0 (Nat.zero_le _) ?_ ?_
       ·refine LeW [(1005,some 80)] rfl rfl ?_ ?_ (by simp [q1o,q1Q,win]) ?_
        ·exact Ow
        ·exact q2r Oq Oq Oq
        ·refine Zz ?_;rw [hS0];exact ⟨rfl,q0Y rfl (clV (l:=[_]))⟩
       ·intro m hm;have hSl:=qfV (F:=F) (l:=l) (g:=g2) (i:=i) (j:=j) m;refine wk ?_
        by_cases hltm:m < j
        ·have hltm':(m:Int) < j:=by omega
         have rm:(List.range n)[m]?=some m:=List.getElem?_range Oq;have ri:(List.range n)[i]?=some i:=List.getElem?_range hin;have rj:(List.range n)[j]?=some j:=List.getElem?_range hlt;have qm:(m < n)=True:=eq_true Oq;obtain ⟨u1,u2⟩:=hgd2.fin m i;obtain ⟨v1,v2⟩:=hgd2.fin m j;have cP:=q2V u2 v2 (q0Q u1) (q0Q v1) (q04 u1 v1).1;have C1:=@qg2;refine wk1 (x6 hltm' rm ri rj qm hSl) ?_;refine ⟨m+1,by omega,by omega,?_⟩;refine LeW [(1005,some 104)] rfl rfl ?_ ?_ (by simp [q1o,q1Q,win]) ?_
         ·exact Ow
         ·exact q2r Oq Oq Oq
         ·refine Zz ?_;refine ⟨by omega,q0Y ?_ clV⟩;rw [lcS,List.map_append]; rfl
        ·have hltm':¬ (m:Int) < j:=by omega
         obtain rfl:j=m:=by omega
         refine wk1 hltm' ?_;have hsd:=qbA (hSb j) Oq;obtain ⟨d,hd⟩:∃ d,d=q0o (lcS F l g2 i j j):=⟨_,rfl⟩;rw [← hd] at hsd hCs;have cD:=q7n (l:=lcS F l g2 i j j) (by omega) (by rw [← hd]; exact hsd);rw [← hd] at cD;refine qcV fun K hK=>?_;refine Zz ?_;refine jc ?_
         try refine Zz ?_
         refine q41 cD qkk ?_
         try refine Zz ?_
         refine hK _ _ ?_; clear hK K;refine qcV fun K hK=>?_;refine Zz ?_;refine hK _ _ ?_; clear hK K;refine q3J (LeW [] rfl rfl (hw:=tbU n n g2) (xs:=[(1,pI l),(2,.pt 2 0 0),(4,.pt 4 0 0),(8,iv n),(9,pNN cols),(11,.ow 5000 none 0 n),(13,.pt 13 0 0),(14,iv j),(15,iv c),(16,iv i),(19,.pt 19 0 0)]) (kv:=[]) (bs:=[(2,⟨52,some 5,[.ag [iv n,iv n,pI ms,pI mi,pF mv]],false⟩),(4,⟨27,some 4,[.ag [q5A,q5A,q5A,q5A]],false⟩),(13,⟨27,some 4,[.ag [.ow 1001 none 0 l.length,.ow 1002 none 0 st.length,.ow 1003 none 0 ix2.length,.ow 1004 none 0 vl2.length]],false⟩),(19,⟨74,some 4,[pV d],false⟩),(1001,⟨3,none,l.map fun z=>iv z,false⟩),(1002,⟨3,none,st.map fun z=>iv z,false⟩),(1003,⟨3,none,ix2.map fun z=>iv z,false⟩),(1004,⟨30,none,vl2.map fun z:Nat=>uv z,false⟩)]) (kb:=[]) ?_ ?_ (by simp [q1o,q1Q,win]) ?_) ?_
         ·exact Ow
         ·exact q2r Oq Oq Oq
         ·exact Zy
         clear hSb hSl hltm hltm' hm cD hsd;have err:lcV d g2 i j=none→res=([],[],[],[]):=fun hv=>by
          rw [hv] at hCs;refine hres (j+1) Oq ?_;rw [hMs];simp only;rw [qba hCs cs.length (by omega)]; rfl
         refine q1n fun K2 hK2=>?_;have fin:∀ (s:Nat→PV) (v:Nat),v < 18446744073709551616→(q0J v→lcV d g2 i j=some v)→(¬ q0J v→lcV d g2 i j=none)→s 1=pI l→s 2=.pt 2 0 0→s 4=.pt 4 0 0→s 8=iv n→s 9=pNN cols→s 11=.ow 5000 none 0 n→s 13=.pt 13 0 0→s 14=iv j→s 15=iv c→s 16=iv i→s 20=uv v→K2 s (q0w (tbU n n g2) (hpM [(2,⟨52,some 5,[.ag [iv n,iv n,pI ms,pI mi,pF mv]],false⟩),(4,⟨27,some 4,[.ag [q5A,q5A,q5A,q5A]],false⟩),(13,⟨27,some 4,[.ag [.ow 1001 none 0 l.length,.ow 1002 none 0 st.length,.ow 1003 none 0 ix2.length,.ow 1004 none 0 vl2.length]],false⟩),(19,⟨74,some 4,[pV d],false⟩),(1001,⟨3,none,l.map fun z=>iv z,false⟩),(1002,⟨3,none,st.map fun z=>iv z,false⟩),(1003,⟨3,none,ix2.map fun z=>iv z,false⟩),(1004,⟨30,none,vl2.map fun z:Nat=>uv z,false⟩)] [])):=by
          intro s v hvl hv1 hv2 s1 s2 s4 s8 s9 s11 s13 s14 s15 s16 s20;refine hK2 _ _ ?_; clear hK2 K2;have ri:(List.range n)[i]?=some i:=List.getElem?_range hin;have rj:(List.range n)[j]?=some j:=List.getElem?_range hlt;have qj:(j < n)=True:=eq_true hlt;have C3:=(q1i hvl);refine wk1 (x6 s1 s2 s4 s8 s9 (x6 s11 s13 s14 s15 s16 s20)) ?_
          by_cases hf:q0J v
          ·have ef:∀ (i:Decidable (q0J v)),@decide _ i=true:=fun _=>decide_eq_true hf;refine wk1 (x6 ef s1 s2 s4 s8 (x6 s9 s11 s13 s14 s15 (x5 s16 s20 ri rj qj))) ?_;rw [hv1 hf,Option.map_some] at hCs;refine ⟨(c+1,(qkr g2 j i v,ix2 ++ [(i:Int)],vl2 ++ [v])),⟨by omega,hCs,hgd2.step ⟨hf,hvl⟩,by simp only [List.length_append,List.length_cons,List.length_nil]; omega⟩,by simp only; omega,?_⟩;simp only;refine LeW [(1003,some 146),(1004,some 152)] rfl rfl ?_ ?_ (by simp [q1o,q1Q,win]) ?_
           ·repeat refine Wn_l Oq ?_
            exact qac (qgt q2a) (qh8 Oq hlt)
           ·exact q2r Oq Oq Oq
           ·refine Zz11 s1 s2 s4 s8 s9 s11 s13 s14 s15 s16 s20 ?_;omega
          ·have ef:∀ (i:Decidable (q0J v)),@decide _ i=false:=fun _=>decide_eq_false hf;refine wk1 (x6 ef s1 s2 s4 s8 (x6 s9 s11 s13 s14 s15 (x2 s16 s20))) ?_;rw [err (hv2 hf)];refine (rtM (rs:=[.cell 4 27,.tmp 5,.tmp 6]) rfl rfl (by first | (refine Zz1 s4 ?_; done) | (simp -implicitDefEqProofs (disch:=omega) only [go_sem,Nat.reduceEqDiff,Nat.reduceAdd,↓reduceIte,s4]; rfl) | rfl) ?_ (.inl rfl));exact LeFn hJ
         by_cases hij:i=j
         ·have e1:((i:Int) == (j:Int))=true:=by simp; omega
          refine wk1 e1 ?_;have hlc:lcV d g2 i j=if 0 < d∧¬ (q4D d=0∨q4D d=9223372036854775808)∧q0J (q4D d) then some (q4D d) else none:=by unfold lcV; rw [if_pos hij]
          have cR:=qhN (qel (V:=d));have hvl:q4D d < 18446744073709551616:=qbM;generalize q4D d=v at *;refine wk ?_
          by_cases hd0:0 < d
          case neg =>
           have es:d.sign≤0:=by
            rcases Int.lt_or_le d 0 with h | h
            ·rw [Int.sign_eq_neg_one_of_neg h]; omega
            ·rw [show d=0 by omega]; simp
           have C4:=@q4Y;refine wk1 es ?_;rw [err (by rw [hlc,if_neg fun h=>hd0 h.1])];refine (rtM (rs:=[.cell 4 27,.tmp 5,.tmp 6]) rfl rfl Lq ?_ (.inl rfl));exact LeFn hJ
          have es:¬ d.sign≤0:=by rw [Int.sign_eq_one_of_pos hd0]; omega
          have C5:=@q4Y;have C6:=@q68;refine wk1 es ?_
          by_cases hz:v=0∨v=9223372036854775808
          ·have ez:∀ (i:Decidable (v=0∨v=9223372036854775808)),@decide _ i=true:=fun _=>decide_eq_true hz;refine wk1 ez ?_;rw [err (by rw [hlc,if_neg fun h=>h.2.1 hz])];refine (rtM (rs:=[.cell 4 27,.tmp 5,.tmp 6]) rfl rfl Lq ?_ (.inl rfl));exact LeFn hJ
          ·have ez:∀ (i:Decidable (v=0∨v=9223372036854775808)),@decide _ i=false:=fun _=>decide_eq_false hz;refine wk1 ez ?_;refine fin _ v hvl (fun hf=>by rw [hlc,if_pos ⟨hd0,hz,hf⟩]) (fun hf=>by rw [hlc,if_neg fun h=>hf h.2.2]) ?_ ?_ ?_ ?_ ?_ ?_ ?_ ?_ ?_ ?_ ?_ <;> simp -implicitDefEqProofs (disch:=omega) only [go_sem,Nat.reduceEqDiff,Nat.reduceAdd,↓reduceIte]
         ·have e1:((i:Int) == (j:Int))=false:=by simp; omega
          refine wk1 e1 ?_;have hlc:lcV d g2 i j=if q0J (qeu 0 d (ofZ (g2 j j))) then some (qeu 0 d (ofZ (g2 j j))) else none:=by unfold lcV; rw [if_neg hij]
          have cQ:=q6v (qbP (A:=d) (B:=ofZ (g2 j j)) (mode:=0));have hvl:qeu 0 d (ofZ (g2 j j)) < 18446744073709551616:=qet;generalize qeu 0 d (ofZ (g2 j j))=v at *;have rj:(List.range n)[j]?=some j:=List.getElem?_range hlt;have qj:(j < n)=True:=eq_true hlt;obtain ⟨w1,w2⟩:=hgd2.fin j j;have C7:=(q2u w2 (q0Q w1));refine wk1 (x2 rj qj) ?_;refine fin _ v hvl (fun hf=>by rw [hlc,if_pos hf]) (fun hf=>by rw [hlc,if_neg hf]) ?_ ?_ ?_ ?_ ?_ ?_ ?_ ?_ ?_ ?_ ?_ <;> simp -implicitDefEqProofs (disch:=omega) only [go_sem,Nat.reduceEqDiff,Nat.reduceAdd,↓reduceIte]
      ·have hltc':¬ (c:Int) < cs.length:=by omega
       obtain rfl:c=cs.length:=by omega
       have hM2:=hMs;simp only at hM2;rw [hC] at hM2;simp only [Option.map_some] at hM2;have hj1:(j+1)*(n+1)=j*(n+1)+(n+1):=Nat.succ_mul _ _;refine wk1 (x2 hcs hltc') ?_;refine ⟨(j+1,(st ++ [(ix2.length:Int)],g2,ix2,vl2)),⟨by omega,hM2,hgd2,by simp [hst],by simp only; omega⟩,by simp only; omega,?_⟩;simp only;refine LeW [(1002,some 160)] rfl rfl ?_ ?_ (by simp [q1o,q1Q,win]) ?_
       ·exact Ow
       ·exact q2r Oq Oq Oq
       ·refine Zz ?_;omega
    ·have hlt':¬ (j:Int) < n:=by omega
     obtain rfl:n=j:=by omega
     refine wk1 hlt' ?_;rw [hres2 _ hM];refine (rtM (rs:=[.cell 4 27,.tmp 5,.tmp 6]) rfl rfl Lq ?_ (.inl rfl));refine LeFac hJ (a1:=1001) (a2:=1002) (a3:=1003) (a4:=1004) (T1:=3) (T2:=3) (T3:=3) (l1:=l.map fun z=>iv z) (l2:=st.map fun z=>iv z) (l3:=ix.map fun z=>iv z) ?_ ?_ ?_ ?_ clI clI clI (fun x hx=>by obtain ⟨z,_,rfl⟩:=List.mem_map.1 hx; trivial) (by omega) ?_ ?_ ?_ <;> first | (simp -implicitDefEqProofs (disch:=omega) only [go_sem,Nat.reduceEqDiff,Nat.reduceAdd,↓reduceIte]; done) | exact List.take_of_length_le (by simp)
open Classical in
def qf0 {l:List Int} (hl:l.length≤1000000):ACt 115 [pI l] (bv (decide (q2R l l.length))):=by
 refine ac0 Tryz.func115 Tryz.ntmps115 [.tmp 2] ?_;refine wk ?_;refine q0A (fun i=>i≤l.length∧(∀ x ∈ l.take i,0≤x∧x < l.length)∧(l.take i).Nodup) [0,9,10] [] Lk Lk (fun i:Nat=>[(11,iv i),(3,.ow 1001 none 0 l.length)]) (fun i=>[(1001,⟨4,none,(q5H l i).map fun z=>bv z,false⟩)]) (fun i=>l.length-i) 0 ⟨Nat.zero_le _,by simp,by simp⟩ ?_ ?_
 ·refine LeM [(1001,some 8)] rfl rfl ?_;refine Zz ?_;exact ⟨rfl,qe1⟩
 ·rintro i ⟨hi,hr,hd⟩
  by_cases hlt:i < l.length
  ·have hlt':(i:Int) < l.length:=by omega
   obtain ⟨x,hx⟩:∃ x,l[i]?=some x:=⟨_,List.getElem?_eq_getElem hlt⟩;have hmem:=List.mem_of_getElem? hx;have ht:=q2q hx;refine wk1 (x2 hlt' hx) ?_
   by_cases hx0:x < 0
   ·refine wk1 hx0 ?_;exact (decide_eq_false fun h=>by have:=(h.2.1 x hmem).1; omega).symm
   ·obtain ⟨k,rfl⟩:∃ k:Nat,x=k:=⟨x.toNat,by omega⟩
    by_cases hxn:(l.length:Int)≤k
    ·refine wk1 (x2 hx0 hxn) ?_;exact (decide_eq_false fun h=>by have:=(h.2.1 _ hmem).2; omega).symm
    ·have hk:k < l.length:=by omega
     have hs:=q7P (i:=i) hk
     by_cases hm:(k:Int) ∈ l.take i
     ·refine wk1 (x4 hx0 hxn hs hm) ?_;refine (decide_eq_false fun h=>?_).symm;have:=(h.2.2.sublist (List.take_sublist (i+1) l));rw [ht,List.nodup_append] at this;exact this.2.2 _ hm _ (by simp) rfl
     ·refine wk1 (x6 hx0 hxn hs hm hx @q7O) ?_;refine ⟨i+1,⟨by omega,?_,?_⟩,by omega,?_⟩
      ·rw [ht];intro y hy
       rcases List.mem_append.1 hy with hy | hy
       ·exact hr y hy
       ·simp at hy; subst hy; omega
      ·rw [ht,List.nodup_append];exact ⟨hd,by simp,fun a ha b hb=>by simp at hb; subst hb; exact fun e=>hm (e ▸ ha)⟩
      ·refine LeM [] rfl rfl ?_;refine Zz ?_;exact ⟨by omega,q7N hx⟩
  ·have hlt':¬ (i:Int) < l.length:=by omega
   refine wk1 hlt' ?_;have hil:i=l.length:=by omega
   rw [hil,List.take_length] at hr hd;exact (decide_eq_true ⟨rfl,hr,hd⟩).symm
structure CoC (n j:Nat) (col:List Int):Prop where
 f:col[0]?=some (j:Int)
 l:∀ z,col[col.length-1]?=some z→z < n
 m:∀ (i:Nat) (x y:Int),col[i]?=some x→col[i+1]?=some y→x < y
structure FStr (n:Nat) (cp ri:List Int):Prop where
 c0:cp[0]?=some 0
 cn:cp[n]?=some (ri.length:Int)
 col:∀ j,j < n→∃ a b:Nat,cp[j]?=some (a:Int)∧cp[j+1]?=some (b:Int)∧a≤b∧b≤ri.length∧CoC n j ((ri.take b).drop a)
open Classical in
def q7J {pm cp ri:List Int} {vs:List Nat} {n:Nat} (hn:pm.length=n) (hn2:n≤200) (hcl:cp.length=n+1) (hri:ri.length≤1000000):ACt 116 [q1L (pm,cp,ri,vs)] (bv (decide (FStr n cp ri))):=by
 have no:∀ {p:Prop},¬ FStr n cp ri→decide (FStr n cp ri)=false:=fun h=>decide_eq_false h;obtain ⟨res,hres⟩:∃ res,res=decide (FStr n cp ri):=⟨_,rfl⟩;rw [← hres];have rF:¬ FStr n cp ri→res=false:=fun h=>by rw [hres]; exact decide_eq_false h
 have rT:FStr n cp ri→res=true:=fun h=>by rw [hres]; exact decide_eq_true h
 clear hres no;obtain ⟨x0,hx0⟩:∃ x,cp[0]?=some x:=⟨_,List.getElem?_eq_getElem Oq⟩;obtain ⟨xn,hxn⟩:∃ x,cp[n]?=some x:=⟨_,List.getElem?_eq_getElem Oq⟩;unfold q1L;subst hn;refine ac0 Tryz.func116 Tryz.ntmps116 [.tmp 2] ?_;refine wk ?_
 by_cases h0:x0=0
 case neg =>
  have e1:(x0 != 0)=true:=by simpa using h0
  refine wk1 (x2 hx0 e1) ?_;rw [rF fun h=>h0 (Option.some.inj (hx0.symm.trans h.c0))]
 subst h0;have e1:((0:Int) != 0)=false:=rfl
 by_cases hn0:xn=ri.length
 case neg =>
  have e2:(xn != (ri.length:Int))=true:=by simpa using hn0
  refine wk1 (x4 hx0 e1 hxn e2) ?_;rw [rF fun h=>hn0 (Option.some.inj (hxn.symm.trans h.cn))]
 subst hn0;have e2:((ri.length:Int) != (ri.length:Int))=false:=by simp
 refine wk1 (x4 hx0 e1 hxn e2) ?_;refine q0A (fun j=>j≤pm.length∧(∃ a:Nat,cp[j]?=some (a:Int))∧∀ j',j' < j→∃ a b:Nat,cp[j']?=some (a:Int)∧cp[j'+1]?=some (b:Int)∧a≤b∧b≤ri.length∧CoC pm.length j' ((ri.take b).drop a)) [1,3,26] [1] Lk Lk (fun j:Nat=>[(27,iv j)]) (fun _=>[]) (fun j=>pm.length-j) 0 ⟨Nat.zero_le _,⟨0,hx0⟩,by omega⟩ ?_ ?_
 ·refine LeM [] rfl rfl ?_;refine Zz ?_
  rfl
 ·rintro j ⟨hj,⟨a,ha⟩,hr⟩
  by_cases hlt:j < pm.length
  ·have hlt':(j:Int) < pm.length:=by omega
   obtain ⟨y,hy⟩:∃ y,cp[j+1]?=some y:=⟨_,List.getElem?_eq_getElem Oq⟩;have w1:IntKind.i64.wrap ((j:Int)+1)=((j+1:Nat):Int):=by rw [i64_in (by omega) (by omega)]; omega
   have bad:(∀ b:Nat,y=b→a≤b→b≤ri.length→¬ CoC pm.length j ((ri.take b).drop a))→res=false:=fun h=>rF fun hS=>by
    obtain ⟨a',b',h1,h2,h3,h4,h5⟩:=hS.col j hlt;rw [ha] at h1; rw [hy] at h2;have:a'=a:=by have:=Option.some.inj h1; omega
    subst this;exact h b' (Option.some.inj h2) h3 h4 h5
   refine wk1 hlt' ?_
   by_cases hay:(a:Int) > y
   ·refine wk1 (x4 ha hy w1 hay) ?_;rw [bad fun b hb h1 _=>by omega]
   by_cases hyr:y > (ri.length:Int)
   ·refine wk1 (x5 ha hy w1 hay hyr) ?_;rw [bad fun b hb _ h1=>by omega]
   obtain ⟨b,rfl⟩:∃ b:Nat,y=b:=⟨y.toNat,by omega⟩;have bad2:¬ CoC pm.length j ((ri.take b).drop a)→res=false:=fun h=>bad fun b' hb _ _=>by
    have:b'=b:=by omega
    subst this; exact h
   clear bad;refine wk1 (x5 ha hy w1 hay hyr) ?_;have es:slP (some 1) (some (iv (a:Int))) (some (iv (b:Int))) (pI ri)=some (pI ((ri.take b).drop a)):=by
    simp [slP,q8J,ksz,List.map_take,List.map_drop];omega
   have hcl2:((ri.take b).drop a).length=b-a:=by simp; omega
   generalize hcol:(ri.take b).drop a=col at bad2 es hcl2;refine wk1 (x4 ha hy w1 es) ?_
   by_cases hl0:col.length=0
   ·have e3:((col.length:Int) == 0)=true:=by simp [hl0]
    refine wk1 e3 ?_;rw [bad2 fun h=>by have:=h.f; rw [List.getElem?_eq_none (by omega)] at this; cases this]
   have e3:((col.length:Int) == 0)=false:=by simpa using hl0
   obtain ⟨c0,hc0⟩:∃ x,col[0]?=some x:=⟨_,List.getElem?_eq_getElem Oq⟩;obtain ⟨cl,hcl3⟩:∃ x,col[col.length-1]?=some x:=⟨_,List.getElem?_eq_getElem Oq⟩;have wl:IntKind.i64.wrap ((col.length:Int)-1)=((col.length-1:Nat):Int):=by rw [i64_in (by omega) (by omega)]; omega
   by_cases h0:c0=j
   case neg =>
    have e4:(c0 != (j:Int))=true:=by simpa using h0
    refine wk1 (x3 e3 hc0 e4) ?_;rw [bad2 fun h=>h0 (Option.some.inj (hc0.symm.trans h.f))]
   subst h0;have e4:((j:Int) != (j:Int))=false:=by simp
   by_cases hge:(pm.length:Int)≤cl
   ·refine wk1 (x6 e3 hc0 e4 wl hcl3 hge) ?_;rw [bad2 fun h=>by have:=h.l _ hcl3; omega]
   refine wk1 (x6 e3 hc0 e4 wl hcl3 hge) ?_;refine q0A (fun i=>1≤i∧i≤col.length∧∀ (k:Nat) (x y:Int),k+1 < i→col[k]?=some x→col[k+1]?=some y→x < y) [1,3,4,5,26,27] [1] Lk Lk (fun i:Nat=>[(6,iv i)]) (fun _=>[]) (fun i=>col.length-i) 1 ⟨Nat.le_refl _,by omega,by omega⟩ ?_ ?_
   ·refine LeM [] rfl rfl ?_;refine Zz ?_
    rfl
   ·rintro i ⟨hi1,hi2,hm⟩
    by_cases hil:i < col.length
    ·have hil':(i:Int) < col.length:=by omega
     obtain ⟨x,hx⟩:∃ x,col[i-1]?=some x:=⟨_,List.getElem?_eq_getElem Oq⟩;obtain ⟨y,hy2⟩:∃ x,col[i]?=some x:=⟨_,List.getElem?_eq_getElem Oq⟩;have wi:IntKind.i64.wrap ((i:Int)-1)=((i-1:Nat):Int):=by rw [i64_in (by omega) (by omega)]; omega
     have wj:IntKind.i64.wrap ((i:Int)+1)=((i+1:Nat):Int):=by rw [i64_in (by omega) (by omega)]; omega
     refine wk1 hil' ?_
     by_cases hxy:y≤x
     ·refine wk1 (x4 hx hy2 wi hxy) ?_;rw [bad2 fun h=>by
       have:=h.m (i-1) x y hx (by rw [show i-1+1=i by omega]; exact hy2);omega]
     ·refine wk1 (x5 hx hy2 wi hxy wj) ?_;refine ⟨i+1,⟨by omega,by omega,?_⟩,by omega,?_⟩
      ·intro k u v hk hu hv
       by_cases hki:k+1 < i
       ·exact hm k u v hki hu hv
       ·obtain rfl:k=i-1:=by omega
        rw [show i-1+1=i by omega] at hv;have h1:=Option.some.inj (hx.symm.trans hu);have h2:=Option.some.inj (hy2.symm.trans hv);omega
      ·refine LeM [] rfl rfl ?_;exact Zy
    ·have hil':¬ (i:Int) < col.length:=by omega
     refine wk1 (x2 hil' w1) ?_;refine ⟨j+1,⟨by omega,⟨b,hy⟩,?_⟩,by omega,?_⟩
     ·intro j' hj'
      by_cases hjj:j' < j
      ·exact hr j' hjj
      ·obtain rfl:j'=j:=by omega
       refine ⟨a,b,ha,hy,by omega,by omega,?_⟩;rw [hcol];refine ⟨hc0,fun z hz=>by have:=Option.some.inj (hcl3.symm.trans hz); omega,fun k u v hu hv=>?_⟩;have hk:k+1 < col.length:=(List.getElem?_eq_some_iff.1 hv).1;exact hm k u v Oq hu hv
     ·refine LeM [] rfl rfl ?_;exact Zy
  ·have hlt':¬ (j:Int) < pm.length:=by omega
   obtain rfl:pm.length=j:=by omega
   refine wk1 hlt' ?_;exact (rT ⟨hx0,hxn,hr⟩).symm
def FDg (n:Nat) (cp:List Int) (vs:List Nat):Prop:=∀ j,j < n→∀ (a x:Nat),cp[j]?=some (a:Int)→vs[a]?=some x→0 < ofZ x
open Classical in
noncomputable def q2e (f:List Int × List Int × List Int × List Nat):Int :=
 if f.1.length > 200 then 6 else if ¬ q2R f.1 f.1.length then 90 else if f.2.1.length≠f.1.length+1∨f.2.2.1.length≠f.2.2.2.length then 2 else if ¬ FStr f.1.length f.2.1 f.2.2.1 then 240 else if (∀ x ∈ f.2.2.2,q0J x)∧FDg f.1.length f.2.1 f.2.2.2 then 0 else 4
open Classical in
def qcE {pm cp ri:List Int} {vs:List Nat} (hp:pm.length≤1000000) (hc:cp.length≤1000000) (hr:ri.length≤1000000) (hv:vs.length≤1000000) (hu:∀ x ∈ vs,x < 18446744073709551616):ACt 44 [q1L (pm,cp,ri,vs)] (iv (q2e (pm,cp,ri,vs))):=by
 obtain ⟨res,hres⟩:∃ res,res=q2e (pm,cp,ri,vs):=⟨_,rfl⟩;rw [← hres];unfold q2e at hres;dsimp only at hres;unfold q1L;dsimp only;refine ac0 Tryz.func44 Tryz.ntmps44 [.tmp 2] ?_;refine wk ?_
 by_cases h1:pm.length > 200
 ·rw [if_pos h1] at hres;have h1':(pm.length:Int) > 200:=by omega
  refine wk1 h1' ?_;exact hres.symm
 have h1':¬ (pm.length:Int) > 200:=by omega
 rw [if_neg h1] at hres;refine wk1 h1' ?_;have cP:=qf0 hp
 by_cases h2:q2R pm pm.length
 case neg =>
  rw [if_pos h2] at hres;rw [decide_eq_false h2] at cP;refine wk ?_;exact hres.symm
 rw [if_neg (not_not_intro h2)] at hres;rw [decide_eq_true h2] at cP;refine wk ?_;have w1:IntKind.i64.wrap ((pm.length:Int)+1)=((pm.length+1:Nat):Int):=by rw [i64_in (by omega) (by omega)]; omega
 by_cases h3:cp.length≠pm.length+1∨ri.length≠vs.length
 ·rw [if_pos h3] at hres
  by_cases h4:cp.length=pm.length+1
  ·have e1:((cp.length:Int) != ((pm.length+1:Nat):Int))=false:=by simp; omega
   have e2:((ri.length:Int) != (vs.length:Int))=true:=by simp; omega
   refine wk1 (x3 w1 e1 e2) ?_;exact hres.symm
  ·have e1:((cp.length:Int) != ((pm.length+1:Nat):Int))=true:=by simp; omega
   refine wk1 (x2 w1 e1) ?_;exact hres.symm
 rw [if_neg h3] at hres;have h4:cp.length=pm.length+1:=by omega
 have h5:ri.length=vs.length:=by omega
 have e1:((cp.length:Int) != ((pm.length+1:Nat):Int))=false:=by simp; omega
 have e2:((ri.length:Int) != (vs.length:Int))=false:=by simp; omega
 refine wk1 (x3 w1 e1 e2) ?_;have cS:=q7J (vs:=vs) (rfl:pm.length=_) Oq h4 hr;unfold q1L at cS;dsimp only at cS
 by_cases h6:FStr pm.length cp ri
 case neg =>
  rw [if_pos h6] at hres;rw [decide_eq_false h6] at cS;refine wk ?_;exact hres.symm
 rw [if_neg (not_not_intro h6)] at hres;rw [decide_eq_true h6] at cS;refine wk ?_;refine q3p [1,3,39,40,41] Lk ?_;have bad:¬ ((∀ x ∈ vs,q0J x)∧FDg pm.length cp vs)→res=4:=fun h=>by rw [hres,if_neg h]
 have good:((∀ x ∈ vs,q0J x)∧FDg pm.length cp vs)→res=0:=fun h=>by rw [hres,if_pos h]
 clear hres;refine q0A (fun i=>i≤vs.length∧∀ x ∈ vs.take i,q0J x) [1,3,39,40] [1] Lk Lk (fun i:Nat=>[(41,iv i)]) (fun _=>[]) (fun i=>vs.length-i) 0 ⟨Nat.zero_le _,by simp⟩ ?_ ?_
 ·refine LeM [] rfl rfl ?_;refine Zz ?_
  rfl
 ·rintro i ⟨hi,hf⟩
  by_cases hil:i < vs.length
  ·have hil':(i:Int) < vs.length:=by omega
   obtain ⟨x,hx⟩:∃ x,vs[i]?=some x:=⟨_,List.getElem?_eq_getElem hil⟩;have hm:=List.mem_of_getElem? hx;have cF:=q4p (hu x hm)
   by_cases hfx:q0J x
   case neg =>
    rw [decide_eq_false hfx] at cF;refine wk1 hx ?_;exact (bad fun h=>hfx (h.1 x hm)).symm
   rw [decide_eq_true hfx] at cF;refine wk1 hx ?_;refine ⟨i+1,⟨by omega,?_⟩,by omega,?_⟩
   ·rw [q2q hx];intro y hy
    rcases List.mem_append.1 hy with hy | hy
    ·exact hf y hy
    ·simp at hy; subst hy; exact hfx
   ·refine LeM [] rfl rfl ?_;refine Zz ?_
    rfl
  ·have hil':¬ (i:Int) < vs.length:=by omega
   obtain rfl:vs.length=i:=by omega
   rw [List.take_length] at hf;refine wk1 hil' ?_;refine q0A (fun j=>j≤pm.length∧∀ j',j' < j→∀ (a x:Nat),cp[j']?=some (a:Int)→vs[a]?=some x→0 < ofZ x) [1,3,49] [1] Lk Lk (fun i:Nat=>[(50,iv i)]) (fun _=>[]) (fun i=>pm.length-i) 0 ⟨Nat.zero_le _,by omega⟩ ?_ ?_
   ·refine LeM [] rfl rfl ?_;refine Zz ?_
    rfl
   ·rintro j ⟨hj,hd⟩
    by_cases hjl:j < pm.length
    ·have hjl':(j:Int) < pm.length:=by omega
     obtain ⟨a,b,ha,hb,hab,hbr,hcol⟩:=h6.col j hjl;have hal:a < vs.length:=by
      have:=(List.getElem?_eq_some_iff.1 hcol.f).1;simp at this;omega
     obtain ⟨x,hx⟩:∃ x,vs[a]?=some x:=⟨_,List.getElem?_eq_getElem hal⟩;have hm:=List.mem_of_getElem? hx;have wj:IntKind.i64.wrap ((j:Int)+1)=((j+1:Nat):Int):=by rw [i64_in (by omega) (by omega)]; omega
     have cO:=q3B (hu x hm) (q0Q (hf x hm))
     by_cases hs:(ofZ x).sign≤0
     ·have C1:=(q2W (fOk (q0Q (hf x hm))));refine wk1 (x3 ha hx hs) ?_;refine (bad fun h=>?_).symm;have:=Int.sign_eq_one_of_pos (h.2 j hjl a x ha hx);omega
     ·have C2:=(q2W (fOk (q0Q (hf x hm))));refine wk1 (x4 ha hx hs wj) ?_;refine ⟨j+1,⟨by omega,?_⟩,by omega,?_⟩
      ·intro j' hj' a' x' h1 h2
       by_cases hjj:j' < j
       ·exact hd j' hjj a' x' h1 h2
       ·obtain rfl:j'=j:=by omega
        have e:a'=a:=by have:=Option.some.inj (h1.symm.trans ha); omega
        subst e;have e:=Option.some.inj (h2.symm.trans hx);subst e;exact Int.sign_pos_iff.1 Oq
      ·refine LeM [] rfl rfl ?_;exact Zy
    ·have hjl':¬ (j:Int) < pm.length:=by omega
     obtain rfl:pm.length=j:=by omega
     refine wk1 hjl' ?_;exact (good ⟨hf,hd⟩).symm
def qk6 {w:World} {D:Nat→Prop} {ρ:Nat→Option Nat} {h:Hp} {v:Value} {pm cp ri:List Int} {vs:List Nat} (hr:Rd w D (q1L (pm,cp,ri,vs)) ρ h v):In (fFac ⟨pm,cp,ri,vs⟩) D v w:=by
 unfold q1L Rd at hr;obtain ⟨l,rfl,h1⟩:=hr;obtain ⟨_,_,_,_,rfl,h1,h2,h3,h4⟩:=rd_4 h1;obtain ⟨A1,n1,c1,rfl,i1⟩:=q7T (f:=q4L) h1;obtain ⟨A2,n2,c2,rfl,i2⟩:=q7T (f:=q4L) h2;obtain ⟨A3,n3,c3,rfl,i3⟩:=q7T (f:=q4L) h3;obtain ⟨A4,n4,c4,rfl,i4⟩:=q7T (f:=q2T) h4;exact ⟨_,_,_,_,rfl,i1,i2,i3,i4⟩
def q1e {l:List Int} {a b p:Nat} (h:a+p < b):((l.take b).drop a)[p]?=l[a+p]?:=by
 rw [List.getElem?_drop,List.getElem?_take,if_pos h]
def q4T {pm cp ri:List Int} {vs:List Nat} (h:q2e (pm,cp,ri,vs)=0) (hr:ri.length≤1000000) (hu:∀ x ∈ vs,x < 18446744073709551616):FacOk ⟨pm,cp,ri,vs⟩:=by
 unfold q2e at h;dsimp only at h
 split at h
 ·cases h
 split at h
 ·cases h
 split at h
 ·cases h
 split at h
 ·cases h
 split at h
 case isFalse=>cases h
 rename_i h1 h2 h3 h4 h5;obtain ⟨h5,h6⟩:=h5;have h2:=Classical.not_not.1 h2;have h4:=Classical.not_not.1 h4;refine ⟨⟨fun x hx=>h2.2.1 x hx,h2.2.2⟩,by dsimp only; omega,by dsimp only; omega,by dsimp only; omega,hr,h4.c0,h4.cn,fun j hj=>?_,fun x hx=>⟨hu x hx,h5 x hx⟩⟩;obtain ⟨a,b,ha,hb,hab,hbr,hc⟩:=h4.col j hj;have hl:((ri.take b).drop a).length=b-a:=by simp; omega
 have hlt:a < b:=by
  have:=(List.getElem?_eq_some_iff.1 hc.f).1;omega
 refine ⟨a,b,ha,hb,hlt,hbr,?_,?_,?_,?_⟩
 ·have:=hc.f
  rwa [q1e (by omega)] at this
 ·obtain ⟨z,hz⟩:∃ z,ri[b-1]?=some z:=⟨_,List.getElem?_eq_getElem Oq⟩;refine ⟨z,hz,hc.l z ?_⟩;rw [hl,q1e (by omega),show a+(b-a-1)=b-1 by omega];exact hz
 ·intro i h7 h8;obtain ⟨y,hy⟩:∃ z,ri[i-1]?=some z:=⟨_,List.getElem?_eq_getElem Oq⟩;obtain ⟨z,hz⟩:∃ z,ri[i]?=some z:=⟨_,List.getElem?_eq_getElem Oq⟩;refine ⟨y,z,hy,hz,hc.m (i-1-a) y z ?_ ?_⟩
  ·rw [q1e (by omega),show a+(i-1-a)=i-1 by omega]; exact hy
  ·rw [q1e (by omega),show a+(i-1-a+1)=i by omega]; exact hz
 ·obtain ⟨x,hx⟩:∃ x,vs[a]?=some x:=⟨_,List.getElem?_eq_getElem Oq⟩;exact ⟨x,ofZ x,hx,q0Q (h5 x (List.mem_of_getElem? hx)),h6 j hj a x ha hx⟩
def fwP:Option (List Nat)→PV
 | some ys=>.tu [pF ys,iv 0]
 | none=>.tu [pF [],iv 233]
def qcg {w:World} {D:Nat→Prop} {ρ:Nat→Option Nat} {h:Hp} {v:Value} {l:List Nat} (hr:In (fSc q2T l) D v w):Rd w D (pF l) ρ h v:=qm9 (f:=q2T) (fun x=>⟨rfl,rfl⟩) hr
def qk5 {o:Option (List Nat)} {w:World} {D:Nat→Prop} {ρ:Nat→Option Nat} {h:Hp} {v:Value} (hr:In (qsq o) D v w):Rd w D (fwP o) ρ h v:=by
 cases o with
 | some ys =>
  obtain ⟨a,b,rfl,h1,h2⟩:=hr;unfold fwP Rd;refine ⟨[a,b],rfl,?_⟩;unfold RdL;refine ⟨_,_,rfl,qcg h1,?_⟩;unfold RdL;exact ⟨_,_,rfl,by unfold Rd; exact h2,by unfold RdL; rfl⟩
 | none =>
  obtain ⟨a,b,rfl,h1,h2⟩:=hr;unfold fwP Rd;refine ⟨[a,b],rfl,?_⟩;unfold RdL;refine ⟨_,_,rfl,qcg h1,?_⟩;unfold RdL;exact ⟨_,_,rfl,by unfold Rd; exact h2,by unfold RdL; rfl⟩
def qu3 {n:Nat} (hn:n≤1000000):ACt 51 [iv n] (pI (qc7 n)):=by
 have hl:=qam;refine ac0 Tryz.func51 Tryz.ntmps51 [.tmp 2] ?_;refine wk ?_;refine q0A (fun i=>i≤n) [5] [] Lk Lk (fun i:Nat=>[(6,iv i),(3,.ow 1001 none 0 i)]) (fun i=>[(1001,⟨3,none,(qc7 i).map fun z=>iv z,false⟩)]) (fun i=>n-i) 0 (Nat.zero_le _) ?_ ?_
 ·refine LeM [(1001,none)] rfl rfl ?_;refine Zz ?_;exact ⟨rfl,rfl⟩
 ·intro i hi
  by_cases hlt:i < n
  ·refine wk1 (hl i) ?_;refine ⟨i+1,by omega,by omega,?_⟩;refine LeM [(1001,some 12)] rfl rfl ?_;refine Zz ?_;exact ⟨by omega,by rw [qdk]⟩
  ·obtain rfl:i=n:=by omega
   exact wk1 (hl i) trivial
def qsc {f:List Int × List Int × List Int × List Nat} {ps:List Int} {l:List Nat} (ho:FacOk ⟨f.1,f.2.1,f.2.2.1,f.2.2.2⟩) (hl:q0c l) (hn:l.length=f.1.length) (hps:∀ x ∈ ps,0≤x∧x < l.length) (hpl:ps.length≤200) :
  ACt 49 [q1L f,pF l,pI ps] (fwP (qhL ⟨f.1,f.2.1,f.2.2.1,f.2.2.2⟩ ps (l.map fun x=>[ofZ x]) (List.replicate l.length 0))):=q9R (r:=.fm (qsq _)) (fun D w v h=>qk5 (q7U h)) (ac_r qtn fun D w vs hT hF hR=>by
 obtain ⟨_,_,_,rfl,h3,h4,h5⟩:=rd_3 hR;obtain ⟨A,n,c,rfl,h6⟩:=q7T (f:=q2T) h4;obtain ⟨A2,n2,c2,rfl,h7⟩:=q7T (f:=q4L) h5;obtain rfl:n=l.length:=h6.sc_len.symm;obtain rfl:n2=ps.length:=h7.sc_len.symm;exact qdH hT (qk6 h3) ho h6 hl hn h7 hps hpl hF)

def qmc {mode:Int} {neg:Bool} {N D:Nat}:N / D≤rq mode neg N D:=by unfold rq; (repeat' split) <;> omega
def qmp {mode:Int} {neg:Bool} {N D K:Nat} (hN:0 < N) (hD:0 < D) (hK:1074≤K):∃ u r:Nat,K≤u+1074∧rF mode neg N D=fin mode neg r ((u:Int)-K)∧r=rq mode neg (N*2 ^ K) (D*2 ^ u)∧r≤9007199254740992∧(u+1074=K∨(4503599627370496≤r∧D*2 ^ (u+52)≤N*2 ^ K)):=by
 obtain ⟨q,hq⟩:∃ q,q=qfW N D:=⟨_,rfl⟩;have hq1:q=max (lgq N D-52) (-1074):=hq;obtain ⟨u,hu⟩:∃ u:Nat,(u:Int)=q+K:=⟨(q+K).toNat,by omega⟩;have hbl:D≤N*2 ^ bl D:=Nat.le_trans (Nat.le_of_lt (q28 D)) (Nat.le_mul_of_pos_left _ hN);obtain ⟨g,hg⟩:∃ g,bl (N*2 ^ bl D / D)=g+1:=⟨bl (N*2 ^ bl D / D)-1,by
  have:bl (N*2 ^ bl D / D)≠0:=fun h=>by
   have h1:=q28 (N*2 ^ bl D / D);rw [h] at h1;have:=Nat.div_pos hbl hD;omega
  omega⟩
 have hlg:lgq N D=(g:Int)-bl D:=by unfold lgq; omega
 have f2:N*2 ^ bl D < D*2 ^ (g+1):=by
  have:=q28 (N*2 ^ bl D / D);rw [hg,Nat.div_lt_iff_lt_mul hD] at this;rw [Nat.mul_comm D];exact this
 have f1:D*2 ^ g≤N*2 ^ bl D:=by
  have:=q7q (n:=N*2 ^ bl D / D) (by have:=Nat.div_pos hbl hD; omega);rw [hg,Nat.le_div_iff_mul_le hD] at this;rw [Nat.mul_comm D];exact this
 generalize bl D=b at *;have hr:rat mode neg N D q=rq mode neg (N*2 ^ K) (D*2 ^ u):=by
  unfold rat;rw [← q52 (c:=2 ^ (K-(-q).toNat)) (q0G _),Nat.mul_assoc,Nat.mul_assoc,← Nat.pow_add,← Nat.pow_add,show (-q).toNat+(K-(-q).toNat)=K by omega,show q.toNat+(K-(-q).toNat)=u by omega]
 refine ⟨u,_,by omega,?_,rfl,?_,?_⟩
 ·unfold rF;rw [← hq,hr,show (u:Int)-K=q by omega]
 ·refine Nat.le_trans qr4 ?_;have:N*2 ^ K / (D*2 ^ u) < 2 ^ 53:=by
   rw [Nat.div_lt_iff_lt_mul (Nat.mul_pos hD (q0G _))];refine Nat.lt_of_mul_lt_mul_right (a:=2 ^ b) ?_;have e1:N*2 ^ K*2 ^ b=N*2 ^ b*2 ^ K:=by rw [Nat.mul_right_comm]
   have e2:2 ^ 53*(D*2 ^ u)*2 ^ b=D*2 ^ (53+u+b):=by rw [Nat.mul_left_comm,Nat.mul_assoc,← Nat.pow_add,← Nat.pow_add]
   rw [e1,e2];refine Nat.lt_of_lt_of_le (Nat.mul_lt_mul_of_pos_right f2 (q0G K)) ?_;rw [Nat.mul_assoc,← Nat.pow_add];exact Nat.mul_le_mul_left _ (Nat.pow_le_pow_right Oq Oq)
  have h53:(2:Nat) ^ 53=9007199254740992:=by decide
  omega
 ·by_cases h:u+1074=K
  ·exact .inl h
  ·right
   have hm:D*2 ^ (u+52)≤N*2 ^ K:=by
    refine Nat.le_of_mul_le_mul_right (c:=2 ^ b) ?_ (q0G b);have e1:N*2 ^ K*2 ^ b=N*2 ^ b*2 ^ K:=by rw [Nat.mul_right_comm]
    have e2:D*2 ^ (u+52)*2 ^ b=D*2 ^ g*2 ^ K:=by rw [Nat.mul_assoc,Nat.mul_assoc,← Nat.pow_add,← Nat.pow_add]; congr 2; omega
    rw [e1,e2];exact Nat.mul_le_mul_right _ f1
   refine ⟨Nat.le_trans ?_ qmc,hm⟩;rw [Nat.le_div_iff_mul_le (Nat.mul_pos hD (q0G _))];have h52:(2:Nat) ^ 52=4503599627370496:=by decide
   rw [← h52,Nat.mul_left_comm,← Nat.pow_add,Nat.add_comm 52];exact hm
def qoA {mode:Int} {neg:Bool} {r u:Nat} {K:Nat} (hK:K=65536) (h1:K≤u+1074) (h2:r≤9007199254740992) (h3:u+1074=K∨4503599627370496≤r) (h4:u+1076 < 2047+K):ofF (fin mode neg r ((u:Int)-K))=some (sgn neg r*(2:Int) ^ u):=by
 unfold fin
 split
 ·rename_i h;rw [q7g Oq Oq Oq Oq,show ((u:Int)-K+1+65536).toNat=u+1 by omega,h]
  congr 1
  cases neg <;> simp [sgn,Int.pow_succ] <;> omega
 ·rw [q7g Oq Oq Oq Oq,show ((u:Int)-K+65536).toNat=u by omega]
def qbX:ofF 0=some 0:=by
 unfold ofF;rw [if_neg (by decide),if_pos (by decide)];have:sgn (decide (9223372036854775808≤0)) (0 % 4503599627370496)=0:=by decide
 rw [this,Int.zero_mul]
def qsp {mode V:Int} {K c:Nat} (hK:K=65536) (hc:c=900) (h:V.natAbs < 2 ^ c*2 ^ K):q0J (fR mode V):=by
 unfold fR
 split
 ·unfold q0J; simp
 ·rw [← hK];obtain ⟨u,r,h1,h2,h3,h4,h5⟩:=qmp (mode:=mode) (neg:=decide (V < 0)) (N:=V.natAbs) (D:=2 ^ K) (K:=K) Oq (q0G _) Oq;rw [h2];have hu:u+1076 < 2047+K:=by
   rcases h5 with h5 | ⟨_,h5⟩
   ·omega
   ·have h6:2 ^ K*2 ^ (u+52) < 2 ^ c*2 ^ K*2 ^ K:=Nat.lt_of_le_of_lt h5 (Nat.mul_lt_mul_of_pos_right h (q0G K));rw [← Nat.pow_add,← Nat.pow_add,← Nat.pow_add] at h6;have:=(Nat.pow_lt_pow_iff_right (by omega:1 < 2)).1 h6;omega
  have:=qoA (mode:=mode) (neg:=decide (V < 0)) hK h1 h4 Oq hu;intro hn;unfold ofF at this;rw [if_pos hn] at this;cases this
def qox (m:Int) (k:Nat) (h1:m.natAbs < 9007199254740992) (h2:k≤65561):bl (m*(2:Int) ^ k).natAbs≤66000:=by
 have h53:∀ n:Nat,n < 9007199254740992→bl n≤53:=fun n h=>q0M (Nat.lt_of_lt_of_le h (Nat.le_refl _))
 by_cases hm:m=0
 ·subst hm; rw [Int.zero_mul]; simp [q1V]
 ·rw [q0K,q1O (by omega)]; have:=h53 _ h1; omega
def qki {f:Nat} (h:f / 4503599627370496 % 2048≤1100):bl (ofZ f).natAbs≤66000:=by
 have hm:=Nat.mod_lt f (show 0 < 4503599627370496 by omega);have hfm:∃ (m:Int) (k:Nat),ofF f=some (m*(2:Int) ^ k)∧m.natAbs < 9007199254740992∧k≤65561:=by
  unfold ofF;rw [if_neg (by omega)];generalize f / 4503599627370496 % 2048=x at *;generalize f % 4503599627370496=m at *
  split
  ·exact ⟨_,64462,rfl,by rw [q1f]; omega,by omega⟩
  ·exact ⟨_,64461+x,rfl,by rw [q1f]; omega,by omega⟩
 obtain ⟨m,k,h1,h2,h3⟩:=hfm;rw [q0j h1];exact qox m k h2 h3
def qnN {k x:Nat} (hk:k < 3) (hx:x < 18446744073709551616):bl (ofZ (q25 k x)).natAbs≤66000:=by
 by_cases h1:k=1
 ·subst h1;refine qki ?_;unfold q25;rw [if_pos rfl];omega
 by_cases h2:k=2
 ·subst h2;refine qki ?_;unfold q25;rw [if_neg (by omega),if_pos rfl];have h1:x / 9223372036854775808≤1:=by omega
  have h2:x / 256 % 81 < 81:=by omega
  have h3:x / 2251799813685248 % 2≤1:=by omega
  generalize x / 9223372036854775808=a at *;generalize x / 256 % 81=b at *;generalize x / 2251799813685248 % 2=c at *;omega
 have hs:=q7M x;unfold q25;rw [if_neg h1,if_neg h2,if_neg (by omega),q0j (q8r (by omega))];exact qox _ 65536 Oq Oq
def qnI:bl qsA.natAbs≤66000:=by
 have h:=qaB (z:=1) (by have:=q0M (n:=Int.natAbs 1) (k:=1) (by decide); omega);rw [q9x.1] at h;rw [Option.some.inj h];exact qox 1 65536 (by decide) Oq
def gF_bl {raw:List Nat} {R k:Nat} (hk:k < 3) {j i:Nat}:bl (ofZ ((gF raw R k j i).getD 0)).natAbs≤66000:=by
 unfold gF
 split
 ·exact qnN hk (q35 _ _)
 ·rw [Option.getD_none,q0j qbX]; simp [q1V]
def qg0 {raw:List Nat} {R k i:Nat} (hk:k < 3):∀ m,∀ x ∈ dgL (gF raw R k) i m,bl x.natAbs≤66000
 | 0,x,hx=>by unfold dgL at hx; simp at hx; subst hx; exact qnI
 | m+1,x,hx=>by
  unfold dgL at hx
  split at hx
  ·exact qg0 hk m x hx
  ·rcases List.mem_append.1 hx with hx | hx
   ·exact qg0 hk m x hx
   ·simp at hx; subst hx;rw [Int.natAbs_natCast];exact gF_bl hk
def qtU {raw:List Nat} {n k:Nat} (hn:n≤100) (hk:k < 3):TOk (dfF (gF raw n k) n) n n:=by
 have hnn:n*n≤100*100:=Nat.mul_le_mul hn hn;have hG:=qig (raw:=raw) (R:=n) (C:=n) (st:=k) Oq Oq Oq;have key:∀ i,i < n→q0J (fR 2 (q0o (dgL (gF raw n k) i n))):=fun i hi=>by
  have hl:=(qgZ hG hi n (Nat.le_refl _)).1;have h1:=q5p (K:=66000) (qg0 (raw:=raw) (R:=n) (i:=i) hk n) (i:=(dgL (gF raw n k) i n).length) Oq;rw [List.take_length] at h1;obtain ⟨c,hc⟩:∃ c,c=900:=⟨_,rfl⟩;obtain ⟨K,hK⟩:∃ K,K=65536:=⟨_,rfl⟩;refine qsp hK hc (Nat.lt_of_lt_of_le (q28 _) ?_);rw [← Nat.pow_add];exact Nat.pow_le_pow_right Oq Oq
 refine ⟨hG.r,hG.c,hG.m,fun j i x hj hi h=>?_,fun j i x hj hi h=>?_⟩
 ·unfold dfF at h
  split at h
  ·have h:=Option.some.inj h; rw [← h]; exact qaY
  ·exact hG.u j i x hj hi h
 ·unfold dfF at h
  split at h
  ·have h:=Option.some.inj h; rw [← h]; exact key i hi
  ·exact hG.v j i x hj hi h
def qcC {xs:List Nat}:q2m (q0R h0 5000 ⟨30,none,xs.map fun z:Nat=>uv z,false⟩) (.ow 5000 none 0 xs.length)=some (pF xs,[5000]):=by
 unfold q2m;dsimp only;rw [q0I,Option.bind_some,if_pos ⟨rfl,rfl,fun x hx=>by obtain ⟨z,_,rfl⟩:=List.mem_map.1 hx; trivial⟩,List.drop_zero,List.take_of_length_le (by rw [List.length_map]; exact Nat.le_refl _)]
def qj8 {a b:Int}:ACt 253 [iv a,iv b] (bv (decide (a < b))):=by
 have C1:∀ x:Int,ACt 269 [iv x] (bv false):=fun x=>by
  have q:(x != x)=false:=by simp
  refine ac0 Tryz.func269 Tryz.ntmps269 [.tmp 2] ?_;exact wk1 q trivial
 refine ac0 Tryz.func253 Tryz.ntmps253 [.tmp 4] ?_;exact wk trivial
def qaJ {l:List Int} (hl:∀ (i:Nat) (x y:Int),l[i]?=some x→l[i+1]?=some y→x≤y) (hn:l.length≤1000000):ACt 223 [pI l] (bv true):=by
 have C1:=@qj8;refine ac0 Tryz.func223 Tryz.ntmps223 [.tmp 2] ?_;refine wk ?_;refine q0A (fun i:Int=>i < l.length ∧ -1≤i) [0] [] Lk Lk (fun i:Int=>[(3,iv i)]) (fun _=>[]) (fun i=>(i+1).toNat) (l.length-1:Int) ⟨by omega,by omega⟩ ?_ ?_
 ·refine LeM [] rfl rfl ?_;exact Zy
 ·rintro i ⟨hi,h0⟩
  by_cases hlt:i > 0
  ·obtain ⟨k,rfl⟩:∃ k:Nat,i=((k+1:Nat):Int):=⟨(i-1).toNat,by omega⟩;obtain ⟨x,hx⟩:∃ x,l[k]?=some x:=⟨_,List.getElem?_eq_getElem Oq⟩;obtain ⟨y,hy⟩:∃ y,l[k+1]?=some y:=⟨_,List.getElem?_eq_getElem Oq⟩;have:=hl k x y hx hy;have q:¬ y < x:=by omega
   have e:IntKind.i64.wrap (((k+1:Nat):Int)-1)=(k:Int):=by rw [i64_in (by omega) (by omega)]; omega
   refine wk1 (x6 hlt hx hy q e (decide_eq_false q)) ?_;refine ⟨k,⟨by omega,by omega⟩,by omega,?_⟩;refine LeM [] rfl rfl ?_;exact Zy
  ·exact wk1 hlt trivial
def qqm {l:List Int} {a b p:Nat} (h:a+p < b):((l.take b).drop a)[p]?=l[a+p]?:=by
 rw [List.getElem?_drop,List.getElem?_take,if_pos h]
def qcw (ix:List Int) (a k:Nat):Int:=if k=a then -1 else ix.getD (k-1) 0
def qiR {R C:Nat} {st ix:List Int} {vl:List Nat} (hS:MSz R C ix) (hP:MPt C st ix vl) (hI:MIx R st ix):ACt 161 [q2M R C st ix vl] (bv true):=by
 obtain ⟨z1,z2,z3,z4,z5⟩:=hS;have hnn:=hP.nn;have hub:=hP.ub Oq;obtain ⟨p1,p2,p3,p4,p5⟩:=hP;rw [Int.toNat_natCast] at p4;have C1:=qaJ (l:=st) p5 Oq;have hsl:st.length=C+1:=by omega
 have hg:∀ j,j < C→∃ a b:Nat,st[j]?=some (a:Int)∧st[j+1]?=some (b:Int)∧a≤b∧b≤ix.length:=fun j hj=>by
  obtain ⟨x,hx⟩:∃ x,st[j]?=some x:=⟨_,List.getElem?_eq_getElem Oq⟩;obtain ⟨y,hy⟩:∃ y,st[j+1]?=some y:=⟨_,List.getElem?_eq_getElem Oq⟩;have h1:=hnn j x hx;have h2:=p5 j x y hx hy;have h3:=hub (C-(j+1)) (j+1) y (by rw [Int.toNat_natCast]; omega) hy;exact ⟨x.toNat,y.toNat,by rw [hx]; congr 1; omega,by rw [hy]; congr 1; omega,by omega,by omega⟩
 unfold q2M;refine ac0 Tryz.func161 Tryz.ntmps161 [.tmp 2] ?_;refine wk1 (x4 hsl p1 p3 p4) ?_;refine q0A (fun j=>j≤C) [1,2,49] [1] Lk Lk (fun j:Nat=>[(50,iv j)]) (fun _=>[]) (fun j=>C-j) 0 (Nat.zero_le _) ?_ ?_
 ·refine LeM [] rfl rfl ?_;refine Zz ?_
  rfl
 ·intro j hj
  by_cases hlt:j < C
  ·obtain ⟨a,b,g1,g2,g3,g4⟩:=hg j hlt;have es:slP (some 1) (some (iv (a:Int))) (some (iv (b:Int))) (pI ix)=some (pI ((ix.take b).drop a)):=by
    simp [slP,q8J,ksz,List.map_take,List.map_drop];omega
   have hl:((ix.take b).drop a).length=b-a:=by simp; omega
   have wj:(j:Int)+1=((j+1:Nat):Int):=rfl;have ww:IntKind.i64.wrap ((j+1:Nat):Int)=((j+1:Nat):Int):=i64_in Oq Oq;have hsb:=fun p (h:a+p < b)=>qqm (l:=ix) (p:=p) h;generalize (ix.take b).drop a=L at *;refine wk1 (x6 g1 g2 es wj ww hl) ?_;refine q0A (fun t=>t≤b-a) [1,2,3,49,50,66,67] [1] Lk Lk (fun t:Nat=>[(68,iv t),(4,iv (qcw ix a (a+t)))]) (fun _=>[]) (fun t=>b-a-t) 0 (Nat.zero_le _) ?_ ?_
   ·refine LeM [] rfl rfl ?_;refine Zz ?_;unfold qcw;exact ⟨rfl,(if_pos rfl).symm⟩
   ·intro t ht
    by_cases hlt2:t < b-a
    ·obtain ⟨x,hx⟩:∃ x,ix[a+t]?=some x:=⟨_,List.getElem?_eq_getElem Oq⟩;obtain ⟨h1,h2,h3⟩:=hI j _ _ g1 g2 (a+t) Oq Oq x hx;have hx2:=(hsb t Oq).trans hx;have hlast:qcw ix a (a+t) < x∧qcw ix a (a+(t+1))=x:=by
      unfold qcw;rw [if_neg (show ¬ a+(t+1)=a by omega),show a+(t+1)-1=a+t by omega,getD_some hx];refine ⟨?_,rfl⟩
      by_cases h0:t=0
      ·rw [if_pos (by omega)]; omega
      ·obtain ⟨u,hu⟩:∃ u,ix[a+t-1]?=some u:=⟨_,List.getElem?_eq_getElem Oq⟩;rw [if_neg (by omega),getD_some hu];exact h3 Oq u hu
     obtain ⟨q1,q2⟩:=hlast;have q3:¬ x≤qcw ix a (a+t):=by omega
     have q4:¬ (R:Int)≤x:=by omega
     refine wk1 (x3 hx2 q3 q4) ?_;refine ⟨t+1,by omega,by omega,?_⟩;rw [q2];refine LeM [] rfl rfl ?_;refine Zz ?_;omega
    ·have hlt3:¬ (t:Int) < ((b-a:Nat):Int):=by omega
     refine wk1 hlt3 ?_;refine ⟨j+1,by omega,by omega,?_⟩;refine LeM [] rfl rfl ?_;refine Zz ?_;omega
  ·have hlt':¬ (j:Int) < C:=by omega
   exact wk1 hlt' trivial
def qiS {x:Nat} (hx:x < 18446744073709551616):ACt 163 [uv x] (bv (!decide (q0J x))):=by
 have C1:=q4p hx;refine ac0 Tryz.func163 Tryz.ntmps163 [.tmp 2] ?_;exact wk trivial
def qnT {R C:Nat} {st ix:List Int} {vl:List Nat} (h:q2n R C st ix vl=0) (hu:∀ x ∈ vl,x < 18446744073709551616):ACt 105 [q2M R C st ix vl] (iv 0):=by
 unfold q2n at h
 split at h
 ·rename_i hS
  split at h
  ·rename_i hP
   split at h
   ·rename_i hf;have C1:=qiR hS hP.1 hP.2;have hvl:=hP.1.v;obtain ⟨z1,z2,z3,z4,z5⟩:=hS;have C2:=q3C (f:=163) (l:=vl) (fun x hx=>qiS hx) hu Oq;rw [decide_eq_true hf] at C2;have C3:∀ n:Nat,n≤200→ACt 160 [iv n,iv 0,iv 200] (bv true):=fun n hn=>by
     have q1:(0:Int)≤n:=by omega
     have q2:(n:Int)≤200:=by omega
     refine ac0 Tryz.func160 Tryz.ntmps160 [.tmp 6] ?_;exact wk1 (x2 q1 q2) trivial
    unfold q2M at *;refine ac0 Tryz.func105 Tryz.ntmps105 [.tmp 2] ?_;exact wk trivial
   ·cases h
  ·cases h
 ·cases h
def qaw {f:Nat→Nat→Option Nat} {R C:Nat} (h:TOk f R C):ACt 105 [pT R C f] (iv 0):=qnT h.chk h.vl.2.2.2
end Go.Proofs.YtbcmhlhgljoolaaGreatDoor
namespace Go.Sp
open Go.E Go.Proofs.YtbcmhlhgljoolaaGreatDoor
def prL (x y:List Nat) (i:Nat):List Int:=(List.range i).map fun k=>q1M (x.getD k 0) (y.getD k 0)
def q2d (x y:List Nat):Int:=q0o (prL x y x.length)
def lnE (x:List Nat) (t:Nat) (y:List Nat) (k:Nat):Int:=ofZ (x.getD k 0)+q1M t (y.getD k 0)
def lnF (x:List Nat) (t:Nat) (y:List Nat) (i:Nat):List Nat:=(List.range i).map fun k=>fR 0 (lnE x t y k)
def qmx {x y:List Nat} {i:Nat}:prL x y (i+1)=prL x y i ++ [q1M (x.getD i 0) (y.getD i 0)]:=by unfold prL; rw [List.range_succ,List.map_append]; rfl
def lnF_s {x y:List Nat} {t i:Nat}:lnF x t y (i+1)=lnF x t y i ++ [fR 0 (lnE x t y i)]:=by unfold lnF; rw [List.range_succ,List.map_append]; rfl
def q6A {x y:List Nat} {i:Nat}:(prL x y i).length=i:=by simp [prL]
def q2D {x y:List Nat} {t i:Nat}:(lnF x t y i).length=i:=by simp [lnF]
def q2O {l:List Nat} {i:Nat} (h:q0c l):l.getD i 0 < 18446744073709551616∧q0J (l.getD i 0):=q7d h
def qkd {x y:List Nat} (hx:q0c x) (hy:q0c y) {i:Nat}:∀ z ∈ prL x y i,bl z.natAbs≤67600:=fun z hz=>by
 obtain ⟨k,_,rfl⟩:=List.mem_map.1 hz;exact (q04 (q2O hx).2 (q2O hy).2).2
def qbU {x y:List Nat} (hx:q0c x) (hy:q0c y) {i:Nat} (hi:i≤1000):q05 (q0o (prL x y i)):=qbA (qkd hx hy) (by rw [q6A]; omega)
def q3k {x y:List Nat} (hx:q0c x) (hy:q0c y) (hn:x.length≤1000):q05 (q2d x y):=qbU hx hy hn
def qks {x y:List Nat} {t k:Nat} (hx:q0c x) (hy:q0c y) (ht:q0J t):q05 (lnE x t y k):=by
 have h1:=q4F (q2O (i:=k) hx).2;have h2:=(q04 ht (q2O (i:=k) hy).2).2;unfold q05 lnE;have:=qa6 h1 h2;omega
def q3Z {f:Nat} (h:q0J f):q05 (ofZ f):=by
 have:=q4F h;unfold q05;omega
end Go.Sp
namespace Go.Proofs.YtbcmhlhgljoolaaGreatDoor
open Go Go.E Go.Sp
def qsF {V:Int} (ho:q05 V):Nz (dT V):=fun w D B v hB h=>(q2h.2 (q7U (qkk w D B v hB (q9p (q2h.1 ⟨h,ho⟩))))).1
section
variable {x y:List Nat} {t:Nat}
def q6I (hx:q0c x) (hy:q0c y) (hn:x.length≤1000) (hl:y.length=x.length):ACt 77 [pF x,pF y] (dT (q2d x y)):=by
 have hpl:=fun i=>q6A (x:=x) (y:=y) (i:=i);refine ac0 Tryz.func77 Tryz.ntmps77 [.cell 4 74] ?_;refine wk ?_;refine q0A (fun i=>i≤x.length) [0,1,4,8] [4] Lk Lk (fun i:Nat=>[(9,iv i),(5,.ow 1001 (some 4) 0 i)]) (fun i=>[(1001,⟨74,some 4,(prL x y i).map fun V=>pV V,false⟩)]) (fun i=>x.length-i) 0 (Nat.zero_le _) ?_ ?_
 ·refine LeM [(1001,none)] rfl rfl ?_;refine Zz ?_;exact ⟨rfl,rfl⟩
 ·intro i hi
  by_cases hlt:i < x.length
  ·obtain ⟨u,hu⟩:∃ u,x[i]?=some u:=⟨_,List.getElem?_eq_getElem hlt⟩;obtain ⟨v,hv⟩:∃ v,y[i]?=some v:=⟨_,List.getElem?_eq_getElem Oq⟩;obtain ⟨u1,u2⟩:=hx u (List.mem_of_getElem? hu);obtain ⟨v1,v2⟩:=hy v (List.mem_of_getElem? hv);have C1:=q3B u1 (q0Q u2);have C2:=q3B v1 (q0Q v2);have C3:=qew (q5j (q3Z u2) (q3Z v2) (q04 u2 v2).1) (q31 (q04 u2 v2).1).2.2.2;have es:=@qmx x y i;rw [getD_some hu,getD_some hv] at es;refine wk1 (x3 hu hv (hpl i)) ?_;refine ⟨i+1,by omega,by omega,?_⟩;rw [es,List.map_append];refine LeM [(1001,some 25)] rfl rfl ?_;refine Zz ?_;exact ⟨by omega,q2G (q0Y rfl clV) (q0Y rfl (clV (l:=[_])))⟩
  ·obtain rfl:i=x.length:=by omega
   have C1:=q90 (l:=prL x y x.length) (by rw [q6A]; exact hn) (fun z hz=>by have:=qkd hx hy z hz; unfold q05; omega) (qbU hx hy hn);have N1:=qsF (qbU hx hy hn);unfold q2d;exact wk1 (hpl x.length) trivial
def q6x (hx:q0c x) (hy:q0c y) (hn:x.length≤1000) (hl:y.length=x.length):ACt 86 [pF x,pF y] (pV (q2d x y)):=by
 have hpl:=fun i=>q6A (x:=x) (y:=y) (i:=i);refine ac0 Tryz.func86 Tryz.ntmps86 [.cell 4 74] ?_;refine wk ?_;refine q0A (fun i=>i≤x.length) [0,1,4] [4] Lk Lk (fun i:Nat=>[(6,iv i),(5,.ow 1001 (some 4) 0 i)]) (fun i=>[(1001,⟨74,some 4,(prL x y i).map fun V=>pV V,false⟩)]) (fun i=>x.length-i) 0 (Nat.zero_le _) ?_ ?_
 ·refine LeM [(1001,none)] rfl rfl ?_;refine Zz ?_;exact ⟨rfl,rfl⟩
 ·intro i hi
  by_cases hlt:i < x.length
  ·obtain ⟨u,hu⟩:∃ u,x[i]?=some u:=⟨_,List.getElem?_eq_getElem hlt⟩;obtain ⟨v,hv⟩:∃ v,y[i]?=some v:=⟨_,List.getElem?_eq_getElem Oq⟩;obtain ⟨u1,u2⟩:=hx u (List.mem_of_getElem? hu);obtain ⟨v1,v2⟩:=hy v (List.mem_of_getElem? hv);have C3:=q2V u1 v1 (q0Q u2) (q0Q v2) (q04 u2 v2).1;have es:=@qmx x y i;rw [getD_some hu,getD_some hv] at es;refine wk1 (x3 hu hv (hpl i)) ?_;refine ⟨i+1,by omega,by omega,?_⟩;rw [es,List.map_append];refine LeM [(1001,some 24)] rfl rfl ?_;refine Zz ?_;exact ⟨by omega,q2G (q0Y rfl clV) (q0Y rfl (clV (l:=[_])))⟩
  ·obtain rfl:i=x.length:=by omega
   have C1:=q7n (l:=prL x y x.length) (by rw [q6A]; exact hn) (qbU hx hy hn);have N1:=qkk (V:=q0o (prL x y x.length));unfold q2d;exact wk1 (hpl x.length) trivial
def lnR (l:List Nat):PV:=.tu [pF l,bv (decide (∀ x ∈ l,q0J x))]
def q7a {c:Int} (hc:c=ofZ t) (hx:q0c x) (hy:q0c y) (ht:q0J t) (hn:x.length≤1000) (hl:y.length=x.length):ACt 141 [pF x,dT c,pF y] (lnR (lnF x t y x.length)):=by
 subst hc;have hpl:=fun i=>q2D (x:=x) (y:=y) (t:=t) (i:=i);have hfu:∀ z ∈ lnF x t y x.length,z < 18446744073709551616:=fun z hz=>by
  obtain ⟨k,_,rfl⟩:=List.mem_map.1 hz;exact qaY
 have C7:=q3P hfu (by rw [hpl]; omega);unfold lnR;have N1:Nz (bv (decide (∀ z ∈ lnF x t y x.length,q0J z))):=qsE;generalize decide (∀ z ∈ lnF x t y x.length,q0J z)=b at *;refine ac0 Tryz.func141 Tryz.ntmps141 [.tmp 6,.tmp 7] ?_;refine wk ?_;refine q0A (fun i=>i≤x.length) [0,2,4,11] [4] Lk Lk (fun i:Nat=>[(12,iv i),(8,.ow 1001 none 0 i)]) (fun i=>[(1001,⟨30,none,(lnF x t y i).map fun z:Nat=>uv z,false⟩)]) (fun i=>x.length-i) 0 (Nat.zero_le _) ?_ ?_
 ·refine LeM [(1001,none)] rfl rfl ?_;refine Zz ?_;exact ⟨rfl,rfl⟩
 ·intro i hi
  by_cases hlt:i < x.length
  ·obtain ⟨u,hu⟩:∃ u,x[i]?=some u:=⟨_,List.getElem?_eq_getElem hlt⟩;obtain ⟨v,hv⟩:∃ v,y[i]?=some v:=⟨_,List.getElem?_eq_getElem Oq⟩;obtain ⟨u1,u2⟩:=hx u (List.mem_of_getElem? hu);obtain ⟨v1,v2⟩:=hy v (List.mem_of_getElem? hv);have C1:=q3B u1 (q0Q u2);have C2:=q3B v1 (q0Q v2);have hm:=q04 ht v2;have C3:=q5j (q3Z ht) (q3Z v2) hm.1;have es:=@lnF_s x y t i;have hd:=qks (k:=i) hx hy ht;unfold lnE at es hd;rw [getD_some hu,getD_some hv] at es hd;have C4:=qlw (q3Z u2) (q31 hm.1).2.2.2 hd;have C5:=q8w hd;refine wk1 (x3 hu hv (hpl i)) ?_;refine ⟨i+1,by omega,by omega,?_⟩;rw [es];refine LeM [(1001,some 31)] rfl rfl ?_;refine Zz ?_;omega
  ·obtain rfl:i=x.length:=by omega
   exact wk1 (hpl x.length) trivial
noncomputable def lnZ (l:List Nat):PV:=open Classical in if ∀ x ∈ l,q0J x then .tu [pF l,bv true] else .tu [pF [],bv false]
end
end Go.Proofs.YtbcmhlhgljoolaaGreatDoor
namespace Go.E
open Go Go.RowKit
section
variable {J:Nat→Prop} {s:Nat→PV} {h:Hp} {T1 T2:TypeId} {K:Kd} {N R n:Nat} {row:Nat→List PV}
def q8H (T1 T2:TypeId) (K:Kd) (N R n:Nat) (row:Nat→List PV):Hp:=fun i =>
 if i=N then some ⟨T1,none,(List.range n).map fun j=>.ow (j+R) K 0 (row j).length,false⟩
 else if R≤i∧i < R+n then some ⟨T2,K,row (i-R),false⟩ else none
def qqf:q8H T1 T2 K N R n row N=some ⟨T1,none,(List.range n).map fun j=>.ow (j+R) K 0 (row j).length,false⟩:=if_pos rfl
def qav {j:Nat} (hN:N < R) (hj:j < n):q8H T1 T2 K N R n row (j+R)=some ⟨T2,K,row j,false⟩:=by
 unfold q8H;rw [if_neg (by omega),if_pos (by omega),Nat.add_sub_cancel]
attribute [go_sem ↓] qqf qav
def q3y {i:Nat} {b:Bk} (hb:q8H T1 T2 K N R n row i=some b):(i=N∧b=⟨T1,none,(List.range n).map fun j=>.ow (j+R) K 0 (row j).length,false⟩)∨(R≤i∧i < R+n∧b=⟨T2,K,row (i-R),false⟩):=by
 unfold q8H at hb
 split at hb
 ·cases hb; exact .inl ⟨‹_›,rfl⟩
 ·split at hb
  ·rename_i hi; cases hb; exact .inr ⟨hi.1,hi.2,rfl⟩
  ·cases hb
def qhc {p:Nat→Prop} (hp:∀ j,j < n→p (j+R)):IdL p ((List.range n).map fun j=>.ow (j+R) K 0 (row j).length):=IdL.of fun x hx=>by
 obtain ⟨z,hz,rfl⟩:=List.mem_map.1 hx;unfold IdP; exact hp z (List.mem_range.1 hz)
def qmR (hrow:∀ j,∀ p,IdL p (row j)) (hN:5000≤N) (hNR:N < R) (hR:R+n≤1000000):WfH (q8H T1 T2 K N R n row):=⟨fun i b hb=>by
 rcases q3y hb with ⟨_,rfl⟩ | ⟨h1,h2,rfl⟩
 ·refine ⟨rfl,qhc fun j hj=>⟨⟨by omega,by omega⟩,?_⟩⟩;rw [qav hNR hj]; exact Option.some_ne_none _
 ·exact ⟨rfl,hrow _ _⟩⟩
def tnG (N R n o:Nat):Nat→Option Nat:=fun i=>if i=N then some o else if R≤i∧i < R+n then none else some i
def qq4 {o i:Nat} (h1:i < N) (h2:i < R):tnG N R n o i=some i:=by
 unfold tnG;rw [if_neg (by omega),if_neg (by omega)]
attribute [go_sem ↓] qq4
def qhb {o:Nat} (hJ:∀ i,¬ J i) (ho:h o=some ⟨T1,none,List.replicate n (.vl (.slice none 0 0)),false⟩) (h5:o < 5000) (hN:5000≤N) (hNR:N < R) (hR:R+n≤1000000) {xs kv:List (Nat × PV)} {kb:List (Nat × Option Bk)} (hn:nmW o o (kb.map (·.1)))
  (hh:q4u (tnG N R n o) h (q0w (q8H T1 T2 K N R n fun _=>[]) (hpM [] kb)) s xs∧q4u (tnG N R n o) h (q0w (q8H T1 T2 K N R n fun _=>[]) (hpM [] kb)) s kv∧q9V (tnG N R n o) h (q0w (q8H T1 T2 K N R n fun _=>[]) (hpM [] kb)) kb):Le J s h (stM xs kv) (q0w (q8H T1 T2 K N R n fun _=>[]) (hpM [] kb)):=by
 obtain ⟨h1,h2,h4⟩:=hh;have tN:tnG N R n o N=some o:=if_pos rfl;have tR:∀ i,R≤i→i < R+n→tnG N R n o i=none:=fun i a b=>by unfold tnG; rw [if_neg (by omega),if_pos ⟨a,b⟩]
 have tI:∀ i,i < 5000→tnG N R n o i=some i:=fun i a=>by unfold tnG; rw [if_neg (by omega),if_neg (by omega)]
 have key:∀ i b,q0w (q8H T1 T2 K N R n fun _=>[]) (hpM [] kb) i=some b→i=N∨(R≤i∧i < R+n)∨(i < 5000∧i≠o):=fun i b hb=>by
  by_cases hi:win i
  ·rw [q0a hi] at hb
   rcases q3y hb with ⟨e,_⟩ | ⟨q1,q2,_⟩
   ·exact .inl e
   ·exact .inr (.inl ⟨q1,q2⟩)
  ·rw [q0t hi] at hb;have:=q3b hn i (q2A h4 i b hb).2;exact .inr (.inr ⟨this.1,this.2.1⟩)
 refine q2b (tnG N R n o) (fun i b hb=>?_) (fun i j k' b c hi hj ti tj=>?_) (fun t=>q3I h2 h1 t) fun i hi=>(hJ i hi).elim
 ·by_cases hi:win i
  ·rw [q0a hi] at hb
   rcases q3y hb with ⟨rfl,rfl⟩ | ⟨q1,q2,rfl⟩
   ·unfold LeB;rw [tN];refine ⟨_,ho,rfl,rfl,⟨rfl,rfl⟩,?_⟩;rw [q4j];refine ⟨by simp,fun c x y hx hy=>?_⟩;have hc:c < n:=by have:=(List.getElem?_eq_some_iff.1 hy).1; simpa using this
    rw [List.getElem?_map,List.getElem?_range hc,Option.map_some] at hx hy;cases hx; cases hy;exact .nilow (tR _ (by omega) (by omega)) (by rw [q0a ⟨by omega,by omega⟩]; exact qav hNR hc) rfl
   ·unfold LeB;rw [tR i q1 q2]
  ·rw [q0t hi] at hb;exact (q2A h4 i b hb).1
 ·rcases key i b hi with rfl | ⟨a1,a2⟩ | ⟨a1,a2⟩ <;> rcases key j c hj with rfl | ⟨b1,b2⟩ | ⟨b1,b2⟩
  ·rfl
  ·rw [tR _ b1 b2] at tj; cases tj
  ·rw [tN] at ti; rw [tI _ b1] at tj; cases ti; cases tj; exact (b2 rfl).elim
  ·rw [tR _ a1 a2] at ti; cases ti
  ·rw [tR _ a1 a2] at ti; cases ti
  ·rw [tR _ a1 a2] at ti; cases ti
  ·rw [tI _ a1] at ti; rw [tN] at tj; cases ti; cases tj; exact (a2 rfl).elim
  ·rw [tR _ b1 b2] at tj; cases tj
  ·rw [tI _ a1] at ti; rw [tI _ b1] at tj; cases ti; cases tj; rfl
def q4B (row:Nat→List PV) (k:Nat) (x:PV):Nat→List PV:=fun j=>if j=k then row k ++ [x] else row j
def q8T {r k:Nat} {x:PV} (hJ:∀ i,¬ J i) (hk:k < n) (hcl:∀ j,ClL (q4B row k x j)) (ho:h N=some ⟨T1,none,((List.range n).map fun j=>.ow (j+R) K 0 (row j).length).set k (.ow r K 0 ((row k).length+1)),false⟩) (hr:h r=some ⟨T2,K,row k ++ [x],false⟩)
  (hrow:∀ j,j < n→j≠k→h (j+R)=some ⟨T2,K,row j,false⟩) (h6:r < 5000) (hN:5000≤N) (hNR:N < R) (hR:R+n≤1000000) {xs kv:List (Nat × PV)} {kb:List (Nat × Option Bk)} (hn:nmW r r (kb.map (·.1)))
  (hh:q4u (tnU (k+R) r) h (q0w (q8H T1 T2 K N R n (q4B row k x)) (hpM [] kb)) s xs∧q4u (tnU (k+R) r) h (q0w (q8H T1 T2 K N R n (q4B row k x)) (hpM [] kb)) s kv∧q9V (tnU (k+R) r) h (q0w (q8H T1 T2 K N R n (q4B row k x)) (hpM [] kb)) kb):Le J s h (stM xs kv) (q0w (q8H T1 T2 K N R n (q4B row k x)) (hpM [] kb)):=by
 obtain ⟨q1,q2,q4⟩:=hh;have tK:tnU (k+R) r (k+R)=some r:=if_pos rfl;have tI:∀ i,i≠k+R→tnU (k+R) r i=some i:=fun i a=>if_neg a;have key:∀ i b,q0w (q8H T1 T2 K N R n (q4B row k x)) (hpM [] kb) i=some b→i≠r:=fun i b hb=>by
  by_cases hi:win i
  ·unfold win at hi; omega
  ·rw [q0t hi] at hb;exact (q3b hn i (q2A q4 i b hb).2).2.1
 refine q2b (tnU (k+R) r) (fun i b hb=>?_) (fun i j k' b c hi hj ti tj=>?_) (fun t=>q3I q2 q1 t) fun i hi=>(hJ i hi).elim
 ·by_cases hi:win i
  ·rw [q0a hi] at hb
   rcases q3y hb with ⟨rfl,rfl⟩ | ⟨a1,a2,rfl⟩
   ·unfold LeB;rw [tI i (by omega)];refine ⟨_,ho,rfl,rfl,⟨rfl,rfl⟩,by simp,fun c u v hx hy=>?_⟩;have hc:c < n:=by have:=(List.getElem?_eq_some_iff.1 hy).1; simpa using this
    rw [List.getElem?_map,List.getElem?_range hc,Option.map_some] at hy;cases hy;rw [List.getElem?_set] at hx;have hex:∃ b,q0w (q8H T1 T2 K i R n (q4B row k x)) (hpM [] kb) (c+R)=some b:=⟨_,by rw [q0a ⟨by omega,by omega⟩,qav hNR hc]⟩;obtain ⟨bb,hbb⟩:=hex
    by_cases hck:k=c
    ·subst hck;rw [if_pos rfl,if_pos (by simpa using hc)] at hx;cases hx;rw [show (q4B row k x k).length=(row k).length+1 by unfold q4B; rw [if_pos rfl,List.length_append]; rfl];exact .ow tK hbb
    ·rw [if_neg hck,List.getElem?_map,List.getElem?_range hc,Option.map_some] at hx;cases hx;rw [show q4B row k x c=row c from if_neg (Ne.symm hck)];exact .ow (tI _ Oq) hbb
   ·by_cases e:i=k+R
    ·subst e;unfold LeB;rw [tK,Nat.add_sub_cancel];have e2:q4B row k x k=row k ++ [x]:=if_pos rfl;refine ⟨_,hr,rfl,rfl,⟨rfl,rfl⟩,q0Y e2.symm (hcl k)⟩
    ·unfold LeB;rw [tI i e];have:=hrow (i-R) Oq Oq;rw [Nat.sub_add_cancel a1] at this;have e2:q4B row k x (i-R)=row (i-R):=if_neg Oq;refine ⟨_,this,rfl,rfl,⟨rfl,rfl⟩,q0Y e2.symm (hcl _)⟩
  ·rw [q0t hi] at hb;exact (q2A q4 i b hb).1
 ·have a1:=key i b hi;have a2:=key j c hj;unfold tnU at ti tj
  split at ti <;> split at tj <;> cases ti <;> cases tj <;> first | omega | rfl | exact (a1 rfl).elim | exact (a2 rfl).elim
end
end Go.E
namespace Go.Sp
open Go.E Go.Proofs.YtbcmhlhgljoolaaGreatDoor
def sg (g:Nat→Int):Nat→Int
 | 0=>0
 | n+1=>sg g n+g n
def q4A {g h:Nat→Int}:∀ n,(∀ i,i < n→g i=h i)→sg g n=sg h n
 | 0,_=>rfl
 | n+1,e=>by rw [sg,sg,q4A n fun i hi=>e i (by omega),e n (by omega)]
def qbL {g h:Nat→Int}:∀ n,sg (fun i=>g i+h i) n=sg g n+sg h n
 | 0=>rfl
 | n+1=>by rw [sg,sg,sg,qbL n]; omega
def qeW {g:Nat→Int}:∀ n,(∀ i,i < n→g i=0)→sg g n=0
 | 0,_=>rfl
 | n+1,e=>by rw [sg,qeW n fun i hi=>e i (by omega),e n (by omega)]; rfl
def qeX {g:Nat→Int} {r:Nat}:∀ n,sg (fun i=>if r=i then g i else 0) n=if r < n then g r else 0
 | 0=>by rw [if_neg (by omega)]; rfl
 | n+1=>by
  rw [sg,qeX n]
  by_cases h:r=n
  ·subst h; rw [if_neg (by omega),if_pos rfl,if_pos (by omega)]; omega
  ·rw [if_neg h]
   by_cases h2:r < n
   ·rw [if_pos h2,if_pos (by omega)]; omega
   ·rw [if_neg h2,if_neg (by omega)]; rfl
def qkc {x y:List Nat}:∀ i,q0o (prL x y i)=sg (fun k=>q1M (x.getD k 0) (y.getD k 0)) i
 | 0=>rfl
 | i+1=>by rw [qmx,q1A,qkc i,sg]
def qfG {y:Nat}:q1M 0 y=0:=by
 unfold q1M;rw [show ofZ 0=0 from q0j (by unfold ofF; rw [if_neg (by decide),if_pos (by decide),show sgn (decide (9223372036854775808≤0)) (0 % 4503599627370496)=0 from rfl,Int.zero_mul]),Int.zero_mul,q1s]
 rfl
section
variable {f:Nat→Nat→Option Nat} {x:List Nat} {n J r:Nat} {rows:Nat→List Int}
def qdZ (f:Nat→Nat→Option Nat) (n r:Nat):List Nat:=(List.range n).map fun j=>(f (min r j) (max r j)).getD 0
def q2L (f:Nat→Nat→Option Nat) (x:List Nat) (n i:Nat):List Nat:=(List.range i).map fun r=>fR 0 (q2d (qdZ f n r) x)
def ce (x:List Nat) (J:Nat) (e:Nat × Nat) (r:Nat):Int:=if J≤e.1 then (if r=e.1 then q1M e.2 (x.getD J 0) else 0)+(if r=J∧J < e.1 then q1M e.2 (x.getD e.1 0) else 0) else 0
def q2U (rows:Nat→List Int) (k:Nat) (z:Int):Nat→List Int:=fun j=>if j=k then rows k ++ [z] else rows j
def apZ (x:List Nat) (J:Nat) (e:Nat × Nat) (rows:Nat→List Int):Nat→List Int :=
 if J≤e.1 then (if J < e.1 then q2U (q2U rows e.1 (q1M e.2 (x.getD J 0))) J (q1M e.2 (x.getD e.1 0)) else q2U rows e.1 (q1M e.2 (x.getD J 0))) else rows
def q5i {k:Nat} {z:Int}:q0o (q2U rows k z r)=q0o (rows r)+if r=k then z else 0:=by
 unfold q2U
 by_cases h:r=k
 ·subst h; rw [if_pos rfl,if_pos rfl,q1A]
 ·rw [if_neg h,if_neg h]; omega
def qpJ {e:Nat × Nat}:q0o (apZ x J e rows r)=q0o (rows r)+ce x J e r:=by
 unfold apZ ce
 by_cases h:J≤e.1
 ·rw [if_pos h,if_pos h]
  by_cases h2:J < e.1
  ·rw [if_pos h2,q5i,q5i]
   by_cases h3:r=J
   ·rw [if_pos h3,if_pos (And.intro h3 h2:r=J∧J < e.1)]; omega
   ·rw [if_neg h3,if_neg (show ¬ (r=J∧J < e.1) from fun q=>h3 q.1)]; omega
  ·rw [if_neg h2,q5i,if_neg (show ¬ (r=J∧J < e.1) from fun q=>h2 q.2)]; omega
 ·rw [if_neg h,if_neg h]; omega
structure RI (x:List Nat) (n:Nat) (rows:Nat→List Int) (S:Nat→Int) (m:Nat):Prop where
 s:∀ r,r < n→q0o (rows r)=S r
 l:∀ r,(rows r).length≤m
 b:∀ r,∀ z ∈ rows r,bl z.natAbs≤67600
def qai {k m:Nat} {z:Int} (hl:∀ r,(rows r).length≤m) (hb:∀ r,∀ z ∈ rows r,bl z.natAbs≤67600) (hz:bl z.natAbs≤67600):(∀ r,(q2U rows k z r).length≤m+1)∧∀ r,∀ y ∈ q2U rows k z r,bl y.natAbs≤67600:=by
 unfold q2U;refine ⟨fun r=>?_,fun r y hy=>?_⟩
 ·have h1:=hl r; have h2:=hl k
  split
  ·simp; omega
  ·omega
 ·split at hy
  ·rcases List.mem_append.1 hy with hy | hy
   ·exact hb k y hy
   ·simp at hy; subst hy; exact hz
  ·exact hb r y hy
def RI.step {S:Nat→Int} {m:Nat} {e:Nat × Nat} (h:RI x n rows S m) (hx:q0c x) (he:q0J e.2):RI x n (apZ x J e rows) (fun r=>S r+ce x J e r) (m+2):=by
 have h1:=(q04 he (q2O (i:=J) hx).2).2;have h2:=(q04 he (q2O (i:=e.1) hx).2).2;have b1:=qai (k:=e.1) h.l h.b h1;have b2:=qai (k:=J) b1.1 b1.2 h2;refine ⟨fun r hr=>by rw [qpJ,h.s r hr],fun r=>?_,fun r z hz=>?_⟩
 ·unfold apZ;have:=b1.1 r;have:=b2.1 r;have:=h.l r
  split
  ·split <;> omega
  ·omega
 ·unfold apZ at hz
  split at hz
  ·split at hz
   ·exact b2.2 r z hz
   ·exact b1.2 r z hz
  ·exact h.b r z hz
def qa1:∀ i,q0o ((tZ f J i).map fun e=>ce x J e r)=sg (fun i=>ce x J (i,(f J i).getD 0) r) i
 | 0=>rfl
 | i+1=>by
  rw [qqh,List.map_append,sg];cases h:f J i with
  | none =>
   rw [List.map_nil,List.append_nil,qa1 i];have:ce x J (i,(none:Option Nat).getD 0) r=0:=by
    unfold ce;simp only [Option.getD_none,qfG]
    split
    ·split <;> split <;> rfl
    ·rfl
   omega
  | some v=>rw [List.map_singleton,q1A,qa1 i]; rfl
def qpU (hr:r < n) (hx:x.length=n):sg (fun J=>sg (fun i=>ce x J (i,(f J i).getD 0) r) n) n=q2d (qdZ f n r) x:=by
 have h1:∀ J,J < n→sg (fun i=>ce x J (i,(f J i).getD 0) r) n=(if J≤r then q1M ((f J r).getD 0) (x.getD J 0) else 0)+if r=J then sg (fun i=>if r < i then q1M ((f r i).getD 0) (x.getD i 0) else 0) n else 0:=fun J hJ=>by
  have e1:sg (fun i=>ce x J (i,(f J i).getD 0) r) n=sg (fun i=>(if r=i then (if J≤i then q1M ((f J i).getD 0) (x.getD J 0) else 0) else 0)+if r=J∧J < i then q1M ((f J i).getD 0) (x.getD i 0) else 0) n:=q4A n fun i _=>by
   unfold ce;dsimp only
   by_cases hJi:J≤i
   ·rw [if_pos hJi,if_pos hJi]
   ·rw [if_neg hJi,if_neg hJi,if_neg (by omega:¬ (r=J∧J < i))]; split <;> rfl
  rw [e1,qbL,qeX,if_pos hr]
  congr 1
  by_cases hrJ:r=J
  ·subst hrJ;rw [if_pos rfl];exact q4A n fun i _=>by by_cases h:r < i <;> simp [h]
  ·rw [if_neg hrJ];exact qeW n fun i _=>if_neg fun q=>hrJ q.1
 rw [q4A n h1,qbL];have h2:=qeX (r:=r) (g:=fun _=>sg (fun i=>if r < i then q1M ((f r i).getD 0) (x.getD i 0) else 0) n) n;rw [if_pos hr] at h2;rw [h2,← qbL];unfold q2d;rw [show (qdZ f n r).length=n by simp [qdZ],qkc];refine q4A n fun j hj=>?_;have e:(qdZ f n r).getD j 0=(f (min r j) (max r j)).getD 0:=by
  unfold qdZ;rw [List.getD_eq_getElem?_getD,List.getElem?_map,List.getElem?_range hj]; rfl
 rw [e]
 by_cases h:j≤r
 ·rw [if_pos h,if_neg (by omega),Nat.min_eq_right h,Nat.max_eq_left h]; omega
 ·rw [if_neg h,if_pos (by omega),Nat.min_eq_left (by omega),Nat.max_eq_right (by omega)]; omega
end
end Go.Sp
namespace Go.Proofs.YtbcmhlhgljoolaaGreatDoor
open Go Go.E Go.Sp
abbrev qr5 (rows:Nat→List Int):Nat→List PV:=fun r=>(rows r).map fun V=>pV V
abbrev qqg (n:Nat) (rows:Nat→List Int):Hp:=q8H 125 74 (some 4) 5000 10000 n (qr5 rows)
def q4C {rows:Nat→List Int} {k:Nat} {z:Int}:q4B (qr5 rows) k (pV z)=qr5 (q2U rows k z):=by
 funext j
 unfold q4B q2U qr5
 by_cases h:j=k <;> simp [h]
def idV {l:List Int} {p:Nat→Prop}:IdL p (l.map fun V=>pV V):=IdL.of fun x hx=>by
 obtain ⟨z,_,rfl⟩:=List.mem_map.1 hx;unfold IdP; trivial
def q38 {n:Nat} {rows:Nat→List Int} (hn:n≤1000):WfH (qqg n rows):=qmR (fun _ _=>idV) Oq Oq Oq
section
variable {f:Nat→Nat→Option Nat} {x:List Nat} {n:Nat}
def q8h (h:TOk f n n) (hx:q0c x) (hxl:x.length=n) (hn:n≤20):ACt 107 [pT n n f,pF x] (lnR (q2L f x n n)):=by
 have hml:=q18 (f:=f) (R:=n) n;have hg:=fun j hj=>q2K (f:=f) (R:=n) (C:=n) (j:=j) hj;have hix:=fun j k hj h1 h2=>q9b (f:=f) (R:=n) (C:=n) (j:=j) (k:=k) hj h1 h2;have hos:=fun j=>qhg (f:=f) (R:=n) (j:=j);obtain ⟨o,ho⟩:∃ o,o=tO f n:=⟨_,rfl⟩;have h4:=h.m;unfold pT;rw [← ho] at hg hix hos;generalize (tM f n n).1=st at *;generalize (tM f n n).2.1=ix at *;generalize (tM f n n).2.2=vl at *;obtain ⟨m1,m2,m3⟩:=hml;unfold q2M;refine ac0 Tryz.func107 Tryz.ntmps107 [.tmp 4,.tmp 5] ?_;refine wk1 hxl ?_;refine q3J (qhb (o:=16) (N:=5000) (R:=10000) (n:=n) (T1:=125) (T2:=74) (K:=some 4) (fun _ h=>h) ?_ (by omega) (by omega) (by omega) (by omega) (xs:=[(1,pF x),(2,.pt 2 0 0),(6,.ow 5000 none 0 n),(18,iv n),(19,iv 0)]) (kv:=[]) (kb:=[(2,some ⟨52,some 5,[.ag [iv n,iv n,pI st,pI ix,pF vl]],false⟩)]) (by simp [nmW]) ?_) ?_
 ·try simp -implicitDefEqProofs (disch:=omega) only [go_sem,Nat.reduceEqDiff,Nat.reduceAdd,↓reduceIte]
 ·try refine Zz ?_
  exact if_pos rfl
 refine q00 (fun q:Nat × (Nat→List Int)=>q.1≤n∧RI x n q.2 (fun r=>sg (fun J=>sg (fun i=>ce x J (i,(f J i).getD 0) r) n) q.1) (q.1*(2*n))) [1,2,6,18] [2] Lk Lk (fun q=>[(19,iv q.1)]) (fun _=>[]) (fun q=>qqg n q.2) (fun q=>n-q.1) (0,fun _=>[]) ⟨Nat.zero_le _,fun _ _=>rfl,fun _=>Nat.zero_le _,fun _ z hz=>by cases hz⟩ ?_ ?_
 ·refine LeW [] rfl rfl ?_ ?_ (by simp [q1o,q1Q,win]) ?_
  ·exact Ow
  ·exact q38 Oq
  ·try refine Zz ?_
   rfl
 ·rintro ⟨J,rows⟩ ⟨hJ,hI⟩;simp only at hJ hI ⊢
  by_cases hlt:J < n
  ·have hlt':(J:Int) < n:=by omega
   have g1:=hg J Oq;have g2:=hg (J+1) Oq;have oJ:=hos J;have ww:IntKind.i64.wrap ((J:Int)+1)=((J+1:Nat):Int):=by rw [i64_in (by omega) (by omega)]; omega
   have hZ:=fun k v=>q3z (f:=f) (j:=J) (i:=n) (k:=k) (x:=v);obtain ⟨L,hL⟩:∃ L,L=tZ f J n:=⟨_,rfl⟩;have hLn:L.length≤n:=by rw [hL]; unfold tZ; exact Nat.le_trans (List.length_filterMap_le _ _) (by simp)
   have hcs:=fun r=>qa1 (f:=f) (x:=x) (J:=J) (r:=r) n;have hixJ:=hix J;rw [← hL] at oJ hZ hcs hixJ;clear hL;obtain ⟨y1,hx1⟩:∃ v,x[J]?=some v:=⟨_,List.getElem?_eq_getElem Oq⟩;obtain ⟨u1,u2⟩:=hx y1 (List.mem_of_getElem? hx1);refine wk1 (x2 hlt' g1) ?_;refine q00 (fun q:Nat × (Nat→List Int)=>q.1≤L.length∧RI x n q.2 (fun r=>sg (fun J=>sg (fun i=>ce x J (i,(f J i).getD 0) r) n) J+q0o ((L.take q.1).map fun e=>ce x J e r)) (J*(2*n)+2*q.1)) [1,2,6,7,18,19] [2] Lk Lk (fun q=>[(8,iv ((o J+q.1:Nat):Int))]) (fun _=>[]) (fun q=>qqg n q.2) (fun q=>L.length-q.1) (0,rows) ⟨Nat.zero_le _,by simpa [qbB] using hI⟩ ?_ ?_
   ·refine LeW [] rfl rfl ?_ ?_ (by simp [q1o,q1Q,win]) ?_
    ·exact Ow
    ·exact q38 Oq
    ·try simp -implicitDefEqProofs (disch:=omega) only [go_sem,Nat.reduceEqDiff,Nat.reduceAdd,↓reduceIte]
   ·rintro ⟨t,rows⟩ ⟨ht,hI⟩;simp only at ht hI ⊢
    by_cases hlt2:t < L.length
    ·obtain ⟨⟨i,v⟩,e1,e2,e3⟩:=hixJ (o J+t) Oq Oq Oq;rw [Nat.add_sub_cancel_left] at e1;dsimp only at e2 e3;obtain ⟨hin,hfv⟩:=(hZ i v).1 (List.mem_of_getElem? e1);have hv1:=h.u J i v hlt hin hfv;have hv2:=h.v J i v hlt hin hfv;have hq:((o J+t:Nat):Int) < ((o (J+1):Nat):Int):=by omega
     have C1:=q3B hv1 (q0Q hv2);have C2:=q3B u1 (q0Q u2);obtain ⟨y2,hx2⟩:∃ v,x[i]?=some v:=⟨_,List.getElem?_eq_getElem Oq⟩;obtain ⟨w1,w2⟩:=hx y2 (List.mem_of_getElem? hx2);have C3:=q3B w1 (q0Q w2);have M1:=q04 hv2 u2;have M2:=q04 hv2 w2;have C4:=qew (q5j (q3Z hv2) (q3Z u2) M1.1) (q31 M1.1).2.2.2;have C5:=qew (q5j (q3Z hv2) (q3Z w2) M2.1) (q31 M2.1).2.2.2;have hI2:=hI.step (J:=J) (e:=(i,v)) hx hv2;have hI3:RI x n (apZ x J (i,v) rows) (fun r=>sg (fun J=>sg (fun i=>ce x J (i,(f J i).getD 0) r) n) J+q0o ((L.take (t+1)).map fun e=>ce x J e r)) (J*(2*n)+2*(t+1)) :=
      ⟨fun r hr=>by rw [hI2.s r hr,q2q e1,List.map_append,List.map_singleton,q1A]; omega,fun r=>by have:=hI2.l r; omega,hI2.b⟩
     have hJn:J*(2*n)≤20*40:=Nat.mul_le_mul Oq Oq;have hrl:=hI.l;clear hI hI2;have hr1:(List.range n)[i]?=some i:=List.getElem?_range hin;have hr2:(List.range n)[J]?=some J:=List.getElem?_range hlt;have hob:=(List.getElem?_eq_some_iff.1 e2).1;have wt:IntKind.i64.wrap (((o J+t:Nat):Int)+1)=((o J+(t+1):Nat):Int):=by rw [i64_in (by omega) (by omega)]; omega
     by_cases hlt3:i < J
     ·have q3:(i:Int) < J:=by omega
      refine wk1 (x6 g1 g2 ww hq e2 (x3 e3 q3 wt)) ?_;refine ⟨(t+1,rows),⟨hlt2,by rwa [show apZ x J (i,v) rows=rows from if_neg (by dsimp only; omega)] at hI3⟩,by simp only; omega,?_⟩;refine LeW [] rfl rfl ?_ ?_ (by simp [q1o,q1Q,win]) ?_
      ·exact Ow
      ·exact q38 Oq
      ·try simp -implicitDefEqProofs (disch:=omega) only [go_sem,Nat.reduceEqDiff,Nat.reduceAdd,↓reduceIte]
     ·have q3:¬ (i:Int) < J:=by omega
      have hli:(rows i).length≤2000:=by have:=hrl i; omega
      refine wk1 (x6 g1 g2 ww hq e2 (x4 e3 q3 hr1 hx1)) ?_;refine q3J (q8T (r:=65) (k:=i) (x:=pV (q1M v y1)) (T1:=125) (T2:=74) (K:=some 4) (N:=5000) (R:=10000) (n:=n) (row:=qr5 rows) (fun _ h=>h) hin (fun j=>by rw [q4C]; exact clV) ?_ ?_ (fun j hj hne=>?_) (by omega) (by omega) (by omega) (by omega) (xs:=[(1,pF x),(2,.pt 2 0 0),(6,.ow 5000 none 0 n),(7,iv J),(8,iv ((o J+t:Nat):Int)),(9,iv i),(10,.pt 10 0 0),(18,iv n),(19,iv J),(69,bv (decide ((i:Int) > J)))]) (kv:=[]) (kb:=[(2,some ⟨52,some 5,[.ag [iv n,iv n,pI st,pI ix,pF vl]],false⟩),(10,some ⟨74,some 4,[dT (ofZ v)],false⟩)]) (by simp [nmW]) ?_) ?_
      ·try simp -implicitDefEqProofs (disch:=omega) only [go_sem,Nat.reduceEqDiff,Nat.reduceAdd,↓reduceIte]
      ·try simp -implicitDefEqProofs (disch:=omega) only [go_sem,Nat.reduceEqDiff,Nat.reduceAdd,↓reduceIte]
      ·try refine Zz ?_
       exact if_neg hne
      ·try simp -implicitDefEqProofs (disch:=omega) only [go_sem,Nat.reduceEqDiff,Nat.reduceAdd,↓reduceIte]
      rw [q4C]
      by_cases hgt:i > J
      ·have q4:(i:Int) > J:=by omega
       have hli2:(q2U rows i (q1M v y1) J).length≤2000:=by unfold q2U; rw [if_neg (by omega)]; have:=hrl J; omega
       refine wk1 (x4 q4 hr2 hx2 wt) ?_;refine ⟨(t+1,q2U (q2U rows i (q1M v y1)) J (q1M v y2)),⟨hlt2,by rwa [show apZ x J (i,v) rows=q2U (q2U rows i (q1M v y1)) J (q1M v y2) by unfold apZ; dsimp only; rw [if_pos (by omega),if_pos hgt,getD_some hx1,getD_some hx2]] at hI3⟩,by simp only; omega,?_⟩;have er:=q4C (rows:=q2U rows i (q1M v y1)) (k:=J) (z:=q1M v y2);simp only;unfold qqg;rw [← er];refine q8T (r:=84) (fun _ h=>h) hlt (fun j=>by rw [q4C]; exact clV) ?_ ?_ (fun j hj hne=>?_) (by omega) (by omega) (by omega) (by omega) (by simp [nmW]) ?_
       ·try simp -implicitDefEqProofs (disch:=omega) only [go_sem,Nat.reduceEqDiff,Nat.reduceAdd,↓reduceIte]
       ·try simp -implicitDefEqProofs (disch:=omega) only [go_sem,Nat.reduceEqDiff,Nat.reduceAdd,↓reduceIte]
       ·try refine Zz ?_
        exact if_neg hne
       ·try simp -implicitDefEqProofs (disch:=omega) only [go_sem,Nat.reduceEqDiff,Nat.reduceAdd,↓reduceIte]
      ·have q4:¬ (i:Int) > J:=by omega
       refine wk1 (x2 q4 wt) ?_;refine ⟨(t+1,q2U rows i (q1M v y1)),⟨hlt2,by rwa [show apZ x J (i,v) rows=q2U rows i (q1M v y1) by unfold apZ; dsimp only; rw [if_pos (by omega),if_neg hgt,getD_some hx1]] at hI3⟩,by simp only; omega,?_⟩;refine LeW [] rfl rfl ?_ ?_ (by simp [q1o,q1Q,win]) ?_
       ·exact Ow
       ·exact q38 Oq
       ·try simp -implicitDefEqProofs (disch:=omega) only [go_sem,Nat.reduceEqDiff,Nat.reduceAdd,↓reduceIte]
    ·obtain rfl:t=L.length:=by omega
     have hq:¬ ((o J+L.length:Nat):Int) < ((o (J+1):Nat):Int):=by omega
     rw [List.take_length] at hI;refine wk1 (x3 g2 ww hq) ?_;refine ⟨(J+1,rows),⟨hlt,fun r hr=>by rw [hI.s r hr,hcs r]; rfl,fun r=>by have:=hI.l r; simp only; rw [Nat.succ_mul]; omega,hI.b⟩,by simp only; omega,?_⟩;refine LeW [] rfl rfl ?_ ?_ (by simp [q1o,q1Q,win]) ?_
     ·exact Ow
     ·exact q38 Oq
     ·try simp -implicitDefEqProofs (disch:=omega) only [go_sem,Nat.reduceEqDiff,Nat.reduceAdd,↓reduceIte]
  ·obtain rfl:J=n:=by omega
   have hlt':¬ (J:Int) < J:=by omega
   have hJn:J*(2*J)≤20*40:=Nat.mul_le_mul Oq Oq;have hsum:∀ r,r < J→q0o (rows r)=q2d (qdZ f J r) x:=fun r hr=>(hI.s r hr).trans (qpU hr hxl);have hrl:=hI.l;have hdy:=fun r=>qbA (hI.b r) (by have:=hrl r; omega);have hb:=hI.b;have hal:=fun i=>show (q2L f x J i).length=i by simp [q2L]
   have has:=fun i=>show q2L f x J (i+1)=q2L f x J i ++ [fR 0 (q2d (qdZ f J i) x)] by unfold q2L; rw [List.range_succ,List.map_append]; rfl
   have ha0:q2L f x J 0=[]:=rfl;have hfu:∀ z ∈ q2L f x J J,z < 18446744073709551616:=fun z hz=>by
    obtain ⟨k,_,rfl⟩:=List.mem_map.1 hz;exact qaY
   have C7:=q3P hfu (by rw [hal]; omega);unfold lnR;have N1:Nz (bv (decide (∀ z ∈ q2L f x J J,q0J z))):=qsE;generalize decide (∀ z ∈ q2L f x J J,q0J z)=bb at *;generalize q2L f x J=A at *;clear hI hg hix;refine wk1 hlt' ?_;refine q00 (fun r=>r≤J) [87,88] [] Lk Lk (fun r:Nat=>[(89,iv r),(11,.ow 1001 none 0 r)]) (fun r=>[(1001,⟨30,none,(A r).map fun z:Nat=>uv z,false⟩)]) (fun _=>qqg J rows) (fun r=>J-r) 0 (Nat.zero_le _) ?_ ?_
   ·refine LeW [(1001,none)] rfl rfl ?_ ?_ (by simp [q1o,q1Q,win]) ?_
    ·exact Ow
    ·exact q38 Oq
    ·try refine Zz ?_
     rw [ha0];exact ⟨rfl,rfl⟩
   ·intro r hr
    by_cases hlt2:r < J
    ·have q2:(r:Int) < J:=by omega
     have hr1:(List.range J)[r]?=some r:=List.getElem?_range hlt2;have hd:=hdy r;have C1:=q90 (l:=rows r) (by have:=hrl r; omega) (fun z hz=>by have:=hb r z hz; unfold q05; omega) hd;have C2:=q8w hd;have N2:=qsF hd;rw [hsum r hlt2] at C1 C2 N2;have es:=has r;have hll:=hal r;have hli:=hrl r;refine wk1 (x3 q2 hr1 hll) ?_;refine ⟨r+1,by omega,by omega,?_⟩;rw [es];refine LeW [(1001,some 98)] rfl rfl ?_ ?_ (by simp [q1o,q1Q,win]) ?_
     ·exact Ow
     ·exact q38 Oq
     ·try refine Zz ?_
      omega
    ·obtain rfl:r=J:=by omega
     exact wk1 (x2 hlt' (hal r)) trivial
end
structure PtrOk (n:Nat) (cp:List Int) (m:Nat):Prop where
 c0:cp[0]?=some 0
 cn:cp[n]?=some (m:Int)
 mono:∀ i,i < n→∀ x y,cp[i]?=some x→cp[i+1]?=some y→x≤y
def PtrOk.nn {n m:Nat} {cp:List Int} (h:PtrOk n cp m) (hl:cp.length=n+1):∀ j,j≤n→∃ a:Nat,cp[j]?=some (a:Int)
 | 0,_=>⟨0,h.c0⟩
 | j+1,hj=>by
  obtain ⟨a,ha⟩:=h.nn hl j Oq;obtain ⟨y,hy⟩:∃ y,cp[j+1]?=some y:=⟨_,List.getElem?_eq_getElem Oq⟩;have:=h.mono j Oq _ _ ha hy;exact ⟨y.toNat,by rw [hy]; congr 1; omega⟩
def PtrOk.le {n m:Nat} {cp:List Int} (h:PtrOk n cp m) (hl:cp.length=n+1):∀ d j,j+d=n→∀ x,cp[j]?=some x→x≤m
 | 0,j,hj,x,hx=>by
  obtain rfl:j=n:=by omega
  have:=Option.some.inj (hx.symm.trans h.cn); omega
 | d+1,j,hj,x,hx=>by
  obtain ⟨y,hy⟩:∃ y,cp[j+1]?=some y:=⟨_,List.getElem?_eq_getElem Oq⟩;have h1:=h.mono j Oq _ _ hx hy;have h2:=h.le hl d (j+1) Oq y hy;omega
open Classical in
def qml {cp:List Int} {n m:Nat} (hn:n≤1000000) (hcl:cp.length=n+1):ACt 143 [pI cp,iv n,iv m] (bv (decide (PtrOk n cp m))):=by
 obtain ⟨res,hres⟩:∃ res,res=decide (PtrOk n cp m):=⟨_,rfl⟩;rw [← hres];have rF:¬ PtrOk n cp m→res=false:=fun h=>by rw [hres]; exact decide_eq_false h
 have rT:PtrOk n cp m→res=true:=fun h=>by rw [hres]; exact decide_eq_true h
 clear hres;obtain ⟨x0,hx0⟩:∃ x,cp[0]?=some x:=⟨_,List.getElem?_eq_getElem Oq⟩;obtain ⟨xn,hxn⟩:∃ x,cp[n]?=some x:=⟨_,List.getElem?_eq_getElem Oq⟩;have e0:((cp.length:Int) != (n:Int)+1)=false:=by rw [hcl]; simp
 refine ac0 Tryz.func143 Tryz.ntmps143 [.tmp 6] ?_
 by_cases h0:x0=0
 case neg =>
  have e1:(x0 != 0)=true:=by simpa using h0
  refine wk1 (x3 e0 hx0 e1) ?_;rw [rF fun h=>h0 (Option.some.inj (hx0.symm.trans h.c0))]
 subst h0;have e1:((0:Int) != 0)=false:=rfl
 by_cases hn0:xn=m
 case neg =>
  have e2:(xn != (m:Int))=true:=by simpa using hn0
  refine wk1 (x5 e0 hx0 e1 hxn e2) ?_;rw [rF fun h=>hn0 (Option.some.inj (hxn.symm.trans h.cn))]
 subst hn0;have e2:((m:Int) != (m:Int))=false:=by simp
 refine wk1 (x5 e0 hx0 e1 hxn e2) ?_;refine q0A (fun j=>j≤n∧∀ i,i < j→∀ x y,cp[i]?=some x→cp[i+1]?=some y→x≤y) [0,1] [] Lk Lk (fun j:Nat=>[(7,iv j)]) (fun _=>[]) (fun j=>n-j) 0 ⟨Nat.zero_le _,by omega⟩ ?_ ?_
 ·refine LeM [] rfl rfl ?_;refine Zz ?_
  rfl
 ·rintro j ⟨hj,hm⟩
  by_cases hlt:j < n
  ·obtain ⟨x,hx⟩:∃ x,cp[j]?=some x:=⟨_,List.getElem?_eq_getElem Oq⟩;obtain ⟨y,hy⟩:∃ x,cp[j+1]?=some x:=⟨_,List.getElem?_eq_getElem Oq⟩;have wj:(j:Int)+1=((j+1:Nat):Int):=rfl
   by_cases hxy:x > y
   ·refine wk1 (x4 hx hy hxy wj) ?_;rw [rF fun h=>by have:=h.mono j hlt x y hx hy; omega]
   ·refine wk1 (x4 hx hy hxy wj) ?_;refine ⟨j+1,⟨by omega,fun i hi u v hu hv=>?_⟩,by omega,?_⟩
    ·by_cases hij:i < j
     ·exact hm i hij u v hu hv
     ·obtain rfl:i=j:=by omega
      have h1:=Option.some.inj (hx.symm.trans hu);have h2:=Option.some.inj (hy.symm.trans hv);omega
    ·refine LeM [] rfl rfl ?_;exact Zy
  ·refine wk ?_;obtain rfl:j=n:=by omega
   exact (rT ⟨hx0,hxn,hm⟩).symm
def CoC.lt {n j:Nat} {col:List Int} (h:CoC n j col):∀ d p,p+d+1=col.length→∀ z,col[p]?=some z→z < n
 | 0,p,hp,z,hz=>h.l z (by rw [show col.length-1=p by omega]; exact hz)
 | d+1,p,hp,z,hz=>by
  obtain ⟨y,hy⟩:∃ y,col[p+1]?=some y:=⟨_,List.getElem?_eq_getElem Oq⟩;have h1:=h.m p z y hz hy;have h2:=h.lt d (p+1) Oq y hy;omega
def FStr.ptr {n:Nat} {cp ri:List Int} (h:FStr n cp ri):PtrOk n cp ri.length:=⟨h.c0,h.cn,fun i hi x y hx hy=>by
 obtain ⟨a,b,h1,h2,h3,_⟩:=h.col i hi;have h4:=Option.some.inj (hx.symm.trans h1);have h5:=Option.some.inj (hy.symm.trans h2);omega⟩
def qvr (n:Nat) (ri:List Int) (a k:Nat):Prop:=∀ p,a≤p→p < k→∃ z,ri[p]?=some z∧z < n∧(a < p→∃ y,ri[p-1]?=some y∧y < z)
def qvr.coc {n j a b:Nat} {ri:List Int} (h:qvr n ri a b) (hab:a < b) (hb:b≤ri.length) (hf:ri[a]?=some (j:Int)):CoC n j ((ri.take b).drop a):=by
 have hl:((ri.take b).drop a).length=b-a:=by simp; omega
 refine ⟨by rw [q1e (by omega)]; exact hf,fun z hz=>?_,fun i x y hx hy=>?_⟩
 ·rw [hl,q1e (by omega)] at hz;obtain ⟨z',h1,h2,_⟩:=h (a+(b-a-1)) Oq Oq;rw [h1] at hz; cases hz; exact h2
 ·have:=(List.getElem?_eq_some_iff.1 hy).1;rw [q1e (by omega)] at hx hy;obtain ⟨z,h1,_,h3⟩:=h (a+(i+1)) Oq Oq;obtain ⟨u,h4,h5⟩:=h3 Oq;rw [show a+(i+1)-1=a+i by omega,hx] at h4;rw [hy] at h1;cases h1; cases h4; exact h5
def CoC.colU {n j a b:Nat} {ri:List Int} (h:CoC n j ((ri.take b).drop a)) (hb:b≤ri.length):qvr n ri a b:=fun p h1 h2=>by
 have hl:((ri.take b).drop a).length=b-a:=by simp; omega
 obtain ⟨z,hz⟩:∃ z,ri[p]?=some z:=⟨_,List.getElem?_eq_getElem Oq⟩;refine ⟨z,hz,h.lt (b-p-1) (p-a) (by omega) z (by rw [q1e (by omega),show a+(p-a)=p by omega]; exact hz),fun h3=>?_⟩;obtain ⟨y,hy⟩:∃ y,ri[p-1]?=some y:=⟨_,List.getElem?_eq_getElem Oq⟩;exact ⟨y,hy,h.m (p-1-a) y z (by rw [q1e (by omega),show a+(p-1-a)=p-1 by omega]; exact hy) (by rw [q1e (by omega),show a+(p-1-a+1)=p by omega]; exact hz)⟩
open Classical in
def q7W {pm cp ri:List Int} {vs:List Nat} (hp:pm.length≤1000000) (hc:cp.length≤1000000) (hr:ri.length≤1000000) (hv:vs.length≤1000000) (hu:∀ x ∈ vs,x < 18446744073709551616):ACt 82 [q1L (pm,cp,ri,vs)] (iv (q2e (pm,cp,ri,vs))):=by
 obtain ⟨res,hres⟩:∃ res,res=q2e (pm,cp,ri,vs):=⟨_,rfl⟩;rw [← hres];unfold q2e at hres;dsimp only at hres;unfold q1L;dsimp only;refine ac0 Tryz.func82 Tryz.ntmps82 [.tmp 2] ?_;refine wk ?_
 by_cases h1:pm.length > 200
 ·rw [if_pos h1] at hres;have h1':(pm.length:Int) > 200:=by omega
  refine wk1 h1' ?_;exact hres.symm
 have h1':¬ (pm.length:Int) > 200:=by omega
 rw [if_neg h1] at hres;have cP:=qbQ (l:=pm) (n:=pm.length) Oq
 by_cases h2:q2R pm pm.length
 case neg =>
  rw [if_pos h2] at hres;rw [decide_eq_false h2] at cP;refine wk1 h1' ?_;exact hres.symm
 rw [if_neg (not_not_intro h2)] at hres;rw [decide_eq_true h2] at cP
 by_cases h3:cp.length≠pm.length+1∨ri.length≠vs.length
 ·rw [if_pos h3] at hres
  by_cases h4:cp.length=pm.length+1
  ·have e1:((cp.length:Int) != (pm.length:Int)+1)=false:=by simp; omega
   have e2:((ri.length:Int) != (vs.length:Int))=true:=by simp; omega
   refine wk1 (x3 h1' e1 e2) ?_;exact hres.symm
  ·have e1:((cp.length:Int) != (pm.length:Int)+1)=true:=by simp; omega
   refine wk1 (x2 h1' e1) ?_;exact hres.symm
 rw [if_neg h3] at hres;have h4:cp.length=pm.length+1:=by omega
 have h5:ri.length=vs.length:=by omega
 have e1:((cp.length:Int) != (pm.length:Int)+1)=false:=by simp; omega
 have e2:((ri.length:Int) != (vs.length:Int))=false:=by simp; omega
 have rF:¬ FStr pm.length cp ri→res=240:=fun h=>by rw [hres,if_pos h]
 have rT:FStr pm.length cp ri→res=if (∀ x ∈ vs,q0J x)∧FDg pm.length cp vs then 0 else 4:=fun h=>by rw [hres,if_neg (not_not_intro h)]
 clear hres;have cS:=qml (cp:=cp) (n:=pm.length) (m:=ri.length) Oq h4
 by_cases h6:PtrOk pm.length cp ri.length
 case neg =>
  rw [decide_eq_false h6] at cS;refine wk1 (x3 h1' e1 e2) ?_;exact (rF fun h=>h6 h.ptr).symm
 rw [decide_eq_true h6] at cS;refine wk1 (x3 h1' e1 e2) ?_;refine q3p [1,3,4] Lk ?_;refine q0A (fun j=>j≤pm.length∧∀ j',j' < j→∃ a b:Nat,cp[j']?=some (a:Int)∧cp[j'+1]?=some (b:Int)∧a≤b∧b≤ri.length∧CoC pm.length j' ((ri.take b).drop a)) [1,3] [1] Lk Lk (fun j:Nat=>[(4,iv j)]) (fun _=>[]) (fun j=>pm.length-j) 0 ⟨Nat.zero_le _,by omega⟩ ?_ ?_
 ·refine LeM [] rfl rfl ?_;refine Zz ?_
  rfl
 ·rintro j ⟨hj,hm⟩
  by_cases hlt:j < pm.length
  ·obtain ⟨a,ha⟩:=h6.nn h4 j Oq;obtain ⟨b,hb⟩:=h6.nn h4 (j+1) Oq;have wj:(j:Int)+1=((j+1:Nat):Int):=rfl;have hab:a≤b:=by have:=h6.mono j hlt _ _ ha hb; omega
   have hbr:b≤ri.length:=by have:=h6.le h4 (pm.length-(j+1)) (j+1) Oq _ hb; omega
   have bad:¬ CoC pm.length j ((ri.take b).drop a)→res=240:=fun h=>rF fun hS=>by
    obtain ⟨a',b',q1,q2,_,_,q5⟩:=hS.col j hlt;have e1:=Option.some.inj (ha.symm.trans q1);have e2:=Option.some.inj (hb.symm.trans q2);obtain rfl:a'=a:=by omega
    obtain rfl:b'=b:=by omega
    exact h q5
   refine wk1 (x3 wj ha hb) ?_;refine q0A (fun k=>a≤k∧k≤b∧qvr pm.length ri a k) [1,3,4] [1] Lk Lk (fun k:Nat=>[(5,iv k)]) (fun _=>[]) (fun k=>b-k) a ⟨Nat.le_refl _,hab,fun p q1 q2=>by omega⟩ ?_ ?_
   ·refine LeM [] rfl rfl ?_;exact Zy
   ·rintro k ⟨hk1,hk2,hU⟩
    by_cases hkb:k < b
    ·obtain ⟨x,hx⟩:∃ x,ri[k]?=some x:=⟨_,List.getElem?_eq_getElem Oq⟩;have no:(∀ z,ri[k]?=some z→z < pm.length→(a < k→∃ y,ri[k-1]?=some y∧y < z)→False)→res=240:=fun h=>bad fun hC=>by
      obtain ⟨z,q1,q2,q3⟩:=hC.colU hbr k hk1 hkb;exact h z q1 q2 q3
     by_cases hxn:(pm.length:Int)≤x
     ·refine wk1 (x5 wj ha hb hx hxn) ?_;exact (no fun z q1 q2 _=>by rw [hx] at q1; cases q1; omega).symm
     have stp:∀ q:(a < k→∃ y,ri[k-1]?=some y∧y < x),qvr pm.length ri a (k+1):=fun q p q1 q2=>by
      by_cases hpk:p < k
      ·exact hU p q1 hpk
      ·obtain rfl:p=k:=by omega
       exact ⟨x,hx,by omega,q⟩
     by_cases hak:(k:Int) > a
     ·obtain ⟨y,hy⟩:∃ y,ri[k-1]?=some y:=⟨_,List.getElem?_eq_getElem Oq⟩;have wi:(k:Int)-1=((k-1:Nat):Int):=by omega
      by_cases hxy:x≤y
      ·refine wk1 (x6 wj ha hb hx hxn (x4 hak hy wi hxy)) ?_;exact (no fun z q1 q2 q3=>by
        obtain ⟨u,q4,q5⟩:=q3 Oq;rw [hx] at q1; rw [hy] at q4; cases q1; cases q4; omega).symm
      ·refine wk1 (x6 wj ha hb hx hxn (x4 hak hy wi hxy)) ?_;refine ⟨k+1,⟨by omega,by omega,stp fun _=>⟨y,hy,by omega⟩⟩,by omega,?_⟩;refine LeM [] rfl rfl ?_;refine Zz ?_
       rfl
     ·refine wk1 (x6 wj ha hb hx hxn hak) ?_;refine ⟨k+1,⟨by omega,by omega,stp fun h=>by omega⟩,by omega,?_⟩;refine LeM [] rfl rfl ?_;refine Zz ?_
      rfl
    ·obtain rfl:k=b:=by omega
     by_cases hab2:a=k
     ·have q1:((a:Int) == (k:Int))=true:=by simp; omega
      refine wk1 (x4 wj ha hb q1) ?_;exact (bad fun h=>by have:=h.f; rw [List.getElem?_eq_none (by simp; omega)] at this; cases this).symm
     have q1:((a:Int) == (k:Int))=false:=by simp; omega
     obtain ⟨x,hx⟩:∃ x,ri[a]?=some x:=⟨_,List.getElem?_eq_getElem Oq⟩
     by_cases hxj:x=j
     ·subst hxj;have q2:((j:Int) != (j:Int))=false:=by simp
      refine wk1 (x6 wj ha hb q1 hx q2) ?_;refine ⟨j+1,⟨by omega,fun j' hj'=>?_⟩,by omega,?_⟩
      ·by_cases hjj:j' < j
       ·exact hm j' hjj
       ·obtain rfl:j'=j:=by omega
        exact ⟨a,k,ha,hb,hab,hbr,hU.coc Oq hbr hx⟩
      ·refine LeM [] rfl rfl ?_;exact Zy
     ·have q2:(x != (j:Int))=true:=by simpa using hxj
      refine wk1 (x6 wj ha hb q1 hx q2) ?_;exact (bad fun h=>by
       have:=h.f;rw [q1e (by omega),Nat.add_zero,hx] at this;exact hxj (Option.some.inj this)).symm
  ·obtain rfl:j=pm.length:=by omega
   have hS:FStr pm.length cp ri:=⟨h6.c0,h6.cn,hm⟩;have bad:¬ ((∀ x ∈ vs,q0J x)∧FDg pm.length cp vs)→res=4:=fun h=>by rw [rT hS,if_neg h]
   have good:((∀ x ∈ vs,q0J x)∧FDg pm.length cp vs)→res=0:=fun h=>by rw [rT hS,if_pos h]
   clear rF rT;refine wk ?_;refine q0A (fun i=>i≤vs.length∧∀ x ∈ vs.take i,q0J x) [1,3] [1] Lk Lk (fun i:Nat=>[(6,iv i)]) (fun _=>[]) (fun i=>vs.length-i) 0 ⟨Nat.zero_le _,by simp⟩ ?_ ?_
   ·refine LeM [] rfl rfl ?_;refine Zz ?_
    rfl
   ·rintro i ⟨hi,hf⟩
    by_cases hil:i < vs.length
    ·obtain ⟨x,hx⟩:∃ x,vs[i]?=some x:=⟨_,List.getElem?_eq_getElem hil⟩;have hmx:=List.mem_of_getElem? hx;have cF:=q1i (hu x hmx)
     by_cases hfx:q0J x
     case neg =>
      rw [decide_eq_false hfx] at cF;refine wk1 hx ?_;exact (bad fun h=>hfx (h.1 x hmx)).symm
     rw [decide_eq_true hfx] at cF;refine wk1 hx ?_;refine ⟨i+1,⟨by omega,?_⟩,by omega,?_⟩
     ·rw [q2q hx];intro y hy
      rcases List.mem_append.1 hy with hy | hy
      ·exact hf y hy
      ·simp at hy; subst hy; exact hfx
     ·refine LeM [] rfl rfl ?_;refine Zz ?_
      rfl
    ·obtain rfl:i=vs.length:=by omega
     rw [List.take_length] at hf;refine wk ?_;refine q0A (fun j=>j≤pm.length∧∀ j',j' < j→∀ (a x:Nat),cp[j']?=some (a:Int)→vs[a]?=some x→0 < ofZ x) [1,3] [1] Lk Lk (fun i:Nat=>[(7,iv i)]) (fun _=>[]) (fun i=>pm.length-i) 0 ⟨Nat.zero_le _,by omega⟩ ?_ ?_
     ·refine LeM [] rfl rfl ?_;refine Zz ?_
      rfl
     ·rintro j ⟨hj,hd⟩
      by_cases hjl:j < pm.length
      ·obtain ⟨a,b,ha,hb,hab,hbr,hcol⟩:=hS.col j hjl;have hal:a < vs.length:=by
        have:=(List.getElem?_eq_some_iff.1 hcol.f).1;simp at this;omega
       obtain ⟨x,hx⟩:∃ x,vs[a]?=some x:=⟨_,List.getElem?_eq_getElem hal⟩;have hmx:=List.mem_of_getElem? hx;have cO:=q2u (hu x hmx) (q0Q (hf x hmx));have cG:=@q4Y
       by_cases hs:(ofZ x).sign≤0
       ·refine wk1 (x3 ha hx hs) ?_;refine (bad fun h=>?_).symm;have:=Int.sign_eq_one_of_pos (h.2 j hjl a x ha hx);omega
       ·refine wk1 (x3 ha hx hs) ?_;refine ⟨j+1,⟨by omega,fun j' hj' a' x' ha' hx'=>?_⟩,by omega,?_⟩
        ·by_cases hjj:j' < j
         ·exact hd j' hjj a' x' ha' hx'
         ·obtain rfl:j'=j:=by omega
          have q1:=Option.some.inj (ha.symm.trans ha');obtain rfl:a'=a:=by omega
          rw [hx] at hx'; cases hx'
          rcases Int.lt_or_le 0 (ofZ x) with h | h
          ·exact h
          ·refine absurd ?_ hs
           rcases Int.lt_or_eq_of_le h with h | h
           ·rw [Int.sign_eq_neg_one_of_neg h]; omega
           ·rw [h]; simp
        ·refine LeM [] rfl rfl ?_;refine Zz ?_
         rfl
      ·refine wk ?_;exact (good ⟨hf,fun j' hj'=>hd j' Oq⟩).symm
def q5n {f:Fac} {i:Int}:∀ (k a:Nat),(∀ p,a≤p→p < a+k→f.ri[p]?≠some i)→q2S f i a k=0
 | 0,_,_=>rfl
 | k+1,a,h=>by
  unfold q2S;rw [if_neg (h a (Nat.le_refl _) Oq)];exact q5n k (a+1) fun p h1 h2=>h p Oq Oq
def qdj {f:Fac} {i:Int} (h:q0c f.vs):∀ (k a:Nat),q2S f i a k < 18446744073709551616∧q0J (q2S f i a k)
 | 0,_=>⟨by simp [q2S],by unfold q2S q0J; simp⟩
 | k+1,a=>by
  unfold q2S
  split
  ·exact q7d h
  ·exact qdj h k (a+1)
def q6C {q:Nat}:q1M 0 q=0:=by
 unfold q1M;rw [q0j qbX,Int.zero_mul,q1s]
 rfl
def q8W {f:Fac} {j a b q:Nat} (h:Col f j a b) (hn:f.pm.length≤200) (hrv:f.ri.length=f.vs.length) :
  ∀ (c p:Nat) (rows:List (List Int)),a < p→p+c=b→f.pm.length≤rows.length→∀ (i:Nat) (r:List Int),rows[i]?=some r→∃ r',(qeG f q p c rows)[i]?=some r'∧q0o r'=q0o r-q1M (q2S f i p c) q
 | 0,p,rows,_,_,_,i,r,hr=>⟨r,hr,by simp [q2S,q6C]⟩
 | c+1,p,rows,ha,hp,hl,i,r,hr=>by
  obtain ⟨i0,h1,h2,h3⟩:=h.row hn ha Oq;have hle:=h.le;obtain ⟨x,hv⟩:∃ x,f.vs[p]?=some x:=⟨_,List.getElem?_eq_getElem Oq⟩;obtain ⟨r0,hr0⟩:∃ r0,rows[i0]?=some r0:=⟨_,List.getElem?_eq_getElem Oq⟩;rw [q8X h1 hv hr0];have ih:=q8W (q:=q) h hn hrv c (p+1) (rows.set i0 (r0 ++ [-(q1M x q)])) Oq Oq (by simpa using hl) i
  by_cases hi:i=i0
  ·subst hi;obtain rfl:r=r0:=Option.some.inj (hr.symm.trans hr0);obtain ⟨r',h4,h5⟩:=ih _ (List.getElem?_set_self Oq);refine ⟨r',h4,?_⟩;have hnone:q2S f i (p+1) c=0:=q5n c (p+1) fun p' q1 q2 hc=>by
    have:=h.mono (p'-p) p i i Oq Oq h1 (by rw [show p+(p'-p)=p' by omega]; exact hc);rw [if_neg (by omega)] at this;omega
   have hsome:q2S f i p (c+1)=x:=by unfold q2S; rw [if_pos h1]; exact getD_some hv
   rw [h5,hnone,hsome,q1A,q6C];omega
  ·obtain ⟨r',h4,h5⟩:=ih r (by rw [List.getElem?_set_ne (fun e=>hi e.symm)]; exact hr);refine ⟨r',h4,?_⟩;have hne:q2S f i p (c+1)=q2S f i (p+1) c:=by
    rw [q2S,if_neg (by rw [h1]; intro e; have:=Option.some.inj e; omega)]
   rw [h5,hne]
def elF (f:Fac) (i j:Nat):Nat:=q2S f i (f.cp.getD j 0).toNat ((f.cp.getD (j+1) 0).toNat-(f.cp.getD j 0).toNat)
def q6N {f:Fac} {i j a b:Nat} (h:Col f j a b):elF f i j=q2S f i a (b-a):=by
 unfold elF;rw [getD_some h.ha,getD_some h.hb]; rfl
def qhK (f:Fac) (b ys:List Nat) (k:Nat):Nat→List Int
 | 0=>[ofZ (b.getD k 0)]
 | m+1=>qhK f b ys k m ++ [-(q1M (elF f k m) (ys.getD m 0))]
def q6m {f:Fac} {b ys zs:List Nat} {k:Nat}:∀ m,(∀ i,i < m→ys.getD i 0=zs.getD i 0)→qhK f b ys k m=qhK f b zs k m
 | 0,_=>rfl
 | m+1,h=>by unfold qhK; rw [q6m m fun i hi=>h i Oq,h m (by omega)]
def qmk {pm cp ri:List Int} {vs:List Nat} {x:Int} {j a b:Nat} (hrv:ri.length=vs.length) (hrl:ri.length≤1000000) (ha:cp[j]?=some (a:Int)) (hb:cp[j+1]?=some (b:Int)) (hab:a≤b) (hbl:b≤ri.length) (hj:j≤200) :
  ACt 250 [q1L (pm,cp,ri,vs),iv x,iv j] (uv (q2S ⟨pm,cp,ri,vs⟩ x a (b-a):Nat)):=by
 obtain ⟨res,hres⟩:∃ res,res=q2S ⟨pm,cp,ri,vs⟩ x a (b-a):=⟨_,rfl⟩;rw [← hres];have wj:(j:Int)+1=((j+1:Nat):Int):=rfl;unfold q1L;dsimp only;refine ac0 Tryz.func250 Tryz.ntmps250 [.tmp 6] ?_;refine wk1 (x3 wj ha hb) ?_;refine q0A (fun k=>a≤k∧k≤b∧q2S ⟨pm,cp,ri,vs⟩ x k (b-k)=res) [1,2,3] [3] Lk Lk (fun k:Nat=>[(7,iv k)]) (fun _=>[]) (fun k=>b-k) a ⟨Nat.le_refl _,hab,hres.symm⟩ ?_ ?_
 ·refine LeM [] rfl rfl ?_;exact Zy
 ·rintro k ⟨hk1,hk2,hv⟩
  by_cases hkb:k < b
  ·rw [show b-k=(b-(k+1))+1 by omega,q2S] at hv;dsimp only at hv;obtain ⟨y,hy⟩:∃ y,ri[k]?=some y:=⟨_,List.getElem?_eq_getElem Oq⟩;obtain ⟨v,hvk⟩:∃ v,vs[k]?=some v:=⟨_,List.getElem?_eq_getElem Oq⟩
   by_cases hyx:y=x
   ·have q:(y == x)=true:=by simp [hyx]
    rw [if_pos (by rw [hy,hyx]),getD_some hvk] at hv;refine wk1 (x6 wj ha hb hy q hvk) ?_;rw [hv]
   ·have q:(y == x)=false:=by simpa using hyx
    rw [if_neg (by rw [hy]; exact fun h=>hyx (Option.some.inj h))] at hv;refine wk1 (x5 wj ha hb hy q) ?_;refine ⟨k+1,⟨by omega,by omega,hv⟩,by omega,?_⟩;refine LeM [] rfl rfl ?_;refine Zz ?_
    rfl
  ·obtain rfl:k=b:=by omega
   rw [Nat.sub_self,q2S] at hv;subst hv;refine wk1 (x3 wj ha hb) ?_
   rfl
open Classical in
def q4d {l:List Nat} (hu:∀ x ∈ l,x < 18446744073709551616) (hn:l.length≤1000000):ACt 83 [pF l] (bv (decide (∀ x ∈ l,q0J x))):=by
 obtain ⟨res,hres⟩:∃ res,res=decide (∀ x ∈ l,q0J x):=⟨_,rfl⟩;rw [← hres];refine ac0 Tryz.func83 Tryz.ntmps83 [.tmp 2] ?_;refine wk ?_;refine q0A (fun i=>i≤l.length∧∀ x ∈ l.take i,q0J x) [0] [] Lk Lk (fun i:Nat=>[(3,iv i)]) (fun _=>[]) (fun i=>l.length-i) 0 ⟨Nat.zero_le _,by simp⟩ ?_ ?_
 ·refine LeM [] rfl rfl ?_;refine Zz ?_
  rfl
 ·rintro i ⟨hi,hf⟩
  by_cases hil:i < l.length
  ·obtain ⟨x,hx⟩:∃ x,l[i]?=some x:=⟨_,List.getElem?_eq_getElem hil⟩;have hmx:=List.mem_of_getElem? hx;have cF:=q1i (hu x hmx)
   by_cases hfx:q0J x
   case neg =>
    rw [decide_eq_false hfx] at cF;refine wk1 hx ?_;exact (hres.trans (decide_eq_false fun h=>hfx (h x hmx))).symm
   rw [decide_eq_true hfx] at cF;refine wk1 hx ?_;refine ⟨i+1,⟨by omega,?_⟩,by omega,?_⟩
   ·rw [q2q hx];intro y hy
    rcases List.mem_append.1 hy with hy | hy
    ·exact hf y hy
    ·simp at hy; subst hy; exact hfx
   ·refine LeM [] rfl rfl ?_;refine Zz ?_
    rfl
  ·obtain rfl:i=l.length:=by omega
   rw [List.take_length] at hf;refine wk ?_;exact (hres.trans (decide_eq_true hf)).symm
open Classical in
noncomputable def q39 (e:Int) (n:Nat) (l:List Nat):Int:=if e≠0 then e else if l.length≠n then 2 else if ¬ ∀ x ∈ l,q0J x then 4 else 0
open Classical in
def q3q {e:Int} {n:Nat} {l:List Nat} (hu:∀ x ∈ l,x < 18446744073709551616) (hl:l.length≤1000000):ACt 66 [iv e,iv n,pF l] (iv (q39 e n l)):=by
 have cF:=q4d hu hl;unfold q39;refine ac0 Tryz.func66 Tryz.ntmps66 [.tmp 6] ?_
 by_cases h1:e=0
 case neg =>
  have q:(e != 0)=true:=by simpa using h1
  rw [if_pos h1];exact wk1 q trivial
 have q:(e != 0)=false:=by simpa using h1
 rw [if_neg (not_not_intro h1)]
 by_cases h2:l.length=n
 case neg =>
  have q2:((l.length:Int) != (n:Int))=true:=by simp; omega
  rw [if_pos h2];exact wk1 (x2 q q2) trivial
 have q2:((l.length:Int) != (n:Int))=false:=by simp; omega
 rw [if_neg (not_not_intro h2)]
 by_cases h3:∀ x ∈ l,q0J x
 ·rw [decide_eq_true h3] at cF;rw [if_neg (not_not_intro h3)];exact wk1 (x2 q q2) trivial
 ·rw [decide_eq_false h3] at cF;rw [if_pos h3];exact wk1 (x2 q q2) trivial
def q62 (B:Int) (l x:List Nat):Nat→List Int
 | 0=>[B]
 | m+1=>q62 B l x m ++ [-(q1M (l.getD m 0) (x.getD m 0))]
def q51 {B:Int} {l x:List Nat}:∀ m,(q62 B l x m).length=m+1
 | 0=>rfl
 | m+1=>by rw [q62,List.length_append,q51 m]; rfl
def qeb {B:Int} {l x:List Nat} (hB:bl B.natAbs≤67600) (hl:q0c l) (hx:q0c x):∀ m,∀ y ∈ q62 B l x m,bl y.natAbs≤67600
 | 0,y,hy=>by simp [q62] at hy; subst hy; exact hB
 | m+1,y,hy=>by
  rcases List.mem_append.1 hy with hy | hy
  ·exact qeb hB hl hx m y hy
  ·simp at hy;subst hy;rw [Int.natAbs_neg];exact (q04 (q7d hl).2 (q7d hx).2).2
def qr1 {B:Int} {l x:List Nat} (hB:bl B.natAbs≤67600) (hl:q0c l) (hx:q0c x) {m:Nat} (hm:m≤500):q05 (q0o (q62 B l x m)):=by
 have h:=q5p (i:=(q62 B l x m).length) (qeb hB hl hx m) (by rw [q51]; omega);rw [List.take_length] at h;unfold q05; omega
def qaj {B:Int} {l x:List Nat} (hB:bl B.natAbs≤67600) (hl:q0c l) (hx:q0c x) (hlx:l.length≤x.length) (hn:l.length≤500):ACt 71 [pV B,pF l,pF x] (pV (q0o (q62 B l x l.length))):=by
 have cN:=@qg2;have hd:=qr1 hB hl hx (m:=l.length) hn;have cS:=q7n (l:=q62 B l x l.length) (by rw [q51]; omega) hd;have cZ:=qkk (V:=q0o (q62 B l x l.length));refine ac0 Tryz.func71 Tryz.ntmps71 [.cell 6 74] ?_;refine wk ?_;refine q0A (fun i=>i≤l.length) [1,2,6] [6] Lk Lk (fun i:Nat=>[(8,iv i),(7,.ow 1001 (some 4) 0 (i+1))]) (fun i=>[(1001,⟨74,some 4,(q62 B l x i).map fun V=>pV V,false⟩)]) (fun i=>l.length-i) 0 (Nat.zero_le _) ?_ ?_
 ·refine LeM [(1001,some 10)] rfl rfl ?_;refine Zz ?_;exact ⟨rfl,q0Y rfl clV⟩
 ·intro i hi;have hln:=q51 (B:=B) (l:=l) (x:=x) i
  by_cases hil:i < l.length
  ·obtain ⟨u,hu⟩:∃ u,l[i]?=some u:=⟨_,List.getElem?_eq_getElem hil⟩;obtain ⟨v,hv⟩:∃ u,x[i]?=some u:=⟨_,List.getElem?_eq_getElem Oq⟩;obtain ⟨u1,u2⟩:=hl u (List.mem_of_getElem? hu);obtain ⟨v1,v2⟩:=hx v (List.mem_of_getElem? hv);have cP:=q2V u1 v1 (q0Q u2) (q0Q v2) (q04 u2 v2).1;refine wk1 (x3 hu hv hln) ?_;refine ⟨i+1,by omega,by omega,?_⟩;rw [q62,getD_some hu,getD_some hv];refine LeM [(1001,some 29)] rfl rfl ?_;refine Zz ?_;exact ⟨by omega,q0Y (by rw [List.map_append]; rfl) clV⟩
  ·obtain rfl:i=l.length:=by omega
   exact wk1 hln trivial
abbrev pFF (l:List (List Nat)):PV:=.sl none (l.map fun r=>pF r)
def qpu {l:List (List Nat)}:ClL (l.map fun r=>pF r):=fun x hx=>by
 obtain ⟨q,_,rfl⟩:=List.mem_map.1 hx
 trivial
def clU {l:List Nat}:ClL (l.map fun z:Nat=>uv z):=fun x hx=>by
 obtain ⟨q,_,rfl⟩:=List.mem_map.1 hx
 trivial
def qbH {α:Type} {l:List α} {x:α} {i:Nat} (h:l.length=i):(l ++ [x])[i]?=some x:=by subst h; simp
def qr6 {n c v:Nat} {f:Nat→Nat}:(((List.range n).map f).set c v)=(List.range n).map fun y=>if y=c then v else f y:=by
 apply List.ext_getElem?
 intro i;rw [List.getElem?_set];simp only [List.length_map,List.length_range,List.getElem?_map]
 by_cases hi:i < n
 ·rw [List.getElem?_range hi]
  by_cases hc:c=i
  ·subst hc; simp [hi]
  ·simp [hc,Ne.symm hc]
 ·rw [List.getElem?_eq_none (by simpa using hi)]
  by_cases hc:c=i <;> simp [hc]
  omega
def rwG (n:Nat) (g:Nat→Nat) (m:Nat):List Nat:=(List.range n).map fun j=>if j < m then g j else 0
def q1g {n m:Nat} {g:Nat→Nat}:(rwG n g m).length=n:=by simp [rwG]
def q9l {n m:Nat} {g:Nat→Nat}:(rwG n g m).set m (g m)=rwG n g (m+1):=by
 unfold rwG;rw [qr6];refine List.map_congr_left fun y _=>?_
 by_cases h:y=m
 ·subst h; rw [if_pos rfl,if_pos (by omega)]
 ·rw [if_neg h]
  by_cases h2:y < m
  ·rw [if_pos h2,if_pos (by omega)]
  ·rw [if_neg h2,if_neg (by omega)]
def q9m {n:Nat} {g:Nat→Nat}:List.replicate n 0=rwG n g 0:=by
 unfold rwG;simp [List.map_const']
def q3T (f:Fac) (n k:Nat):List (List Nat):=(List.range k).map fun i=>rwG n (elF f i) (i+1)
def trS (L:List (List Nat)) (n k:Nat):List (List Nat):=(List.range k).map fun i=>rwG n (fun j=>(L.getD j []).getD i 0) n
def qbx {f:Fac} {n k:Nat}:(q3T f n k).length=k:=by simp [q3T]
def qdo {L:List (List Nat)} {n k:Nat}:(trS L n k).length=k:=by simp [trS]
def trS_s {L:List (List Nat)} {n k:Nat}:trS L n (k+1)=trS L n k ++ [rwG n (fun j=>(L.getD j []).getD k 0) n]:=by
 unfold trS;rw [List.range_succ,List.map_append]; rfl
def qtW {f:Fac} {n k:Nat}:q3T f n (k+1)=q3T f n k ++ [rwG n (elF f k) (k+1)]:=by
 unfold q3T;rw [List.range_succ,List.map_append]; rfl
def q8K {pm cp ri:List Int} {vs:List Nat} (ho:FacOk ⟨pm,cp,ri,vs⟩):ACt 205 [q1L (pm,cp,ri,vs)] (pFF (q3T ⟨pm,cp,ri,vs⟩ pm.length pm.length)):=by
 have hn:=ho.n;have hrl:=ho.ril;have hrb:=ho.rib;dsimp only at hn hrl hrb;have cV:∀ i j:Nat,i < pm.length→j < pm.length→ACt 250 [q1L (pm,cp,ri,vs),iv i,iv j] (uv (elF ⟨pm,cp,ri,vs⟩ i j:Nat)):=fun i j hi hj=>by
  obtain ⟨a,b,hc⟩:=ho.col j hj;rw [q6N hc];have h1:=hc.lt;exact qmk (x:=i) hrl hrb hc.ha hc.hb Oq hc.le Oq
 generalize (⟨pm,cp,ri,vs⟩:Fac)=f at *;unfold q1L at *;dsimp only at *;generalize hN:pm.length=n at *;refine ac0 Tryz.func205 Tryz.ntmps205 [.tmp 2] ?_;refine wk1 hN ?_;refine q0A (fun i=>i≤n) [1,3] [1] Lk Lk (fun i:Nat=>[(5,iv i),(4,.ow 1001 none 0 i)]) (fun i=>[(1001,⟨25,none,(q3T f n i).map fun r=>pF r,false⟩)]) (fun i=>n-i) 0 (Nat.zero_le _) ?_ ?_
 ·refine LeM [(1001,none)] rfl rfl ?_;refine Zz ?_;exact ⟨rfl,rfl⟩
 ·intro i hi;have hdl:=qbx (f:=f) (n:=n) (k:=i)
  by_cases hlt:i < n
  ·refine wk1 hdl ?_;refine q0A (fun j=>j≤i+1) [1,3,5] [1] Lk Lk (fun j:Nat=>[(6,iv j),(4,.ow 1001 none 0 (i+1))]) (fun j=>[(1001,⟨25,none,(q3T f n i).map (fun r=>pF r) ++ [.ow 1002 none 0 n],false⟩),(1002,⟨30,none,(rwG n (elF f i) j).map fun z:Nat=>uv z,false⟩)]) (fun j=>i+1-j) 0 (Nat.zero_le _) ?_ ?_
   ·refine LeM [(1001,some 19),(1002,some 17)] rfl rfl ?_;refine Zz ?_;refine ⟨rfl,q2G (q0Y rfl qpu) ?_,q9m⟩;rw [q16]
    try simp -implicitDefEqProofs (disch:=omega) only [go_sem,Nat.reduceEqDiff,Nat.reduceAdd,↓reduceIte]
   ·intro j hj;have hg:((q3T f n i).map (fun r=>pF r) ++ [PV.ow 1002 none 0 n])[i]?=some (PV.ow 1002 none 0 n):=qbH (by rw [List.length_map,hdl]);have hrl2:=q1g (n:=n) (g:=elF f i) (m:=j)
    by_cases hjl:j < i+1
    ·have C1:=cV i j hlt Oq;refine wk1 (x3 hg hdl hrl2) ?_;refine ⟨j+1,by omega,by omega,?_⟩;rw [← q9l];refine LeM [] rfl rfl ?_;refine Zz ?_;refine ⟨rfl,q2G (q0Y rfl qpu) ?_⟩;rw [q16]
     try simp -implicitDefEqProofs (disch:=omega) only [go_sem,Nat.reduceEqDiff,Nat.reduceAdd,↓reduceIte]
    ·obtain rfl:j=i+1:=by omega
     refine wk1 hdl ?_;refine ⟨i+1,by omega,by omega,?_⟩;rw [qtW];refine LeM [] rfl rfl ?_;refine Zz ?_;rw [List.map_append];refine ⟨rfl,q2G (q0Y rfl qpu) ?_⟩;rw [List.map_singleton,q16];refine q1z (T:=30) (l:=(rwG n (elF f i) (i+1)).map fun z:Nat=>uv z) ?_ clU (fun i hi=>?_) ?_
     ·try simp -implicitDefEqProofs (disch:=omega) only [go_sem,Nat.reduceEqDiff,Nat.reduceAdd,↓reduceIte]
     ·obtain rfl:i=1002:=by unfold q1Q at hi; cases hi; rfl
      try simp -implicitDefEqProofs (disch:=omega) only [go_sem,Nat.reduceEqDiff,Nat.reduceAdd,↓reduceIte]
     ·rw [List.drop_zero]; exact List.take_of_length_le (by simp [rwG])
  ·obtain rfl:i=n:=by omega
   exact wk1 hdl trivial
def qda {L:List (List Nat)} {n:Nat} (hL:L.length=n) (hr:∀ r ∈ L,r.length=n) (hn:n≤200):ACt 206 [pFF L] (pFF (trS L n n)):=by
 refine ac0 Tryz.func206 Tryz.ntmps206 [.tmp 2] ?_;refine wk ?_;refine q0A (fun i=>i≤n) [0] [] Lk Lk (fun i:Nat=>[(4,iv i),(3,.ow 1001 none 0 i)]) (fun i=>[(1001,⟨25,none,(trS L n i).map fun r=>pF r,false⟩)]) (fun i=>n-i) 0 (Nat.zero_le _) ?_ ?_
 ·refine LeM [(1001,none)] rfl rfl ?_;refine Zz ?_;exact ⟨rfl,rfl⟩
 ·intro i hi;have hdl:=qdo (L:=L) (n:=n) (k:=i)
  by_cases hlt:i < n
  ·obtain ⟨g,hg⟩:∃ g:Nat→Nat,g=fun j=>(L.getD j []).getD i 0:=⟨_,rfl⟩;refine wk1 (x2 hdl hL) ?_;refine q0A (fun j=>j≤n) [0,4] [] Lk Lk (fun j:Nat=>[(5,iv j),(3,.ow 1001 none 0 (i+1))]) (fun j=>[(1001,⟨25,none,(trS L n i).map (fun r=>pF r) ++ [.ow 1002 none 0 n],false⟩),(1002,⟨30,none,(rwG n g j).map fun z:Nat=>uv z,false⟩)]) (fun j=>n-j) 0 (Nat.zero_le _) ?_ ?_
   ·refine LeM [(1001,some 17),(1002,some 15)] rfl rfl ?_;refine Zz ?_;refine ⟨rfl,q2G (q0Y rfl qpu) ?_,q9m⟩;rw [q16]
    try simp -implicitDefEqProofs (disch:=omega) only [go_sem,Nat.reduceEqDiff,Nat.reduceAdd,↓reduceIte]
   ·intro j hj;have hg2:((trS L n i).map (fun r=>pF r) ++ [PV.ow 1002 none 0 n])[i]?=some (PV.ow 1002 none 0 n):=qbH (by rw [List.length_map,hdl]);have hrl2:=q1g (n:=n) (g:=g) (m:=j)
    by_cases hjl:j < n
    ·obtain ⟨r,hr1⟩:∃ r,L[j]?=some r:=⟨_,List.getElem?_eq_getElem Oq⟩;have hr2:=hr r (List.mem_of_getElem? hr1);obtain ⟨x,hx⟩:∃ x,r[i]?=some x:=⟨_,List.getElem?_eq_getElem Oq⟩;have hgx:g j=x:=by rw [hg]; simp only; rw [getD_some hr1,getD_some hx]
     refine wk1 (x6 hg2 hdl hrl2 hL hr1 hx) ?_;refine ⟨j+1,by omega,by omega,?_⟩;rw [← q9l,hgx];refine LeM [] rfl rfl ?_;refine Zz ?_;refine ⟨rfl,q2G (q0Y rfl qpu) ?_⟩;rw [q16]
     try simp -implicitDefEqProofs (disch:=omega) only [go_sem,Nat.reduceEqDiff,Nat.reduceAdd,↓reduceIte]
    ·obtain rfl:j=n:=by omega
     refine wk1 (x2 hdl hL) ?_;refine ⟨i+1,by omega,by omega,?_⟩;rw [trS_s,← hg];refine LeM [] rfl rfl ?_;refine Zz ?_;rw [List.map_append];refine ⟨rfl,q2G (q0Y rfl qpu) ?_⟩;rw [List.map_singleton,q16];refine q1z (T:=30) (l:=(rwG j g j).map fun z:Nat=>uv z) ?_ clU (fun i hi=>?_) ?_
     ·try simp -implicitDefEqProofs (disch:=omega) only [go_sem,Nat.reduceEqDiff,Nat.reduceAdd,↓reduceIte]
     ·obtain rfl:i=1002:=by unfold q1Q at hi; cases hi; rfl
      try simp -implicitDefEqProofs (disch:=omega) only [go_sem,Nat.reduceEqDiff,Nat.reduceAdd,↓reduceIte]
     ·rw [List.drop_zero]; exact List.take_of_length_le (by simp [rwG])
  ·obtain rfl:i=n:=by omega
   exact wk1 (x2 hdl hL) trivial
noncomputable def loV (L:List (List Nat)) (b ys:List Nat) (k:Nat):Nat:=fQ 0 (q0o (q62 (ofZ (b.getD k 0)) ((L.getD k []).take k) (ys.take k) k)) (ofZ ((L.getD k []).getD k 0))
noncomputable def loF (L:List (List Nat)) (b:List Nat):Nat→Nat→List Nat→Option (List Nat)
 | 0,_,ys=>some ys
 | m+1,k,ys=>if q0J (loV L b ys k) then loF L b m (k+1) (ys.set k (loV L b ys k)) else none
noncomputable def upV (U:List (List Nat)) (b ys:List Nat) (n k:Nat):Nat:=fQ 0 (q0o (q62 (ofZ (b.getD k 0)) ((U.getD k []).drop (k+1)) (ys.drop (k+1)) (n-(k+1)))) (ofZ ((U.getD k []).getD k 0))
noncomputable def upF (U:List (List Nat)) (b:List Nat) (n:Nat):Nat→List Nat→Option (List Nat)
 | 0,ys=>some ys
 | k+1,ys=>if q0J (upV U b ys n k) then upF U b n k (ys.set k (upV U b ys n k)) else none
def q3R {l:List Nat} {k v:Nat} (h:q0c l) (h1:v < 18446744073709551616) (h2:q0J v):q0c (l.set k v):=fun x hx=>by
 rcases List.mem_or_eq_of_mem_set hx with h3 | rfl
 ·exact h x h3
 ·exact ⟨h1,h2⟩
def q8s {l:List Nat} {k:Nat} (h:q0c l):q0c (l.take k):=fun x hx=>h x (List.mem_of_mem_take hx)
def q8t {l:List Nat} {k:Nat} (h:q0c l):q0c (l.drop k):=fun x hx=>h x (List.mem_of_mem_drop hx)
def q1d {n:Nat}:q0c (List.replicate n 0):=fun x hx=>by
 rw [List.eq_of_mem_replicate hx];exact ⟨by omega,by unfold q0J; simp⟩
structure SqM (L:List (List Nat)) (n:Nat):Prop where
 len:L.length=n
 row:∀ r ∈ L,r.length=n∧q0c r
 dg:∀ k,k < n→ofZ ((L.getD k []).getD k 0)≠0
def qdb {pm cp ri:List Int} {vs l:List Nat} {n:Nat} {L:List (List Nat)} (hL:SqM L n) (hn:l.length=n) (hn2:n≤200) (hl:q0c l) (hcp:pm.length=n)
  (cK:ACt 82 [q1L (pm,cp,ri,vs)] (iv 0)) (cD:ACt 205 [q1L (pm,cp,ri,vs)] (pFF L)) :
  ACt 146 [q1L (pm,cp,ri,vs),pF l] (fwP (loF L l n 0 (List.replicate n 0))):=by
 have cS:=q3q (e:=0) (n:=n) (l:=l) (fun x hx=>(hl x hx).1) Oq;have e0:q39 0 n l=0:=by
  unfold q39;rw [if_neg (by omega),if_neg (by omega),if_neg (not_not_intro fun x hx=>(hl x hx).2)]
 rw [e0] at cS;obtain ⟨res,hres⟩:∃ res,res=loF L l n 0 (List.replicate n 0):=⟨_,rfl⟩;rw [← hres];have hLl:=hL.len;unfold q1L at *;dsimp only at *;refine ac0 Tryz.func146 Tryz.ntmps146 [.tmp 4,.tmp 5] ?_;refine wk1 (x2 hcp hn) ?_;refine q0A (fun q:Nat × List Nat=>q.1≤n∧q.2.length=n∧q0c q.2∧loF L l (n-q.1) q.1 q.2=res) [1,2,7] [2] Lk Lk (fun q=>[(9,iv q.1),(8,.ow 1001 none 0 n)]) (fun q=>[(1001,⟨30,none,q.2.map fun z:Nat=>uv z,false⟩)]) (fun q=>n-q.1) (0,List.replicate n 0) ⟨Nat.zero_le _,by simp,q1d,hres.symm⟩ ?_ ?_
 ·refine LeM [(1001,some 24)] rfl rfl ?_;refine Zz ?_
  rfl
 ·rintro ⟨k,ys⟩ ⟨hk,hy,hfy,hv⟩;simp only at hk hy hfy hv ⊢
  by_cases hlt:k < n
  ·obtain ⟨u,hu⟩:∃ u,l[k]?=some u:=⟨_,List.getElem?_eq_getElem Oq⟩;obtain ⟨r,hr⟩:∃ r,L[k]?=some r:=⟨_,List.getElem?_eq_getElem Oq⟩;obtain ⟨hrn,hrf⟩:=hL.row r (List.mem_of_getElem? hr);obtain ⟨d,hd⟩:∃ d,r[k]?=some d:=⟨_,List.getElem?_eq_getElem Oq⟩;obtain ⟨u1,u2⟩:=hl u (List.mem_of_getElem? hu);obtain ⟨d1,d2⟩:=hrf d (List.mem_of_getElem? hd);have hdz:ofZ d≠0:=by
    have:=hL.dg k hlt
    rwa [getD_some hr,getD_some hd] at this
   obtain ⟨S,hS⟩:∃ S,S=q0o (q62 (ofZ u) (r.take k) (ys.take k) k):=⟨_,rfl⟩;have hvk:loV L l ys k=fQ 0 S (ofZ d):=by unfold loV; rw [getD_some hr,getD_some hd,getD_some hu,← hS]
   rw [show n-k=(n-(k+1))+1 by omega,loF,hvk] at hv;have hrl:(r.take k).length=k:=by rw [List.length_take]; omega
   have cR:=qaj (B:=ofZ u) (l:=r.take k) (x:=ys.take k) (q4F u2) (q8s hrf) (q8s hfy) (by rw [hrl,List.length_take]; omega) (by omega);rw [hrl,← hS] at cR;unfold pF at cR;rw [List.map_take,List.map_take] at cR;have cZ:=qkk (V:=S);have cO1:=q2u u1 (q0Q u2);have cO2:=q2u d1 (q0Q d2);have cQ:=q6v (q9q (A:=S) (mode:=0) hdz);have hqlt:fQ 0 S (ofZ d) < 18446744073709551616:=q6L hdz;generalize fQ 0 S (ofZ d)=v at *;have cF:=q1i hqlt;have es1:slP (some 1) none (some (iv (k:Int))) (pF r)=some (.sl none ((r.map fun z:Nat=>uv z).take k)):=by
    simp [slP,q8J,ksz];omega
   have es2:slP (some 1) none (some (iv (k:Int))) (.ow 1001 none 0 n)=some (.ow 1001 none 0 k):=by
    simp [slP,q8J,ksz];omega
   have hset:((ys.map fun z:Nat=>uv z).set k (uv (v:Nat)))[k]?=some (uv (v:Nat)):=List.getElem?_set_self (by rw [List.length_map]; omega)
   by_cases hfx:q0J v
   ·rw [decide_eq_true hfx] at cF;rw [if_pos hfx] at hv;refine wk1 (x6 hu hr hd es1 es2 (x4 hy hLl hset hn)) ?_;refine ⟨(k+1,ys.set k v),⟨by simp only; omega,by simp only; rw [List.length_set]; exact hy,q3R hfy hqlt hfx,hv⟩,by simp only; omega,?_⟩;simp only;refine LeM [] rfl rfl ?_;refine Zz ?_
    rfl
   ·rw [decide_eq_false hfx] at cF;rw [if_neg hfx] at hv;subst hv;rw [show fwP none=.tu [pF [],iv 233] from rfl];exact wk1 (x6 hu hr hd es1 es2 (x3 hy hLl hset)) trivial
  ·obtain rfl:k=n:=by omega
   rw [Nat.sub_self,loF] at hv;subst hv;rw [show fwP (some ys)=.tu [pF ys,iv 0] from rfl];exact wk1 hn trivial
def qd9 {pm cp ri:List Int} {vs l:List Nat} {n:Nat} {L U:List (List Nat)} (hU:SqM U n) (hn:l.length=n) (hn2:n≤200) (hl:q0c l) (hcp:pm.length=n)
  (cK:ACt 82 [q1L (pm,cp,ri,vs)] (iv 0)) (cD:ACt 205 [q1L (pm,cp,ri,vs)] (pFF L)) (cT:ACt 206 [pFF L] (pFF U)) :
  ACt 147 [q1L (pm,cp,ri,vs),pF l] (fwP (upF U l n n (List.replicate n 0))):=by
 have cS:=q3q (e:=0) (n:=n) (l:=l) (fun x hx=>(hl x hx).1) Oq;have e0:q39 0 n l=0:=by
  unfold q39;rw [if_neg (by omega),if_neg (by omega),if_neg (not_not_intro fun x hx=>(hl x hx).2)]
 rw [e0] at cS;obtain ⟨res,hres⟩:∃ res,res=upF U l n n (List.replicate n 0):=⟨_,rfl⟩;rw [← hres];have hUl:=hU.len;unfold q1L at *;dsimp only at *;refine ac0 Tryz.func147 Tryz.ntmps147 [.tmp 4,.tmp 5] ?_;refine wk1 (x2 hcp hn) ?_;refine q0A (fun q:Nat × List Nat=>q.1≤n∧q.2.length=n∧q0c q.2∧upF U l n q.1 q.2=res) [1,2,7] [2] Lk Lk (fun q=>[(9,iv ((q.1:Int)-1)),(8,.ow 1001 none 0 n)]) (fun q=>[(1001,⟨30,none,q.2.map fun z:Nat=>uv z,false⟩)]) (fun q=>q.1) (n,List.replicate n 0) ⟨Nat.le_refl _,by simp,q1d,hres.symm⟩ ?_ ?_
 ·refine LeM [(1001,some 25)] rfl rfl ?_;exact Zy
 ·rintro ⟨k,ys⟩ ⟨hk,hy,hfy,hv⟩;simp only at hk hy hfy hv ⊢
  by_cases hlt:k=0
  ·subst hlt;rw [upF] at hv;subst hv;rw [show fwP (some ys)=.tu [pF ys,iv 0] from rfl];exact wk1 hn trivial
  ·obtain ⟨k,rfl⟩:∃ k',k=k'+1:=⟨k-1,by omega⟩;obtain ⟨u,hu⟩:∃ u,l[k]?=some u:=⟨_,List.getElem?_eq_getElem Oq⟩;obtain ⟨r,hr⟩:∃ r,U[k]?=some r:=⟨_,List.getElem?_eq_getElem Oq⟩;obtain ⟨hrn,hrf⟩:=hU.row r (List.mem_of_getElem? hr);obtain ⟨d,hd⟩:∃ d,r[k]?=some d:=⟨_,List.getElem?_eq_getElem Oq⟩;obtain ⟨u1,u2⟩:=hl u (List.mem_of_getElem? hu);obtain ⟨d1,d2⟩:=hrf d (List.mem_of_getElem? hd);have hdz:ofZ d≠0:=by
    have:=hU.dg k Oq
    rwa [getD_some hr,getD_some hd] at this
   obtain ⟨S,hS⟩:∃ S,S=q0o (q62 (ofZ u) (r.drop (k+1)) (ys.drop (k+1)) (n-(k+1))):=⟨_,rfl⟩;have hvk:upV U l ys n k=fQ 0 S (ofZ d):=by unfold upV; rw [getD_some hr,getD_some hd,getD_some hu,← hS]
   rw [upF,hvk] at hv;have hrl:(r.drop (k+1)).length=n-(k+1):=by rw [List.length_drop]; omega
   have cR:=qaj (B:=ofZ u) (l:=r.drop (k+1)) (x:=ys.drop (k+1)) (q4F u2) (q8t hrf) (q8t hfy) (by rw [hrl,List.length_drop]; omega) (by omega);rw [hrl,← hS] at cR;unfold pF at cR;rw [List.map_drop,List.map_drop] at cR;have cZ:=qkk (V:=S);have cO1:=q2u u1 (q0Q u2);have cO2:=q2u d1 (q0Q d2);have cQ:=q6v (q9q (A:=S) (mode:=0) hdz);have hqlt:fQ 0 S (ofZ d) < 18446744073709551616:=q6L hdz;generalize fQ 0 S (ofZ d)=v at *;have cF:=q1i hqlt;have ek:((k+1:Nat):Int)-1=(k:Int):=by omega
   have wj:(k:Int)+1=((k+1:Nat):Int):=rfl;have ww:IntKind.i64.wrap ((k+1:Nat):Int)=((k+1:Nat):Int):=i64_in Oq Oq;have sl1:∀ m:Nat,m≤n→slP (some 1) (some (iv (m:Int))) none (pF r)=some (.sl none ((r.map fun z:Nat=>uv z).drop m)):=fun m hm=>by
    simp [slP,q8J,ksz];exact ⟨by omega,by rw [List.take_of_length_le (by rw [List.length_map]; omega)]⟩
   have sl2:∀ m:Nat,m≤n→slP (some 1) (some (iv (m:Int))) none (.ow 1001 none 0 n)=some (.ow 1001 none m (n-m)):=fun m hm=>by
    simp [slP,q8J,ksz];omega
   have htk:((ys.map fun z:Nat=>uv z).drop (k+1)).take (n-(k+1))=(ys.map fun z:Nat=>uv z).drop (k+1):=List.take_of_length_le (by rw [List.length_drop,List.length_map]; omega);have es1:=sl1 (k+1) hk;have es2:=sl2 (k+1) hk;have hset:((ys.map fun z:Nat=>uv z).set k (uv (v:Nat)))[k]?=some (uv (v:Nat)):=List.getElem?_set_self (by rw [List.length_map]; omega)
   by_cases hfx:q0J v
   ·rw [decide_eq_true hfx] at cF;rw [if_pos hfx] at hv;refine wk1 (x6 ek wj ww htk hu (x6 hr hd es1 es2 hUl hset)) ?_;refine ⟨(k,ys.set k v),⟨by simp only; omega,by simp only; rw [List.length_set]; exact hy,q3R hfy hqlt hfx,hv⟩,by simp only; omega,?_⟩;simp only;refine LeM [] rfl rfl ?_;exact Zy
   ·rw [decide_eq_false hfx] at cF;rw [if_neg hfx] at hv;subst hv;rw [show fwP none=.tu [pF [],iv 233] from rfl];exact wk1 (x6 ek wj ww htk hu (x6 hr hd es1 es2 hUl hset)) trivial
def q2t {n m i:Nat} {g:Nat→Nat} (hi:i < n):(rwG n g m)[i]?=some (if i < m then g i else 0):=by
 unfold rwG;rw [List.getElem?_map,List.getElem?_range hi]; rfl
def q7m {f:Fac} {n k:Nat} (hk:k < n):(q3T f n n)[k]?=some (rwG n (elF f k) (k+1)):=by
 unfold q3T;rw [List.getElem?_map,List.getElem?_range hk]; rfl
def q8S {α:Type} {l:List α} {k i:Nat} {d:α} (hi:i < k):(l.take k).getD i d=l.getD i d:=by
 rw [List.getD_eq_getElem?_getD,List.getD_eq_getElem?_getD,List.getElem?_take,if_pos hi]
def qea {f:Fac} {b ys:List Nat} {n k:Nat} (hk:k < n):∀ m,m≤k→q62 (ofZ (b.getD k 0)) ((rwG n (elF f k) (k+1)).take k) (ys.take k) m=qhK f b ys k m
 | 0,_=>rfl
 | m+1,hm=>by
  rw [q62,qhK,qea hk m (by omega),q8S (by omega),q8S (by omega),getD_some (q2t (by omega)),if_pos (by omega)]
def qnV {f:Fac} {b ys:List Nat} {n k:Nat} (hk:k < n):loV (q3T f n n) b ys k=fQ 0 (q0o (qhK f b ys k k)) (ofZ (elF f k k)):=by
 unfold loV;rw [getD_some (q7m hk),qea hk k (Nat.le_refl _),getD_some (q2t hk),if_pos (by omega)]
def qfe {f:Fac} {b:List Nat} (ho:FacOk f):∀ (m k:Nat) (rows:List (List Int)) (ys:List Nat),k+m=f.pm.length→rows.length=f.pm.length→ys.length=f.pm.length →
  (∀ i,k≤i→i < f.pm.length→∃ r,rows[i]?=some r∧q0o r=q0o (qhK f b ys i k))→qhL f ((List.range' k m).map fun i:Nat=>(i:Int)) rows ys=loF (q3T f f.pm.length f.pm.length) b m k ys
 | 0,k,rows,ys,_,_,_,_=>by
  simp only [List.range'_zero,List.map_nil]
  rfl
 | m+1,k,rows,ys,hk,hr,hy,h=>by
  obtain ⟨a,e,hcol⟩:=ho.col k Oq;have hlt:=hcol.lt;have hle:=hcol.le;obtain ⟨r,hr0,hsum⟩:=h k (Nat.le_refl _) Oq;obtain ⟨x,V,d1,d2,d3⟩:=hcol.diag;have hel:elF f k k=x:=by
   rw [q6N hcol,show e-a=(e-(a+1))+1 by omega,q2S,if_pos hcol.first];exact getD_some d1
  rw [List.range'_succ,List.map_cons,q8p hcol.ha hcol.hb d1 hr0,loF,qnV (by omega),hel,← hsum];obtain ⟨y,hyv⟩:∃ y,y=fQ 0 (q0o r) (ofZ x):=⟨_,rfl⟩;rw [← hyv]
  by_cases hfin:q0J y
  case neg=>rw [if_neg hfin,if_neg hfin]
  rw [if_pos hfin,if_pos hfin];have hset:∀ i,i < k→ys.getD i 0=(ys.set k y).getD i 0:=fun i hi=>by
   rw [List.getD_eq_getElem?_getD,List.getD_eq_getElem?_getD,List.getElem?_set_ne (by omega)]
  have hsk:(ys.set k y).getD k 0=y:=getD_some (List.getElem?_set_self Oq);refine qfe ho m (k+1) _ _ (by omega) (by rw [qbD]; exact hr) (by simpa using hy) ?_;intro i hi1 hi2;obtain ⟨ri,h1,h2⟩:=h i Oq hi2;obtain ⟨r',h3,h4⟩:=q8W (q:=y) hcol ho.n ho.ril (e-(a+1)) (a+1) rows Oq Oq Oq i ri h1;refine ⟨r',h3,?_⟩;have hel2:elF f i k=q2S f i (a+1) (e-(a+1)):=by
   rw [q6N hcol,show e-a=(e-(a+1))+1 by omega,q2S,if_neg (by rw [hcol.first]; intro e; have:=Option.some.inj e; omega)]
  rw [h4,h2,qhK,q1A,hsk,hel2,← q6m k hset];omega
def qsb {f:Fac} {b:List Nat} (ho:FacOk f) (hb:b.length=f.pm.length):qhL f (qc7 b.length) (b.map fun x=>[ofZ x]) (List.replicate b.length 0)=loF (q3T f f.pm.length f.pm.length) b f.pm.length 0 (List.replicate f.pm.length 0):=by
 rw [hb,← qfe (b:=b) ho f.pm.length 0 (b.map fun x=>[ofZ x]) (List.replicate f.pm.length 0) (by omega) (by simpa using hb) (by simp) ?_]
 ·unfold qc7; rw [List.range_eq_range']
 intro i _ hi;obtain ⟨x,hx⟩:∃ x,b[i]?=some x:=⟨_,List.getElem?_eq_getElem Oq⟩;refine ⟨[ofZ x],by rw [List.getElem?_map,hx]; rfl,?_⟩;rw [qhK,getD_some hx]
def q6P {f:Fac} (ho:FacOk f):SqM (q3T f f.pm.length f.pm.length) f.pm.length:=⟨qbx,fun r hr=>by
 obtain ⟨i,hi,rfl⟩:=List.mem_map.1 hr;refine ⟨q1g,fun x hx=>?_⟩;obtain ⟨j,hj,rfl⟩:=List.mem_map.1 hx
 split
 ·obtain ⟨a,b,hc⟩:=ho.col j (List.mem_range.1 hj);rw [q6N hc];exact qdj ho.vals _ _
 ·exact ⟨by omega,by unfold q0J; simp⟩,fun k hk=>by
 rw [getD_some (q7m hk),getD_some (q2t hk),if_pos (by omega)];obtain ⟨a,e,hcol⟩:=ho.col k hk;have hlt:=hcol.lt;obtain ⟨x,V,d1,d2,d3⟩:=hcol.diag;have hel:elF f k k=x:=by
  rw [q6N hcol,show e-a=(e-(a+1))+1 by omega,q2S,if_pos hcol.first];exact getD_some d1
 rw [hel,q0j d2];omega⟩
section
variable {x y:List Nat} {t:Nat}
def q6w (hx:q0c x) (hy:q0c y) (ht:q0J t) (ht2:t < 18446744073709551616) (hn:x.length≤1000) (hl:y.length=x.length):ACt 89 [pF x,uv t,pF y] (lnZ (lnF x t y x.length)):=by
 obtain ⟨g,hg⟩:∃ g:Nat→Nat,g=fun k=>fR 0 (lnE x t y k):=⟨_,rfl⟩;have hgk:=fun k=>congrFun hg k;have hle:lnF x t y x.length=rwG x.length g x.length:=by
  unfold lnF rwG;rw [hg];exact List.map_congr_left fun k hk=>by rw [if_pos (List.mem_range.1 hk)]
 have hrl:=fun m=>q1g (n:=x.length) (g:=g) (m:=m);have hrs:=fun m=>q9l (n:=x.length) (g:=g) (m:=m);have hrg:=fun m i hi=>q2t (n:=x.length) (g:=g) (m:=m) (i:=i) hi;have hr0:=q9m (n:=x.length) (g:=g);rw [hle];unfold lnZ;generalize rwG x.length g=rw0 at *;refine ac0 Tryz.func89 Tryz.ntmps89 [.tmp 6,.tmp 7] ?_;refine wk ?_;refine q0A (fun i=>i≤x.length∧∀ k,k < i→q0J (g k)) [0,1,2] [] Lk Lk (fun i:Nat=>[(9,iv i),(8,.ow 1001 none 0 x.length)]) (fun i=>[(1001,⟨30,none,(rw0 i).map fun z:Nat=>uv z,false⟩)]) (fun i=>x.length-i) 0 ⟨Nat.zero_le _,fun _ h=>by omega⟩ ?_ ?_
 ·refine LeM [(1001,some 12)] rfl rfl ?_;refine Zz ?_;exact ⟨rfl,hr0⟩
 ·rintro i ⟨hi,hgf⟩
  by_cases hlt:i < x.length
  ·obtain ⟨u,hu⟩:∃ u,x[i]?=some u:=⟨_,List.getElem?_eq_getElem hlt⟩;obtain ⟨v,hv⟩:∃ v,y[i]?=some v:=⟨_,List.getElem?_eq_getElem Oq⟩;obtain ⟨u1,u2⟩:=hx u (List.mem_of_getElem? hu);obtain ⟨v1,v2⟩:=hy v (List.mem_of_getElem? hv);have C1:=q2u u1 (q0Q u2);have hm:=q04 ht v2;have C2:=q2V ht2 v1 (q0Q ht) (q0Q v2) hm.1;have es:=hgk i;have hd:=qks (k:=i) hx hy ht;unfold lnE at es hd;rw [getD_some hu,getD_some hv] at es hd;have C3:=qoR hd;have C4:=qen (A:=ofZ u+q1M t v);rw [← es] at C4;have hgl:g i < 18446744073709551616:=by rw [es]; exact qaY
   have C5:=q1i hgl;have e1:=hrs i;have e3:(((rw0 i).map fun z:Nat=>uv z).set i (uv (g i:Nat)))[i]?=some (uv (g i:Nat)):=List.getElem?_set_self (by rw [List.length_map,hrl]; exact hlt)
   by_cases hf:q0J (g i)
   ·rw [decide_eq_true hf] at C5;refine wk1 (x4 hu hv (hrl i) e3) ?_;refine ⟨i+1,⟨by omega,fun k hk=>?_⟩,by omega,?_⟩
    ·rcases Nat.lt_succ_iff_lt_or_eq.1 hk with h | rfl
     ·exact hgf k h
     ·exact hf
    rw [← e1];refine LeM [] rfl rfl ?_;refine Zz ?_;omega
   ·rw [decide_eq_false hf] at C5;rw [if_neg fun h=>hf (by
     refine h (g i) (List.mem_of_getElem? (i:=i) ?_);rw [hrg x.length i hlt,if_pos hlt])]
    exact wk1 (x4 hu hv (hrl i) e3) trivial
  ·obtain rfl:i=x.length:=by omega
   rw [if_pos fun z hz=>by
    obtain ⟨k,hk⟩:=List.mem_iff_getElem?.1 hz;have hkl:k < x.length:=by have:=(List.getElem?_eq_some_iff.1 hk).1; rw [hrl] at this; exact this
    rw [hrg x.length k hkl,if_pos hkl] at hk;cases hk;exact hgf k hkl]
   exact wk1 (hrl x.length) trivial
end
section
variable {f:Nat→Nat→Option Nat} {x:List Nat} {R C:Nat}
open Classical in
noncomputable def aplE (f:Nat→Nat→Option Nat) (R C:Nat) (x:List Nat):List Nat × Int :=
 if R≠C then ([],5) else if x.length≠R then ([],2) else if ¬ ∀ v ∈ x,q0J v then ([],4) else if ∀ v ∈ q2L f x R R,q0J v then (q2L f x R R,0) else ([],233)
abbrev erR (p:List Nat × Int):PV:=.tu [pF p.1,iv p.2]
def qpp (h:TOk f R C) (hu:∀ v ∈ x,v < 18446744073709551616) (hl:x.length≤1000) (hR:R≤20):ACt 39 [pT R C f,pF x] (erR (aplE f R C x)):=by
 have C1:=qaw h;have C2:=q3P hu Oq;have hRC:=h.c;have key:R=C→x.length=R→(∀ v ∈ x,q0J v)→ACt 107 [pT R C f,pF x] (lnR (q2L f x R R)):=fun e1 e2 e3=>by subst e1; exact q8h h (fun v hv=>⟨hu v hv,e3 v hv⟩) e2 hR
 unfold erR aplE;unfold pT q2M at *
 by_cases h1:R=C
 ·rw [if_neg (not_not_intro h1)];subst h1
  by_cases h2:x.length=R
  ·rw [if_neg (not_not_intro h2)]
   by_cases h3:∀ v ∈ x,q0J v
   ·rw [if_neg (not_not_intro h3)];have C3:=key rfl h2 h3;rw [decide_eq_true h3] at C2;unfold lnR at C3
    by_cases h4:∀ v ∈ q2L f x R R,q0J v
    ·rw [if_pos h4];rw [decide_eq_true h4] at C3;generalize q2L f x R R=A at *;refine ac0 Tryz.func39 Tryz.ntmps39 [.tmp 4,.tmp 5] ?_;exact wk1 h2 trivial
    ·rw [if_neg h4];rw [decide_eq_false h4] at C3;generalize q2L f x R R=A at *;refine ac0 Tryz.func39 Tryz.ntmps39 [.tmp 4,.tmp 5] ?_;exact wk1 h2 trivial
   ·rw [if_pos h3];rw [decide_eq_false h3] at C2;refine ac0 Tryz.func39 Tryz.ntmps39 [.tmp 4,.tmp 5] ?_;exact wk1 h2 trivial
  ·rw [if_pos h2];refine ac0 Tryz.func39 Tryz.ntmps39 [.tmp 4,.tmp 5] ?_;exact wk trivial
 ·rw [if_pos h1];refine ac0 Tryz.func39 Tryz.ntmps39 [.tmp 4,.tmp 5] ?_;exact wk trivial
def qeE {n i:Nat} (h:TOk f n n) (hi:i < n):q0c (qdZ f n i):=fun v hv=>by
 obtain ⟨j,hj,rfl⟩:=List.mem_map.1 hv;have hj:=List.mem_range.1 hj;have:=h.fin (j:=min i j) (i:=max i j) Oq Oq;exact ⟨this.2,this.1⟩
open Classical in
def qc1 {n:Nat} (h:TOk f n n) (hx:q0c x) (hxl:x.length=n) (hn:n≤20):ACt 40 [pT n n f,pF x] (erR (if ∀ v ∈ q2L f x n n,q0J v then (q2L f x n n,0) else ([],233))):=by
 have C1:=q7G h;have C2:=q4d (l:=x) (fun v hv=>(hx v hv).1) Oq;rw [decide_eq_true fun v hv=>(hx v hv).2] at C2;have C3:=fun i j hi hj=>qeC (i:=i) (j:=j) h hi hj;obtain ⟨g,hg⟩:∃ g:Nat→Nat,g=fun k=>fR 0 (q2d (qdZ f n k) x):=⟨_,rfl⟩;have hgk:=fun k=>congrFun hg k;have hle:q2L f x n n=rwG n g n:=by
  unfold q2L rwG;rw [hg];exact List.map_congr_left fun k hk=>by rw [if_pos (List.mem_range.1 hk)]
 have hrl:=fun m=>q1g (n:=n) (g:=g) (m:=m);have hrs:=fun m=>q9l (n:=n) (g:=g) (m:=m);have hrg:=fun m i hi=>q2t (n:=n) (g:=g) (m:=m) (i:=i) hi;have hr0:=q9m (n:=n) (g:=g);rw [hle];unfold erR;generalize rwG n g=rw0 at *;unfold pT q2M at *;refine ac0 Tryz.func40 Tryz.ntmps40 [.tmp 4,.tmp 5] ?_;refine wk1 hxl ?_;refine q0A (fun i=>i≤n∧∀ k,k < i→q0J (g k)) [1,2] [2] Lk Lk (fun i:Nat=>[(8,iv i),(7,.ow 1001 none 0 n)]) (fun i=>[(1001,⟨30,none,(rw0 i).map fun z:Nat=>uv z,false⟩)]) (fun i=>n-i) 0 ⟨Nat.zero_le _,fun _ h=>by omega⟩ ?_ ?_
 ·refine LeM [(1001,some 31)] rfl rfl ?_;refine Zz ?_;exact ⟨rfl,hr0⟩
 ·rintro i ⟨hi,hgf⟩
  by_cases hlt:i < n
  ·have q1:(i:Int) < n:=by omega
   obtain ⟨gr,hgr⟩:∃ gr:Nat→Nat,gr=fun j=>(f (min i j) (max i j)).getD 0:=⟨_,rfl⟩;have hgrk:=fun k=>congrFun hgr k;have hre:qdZ f n i=rwG n gr n:=by
    unfold qdZ rwG;rw [hgr];exact List.map_congr_left fun k hk=>by rw [if_pos (List.mem_range.1 hk)]
   have grl:=fun m=>q1g (n:=n) (g:=gr) (m:=m);have grs:=fun m=>q9l (n:=n) (g:=gr) (m:=m);have gr0:=q9m (n:=n) (g:=gr);have hsf:=qeE h hlt;have es:=hgk i;rw [hre] at hsf es;have C4:=q6x hsf hx (by rw [grl]; omega) (by rw [grl]; exact hxl);have N1:=qkk (V:=q2d (rwG n gr n) x);have C5:=qen (A:=q2d (rwG n gr n) x);rw [← es] at C5;have hgl:g i < 18446744073709551616:=by rw [es]; exact qaY
   have C6:=q1i hgl;generalize rwG n gr=rw1 at *;have e1:=hrs i;have e3:(((rw0 i).map fun z:Nat=>uv z).set i (uv (g i:Nat)))[i]?=some (uv (g i:Nat)):=List.getElem?_set_self (by rw [List.length_map,hrl]; exact hlt);refine wk1 (x2 q1 hxl) ?_;refine q0A (fun j=>j≤n) [1,2,7,8] [2,1001] Lk Lk (fun j:Nat=>[(10,iv j),(9,.ow 1002 none 0 n)]) (fun j=>[(1002,⟨30,none,(rw1 j).map fun z:Nat=>uv z,false⟩)]) (fun j=>n-j) 0 (Nat.zero_le _) ?_ ?_
   ·refine LeM [(1002,some 40)] rfl rfl ?_;refine Zz ?_;exact ⟨rfl,gr0⟩
   ·intro j hj
    by_cases hlt2:j < n
    ·have q2:(j:Int) < n:=by omega
     have C7:=C3 (max i j) (min i j) Oq Oq;have m1:max (i:Int) (j:Int)=((max i j:Nat):Int):=by omega
     have m2:min (i:Int) (j:Int)=((min i j:Nat):Int):=by omega
     rw [← hgrk j] at C7;have g1:=grs j;refine wk1 (x5 q2 hxl m1 m2 (grl j)) ?_;refine ⟨j+1,by omega,by omega,?_⟩;rw [← g1];refine LeM [] rfl rfl ?_;refine Zz ?_;omega
    ·obtain rfl:j=n:=by omega
     have q2:¬ (j:Int) < j:=by omega
     by_cases hf:q0J (g i)
     ·rw [decide_eq_true hf] at C6;refine wk1 (x5 q2 hxl (hrl i) e3 (grl j)) ?_;refine ⟨i+1,⟨by omega,fun k hk=>?_⟩,by omega,?_⟩
      ·rcases Nat.lt_succ_iff_lt_or_eq.1 hk with h | rfl
       ·exact hgf k h
       ·exact hf
      rw [← e1];refine LeM [] rfl rfl ?_;refine Zz ?_;omega
     ·rw [decide_eq_false hf] at C6;rw [if_neg fun h=>hf (by
       refine h (g i) (List.mem_of_getElem? (i:=i) ?_);rw [hrg j i hlt,if_pos hlt])]
      exact wk1 (x5 q2 hxl (hrl i) e3 (grl j)) trivial
  ·obtain rfl:i=n:=by omega
   have q1:¬ (i:Int) < i:=by omega
   rw [if_pos fun z hz=>by
    obtain ⟨k,hk⟩:=List.mem_iff_getElem?.1 hz;have hkl:k < i:=by have:=(List.getElem?_eq_some_iff.1 hk).1; rw [hrl] at this; exact this
    rw [hrg i k hkl,if_pos hkl] at hk;cases hk;exact hgf k hkl]
   exact wk1 (x3 q1 hxl (hrl i)) trivial
end
def q6R {l:List Nat} (hn:l.length≤1000000):ACt 75 [pF l] (pF l):=by
 have hu:=bn_n (P:=Tryz.prog) (k:=none) (l:=l.map fun z:Nat=>uv z) (t:=25) (E:=30) (c:=0) (d:=0) (by kernel_rfl) (by decide);refine ac0 Tryz.func75 Tryz.ntmps75 [.tmp 2] ?_;refine wk1 hu ?_;refine A_u rfl (fun h=>?_) ?_
 ·have e:l=[]:=List.eq_nil_of_length_eq_zero (by simpa using h);exact wk1 e trivial
 ·exact wk trivial
open Classical in
def qcc {l:List Nat} (hu:∀ x ∈ l,x < 18446744073709551616) (hn:l.length≤1000000):ACt 46 [pF l] (iv (if ¬ ∀ x ∈ l,q0J x then 4 else 0)):=by
 obtain ⟨res,hres⟩:∃ res:Int,res=if ¬ ∀ x ∈ l,q0J x then 4 else 0:=⟨_,rfl⟩
 rw [← hres];refine ac0 Tryz.func46 Tryz.ntmps46 [.tmp 2] ?_;refine wk ?_;refine q0A (fun i=>i≤l.length∧∀ x ∈ l.take i,q0J x) [0,5,6] [] Lk Lk (fun i:Nat=>[(7,iv i)]) (fun _=>[]) (fun i=>l.length-i) 0 ⟨Nat.zero_le _,by simp⟩ ?_ ?_
 ·refine LeM [] rfl rfl ?_;refine Zz ?_
  rfl
 ·rintro i ⟨hi,hf⟩
  by_cases hil:i < l.length
  ·obtain ⟨x,hx⟩:∃ x,l[i]?=some x:=⟨_,List.getElem?_eq_getElem hil⟩;have hmx:=List.mem_of_getElem? hx;have cF:=q4p (hu x hmx)
   by_cases hfx:q0J x
   case neg =>
    rw [decide_eq_false hfx] at cF;refine wk1 hx ?_;exact (hres.trans (if_pos fun h=>hfx (h x hmx))).symm
   rw [decide_eq_true hfx] at cF;refine wk1 hx ?_;refine ⟨i+1,⟨by omega,?_⟩,by omega,?_⟩
   ·rw [q2q hx];intro y hy
    rcases List.mem_append.1 hy with hy | hy
    ·exact hf y hy
    ·simp at hy; subst hy; exact hfx
   ·refine LeM [] rfl rfl ?_;refine Zz ?_
    rfl
  ·obtain rfl:i=l.length:=by omega
   rw [List.take_length] at hf;refine wk ?_;exact (hres.trans (if_neg (not_not_intro hf))).symm
def qe3 {pm cp ri:List Int} {vs l:List Nat} (hp:pm.length≤1000000) (hc:cp.length≤1000000) (hr:ri.length≤1000000) (hv:vs.length≤1000000) (hu:∀ x ∈ vs,x < 18446744073709551616) (hul:∀ x ∈ l,x < 18446744073709551616) (hl:l.length≤1000000) :
  ACt 50 [q1L (pm,cp,ri,vs),pF l] (iv (q39 (q2e (pm,cp,ri,vs)) pm.length l)):=by
 have cC:=qcE hp hc hr hv hu;have cF:=qcc hul hl;have cV:ACt 56 [pF l,iv pm.length] (iv (q39 0 pm.length l)):=by
  unfold q39;rw [if_neg (not_not_intro rfl)];refine ac0 Tryz.func56 Tryz.ntmps56 [.tmp 4] ?_
  by_cases h:l.length=pm.length
  ·have q:((l.length:Int) != (pm.length:Int))=false:=by simp; omega
   rw [if_neg (not_not_intro h)];generalize (if ¬ ∀ x ∈ l,q0J x then (4:Int) else 0)=z at *;exact wk1 q trivial
  ·have q:((l.length:Int) != (pm.length:Int))=true:=by simp; omega
   rw [if_pos h];exact wk1 q trivial
 generalize q2e (pm,cp,ri,vs)=e at *;unfold q1L at *;dsimp only at *
 by_cases h0:e=0
 ·subst h0;generalize q39 0 pm.length l=z at *;refine ac0 Tryz.func50 Tryz.ntmps50 [.tmp 4] ?_;have q:((0:Int) != 0)=false:=rfl;exact wk1 q trivial
 ·have q:(e != 0)=true:=by simpa using h0
  have hs:q39 e pm.length l=e:=if_pos h0;rw [hs];refine ac0 Tryz.func50 Tryz.ntmps50 [.tmp 4] ?_;exact wk1 q trivial
noncomputable def solR (F:List Int × List Int × List Int × List Nat) (l:List Nat):PV :=
 if q39 (q2e F) F.1.length l≠0 then .tu [pF [],iv (q39 (q2e F) F.1.length l)] else fwP (loF (q3T ⟨F.1,F.2.1,F.2.2.1,F.2.2.2⟩ F.1.length F.1.length) l F.1.length 0 (List.replicate F.1.length 0))
def qeQ {e:Int} {n:Nat} {l:List Nat} (h:q39 e n l=0):e=0∧l.length=n∧∀ x ∈ l,q0J x:=by
 unfold q39 at h
 split at h
 ·exact absurd h (by assumption)
 ·split at h
  ·cases h
  ·split at h
   ·cases h
   ·rename_i h1 h2 h3;exact ⟨Decidable.not_not.1 h1,Decidable.not_not.1 h2,Classical.not_not.1 h3⟩
def qcZ {pm cp ri:List Int} {vs l:List Nat} (hp:pm.length≤1000000) (hc:cp.length≤1000000) (hr:ri.length≤1000000) (hv:vs.length≤1000000) (hu:∀ x ∈ vs,x < 18446744073709551616) (hul:∀ x ∈ l,x < 18446744073709551616) (hl:l.length≤1000000) :
  ACt 146 [q1L (pm,cp,ri,vs),pF l] (solR (pm,cp,ri,vs) l):=by
 have cK:=q7W hp hc hr hv hu;unfold solR;dsimp only
 by_cases h0:q39 (q2e (pm,cp,ri,vs)) pm.length l=0
 ·obtain ⟨h1,h2,h3⟩:=qeQ h0;have ho:=q4T h1 hr hu;rw [h1] at cK;rw [if_neg (not_not_intro h0)];exact qdb (q6P ho) h2 ho.n (fun x hx=>⟨hul x hx,h3 x hx⟩) rfl cK (q8K ho)
 ·rw [if_pos h0];have cS:=q3q (e:=q2e (pm,cp,ri,vs)) (n:=pm.length) hul hl;generalize q39 (q2e (pm,cp,ri,vs)) pm.length l=e at *;generalize q2e (pm,cp,ri,vs)=e2 at *;have q:(e != 0)=true:=by simpa using h0
  unfold q1L at *;dsimp only at *;refine ac0 Tryz.func146 Tryz.ntmps146 [.tmp 4,.tmp 5] ?_;exact wk1 q trivial
def q0V {l:List Nat} (hn:l.length≤1000000):ACt 23 [pF l,pF l] (bv true):=by
 have q:((l.length:Int) != (l.length:Int))=false:=by simp
 refine ac0 Tryz.func23 Tryz.ntmps23 [.tmp 4] ?_;refine wk1 q ?_;refine q0A (fun i=>i≤l.length) [0,1] [] Lk Lk (fun i:Nat=>[(5,iv i)]) (fun _=>[]) (fun i=>l.length-i) 0 (Nat.zero_le _) ?_ ?_
 ·refine LeM [] rfl rfl ?_;refine Zz ?_
  rfl
 ·intro i hi
  by_cases hil:i < l.length
  ·obtain ⟨x,hx⟩:∃ x,l[i]?=some x:=⟨_,List.getElem?_eq_getElem hil⟩;have q2:((x:Int) != (x:Int))=false:=by simp
   refine wk1 (x2 hx q2) ?_;refine ⟨i+1,by omega,by omega,?_⟩;refine LeM [] rfl rfl ?_;refine Zz ?_
   rfl
  ·exact wk trivial
def q6b {raw:List Nat} {k st:Int} {n:Nat} (hr:raw.length≤9223372036854775807) (hn:n≤1000000) (h1 : -1000000≤k) (h2:k≤1000000) (h3 : -9223372036854775808≤st) (h4:st≤9223372036854775807) :
  q9Y 31 [pF raw,iv k,iv n,iv st] h0 (.ow 5000 none 0 n) (q0R h0 5000 ⟨30,none,(q8G raw k (q07 st 4) n).map fun z:Nat=>uv z,false⟩):=by
 have hJ:∀ i,¬ (h0 i≠none):=fun i h=>h rfl;refine qcQ qtp Tryz.func31 rfl Tryz.ntmps31 (by kernel_rfl) ?_ ?_ ?_ ?_
 ·intro i b hb; cases hb
 ·intro i b hb
  by_cases hi:i=5000
  ·subst hi; exact ⟨by omega,by omega⟩
  ·rw [q0F hi] at hb; cases hb
 ·exact IdL.of fun x hx=>by
   simp at hx
   rcases hx with rfl | rfl | rfl | rfl <;> unfold IdP <;> trivial
 have hW:WfH h0:=⟨fun i b hb=>by cases hb⟩;refine wk ?_;refine q00 (fun i=>i≤n) [0,1,2,3] [] Lk Lk (fun i:Nat=>[(10,iv i),(9,.ow 11 none 0 i)]) (fun i=>[(11,⟨30,none,(q8G raw k (q07 st 4) i).map fun z:Nat=>uv z,false⟩)]) (fun _=>h0) (fun i=>n-i) 0 (Nat.zero_le _) ?_ ?_
 ·refine LeW [] rfl rfl ?_ ?_ (by simp [q1o,q1Q,win]) ?_
  ·exact Ow
  ·exact hW
  ·try refine Zz ?_
   exact ⟨rfl,rfl⟩
 ·intro i hi
  by_cases hlt:i < n
  ·have C1:=@q92;have C2:=@qkm;have C3:=@q35;refine wk1 @q5X ?_;refine ⟨i+1,by omega,by omega,?_⟩;refine LeW [(11,some 26)] rfl rfl ?_ ?_ (by simp [q1o,q1Q,win]) ?_
   ·exact Ow
   ·exact hW
   ·try refine Zz ?_
    exact ⟨by omega,by rw [qqS]⟩
  ·obtain rfl:i=n:=by omega
   refine wk ?_;refine (rtM (rs:=[.tmp 8]) rfl rfl Lq ?_ (.inl rfl));refine LeO hJ ?_ clU
   try simp -implicitDefEqProofs (disch:=omega) only [go_sem,Nat.reduceEqDiff,Nat.reduceAdd,↓reduceIte]
def qg9 {D:Nat→Prop} {l:List Nat} {A:Option Addr} {n c:Nat} {w:World} (h:In (fSc q2T l) D (.slice A n c) w) (hb:n≤1000000000) (hf:Fr D w):Calls Tryz.prog 75 #[.slice A n c] w (Rt (fSc q2T l) D w):=by
 have hln:=h.sc_len;refine q1U Tryz.func75 rfl Tryz.ntmps75 (by kernel_rfl) ?_;refine Wz ?_;refine q0f fun K1 hK1=>?_;refine q0P fun K hK=>?_;refine Zz ?_;refine hK _ _ ?_; clear hK;cases A with
 | none =>
  have hl:l=[]:=by
   rcases Nat.eq_zero_or_pos l.length with h0 | h0
   ·exact List.eq_nil_of_length_eq_zero h0
   ·obtain ⟨ad,h1,_⟩:=h.sc_get (i:=0) h0; cases h1
  subst hl;refine Wt ?_;refine Wz ?_;refine q48 ?_
  try simp only [q13,q5S]
  refine qmf rfl ⟨_,rfl,Kp.refl _ _,In.sc_nil⟩
 | some ad =>
  refine Wf (q2f (hK1 _ _ ?_));clear hK1;refine q0P fun K hK=>?_;refine Zz ?_;refine qge fun w1 hx1 hb1 hs1=>?_;have hO:Own w1 w.heap.size 30 1 (some ⟨w.heap.size,0,none⟩) 0 0 []:=by
   have:=Own.made (w:=w1) (w':=w) (B:=w.heap.size) (sz:=1) (n:=0) (c:=0) hb1 (Nat.le_refl _) (by simp [maxLen]) rfl (Nat.le_refl _);simpa using this
  obtain ⟨_,_,_,e,hR1⟩:=h.ext hx1;cases e;refine qgm (xs:=[]) qsz rfl Oq hO hR1 (fun u hu=>by
   obtain ⟨d,_,rfl⟩:=List.mem_map.1 hu; rfl) Oq hx1.size fun A' c' w' ho hk hat=>?_
  rw [Nat.zero_add,List.nil_append] at ho;refine hK _ _ ?_; clear hK;refine q48 (qmf rfl ⟨.slice A' n c',by simp [upd],hO.under hx1 hk,qnG ho fun k hk=>hf k hk⟩)
def upT (f:Fac) (ys:List Nat) (p:Nat):Nat→List Int
 | 0=>[]
 | c+1=>upT f ys p c ++ [-(q1M (f.vs.getD (p+c) 0) (ys.getD (f.ri.getD (p+c) 0).toNat 0))]
noncomputable def bwV (f:Fac) (l ys:List Nat) (k:Nat):Nat :=
 fQ 0 (q0o (ofZ (l.getD k 0) :: upT f ys ((f.cp.getD k 0).toNat+1) ((f.cp.getD (k+1) 0).toNat-((f.cp.getD k 0).toNat+1)))) (ofZ (f.vs.getD (f.cp.getD k 0).toNat 0))
noncomputable def bwS (f:Fac) (l:List Nat):Nat→List Nat→Option (List Nat)
 | 0,ys=>some ys
 | k+1,ys=>if q0J (bwV f l ys k) then bwS f l k (ys.set k (bwV f l ys k)) else none
def stZ (f:Fac) (ys:List Nat):Nat→Nat→Int
 | _,0=>0
 | p,c+1=>q1M (f.vs.getD p 0) (ys.getD (f.ri.getD p 0).toNat 0)+stZ f ys (p+1) c
def qqx {f:Fac} {ys:List Nat}:∀ c p,stZ f ys p (c+1)=stZ f ys p c+q1M (f.vs.getD (p+c) 0) (ys.getD (f.ri.getD (p+c) 0).toNat 0)
 | 0,p=>by simp [stZ]
 | c+1,p=>by
  rw [stZ,qqx c (p+1),show p+1+c=p+(c+1) by omega,stZ,Int.add_assoc]
def qdl {f:Fac} {ys:List Nat} {B:Int} {p:Nat}:∀ c,q0o (B :: upT f ys p c)=B-stZ f ys p c
 | 0=>by simp [upT,stZ,q0o]
 | c+1=>by
  rw [upT,← List.cons_append,q1A,qdl c,qqx];omega
def rwZ (g:Nat→Nat) (ys:List Nat):Nat→Nat→Int
 | _,0=>0
 | r,m+1=>q1M (g r) (ys.getD r 0)+rwZ g ys (r+1) m
def qr0 {g:Nat→Nat} {ys:List Nat}:∀ m r,rwZ g ys r (m+1)=rwZ g ys r m+q1M (g (r+m)) (ys.getD (r+m) 0)
 | 0,r=>by simp [rwZ]
 | m+1,r=>by
  rw [rwZ,qr0 m (r+1),show r+1+m=r+(m+1) by omega,rwZ,Int.add_assoc]
def qe9 {g:Nat→Nat} {l x ys:List Nat} {B:Int} {r:Nat} (hl:∀ i,l.getD i 0=g (r+i)) (hx:∀ i,x.getD i 0=ys.getD (r+i) 0):∀ m,q0o (q62 B l x m)=B-rwZ g ys r m
 | 0=>by simp [q62,rwZ,q0o]
 | m+1=>by
  rw [q62,q1A,qe9 hl hx m,qr0,hl,hx];omega
def q7K {f:Fac} {j a b:Nat} {ys:List Nat} (h:Col f j a b) (hn:f.pm.length≤200) (hrv:f.ri.length=f.vs.length) :
  ∀ m r p,r+m=f.pm.length→a < p→p≤b→(∀ p',p≤p'→p' < b→∃ i:Nat,f.ri[p']?=some (i:Int)∧r≤i)→stZ f ys p (b-p)=rwZ (fun i=>q2S f i p (b-p)) ys r m
 | 0,r,p,hr,ha,hpb,hi=>by
  have hp:p=b:=by
   rcases Nat.lt_or_ge p b with h1 | h1
   ·obtain ⟨i,h2,h3⟩:=hi p (Nat.le_refl _) h1;obtain ⟨i',h4,_,h5⟩:=h.row hn ha h1;rw [h2] at h4;have:=Option.some.inj h4;omega
   ·omega
  rw [hp,Nat.sub_self]; rfl
 | m+1,r,p,hr,ha,hpb,hi=>by
  rw [rwZ]
  by_cases hp:p < b∧f.ri[p]?=some (r:Int)
  ·obtain ⟨hp1,hp2⟩:=hp;have hle:=h.le;obtain ⟨x,hv⟩:∃ x,f.vs[p]?=some x:=⟨_,List.getElem?_eq_getElem Oq⟩;have hlater:∀ p',p+1≤p'→p' < b→∃ i:Nat,f.ri[p']?=some (i:Int)∧r+1≤i:=fun p' q1 q2=>by
    obtain ⟨i,h1,_⟩:=hi p' Oq q2;have:=h.mono (p'-p) p r i (by omega) (by omega) hp2 (by rw [show p+(p'-p)=p' by omega]; exact h1);rw [if_neg (by omega)] at this;exact ⟨i,h1,by omega⟩
   have hc:b-p=(b-(p+1))+1:=by omega
   have e1:q2S f (r:Int) p (b-p)=x:=by rw [hc,q2S,if_pos hp2]; exact getD_some hv
   have e2:rwZ (fun i=>q2S f i p (b-p)) ys (r+1) m=rwZ (fun i=>q2S f i (p+1) (b-(p+1))) ys (r+1) m:=by
    have key:∀ m r',r+1≤r'→rwZ (fun i=>q2S f i p (b-p)) ys r' m=rwZ (fun i=>q2S f i (p+1) (b-(p+1))) ys r' m:=fun m=>by
     induction m with
     | zero=>intro _ _; rfl
     | succ m ih =>
      intro r' hr';rw [rwZ,rwZ,ih (r'+1) (by omega)]
      congr 2
      show q2S f (r':Int) p (b-p)=_
      rw [hc,q2S,if_neg (by rw [hp2]; intro e; have:=Option.some.inj e; omega)]
    exact key m (r+1) (Nat.le_refl _)
   rw [e1,e2,← q7K h hn hrv m (r+1) (p+1) (by omega) (by omega) (by omega) hlater,hc,stZ,getD_some hv,getD_some hp2]
   rfl
  ·have hge:∀ p',p≤p'→p' < b→∃ i:Nat,f.ri[p']?=some (i:Int)∧r+1≤i:=fun p' q1 q2=>by
    obtain ⟨i,h1,h2⟩:=hi p' q1 q2;refine ⟨i,h1,?_⟩
    rcases Nat.lt_or_ge r i with h3 | h3
    ·omega
    ·obtain rfl:i=r:=by omega
     by_cases hpp:p'=p
     ·subst hpp; exact absurd ⟨q2,h1⟩ hp
     ·obtain ⟨i0,h4,h5⟩:=hi p (Nat.le_refl _) Oq;have:=h.mono (p'-p) p i0 i (by omega) (by omega) h4 (by rw [show p+(p'-p)=p' by omega]; exact h1);rw [if_neg (by omega)] at this;omega
   have e0:q2S f (r:Int) p (b-p)=0:=q5n _ _ fun p' q1 q2 e=>by
    obtain ⟨i,h1,h2⟩:=hge p' q1 Oq;rw [h1] at e;have:=Option.some.inj e;omega
   rw [e0,q6C,Int.zero_add];exact q7K h hn hrv m (r+1) p Oq ha hpb hge
def qe6 {g g':Nat→Nat} {ys:List Nat}:∀ m r,(∀ i,r≤i→i < r+m→g i=g' i)→rwZ g ys r m=rwZ g' ys r m
 | 0,_,_=>rfl
 | m+1,r,h=>by rw [rwZ,rwZ,h r (Nat.le_refl _) (by omega),qe6 m (r+1) fun i q1 q2=>h i (by omega) (by omega)]
def qtt {f:Fac} {l ys:List Nat} {k n:Nat} (ho:FacOk f) (hn:n=f.pm.length) (hk:k < n):bwV f l ys k=upV (trS (q3T f n n) n n) l ys n k:=by
 obtain ⟨a,b,hc⟩:=ho.col k Oq;have hlt:=hc.lt;obtain ⟨x,V,d1,d2,d3⟩:=hc.diag;have hel:elF f k k=x:=by
  rw [q6N hc,show b-a=(b-(a+1))+1 by omega,q2S,if_pos hc.first];exact getD_some d1
 have hU:(trS (q3T f n n) n n).getD k []=rwG n (fun j=>((q3T f n n).getD j []).getD k 0) n:=by
  refine getD_some ?_;unfold trS;rw [List.getElem?_map,List.getElem?_range hk]; rfl
 obtain ⟨g,hg⟩:∃ g:Nat→Nat,g=fun j=>if j < n then ((q3T f n n).getD j []).getD k 0 else 0:=⟨_,rfl⟩
 have hgd:∀ i,(rwG n (fun j=>((q3T f n n).getD j []).getD k 0) n).getD i 0=g i:=fun i=>by
  rw [hg]
  by_cases hi:i < n
  ·rw [getD_some (q2t hi)]
  ·rw [List.getD_eq_getElem?_getD,List.getElem?_eq_none (by rw [q1g]; omega)];simp only [if_neg hi]; rfl
 have hgk:∀ i,k≤i→i < n→g i=elF f i k:=fun i h1 h2=>by
  rw [hg];simp only [if_pos h2];rw [getD_some (q7m h2),getD_some (q2t hk),if_pos (by omega)]
 unfold bwV upV;rw [getD_some hc.ha,getD_some hc.hb,hU,hgd,hgk k (Nat.le_refl _) hk,hel];rw [show ((a:Int)).toNat=a by omega,show ((b:Int)).toNat=b by omega,getD_some d1,qdl];rw [qe9 (g:=g) (ys:=ys) (r:=k+1) (fun i=>by rw [List.getD_eq_getElem?_getD,List.getElem?_drop,← List.getD_eq_getElem?_getD,hgd]) (fun i=>by rw [List.getD_eq_getElem?_getD,List.getElem?_drop,← List.getD_eq_getElem?_getD])];rw [q7K hc ho.n ho.ril (n-(k+1)) (k+1) (a+1) (by omega) (by omega) (by omega) fun p q1 q2=>by
  obtain ⟨i,h1,h2,_⟩:=hc.row ho.n Oq q2;exact ⟨i,h1,by omega⟩]
 rw [qe6 (g:=g) (g':=fun i=>q2S f i (a+1) (b-(a+1))) _ _ fun i q1 q2=>by
  rw [hgk i (by omega) (by omega),q6N hc,show b-a=(b-(a+1))+1 by omega,q2S,if_neg (by rw [hc.first]; intro e; have:=Option.some.inj e; omega)]]
def ql9 {f:Fac} {l:List Nat} {n:Nat} (ho:FacOk f) (hn:n=f.pm.length):∀ (k:Nat) (ys:List Nat),k≤n→bwS f l k ys=upF (trS (q3T f n n) n n) l n k ys
 | 0,_,_=>rfl
 | k+1,ys,hk=>by rw [bwS,upF,qtt ho hn (by omega),ql9 ho hn k _ (by omega)]
def qkL {L:List (List Nat)} {n:Nat} (h:SqM L n):SqM (trS L n n) n:=⟨qdo,fun r hr=>by
 obtain ⟨i,hi,rfl⟩:=List.mem_map.1 hr;have hi:=List.mem_range.1 hi;refine ⟨q1g,fun x hx=>?_⟩;obtain ⟨j,hj,rfl⟩:=List.mem_map.1 hx;have hj:=List.mem_range.1 hj;rw [if_pos hj];have hl:=h.len;obtain ⟨r,hr⟩:∃ r,L[j]?=some r:=⟨_,List.getElem?_eq_getElem Oq⟩;obtain ⟨h1,h2⟩:=h.row r (List.mem_of_getElem? hr);obtain ⟨x,hx⟩:∃ x,r[i]?=some x:=⟨_,List.getElem?_eq_getElem Oq⟩
 show (L.getD j []).getD i 0 < 18446744073709551616∧q0J ((L.getD j []).getD i 0)
 rw [getD_some hr,getD_some hx];exact h2 x (List.mem_of_getElem? hx),fun k hk=>by
 have e:(trS L n n)[k]?=some (rwG n (fun j=>(L.getD j []).getD k 0) n):=by
  unfold trS;rw [List.getElem?_map,List.getElem?_range hk]; rfl
 rw [getD_some e,getD_some (q2t hk),if_pos hk];exact h.dg k hk⟩
noncomputable def uppR (F:List Int × List Int × List Int × List Nat) (l:List Nat):PV :=
 if q39 (q2e F) F.1.length l≠0 then .tu [pF [],iv (q39 (q2e F) F.1.length l)] else fwP (upF (trS (q3T ⟨F.1,F.2.1,F.2.2.1,F.2.2.2⟩ F.1.length F.1.length) F.1.length F.1.length) l F.1.length F.1.length (List.replicate F.1.length 0))
def qcY {pm cp ri:List Int} {vs l:List Nat} (hp:pm.length≤1000000) (hc:cp.length≤1000000) (hr:ri.length≤1000000) (hv:vs.length≤1000000) (hu:∀ x ∈ vs,x < 18446744073709551616) (hul:∀ x ∈ l,x < 18446744073709551616) (hl:l.length≤1000000) :
  ACt 147 [q1L (pm,cp,ri,vs),pF l] (uppR (pm,cp,ri,vs) l):=by
 have cK:=q7W hp hc hr hv hu;unfold uppR;dsimp only
 by_cases h0:q39 (q2e (pm,cp,ri,vs)) pm.length l=0
 ·obtain ⟨h1,h2,h3⟩:=qeQ h0;have ho:=q4T h1 hr hu;rw [h1] at cK;rw [if_neg (not_not_intro h0)];have hs:=q6P ho;exact qd9 (qkL hs) h2 ho.n (fun x hx=>⟨hul x hx,h3 x hx⟩) rfl cK (q8K ho) (qda hs.len (fun r h=>(hs.row r h).1) ho.n)
 ·rw [if_pos h0];have cS:=q3q (e:=q2e (pm,cp,ri,vs)) (n:=pm.length) hul hl;generalize q39 (q2e (pm,cp,ri,vs)) pm.length l=e at *;generalize q2e (pm,cp,ri,vs)=e2 at *;have q:(e != 0)=true:=by simpa using h0
  unfold q1L at *;dsimp only at *;refine ac0 Tryz.func147 Tryz.ntmps147 [.tmp 4,.tmp 5] ?_;exact wk1 q trivial
def q4O {l:List Nat} (h:q0c l) (i:Nat):l.getD i 0 < 18446744073709551616∧q0J (l.getD i 0):=by
 rw [List.getD_eq_getElem?_getD];cases hx:l[i]? with
 | none=>exact ⟨by simp,by unfold q0J; simp⟩
 | some x=>exact h x (List.mem_of_getElem? hx)
def q96 {f:Fac} {ys:List Nat} {p:Nat}:∀ c,(upT f ys p c).length=c
 | 0=>rfl
 | c+1=>by rw [upT,List.length_append,q96 c]; rfl
def qkI {f:Fac} {ys:List Nat} {p:Nat} (hv:q0c f.vs) (hy:q0c ys):∀ c,∀ x ∈ upT f ys p c,bl x.natAbs≤67600
 | 0,x,hx=>by cases hx
 | c+1,x,hx=>by
  rw [upT] at hx
  rcases List.mem_append.1 hx with hx | hx
  ·exact qkI hv hy c x hx
  ·simp only [List.mem_singleton] at hx;subst hx;rw [Int.natAbs_neg];exact (q04 (q4O hv _).2 (q4O hy _).2).2
def RowsOk.up {f:Fac} {rows:List (List Int)} {r:List Int} {k:Nat} (h:RowsOk f 500 rows) (h1:r.length≤501) (h2:∀ x ∈ r,bl x.natAbs≤67600):RowsOk f 500 (rows.set k r) :=
 ⟨by rw [List.length_set]; exact h.len,fun r' hr'=>by
  rcases List.mem_or_eq_of_mem_set hr' with h3 | rfl
  ·exact h.row r' h3
  ·exact ⟨by omega,h2⟩⟩
def Col.climb {f:Fac} {j a b:Nat} (h:Col f j a b):∀ d,a+d < b→∃ i:Nat,f.ri[a+d]?=some (i:Int)∧j+d≤i
 | 0,_=>⟨j,h.first,Nat.le_refl _⟩
 | d+1,hd=>by
  obtain ⟨i,h1,h2⟩:=h.climb d Oq;obtain ⟨y,z,h3,h4,h5⟩:=h.inc (a+(d+1)) Oq hd;rw [show a+(d+1)-1=a+d by omega,h1] at h3;cases h3;exact ⟨z.toNat,by rw [h4]; congr 1; omega,by omega⟩
def Col.short {f:Fac} {j a b:Nat} (h:Col f j a b) (hn:f.pm.length≤200):b≤a+201:=by
 rcases Nat.lt_or_ge b (a+202) with h1 | h1
 ·omega
 obtain ⟨i,h2,h3⟩:=h.climb (b-a-1) Oq;obtain ⟨i',h4,_,h5⟩:=h.row hn (p:=a+(b-a-1)) Oq Oq;rw [h2] at h4;have:=Option.some.inj h4;omega
def qh4 {f:Fac} {l ys:List Nat} {rows:List (List Int)} {k p c i x y:Nat} (hi:f.ri[p+c]?=some (i:Int)) (hx:f.vs[p+c]?=some x) (hy:ys[i]?=some y) :
  (rows.set k (ofZ (l.getD k 0) :: upT f ys p c)).set k ((ofZ (l.getD k 0) :: upT f ys p c) ++ [-(q1M x y)])=rows.set k (ofZ (l.getD k 0) :: upT f ys p (c+1)):=by
 rw [List.set_set,upT,getD_some hi,getD_some hx,show ((i:Int)).toNat=i by omega,getD_some hy]
 rfl
def qa9 {D0 E:Nat→Prop} {f:Fac} {v:Value} {A:Option Addr} {n c:Nat} {l:List Nat} {w:World} (hT:q2j w) (h:In (fFac f) E v w) (ho:FacOk f) (hb:In (fSc q2T l) E (.slice A n c) w) (hl:q0c l) (hn:n=f.pm.length) (hf:Fr D0 w) :
  Calls Tryz.prog 138 #[v,.slice A n c] w (Rt (qsq (bwS f l n (List.replicate n 0))) D0 w):=by
 obtain ⟨A3,n3,c3,A4,n4,c4,A5,n5,c5,A6,n6,c6,rfl,h1,h2,h3,h4⟩:=q8v h;have l1:=h1.sc_len;have l2:=h2.sc_len;have l3:=h3.sc_len;have l4:=h4.sc_len;have lb:=hb.sc_len;have hnb:=ho.n;have hbeg:=fun {w':World} {D':Nat→Prop} (hx:Ext w w') (hd:∀ k,k < w.heap.size→D' k) (hf':Fr D' w')=>qcL (D:=D') (vals:=l.map ofZ) (hT.ext hx) ((hb.sub fun k hk _=>hd k hk).ext hx) (by simp) (by omega) (fun i x hi=>⟨(hl x (List.mem_of_getElem? hi)).1,ofZ x,by simp [hi],q0Q (hl x (List.mem_of_getElem? hi)).2⟩) hf';obtain ⟨N,hN⟩:∃ N,N=w.heap.size:=⟨_,rfl⟩;have b2:=h2.db (w':=w);have b3:=h3.db (w':=w);have b4:=h4.db (w':=w);rw [← hN] at b2 b3 b4;refine q1U Tryz.func138 rfl Tryz.ntmps138 (by kernel_rfl) ?_;refine q0P fun K hK=>?_;refine Zz ?_;refine qgf ?_;intro g2 w2 hg2 hx2 hb2 hs2;refine hK _ _ ?_; clear hK K;have hx:Ext w w2:=hx2;replace b2:=b2.ext hx;replace b3:=b3.ext hx;replace b4:=b4.ext hx;clear hx2;refine qgu (fun e' w'=>∃ (N0 g gy:Nat) (L:List Nat) (ss:List (Option Addr × Nat × Nat)),e' 2=.pointer (some ⟨g2,0,none⟩)∧e' 1=.slice A n c∧e' 6=.slice (some ⟨g,0,none⟩) n n∧e' 7=.slice (some ⟨gy,0,none⟩) n n∧Ext w2 w'∧Sums w' (fun k=>k≠gy) L N0 g n (l.map fun x=>[ofZ x]) ss∧Own w' N 30 1 (some ⟨gy,0,none⟩) n n (List.replicate n (q2T 0))∧gy ∉ L∧g2 < N0∧N≤N0∧g2 < gy) ?_ ?_
 ·refine W_dA q4G (.one 0 (.one 2 (.one 3 (.alt (.one 1 (.one 5 (.one 4 (.one 6 .fin)))) (.one 4 (.one 1 (.one 5 (.one 6 .fin)))))))) (by kernel_rfl) fun KE wE hKE hxE=>?_;replace b2:=b2.ext hxE;replace b3:=b3.ext hxE;replace b4:=b4.ext hxE;replace hb2:=hb2.ext hxE;replace hx:=hx.trans hxE;simp only [q4g] at hKE;have hlt3:=hb2.lt;have hmm:(l.map ofZ).map (fun V=>[V])=l.map fun x=>[ofZ x]:=by rw [List.map_map]; rfl
  rw [hmm] at hbeg;have hrp:List.replicate n (Value.int .u64 0)=List.replicate n (q2T 0):=rfl;have hNE:=hx.size;rw [← hN] at hNE;simp -implicitDefEqProofs (disch:=omega) only [go_sem,Nat.reduceEqDiff,Nat.reduceAdd,↓reduceIte,qgw,qgx,qlg,qbZ,qfE,List.toList_toArray];refine ⟨?_,?_⟩
  ·refine q0h qgb (hbeg (D':=fun _=>True) hx (fun _ _=>trivial) (Fr.triv _)) ?_;rintro _ w14 ⟨rfl,hx14,L,ss,hS⟩; refine ⟨_,rfl,?_⟩;refine q8a (Nat.le_refl _) Oq (by unfold maxLen; omega) fun w17 hx17 hO17 hs17=>?_;have hs14:=hx14.size;refine hKE _ _ ⟨_,_,w14.heap.size,L,ss,Ue,Ue,Ue,Ue,(hxE.trans hx14).trans hx17,(hS.sub (D':=fun k=>k≠w14.heap.size) fun k hk _=>by omega).ext hx17,hO17.mono Oq,fun hm=>?_,hlt3,hNE,by omega⟩;have:=hS.hi _ hm;omega
  ·refine q8a (Nat.le_refl _) Oq (by unfold maxLen; omega) fun w17 hx17 hO17 hs17=>?_;refine q0h qgb (hbeg (D':=fun k=>k≠wE.heap.size) (hx.trans hx17) (fun k hk=>by omega) (fun k hk=>by omega)) ?_;rintro _ w14 ⟨rfl,hx14,L,ss,hS⟩; refine ⟨_,rfl,?_⟩;refine hKE _ _ ⟨_,_,wE.heap.size,L,ss,Ue,Ue,Ue,Ue,(hxE.trans hx17).trans hx14,hS,(hO17.mono Oq).ext hx14,fun hm=>?_,by omega,by omega,hlt3⟩;have:=hS.lo _ hm;omega
 ·rintro e0 w1 ⟨N0,g,gy,L,ss,k2,k1,k6,k7,hx1,hS,hO,hgL,hgN,hNN,hg3y⟩;replace b2:=b2.ext hx1;replace b3:=b3.ext hx1;replace b4:=b4.ext hx1;replace hb2:=hb2.ext hx1;replace hx:=hx.trans hx1;refine q0f fun K0 hK0=>?_;refine Wz2 k1 @i64_in ?_;refine q3n ?_;refine q9S (fun e2 w2=>∃ (m:Nat) (L:List Nat) (rows:List (List Int)) (ys:List Nat) (ss:List (Option Addr × Nat × Nat)),e2 8=.int .i64 ((m:Int)-1)∧m≤n∧Ext w w2∧Blk w2 g2 27 #[.slice A3 n3 c3,.slice A4 n4 c4,.slice A5 n5 c5,.slice A6 n6 c6]∧In (fSc q4L f.cp) (Db E N) (.slice A4 n4 c4) w2∧In (fSc q4L f.ri) (Db E N) (.slice A5 n5 c5) w2∧In (fSc q2T f.vs) (Db E N) (.slice A6 n6 c6) w2∧Sums w2 (fun k=>k≠gy) L N0 g n rows ss∧Own w2 N 30 1 (some ⟨gy,0,none⟩) n n (ys.map q2T)∧gy ∉ L∧RowsOk f 500 rows∧(∀ i,i < m→rows[i]?=some [ofZ (l.getD i 0)])∧ys.length=n∧q0c ys∧bwS f l m ys=bwS f l n (List.replicate n 0)) (fun e2 _=>(RowKit.intOf (e2 8)+1).toNat) ⟨n,L,_,_,ss,rfl,Nat.le_refl _,hx,hb2,b2,b3,b4,hS,by rw [List.map_replicate]; exact hO,hgL,⟨by simp; omega,fun r hr=>?_⟩,fun i hi=>?_,by simp,q1d,rfl⟩ ?_
  ·rw [List.mem_map] at hr;obtain ⟨y,hy,rfl⟩:=hr;exact ⟨by simp,fun x hx=>by simp at hx; subst hx; exact q4F (hl y hy).2⟩
  ·have hil:i < l.length:=by omega
   rw [List.getElem?_map,List.getD_eq_getElem?_getD,List.getElem?_eq_getElem hil]
   rfl
  clear hx hb2 b2 b3 b4 hS hO hgL;rintro e1 w5 ⟨m,L,rows,ys,ss,k8,hm,hx,hb2,b2,b3,b4,hS,hO,hgL,hR,hrw,hys,hfy,hbw⟩ hkk;have r2:e1 2=.pointer (some ⟨g2,0,none⟩):=(hkk 2 (by kernel_rfl)).trans Ue;have r6:e1 6=.slice (some ⟨g,0,none⟩) n n:=(hkk 6 (by kernel_rfl)).trans Ue;have r7:e1 7=.slice (some ⟨gy,0,none⟩) n n:=(hkk 7 (by kernel_rfl)).trans Ue;clear hkk
  by_cases hm0:m=0
  ·subst hm0;have hlt':¬ (0:Int)≤((0:Nat):Int)-1:=by omega
   refine q0f fun K1 hK1=>?_;refine Wz2 k8 hlt' ?_;refine Wf (q6r (hK0 _ _ ?_));rw [bwS] at hbw;rw [← hbw];refine Wz1 r7 ?_;refine q48 ?_
   try simp only [q13,q5S]
   refine qre rfl ⟨_,rfl,hx,⟨_,_,rfl,by simp only [q1R,Nat.reduceEqDiff,↓reduceIte]; exact qnG hO fun k hk=>hf k (by omega),by simp only [q1R,Nat.reduceEqDiff,↓reduceIte]; exact rfl⟩⟩
  ·obtain ⟨k,rfl⟩:∃ k,m=k+1:=⟨m-1,by omega⟩;replace k8:e1 8=.int .i64 (k:Int):=by rw [k8]; congr 1; omega
   have hlt':(0:Int)≤(k:Int):=by omega
   refine q0f fun K1 hK1=>?_;refine Wz2 k8 hlt' ?_;refine Wt (q2f (hK1 _ _ ?_));clear hK1;refine q3G fun K hK=>?_;obtain ⟨a,b,hcol⟩:=ho.col k Oq;obtain ⟨dx,dV,d1,d2,d3⟩:=hcol.diag;have hcb:=hcol.hb;obtain ⟨k1,hk1⟩:∃ k1,k1=k+1:=⟨_,rfl⟩;rw [← hk1] at hcb;have hle:=hcol.le;have hlt:=hcol.lt;have hsh:=hcol.short ho.n;have hrib:=ho.rib;have hril:=ho.ril;obtain ⟨hdx,hdf⟩:=ho.vals dx (List.mem_of_getElem? d1);obtain ⟨u,hu⟩:∃ u,u=l.getD k 0:=⟨_,rfl⟩;obtain ⟨hu1,hu2⟩:=q4O hl k;have hrk:=hrw k Oq;rw [← hu] at hu1 hu2 hrk;have hset0:rows.set k [ofZ u]=rows:=by
    refine List.ext_getElem? fun i=>?_;rw [List.getElem?_set]
    split
    ·rename_i e; subst e
     split
     ·exact hrk.symm
     ·rw [List.getElem?_eq_none (by omega)]
    ·rfl
   obtain ⟨ad2,rfl,i2,x2⟩:=b2.ixI hcol.ha;have e1':IntKind.i64.wrap ((a:Int)+1)=((a+1:Nat):Int):=by rw [i64_in (by omega) (by omega)]; omega
   have e2':IntKind.i64.wrap ((k:Int)+1)=(k1:Int):=by rw [i64_in (by omega) (by omega)]; omega
   refine q0f fun K2 hK2=>?_;refine q0P fun K hK=>?_;simp -implicitDefEqProofs (disch:=omega) only [go_sem,Nat.reduceEqDiff,Nat.reduceAdd,↓reduceIte,r2,hb2.c1,k8,i2,x2,e1'];refine hK _ _ ?_; clear hK K;refine q3n ?_;refine q9S (fun e2 w2=>∃ (p:Nat) (L:List Nat) (ss:List (Option Addr × Nat × Nat)),e2 9=.int .i64 p∧a+1≤p∧p≤b∧Ext w w2∧Blk w2 g2 27 #[.slice A3 n3 c3,.slice (some ad2) n4 c4,.slice A5 n5 c5,.slice A6 n6 c6]∧In (fSc q4L f.cp) (Db E N) (.slice (some ad2) n4 c4) w2∧In (fSc q4L f.ri) (Db E N) (.slice A5 n5 c5) w2∧In (fSc q2T f.vs) (Db E N) (.slice A6 n6 c6) w2∧Sums w2 (fun k=>k≠gy) L N0 g n (rows.set k (ofZ u :: upT f ys (a+1) (p-(a+1)))) ss∧Own w2 N 30 1 (some ⟨gy,0,none⟩) n n (ys.map q2T)∧gy ∉ L) (fun e2 _=>b-(RowKit.intOf (e2 9)).toNat) ⟨a+1,L,ss,rfl,Nat.le_refl _,hlt,hx,hb2,b2,b3,b4,by rw [Nat.sub_self,upT,hset0]; exact hS,hO,hgL⟩ ?_;clear hx hb2 b2 b3 b4 hS hO hgL x2 i2;rintro e3 w6 ⟨p,L,ss,k9,hp1,hp2,hx,hb2,b2,b3,b4,hS,hO,hgL⟩ hkk;have q2:e3 2=.pointer (some ⟨g2,0,none⟩):=(hkk 2 (by kernel_rfl)).trans Ue;have q6:e3 6=.slice (some ⟨g,0,none⟩) n n:=(hkk 6 (by kernel_rfl)).trans Ue;have q7:e3 7=.slice (some ⟨gy,0,none⟩) n n:=(hkk 7 (by kernel_rfl)).trans Ue;have q8:e3 8=.int .i64 k:=(hkk 8 (by kernel_rfl)).trans Ue;clear hkk r2 r6 r7;have hro:RowsOk f 500 (rows.set k (ofZ u :: upT f ys (a+1) (p-(a+1)))):=hR.up (by rw [List.length_cons,q96]; omega) fun x hx=>by
    rcases List.mem_cons.1 hx with rfl | hx
    ·exact q4F hu2
    ·exact qkI ho.vals hfy _ x hx
   have hrl:=hR.len;have hrk2:(rows.set k (ofZ u :: upT f ys (a+1) (p-(a+1))))[k]?=some (ofZ u :: upT f ys (a+1) (p-(a+1))):=List.getElem?_set_self Oq;have hgy:gy < w6.heap.size:=by
    rcases hO.form with ⟨h0,_⟩ | ⟨_,_,h0,_,hb,_⟩
    ·cases h0
    ·cases h0; exact hb.lt
   obtain ⟨_,hcc,i2,x2⟩:=b2.ixI hcb;cases hcc
   by_cases hlt2:p < b
   ·have hlt2':(p:Int) < b:=by omega
    refine q0f fun K5 hK5=>?_;refine q0P fun K hK=>?_;simp -implicitDefEqProofs (disch:=omega) only [go_sem,Nat.reduceEqDiff,Nat.reduceAdd,↓reduceIte,k9,q2,hb2.c1,q8,e2',i2,x2,hlt2'];refine hK _ _ ?_; clear hK K;refine Wt (q2f (hK5 _ _ ?_));clear hK5;refine q3G fun K6 hK6=>?_;obtain ⟨j0,hj1,hj2,hj3⟩:=hcol.row ho.n Oq hlt2;obtain ⟨xv,hxv⟩:∃ xv,f.vs[p]?=some xv:=⟨_,List.getElem?_eq_getElem Oq⟩;obtain ⟨hv1,hv2⟩:=ho.vals xv (List.mem_of_getElem? hxv);obtain ⟨yv,hyv⟩:∃ yv,ys[j0]?=some yv:=⟨_,List.getElem?_eq_getElem Oq⟩;obtain ⟨hy1,hy2⟩:=hfy yv (List.mem_of_getElem? hyv);obtain ⟨ad5,rfl,i5,x5⟩:=b3.ixI hj1;obtain ⟨ad4,rfl,i6,x6⟩:=b4.ixU hxv;have hyu:(ys.map q2T)[j0]?=some (.int .u64 (yv:Int)):=by rw [List.getElem?_map,hyv]; rfl
    have ij:(0:Int)≤(j0:Int)∧(j0:Int) < n:=by omega
    clear x2 x5 x6;obtain ⟨hmu,_⟩:=q04 hv2 hy2;refine quw q4G (Kp (fun k=>k ∉ ([]:List Nat))) (fun _ _=>False) (Kp.pre _) [true,true,true,true,true,true,true,true,true,true,true,true,true,true,true,false] [false,false,false,false,false,false,false,false,false,false,false,false,false,false,false,false] [1,1,1,1,1,1,1,1,1,1,1,1,1,1,1,1] (by kernel_rfl) ?_
    apply Exists.intro
    refine ⟨fun wE hE KE hKE=>?_,fun wE hE KE hKE=>?_,fun wE hxE hr=>?_⟩
    ·skip
     replace hE:=Kp.all hE;replace hb2:=hb2.ext hE;replace b2:=b2.ext hE;replace b3:=b3.ext hE;replace b4:=b4.ext hE;replace hS:=hS.ext hE;replace hO:=hO.ext hE;refine Zz13 k9 q2 q6 q7 q8 hb2.c2 hb2.c3 i5 (inI b3 hj1) i6 (inU b4 hxv) ij (owG hO hyu) ?_;exact hKE
    ·exact hE.elim
    simp only [q82,q84,q83];replace b2:=b2.ext hxE;replace b3:=b3.ext hxE;replace b4:=b4.ext hxE;replace hS:=hS.ext hxE;replace hO:=hO.ext hxE;replace hb2:=hb2.ext hxE;replace hx:=hx.trans hxE;clear hr;simp -implicitDefEqProofs (disch:=omega) only [go_sem,Nat.reduceEqDiff,Nat.reduceAdd,↓reduceIte,List.toList_toArray,k9,q2,q6,q7,q8,hb2.c2,hb2.c3,i5,(inI b3 hj1),i6,(inU b4 hxv),ij,(owG hO hyu)];have hw':=hxE.size;refine q0h qoa (q5r (hT.ext hx) hS hrk2 hv1 hy1 (q0Q hv2) (q0Q hy2) hmu (by rw [List.length_cons,q96]; omega) (fun k hk=>by omega)) ?_;rintro _ w7 ⟨rfl,hk7,L',ss',hL1,hL2,hS7⟩; refine ⟨_,rfl,?_⟩;rw [hu,qh4 (by rw [show a+1+(p-(a+1))=p by omega]; exact hj1) (by rw [show a+1+(p-(a+1))=p by omega]; exact hxv) hyv,show p-(a+1)+1=p+1-(a+1) by omega,← hu] at hS7;have hlo:∀ j,j < N→j ∉ L:=fun j hj hm=>by have:=hS.lo j hm; omega
    replace b2:=b2.kpb hk7 hlo;replace b3:=b3.kpb hk7 hlo;replace b4:=b4.kpb hk7 hlo;replace hb2:=hb2.kp hk7 fun hm=>by have:=hS.lo _ hm; omega
    replace hx:=hx.under hk7 fun j hj=>hlo j Oq;replace hO:=hO.kp hk7 fun a ha=>by cases ha; exact hgL
    have hgL7:gy ∉ L':=fun hm=>by
     rcases hL2 _ hm with h | h
     ·exact hgL h
     ·omega
    simp only [q4g,qs3];refine hK6 _ _ ?_; clear hK6;refine q5D fun K9 hK9=>?_;refine Zz2 k9 @i64_in ?_;refine hK9 _ _ ?_; clear hK9 K9;exact ⟨⟨p+1,L',ss',rfl,by omega,by omega,hx,hb2,b2,b3,b4,hS7,hO,hgL7⟩,by simp only [q1R,↓reduceIte,RowKit.intOf,k9]; omega⟩
   ·have hlt2':¬ (p:Int) < b:=by omega
    refine q0f fun K5 hK5=>?_;refine q0P fun K hK=>?_;simp -implicitDefEqProofs (disch:=omega) only [go_sem,Nat.reduceEqDiff,Nat.reduceAdd,↓reduceIte,k9,q2,hb2.c1,q8,e2',i2,x2,hlt2'];refine hK _ _ ?_; clear hK K;refine Wf (q6r (hK2 _ _ ?_));obtain rfl:p=b:=by omega
    obtain ⟨S,hSS⟩:∃ S,S=q0o (ofZ u :: upT f ys (a+1) (p-(a+1))):=⟨_,rfl⟩;obtain ⟨q,hq⟩:∃ q,q=fQ 0 S dV:=⟨_,rfl⟩;have hqv:bwV f l ys k=q:=by
     unfold bwV;rw [← hk1,getD_some hcol.ha,getD_some hcb,← hu,show ((a:Int)).toNat=a by omega,show ((p:Int)).toNat=p by omega,← hSS,getD_some d1,q0j d2,hq]
    clear x2 i2;obtain ⟨_,hcc,i2,x2⟩:=b2.ixI hcol.ha;cases hcc;obtain ⟨ad4,rfl,i4,x4⟩:=b4.ixU d1;clear x2 x4;obtain ⟨s1,s2,s3⟩:=qed hro (List.mem_of_getElem? hrk2) Oq;obtain ⟨D,hDq⟩:∃ D:Nat→Prop,D=fun _=>True:=⟨_,rfl⟩;have hDl:∀ k,Dl D [] k:=fun k=>⟨by rw [hDq]; trivial,by simp⟩;have hD:Fr (Dl D []) w6:=fun k _=>hDl k;have ik:(0:Int)≤(k:Int)∧(k:Int) < n:=by omega
    have hqu:=fun {w:World} {v v':Value} (hT:q2j w) (h:In (fV S) (Dl D []) v w) (h':In (fV dV) (Dl D []) v' w) (hf:Fr (Dl D []) w)=>qlJ hT h h' Oq hf;rw [← hq] at hqu;refine q0f fun K3 hK3=>?_;refine quw q4G (Kp (fun k=>k ∉ ([]:List Nat))) (fun _ _=>False) (Kp.pre _) [true,true,true,true,false,true,true,true,true,true,true,true,true,true,false,false,false,false] [false,false,false,false,false,false,false,false,false,false,false,false,false,false,false,false,false,false] [1,1,1,1,0,1,1,1,1,1,1,1,1,1,0,0,1,1] (by kernel_rfl) ?_
    apply Exists.intro
    refine ⟨fun wE hE KE hKE=>?_,fun wE hE KE hKE=>?_,fun wE hxE hr=>?_⟩
    ·skip
     replace hE:=Kp.all hE;replace hb2:=hb2.ext hE;replace b2:=b2.ext hE;replace b3:=b3.ext hE;replace b4:=b4.ext hE;replace hS:=hS.ext hE;replace hO:=hO.ext hE;refine Zz11 q2 q6 q7 q8 hb2.c1 hb2.c3 i2 (inI b2 hcol.ha) i4 (inU b4 d1) ik ?_;exact hKE
    ·exact hE.elim
    simp only [q82,q84,q83];replace b2:=b2.ext hxE;replace b3:=b3.ext hxE;replace b4:=b4.ext hxE;replace hS:=hS.ext hxE;replace hO:=hO.ext hxE;replace hb2:=hb2.ext hxE;replace hD:=hD.kp hxE;replace hx:=hx.trans hxE;simp -implicitDefEqProofs (disch:=omega) only [go_sem,Nat.reduceEqDiff,Nat.reduceAdd,↓reduceIte,List.toList_toArray,q2,q6,q7,q8,hb2.c1,hb2.c3,i2,(inI b2 hcol.ha),i4,(inU b4 d1),ik];have hto:=qaq (hT.ext hx) (hS.sub (D':=Dl D []) fun k _ _=>hDl k) hrk2 Oq s2 s3 (fun k _=>hDl k) hD;rw [← hSS] at hto;refine Cr qoc (hto) fun v58 w58 hx58 h58=>?_;replace b2:=b2.ext hx58;replace b3:=b3.ext hx58;replace b4:=b4.ext hx58;replace hS:=hS.ext hx58;replace hO:=hO.ext hx58;replace hb2:=hb2.ext hx58;replace hD:=hD.kp hx58;replace hx:=hx.trans hx58;replace hr:=hr.trans (Kp.of_ext hx58);clear hx58;refine ⟨hr,?_⟩;refine Cr qdQ (qgK (hT.ext hx) hdx d2 hD) fun v68 w68 hx68 h68=>?_;replace b2:=b2.ext hx68;replace b3:=b3.ext hx68;replace b4:=b4.ext hx68;replace hS:=hS.ext hx68;replace hO:=hO.ext hx68;replace h58:=h58.ext hx68;replace hb2:=hb2.ext hx68;replace hD:=hD.kp hx68;replace hx:=hx.trans hx68;replace hr:=hr.trans (Kp.of_ext hx68);clear hx68;refine ⟨hr,?_⟩;refine Ck qod (hqu (hT.ext hx) h58 h68 hD) fun w69 hx69=>?_;replace b2:=b2.ext hx69;replace b3:=b3.ext hx69;replace b4:=b4.ext hx69;replace hS:=hS.ext hx69;replace hO:=hO.ext hx69;replace h58:=h58.ext hx69;replace h68:=h68.ext hx69;replace hb2:=hb2.ext hx69;replace hD:=hD.kp hx69;replace hx:=hx.trans hx69;replace hr:=hr.trans (Kp.of_ext hx69);clear hx69;refine ⟨hr,?_⟩;have hqlt:q < 18446744073709551616:=by rw [hq]; exact q6L (by omega)
    have hyl:(ys.map q2T).length=n:=by rw [List.length_map]; exact hys
    refine qbF hO (by omega:k < n) qm0 rfl rfl fun w5 hO5 hk5 hs5=>?_;replace hS:=hS.kpo hk5 (fun _ h=>h) hgL;replace b2:=b2.kpb hk5 fun k hk=>by omega
    replace b3:=b3.kpb hk5 fun k hk=>by omega
    replace b4:=b4.kpb hk5 fun k hk=>by omega
    replace hb2:=hb2.kpne hk5 Oq;replace hx:=hx.under hk5 fun k hk=>by omega
    have cy:=hO5.cell_set Oq;have hO6:Own w5 N 30 1 (some ⟨gy,0,none⟩) n n ((ys.set k q).map q2T):=by rw [List.map_set]; exact hO5
    clear hO hO5 hk5 hD;simp only [q4g];refine hK3 _ _ ?_; clear hK3;refine q0P fun K hK=>?_;refine Zz4 q7 q8 ik cy ?_;refine q0h qob (q5C hqlt) ?_;rintro _ _ ⟨rfl,rfl⟩; refine ⟨_,rfl,?_⟩;rw [bwS,hqv] at hbw
    by_cases hfin:q0J q
    ·rw [if_pos hfin] at hbw;rw [decide_eq_true hfin];refine Zz ?_;refine hK _ _ ?_; clear hK;refine Wf (q2f (hK _ _ ?_));refine q5D fun K9 hK9=>?_;refine Zz2 q8 @i64_in ?_;refine hK9 _ _ ?_; clear hK9 K9;exact ⟨⟨k,L,_,ys.set k q,ss,rfl,by omega,hx,hb2,b2,b3,b4,hS,hO6,hgL,hro,fun i hi=>by rw [List.getElem?_set_ne (by omega)]; exact hrw i (by omega),by rw [List.length_set]; exact hys,q3R hfy hqlt hfin,hbw⟩,by simp only [q1R,↓reduceIte,RowKit.intOf,k8]; omega⟩
    ·rw [if_neg hfin] at hbw;rw [decide_eq_false hfin];refine Zz ?_;refine hK _ _ ?_; clear hK;refine Wt ?_;refine Wz ?_;refine q48 ?_
     try simp only [q13,q5S]
     refine qre rfl ⟨_,rfl,hx,by rw [← hbw]; exact ⟨_,_,rfl,by simp only [q1R,Nat.reduceEqDiff,↓reduceIte]; exact In.sc_nil,by simp only [q1R,Nat.reduceEqDiff,↓reduceIte]; exact rfl⟩⟩
def qts {f:List Int × List Int × List Int × List Nat} {l:List Nat} (ho:FacOk ⟨f.1,f.2.1,f.2.2.1,f.2.2.2⟩) (hl:q0c l) (hn:l.length=f.1.length) :
  ACt 138 [q1L f,pF l] (fwP (bwS ⟨f.1,f.2.1,f.2.2.1,f.2.2.2⟩ l l.length (List.replicate l.length 0))):=q9R (r:=.fm (qsq _)) (fun D w v h=>qk5 (q7U h)) (ac_r ql3 fun D w vs hT hF hR=>by
 obtain ⟨_,_,rfl,h3,h4⟩:=qk9 hR;obtain ⟨A,n,c,rfl,h6⟩:=q7T (f:=q2T) h4;obtain rfl:n=l.length:=h6.sc_len.symm;exact qa9 hT (qk6 h3) ho h6 hl hn hF)
section
variable {F:Nat→Nat→Option Nat} {l:List Int} {cs:List Nat} {cols:List (List Nat)} {j n M:Nat} {p:LSt}
def qkx (h1:p.2.1.length=p.2.2.length) (h2:∀ x ∈ p.2.2,x < 18446744073709551616):∀ (c:Nat) (q:LSt),lcC F l cs j p c=some q→q.2.1.length=p.2.1.length+c∧q.2.1.length=q.2.2.length∧∀ x ∈ q.2.2,x < 18446744073709551616
 | 0,q,h=>by cases h; exact ⟨rfl,h1,h2⟩
 | c+1,q,h=>by
  unfold lcC at h;cases hq:lcC F l cs j p c with
  | none=>rw [hq] at h; cases h
  | some r =>
   obtain ⟨a1,a2,a3⟩:=qkx h1 h2 c r hq;rw [hq,Option.bind_some] at h;cases hv:lcV (q0o (lcS F l r.1 (cs.getD c 0) j j)) r.1 (cs.getD c 0) j with
   | none=>rw [hv] at h; cases h
   | some v =>
    rw [hv] at h;cases h;refine ⟨by simp; omega,by simp; omega,fun x hx=>?_⟩
    rcases List.mem_append.1 hx with hx | hx
    ·exact a3 x hx
    ·simp at hx; subst hx; exact (qiW hv).2
def qkw (hM:∀ j,(cols.getD j []).length≤M):∀ (j:Nat) (q:List Int × LSt),lcM F l cols j=some q→q.1.length=j+1∧q.2.2.1.length≤j*M∧q.2.2.1.length=q.2.2.2.length∧∀ x ∈ q.2.2.2,x < 18446744073709551616
 | 0,q,h=>by cases h; exact ⟨rfl,by simp,rfl,fun x hx=>by cases hx⟩
 | j+1,q,h=>by
  unfold lcM at h;cases hq:lcM F l cols j with
  | none=>rw [hq] at h; cases h
  | some r =>
   obtain ⟨a1,a2,a3,a4⟩:=qkw hM j r hq;rw [hq,Option.bind_some] at h;cases hc:lcC F l (cols.getD j []) j r.2 (cols.getD j []).length with
   | none=>rw [hc] at h; cases h
   | some s =>
    rw [hc] at h;cases h;obtain ⟨b1,b2,b3⟩:=qkx a3 a4 _ s hc;have:=hM j;refine ⟨by simp; omega,?_,b2,b3⟩;rw [Nat.succ_mul];dsimp only;omega
end
structure FSh (f:List Int × List Int × List Int × List Nat):Prop where
 p:f.1.length≤100
 c:f.2.1.length≤1000000
 r:f.2.2.1.length≤1000000
 v:f.2.2.2.length≤1000000
 u:∀ x ∈ f.2.2.2,x < 18446744073709551616
def q5l {raw:List Nat} {k:Int} {st n:Nat}:q0c (q8G raw k st n):=fun x hx=>by
 unfold q8G at hx;obtain ⟨i,_,rfl⟩:=List.mem_map.1 hx;have:=qfD (k:=st) (q35 raw (k+i));exact ⟨this.2,this.1⟩
def qaC {L:List (List Nat)} {b:List Nat}:∀ (m k:Nat) (ys zs:List Nat),loF L b m k ys=some zs→zs.length=ys.length
 | 0,_,_,_,h=>by cases h; rfl
 | m+1,k,ys,zs,h=>by
  rw [loF] at h
  split at h
  ·rw [qaC m (k+1) _ zs h,List.length_set]
  ·cases h
def q97 {L:List (List Nat)} {b:List Nat} {n:Nat}:∀ (k:Nat) (ys zs:List Nat),upF L b n k ys=some zs→zs.length=ys.length
 | 0,_,_,h=>by cases h; rfl
 | k+1,ys,zs,h=>by
  rw [upF] at h
  split at h
  ·rw [q97 k _ zs h,List.length_set]
  ·cases h
def AR (f:FuncId) (al:List PV) (r:PV):Prop :=
 q0D Tryz.prog f=true∧∀ (D E:Nat→Prop) (w:World) (vs:List Value),q2j w→Fr E w→RdL w D al (fun _=>none) h0 vs→Calls Tryz.prog f vs.toArray w fun x w'=>∃ v,x=.returned v∧Ext w w'∧Rd w' E r (fun _=>none) h0 v
def AR.ac {f:FuncId} {al:List PV} {r:PV} (h:AR f al r):ACt f al r:=⟨h.1,fun D w vs hT hF hR=>h.2 D D w vs hT hF hR⟩
def qhC (x:PV):Prop:=∀ (w:World) (D D':Nat→Prop) (ρ:Nat→Option Nat) (h:Hp) (v:Value),Rd w D x ρ h v→Rd w D' x ρ h v
def qtT {v:Value}:qhC (.vl v):=fun w D D' ρ h y hr=>by unfold Rd at hr ⊢; exact hr
def df_ow {id off n:Nat} {k:Kd}:qhC (.ow id k off n):=fun w D D' ρ h y hr=>by unfold Rd at hr ⊢; exact hr
def df_L {l:List PV} (hl:∀ y ∈ l,qhC y) {w:World} {D D':Nat→Prop} {ρ:Nat→Option Nat} {h:Hp} {vs:List Value} (hr:RdL w D l ρ h vs):RdL w D' l ρ h vs:=by
 obtain ⟨h1,h2⟩:=RdL.iff.1 hr;exact RdL.iff.2 ⟨h1,fun t x v ht hv=>hl x (List.mem_of_getElem? ht) _ _ _ _ _ _ (h2 t x v ht hv)⟩
def qpe {f:FuncId} {al l cl:List PV} {ids:List Nat} {hout:Hp} (hM:ACm Tryz.prog q2j f al h0 (.tu l) hout) (hl:∀ y ∈ l,qhC y) (hb:∀ i b,hout i=some b→∀ y ∈ b.xs,qhC y) (hc:q2H hout l=some (cl,ids)):AR f al (.tu cl):=by
 refine ⟨hM.ca,fun D E w vs hT hF hR=>?_⟩;have hlen:=hR.len;obtain ⟨D0,hD0⟩:∃ D0:Nat→Prop,D0=fun k=>D k∨w.heap.size≤k:=⟨_,rfl⟩;have hF0:Fr D0 w:=fun k hk=>by rw [hD0]; exact .inr hk
 have hdm:dm D0 (fun _=>none) h0=D0:=by
  funext k
  exact propext ⟨fun h=>h.1,fun h=>⟨h,fun i b hi=>by cases hi⟩⟩
 have S:Sat D0 ⟨w,fun k=>k < w.heap.size,fun _ _ _=>False,fun _ _=>False,fun _ h=>h,fun _ _ h=>h.elim⟩ (enP al) h0 (fun _=>none) (q4U vs) w:=by
  refine ⟨fun i j b c g hi=>(by cases hi),fun i b g hi=>(by cases hi),fun i b hi=>(by cases hi),fun t=>?_,Kp.refl _ _,hF0,fun _ _ _ h=>h.elim,fun _ _ h=>h.elim⟩;rw [hdm];obtain ⟨h1,h2⟩:=RdL.iff.1 (hR.sub (D':=D0) fun k _ hk=>by rw [hD0]; exact .inl hk);unfold enP q4U;rw [List.getD_eq_getElem?_getD,List.getD_eq_getElem?_getD];cases ht:al[t]? with
  | none=>simp only [Option.getD_none]; unfold Rd; trivial
  | some x =>
   have hlt:=(List.getElem?_eq_some_iff.1 ht).1;have hv:=List.getElem?_eq_getElem (l:=vs) (show t < vs.length by omega);rw [hv];exact h2 t x _ ht hv
 refine (hM.run D0 ⟨w,fun k=>k < w.heap.size,fun _ _ _=>False,fun _ _=>False,fun _ h=>h,fun _ _ h=>h.elim⟩ _ w vs (fun w' hx=>q7E _ _ (hx.mono fun k hk _=>hk) hT) (fun _ _ h=>h.elim) hF0 Oq S).mono fun x w' ⟨v,ρ',hx,S',hr⟩=>?_;refine ⟨v,hx,S'.ext.mono fun k hk _=>hk,?_⟩;have S2:Sat E ⟨w,fun k=>k < w.heap.size,fun _ _ _=>False,fun _ _=>False,fun _ h=>h,fun _ _ h=>h.elim⟩ nos hout ρ' (fun _=>v) w':=by
  refine ⟨S'.inj,fun i b g hi hg=>?_,S'.vir,fun t=>by unfold nos Rd; trivial,S'.ext,hF,S'.imp,S'.pin⟩;obtain ⟨⟨h1,h2⟩,cs,h3,h4,h5⟩:=S'.own i b g hi hg;refine ⟨⟨h1,hF g (Nat.le_of_not_lt h1)⟩,cs,h3,h4,fun hs=>?_⟩;obtain ⟨us,h6,h7,h8⟩:=h5 hs;exact ⟨us,h6,df_L (hb i b hi) h7,h8⟩
 unfold Rd at hr ⊢;obtain ⟨us,hv,hr⟩:=hr;refine ⟨us,hv,?_⟩;refine (q4r S2 hc (df_L hl hr)).sub fun k _ hq=>?_
 rcases hq with hq | ⟨i,hi,hg⟩
 ·exact hq.1
 ·obtain ⟨b,hb'⟩:=q40 hc i hi;exact (S2.own i b k hb' hg).1.2
def gaS (l:List Nat) (o:List Int) (n:Nat):List Nat:=rwG n (fun k=>l.getD (o.getD k 0).toNat 0) n
def scS (x:List Nat) (o:List Int) (n:Nat):Nat→List Nat
 | 0=>List.replicate n 0
 | k+1=>(scS x o n k).set (o.getD k 0).toNat (x.getD k 0)
def q4i {x:List Nat} {o:List Int} {n:Nat}:∀ k,(scS x o n k).length=n
 | 0=>List.length_replicate
 | k+1=>by rw [scS,List.length_set,q4i k]
def qfb {l:List Nat} {o:List Int} {n:Nat}:(gaS l o n).length=n:=q1g
def qfc {l:List Nat} {o:List Int} {n:Nat} (hl:q0c l):q0c (gaS l o n):=fun x hx=>by
 unfold gaS rwG at hx;obtain ⟨j,_,rfl⟩:=List.mem_map.1 hx
 split
 ·exact q4O hl _
 ·exact ⟨by omega,by unfold q0J; simp⟩
section
variable {l:List Nat} {o:List Int} {n:Nat}
def qcb (hl:l.length=n) (ho:o.length=n) (hn:n≤1000000) (hb:∀ x ∈ o,0≤x∧x < n):ACt 58 [pF l,pI o] (pF (gaS l o n)):=by
 unfold gaS;have hgl:∀ m,(rwG n (fun k=>l.getD (o.getD k 0).toNat 0) m).length=n:=fun _=>q1g;generalize hg:(fun k=>l.getD (o.getD k 0).toNat 0)=g at *;refine ac0 Tryz.func58 Tryz.ntmps58 [.tmp 4] ?_;refine wk1 hl ?_;refine q0A (fun k=>k≤n) [0,11,12] [] Lk Lk (fun k:Nat=>[(13,iv k),(5,.ow 1001 none 0 n)]) (fun k=>[(1001,⟨30,none,(rwG n g k).map fun z:Nat=>uv z,false⟩)]) (fun k=>n-k) 0 (Nat.zero_le _) ?_ ?_
 ·rw [← q9m];refine LeM [(1001,some 10)] rfl rfl ?_;refine Zz ?_;simp
 ·intro k hk
  by_cases hlt:k < n
  ·obtain ⟨x,hx⟩:∃ x,o[k]?=some x:=⟨_,List.getElem?_eq_getElem Oq⟩;obtain ⟨h1,h2⟩:=hb x (List.mem_of_getElem? hx);obtain ⟨x,rfl⟩:∃ y:Nat,x=y:=⟨x.toNat,by omega⟩;obtain ⟨u,hu⟩:∃ u,l[x]?=some u:=⟨_,List.getElem?_eq_getElem Oq⟩;have hs:=q9l (n:=n) (g:=g) (m:=k);have hgk:g k=u:=by rw [← hg]; simp only [getD_some hx,Int.toNat_natCast,getD_some hu]
   rw [hgk] at hs;refine wk1 (x3 hx hu (hgl k)) ?_;refine ⟨k+1,by omega,by omega,?_⟩;refine LeM [] rfl rfl ?_;refine Zz ?_;rw [← hs];exact ⟨by omega,rfl⟩
  ·obtain rfl:k=n:=by omega
   have hgk:=hgl k;exact wk1 ho trivial
def qc0 (hl:l.length=n) (ho:o.length=n) (hn:n≤1000000) (hb:∀ x ∈ o,0≤x∧x < n):ACt 69 [pF l,pI o] (pF (gaS l o n)):=by
 unfold gaS;have hgl:∀ m,(rwG n (fun k=>l.getD (o.getD k 0).toNat 0) m).length=n:=fun _=>q1g;generalize hg:(fun k=>l.getD (o.getD k 0).toNat 0)=g at *;refine ac0 Tryz.func69 Tryz.ntmps69 [.tmp 4] ?_;refine wk1 ho ?_;refine q0A (fun k=>k≤n) [0,1] [] Lk Lk (fun k:Nat=>[(6,iv k),(5,.ow 1001 none 0 n)]) (fun k=>[(1001,⟨30,none,(rwG n g k).map fun z:Nat=>uv z,false⟩)]) (fun k=>n-k) 0 (Nat.zero_le _) ?_ ?_
 ·rw [← q9m];refine LeM [(1001,some 9)] rfl rfl ?_;refine Zz ?_;simp
 ·intro k hk
  by_cases hlt:k < n
  ·obtain ⟨x,hx⟩:∃ x,o[k]?=some x:=⟨_,List.getElem?_eq_getElem Oq⟩;obtain ⟨h1,h2⟩:=hb x (List.mem_of_getElem? hx);obtain ⟨x,rfl⟩:∃ y:Nat,x=y:=⟨x.toNat,by omega⟩;obtain ⟨u,hu⟩:∃ u,l[x]?=some u:=⟨_,List.getElem?_eq_getElem Oq⟩;have hs:=q9l (n:=n) (g:=g) (m:=k);have hgk:g k=u:=by rw [← hg]; simp only [getD_some hx,Int.toNat_natCast,getD_some hu]
   rw [hgk] at hs;refine wk1 (x4 ho hx hu (hgl k)) ?_;refine ⟨k+1,by omega,by omega,?_⟩;refine LeM [] rfl rfl ?_;refine Zz ?_;rw [← hs];exact ⟨by omega,rfl⟩
  ·obtain rfl:k=n:=by omega
   have hgk:=hgl k;exact wk1 ho trivial
def q9k (hl:l.length=n) (ho:o.length=n) (hn:n≤1000000) (hb:∀ x ∈ o,0≤x∧x < n):q9Y 65 [pF l,pI o] h0 (.ow 5000 none 0 n) (q0R h0 5000 ⟨30,none,(scS l o n n).map fun z:Nat=>uv z,false⟩):=by
 have hJ:∀ i,¬ (h0 i≠none):=fun i h=>h rfl;refine qcQ qtm Tryz.func65 rfl Tryz.ntmps65 (by kernel_rfl) ?_ ?_ ?_ ?_
 ·intro i b hb; cases hb
 ·exact qco
 ·exact IdL.of fun x hx=>by
   simp at hx
   rcases hx with rfl | rfl <;> unfold IdP <;> trivial
 have hW:WfH h0:=⟨fun i b hb=>by cases hb⟩;refine wk1 hl ?_;refine q00 (fun k=>k≤n) [0,11,12] [] Lk Lk (fun k:Nat=>[(13,iv k),(5,.ow 1001 none 0 n)]) (fun k=>[(1001,⟨30,none,(scS l o n k).map fun z:Nat=>uv z,false⟩)]) (fun _=>h0) (fun k=>n-k) 0 (Nat.zero_le _) ?_ ?_
 ·refine LeW [(1001,some 10)] rfl rfl ?_ ?_ (by simp [q1o,q1Q,win]) ?_
  ·exact Ow
  ·exact hW
  ·rw [scS]
   try refine Zz ?_
   simp
 ·intro k hk
  by_cases hlt:k < n
  ·obtain ⟨x,hx⟩:∃ x,o[k]?=some x:=⟨_,List.getElem?_eq_getElem Oq⟩;obtain ⟨h1,h2⟩:=hb x (List.mem_of_getElem? hx);obtain ⟨x,rfl⟩:∃ y:Nat,x=y:=⟨x.toNat,by omega⟩;obtain ⟨u,hu⟩:∃ u,l[k]?=some u:=⟨_,List.getElem?_eq_getElem Oq⟩;have hs:scS l o n (k+1)=(scS l o n k).set x u:=by rw [scS,getD_some hx,Int.toNat_natCast,getD_some hu]
   have hsl:=q4i (x:=l) (o:=o) (n:=n) k;refine wk1 (x3 hx hu hsl) ?_;refine ⟨k+1,by omega,by omega,?_⟩;refine LeW [] rfl rfl ?_ ?_ (by simp [q1o,q1Q,win]) ?_
   ·exact Ow
   ·exact hW
   ·try refine Zz ?_
    exact ⟨by omega,hs.symm⟩
  ·obtain rfl:k=n:=by omega
   refine wk1 ho ?_;refine (rtM (rs:=[.tmp 4]) rfl rfl Lq ?_ (.inl rfl));refine LeO hJ ?_ clU
   try simp -implicitDefEqProofs (disch:=omega) only [go_sem,Nat.reduceEqDiff,Nat.reduceAdd,↓reduceIte]
def q9Z (hl:l.length=n) (ho:o.length=n) (hn:n≤1000000) (hb:∀ x ∈ o,0≤x∧x < n):q9Y 73 [pF l,pI o] h0 (.ow 5000 none 0 n) (q0R h0 5000 ⟨30,none,(scS l o n n).map fun z:Nat=>uv z,false⟩):=by
 have hJ:∀ i,¬ (h0 i≠none):=fun i h=>h rfl;refine qcQ qtl Tryz.func73 rfl Tryz.ntmps73 (by kernel_rfl) ?_ ?_ ?_ ?_
 ·intro i b hb; cases hb
 ·exact qco
 ·exact IdL.of fun x hx=>by
   simp at hx
   rcases hx with rfl | rfl <;> unfold IdP <;> trivial
 have hW:WfH h0:=⟨fun i b hb=>by cases hb⟩;refine wk1 ho ?_;refine q00 (fun k=>k≤n) [0,1] [] Lk Lk (fun k:Nat=>[(6,iv k),(5,.ow 1001 none 0 n)]) (fun k=>[(1001,⟨30,none,(scS l o n k).map fun z:Nat=>uv z,false⟩)]) (fun _=>h0) (fun k=>n-k) 0 (Nat.zero_le _) ?_ ?_
 ·refine LeW [(1001,some 9)] rfl rfl ?_ ?_ (by simp [q1o,q1Q,win]) ?_
  ·exact Ow
  ·exact hW
  ·rw [scS]
   try refine Zz ?_
   simp
 ·intro k hk
  by_cases hlt:k < n
  ·obtain ⟨x,hx⟩:∃ x,o[k]?=some x:=⟨_,List.getElem?_eq_getElem Oq⟩;obtain ⟨h1,h2⟩:=hb x (List.mem_of_getElem? hx);obtain ⟨x,rfl⟩:∃ y:Nat,x=y:=⟨x.toNat,by omega⟩;obtain ⟨u,hu⟩:∃ u,l[k]?=some u:=⟨_,List.getElem?_eq_getElem Oq⟩;have hs:scS l o n (k+1)=(scS l o n k).set x u:=by rw [scS,getD_some hx,Int.toNat_natCast,getD_some hu]
   have hsl:=q4i (x:=l) (o:=o) (n:=n) k;refine wk1 (x4 ho hx hu hsl) ?_;refine ⟨k+1,by omega,by omega,?_⟩;refine LeW [] rfl rfl ?_ ?_ (by simp [q1o,q1Q,win]) ?_
   ·exact Ow
   ·exact hW
   ·try refine Zz ?_
    exact ⟨by omega,hs.symm⟩
  ·obtain rfl:k=n:=by omega
   refine wk1 ho ?_;refine (rtM (rs:=[.tmp 4]) rfl rfl Lq ?_ (.inl rfl));refine LeO hJ ?_ clU
   try simp -implicitDefEqProofs (disch:=omega) only [go_sem,Nat.reduceEqDiff,Nat.reduceAdd,↓reduceIte]
end
end Go.Proofs.YtbcmhlhgljoolaaGreatDoor
namespace Go.E
open Go Go.RowKit
def LeT {J:Nat→Prop} {h:Hp} {a n:Nat} {T:TypeId} {xs:List PV} {e:Value} (hJ:∀ i,¬ J i) (hb:h a=some ⟨T,none,xs,false⟩) (hc:ClL xs):Le J (fun _=>.tu [.ow a none 0 n,.vl e]) h (fun _=>.tu [.ow 5000 none 0 n,.vl e]) (q0R h0 5000 ⟨T,none,xs,false⟩):=by
 refine q2b (fun i=>if i=5000 then some a else none) (fun i b' hb'=>?_) (fun i j k b c hi hj ti tj=>?_) (fun _=>.tu rfl fun i x y hx hy=>?_) fun i hi=>(hJ i hi).elim
 ·by_cases hi:i=5000
  ·subst hi;rw [q0I] at hb'; cases hb';unfold LeB;exact ⟨_,hb,rfl,rfl,⟨rfl,rfl⟩,q0Y rfl hc⟩
  ·rw [q0F hi] at hb'; cases hb'
 ·split at ti
  ·split at tj
   ·rename_i e1 e2; rw [e1,e2]
   ·cases tj
  ·cases ti
 ·rcases i with _ | _ | i
  ·cases hx; cases hy; exact .ow (if_pos rfl) q0I
  ·cases hx; cases hy; exact .cl trivial
  ·simp at hx
def qqD {J:Nat→Prop} {h:Hp} {T:TypeId} {e:Value} (hJ:∀ i,¬ J i):Le J (fun _=>.tu [.vl (.slice none 0 0),.vl e]) h (fun _=>.tu [.ow 5000 none 0 0,.vl e]) (q0R h0 5000 ⟨T,none,[],false⟩):=by
 refine q2b (fun _=>none) (fun i b' hb'=>?_) (fun i j k b c hi hj ti tj=>by cases ti) (fun _=>.tu rfl fun i x y hx hy=>?_) fun i hi=>(hJ i hi).elim
 ·by_cases hi:i=5000
  ·subst hi;rw [q0I] at hb'; cases hb'
   rfl
  ·rw [q0F hi] at hb'; cases hb'
 ·rcases i with _ | _ | i
  ·cases hx; cases hy; exact .nilow rfl q0I rfl
  ·cases hx; cases hy; exact .cl trivial
  ·simp at hx
end Go.E
namespace Go.Proofs.YtbcmhlhgljoolaaGreatDoor
open Go Go.E Go.Sp
def qlK {L:List (List Nat)} {b ys:List Nat} {n k:Nat} (hL:SqM L n) (hk:k < n):loV L b ys k < 18446744073709551616∧upV L b ys n k < 18446744073709551616:=⟨q6L (hL.dg k hk),q6L (hL.dg k hk)⟩
def q76 {L:List (List Nat)} {b:List Nat} {n:Nat} (hL:SqM L n):∀ (m k:Nat) (ys zs:List Nat),k+m=n→q0c ys→loF L b m k ys=some zs→q0c zs
 | 0,_,_,_,_,hf,h=>by cases h; exact hf
 | m+1,k,ys,zs,hk,hf,h=>by
  rw [loF] at h
  split at h
  ·rename_i hv;exact q76 hL m (k+1) _ zs Oq (q3R hf (qlK hL Oq).1 hv) h
  ·cases h
noncomputable def dfE (F:List Int × List Int × List Int × List Nat) (l:List Nat):List Nat × Int :=
 if q39 (q2e F) F.1.length l≠0 then ([],q39 (q2e F) F.1.length l) else
  match loF (q3T ⟨F.1,F.2.1,F.2.2.1,F.2.2.2⟩ F.1.length F.1.length) (gaS l F.1 F.1.length) F.1.length 0 (List.replicate F.1.length 0) with
  | none=>([],233)
  | some y=>match upF (trS (q3T ⟨F.1,F.2.1,F.2.2.1,F.2.2.2⟩ F.1.length F.1.length) F.1.length F.1.length) y F.1.length F.1.length (List.replicate F.1.length 0) with
   | none=>([],233)
   | some z=>(scS z F.1 F.1.length F.1.length,0)
def qeP {n:Nat} {l:List Nat} (h1:l.length=n) (h2:∀ x ∈ l,q0J x):q39 0 n l=0:=by
 unfold q39;rw [if_neg (by omega),if_neg (by omega),if_neg (not_not_intro h2)]
section
variable {pm cp ri:List Int} {vs l:List Nat}
def qkf:IdL win [q1L (pm,cp,ri,vs),pF l]:=IdL.of fun x hx=>by
 simp at hx
 rcases hx with rfl | rfl
 ·unfold q1L IdP IdL IdL IdL IdL IdL;unfold IdP;exact ⟨trivial,trivial,trivial,trivial,trivial⟩
 ·unfold IdP; trivial
def qe5 (hp:pm.length≤1000000) (hc:cp.length≤1000000) (hr:ri.length≤1000000) (hv:vs.length≤1000000) (hu:∀ x ∈ vs,x < 18446744073709551616) (hul:∀ x ∈ l,x < 18446744073709551616) (hl:l.length≤1000000) :
  q9Y 76 [q1L (pm,cp,ri,vs),pF l] h0 (.tu [.ow 5000 none 0 (dfE (pm,cp,ri,vs) l).1.length,iv (dfE (pm,cp,ri,vs) l).2]) (q0R h0 5000 ⟨30,none,(dfE (pm,cp,ri,vs) l).1.map fun z:Nat=>uv z,false⟩):=by
 have hJ:∀ i,¬ (h0 i≠none):=fun i h=>h rfl;have cR:=qe3 hp hc hr hv hu hul hl;refine qcQ qtj Tryz.func76 rfl Tryz.ntmps76 (by kernel_rfl) ?_ ?_ ?_ ?_
 ·intro i b hb; cases hb
 ·exact qco
 ·exact qkf
 unfold dfE;dsimp only
 by_cases hz0:q39 (q2e (pm,cp,ri,vs)) pm.length l=0
 case neg =>
  rw [if_pos hz0];generalize q39 (q2e (pm,cp,ri,vs)) pm.length l=e at *;have q:(e != 0)=true:=by simpa using hz0
  unfold q1L at *;dsimp only at *;refine wk1 q ?_;refine (rtM (rs:=[.tmp 4,.tmp 5]) rfl rfl Lq ?_ (.inl rfl));exact qqD hJ
 rw [if_neg (not_not_intro hz0)];rw [hz0] at cR;obtain ⟨h1,h2,h3⟩:=qeQ hz0;have ho:=q4T h1 hr hu;have hn:=ho.n;dsimp only at hn;have hsq:=q6P ho;have hfl:q0c l:=fun x hx=>⟨hul x hx,h3 x hx⟩;have hpb:∀ x ∈ pm,0≤x∧x < pm.length:=fun x hx=>ho.perm.1 x hx;have cG:=qcb (l:=l) (o:=pm) (n:=pm.length) h2 rfl hp hpb;have hgl:=qfb (l:=l) (o:=pm) (n:=pm.length);have hgf:=qfc (o:=pm) (n:=pm.length) hfl;generalize gaS l pm pm.length=g at *;have cA:=qu3 (n:=l.length) Oq;have cW:=qsc (f:=(pm,cp,ri,vs)) (ps:=qc7 l.length) (l:=g) ho hgf hgl (fun x hx=>by unfold qc7 at hx; simp at hx; omega) (by rw [qam]; omega);have e:=qsb (b:=g) ho hgl;rw [show qc7 g.length=qc7 l.length by rw [hgl,h2]] at e;dsimp only at e cW;rw [e] at cW;clear e;have hlf:∀ y,loF (q3T ⟨pm,cp,ri,vs⟩ pm.length pm.length) g pm.length 0 (List.replicate pm.length 0)=some y→y.length=pm.length∧q0c y:=fun y hy=>⟨by rw [qaC _ _ _ _ hy,List.length_replicate],q76 hsq _ _ _ y (Nat.zero_add _) q1d hy⟩;have hJn:∀ i,¬ (h0 i≠none):=hJ;generalize loF (q3T ⟨pm,cp,ri,vs⟩ pm.length pm.length) g pm.length 0 (List.replicate pm.length 0)=R1 at *;cases R1 with
 | none =>
  rw [show fwP none=.tu [pF [],iv 233] from rfl] at cW;dsimp only;unfold q1L at *;dsimp only at *;refine wk ?_;refine (rtM (rs:=[.tmp 4,.tmp 5]) rfl rfl Lq ?_ (.inl rfl));exact qqD hJ
 | some y =>
  rw [show fwP (some y)=.tu [pF y,iv 0] from rfl] at cW;obtain ⟨hy1,hy2⟩:=hlf y rfl;have cB:=qts (f:=(pm,cp,ri,vs)) ho hy2 hy1;dsimp only at cB ⊢;rw [hy1,ql9 ho rfl _ _ (Nat.le_refl _)] at cB;dsimp only at cB;have hzl:∀ z,upF (trS (q3T ⟨pm,cp,ri,vs⟩ pm.length pm.length) pm.length pm.length) y pm.length pm.length (List.replicate pm.length 0)=some z→z.length=pm.length:=fun z hz=>by rw [q97 _ _ _ hz,List.length_replicate]
  generalize upF (trS (q3T ⟨pm,cp,ri,vs⟩ pm.length pm.length) pm.length pm.length) y pm.length pm.length (List.replicate pm.length 0)=R2 at *;cases R2 with
  | none =>
   rw [show fwP none=.tu [pF [],iv 233] from rfl] at cB;dsimp only;unfold q1L at *;dsimp only at *;refine wk ?_;refine (rtM (rs:=[.tmp 4,.tmp 5]) rfl rfl Lq ?_ (.inl rfl));exact qqD hJ
  | some z =>
   rw [show fwP (some z)=.tu [pF z,iv 0] from rfl] at cB;have cS:=q9k (l:=z) (o:=pm) (hzl z rfl) rfl hp hpb;have hsl:=q4i (x:=z) (o:=pm) (n:=pm.length) pm.length;dsimp only;rw [hsl];generalize scS z pm pm.length pm.length=x at *;unfold q1L at *;dsimp only at *;refine wk ?_;refine qcV fun K hK=>?_;refine Zz ?_;refine jm cS ?_ (fun i hi=>(hi trivial).elim) ?_
   ·change Wn _ _;exact Ow
   try refine Zz ?_
   refine hK _ _ ?_; clear hK K;refine wk ?_;refine (rtM (rs:=[.tmp 4,.tmp 5]) rfl rfl Lq ?_ (.inl rfl));refine LeT hJ ?_ clU
   try simp -implicitDefEqProofs (disch:=omega) only [go_sem,Nat.reduceEqDiff,Nat.reduceAdd,↓reduceIte]
def qlu (hp:pm.length≤1000000) (hc:cp.length≤1000000) (hr:ri.length≤1000000) (hv:vs.length≤1000000) (hu:∀ x ∈ vs,x < 18446744073709551616) (hul:∀ x ∈ l,x < 18446744073709551616) (hl:l.length≤1000000) :
  q9Y 85 [q1L (pm,cp,ri,vs),pF l] h0 (.tu [.ow 5000 none 0 (dfE (pm,cp,ri,vs) l).1.length,iv (dfE (pm,cp,ri,vs) l).2]) (q0R h0 5000 ⟨30,none,(dfE (pm,cp,ri,vs) l).1.map fun z:Nat=>uv z,false⟩):=by
 have hJ:∀ i,¬ (h0 i≠none):=fun i h=>h rfl;have cK:=q7W hp hc hr hv hu;have cS:=q3q (e:=q2e (pm,cp,ri,vs)) (n:=pm.length) hul hl;refine qcQ qth Tryz.func85 rfl Tryz.ntmps85 (by kernel_rfl) ?_ ?_ ?_ ?_
 ·intro i b hb; cases hb
 ·exact qco
 ·exact qkf
 unfold dfE;dsimp only
 by_cases hz0:q39 (q2e (pm,cp,ri,vs)) pm.length l=0
 case neg =>
  rw [if_pos hz0];generalize q39 (q2e (pm,cp,ri,vs)) pm.length l=e at *;generalize q2e (pm,cp,ri,vs)=e2 at *;have q:(e != 0)=true:=by simpa using hz0
  unfold q1L at *;dsimp only at *;refine wk1 q ?_;refine (rtM (rs:=[.tmp 4,.tmp 5]) rfl rfl Lq ?_ (.inl rfl));exact qqD hJ
 rw [if_neg (not_not_intro hz0)];rw [hz0] at cS;obtain ⟨h1,h2,h3⟩:=qeQ hz0;rw [h1] at cK cS;have ho:=q4T h1 hr hu;have hn:=ho.n;dsimp only at hn;have hsq:=q6P ho;have hfl:q0c l:=fun x hx=>⟨hul x hx,h3 x hx⟩;have hpb:∀ x ∈ pm,0≤x∧x < pm.length:=fun x hx=>ho.perm.1 x hx;have cG:=qc0 (l:=l) (o:=pm) (n:=pm.length) h2 rfl hp hpb;have hgl:=qfb (l:=l) (o:=pm) (n:=pm.length);have hgf:=qfc (o:=pm) (n:=pm.length) hfl;generalize gaS l pm pm.length=g at *;have cW:=qcZ hp hc hr hv hu (fun x hx=>(hgf x hx).1) (by omega:g.length≤1000000);unfold solR at cW;dsimp only at cW;rw [h1,if_neg (not_not_intro (qeP hgl fun x hx=>(hgf x hx).2))] at cW;have hlf:∀ y,loF (q3T ⟨pm,cp,ri,vs⟩ pm.length pm.length) g pm.length 0 (List.replicate pm.length 0)=some y→y.length=pm.length∧q0c y:=fun y hy=>⟨by rw [qaC _ _ _ _ hy,List.length_replicate],q76 hsq _ _ _ y (Nat.zero_add _) q1d hy⟩;generalize loF (q3T ⟨pm,cp,ri,vs⟩ pm.length pm.length) g pm.length 0 (List.replicate pm.length 0)=R1 at *;cases R1 with
 | none =>
  rw [show fwP none=.tu [pF [],iv 233] from rfl] at cW;dsimp only;unfold q1L at *;dsimp only at *;refine wk ?_;refine (rtM (rs:=[.tmp 4,.tmp 5]) rfl rfl Lq ?_ (.inl rfl));exact qqD hJ
 | some y =>
  rw [show fwP (some y)=.tu [pF y,iv 0] from rfl] at cW;obtain ⟨hy1,hy2⟩:=hlf y rfl;have cB:=qcY hp hc hr hv hu (fun x hx=>(hy2 x hx).1) (by omega:y.length≤1000000);unfold uppR at cB;dsimp only at cB ⊢;rw [h1,if_neg (not_not_intro (qeP hy1 fun x hx=>(hy2 x hx).2))] at cB;have hzl:∀ z,upF (trS (q3T ⟨pm,cp,ri,vs⟩ pm.length pm.length) pm.length pm.length) y pm.length pm.length (List.replicate pm.length 0)=some z→z.length=pm.length:=fun z hz=>by rw [q97 _ _ _ hz,List.length_replicate]
  generalize upF (trS (q3T ⟨pm,cp,ri,vs⟩ pm.length pm.length) pm.length pm.length) y pm.length pm.length (List.replicate pm.length 0)=R2 at *;cases R2 with
  | none =>
   rw [show fwP none=.tu [pF [],iv 233] from rfl] at cB;dsimp only;unfold q1L at *;dsimp only at *;refine wk ?_;refine (rtM (rs:=[.tmp 4,.tmp 5]) rfl rfl Lq ?_ (.inl rfl));exact qqD hJ
  | some z =>
   rw [show fwP (some z)=.tu [pF z,iv 0] from rfl] at cB;have cS2:=q9Z (l:=z) (o:=pm) (hzl z rfl) rfl hp hpb;have hsl:=q4i (x:=z) (o:=pm) (n:=pm.length) pm.length;dsimp only;rw [hsl];generalize scS z pm pm.length pm.length=x at *;unfold q1L at *;dsimp only at *;refine wk ?_;refine qcV fun K hK=>?_;refine Zz ?_;refine jm cS2 ?_ (fun i hi=>(hi trivial).elim) ?_
   ·change Wn _ _;exact Ow
   try refine Zz ?_
   refine hK _ _ ?_; clear hK K;refine wk ?_;refine (rtM (rs:=[.tmp 4,.tmp 5]) rfl rfl Lq ?_ (.inl rfl));refine LeT hJ ?_ clU
   try simp -implicitDefEqProofs (disch:=omega) only [go_sem,Nat.reduceEqDiff,Nat.reduceAdd,↓reduceIte]
def qg1 {f:FuncId} {al:List PV} {xs:List Nat} {e:Int} (h:q9Y f al h0 (.tu [.ow 5000 none 0 xs.length,iv e]) (q0R h0 5000 ⟨30,none,xs.map fun z:Nat=>uv z,false⟩)):AR f al (.tu [pF xs,iv e]):=by
 refine qpe (ids:=[5000]) h (fun y hy=>?_) (fun i b hb y hy=>?_) ?_
 ·simp at hy
  rcases hy with rfl | rfl
  ·exact df_ow
  ·exact qtT
 ·by_cases hi:i=5000
  ·subst hi;rw [q0I] at hb; cases hb;obtain ⟨z,_,rfl⟩:=List.mem_map.1 hy;exact qtT
  ·rw [q0F hi] at hb; cases hb
 ·have h1:q2m (q0R h0 5000 ⟨30,none,xs.map fun z:Nat=>uv z,false⟩) (.ow 5000 none 0 xs.length)=some (pF xs,[5000]):=by
   unfold q2m;dsimp only;rw [q0I,Option.bind_some,if_pos ⟨rfl,rfl,fun x hx=>clU x hx⟩,List.drop_zero,List.take_of_length_le (by rw [List.length_map]; exact Nat.le_refl _)]
  have h2:q2m (q0R h0 5000 ⟨30,none,xs.map fun z:Nat=>uv z,false⟩) (iv e)=some (iv e,[]):=by
   unfold q2m;dsimp only;exact if_pos trivial
  unfold q2H q2H q2H clo;simp only [h1,h2]
  rfl
end
end Go.Proofs.YtbcmhlhgljoolaaGreatDoor
namespace Go.Sp
open Go Go.E Go.Proofs.YtbcmhlhgljoolaaGreatDoor
def q9z {f:Nat} (hf:q0J f) (h:f < 18446744073709551616):ofZ (q5P f) = -ofZ f∧q0J (q5P f)∧q5P f < 18446744073709551616:=by
 have key:q5P f / 4503599627370496 % 2048=f / 4503599627370496 % 2048∧q5P f % 4503599627370496=f % 4503599627370496∧q5P f < 18446744073709551616∧decide (9223372036854775808≤q5P f)=!decide (9223372036854775808≤f):=by
  unfold q5P
  split
  ·refine ⟨by omega,by omega,by omega,?_⟩;rw [decide_eq_true (by omega),decide_eq_false (by omega)]; rfl
  ·refine ⟨by omega,by omega,by omega,?_⟩;rw [decide_eq_false (by omega),decide_eq_true (by omega)]; rfl
 obtain ⟨h1,h2,h3,h4⟩:=key;have sg:∀ (b:Bool) (m:Nat),sgn (!b) m = -sgn b m:=fun b m=>by cases b <;> simp [sgn]
 refine ⟨?_,?_,h3⟩
 ·unfold ofZ ofF;rw [h1,h2,h4]
  split
  ·rfl
  ·split
   ·simp only [Option.getD_some,sg,Int.neg_mul]
   ·simp only [Option.getD_some,sg,Int.neg_mul]
 ·unfold q0J at hf ⊢;rw [h1]; exact hf
def q8d {x y:List Nat} {t i:Nat}:∀ v ∈ lnF x t y i,v < 18446744073709551616:=fun v hv=>by
 obtain ⟨k,_,rfl⟩:=List.mem_map.1 hv;exact qaY
def qkU {f:Nat→Nat→Option Nat} {x:List Nat} {n i:Nat}:∀ v ∈ q2L f x n i,v < 18446744073709551616:=fun v hv=>by
 obtain ⟨k,_,rfl⟩:=List.mem_map.1 hv;exact qaY
def qaz {f:Nat→Nat→Option Nat} {x:List Nat} {n i:Nat}:(q2L f x n i).length=i:=by simp [q2L]
def qan {L:List (List Nat)} {b:List Nat} {n:Nat} (hL:SqM L n):∀ (k:Nat) (ys zs:List Nat),k≤n→q0c ys→upF L b n k ys=some zs→q0c zs
 | 0,_,_,_,hf,h=>by cases h; exact hf
 | k+1,ys,zs,hk,hf,h=>by
  rw [upF] at h
  split at h
  ·rename_i hv;exact qan hL k _ zs Oq (q3R hf (qlK hL Oq).2 hv) h
  ·cases h
def qe2 {ix:List Int} {vl:List Nat} {n:Nat} (hv:q0c vl):∀ k,q0c (scS vl ix n k)
 | 0=>q1d
 | k+1=>by
  obtain ⟨h1,h2⟩:=q4O hv k;exact q3R (qe2 hv k) h1 h2
def q9D {F:List Int × List Int × List Int × List Nat} {l:List Nat} (hr:F.2.2.1.length≤1000000) (hu:∀ x ∈ F.2.2.2,x < 18446744073709551616) (h:(dfE F l).2=0):(dfE F l).1.length=F.1.length∧q0c (dfE F l).1:=by
 unfold dfE at h ⊢
 split at h
 ·rename_i h1;exact (h1 h).elim
 ·rename_i h1;rw [if_neg h1];have hz:q39 (q2e F) F.1.length l=0:=by simpa using h1
  have hsq:=q6P (q4T (pm:=F.1) (cp:=F.2.1) (ri:=F.2.2.1) (vs:=F.2.2.2) (qeQ hz).1 hr hu)
  split at h
  ·cases h
  ·rename_i y hy
   split at h
   ·cases h
   ·rename_i z hzz;simp only [hy,hzz];exact ⟨q4i _,qe2 (qan (qkL hsq) _ _ z (Nat.le_refl _) q1d hzz) _⟩
abbrev GSt:=Int × List Nat × List Nat × List Nat × Int
def gEr (e:Int):GSt:=(e,[],[],[],0)
section
open Classical
noncomputable def gS5 (n:Nat) (z:List Nat) (be:Nat) (p x r:List Nat) (tau:Int):GSt:=if ∀ v ∈ lnF z be p n,q0J v then (0,x,r,lnF z be p n,tau) else gEr 233
noncomputable def gS4 (n:Nat) (F:List Int × List Int × List Int × List Nat) (p x r:List Nat) (rho:Int):GSt :=
 if (dfE F r).2≠0 then gEr (dfE F r).2 else if q0J (fQ 0 (q2d r (dfE F r).1) rho) then gS5 n (dfE F r).1 (fQ 0 (q2d r (dfE F r).1) rho) p x r (q2d r (dfE F r).1) else gEr 233
noncomputable def gS3 (n:Nat) (F:List Int × List Int × List Int × List Nat) (x r p q:List Nat) (rho:Int) (al:Nat):GSt :=
 if ∀ v ∈ lnF x al p n,q0J v then (if ∀ v ∈ lnF r (q5P al) q n,q0J v then gS4 n F p (lnF x al p n) (lnF r (q5P al) q n) rho else gEr 233) else gEr 233
noncomputable def gS2 (n:Nat) (F:List Int × List Int × List Int × List Nat) (x r p q:List Nat) (rho:Int):GSt :=
 if q2d p q≤0 then gEr 360 else if q0J (fQ 0 rho (q2d p q)) then gS3 n F x r p q rho (fQ 0 rho (q2d p q)) else gEr 233
noncomputable def gS (n:Nat) (f:Nat→Nat→Option Nat) (F:List Int × List Int × List Int × List Nat) (x r p:List Nat) (rho:Int):GSt :=
 if rho≤0 then gEr 360 else if ∀ v ∈ q2L f p n n,q0J v then gS2 n F x r p (q2L f p n n) rho else gEr 233
noncomputable def grL (n:Nat) (f:Nat→Nat→Option Nat) (F:List Int × List Int × List Int × List Nat):Nat→List Nat→List Nat→List Nat→Int→List Nat→List Nat × List Nat × Int
 | 0,x,_,_,_,l=>(x,l,0)
 | k+1,x,r,p,rho,l=>if q2B r n=0 then (x,l,0) else if (gS n f F x r p rho).1≠0 then ([],[],(gS n f F x r p rho).1) else
  grL n f F k (gS n f F x r p rho).2.1 (gS n f F x r p rho).2.2.1 (gS n f F x r p rho).2.2.2.1 (gS n f F x r p rho).2.2.2.2 (l ++ [q2B (gS n f F x r p rho).2.2.1 n])
noncomputable def grR (R C:Nat) (F:List Int × List Int × List Int × List Nat) (b:List Nat) (steps:Int):Int :=
 if R≠C then 5 else if q2e F≠0 then q2e F else if F.1.length≠R then 5 else if b.length≠R then 2 else if ¬ ∀ v ∈ b,q0J v then 4 else if steps < 0∨64 < steps then 350 else 0
noncomputable def grS (R C:Nat) (f:Nat→Nat→Option Nat) (F:List Int × List Int × List Int × List Nat) (b:List Nat) (steps:Int):List Nat × List Nat × Int :=
 if grR R C F b steps≠0 then ([],[],grR R C F b steps) else if (dfE F b).2≠0 then ([],[],(dfE F b).2) else
  grL R f F steps.toNat (List.replicate R 0) b (dfE F b).1 (q2d b (dfE F b).1) [q2B b R]
end
section
variable {n:Nat} {f:Nat→Nat→Option Nat} {F:List Int × List Int × List Int × List Nat} {x r p:List Nat} {rho:Int}
def gS_ok (hn:n≤1000) (hF:F.1.length=n) (hr:F.2.2.1.length≤1000000) (hu:∀ x ∈ F.2.2.2,x < 18446744073709551616) (h:(gS n f F x r p rho).1=0) :
  (q0c (gS n f F x r p rho).2.1∧(gS n f F x r p rho).2.1.length=n)∧(q0c (gS n f F x r p rho).2.2.1∧(gS n f F x r p rho).2.2.1.length=n)∧(q0c (gS n f F x r p rho).2.2.2.1∧(gS n f F x r p rho).2.2.2.1.length=n)∧q05 (gS n f F x r p rho).2.2.2.2:=by
 unfold gS at h ⊢
 split at h
 ·simp [gEr] at h
 rename_i h1;rw [if_neg h1]
 split at h
 rotate_left
 ·simp [gEr] at h
 rename_i h2;rw [if_pos h2];unfold gS2 at h ⊢
 split at h
 ·simp [gEr] at h
 rename_i h3;rw [if_neg h3]
 split at h
 rotate_left
 ·simp [gEr] at h
 rename_i h4;rw [if_pos h4];unfold gS3 at h ⊢
 split at h
 rotate_left
 ·simp [gEr] at h
 rename_i h5;rw [if_pos h5]
 split at h
 rotate_left
 ·simp [gEr] at h
 rename_i h6;rw [if_pos h6];have a1:=q2D (x:=x) (t:=fQ 0 rho (q2d p (q2L f p n n))) (y:=p) (i:=n);have a2:=q2D (x:=r) (t:=q5P (fQ 0 rho (q2d p (q2L f p n n)))) (y:=q2L f p n n) (i:=n);have a3:q0c (lnF x (fQ 0 rho (q2d p (q2L f p n n))) p n):=fun v hv=>⟨q8d v hv,h5 v hv⟩;have a4:q0c (lnF r (q5P (fQ 0 rho (q2d p (q2L f p n n)))) (q2L f p n n) n):=fun v hv=>⟨q8d v hv,h6 v hv⟩;generalize lnF x (fQ 0 rho (q2d p (q2L f p n n))) p n=x1 at *;generalize lnF r (q5P (fQ 0 rho (q2d p (q2L f p n n)))) (q2L f p n n) n=r1 at *;unfold gS4 at h ⊢
 split at h
 ·rename_i h7;exact (h7 h).elim
 rename_i h7;rw [if_neg h7]
 split at h
 rotate_left
 ·simp [gEr] at h
 rename_i h8;rw [if_pos h8];obtain ⟨b1,b2⟩:=q9D (l:=r1) hr hu (by simpa using h7);unfold gS5 at h ⊢
 split at h
 rotate_left
 ·simp [gEr] at h
 rename_i h9;rw [if_pos h9];exact ⟨⟨a3,a1⟩,⟨a4,a2⟩,⟨fun v hv=>⟨q8d v hv,h9 v hv⟩,q2D⟩,q3k a4 b2 Oq⟩
end
end Go.Sp
namespace Go.E
open Go Go.RowKit
def LeS {J:Nat→Prop} {h:Hp} {T:TypeId} {K:Kd} {l m lr:List PV} {x:PV} (hq:h 5000=some ⟨T,K,[.ag l],false⟩) (hm:LeV some h (q0R h0 5000 ⟨T,K,[.ag m],false⟩) (.ag l) (.ag m)) (hx:LeV some h (q0R h0 5000 ⟨T,K,[.ag m],false⟩) (mkR lr) x):Le J (fun _=>mkR lr) h (fun _=>x) (q0R h0 5000 ⟨T,K,[.ag m],false⟩):=by
 refine q2b some (fun i b hb=>?_) (fun i j k b c _ _ ti tj=>by cases ti; cases tj; rfl) (fun _=>hx) fun _ _ _ _=>rfl
 by_cases hi:i=5000
 ·subst hi;rw [q0I] at hb; cases hb;unfold LeB;exact ⟨_,hq,rfl,rfl,⟨rfl,rfl⟩,by rw [q16]; exact hm⟩
 ·rw [q0F hi] at hb; cases hb
end Go.E
namespace Go.Proofs.YtbcmhlhgljoolaaGreatDoor
open Go Go.E Go.Sp
section
variable {n:Nat} {f:Nat→Nat→Option Nat} {F:List Int × List Int × List Int × List Nat} {x r p:List Nat} {rho:Int}
def stL (n:Nat) (f:Nat→Nat→Option Nat) (F:List Int × List Int × List Int × List Nat) (x r p:List Nat) (rho:Int):List PV:=[iv n,iv n,pI (tM f n n).1,pI (tM f n n).2.1,pF (tM f n n).2.2,pI F.1,pI F.2.1,pI F.2.2.1,pF F.2.2.2,pF x,pF r,.un,pF p,bv false,bv (decide (od rho < 0)),.fm (fL (od rho)),iv (dyE rho)]
def qqz:List PV:=[.un,.un,.un,.un,.un,.un,.un,.un,.un,.un,.un,.un,.un,.un,.un,.un,.un]
abbrev stH (l:List PV):Hp:=q0R h0 5000 ⟨115,some 17,[.ag l],false⟩
def qs1 {a0 a1 a2 a3 a4 a5 a6 a7 a8 a9 a10 a11 a12 a13 a14 a15 a16:PV}:ldU (some 17) (some 5) 0 (.ag [a0,a1,a2,a3,a4,a5,a6,a7,a8,a9,a10,a11,a12,a13,a14,a15,a16])=some (.ag [a0,a1,a2,a3,a4]):=by simp [ldU]
def qs2 {a0 a1 a2 a3 a4 a5 a6 a7 a8 a9 a10 a11 a12 a13 a14 a15 a16:PV}:ldU (some 17) (some 4) 5 (.ag [a0,a1,a2,a3,a4,a5,a6,a7,a8,a9,a10,a11,a12,a13,a14,a15,a16])=some (.ag [a5,a6,a7,a8]):=by simp [ldU]
def qs0 {a0 a1 a2 a3 a4 a5 a6 a7 a8 a9 a10 a11 a12 a13 a14 a15 a16:PV}:ldU (some 17) (some 4) 13 (.ag [a0,a1,a2,a3,a4,a5,a6,a7,a8,a9,a10,a11,a12,a13,a14,a15,a16])=some (.ag [a13,a14,a15,a16]):=by simp [ldU]
def qrB {a0 a1 a2 a3 a4 a5 a6 a7 a8 a9 a10 a11 a12 a13 a14 a15 a16 b0 b1 b2 b3:PV}:stU (some 17) (some 4) 13 (.ag [a0,a1,a2,a3,a4,a5,a6,a7,a8,a9,a10,a11,a12,a13,a14,a15,a16]) (.ag [b0,b1,b2,b3])=some (.ag [a0,a1,a2,a3,a4,a5,a6,a7,a8,a9,a10,a11,a12,b0,b1,b2,b3]):=by simp [stU]
attribute [go_sem] qs1 qs2 qs0 qrB
def ag17:q06 Tryz.prog 115=some (some 17):=by kernel_rfl
attribute [go_sem] ag17
def qrA {l m:List PV} (hl:IdL win l):∀ i b,stH l i=some b→win i∧b.st=false∧IdL win b.xs∧∃ b',stH m i=some b'∧b'.k=b.k∧b.xs.length≤b'.xs.length:=fun i b hb=>by
 unfold stH at hb
 by_cases hi:i=5000
 ·subst hi;rw [q0I] at hb; cases hb;exact ⟨⟨by omega,by omega⟩,rfl,IdL.of fun x hx=>by simp at hx; subst hx; unfold IdP; exact hl,_,q0I,rfl,Nat.le_refl _⟩
 ·rw [q0F hi] at hb; cases hb
def qmY {m:List PV}:∀ i b,stH m i=some b→win i:=fun i b hb=>by
 unfold stH at hb
 by_cases hi:i=5000
 ·subst hi; exact ⟨by omega,by omega⟩
 ·rw [q0F hi] at hb; cases hb
def q9g {q:Nat→Prop}:IdL q (stL n f F x r p rho):=by
 unfold stL;simp [IdL,IdP]
def qkC {J:Nat→Prop} {h:Hp} {T:TypeId} {K:Kd} {l:List PV} {v:Value} (hq:h 5000=some ⟨T,K,[.ag l],false⟩) (hl:l.length=17):Le J (fun _=>mkR [.vl v]) h (fun _=>.vl v) (q0R h0 5000 ⟨T,K,[.ag qqz],false⟩):=LeS hq (.ag hl fun i x y _ hy=>by
 have:y ∈ qqz:=List.mem_of_getElem? hy;simp [qqz] at this;subst this; exact .un) (.cl trivial)
noncomputable def stN (n:Nat) (f:Nat→Nat→Option Nat) (F:List Int × List Int × List Int × List Nat) (g:GSt):List PV:=if g.1=0 then stL n f F g.2.1 g.2.2.1 g.2.2.2.1 g.2.2.2.2 else qqz
def q7L {e:Int} (h:e≠0):stN n f F (gEr e)=qqz:=if_neg h
def qqv (hm : TOk f n n) (hn : n ≤ 20) (hp : F.1.length ≤ 1000000) (hc : F.2.1.length ≤ 1000000) (hr : F.2.2.1.length ≤ 1000000) (hv : F.2.2.2.length ≤ 1000000) (hu : ∀ x ∈ F.2.2.2, x < 18446744073709551616) (hF : F.1.length = n)
    (hx : q0c x ∧ x.length = n) (hrr : q0c r ∧ r.length = n) (hpp : q0c p ∧ p.length = n) (hrho : q05 rho) :
    q9Y 80 [.pt 5000 0 0] (stH (stL n f F x r p rho)) (iv (gS n f F x r p rho).1) (stH (stN n f F (gS n f F x r p rho))) := by
  obtain ⟨hx1, hx2⟩ := hx
  obtain ⟨hr1, hr2⟩ := hrr
  obtain ⟨hp1, hp2⟩ := hpp
  refine qcQ qti Tryz.func80 rfl Tryz.ntmps80 (by kernel_rfl) ?_ ?_ ?_ ?_
  · exact qrA q9g
  · exact qmY
  · exact IdL.of fun x hx => by
      simp at hx; subst hx; unfold IdP; exact ⟨by omega, by omega⟩
  have C1 := q2W hrho
  have C2 := q8h hm hp1 hp2 hn
  have hq2 := qaz (f := f) (x := p) (n := n) (i := n)
  have hqu := qkU (f := f) (x := p) (n := n) (i := n)
  unfold gS
  generalize q2L f p n n = q at *
  unfold stL pT q2M lnR at *
  by_cases a1 : rho ≤ 0
  · have q1 : rho.sign ≤ 0 := by rcases Int.lt_or_eq_of_le a1 with h | rfl; · rw [Int.sign_eq_neg_one_of_neg h]; decide
                                 · decide
    rw [if_pos a1]
    rw [q7L (by decide)]
    unfold gEr
    refine wk1 q1 ?_
    refine (rtM (rs := [.tmp 2]) rfl rfl Lq ?_ (.inl rfl))
    exact qkC rfl rfl
  have q1 : ¬ rho.sign ≤ 0 := by rw [Int.sign_eq_one_of_pos (by omega)]; decide
  rw [if_neg a1]
  by_cases a2 : ∀ v ∈ q, q0J v
  rotate_left
  · rw [if_neg a2, q7L (by decide)]
    rw [decide_eq_false a2] at C2
    unfold gEr
    refine wk1 q1 ?_
    refine (rtM (rs := [.tmp 2]) rfl rfl Lq ?_ (.inl rfl))
    exact qkC rfl rfl
  rw [if_pos a2]
  rw [decide_eq_true a2] at C2
  have hqf : q0c q := fun v hv => ⟨hqu v hv, a2 v hv⟩
  have C3 := q6I hp1 hqf Oq Oq
  have hsd := q3k hp1 hqf Oq
  unfold gS2
  generalize q2d p q = sg at *
  have C4 := q2W hsd
  by_cases a3 : sg ≤ 0
  · have q3 : sg.sign ≤ 0 := by rcases Int.lt_or_eq_of_le a3 with h | rfl; · rw [Int.sign_eq_neg_one_of_neg h]; decide
                                · decide
    rw [if_pos a3, q7L (by decide)]
    unfold gEr
    refine wk1 (x2 q1 q3) ?_
    refine (rtM (rs := [.tmp 2]) rfl rfl Lq ?_ (.inl rfl))
    exact qkC rfl rfl
  have q3 : ¬ sg.sign ≤ 0 := by rw [Int.sign_eq_one_of_pos (by omega)]; decide
  rw [if_neg a3]
  have C5 := qaZ hrho hsd Oq
  have hal := q6L (mode := 0) (a := rho) (b := sg) Oq
  generalize fQ 0 rho sg = al at *
  have C6 := q4p hal
  by_cases a4 : q0J al
  rotate_left
  · rw [if_neg a4, q7L (by decide)]
    rw [decide_eq_false a4] at C6
    unfold gEr
    refine wk1 (x2 q1 q3) ?_
    refine (rtM (rs := [.tmp 2]) rfl rfl Lq ?_ (.inl rfl))
    exact qkC rfl rfl
  rw [if_pos a4]
  rw [decide_eq_true a4] at C6
  obtain ⟨n1, n2, n3⟩ := q9z a4 hal
  have C7 := q3B hal (q0Q a4)
  have C8 := qde (q3Z a4)
  have C9 := q7a rfl hx1 hp1 a4 Oq Oq
  have C10 := q7a n1.symm hr1 hqf n2 Oq Oq
  rw [hx2] at C9
  rw [hr2] at C10
  unfold gS3
  have hxu := q8d (x := x) (t := al) (y := p) (i := n)
  have hru := q8d (x := r) (t := q5P al) (y := q) (i := n)
  have hxl := q2D (x := x) (t := al) (y := p) (i := n)
  have hrl := q2D (x := r) (t := q5P al) (y := q) (i := n)
  unfold lnR at C9 C10
  generalize lnF x al p n = x1 at *
  generalize lnF r (q5P al) q n = r1 at *
  by_cases a5 : ∀ v ∈ x1, q0J v
  rotate_left
  · rw [if_neg a5, q7L (by decide)]
    rw [decide_eq_false a5] at C9
    unfold gEr
    refine wk1 (x2 q1 q3) ?_
    refine (rtM (rs := [.tmp 2]) rfl rfl Lq ?_ (.inl rfl))
    exact qkC rfl rfl
  rw [if_pos a5]
  rw [decide_eq_true a5] at C9
  by_cases a6 : ∀ v ∈ r1, q0J v
  rotate_left
  · rw [if_neg a6, q7L (by decide)]
    rw [decide_eq_false a6] at C10
    unfold gEr
    refine wk1 (x2 q1 q3) ?_
    refine (rtM (rs := [.tmp 2]) rfl rfl Lq ?_ (.inl rfl))
    exact qkC rfl rfl
  rw [if_pos a6]
  rw [decide_eq_true a6] at C10
  have hr1f : q0c r1 := fun v hv => ⟨hru v hv, a6 v hv⟩
  have hul : ∀ v ∈ r1, v < 18446744073709551616 := hru
  have C11 := (qg1 (qe5 hp hc hr hv hu hul Oq)).ac
  have hdf := @q9D F r1 hr hu
  unfold gS4
  rw [show (F.1, F.2.1, F.2.2.1, F.2.2.2) = F from rfl] at C11
  generalize dfE F r1 = D at *
  obtain ⟨z, e⟩ := D
  dsimp only at C11 hdf ⊢
  unfold q1L at C11
  by_cases a7 : e = 0
  rotate_left
  · rw [if_pos a7]
    have q7 : (e != 0) = true := by simpa using a7
    rw [q7L a7]
    unfold gEr
    refine wk1 (x3 q1 q3 q7) ?_
    refine (rtM (rs := [.tmp 2]) rfl rfl Lq ?_ (.inl rfl))
    exact qkC rfl rfl
  subst a7
  rw [if_neg (not_not_intro rfl)]
  obtain ⟨hz1, hz2⟩ := hdf rfl
  have C12 := q6I hr1f hz2 Oq Oq
  have htd := q3k hr1f hz2 Oq
  generalize q2d r1 z = ta at *
  have C13 := qaZ htd hrho Oq
  have hbe := q6L (mode := 0) (a := ta) (b := rho) Oq
  generalize fQ 0 ta rho = be at *
  have C14 := q4p hbe
  by_cases a8 : q0J be
  rotate_left
  · rw [if_neg a8, q7L (by decide)]
    rw [decide_eq_false a8] at C14
    unfold gEr
    refine wk1 (x2 q1 q3) ?_
    refine (rtM (rs := [.tmp 2]) rfl rfl Lq ?_ (.inl rfl))
    exact qkC rfl rfl
  rw [if_pos a8]
  rw [decide_eq_true a8] at C14
  have C15 := q3B hbe (q0Q a8)
  have C16 := q7a rfl hz2 hp1 a8 Oq Oq
  rw [show z.length = n by omega] at C16
  unfold gS5
  unfold lnR at C16
  generalize lnF z be p n = p1 at *
  by_cases a9 : ∀ v ∈ p1, q0J v
  rotate_left
  · rw [if_neg a9, q7L (by decide)]
    rw [decide_eq_false a9] at C16
    unfold gEr
    refine wk1 (x2 q1 q3) ?_
    refine (rtM (rs := [.tmp 2]) rfl rfl Lq ?_ (.inl rfl))
    exact qkC rfl rfl
  rw [if_pos a9]
  rw [decide_eq_true a9] at C16
  unfold stN
  rw [if_pos rfl]
  unfold stL
  refine wk1 (x2 q1 q3) ?_
  refine (rtM (rs := [.tmp 2]) rfl rfl Lq ?_ (.inl rfl))
  refine LeS rfl ?_ ?_
  · try simp -implicitDefEqProofs (disch := omega) only [go_sem, Nat.reduceEqDiff, Nat.reduceAdd, ↓reduceIte]
  · try simp -implicitDefEqProofs (disch := omega) only [go_sem, Nat.reduceEqDiff, Nat.reduceAdd, ↓reduceIte]
end
section
variable {R C:Nat} {f:Nat→Nat→Option Nat} {F:List Int × List Int × List Int × List Nat} {b:List Nat} {steps:Int}
def qfZ (hm:TOk f R C) (hp:F.1.length≤1000000) (hc:F.2.1.length≤1000000) (hr:F.2.2.1.length≤1000000) (hv:F.2.2.2.length≤1000000) (hu:∀ x ∈ F.2.2.2,x < 18446744073709551616) (hb:∀ v ∈ b,v < 18446744073709551616) (hbl:b.length≤1000000):ACt 74 [pT R C f,q1L F,pF b,iv steps] (iv (grR R C F b steps)):=by
 have C1:=qaw hm;have C2:=qcE hp hc hr hv hu;have C3:=q3P hb hbl;rw [show (F.1,F.2.1,F.2.2.1,F.2.2.2)=F from rfl] at C2;unfold grR;unfold pT q2M q1L at *;generalize q2e F=e at *
 by_cases h1:R=C
 rotate_left
 ·rw [if_pos h1];refine ac0 Tryz.func74 Tryz.ntmps74 [.tmp 8] ?_;exact wk trivial
 subst h1;rw [if_neg (not_not_intro rfl)]
 by_cases h2:e=0
 rotate_left
 ·rw [if_pos h2];have q2:(e != 0)=true:=by simpa using h2
  refine ac0 Tryz.func74 Tryz.ntmps74 [.tmp 8] ?_;exact wk1 q2 trivial
 subst h2;rw [if_neg (not_not_intro rfl)]
 by_cases h3:F.1.length=R
 rotate_left
 ·rw [if_pos h3];have q3:((F.1.length:Int) != (R:Int))=true:=by simp; omega
  refine ac0 Tryz.func74 Tryz.ntmps74 [.tmp 8] ?_;exact wk1 q3 trivial
 rw [if_neg (not_not_intro h3)];have q3:((F.1.length:Int) != (R:Int))=false:=by simp; omega
 by_cases h4:b.length=R
 rotate_left
 ·rw [if_pos h4];have q4:((b.length:Int) != (R:Int))=true:=by simp; omega
  refine ac0 Tryz.func74 Tryz.ntmps74 [.tmp 8] ?_;exact wk1 (x2 q3 q4) trivial
 rw [if_neg (not_not_intro h4)];have q4:((b.length:Int) != (R:Int))=false:=by simp; omega
 by_cases h5:∀ v ∈ b,q0J v
 rotate_left
 ·rw [if_pos h5];rw [decide_eq_false h5] at C3;refine ac0 Tryz.func74 Tryz.ntmps74 [.tmp 8] ?_;exact wk1 (x2 q3 q4) trivial
 rw [if_neg (not_not_intro h5)];rw [decide_eq_true h5] at C3
 by_cases h6:steps < 0
 ·rw [if_pos (.inl h6)];refine ac0 Tryz.func74 Tryz.ntmps74 [.tmp 8] ?_;exact wk1 (x3 q3 q4 h6) trivial
 by_cases h7:64 < steps
 ·rw [if_pos (.inr h7)];refine ac0 Tryz.func74 Tryz.ntmps74 [.tmp 8] ?_;exact wk1 (x4 q3 q4 h6 h7) trivial
 rw [if_neg (by omega)];refine ac0 Tryz.func74 Tryz.ntmps74 [.tmp 8] ?_;exact wk1 (x4 q3 q4 h6 h7) trivial
end
end Go.Proofs.YtbcmhlhgljoolaaGreatDoor
namespace Go.E
open Go Go.RowKit
def flS_5 {off:Nat} {a b c d e:PV} {cs:List PV}:flS (some (off,5)) (.ag [a,b,c,d,e]) cs=q9j cs off [a,b,c,d,e]:=by
 rw [q5t (by simp)];simp [flS]
attribute [go_sem] flS_5
def LeN {J:Nat→Prop} {s:Nat→PV} {h:Hp} {o:Nat} {T:TypeId} {K:Kd} {l m:List PV} (hJ:∀ i,¬ J i) (ho:h o=some ⟨T,K,[.ag l],false⟩) {xs kv:List (Nat × PV)} {kb:List (Nat × Option Bk)} (hn:nmW o o (kb.map (·.1)))
  (hm:LeV (tnU 5000 o) h (q0w (q0R h0 5000 ⟨T,K,[.ag m],false⟩) (hpM [] kb)) (.ag l) (.ag m))
  (hh:q4u (tnU 5000 o) h (q0w (q0R h0 5000 ⟨T,K,[.ag m],false⟩) (hpM [] kb)) s xs∧q4u (tnU 5000 o) h (q0w (q0R h0 5000 ⟨T,K,[.ag m],false⟩) (hpM [] kb)) s kv∧q9V (tnU 5000 o) h (q0w (q0R h0 5000 ⟨T,K,[.ag m],false⟩) (hpM [] kb)) kb):Le J s h (stM xs kv) (q0w (q0R h0 5000 ⟨T,K,[.ag m],false⟩) (hpM [] kb)):=by
 obtain ⟨h1,h2,h4⟩:=hh;have w5:win 5000:=⟨by omega,by omega⟩;have key:∀ i b,q0w (q0R h0 5000 ⟨T,K,[.ag m],false⟩) (hpM [] kb) i=some b→i=5000∨(i < 5000∧i≠o∧LeB (tnU 5000 o) h (q0w (q0R h0 5000 ⟨T,K,[.ag m],false⟩) (hpM [] kb)) i b):=fun i b hb=>by
  by_cases hi:win i
  ·rw [q0a hi] at hb
   by_cases e:i=5000
   ·exact .inl e
   ·rw [q0F e] at hb; cases hb
  ·rw [q0t hi] at hb;have q:=q2A h4 i b hb;have:=q3b hn i q.2;exact .inr ⟨this.1,this.2.1,q.1⟩
 refine q2b (tnU 5000 o) (fun i b hb=>?_) (fun i j k' b c hi hj ti tj=>?_) (fun t=>q3I h2 h1 t) fun i hi=>(hJ i hi).elim
 ·rcases key i b hb with rfl | ⟨_,_,q⟩
  ·rw [q0a w5,q0I] at hb; cases hb;unfold LeB;rw [show tnU 5000 o 5000=some o from if_pos rfl];exact ⟨_,ho,rfl,rfl,⟨rfl,rfl⟩,by rw [q16]; exact hm⟩
  ·exact q
 ·rcases key i b hi with rfl | ⟨a1,a2,_⟩ <;> rcases key j c hj with rfl | ⟨b1,b2,_⟩
  ·rfl
  ·rw [show tnU 5000 o 5000=some o from if_pos rfl] at ti;unfold tnU at tj;rw [if_neg (by omega)] at tj; cases ti; cases tj; exact (b2 rfl).elim
  ·rw [show tnU 5000 o 5000=some o from if_pos rfl] at tj;unfold tnU at ti;rw [if_neg (by omega)] at ti; cases ti; cases tj; exact (a2 rfl).elim
  ·unfold tnU at ti tj;rw [if_neg (by omega)] at ti tj; cases ti; cases tj; rfl
end Go.E
namespace Go.Proofs.YtbcmhlhgljoolaaGreatDoor
open Go Go.E Go.Sp
structure GI where
 k:Nat
 x:List Nat
 r:List Nat
 p:List Nat
 rho:Int
 l:List Nat
def qqw {l:List PV} (hl:∀ q,IdL q l):WfH (stH l):=⟨fun i b hb=>by
 unfold stH at hb
 by_cases hi:i=5000
 ·subst hi;rw [q0I] at hb; cases hb;exact ⟨rfl,IdL.of fun x hx=>by simp at hx; subst hx; unfold IdP; exact hl _⟩
 ·rw [q0F hi] at hb; cases hb⟩
abbrev grP (q:List Nat × List Nat × Int):PV:=.tu [pF q.1,pF q.2.1,iv q.2.2]
section
variable {R C:Nat} {f:Nat→Nat→Option Nat} {F:List Int × List Int × List Int × List Nat} {b:List Nat} {steps:Int}
def qbd (hm:TOk f R C) (hR:R≤20) (hp:F.1.length≤1000000) (hc:F.2.1.length≤1000000) (hr:F.2.2.1.length≤1000000) (hv:F.2.2.2.length≤1000000) (hu:∀ x ∈ F.2.2.2,x < 18446744073709551616) (hb:∀ v ∈ b,v < 18446744073709551616) (hbl:b.length≤1000000):ACt 26 [pT R C f,q1L F,pF b,iv steps] (grP (grS R C f F b steps)):=by
 have C1:=qfZ (steps:=steps) hm hp hc hr hv hu hb hbl;have C2:=(qg1 (qe5 hp hc hr hv hu hb hbl)).ac;rw [show (F.1,F.2.1,F.2.2.1,F.2.2.2)=F from rfl] at C2;have hdf:=@q9D F b hr hu;unfold grP grS;obtain ⟨e,he⟩:∃ e,e=grR R C F b steps:=⟨_,rfl⟩;rw [← he] at C1 ⊢;have h64:e=0→R=C∧F.1.length=R∧b.length=R∧(∀ v ∈ b,q0J v)∧0≤steps∧steps≤64:=fun h=>by
  rw [h] at he;unfold grR at he
  repeat' (split at he <;> try (first | omega | (exfalso; omega)))
  rename_i a1 a2 a3 a4 a5 a6;exact ⟨by omega,by omega,by omega,by simpa using a5,by omega,by omega⟩
 clear he;have C3:=q6R (l:=b) hbl
 by_cases h1:e=0
 rotate_left
 ·rw [if_pos h1];have q1:(e != 0)=true:=by simpa using h1
  unfold pT q2M q1L at *;refine ac0 Tryz.func26 Tryz.ntmps26 [.tmp 8,.tmp 9,.tmp 10] ?_;exact wk1 q1 trivial
 subst h1;rw [if_neg (not_not_intro rfl)];obtain ⟨rfl,g1,g2,g3,g4,g5⟩:=h64 rfl;have hbf:q0c b:=fun v hv=>⟨hb v hv,g3 v hv⟩;generalize dfE F b=D at *;obtain ⟨z,e⟩:=D;dsimp only at C2 hdf ⊢;have stp:=fun (x r p:List Nat) (rho:Int)=>@qqv R f F x r p rho hm hR hp hc hr hv hu g1;have sok:=fun (x r p:List Nat) (rho:Int)=>@gS_ok R f F x r p rho Oq g1 hr hu;unfold pT q2M q1L at *
 by_cases h2:e=0
 rotate_left
 ·rw [if_pos h2];have q2:(e != 0)=true:=by simpa using h2
  refine ac0 Tryz.func26 Tryz.ntmps26 [.tmp 8,.tmp 9,.tmp 10] ?_;exact wk1 q2 trivial
 subst h2;rw [if_neg (not_not_intro rfl)];obtain ⟨z1,z2⟩:=hdf rfl;have C4:=q6R (l:=z) Oq;have C5:=q6I hbf z2 Oq Oq;have hrd:=q3k hbf z2 Oq;have C6:=qbc hbf Oq;rw [g2] at C6;obtain ⟨N,rfl⟩:∃ N:Nat,steps=N:=⟨steps.toNat,by omega⟩;rw [Int.toNat_natCast];obtain ⟨Res,hRes⟩:∃ Res,Res=grL R f F N (List.replicate R 0) b z (q2d b z) [q2B b R]:=⟨_,rfl⟩;rw [← hRes];generalize q2d b z=rho at *;refine ac0 Tryz.func26 Tryz.ntmps26 [.tmp 8,.tmp 9,.tmp 10] ?_;refine wk ?_;refine q3J (LeN (o:=32) (xs:=[(3,iv N),(12,.pt 5000 0 0),(14,.ow 73 none 0 1),(74,iv N),(75,iv 0)]) (kv:=[]) (kb:=[(73,some ⟨30,none,[uv (q2B b R:Nat)],false⟩)]) (m:=stL R f F (List.replicate R 0) b z rho) (fun _ h=>h) rfl (by simp [nmW]) ?_ ?_) ?_
 ·unfold stL
  try refine Zz ?_
  refine q1z (T:=30) (l:=(List.replicate R 0).map fun z:Nat=>uv z) ?_ clU (fun i hi=>?_) ?_
  ·try refine Zz ?_
   rw [List.map_replicate,g2]
   rfl
  ·unfold tnU at hi
   split at hi
   ·cases hi
   ·cases hi
    rfl
  ·rw [List.drop_zero]; exact List.take_of_length_le (by simp; omega)
 ·try simp -implicitDefEqProofs (disch:=omega) only [go_sem,Nat.reduceEqDiff,Nat.reduceAdd,↓reduceIte]
 refine q00 (fun i:GI=>i.k≤N∧(q0c i.x∧i.x.length=R)∧(q0c i.r∧i.r.length=R)∧(q0c i.p∧i.p.length=R)∧q05 i.rho∧i.l.length=i.k+1∧i.l[i.k]?=some (q2B i.r R)∧grL R f F (N-i.k) i.x i.r i.p i.rho i.l=Res) [3,12,74] [] Lk Lk (fun i:GI=>[(75,iv i.k),(14,.ow 1001 none 0 (i.k+1))]) (fun i=>[(1001,⟨30,none,i.l.map fun z:Nat=>uv z,false⟩)]) (fun i=>stH (stL R f F i.x i.r i.p i.rho)) (fun i=>N-i.k) ⟨0,List.replicate R 0,b,z,rho,[q2B b R]⟩ ⟨Nat.zero_le _,⟨q1d,by simp⟩,⟨hbf,g2⟩,⟨z2,by dsimp only; omega⟩,hrd,rfl,rfl,hRes.symm⟩ ?_ ?_
 ·refine LeW [(1001,some 73)] rfl rfl ?_ ?_ (by simp [q1o,q1Q,win]) ?_
  ·exact q2a
  ·exact qqw fun q=>q9g
  ·try refine Zz ?_
   rfl
 ·rintro ⟨k,x,r,p,rho,l⟩ ⟨i1,i2,i3,i4,i5,i6,i7,i8⟩;dsimp only at i1 i2 i3 i4 i5 i6 i7 i8 ⊢
  by_cases hlt:k < N
  rotate_left
  ·obtain rfl:k=N:=by omega
   rw [Nat.sub_self,grL] at i8;rw [← i8];have q:¬ (k:Int) < k:=by omega
   unfold stL stH;exact wk1 (x2 q i6) trivial
  have q:(k:Int) < N:=by omega
  rw [show N-k=N-(k+1)+1 by omega,grL] at i8;have hsz:=q5s i3.1 R Oq;have C7:=q7i (f:=q2B r R) Oq;have qk:(((q3e (q2B r R):Nat):Int) == 0)=decide (q2B r R=0):=by
   rw [Bool.eq_iff_iff,beq_iff_eq,decide_eq_true_iff];have:=qfY (f:=q2B r R) Oq;unfold q5V at this;omega
  have w1:((k+1:Nat):Int)-1=k:=by omega
  unfold stL stH
  by_cases hz0:q2B r R=0
  ·rw [if_pos hz0] at i8;rw [← i8];rw [decide_eq_true hz0] at qk;exact wk1 (x5 q i6 i7 qk w1) trivial
  rw [if_neg hz0] at i8;rw [decide_eq_false hz0] at qk;have stp:=stp x r p rho i2 i3 i4 i5;have sok:=sok x r p rho;rw [show stH (stL R f F x r p rho)=q0R h0 5000 ⟨115,some 17,[.ag (stL R f F x r p rho)],false⟩ from rfl] at stp;unfold stL at stp;generalize gS R f F x r p rho=g at *;obtain ⟨e,x',r',p',rho'⟩:=g;dsimp only at stp sok i8;refine wk1 (x5 q i6 i7 qk w1) ?_;refine qcV fun K hK=>?_;refine Zz ?_;refine jmF stp ?_ ?_
  ·exact Ow
  try refine Zz ?_
  refine hK _ _ ?_; clear hK K
  by_cases h2:e=0
  rotate_left
  ·rw [if_pos h2] at i8;rw [← i8];have q2:(e != 0)=true:=by simpa using h2
   exact wk1 q2 trivial
  subst h2;rw [if_neg (not_not_intro rfl)] at i8;obtain ⟨j2,j3,j4,j5⟩:=sok rfl;have C8:=qbc j3.1 Oq;rw [j3.2] at C8;rw [show stN R f F (0,x',r',p',rho')=stL R f F x' r' p' rho' from if_pos rfl];unfold stL;refine wk ?_;refine ⟨⟨k+1,x',r',p',rho',l ++ [q2B r' R]⟩,⟨by dsimp only; omega,j2,j3,j4,j5,by simp [i6],?_,i8⟩,by dsimp only; omega,?_⟩
  ·dsimp only;rw [List.getElem?_append_right (by omega),i6,Nat.sub_self]; rfl
  refine LeW [(1001,some 97)] rfl rfl ?_ ?_ (by simp [q1o,q1Q,win]) ?_
  ·exact Ow
  ·exact qqw fun q=>q9g
  ·try refine Zz ?_
   exact ⟨by omega,i6⟩
end
section
variable {n k:Nat} {f:Nat→Nat→Option Nat} {F:List Int × List Int × List Int × List Nat} {x r p x' r' p' l:List Nat} {rho rho' e:Int}
def qs6 (h:q2B r n=0):grL n f F (k+1) x r p rho l=(x,l,0):=by rw [grL,if_pos h]
def grL_e (h:q2B r n≠0) (he:e≠0) (hg:gS n f F x r p rho=gEr e):grL n f F (k+1) x r p rho l=([],[],e):=by
 rw [grL,if_neg h,hg];exact if_pos he
def qs7 (h:q2B r n≠0) (hg:gS n f F x r p rho=(0,x',r',p',rho')):grL n f F (k+1) x r p rho l=grL n f F k x' r' p' rho' (l ++ [q2B r' n]):=by
 rw [grL,if_neg h,hg];exact if_neg (not_not_intro rfl)
def qak {A B:Int} (h:B≠0):ACt 72 [pV A,pV B] (uv (fQ 0 A B:Nat)):=by
 have:=q6v (qbP (A:=A) (B:=B) (mode:=0));unfold qeu at this;rw [if_neg h] at this;exact this
end
section
variable {R C:Nat} {f:Nat→Nat→Option Nat} {F:List Int × List Int × List Int × List Nat} {b:List Nat} {steps:Int}
def qhO (hm:TOk f R C) (hR:R≤20) (hp:F.1.length≤1000000) (hc:F.2.1.length≤1000000) (hr:F.2.2.1.length≤1000000) (hv:F.2.2.2.length≤1000000) (hu:∀ x ∈ F.2.2.2,x < 18446744073709551616) (hb:∀ v ∈ b,v < 18446744073709551616) (hbl:b.length≤1000000):ACt 27 [pT R C f,q1L F,pF b,iv steps] (grP (grS R C f F b steps)):=by
 have C1:=q7G hm;have C2:=q7W hp hc hr hv hu;have C3:=q4d hb hbl;rw [show (F.1,F.2.1,F.2.2.1,F.2.2.2)=F from rfl] at C2;unfold grP grS grR;have cD:=fun (l:List Nat) h1 h2=>(qg1 (qlu (l:=l) hp hc hr hv hu h1 h2)).ac;rw [show (F.1,F.2.1,F.2.2.1,F.2.2.2)=F from rfl] at cD;have cA:R=C→∀ x:List Nat,q0c x→x.length=R→ACt 40 [pT R R f,pF x] (erR (if ∀ v ∈ q2L f x R R,q0J v then (q2L f x R R,0) else ([],233))):=fun h x h1 h2=>by subst h; exact qc1 hm h1 h2 hR
 unfold erR at cA;unfold pT q2M q1L at *;generalize q2e F=e at *
 by_cases h1:R=C
 rotate_left
 ·rw [if_pos h1,if_pos (by decide)];refine ac0 Tryz.func27 Tryz.ntmps27 [.tmp 8,.tmp 9,.tmp 10] ?_;exact wk trivial
 subst h1;rw [if_neg (not_not_intro rfl)]
 by_cases h2:e=0
 rotate_left
 ·rw [if_pos h2,if_pos h2];have q2:(e != 0)=true:=by simpa using h2
  refine ac0 Tryz.func27 Tryz.ntmps27 [.tmp 8,.tmp 9,.tmp 10] ?_;exact wk1 q2 trivial
 subst h2;rw [if_neg (not_not_intro rfl)]
 by_cases h3:F.1.length=R
 rotate_left
 ·rw [if_pos h3,if_pos (by decide)];have q3:((F.1.length:Int) != (R:Int))=true:=by simp; omega
  refine ac0 Tryz.func27 Tryz.ntmps27 [.tmp 8,.tmp 9,.tmp 10] ?_;exact wk1 q3 trivial
 rw [if_neg (not_not_intro h3)];have q3:((F.1.length:Int) != (R:Int))=false:=by simp; omega
 by_cases h4:b.length=R
 rotate_left
 ·rw [if_pos h4,if_pos (by decide)];have q4:((b.length:Int) != (R:Int))=true:=by simp; omega
  refine ac0 Tryz.func27 Tryz.ntmps27 [.tmp 8,.tmp 9,.tmp 10] ?_;exact wk1 (x2 q3 q4) trivial
 rw [if_neg (not_not_intro h4)];have q4:((b.length:Int) != (R:Int))=false:=by simp; omega
 by_cases h5:∀ v ∈ b,q0J v
 rotate_left
 ·rw [if_pos h5,if_pos (by decide)];rw [decide_eq_false h5] at C3;refine ac0 Tryz.func27 Tryz.ntmps27 [.tmp 8,.tmp 9,.tmp 10] ?_;exact wk1 (x2 q3 q4) trivial
 rw [if_neg (not_not_intro h5)];rw [decide_eq_true h5] at C3
 by_cases h6:steps < 0
 ·rw [if_pos (Or.inl h6:steps < 0∨64 < steps),if_pos (by decide)];refine ac0 Tryz.func27 Tryz.ntmps27 [.tmp 8,.tmp 9,.tmp 10] ?_;exact wk1 (x3 q3 q4 h6) trivial
 by_cases h7:64 < steps
 ·rw [if_pos (Or.inr h7:steps < 0∨64 < steps),if_pos (by decide)];refine ac0 Tryz.func27 Tryz.ntmps27 [.tmp 8,.tmp 9,.tmp 10] ?_;exact wk1 (x4 q3 q4 h6 h7) trivial
 rw [if_neg (by omega:¬ (steps < 0∨64 < steps)),if_neg (not_not_intro rfl)];have hbf:q0c b:=fun v hv=>⟨hb v hv,h5 v hv⟩;obtain ⟨N,rfl⟩:∃ N:Nat,steps=N:=⟨steps.toNat,by omega⟩;rw [Int.toNat_natCast];refine ac0 Tryz.func27 Tryz.ntmps27 [.tmp 8,.tmp 9,.tmp 10] ?_;refine wk1 (x4 q3 q4 h6 h7) ?_;refine q3J (LeM [] rfl rfl (xs:=[(3,iv N),(4,.pt 4 0 0),(5,.pt 5 0 0),(14,pF (List.replicate R 0)),(15,pF b)]) (kv:=[]) (bs:=[(4,⟨52,some 5,[.ag [iv R,iv R,pI (tM f R R).1,pI (tM f R R).2.1,pF (tM f R R).2.2]],false⟩),(5,⟨27,some 4,[.ag [pI F.1,pI F.2.1,pI F.2.2.1,pF F.2.2.2]],false⟩)]) (kb:=[]) ?_) ?_
 ·try refine Zz ?_
  refine ⟨q1z (T:=30) (l:=(List.replicate R 0).map fun z:Nat=>uv z) ?_ clU (fun i hi=>by cases hi; rfl) ?_,q1z (T:=30) (l:=b.map fun z:Nat=>uv z) ?_ clU (fun i hi=>by cases hi; rfl) ?_⟩
  ·try refine Zz ?_
   rw [List.map_replicate]
   rfl
  ·rw [List.drop_zero]; exact List.take_of_length_le (by simp)
  ·try simp -implicitDefEqProofs (disch:=omega) only [go_sem,Nat.reduceEqDiff,Nat.reduceAdd,↓reduceIte]
  ·rw [List.drop_zero]; exact List.take_of_length_le (by simp)
 have C4:=q6u hbf Oq;rw [h4] at C4;have C5:=cD b hb Oq;have hdf:=@q9D F b hr hu;generalize dfE F b=D at *;obtain ⟨z,e⟩:=D;dsimp only at C5 hdf ⊢
 by_cases h8:e=0
 rotate_left
 ·rw [if_pos h8];have q8:(e != 0)=true:=by simpa using h8
  exact wk1 q8 trivial
 subst h8;rw [if_neg (not_not_intro rfl)];obtain ⟨z1,z2⟩:=hdf rfl;have C6:=q6x hbf z2 Oq Oq;have hrd:=q3k hbf z2 Oq;obtain ⟨Res,hRes⟩:∃ Res,Res=grL R f F N (List.replicate R 0) b z (q2d b z) [q2B b R]:=⟨_,rfl⟩;rw [← hRes];generalize q2d b z=rho at *;refine wk ?_;refine q0A (fun i:GI=>i.k≤N∧(q0c i.x∧i.x.length=R)∧(q0c i.r∧i.r.length=R)∧(q0c i.p∧i.p.length=R)∧q05 i.rho∧i.l.length=i.k+1∧grL R f F (N-i.k) i.x i.r i.p i.rho i.l=Res) [3,4,5] [4,5] Lk Lk (fun i:GI=>[(21,iv i.k),(14,pF i.x),(15,pF i.r),(19,pF i.p),(20,.pt 1002 0 0),(16,.ow 1001 none 0 (i.k+1))]) (fun i=>[(1001,⟨30,none,i.l.map fun z:Nat=>uv z,false⟩),(1002,⟨74,some 4,[pV i.rho],false⟩)]) (fun i=>N-i.k) ⟨0,List.replicate R 0,b,z,rho,[q2B b R]⟩ ⟨Nat.zero_le _,⟨q1d,by simp⟩,⟨hbf,h4⟩,⟨z2,by dsimp only; omega⟩,hrd,rfl,hRes.symm⟩ ?_ ?_
 ·refine LeM [(1001,some 77),(1002,some 20)] rfl rfl ?_;refine Zz ?_
  rfl
 ·rintro ⟨k,x,r,p,rho,l⟩ ⟨i1,⟨hx1,hx2⟩,⟨r1,r2⟩,⟨p1,p2⟩,i5,i6,i8⟩;dsimp only at i1 hx1 hx2 r1 r2 p1 p2 i5 i6 i8 ⊢
  by_cases hlt:k < N
  rotate_left
  ·obtain rfl:k=N:=by omega
   rw [Nat.sub_self,grL] at i8;rw [← i8];have q:¬ (k:Int) < k:=by omega
   exact wk1 (x2 q i6) trivial
  have q:(k:Int) < N:=by omega
  rw [show N-k=N-(k+1)+1 by omega] at i8;have hsz:=q5s r1 R Oq;have C7:=q6u r1 Oq;rw [r2] at C7;have C8:=q68 (x:=q2B r R)
  by_cases hz0:q2B r R=0
  ·rw [qs6 hz0] at i8;rw [← i8];rw [decide_eq_true (.inl hz0)] at C8;exact wk1 (x2 q i6) trivial
  rw [decide_eq_false (by omega)] at C8;have C9:=q4Y (V:=rho);have C10:=cA rfl p p1 p2;have hq2:=qaz (f:=f) (x:=p) (n:=R) (i:=R);have hqu:=qkU (f:=f) (x:=p) (n:=R) (i:=R);obtain ⟨g,hg⟩:∃ g,g=gS R f F x r p rho:=⟨_,rfl⟩;have ge:=fun (e:Int) (he:e≠0) (h:g=gEr e)=>grL_e (k:=N-(k+1)) (l:=l) hz0 he (hg.symm.trans h);have gs:=fun (x' r' p':List Nat) (rho':Int) (h:g=(0,x',r',p',rho'))=>qs7 (k:=N-(k+1)) (l:=l) hz0 (hg.symm.trans h);unfold gS at hg;generalize q2L f p R R=qq at *
  by_cases a1:rho≤0
  ·have q1:rho.sign≤0:=by
    rcases Int.lt_or_eq_of_le a1 with h | rfl
    ·rw [Int.sign_eq_neg_one_of_neg h]; decide
    ·decide
   rw [if_pos a1] at hg;rw [ge _ (by decide) hg] at i8;rw [← i8];exact wk1 (x2 q q1) trivial
  have q1:¬ rho.sign≤0:=by rw [Int.sign_eq_one_of_pos (by omega)]; decide
  rw [if_neg a1] at hg
  by_cases a2:∀ v ∈ qq,q0J v
  rotate_left
  ·rw [if_neg a2] at hg C10;rw [ge _ (by decide) hg] at i8;rw [← i8];dsimp only at C10;exact wk1 (x2 q q1) trivial
  rw [if_pos a2] at hg C10;dsimp only at C10;have hqf:q0c qq:=fun v hv=>⟨hqu v hv,a2 v hv⟩;have C11:=q6x p1 hqf Oq Oq;have hsd:=q3k p1 hqf Oq;unfold gS2 at hg;generalize q2d p qq=sg at *;have C12:=q4Y (V:=sg)
  by_cases a3:sg≤0
  ·have q3:sg.sign≤0:=by
    rcases Int.lt_or_eq_of_le a3 with h | rfl
    ·rw [Int.sign_eq_neg_one_of_neg h]; decide
    ·decide
   rw [if_pos a3] at hg;rw [ge _ (by decide) hg] at i8;rw [← i8];exact wk1 (x3 q q1 q3) trivial
  have q3:¬ sg.sign≤0:=by rw [Int.sign_eq_one_of_pos (by omega)]; decide
  rw [if_neg a3] at hg;have C13:=qak (A:=rho) (B:=sg) Oq;have hal:=q6L (mode:=0) (a:=rho) (b:=sg) Oq;generalize fQ 0 rho sg=al at *;have C14:=q1i hal
  by_cases a4:q0J al
  rotate_left
  ·rw [if_neg a4] at hg;rw [decide_eq_false a4] at C14;rw [ge _ (by decide) hg] at i8;rw [← i8];exact wk1 (x3 q q1 q3) trivial
  rw [if_pos a4] at hg;rw [decide_eq_true a4] at C14;obtain ⟨n1,n2,n3⟩:=q9z a4 hal;have C15:=qmm hal a4;have C16:=q6w hx1 p1 a4 hal Oq Oq;have C17:=q6w r1 hqf n2 n3 Oq Oq;rw [hx2] at C16;rw [r2] at C17;unfold gS3 at hg;have hxu:=q8d (x:=x) (t:=al) (y:=p) (i:=R);have hru:=q8d (x:=r) (t:=q5P al) (y:=qq) (i:=R);have hxl:=q2D (x:=x) (t:=al) (y:=p) (i:=R);have hrl:=q2D (x:=r) (t:=q5P al) (y:=qq) (i:=R);unfold lnZ at C16 C17;generalize lnF x al p R=x' at *;generalize lnF r (q5P al) qq R=r' at *
  by_cases a5:∀ v ∈ x',q0J v
  rotate_left
  ·rw [if_neg a5] at hg C16;rw [ge _ (by decide) hg] at i8;rw [← i8]
   by_cases a6:∀ v ∈ r',q0J v
   ·rw [if_pos a6] at C17;exact wk1 (x3 q q1 q3) trivial
   ·rw [if_neg a6] at C17;exact wk1 (x3 q q1 q3) trivial
  rw [if_pos a5] at hg C16
  by_cases a6:∀ v ∈ r',q0J v
  rotate_left
  ·rw [if_neg a6] at hg C17;rw [ge _ (by decide) hg] at i8;rw [← i8];exact wk1 (x3 q q1 q3) trivial
  rw [if_pos a6] at hg C17;have hr1f:q0c r':=fun v hv=>⟨hru v hv,a6 v hv⟩;have C18:=cD r' hru Oq;have C19:=q6u hr1f Oq;rw [hrl] at C19;have hdf:=@q9D F r' hr hu;unfold gS4 at hg;generalize dfE F r'=D at *;obtain ⟨z',e⟩:=D;dsimp only at C18 hdf hg
  by_cases a7:e=0
  rotate_left
  ·rw [if_pos a7] at hg;have q7:(e != 0)=true:=by simpa using a7
   rw [ge _ a7 hg] at i8;rw [← i8];exact wk1 (x5 q q1 q3 q7 i6) trivial
  subst a7;rw [if_neg (not_not_intro rfl)] at hg;obtain ⟨hz1,hz2⟩:=hdf rfl;have C20:=q6x hr1f hz2 Oq Oq;have htd:=q3k hr1f hz2 Oq;generalize q2d r' z'=ta at *;have C21:=qak (A:=ta) (B:=rho) Oq;have hbe:=q6L (mode:=0) (a:=ta) (b:=rho) Oq;generalize fQ 0 ta rho=be at *;have C22:=q1i hbe
  by_cases a8:q0J be
  rotate_left
  ·rw [if_neg a8] at hg;rw [decide_eq_false a8] at C22;rw [ge _ (by decide) hg] at i8;rw [← i8];exact wk1 (x4 q q1 q3 i6) trivial
  rw [if_pos a8] at hg;rw [decide_eq_true a8] at C22;have C23:=q6w hz2 p1 a8 hbe Oq Oq;rw [show z'.length=R by omega] at C23;unfold gS5 at hg;have hpu:=q8d (x:=z') (t:=be) (y:=p) (i:=R);have hpl:=q2D (x:=z') (t:=be) (y:=p) (i:=R);unfold lnZ at C23;generalize lnF z' be p R=p' at *
  by_cases a9:∀ v ∈ p',q0J v
  rotate_left
  ·rw [if_neg a9] at hg C23;rw [ge _ (by decide) hg] at i8;rw [← i8];exact wk1 (x4 q q1 q3 i6) trivial
  rw [if_pos a9] at hg C23;rw [gs _ _ _ _ hg] at i8;refine wk1 (x4 q q1 q3 i6) ?_;refine ⟨⟨k+1,x',r',p',ta,l ++ [q2B r' R]⟩,⟨by dsimp only; omega,⟨fun v hv=>⟨hxu v hv,a5 v hv⟩,hxl⟩,⟨hr1f,hrl⟩,⟨fun v hv=>⟨hpu v hv,a9 v hv⟩,hpl⟩,htd,by simp [i6],i8⟩,by dsimp only; omega,?_⟩;refine LeM [(1001,some 153)] rfl rfl ?_;refine Zz ?_;omega
end
def qo5 {h:Hp} {l:List Int}:q2m h (pI l)=some (pI l,[]):=by
 unfold q2m pI;exact if_pos trivial
def qga {h:Hp}:clo h .un=some (.un,[]):=by
 unfold clo q2m;exact if_pos trivial
noncomputable def lfS (f:Nat→Nat→Option Nat) (l:List Int) (n:Nat):List Int × List Int × List Int × List Nat:=q6E f l (q27 (adT (qck f l n)) n n) n
def qfU {F:Nat→Nat→Option Nat} {n:Nat} {l:List Int} (h:TOk F n n) (hn:n≤100) (hp:q2R l n):ACt 41 [pT n n F,pI l] (.tu [q1L (lfS F l n),.un,.un]):=by
 refine qkH (ids:=[5000]) (qsY h hn hp) ?_;unfold lfS;generalize q6E _ _ _ _=res;unfold q2H q2H q2H q2H;simp only [qga,Option.bind_some,Option.map_some];unfold qnF clo q2Q q2Q q2Q q2Q q2Q;simp only [qo5,qcC,Option.bind_some,Option.map_some]
 rfl
def qsT {f:Nat→Nat→Option Nat} {l:List Int} {N:Nat} (hl:l.length=N) (hN:N≤100):FSh (lfS f l N):=by
 unfold lfS;have hM:∀ j,((q27 (adT (qck f l N)) N N).getD j []).length≤N+1:=fun j=>by
  unfold q27;rw [List.getD_eq_getElem?_getD,List.getElem?_map]
  rcases Nat.lt_or_ge j N with hj | hj
  ·rw [List.getElem?_range hj]; exact qbz
  ·rw [List.getElem?_eq_none (by simpa using hj)]; simp
 generalize q27 (adT (qck f l N)) N N=cols at *;unfold q6E;cases hq:lcM f l cols N with
 | none=>exact ⟨by simp,by simp,by simp,by simp,by simp⟩
 | some q =>
  obtain ⟨a1,a2,a3,a4⟩:=qkw hM N q hq;have:N*(N+1)≤100*101:=Nat.mul_le_mul hN Oq;exact ⟨by dsimp only; omega,by dsimp only; omega,by dsimp only; omega,by dsimp only; omega,a4⟩
def qc6 {raw:List Nat} {k st:Int} {n:Nat} (hr:raw.length≤9223372036854775807) (hn:n≤1000000) (h1 : -1000000≤k) (h2:k≤1000000) (h3 : -9223372036854775808≤st) (h4:st≤9223372036854775807) :
  ACt 31 [pF raw,iv k,iv n,iv st] (pF (q8G raw k (q07 st 4) n)):=by
 have hl:(q8G raw k (q07 st 4) n).length=n:=by simp [q8G]
 have h:=q6b (k:=k) (n:=n) hr hn h1 h2 h3 h4;rw [← hl] at h;rw [hl] at h;refine qhI (ids:=[5000]) h ?_;unfold q2H q2H clo;dsimp only;have:=qcC (xs:=q8G raw k (q07 st 4) n);rw [hl] at this;rw [this]
 rfl
section
variable {f:Nat→Nat→Option Nat} {n:Nat}
def dgT (f:Nat→Nat→Option Nat):Nat→Nat→Option Nat:=fun j i=>if i=j then f j i else none
def qtS (h:TOk f n n):TOk (dgT f) n n:=by
 refine ⟨h.r,h.c,h.m,fun j i x hj hi hx=>?_,fun j i x hj hi hx=>?_⟩ <;> unfold dgT at hx <;> split at hx
 ·exact h.u j i x hj hi hx
 ·cases hx
 ·exact h.v j i x hj hi hx
 ·cases hx
def dgP (f:Nat→Nat→Option Nat) (n j t:Nat):List (Nat × Nat):=((tZ f j n).take t).filter fun e=>e.1 == j
def qoQ {j:Nat}:dgP f n j (tZ f j n).length=tZ (dgT f) j n:=by
 unfold dgP;rw [List.take_length]
 induction n with
 | zero=>rfl
 | succ i ih =>
  rw [qqh,qqh,List.filter_append,ih]
  congr 1
  unfold dgT
  by_cases h:i=j
  ·subst h;rw [if_pos rfl];cases f i i <;> simp
  ·rw [if_neg h];cases f j i <;> simp [h]
def dgP_s {j t i v:Nat} (h:(tZ f j n)[t]?=some (i,v)):dgP f n j (t+1)=dgP f n j t ++ if i=j then [(i,v)] else []:=by
 unfold dgP;rw [q2q h,List.filter_append]
 congr 1
 by_cases hi:i=j <;> simp [hi]
end
noncomputable def qcl (raw:List Nat) (N:Nat) (st:Int):Nat→Nat→Option Nat:=dfF (gF raw N (q07 (q07 st 3:Nat) 4)) N
def q9v {raw:List Nat} {N:Nat} {st:Int} (hN:N≤100):TOk (qcl raw N st) N N:=qtU hN (by unfold q07; omega)
def q1y {T id n:Nat} {h h':Hp} {l:List PV} (h1:h id=some ⟨T,none,l,false⟩) (hc:ClL l) (h2:h' id=none) (hn:l.length=n):LeV (q1Q []) h h' (.ow id none 0 n) (.sl none l):=q1z (T:=T) (l:=l) h1 hc (fun i hi=>by
 have hi:some i=some id:=hi;cases hi;exact h2) (by rw [List.drop_zero]; exact List.take_of_length_le (by omega))
noncomputable def qpl (raw:List Nat) (N:Nat) (st:Int) (w:Bool):List Int × List Int × List Int × List Nat:=lfS (if w then qcl raw N st else dgT (qcl raw N st)) (q4z raw N) N
def q9w {raw:List Nat} {n st:Int} {w:Bool} (hr:raw.length≤9223372036854775807) (h1 : -9223372036854775808≤n) (h2:n≤9223372036854775807) (h3 : -9223372036854775808≤st) (h4:st≤9223372036854775807) :
  ACt 24 [pF raw,iv n,iv st,bv w] (.tu [pT (q07 n 5) (q07 n 5) (qcl raw (q07 n 5) st),q1L (qpl raw (q07 n 5) st w),pF (q8G raw 30 (q07 st 4) (q07 n 5))]):=by
 have cM:=q30 (a:=n) (n:=5) h1 h2 Oq Oq;have hN:q07 n 5 < 5:=by unfold q07; omega
 generalize q07 n 5=N at *;have hm:TOk (qcl raw N st) N N:=q9v Oq;have cD:=q6Q (raw:=raw) (n:=N) hr Oq h3 h4;rw [show dfF (gF raw N (q07 (q07 st 3:Nat) 4)) N=qcl raw N st from rfl] at cD;have cO:=qiH (raw:=raw) (N:=N) hr Oq;have hpm:=qiI raw N;have hll:=q6B raw N;have hp:q2R (q4z raw N) N:=⟨by omega,fun x hx=>by have:=hpm.1 x hx; omega,hpm.2⟩;have cV:=qc6 (k:=30) (n:=N) (st:=st) hr Oq Oq Oq h3 h4;unfold qpl;have hmd:=qtS hm;generalize qcl raw N st=f at *;cases w with
 | true =>
  rw [if_pos rfl];have cL:=qfU hm Oq hp;unfold pT q2M q1L at *;refine ac0 Tryz.func24 Tryz.ntmps24 [.cell 8 52,.cell 9 27,.tmp 10] ?_;exact wk trivial
 | false =>
  rw [if_neg (by decide)];have cL:=qfU hmd Oq hp;have hml:=q18 (f:=f) (R:=N) N;have hg:=fun j hj=>q2K (f:=f) (R:=N) (C:=N) (j:=j) hj;have hix:=fun j k hj h1 h2=>q9b (f:=f) (R:=N) (C:=N) (j:=j) (k:=k) hj h1 h2;have hos:=fun j=>qhg (f:=f) (R:=N) (j:=j);obtain ⟨o,ho⟩:∃ o,o=tO f N:=⟨_,rfl⟩;unfold pT at *;unfold q2M q1L at *;have hdl:=fun j=>q18 (f:=dgT f) (R:=N) j;have hds:=fun j=>show tM (dgT f) N (j+1)=((tM (dgT f) N j).1 ++ [((tC (dgT f) j (tM (dgT f) N j).2 N).1.length:Int)],tC (dgT f) j (tM (dgT f) N j).2 N) from rfl;have hdc:=fun j=>q9e (f:=dgT f) (j:=j) (p:=(tM (dgT f) N j).2) N;have hd0:tM (dgT f) N 0=([0],[],[]):=rfl;obtain ⟨P,hP⟩:∃ P,P=dgP f N:=⟨_,rfl⟩;have hPa:=fun j=>qoQ (f:=f) (n:=N) (j:=j);have hPs:=fun j t i v h=>dgP_s (f:=f) (n:=N) (j:=j) (t:=t) (i:=i) (v:=v) h;have hP0:∀ j,P j 0=[]:=fun j=>by rw [hP]; rfl
  rw [← ho] at hg hix hos;rw [← hP] at hPa hPs;have h5:=hm.m;have hPl:∀ j t,(P j t).length≤N:=fun j t=>by
   rw [hP];unfold dgP;refine Nat.le_trans (List.length_filter_le _ _) (Nat.le_trans (List.length_take_le' _ _) ?_);unfold tZ;exact Nat.le_trans (List.length_filterMap_le _ _) (by simp)
  have hLn:∀ j,(tZ f j N).length≤N:=fun j=>by unfold tZ; exact Nat.le_trans (List.length_filterMap_le _ _) (by simp)
  generalize tM (dgT f) N=G at *;generalize (tM f N N).1=ms at *;generalize (tM f N N).2.1=ix at *;generalize (tM f N N).2.2=vl at *;obtain ⟨m1,m2,m3⟩:=hml;refine ac0 Tryz.func24 Tryz.ntmps24 [.cell 8 52,.cell 9 27,.tmp 10] ?_;refine wk ?_;refine q0A (fun j=>j≤N) [0,1,2,8,9,10,11,12] [8,9,11] Lk Lk (fun j:Nat=>[(13,iv j)]) (fun j=>[(12,⟨52,some 5,[.ag [iv N,iv N,.ow 1001 none 0 (j+1),.ow 1002 none 0 (G j).2.1.length,.ow 1003 none 0 (G j).2.1.length]],false⟩),(1001,⟨3,none,(G j).1.map fun z=>iv z,false⟩),(1002,⟨3,none,(G j).2.1.map fun z=>iv z,false⟩),(1003,⟨30,none,(G j).2.2.map fun z:Nat=>uv z,false⟩)]) (fun j=>N-j) 0 (Nat.zero_le _) ?_ ?_
  ·refine LeM [(1001,some 29),(1002,none),(1003,none)] rfl rfl ?_;refine Zz ?_;rw [hd0];exact ⟨rfl,rfl,rfl,rfl,rfl⟩
  ·intro J hJ;have l1:=hdl J;have hJN:J*N≤5*5:=Nat.mul_le_mul Oq Oq
   by_cases hlt:J < N
   ·have q:(J:Int) < N:=by omega
    have g1:=hg J Oq;have g2:=hg (J+1) Oq;have oJ:=hos J;have ww:IntKind.i64.wrap ((J:Int)+1)=((J+1:Nat):Int):=by rw [i64_in (by omega) (by omega)]; omega
    have hZ:=fun k v=>q3z (f:=f) (j:=J) (i:=N) (k:=k) (x:=v);have hixJ:=hix J;have hPJ:=hPs J;have hPaJ:=hPa J;have hLJ:=hLn J;have hPlJ:=hPl J;have hPJ0:=hP0 J;have es:=hds J;rw [hdc J,← hPaJ] at es;clear hds hdc hPa hPs hix hg hos;generalize tZ f J N=L at *;generalize P J=Q at *;refine wk1 (x2 q g1) ?_;refine q0A (fun t=>t≤L.length) [0,1,2,8,9,10,11,12,13] [8,9,11,1001] Lk Lk (fun t:Nat=>[(14,iv ((o J+t:Nat):Int))]) (fun t=>[(12,⟨52,some 5,[.ag [iv N,iv N,.ow 1001 none 0 (J+1),.ow 1002 none 0 ((G J).2.1.length+(Q t).length),.ow 1003 none 0 ((G J).2.1.length+(Q t).length)]],false⟩),(1002,⟨3,none,((G J).2.1 ++ (Q t).map fun e=>(e.1:Int)).map fun z=>iv z,false⟩),(1003,⟨30,none,((G J).2.2 ++ (Q t).map fun e=>e.2).map fun z:Nat=>uv z,false⟩)]) (fun t=>L.length-t) 0 (Nat.zero_le _) ?_ ?_
    ·refine LeM [] rfl rfl ?_;refine Zz ?_;rw [hPJ0];simp
    ·intro t ht;have hQl:=hPlJ t
     by_cases hlt2:t < L.length
     ·obtain ⟨⟨i,v⟩,e1,e2,e3⟩:=hixJ (o J+t) Oq Oq Oq;rw [Nat.add_sub_cancel_left] at e1;dsimp only at e2 e3;have hob:=(List.getElem?_eq_some_iff.1 e2).1;have wt:IntKind.i64.wrap (((o J+t:Nat):Int)+1)=((o J+(t+1):Nat):Int):=by rw [i64_in (by omega) (by omega)]; omega
      have hq:((o J+t:Nat):Int) < ((o (J+1):Nat):Int):=by omega
      have eQ:=hPJ t i v e1
      by_cases hiJ:i=J
      ·subst hiJ;rw [if_pos rfl] at eQ;refine wk1 (x6 g1 g2 ww hq e2 (x2 e3 wt)) ?_;refine ⟨t+1,hlt2,by omega,?_⟩;rw [eQ];refine LeM [(1002,some 62),(1003,some 71)] rfl rfl ?_;refine Zz ?_;exact ⟨⟨by omega,by omega⟩,by simp,by simp⟩
      ·rw [if_neg hiJ,List.append_nil] at eQ;have qi:((i:Int) == (J:Int))=false:=by simp; omega
       refine wk1 (x6 g1 g2 ww hq e2 (x3 e3 wt qi)) ?_;refine ⟨t+1,hlt2,by omega,?_⟩;rw [eQ];refine LeM [] rfl rfl ?_;exact Zy
     ·obtain rfl:t=L.length:=by omega
      have hq:¬ ((o J+L.length:Nat):Int) < ((o (J+1):Nat):Int):=by omega
      refine wk1 (x3 g2 ww hq) ?_;refine ⟨J+1,hlt,by omega,?_⟩;rw [es];refine LeM [(1001,some 80)] rfl rfl ?_;refine Zz ?_;exact l1.1
   ·obtain rfl:J=N:=by omega
    have q:¬ (J:Int) < J:=by omega
    refine wk1 q ?_;refine q3J (LeM [] rfl rfl (xs:=[(0,pF raw),(1,iv J),(2,iv st),(8,.pt 8 0 0),(9,.pt 9 0 0),(11,.pt 11 0 0),(12,.pt 12 0 0)]) (kv:=[]) (bs:=[(8,⟨52,some 5,[.un],false⟩),(9,⟨27,some 4,[.un],false⟩),(11,⟨52,some 5,[.ag [iv J,iv J,pI ms,pI ix,pF vl]],false⟩),(12,⟨52,some 5,[.ag [iv J,iv J,pI (G J).1,pI (G J).2.1,pF (G J).2.2]],false⟩)]) (kb:=[]) ?_) ?_
    ·try refine Zz ?_
     exact ⟨q1y rfl clI rfl (by rw [List.length_map]; exact l1.1),q1y rfl clI rfl (by rw [List.length_map]),q1y rfl clU rfl (by rw [List.length_map]; exact l1.2.1.symm)⟩
    exact wk trivial
def qij:flz 0=0:=by unfold flz; rw [Int.zero_mul]; rfl
def qiN {u x:Int} (hu:u.natAbs≤9) (hx:x.natAbs≤9):q1M (flz u) (flz x)=u*x*(2:Int) ^ 65536:=by
 unfold q1M;rw [q0j (q8r Oq),q0j (q8r Oq),qiP rfl]
 ·rfl
 ·have:(u*x).natAbs≤81:=by rw [Int.natAbs_mul]; exact Nat.mul_le_mul hu hx
  have h:=q0M (n:=(u*x).natAbs) (k:=7) (Nat.lt_of_le_of_lt this Oq);omega
def q2y {u x:Int} {K:Nat} (hK:K=65536) (hu:u.natAbs≤9) (hx:x.natAbs≤9):q1M (flz u) (flz x)=u*x*(2:Int) ^ K:=by rw [hK]; exact qiN hu hx
def q7H (V:Int):q0o [V]=V:=by have:=q1A [] V; rw [List.nil_append,qbB] at this; omega
section
variable {f:Fac} {z:Nat→Int}
end
end Go.Proofs.YtbcmhlhgljoolaaGreatDoor
namespace Go.Sp
open Go Go.E
def qrT {z:Int} {K:Nat}:decide (z*(2:Int) ^ K < 0)=decide (z < 0):=by
 have hp:=q0U K;rw [decide_eq_decide]
 constructor
 ·intro h
  rcases Int.lt_or_le z 0 with h1 | h1
  ·exact h1
  ·have:=Int.mul_nonneg h1 (Int.le_of_lt hp); omega
 ·intro h; exact Int.mul_neg_of_neg_of_pos h hp
def rF_K {z y:Int} {neg:Bool} (K:Nat) (hz:z≠0) (hy:y≠0):rF 0 neg (z*(2:Int) ^ K).natAbs (y*(2:Int) ^ K).natAbs=rF 0 neg z.natAbs y.natAbs:=by
 rw [q0K,q0K];exact q56 Oq Oq (q0G K)
def fQ_K {z y:Int} (K:Nat) (hz:z≠0) (hy:y≠0):fQ 0 (z*(2:Int) ^ K) (y*(2:Int) ^ K)=rF 0 (decide (z < 0) != decide (y < 0)) z.natAbs y.natAbs:=by
 have hp:=q0U K;unfold fQ;rw [if_neg (Int.mul_ne_zero hz (Int.ne_of_gt hp)),qrT,qrT,rF_K K hz hy]
end Go.Sp
namespace Go.Proofs.YtbcmhlhgljoolaaGreatDoor
open Go Go.E Go.Sp
end Go.Proofs.YtbcmhlhgljoolaaGreatDoor
namespace Go.Sp
open Go Go.E Go.Proofs.YtbcmhlhgljoolaaGreatDoor
def flz8:flz 8=4620693217682128896:=by
 have h1:flz 8=fQ 0 (8*(2:Int) ^ 65536) (1*(2:Int) ^ 65536):=by
  have:=qbo (x:=8) (y:=1) Oq Oq;rw [Int.mul_one] at this;exact this.symm
 rw [h1,fQ_K 65536 (by omega) (by omega)]
 show rF 0 false 8 1=4620693217682128896
 kernel_rfl
def q4m {z:Int} {K:Nat} (hK:K=65536) (h:z.natAbs≤9):ofZ (flz z)=z*(2:Int) ^ K:=by rw [hK]; exact q0j (q8r (by omega))
def qlI {z:Int} {K:Nat} (hK:K=65536):fR 0 (z*(2:Int) ^ K)=flz z:=by rw [hK]; rfl
def qgI {x y:Int} {K:Nat} (hK:K=65536) (hy:y≠0) (hx:x.natAbs≤9):fQ 0 (x*y*(2:Int) ^ K) (y*(2:Int) ^ K)=flz x:=by rw [hK]; exact qbo hy (by omega)
def qdJ:q0J 0:=by unfold q0J; simp
def qiJ:ofZ 0=0:=by have:=q4m (z:=0) rfl (by omega); rw [qij,Int.zero_mul] at this; exact this
def qbv {a b:Nat}:q2d [a] [b]=q1M a b:=by
 unfold q2d prL;simp only [List.length_cons,List.length_nil,Nat.zero_add,List.range_succ,List.range_zero,List.nil_append,List.map_cons,List.map_nil,List.getD_cons_zero];exact q7H _
def qnW {a b t:Nat}:lnF [a] t [b] 1=[fR 0 (ofZ a+q1M t b)]:=rfl
def qlT {c:Nat} (hc:q0J c) (h0:0 < ofZ c):q2e ([0],[0,1],[0],[c])=0:=by
 have p1:q2R [0] ([0]:List Int).length:=⟨rfl,fun x hx=>by simp at hx; subst hx; exact ⟨by omega,by simp⟩,by simp⟩;have p2:FStr ([0]:List Int).length [0,1] [0]:=⟨rfl,rfl,fun j hj=>by
  obtain rfl:j=0:=by simp at hj; omega
  refine ⟨0,1,rfl,rfl,by omega,by simp,⟨rfl,fun z hz=>?_,fun i x y hx hy=>?_⟩⟩
  ·cases hz; simp
  ·cases hy⟩
 have p3:FDg ([0]:List Int).length [0,1] [c]:=fun j hj a x ha hx=>by
  obtain rfl:j=0:=by simp at hj; omega
  simp at ha;obtain rfl:a=0:=by omega
  cases hx; exact h0
 unfold q2e;dsimp only;rw [if_neg (by simp),if_neg (not_not_intro p1),if_neg (by simp),if_neg (not_not_intro p2),if_pos ⟨fun x hx=>by simp at hx; subst hx; exact hc,p3⟩]
def qtV {c b y z:Nat} (hc:q0J c) (h0:0 < ofZ c) (hb:q0J b) (hy:fQ 0 (ofZ b) (ofZ c)=y) (hz:fQ 0 (ofZ y) (ofZ c)=z) (h1:q0J y) (h2:q0J z):dfE ([0],[0,1],[0],[c]) [b]=([z],0):=by
 unfold dfE;have hs:q39 (q2e ([0],[0,1],[0],[c])) ([0]:List Int).length [b]=0:=by
  rw [qlT hc h0];exact qeP rfl fun x hx=>by simp at hx; subst hx; exact hb
 dsimp only;rw [if_neg (not_not_intro hs)];have e1:gaS [b] [0] 1=[b]:=rfl;have e2:q3T ⟨[0],[0,1],[0],[c]⟩ 1 1=[[c]]:=rfl;have e3:trS [[c]] 1 1=[[c]]:=rfl;rw [show ([0]:List Int).length=1 from rfl,e1,e2,e3];have v1:loV [[c]] [b] (List.replicate 1 0) 0=y:=by
  unfold loV;rw [← hy]
  congr 1
  exact q7H _
 have e4:loF [[c]] [b] 1 0 (List.replicate 1 0)=some [y]:=by
  rw [loF,v1,if_pos h1]; rfl
 have v2:upV [[c]] [y] (List.replicate 1 0) 1 0=z:=by
  unfold upV;rw [← hz]
  congr 1
  exact q7H _
 have e5:upF [[c]] [y] 1 1 (List.replicate 1 0)=some [z]:=by
  rw [upF,v2,if_pos h2]; rfl
 simp only [e4,e5]
 rfl
section
variable {c1 c2 c4 c8 K:Nat}
def quK (hK:K=65536) (h2:c2=flz 2) (h4:c4=flz 4) (h8:c8=flz 8):grS 1 1 (fun _ _=>some c4) ([0],[0,1],[0],[c2]) [c8] 3=([c2],[c8,0],0):=by
 have f2:q0J c2:=by rw [h2]; exact q4o (by omega)
 have f4:q0J c4:=by rw [h4]; exact q4o (by omega)
 have f8:q0J c8:=by rw [h8]; exact q4o (by omega)
 have z2:ofZ c2=2*(2:Int) ^ K:=by rw [h2]; exact q4m hK (by omega)
 have z4:ofZ c4=4*(2:Int) ^ K:=by rw [h4]; exact q4m hK (by omega)
 have z8:ofZ c8=8*(2:Int) ^ K:=by rw [h8]; exact q4m hK (by omega)
 have hp:=q0U K;have d2:0 < ofZ c2:=by rw [z2]; omega
 have n8:c8 < 9223372036854775808∧c8≠0:=by rw [h8,flz8]; omega
 have m82:q1M c8 c2=16*(2:Int) ^ K:=by rw [h8,h2]; exact q2y hK (by omega) (by omega)
 have m28:q1M c2 c8=16*(2:Int) ^ K:=by rw [h8,h2]; exact q2y hK (by omega) (by omega)
 have m42:q1M c4 c2=8*(2:Int) ^ K:=by rw [h4,h2]; exact q2y hK (by omega) (by omega)
 have D8:dfE ([0],[0,1],[0],[c2]) [c8]=([c2],0):=qtV f2 d2 f8 (y:=c4) (z:=c2) (by
  rw [z8,z2,h4];exact qgI (x:=4) (y:=2) hK Oq Oq) (by
  rw [z4,z2,h2];exact qgI (x:=2) (y:=2) hK Oq Oq) f4 f2
 have q0:∀ {b:Int},fQ 0 0 b=0:=fun {b}=>if_pos rfl;have D0:dfE ([0],[0,1],[0],[c2]) [0]=([0],0):=qtV f2 d2 qdJ (y:=0) (z:=0) (by rw [qiJ]; exact q0) (by rw [qiJ]; exact q0) qdJ qdJ;obtain ⟨c1,h1⟩:∃ c,c=flz 1:=⟨_,rfl⟩;have f1:q0J c1:=by rw [h1]; exact q4o (by omega)
 have l1:c1 < 18446744073709551616:=by rw [h1]; exact qfk (by omega)
 have m12:q1M c1 c2=2*(2:Int) ^ K:=by rw [h1,h2]; exact q2y hK (by omega) (by omega)
 have mn:q1M (q5P c1) c8 = -8*(2:Int) ^ K:=by
  have e:ofZ (q5P c1)=ofZ (flz (-1)):=by
   rw [(q9z f1 l1).1,h1,q4m hK (by omega),q4m hK (by omega)]; omega
  have:q1M (q5P c1) c8=q1M (flz (-1)) c8:=by unfold q1M; rw [e]
  rw [this,h8];exact q2y hK Oq Oq
 have one:∀ {a:Nat},q0J a→∀ v ∈ [a],q0J v:=fun h v hv=>by simp at hv; subst hv; exact h
 have A:q2L (fun _ _=>some c4) [c2] 1 1=[c8]:=by
  have e:q2L (fun _ _=>some c4) [c2] 1 1=[fR 0 (q2d [c4] [c2])]:=rfl;rw [e,qbv,m42,qlI hK,h8]
 have X:lnF [0] c1 [c2] 1=[c2]:=by
  rw [qnW,qiJ,m12,Int.zero_add,qlI hK,h2]
 have Rr:lnF [c8] (q5P c1) [c8] 1=[0]:=by
  rw [qnW,z8,mn,show (8:Int)*(2:Int) ^ K + -8*(2:Int) ^ K=0 by omega]
  rfl
 have P:lnF [0] 0 [c2] 1=[0]:=by
  rw [qnW,qiJ,qfG]
  rfl
 have G:gS 1 (fun _ _=>some c4) ([0],[0,1],[0],[c2]) [0] [c8] [c2] (16*(2:Int) ^ K)=(0,[c2],[0],[0],0):=by
  unfold gS;rw [if_neg (by omega),A,if_pos (one f8)];unfold gS2;rw [qbv,m28,if_neg (by omega)];have:fQ 0 (16*(2:Int) ^ K) (16*(2:Int) ^ K)=c1:=by rw [h1]; exact qgI (x:=1) (y:=16) hK (by omega) (by omega)
  rw [this,if_pos f1];unfold gS3;rw [X,Rr,if_pos (one f2),if_pos (one qdJ)];unfold gS4;rw [D0];dsimp only;rw [if_neg (not_not_intro rfl),qbv,qfG,q0,if_pos qdJ];unfold gS5;rw [P,if_pos (one qdJ)]
 have s8:q2B [c8] 1=c8:=by
  have e:q2B [c8] 1=max 0 (q5V c8):=rfl;rw [e];unfold q5V;omega
 have s0:q2B [0] 1=0:=rfl;unfold grS;have R:grR 1 1 ([0],[0,1],[0],[c2]) [c8] 3=0:=by
  unfold grR;rw [if_neg (by omega),qlT f2 d2,if_neg (by omega),if_neg (by simp),if_neg (by simp),if_neg (not_not_intro (one f8)),if_neg (by omega)]
 rw [R,if_neg (not_not_intro rfl),D8];dsimp only;rw [if_neg (not_not_intro rfl),qbv,m82,s8];rw [show (3:Int).toNat=2+1 from rfl,show List.replicate 1 0=[0] from rfl,qs7 (by rw [s8]; exact n8.2) G,qs6 s0,s0]
 rfl
end
end Go.Sp
namespace Go.Proofs.YtbcmhlhgljoolaaGreatDoor
open Go Go.E Go.Sp
def q6U:ACt 28 [] (bv true):=by
 obtain ⟨c2,h2⟩:∃ c,c=flz 2:=⟨_,rfl⟩;obtain ⟨c4,h4⟩:∃ c,c=flz 4:=⟨_,rfl⟩;obtain ⟨c8,h8⟩:∃ c,c=flz 8:=⟨_,rfl⟩;have hI:∀ z:Int,z.natAbs≤9→ACt 34 [iv z,iv 0] (uv (flz z:Nat)):=fun z hz=>q6i (z:=z) (mode:=0) Oq Oq (qaB (by have:=q0M (n:=z.natAbs) (k:=4) (by omega); omega));have C1:=hI 2 Oq;have C2:=hI 4 Oq;have C3:=hI 8 Oq;have hu:∀ z:Int,z.natAbs≤9→flz z < 18446744073709551616∧q0J (flz z):=fun z hz=>⟨qfk Oq,q4o Oq⟩;have u2:=hu 2 Oq;have u4:=hu 4 Oq;have u8:=hu 8 Oq;have hg:=quK (K:=65536) rfl h2 h4 h8;rw [← h2] at C1 u2;rw [← h4] at C2 u4;rw [← h8] at C3 u8;clear hI hu h2 h4 h8;have hm:TOk (fun _ _=>some c4) 1 1:=⟨by omega,by omega,by omega,fun j i x _ _ h=>by cases h; exact u4.1,fun j i x _ _ h=>by cases h; exact u4.2⟩;have C4:=qbd (f:=fun _ _=>some c4) (F:=([0],[0,1],[0],[c2])) (b:=[c8]) (steps:=3) hm (by omega) (by simp) (by simp) (by simp) (by simp) (fun x hx=>by simp at hx; subst hx; exact u2.1) (fun x hx=>by simp at hx; subst hx; exact u8.1) (by simp);rw [hg] at C4;have hC4:ACt 26 [.ag [iv 1,iv 1,.sl none [iv 0,iv 1],.sl none [iv 0],.sl none [uv c4]],.ag [.sl none [iv 0],.sl none [iv 0,iv 1],.sl none [iv 0],.sl none [uv c2]],.sl none [uv c8],iv 3] (.tu [.sl none [uv c2],.sl none [uv c8,uv 0],iv 0]):=C4;clear C4;have C5:ACt 23 [.sl none [uv c2],.sl none [uv c2]] (bv true):=q0V (l:=[c2]) (by simp);have C6:ACt 23 [.sl none [uv c8,uv 0],.sl none [uv c8,uv 0]] (bv true):=q0V (l:=[c8,0]) (by simp);have N1:Nz (bv true):=qsE;refine ac0 Tryz.func28 Tryz.ntmps28 [.tmp 0] ?_;refine wk ?_;refine q1n fun K0 hK0=>?_;refine qah 4 fun K hK=>?_;rw [List.take_succ_cons,List.take_succ_cons,List.take_succ_cons,List.take_succ_cons,List.take_zero,List.drop_succ_cons,List.drop_succ_cons,List.drop_succ_cons,List.drop_succ_cons,List.drop_zero]
 try refine Zz ?_
 refine ⟨_,_,LeM [] rfl rfl (xs:=[(1,uv (c2:Nat)),(3,uv (c8:Nat)),(24,.ag [iv 1,iv 1,.sl none [iv 0,iv 1],.sl none [iv 0],.sl none [uv (c4:Nat)]]),(25,.ag [.sl none [iv 0],.sl none [iv 0,iv 1],.sl none [iv 0],.sl none [uv (c2:Nat)]]),(27,.sl none [uv (c8:Nat)])]) (kv:=[]) (bs:=[]) (kb:=[]) ?_,?_⟩
 ·try refine Zz ?_
  refine ⟨⟨q1y rfl (clI (l:=[0,1])) rfl rfl,q1y rfl (clI (l:=[0])) rfl rfl,q1y rfl (clU (l:=[c4])) rfl rfl⟩,⟨q1y rfl (clI (l:=[0])) rfl rfl,q1y rfl (clI (l:=[0,1])) rfl rfl,q1y rfl (clI (l:=[0])) rfl rfl,q1y rfl (clU (l:=[c2])) rfl rfl⟩,q1y rfl (clU (l:=[c8])) rfl rfl⟩
 try refine Zz ?_
 refine q0N hC4 ?_
 try refine Zz ?_
 refine hK _ _ ?_;refine hK0 _ _ ?_;clear hK hK0 K K0;exact wk trivial
section
variable {n:Nat} {f:Nat→Nat→Option Nat} {F:List Int × List Int × List Int × List Nat} {x r p:List Nat} {rho:Int}
def qs8:(gS n f F x r p rho).2.1.length≤n:=by
 unfold gS gS2 gS3 gS4 gS5 gEr
 repeat' split
 all_goals first | exact Nat.zero_le _ | exact Nat.le_of_eq q2D
def qfa:∀ (k:Nat) (x r p:List Nat) (rho:Int) (l:List Nat),x.length≤n→(grL n f F k x r p rho l).1.length≤n∧(grL n f F k x r p rho l).2.1.length≤l.length+k
 | 0,x,r,p,rho,l,h=>⟨h,Nat.le_refl _⟩
 | k+1,x,r,p,rho,l,h=>by
  rw [grL]
  split
  ·exact ⟨h,by dsimp only; omega⟩
  ·split
   ·exact ⟨Nat.zero_le _,Nat.zero_le _⟩
   ·have:=qfa k _ (gS n f F x r p rho).2.2.1 (gS n f F x r p rho).2.2.2.1 (gS n f F x r p rho).2.2.2.2 (l ++ [q2B (gS n f F x r p rho).2.2.1 n]) (qs8 (n:=n) (f:=f) (F:=F) (x:=x) (r:=r) (p:=p) (rho:=rho));rw [List.length_append] at this;exact ⟨this.1,by have:=this.2; simp at this; omega⟩
def qnj {R C:Nat} {b:List Nat} {steps:Int} (hR:R≤100000) (hs:steps≤64∨64 < steps):(grS R C f F b steps).1.length≤1000000∧(grS R C f F b steps).2.1.length≤1000000:=by
 unfold grS
 split
 ·exact ⟨Nat.zero_le _,Nat.zero_le _⟩
 ·rename_i h
  split
  ·exact ⟨Nat.zero_le _,Nat.zero_le _⟩
  ·have:=qfa (n:=R) (f:=f) (F:=F) steps.toNat (List.replicate R 0) b (dfE F b).1 (q2d b (dfE F b).1) [q2B b R] (by simp);have h64:steps≤64:=by
    rcases hs with h2 | h2
    ·exact h2
    ·exfalso
     apply h
     unfold grR
     repeat' split
     all_goals first | omega | (exact fun q=>by omega)
   refine ⟨by have:=this.1; omega,?_⟩;have:=this.2;simp at this;omega
end
def q7c {R C:Nat} {f:Nat→Nat→Option Nat} {F:List Int × List Int × List Int × List Nat} {b:List Nat} {steps:Int} (hm:TOk f R C) (hR:R≤20) (hF:FSh F) (hb:∀ v ∈ b,v < 18446744073709551616) (hbl:b.length≤1000000):∃ (x l:List Nat) (e:Int),(x.length≤1000000∧l.length≤1000000)∧ACt 26 [pT R C f,q1L F,pF b,iv steps] (.tu [pF x,pF l,iv e])∧ACt 27 [pT R C f,q1L F,pF b,iv steps] (.tu [pF x,pF l,iv e]) :=
 ⟨_,_,_,qnj Oq Oq,qbd hm hR (by have:=hF.p; omega) hF.c hF.r hF.v hF.u hb hbl,qhO hm hR (by have:=hF.p; omega) hF.c hF.r hF.v hF.u hb hbl⟩
def q9u {raw:List Nat} {N:Nat} {st:Int} {w:Bool} (hN:N≤100):FSh (qpl raw N st w):=qsT (q6B raw N) hN
section
variable {raw other:List Nat} {n st steps:Int} {w:Bool}
def q4J (hr:raw.length≤9223372036854775807) (h1 : -9223372036854775808≤n) (h2:n≤9223372036854775807) (h3 : -9223372036854775808≤st) (h4:st≤9223372036854775807) (h5 : -9223372036854775808≤steps) (h6:steps≤9223372036854775807) :
  ACt 5 [pF raw,iv n,iv st,bv w,iv steps] (bv true):=by
 have cA:=q6U;have cP:=q9w (w:=w) hr h1 h2 h3 h4;have hN:q07 n 5 < 5:=by unfold q07; omega
 generalize q07 n 5=N at *;have hm:TOk (qcl raw N st) N N:=q9v Oq;have hF:=q9u (raw:=raw) (N:=N) (st:=st) (w:=w) Oq;have hb:=q5l (raw:=raw) (k:=30) (st:=q07 st 4) (n:=N);have hbl:=q5X (raw:=raw) (k:=30) (st:=q07 st 4) (n:=N);generalize qcl raw N st=f at *;generalize qpl raw N st w=F at *;generalize q8G raw 30 (q07 st 4) N=b at *;have cM:=q30 (a:=steps) (n:=5) h5 h6 Oq Oq;have gr:=fun s:Int=>q7c (steps:=s) hm Oq hF (fun v hv=>(hb v hv).1) Oq;unfold pT q2M q1L at *
 by_cases q1:steps > 4
 ·by_cases q2:steps≤64
  ·obtain ⟨x,l,e,⟨hl1,hl2⟩,C1,C2⟩:=gr (q07 steps 5:Nat);have C3:=q0V hl1;have C4:=q0V hl2;clear gr;refine ac0 Tryz.func5 Tryz.ntmps5 [.tmp 10] ?_;exact wk1 (x2 q1 q2) trivial
  ·obtain ⟨x,l,e,⟨hl1,hl2⟩,C1,C2⟩:=gr steps;have C3:=q0V hl1;have C4:=q0V hl2;clear gr;refine ac0 Tryz.func5 Tryz.ntmps5 [.tmp 10] ?_;exact wk1 (x2 q1 q2) trivial
 ·obtain ⟨x,l,e,⟨hl1,hl2⟩,C1,C2⟩:=gr steps;have C3:=q0V hl1;have C4:=q0V hl2;clear gr;refine ac0 Tryz.func5 Tryz.ntmps5 [.tmp 10] ?_;exact wk1 q1 trivial
def q6H (hr:raw.length≤9223372036854775807) (ho:other.length≤9223372036854775807) (h1 : -9223372036854775808≤n) (h2:n≤9223372036854775807) (h3 : -9223372036854775808≤st) (h4:st≤9223372036854775807) :
  ACt 6 [pF raw,iv n,iv st,pF other] (bv true):=by
 have cA:=q6U;have cM:=q30 (a:=st) (n:=3) h3 h4 Oq Oq;have hst:q07 st 3 < 3:=by unfold q07; omega
 have cP:=q9w (w:=true) (st:=(q07 st 3:Nat)) hr h1 h2 Oq Oq;have hN:q07 n 5 < 5:=by unfold q07; omega
 generalize q07 n 5=N at *;have hF:=q9u (raw:=raw) (N:=N) (st:=(q07 st 3:Nat)) (w:=true) Oq;have hb:=q5l (raw:=raw) (k:=30) (st:=q07 (q07 st 3:Nat) 4) (n:=N);have hbl:=q5X (raw:=raw) (k:=30) (st:=q07 (q07 st 3:Nat) 4) (n:=N);generalize qcl raw N (q07 st 3:Nat)=f at *;generalize qpl raw N (q07 st 3:Nat) true=F at *;generalize q8G raw 30 (q07 (q07 st 3:Nat) 4) N=b at *;have hNN:N*N≤5*5:=Nat.mul_le_mul Oq Oq;have cG:=q3h (raw:=other) (st:=st) (R:=N) (C:=N) ho Oq Oq h3 h4;have hm:=qig (raw:=other) (R:=N) (C:=N) (st:=q07 st 4) Oq Oq Oq;generalize gF other N (q07 st 4)=g at *;obtain ⟨x,l,e,⟨hl1,hl2⟩,C1,C2⟩:=q7c (steps:=3) hm Oq hF (fun v hv=>(hb v hv).1) Oq;have C3:=q0V hl1;have C4:=q0V hl2;unfold pT q2M q1L at *;refine ac0 Tryz.func6 Tryz.ntmps6 [.tmp 8] ?_;exact wk1 hbl trivial
end
end Go.Proofs.YtbcmhlhgljoolaaGreatDoor
