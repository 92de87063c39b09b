/- RefineHalves, RefineResidual, RefinePairs, RefineDoubled, RefineRefuses. 5/6. -/
import Derived.Test.YtfmojhhokfkdaaaGreatDoorPi4
set_option linter.unusedSimpArgs false
set_option linter.unusedVariables false
set_option maxRecDepth 20000
set_option maxHeartbeats 2000000
set_option linter.defProp false
namespace Go.Proofs.YtfmojhhokfkdaaaGreatDoor
open Go Go.E Go.Sp
def dnH (n a c:Nat) (gl gu:Nat→Nat→Nat):Hp:=q19 24 43 none 6000 10000 a (rU n gl) (q19 24 43 none 6002 30000 c (rU n gu) h0)
def dnD (t:Nat):Nat→Nat→Nat:=fun i j=>if i=j∧i < t then 4607182418800017408 else 0
def enS (g:Nat→Nat→Nat) (k:Nat):List (Nat × Nat)→Nat→Nat→Nat
 | []=>g
 | e :: l=>enS (q3a g e.1 k e.2) k l
def dnT (g:Nat→Nat→Nat) (E:Nat→List (Nat × Nat)):Nat→Nat→Nat→Nat
 | 0=>g
 | k+1=>enS (dnT g E k) k (E k)
def qaG {k:Nat} {e:Nat × Nat}:∀ (l:List (Nat × Nat)) (g:Nat→Nat→Nat),enS g k (l ++ [e])=q3a (enS g k l) e.1 k e.2
 | [],_=>rfl
 | _ :: l,_=>qaG l _
def dnD_0 {n:Nat} {t:Nat}:rU n (dnD t) t=rU n (fun _ _=>0) t:=by
 unfold rU dnD;refine List.map_congr_left fun c _=>?_;rw [if_neg (by omega)]
def dnD_s {t:Nat}:q3a (dnD t) t t 4607182418800017408=dnD (t+1):=by
 funext i j
 unfold q3a dnD
 by_cases h:i=t∧j=t
 ·rw [if_pos h,if_pos (by omega)]
 ·rw [if_neg h]
  by_cases h2:i=j∧i < t
  ·rw [if_pos h2,if_pos (by omega)]
  ·rw [if_neg h2,if_neg (by omega)]
section
variable {n a c:Nat} {gl gu:Nat→Nat→Nat}
def q3J (ha:a≤100) (hc:c≤100):BOk (dnH n a c gl gu) win:=by
 unfold dnH;have w:∀ R j m:Nat,5000≤R→R≤40000→m≤100→j < m→win (j+R):=fun R j m h1 h2 h3 h4=>⟨by omega,by omega⟩;exact q1p (q1p BOk.h0 (fun _ _=>q6p) Oq ⟨⟨by omega,by omega⟩,fun j hj=>w _ j _ Oq Oq hc hj⟩) (fun _ _=>q6p) Oq ⟨⟨by omega,by omega⟩,fun j hj=>w _ j _ Oq Oq ha hj⟩
def qkh {q:Nat→Prop} (hq:∀ i,10000≤i→q i):HId q (dnH n a c gl gu):=by
 unfold dnH;exact qdG (qdG qvv (fun _ _=>q6p) fun j _=>hq _ Oq) (fun _ _=>q6p) fun j _=>hq _ Oq
def qt7 {i:Nat} (hi:i < 6000):dnH n a c gl gu i=none:=by
 unfold dnH;rw [q0L (by omega) (by omega),q0L (by omega) (by omega)]
 rfl
def qkg:dnH n a c gl gu 6000=some ⟨24,none,(List.range a).map fun j=>.ow (j+10000) none 0 n,false⟩:=by
 unfold dnH; rw [q1i]; simp
def q1w (ha:a≤100):dnH n a c gl gu 6002=some ⟨24,none,(List.range c).map fun j=>.ow (j+30000) none 0 n,false⟩:=by
 unfold dnH; rw [q0L (by omega) (by omega),q1i]; simp
def qfe {j:Nat} (hj:j < a):dnH n a c gl gu (j+10000)=some ⟨43,none,rU n gl j,false⟩:=by
 unfold dnH; rw [q1T (by omega) hj]
def qbd {j:Nat} (ha:a≤100) (hj:j < c):dnH n a c gl gu (j+30000)=some ⟨43,none,rU n gu j,false⟩:=by
 unfold dnH; rw [q0L (by omega) (by omega),q1T (by omega) hj]
def qt8 {r m v:Nat} (hr:r < a):q0P (dnH n a c gl gu) (r+10000) ⟨43,none,(rU n gl r).set m (.vl (.int .u64 (v:Nat))),false⟩=dnH n a c (q3a gl r m v) gu:=by
 unfold dnH;rw [q2p (by omega) hr (by simp),qay]
def dnH_u {r m v:Nat} (ha:a≤100) (hr:r < c):q0P (dnH n a c gl gu) (r+30000) ⟨43,none,(rU n gu r).set m (.vl (.int .u64 (v:Nat))),false⟩=dnH n a c gl (q3a gu r m v):=by
 unfold dnH;rw [q20 (by omega) (by omega),q2p (by omega) hr (by simp),qay]
def qt6 {i:Nat} {x:Bk} (hb:dnH n 0 0 gl gu i=some x):x.xs=[]:=by
 unfold dnH at hb
 rcases q0q hb with ⟨rfl,rfl⟩ | ⟨_,h1,h2,_⟩ | ⟨_,_,hb⟩
 ·rfl
 ·omega
 rcases q0q hb with ⟨rfl,rfl⟩ | ⟨_,h1,h2,_⟩ | ⟨_,_,hb⟩
 ·rfl
 ·omega
 ·cases hb
def qta:q6W (dnH n n n gl gu) n 10000 none (fun _=>n)=some ((List.range n).map fun j=>.sl none (rU n gl j),(List.range n).map (·+10000)):=by
 unfold dnH;rw [q6H (by omega),cO,if_pos fun j _=>q6p]
 congr 2
 refine List.map_congr_left fun j _=>?_
 congr 1
 exact q9Y
def qt9 (hn:n≤100):q6W (dnH n n n gl gu) n 30000 none (fun _=>n)=some ((List.range n).map fun j=>.sl none (rU n gu j),(List.range n).map (·+30000)):=by
 unfold dnH;rw [q4t (by omega) (by omega),q6H (by omega),cO,if_pos fun j _=>q6p]
 congr 2
 refine List.map_congr_left fun j _=>?_
 congr 1
 exact q9Y
attribute [go_sem ↓] qt7 qkg qfe qbd
def qiq {f:LUt} {EL EU:Nat→List (Nat × Nat)} (hr:f.rows.length=n) (hn:n≤100) (hL:ColS n f.ls f.li f.lv EL) (hU:ColS n f.us f.ui f.uv EU):ACt 223 [pLU f] (.tu [tU n (dnT (dnD n) EL n),tU n (dnT (fun _ _=>0) EU n)]):=by
 obtain ⟨ro,co,ls,li,lv,us,ui,vu⟩:=f;unfold pLU;dsimp only at *;refine ac0 Tryz.func223 Tryz.ntmps223 [.tmp 2,.tmp 3] ?_;refine wk1 hr ?_;refine q1M (LeT (hw:=dnH n 0 0 (dnD 0) fun _ _=>0) tnW (fun _ h=>h.elim) (fun i hi hw=>?_) (fun i b hw hb=>?_) (fun i j x hi hj ti tj=>?_) (xs:=[(1,.pt 1 0 0),(4,iv n),(5,.ow 6000 none 0 0),(6,.ow 6002 none 0 0),(7,iv 0)]) (kv:=[]) (bs:=[(1,⟨28,some 8,[.ag [pI ro,pI co,pI ls,pI li,pF lv,pI us,pI ui,pF vu]],false⟩)]) (kb:=[]) ?_) ?_
 ·simp at hi;unfold win at hw;omega
 ·unfold LeB;rw [qd4 hw.1 hw.2];exact qt6 hb
 ·unfold tnW at ti tj
  split at ti <;> split at tj <;> cases ti <;> cases tj <;> rfl
 ·try refine Zz ?_
  exact ⟨_,q1w Oq,rfl⟩
 refine q0U (fun t=>t≤n) [1,4] [1] Lk Lk (fun t:Nat=>[(5,.ow 6000 none 0 t),(6,.ow 6002 none 0 t),(7,iv t)]) (fun _=>[]) (fun t=>dnH n t t (dnD t) fun _ _=>0) (fun t=>n-t) 0 (Nat.zero_le _) ?_ ?_
 ·refine LeW [] rfl rfl ?_ ?_ (by simp [q1I,q0t,win]) ?_
  ·exact Ow
  ·exact q1R (q3J Oq Oq)
  ·try refine Zz ?_
   exact ⟨⟨_,q1w Oq⟩,rfl⟩
 ·intro t ht
  by_cases hlt:t < n
  ·have hlt':(t:Int) < n:=by omega
   have rt:(List.range t ++ [t])[t]?=some t:=by simp
   have hset:((rU n (dnD t) t).set t (uv (4607182418800017408:Nat)))=(rU n (dnD t) t).set t (PV.vl (.int .u64 (4607182418800017408:Nat))):=rfl;refine wk1 hlt' ?_;refine q1M (q4Z (T1:=24) (T2:=43) (K:=none) (N:=6000) (R:=10000) (n:=t) (o:=23) (r:=21) (l:=(rU n (dnD t)) t) (hw:=dnH n t t (dnD t) fun _ _=>0) (hw':=dnH n (t+1) t (dnD t) fun _ _=>0) (fun _ h=>h) q6p (fun _=>n) ?_ ?_ (fun i h1 h2=>?_) qkg (qfe Oq) (fun i h1 h2=>q2R h1 h2) (fun j hj=>by
    rw [qfe (by omega)];exact Option.some_ne_none _) (q3J (by omega) (by omega)) (qkh fun i hi=>by omega) ?_ (by omega) (by omega) (by omega) (by omega) (by omega) (by omega) (xs:=[(1,.pt 1 0 0),(4,iv n),(5,.ow 6000 none 0 (t+1)),(6,.ow 6002 none 0 t),(7,iv t)]) (kv:=[]) (bs:=[(1,⟨28,some 8,[.ag [pI ro,pI co,pI ls,pI li,pF lv,pI us,pI ui,pF vu]],false⟩)]) (kb:=[]) (by simp [nmW]) ?_) ?_
   ·try simp -implicitDefEqProofs (disch:=omega) only [go_sem,Nat.reduceEqDiff,Nat.reduceAdd,↓reduceIte]
   ·try refine Zz ?_
    rw [dnD_0,qhK (j:=t)]
   ·obtain ⟨w1,w2⟩:=h1
    repeat rw [q0B (by omega)]
    rw [q0T ⟨w1,w2⟩]
   ·unfold dnH;rw [q0L (by omega) (by omega),q0L (by omega) (by omega)]
    rfl
   ·try refine Zz ?_
    exact ⟨_,q1w Oq⟩
   have h2o:dnH n (t+1) t (dnD t) (fun _ _=>0) 6002=some ⟨24,none,(List.range t).map fun j=>.ow (j+30000) none 0 n,false⟩:=q1w Oq;refine wk1 h2o ?_;clear h2o;refine q1M (q4Z (T1:=24) (T2:=43) (K:=none) (N:=6002) (R:=30000) (n:=t) (o:=28) (r:=26) (l:=(rU n fun _ _=>0) t) (hw:=dnH n (t+1) t (dnD t) fun _ _=>0) (hw':=dnH n (t+1) (t+1) (dnD t) fun _ _=>0) (fun _ h=>h) q6p (fun _=>n) ?_ ?_ (fun i h1 h2=>?_) (q1w Oq) (qbd Oq Oq) (fun i h1 h2=>q1q (q2R h1 h2)) (fun j hj=>by
    rw [qbd (by omega) (by omega)];exact Option.some_ne_none _) (q3J (by omega) (by omega)) (qkh fun i hi=>by omega) ?_ (by omega) (by omega) (by omega) (by omega) (by omega) (by omega) (xs:=[(1,.pt 1 0 0),(4,iv n),(5,.ow 6000 none 0 (t+1)),(6,.ow 6002 none 0 (t+1)),(7,iv t)]) (kv:=[]) (bs:=[(1,⟨28,some 8,[.ag [pI ro,pI co,pI ls,pI li,pF lv,pI us,pI ui,pF vu]],false⟩)]) (kb:=[]) (by simp [nmW]) ?_) ?_
   ·try simp -implicitDefEqProofs (disch:=omega) only [go_sem,Nat.reduceEqDiff,Nat.reduceAdd,↓reduceIte]
   ·try refine Zz ?_
    rw [qhK (j:=t)]
   ·obtain ⟨w1,w2⟩:=h1
    repeat rw [q0B (by omega)]
    rw [q0T ⟨w1,w2⟩]
   ·unfold dnH;rw [q0L (by omega) (by omega),q0L (by omega) (by omega)]
    rfl
   ·try refine Zz ?_
    exact ⟨_,q1w Oq⟩
   refine wk1 rt ?_;refine ⟨t+1,by omega,by omega,?_⟩;refine LeW [] rfl rfl ?_ ?_ (by simp [q1I,q0t,win]) ?_
   ·exact qaW (q6N q37) ((qt8 (by omega)).trans (by rw [dnD_s]))
   ·exact q1R (q3J Oq Oq)
   ·try refine Zz ?_
    exact ⟨⟨_,q1w Oq⟩,rfl⟩
  ·obtain rfl:n=t:=by omega
   have hlt':¬ (n:Int) < n:=by omega
   refine wk1 hlt' ?_;obtain ⟨g0,hg0⟩:∃ g,g=dnD n:=⟨_,rfl⟩;rw [← hg0];clear hg0 ht;refine q0U (fun k=>k≤n) [1,4,5,6] [1] Lk Lk (fun k:Nat=>[(8,iv k)]) (fun _=>[]) (fun k=>dnH n n n (dnT g0 EL k) (dnT (fun _ _=>0) EU k)) (fun k=>n-k) 0 (Nat.zero_le _) ?_ ?_
   ·refine LeW [] rfl rfl ?_ ?_ (by simp [q1I,q0t,win]) ?_
    ·exact Ow
    ·exact q1R (q3J Oq Oq)
    ·try refine Zz ?_
     exact ⟨rfl,_,q1w Oq⟩
   ·intro k hk
    by_cases hkn:k < n
    ·have hkn':(k:Int) < n:=by omega
     have rk:(List.range n)[k]?=some k:=List.getElem?_range hkn;have wj:(k:Int)+1=((k+1:Nat):Int):=rfl;obtain ⟨a,l1,l2,l3,l4⟩:=hL.col k hkn;obtain ⟨c,u1,u2,u3,u4⟩:=hU.col k hkn;have hlb:=hL.len;have hub:=hU.len;have dL:dnT g0 EL (k+1)=enS (dnT g0 EL k) k (EL k):=rfl;have dU:dnT (fun _ _=>0) EU (k+1)=enS (dnT (fun _ _=>0) EU k) k (EU k):=rfl;generalize dnT g0 EL k=gl at *;generalize dnT (fun _ _=>0) EU k=gu at *;generalize EL k=el at *;generalize EU k=eu at *;refine wk1 (x2 hkn' l1) ?_;refine q0U (fun t=>t≤el.length) [1,4,5,6,8] [1] Lk Lk (fun t:Nat=>[(9,iv (a+t:Nat))]) (fun _=>[]) (fun t=>dnH n n n (enS gl k (el.take t)) gu) (fun t=>el.length-t) 0 (Nat.zero_le _) ?_ ?_
     ·refine LeW [] rfl rfl ?_ ?_ (by simp [q1I,q0t,win]) ?_
      ·exact Ow
      ·exact q1R (q3J Oq Oq)
      ·try refine Zz ?_
       exact ⟨_,q1w Oq⟩
     ·intro t ht
      by_cases hlt:t < el.length
      ·obtain ⟨e,he⟩:∃ e,el[t]?=some e:=⟨_,List.getElem?_eq_getElem hlt⟩;obtain ⟨y1,y2,y3,y4,y5⟩:=l4 t e he;have hlt':((a+t:Nat):Int) < ((a+el.length:Nat):Int):=by omega
       have re:(List.range n)[e.1]?=some e.1:=List.getElem?_range y3;obtain ⟨p,hp⟩:∃ p,p=a+t:=⟨_,rfl⟩;rw [← hp] at y1 y2 hlt' ⊢;refine wk1 (x6 wj l2 hlt' y1 y2 re) ?_;refine ⟨t+1,by omega,by omega,?_⟩;rw [List.take_add_one,he,Option.toList_some,qaG];refine LeW [] rfl rfl ?_ ?_ (by simp [q1I,q0t,win]) ?_
       ·exact qaW (q6N q37) (qt8 y3)
       ·exact q1R (q3J Oq Oq)
       ·try refine Zz ?_
        exact ⟨by omega,_,q1w Oq⟩
      ·obtain rfl:t=el.length:=by omega
       obtain ⟨b,hb⟩:∃ b,b=a+el.length:=⟨_,rfl⟩;have hlt':¬ (b:Int) < b:=by omega
       rw [List.take_length];rw [← hb] at l2 ⊢;refine wk1 (x4 wj l2 hlt' u1) ?_;refine q0U (fun t=>t≤eu.length) [1,4,5,6,8] [1] Lk Lk (fun t:Nat=>[(10,iv (c+t:Nat))]) (fun _=>[]) (fun t=>dnH n n n (enS gl k el) (enS gu k (eu.take t))) (fun t=>eu.length-t) 0 (Nat.zero_le _) ?_ ?_
       ·refine LeW [] rfl rfl ?_ ?_ (by simp [q1I,q0t,win]) ?_
        ·exact Ow
        ·exact q1R (q3J Oq Oq)
        ·try refine Zz ?_
         exact ⟨_,q1w Oq⟩
       ·intro t ht;have ho2:=q1w (n:=n) (a:=n) (c:=n) (gl:=enS gl k el) (gu:=enS gu k (eu.take t)) Oq
        by_cases hlt:t < eu.length
        ·obtain ⟨e,he⟩:∃ e,eu[t]?=some e:=⟨_,List.getElem?_eq_getElem hlt⟩;obtain ⟨y1,y2,y3,y4,y5⟩:=u4 t e he;have hlt':((c+t:Nat):Int) < ((c+eu.length:Nat):Int):=by omega
         have re:(List.range n)[e.1]?=some e.1:=List.getElem?_range y3;have hr2:=qbd (n:=n) (a:=n) (c:=n) (gl:=enS gl k el) (gu:=enS gu k (eu.take t)) (j:=e.1) Oq y3;obtain ⟨p,hp⟩:∃ p,p=c+t:=⟨_,rfl⟩;rw [← hp] at y1 y2 hlt' ⊢;refine wk1 (x6 wj u2 hlt' y1 y2 (x3 re ho2 hr2)) ?_;refine ⟨t+1,by omega,by omega,?_⟩;rw [List.take_add_one,he,Option.toList_some,qaG];refine LeW [] rfl rfl ?_ ?_ (by simp [q1I,q0t,win]) ?_
         ·exact qaW (q6N q37) (dnH_u Oq y3)
         ·exact q1R (q3J Oq Oq)
         ·try refine Zz ?_
          exact ⟨by omega,_,q1w Oq⟩
        ·obtain rfl:t=eu.length:=by omega
         obtain ⟨d,hd⟩:∃ d,d=c+eu.length:=⟨_,rfl⟩;have hlt':¬ (d:Int) < d:=by omega
         rw [List.take_length] at ho2 ⊢;rw [← hd] at u2 ⊢;refine wk1 (x3 wj u2 hlt') ?_;refine ⟨k+1,by omega,by omega,?_⟩;rw [dL,dU];refine LeW [] rfl rfl ?_ ?_ (by simp [q1I,q0t,win]) ?_
         ·exact Ow
         ·exact q1R (q3J Oq Oq)
         ·try refine Zz ?_
          exact ⟨_,q1w Oq⟩
    ·obtain rfl:n=k:=by omega
     have hlt':¬ (n:Int) < n:=by omega
     generalize dnT g0 EL n=gl at *;generalize dnT (fun _ _=>0) EU n=gu at *;have ho2:=q1w (n:=n) (a:=n) (c:=n) (gl:=gl) (gu:=gu) Oq;have hc2:=qt9 (gl:=gl) (gu:=gu) hn;have hc0:=qta (n:=n) (gl:=gl) (gu:=gu);exact wk1 (x4 hlt' hc0 ho2 hc2) trivial
end
def q7i (st ix:List Int) (vs:List Nat) (k:Nat):List (Nat × Nat):=(List.range ((st.getD (k+1) 0).toNat-(st.getD k 0).toNat)).map fun t=>((ix.getD ((st.getD k 0).toNat+t) 0).toNat,vs.getD ((st.getD k 0).toNat+t) 0)
def q7z {l:List Int} (h:q8F l):∀ (d i:Nat) (x y:Int),l[i]?=some x→l[i+d+1]?=some y→x < y
 | 0,i,x,y,hx,hy=>h i x y hx hy
 | d+1,i,x,y,hx,hy=>by
  obtain ⟨z,hz⟩:∃ z,l[i+d+1]?=some z:=⟨_,List.getElem?_eq_getElem (by have:=(List.getElem?_eq_some_iff.1 hy).1; omega)⟩;have h1:=q7z h d i x z hx hz;have h2:=h (i+d+1) z y hz hy;omega
def q8A {l:List Int} (h:q8F l) {lo:Int} (h0:∀ z,l[0]?=some z→lo≤z):∀ (t:Nat) (z:Int),l[t]?=some z→lo+t≤z
 | 0,z,hz=>by have:=h0 z hz; omega
 | t+1,z,hz=>by
  obtain ⟨y,hy⟩:∃ y,l[t]?=some y:=⟨_,List.getElem?_eq_getElem (by have:=(List.getElem?_eq_some_iff.1 hz).1; omega)⟩;have h1:=q8A h h0 t y hy;have h2:=h t y z hy hz;omega
def qpI {l:List Int} (h:q8F l) {t:Nat} {z y:Int} (hz:l[t]?=some z) (hy:l[l.length-1]?=some y):z≤y:=by
 have ht:=(List.getElem?_eq_some_iff.1 hz).1
 by_cases e:t=l.length-1
 ·rw [e,hy] at hz; cases hz; exact Int.le_refl _
 ·exact Int.le_of_lt (q7z h (l.length-1-t-1) t z y hz (by rw [← hy]; congr 1; omega))
section
variable {n:Nat} {st ix:List Int} {vs:List Nat} {G:Nat→List Int→Prop}
def q3R {ix:List Int} {a b t:Nat} (ht:a+t < b):((ix.take b).drop a)[t]?=ix[a+t]?:=by
 rw [List.getElem?_drop,List.getElem?_take,if_pos ht]
def q7h {a b k:Nat} (h1:st[k]?=some (a:Int)) (h2:st[k+1]?=some (b:Int)):q7i st ix vs k=(List.range (b-a)).map fun t=>((ix.getD (a+t) 0).toNat,vs.getD (a+t) 0):=by
 unfold q7i;rw [getD_some h1,getD_some h2,Int.toNat_natCast,Int.toNat_natCast]
def qfo (h:CmpOk n st ix G) (hl:ix.length=vs.length) (hf:∀ x ∈ vs,q0G x) (hu:∀ x ∈ vs,x < 18446744073709551616) (hix:ix.length≤1000000) (hG:∀ k l,k < n→q8F l→G k l→(∀ z,l[0]?=some z→0≤z)∧∀ z,l[l.length-1]?=some z→z < n):ColS n st ix vs (q7i st ix vs):=by
 refine ⟨hix,fun k hk=>?_,fun k hk=>?_,fun k hk=>?_⟩
 all_goals
  obtain ⟨a,b,h1,h2,h3,h4,h5,h6⟩:=h.col k hk;obtain ⟨g1,g2⟩:=hG k _ hk h5 h6;rw [q7h h1 h2];have hll:((ix.take b).drop a).length=b-a:=by rw [List.length_drop,List.length_take]; omega
  have hb:∀ t,t < b-a→∃ z:Nat,ix[a+t]?=some (z:Int)∧t≤z∧z < n:=fun t ht=>by
   obtain ⟨z,hz⟩:∃ z,ix[a+t]?=some z:=⟨_,List.getElem?_eq_getElem Oq⟩;have hz2:=(q3R (ix:=ix) (a:=a) (b:=b) (t:=t) Oq).trans hz;have q1:=q8A h5 g1 t z hz2;obtain ⟨y,hy⟩:∃ y,((ix.take b).drop a)[((ix.take b).drop a).length-1]?=some y:=⟨_,List.getElem?_eq_getElem Oq⟩;have q2:=qpI h5 hz2 hy;have q3:=g2 y hy;exact ⟨z.toNat,by rw [Int.toNat_of_nonneg (by omega)]; exact hz,by omega,by omega⟩
 ·refine ⟨a,h1,?_,?_,fun t e he=>?_⟩
  ·rw [h2,List.length_map,List.length_range]; congr 1; omega
  ·rw [List.length_map,List.length_range]; omega
  ·have ht:t < b-a:=by have:=(List.getElem?_eq_some_iff.1 he).1; simpa using this
   rw [List.getElem?_map,List.getElem?_range ht,Option.map_some] at he;cases he;obtain ⟨z,z1,z2,z3⟩:=hb t ht;obtain ⟨v,hv⟩:∃ v,vs[a+t]?=some v:=⟨_,List.getElem?_eq_getElem Oq⟩;simp only [getD_some z1,getD_some hv,Int.toNat_natCast];exact ⟨z1,hv,z3,hf v (List.mem_of_getElem? hv),hu v (List.mem_of_getElem? hv)⟩
 ·rw [List.map_map];unfold List.Nodup;rw [List.pairwise_iff_getElem];intro i j hi hj hij;simp at hi hj;obtain ⟨z,z1,_⟩:=hb i hi;obtain ⟨y,y1,_⟩:=hb j hj;simp only [List.getElem_map,List.getElem_range,Function.comp_apply,getD_some z1,getD_some y1,Int.toNat_natCast];have:=q7z h5 (j-i-1) i z y ((q3R (by omega)).trans z1) ((q3R (by omega)).trans (by rw [← y1]; congr 1; omega));omega
 ·rw [List.length_map,List.length_range]
  by_cases e:b-a=0
  ·omega
  ·obtain ⟨z,z1,z2,z3⟩:=hb (b-a-1) Oq;omega
end
def qaN {L:List (Nat × Nat)} {t:Nat} {e:Nat × Nat} (h:(L.map (·.1)).Nodup) (he:L[t]?=some e):ctV L e.1=e.2:=by
 induction L generalizing t with
 | nil=>simp at he
 | cons d L ih =>
  rw [List.map_cons,List.nodup_cons] at h;cases t with
  | zero =>
   rw [List.getElem?_cons_zero] at he;cases he;unfold ctV;rw [List.find?_cons,show (e.1 == e.1)=true by simp]; rfl
  | succ t =>
   rw [List.getElem?_cons_succ] at he;have hne:d.1≠e.1:=fun q=>h.1 (by rw [q]; exact List.mem_map_of_mem (List.mem_of_getElem? he));unfold ctV;rw [List.find?_cons,show (d.1 == e.1)=false by simpa using hne];exact ih h.2 he
def qf9 {k:Nat}:∀ (l:List (Nat × Nat)) (g:Nat→Nat→Nat) (i j:Nat),(l.map (·.1)).Nodup→enS g k l i j=if j=k then ((l.find? fun e=>e.1 == i).map (·.2)).getD (g i j) else g i j
 | [],g,i,j,_=>by unfold enS; simp
 | e :: l,g,i,j,h=>by
  rw [List.map_cons,List.nodup_cons] at h;rw [enS,qf9 l _ i j h.2]
  by_cases hj:j=k
  ·rw [if_pos hj,if_pos hj,List.find?_cons]
   by_cases he:e.1=i
   ·have h0:(l.find? fun e=>e.1 == i)=none:=List.find?_eq_none.2 fun d hd hq=>h.1 (by rw [he,← (by simpa using hq:d.1=i)]; exact List.mem_map_of_mem hd);rw [h0,show (e.1 == i)=true by simpa using he];simp [q3a,hj,he]
   ·rw [show (e.1 == i)=false by simpa using he];simp only [q3a];rw [if_neg fun q=>he q.1.symm]
  ·rw [if_neg hj,if_neg hj];unfold q3a;rw [if_neg fun q=>hj q.2]
def qaI {g:Nat→Nat→Nat} {E:Nat→List (Nat × Nat)}:∀ (m i j:Nat),(∀ k,k < m→((E k).map (·.1)).Nodup)→dnT g E m i j=if j < m then (((E j).find? fun e=>e.1 == i).map (·.2)).getD (g i j) else g i j
 | 0,i,j,_=>by rw [dnT,if_neg (by omega)]
 | m+1,i,j,h=>by
  rw [dnT,qf9 _ _ _ _ (h m (by omega)),qaI m i j fun k hk=>h k (by omega)]
  by_cases hj:j=m
  ·subst hj;rw [if_pos rfl,if_neg (by omega),if_pos (by omega)]
  ·rw [if_neg hj]
   by_cases h2:j < m
   ·rw [if_pos h2,if_pos (by omega)]
   ·rw [if_neg h2,if_neg (by omega)]
def dnL_v {n:Nat} {E:Nat→List (Nat × Nat)} (h:∀ k,k < n→((E k).map (·.1)).Nodup) {i j:Nat} (hj:j < n) (hij:j < i):dnT (dnD n) E n i j=ctV (E j) i:=by
 rw [qaI n i j h,if_pos hj];unfold ctV dnD;rw [if_neg (by omega)]
def dnU_v {n:Nat} {E:Nat→List (Nat × Nat)} (h:∀ k,k < n→((E k).map (·.1)).Nodup) {i j:Nat} (hj:j < n):dnT (fun _ _=>0) E n i j=ctV (E j) i:=by
 rw [qaI n i j h,if_pos hj]
 rfl
def qfk {n:Nat} {st ix:List Int} {vs:List Nat} {E:Nat→List (Nat × Nat)} (h:ColS n st ix vs E) {i j:Nat} (hj:j < n):ctV (E j) i < 18446744073709551616∧q0G (ctV (E j) i):=by
 unfold ctV;cases hf:(E j).find? fun e=>e.1 == i with
 | none=>exact ⟨by simp,by unfold q0G; simp⟩
 | some e =>
  obtain ⟨t,ht⟩:=List.mem_iff_getElem?.1 (List.mem_of_find?_eq_some hf);obtain ⟨a,_,_,_,h4⟩:=h.col j hj;obtain ⟨_,_,_,h5,h6⟩:=h4 t e ht;exact ⟨h6,h5⟩
structure LUok (f:LUt) (n:Nat):Prop where
 b:LUb f
 rl:f.rows.length=n
 n2:n≤200
 rp:q28 f.rows n
 cp:q28 f.cols n
 sl:f.ls.length=n+1
 su:f.us.length=n+1
 L:ColS n f.ls f.li f.lv (q7i f.ls f.li f.lv)
 U:ColS n f.us f.ui f.uv (q7i f.us f.ui f.uv)
 gt:∀ k,k < n→∀ e ∈ q7i f.ls f.li f.lv k,k < e.1
 le:∀ k,k < n→∀ e ∈ q7i f.us f.ui f.uv k,e.1≤k
 dg:∀ k,k < n→∃ m x,q7i f.us f.ui f.uv k=m ++ [(k,x)]∧ofZ x≠0∧∀ e ∈ m,e.1 < k
def qa2 {f:LUt} (hb:LUb f) (h:q4W f=0):LUok f f.rows.length:=by
 unfold q4W at h
 split at h
 ·cases h
 split at h
 ·cases h
 rename_i hn hp
 split at h
 ·cases h
 rename_i hls
 split at h
 ·cases h
 rename_i hst
 split at h
 ·rename_i hf;obtain ⟨f1,f2,f3⟩:=hf;have hp:=Classical.not_not.1 hp;obtain ⟨s1,s2,s3,s4⟩:=Classical.not_not.1 hls;have hst:=Classical.not_not.1 hst;obtain ⟨c1,c2⟩:=hst;have L:=qfo (vs:=f.lv) c1 s3 f1 hb.hl hb.li fun k l hk ha hg=>⟨fun z hz=>by have:=hg.1 z hz; omega,hg.2⟩;have U:=qfo (vs:=f.uv) c2 s4 f2 hb.hu hb.ui fun k l hk ha hg=>⟨hg.1,fun z hz=>by have:=hg.2.symm.trans hz; cases this; omega⟩;have hgt:∀ k,k < f.rows.length→∀ e ∈ q7i f.ls f.li f.lv k,k < e.1:=fun k hk e he=>by
   obtain ⟨a,b,h1,h2,h3,h4,h5,h6⟩:=c1.col k hk;rw [q7h h1 h2] at he;obtain ⟨t,ht,rfl⟩:=List.mem_map.1 he;have ht:=List.mem_range.1 ht;obtain ⟨z,hz⟩:∃ z,f.li[a+t]?=some z:=⟨_,List.getElem?_eq_getElem Oq⟩;have:=q8A h5 (lo:=(k:Int)+1) (fun z hz=>by have:=h6.1 z hz; omega) t z ((q3R Oq).trans hz);simp only [getD_some hz];omega
  have hU:∀ k,k < f.rows.length→∃ m x,q7i f.us f.ui f.uv k=m ++ [(k,x)]∧ofZ x≠0∧∀ e ∈ m,e.1 < k:=fun k hk=>by
   obtain ⟨a,b,h1,h2,h3,h4,h5,h6⟩:=c2.col k hk;have hll:((f.ui.take b).drop a).length=b-a:=by rw [List.length_drop,List.length_take]; omega
   have hlast:=h6.2;have hab:a < b:=by
    rcases Nat.lt_or_ge a b with q | q
    ·exact q
    ·rw [List.getElem?_eq_none (by omega)] at hlast; cases hlast
   rw [hll,q3R (by omega)] at hlast;obtain ⟨x,hx⟩:∃ x,f.uv[b-1]?=some x:=⟨_,List.getElem?_eq_getElem Oq⟩;rw [show a+(b-a-1)=b-1 by omega] at hlast;refine ⟨(List.range (b-a-1)).map fun t=>((f.ui.getD (a+t) 0).toNat,f.uv.getD (a+t) 0),x,?_,f3 k hk (b-1) x (by rw [h2]; congr 1; omega) hx,fun e he=>?_⟩
   ·rw [q7h h1 h2,show b-a=(b-a-1)+1 by omega,List.range_succ,List.map_append,List.map_singleton,show a+(b-a-1)=b-1 by omega,getD_some hlast,getD_some hx,Int.toNat_natCast]
    rfl
   ·obtain ⟨t,ht,rfl⟩:=List.mem_map.1 he;have ht:=List.mem_range.1 ht;obtain ⟨z,hz⟩:∃ z,f.ui[a+t]?=some z:=⟨_,List.getElem?_eq_getElem Oq⟩;have hz2:=(q3R (ix:=f.ui) (a:=a) (b:=b) (t:=t) Oq).trans hz;have q1:=q8A h5 h6.1 t z hz2;have q2:=q7z h5 (b-a-1-t-1) t z k hz2 ((q3R (by omega)).trans (by rw [← hlast]; congr 1; omega));simp only [getD_some hz];omega
  refine ⟨hb,rfl,by omega,hp.1,hp.2,s1,s2,L,U,hgt,fun k hk e he=>?_,hU⟩;obtain ⟨m,x,m1,m2,m3⟩:=hU k hk;rw [m1] at he
  rcases List.mem_append.1 he with he | he
  ·exact Nat.le_of_lt (m3 e he)
  ·rw [List.mem_singleton.1 he]; exact Nat.le_refl _
 ·cases h
end Go.Proofs.YtfmojhhokfkdaaaGreatDoor
namespace Go.E
open Go Go.RowKit
section
variable {T1 T2:TypeId} {K:Kd} {N R n:Nat} {row:Nat→List PV}
def qjg:qd7 T1 T2 K N R n row=q19 T1 T2 K N R n row h0:=rfl
def q7I (T1 T2:TypeId) (K:Kd) (N R n:Nat) (row:Nat→List PV) (k z:Nat) (l:List PV):Hp:=fun i=>if i=k+R then none else if i=z then some ⟨T2,K,l,false⟩ else if i=N then some ⟨T1,none,((List.range n).map fun j=>.ow (j+R) K 0 (row j).length).set k (.ow z K 0 l.length),false⟩ else q19 T1 T2 K N R n row h0 i
def q58 {k z i:Nat} {l:List PV} {b:Bk} (hb:q7I T1 T2 K N R n row k z l i=some b):i≠k+R∧((i=z∧b=⟨T2,K,l,false⟩)∨(i≠z∧i=N∧b=⟨T1,none,((List.range n).map fun j=>.ow (j+R) K 0 (row j).length).set k (.ow z K 0 l.length),false⟩)∨(i≠z∧i≠N∧R≤i∧i < R+n∧b=⟨T2,K,row (i-R),false⟩)):=by
 unfold q7I at hb
 split at hb
 ·cases hb
 ·refine ⟨by assumption,?_⟩
  split at hb
  ·rename_i hi; cases hb; exact .inl ⟨hi,rfl⟩
  ·rename_i hz
   split at hb
   ·rename_i hi; cases hb; exact .inr (.inl ⟨hz,hi,rfl⟩)
   ·rename_i hN
    rcases q0q hb with ⟨e,_⟩ | ⟨_,q1,q2,q3⟩ | ⟨_,_,q⟩
    ·exact absurd e hN
    ·exact .inr (.inr ⟨hz,hN,q1,q2,q3⟩)
    ·cases q
end
end Go.E
namespace Go.Proofs.YtfmojhhokfkdaaaGreatDoor
open Go Go.E Go.Sp
abbrev q5I (n:Nat) (rows:Nat→List Int):Hp:=q19 45 40 (some 4) 5000 10000 n (q69 rows) h0
def q09 {n:Nat} {rows:Nat→List Int} (hn:n≤1000):BOk (q5I n rows) win:=q1p BOk.h0 (fun _ _=>clV) Oq ⟨⟨by omega,by omega⟩,fun j hj=>⟨by omega,by omega⟩⟩
def wfB {H:Hp} (h:BOk H win):WfH H:=⟨fun i b hb=>⟨(h.b i b hb).2.1,IdL_mono (fun j hj=>by
 obtain ⟨c,hc⟩:=Option.ne_none_iff_exists'.1 hj;exact ⟨(h.b j c hc).1,hj⟩) _ (h.b i b hb).2.2⟩⟩
section
variable {b:List Nat} {n:Nat} {rows:Nat→List Int}
def bgR (b:List Nat) (k:Nat):Nat→List Int:=fun j=>if j < k then [ofZ (b.getD j 0)] else []
def qgG (hb:q1E b) (hn:b.length≤500):qg6 218 [pF b] h0 (.ow 5000 none 0 b.length) (q5I b.length (bgR b b.length)):=by
 obtain ⟨n,hbn⟩:∃ n,n=b.length:=⟨_,rfl⟩;rw [← hbn];refine qjR qkr Tryz.func218 rfl Tryz.ntmps218 (by kernel_rfl) ?_ ?_ ?_ ?_
 ·intro i b hb; cases hb
 ·exact fun i b hb=>((q09 Oq).b i b hb).1
 ·exact IdL.of fun x hx=>by simp at hx; subst hx; unfold IdP; trivial
 refine wk ?_;refine q1M (qag (o:=8) (N:=5000) (R:=10000) (n:=n) (T1:=45) (T2:=40) (K:=some 4) (fun _ h=>h rfl) ?_ (by omega) (by omega) (by omega) (by omega) (xs:=[(0,pF b),(3,.ow 5000 none 0 n),(9,pF b),(10,iv n),(11,iv 0)]) (kv:=[]) (kb:=[]) (by simp [nmW]) ?_) ?_
 ·try refine Zz ?_
  rw [hbn]
 ·try refine Zz ?_
  rw [hbn];exact ⟨⟨rfl,rfl⟩,rfl⟩
 rw [qjg];refine q0U (fun k:Nat=>k≤n) [0,3,9,10] [] Lk Lk (fun k:Nat=>[(11,iv k)]) (fun _=>[]) (fun k=>q5I n (bgR b k)) (fun k=>n-k) 0 (Nat.zero_le _) ?_ ?_
 ·refine LeW [] rfl rfl ?_ ?_ (by simp [q1I,q0t,win]) ?_
  ·exact Ow
  ·exact wfB (q09 Oq)
  ·try refine Zz ?_
   rfl
 ·intro k hk
  by_cases hlt:k < n
  ·have hlt':(k:Int) < n:=by omega
   obtain ⟨x,hx⟩:∃ x,b[k]?=some x:=⟨_,List.getElem?_eq_getElem Oq⟩;obtain ⟨u1,u2⟩:=hb x (List.mem_of_getElem? hx);have C1:=q4a (q1v u1 (q0N u2)) (q11 u2);have er:q68 (q69 (bgR b k)) k [pV (ofZ x)]=q69 (bgR b (k+1)):=by
    funext j
    unfold q68 q69 bgR
    by_cases h:j=k
    ·subst h; rw [if_pos rfl,if_pos (by omega),getD_some hx]; rfl
    ·rw [if_neg h]
     by_cases h2:j < k
     ·rw [if_pos h2,if_pos (by omega)]
     ·rw [if_neg h2,if_neg (by omega)]
   refine wk1 (x2 hlt' hx) ?_;refine ⟨k+1,by omega,by omega,?_⟩;unfold q5I;rw [← er];refine q3j (r:=20) (k:=k) (row:=q69 (bgR b k)) (fun _ h=>h rfl) hlt (by intro x hx; simp at hx; subst hx; trivial) ?_ ?_ (fun i h1 h2 h3 h4=>?_) (fun _ _=>clV) BOk.h0 (.inl (by omega)) (by omega) (by omega) (by omega) (by simp [nmW]) ?_
   ·try simp -implicitDefEqProofs (disch:=omega) only [go_sem,Nat.reduceEqDiff,Nat.reduceAdd,↓reduceIte]
   ·try simp -implicitDefEqProofs (disch:=omega) only [go_sem,Nat.reduceEqDiff,Nat.reduceAdd,↓reduceIte]
   ·rw [q0B h2,q0B h4,q0T h1]
   ·try refine Zz ?_
    rfl
  ·have hlt':¬ (k:Int) < n:=by omega
   obtain rfl:n=k:=by omega
   refine wk1 hlt' ?_;refine (rtM (rs:=[.tmp 2]) rfl rfl Lq ?_ (.inl rfl));exact LeF q37 (fun i b hb=>((q09 Oq).b i b hb).1) (wfB (q09 Oq)) (.ow rfl q1i)
def qln {k z:Nat} {l:List PV} (hn:n≤1000) (hk:k < n) (hcl:ClL l) (hz:900000≤z∧z < 1000000):BOk (q7I 45 40 (some 4) 5000 10000 n (q69 rows) k z l) win:=⟨fun i b hb=>by
 obtain ⟨h0,h1⟩:=q58 hb
 rcases h1 with ⟨rfl,rfl⟩ | ⟨_,rfl,rfl⟩ | ⟨q0,q1,q2,q3,rfl⟩
 ·exact ⟨⟨by omega,by omega⟩,rfl,IdL.of fun x hx=>q6I (hcl x hx)⟩
 ·refine ⟨⟨by omega,by omega⟩,rfl,IdL.of fun x hx=>?_⟩;obtain ⟨c,hc⟩:=List.mem_iff_getElem?.1 hx;rw [List.getElem?_set] at hc
  split at hc
  ·split at hc
   ·cases hc;unfold IdP q7I;rw [if_neg (by omega),if_pos rfl];exact Option.some_ne_none _
   ·cases hc
  ·rename_i hkc;rw [List.getElem?_map] at hc
   rcases Nat.lt_or_ge c n with hcn | hcn
   ·rw [List.getElem?_range hcn] at hc;cases hc;unfold IdP q7I;rw [if_neg (by omega),if_neg (by omega),if_neg (by omega),q1T (by omega) hcn];exact Option.some_ne_none _
   ·rw [List.getElem?_eq_none (by simpa using hcn)] at hc; cases hc
 ·exact ⟨⟨by omega,by omega⟩,rfl,IdL.of fun x hx=>q6I (clV x hx)⟩⟩
def q63 {k:Nat} {a c:Nat} (hn:n≤1000) (hk:k < n) (hl:(rows k).length≤2000) (ha:q0G a∧a < 18446744073709551616) (hc:q0G c∧c < 18446744073709551616) :
  ACxt 220 [.ow 5000 none 0 n,iv k,uv a,uv c] (q5I n rows) (.tu []) (q7I 45 40 (some 4) 5000 10000 n (q69 rows) k 900000 ((rows k ++ [-(q10 a c)]).map fun V=>pV V)):=by
 refine actx qkq Tryz.func220 rfl Tryz.ntmps220 (by kernel_rfl) ?_ ?_ ?_ ?_
 ·intro i b hb;obtain ⟨h1,h2,h3⟩:=(q09 hn).b i b hb;refine ⟨h1,h2,IdL_mono (fun j hj=>?_) _ h3,?_⟩
  ·obtain ⟨c,hc⟩:=Option.ne_none_iff_exists'.1 hj;exact ((q09 hn).b j c hc).1
  ·unfold q7I
   by_cases hi:i=k+10000
   ·exact .inl (if_pos hi)
   ·refine .inr ?_;rw [if_neg hi]
    rcases q0q hb with ⟨rfl,rfl⟩ | ⟨q0,q1,q2,rfl⟩ | ⟨_,_,q⟩
    ·rw [if_neg (by omega),if_pos rfl];exact ⟨_,rfl,rfl,by simp⟩
    ·rw [if_neg (by omega),if_neg q0];exact ⟨_,hb,rfl,Nat.le_refl _⟩
    ·cases q
 ·exact fun i b hb=>((qln hn hk clV ⟨by omega,by omega⟩).b i b hb).1
 ·exact IdL.of fun x hx=>by
   simp at hx
   rcases hx with rfl | rfl | rfl | rfl <;> unfold IdP
   ·exact ⟨by omega,by omega⟩
   all_goals trivial
 have C1:=q1v ha.2 (q0N ha.1);have C2:=q1v hc.2 (q0N hc.1);have M:=q0k ha.1 hc.1;have C3:=qdY (q11 ha.1) (q11 hc.1) M.1;have hmd:=(q5o M.1).2.2.2;have C4:=q4a (q9T hmd) (by unfold q00 at *; rw [Int.natAbs_neg]; exact hmd);have rk:(List.range n)[k]?=some k:=List.getElem?_range hk;refine wk1 rk ?_;refine rtM (rs:=[]) rfl rfl Lq ?_ (.inr rfl);have tI:∀ i,i≠900000→tnU 900000 21 i=some i:=fun i h=>if_neg h;have eZ:∀ i,i≠900000→i≠k+10000→i≠5000→q7I 45 40 (some 4) 5000 10000 n (q69 rows) k 900000 ((rows k ++ [-(q10 a c)]).map fun V=>pV V) i=q5I n rows i:=fun i h1 h2 h3=>by unfold q7I; rw [if_neg h2,if_neg h1,if_neg h3]
 refine q4l (tnU 900000 21) (fun i b hb=>?_) (fun i j x b d hi hj ti tj=>?_) (fun _=>.tu rfl fun i x y hx _=>by simp at hx) fun i hi h5 h6=>tI i ?_
 ·obtain ⟨h0,h1⟩:=q58 hb;unfold LeB
  rcases h1 with ⟨rfl,rfl⟩ | ⟨_,rfl,rfl⟩ | ⟨q0,q1,q2,q3,rfl⟩
  ·rw [show tnU 900000 21 900000=some 21 from if_pos rfl];refine ⟨_,rfl,rfl,rfl,⟨rfl,rfl⟩,q0M ?_ clV⟩;rw [List.map_append]; rfl
  ·rw [tI 5000 (by omega)];refine ⟨_,rfl,rfl,rfl,⟨rfl,rfl⟩,by simp,fun p u v hu hv=>?_⟩;rw [List.getElem?_set] at hu hv
   by_cases hkp:k=p
   ·subst hkp;rw [if_pos rfl,if_pos (by simpa using hk)] at hu hv;cases hu; cases hv;rw [List.length_map,List.length_append];exact .ow (if_pos rfl) (by unfold q7I; rw [if_neg (by omega),if_pos rfl])
   ·rw [if_neg hkp] at hu hv;rw [List.getElem?_map] at hu hv
    rcases Nat.lt_or_ge p n with hpn | hpn
    ·rw [List.getElem?_range hpn] at hu hv;cases hu; cases hv
     show LeV _ _ _ (.ow (p+10000) (some 4) 0 (rows p).length) (.ow (p+10000) (some 4) 0 ((rows p).map fun V=>pV V).length)
     rw [List.length_map];exact .ow (tI _ (by omega)) (by rw [eZ _ (by omega) (by omega) (by omega)]; exact q1T (by omega) hpn)
    ·rw [List.getElem?_eq_none (by simpa using hpn)] at hu; cases hu
  ·rw [tI i q0];refine ⟨_,?_,rfl,rfl,⟨rfl,rfl⟩,q0M rfl clV⟩;rw [q0B q1,q0B (by omega),q0B h0,q0B (by omega),← eZ i q0 h0 q1];exact hb
 ·have a1:∀ i b,q7I 45 40 (some 4) 5000 10000 n (q69 rows) k 900000 ((rows k ++ [-(q10 a c)]).map fun V=>pV V) i=some b→i≠21:=fun i b hb=>by
   obtain ⟨_,h1⟩:=q58 hb
   rcases h1 with ⟨rfl,_⟩ | ⟨_,rfl,_⟩ | ⟨_,_,q,_⟩ <;> omega
  have b1:=a1 i b hi;have b2:=a1 j d hj;unfold tnU at ti tj
  split at ti <;> split at tj <;> cases ti <;> cases tj <;> first | omega | rfl | exact (b1 rfl).elim | exact (b2 rfl).elim
 ·rintro rfl;refine hi.1 ?_;unfold q5I;rw [q0L (by omega) (by omega)]; rfl
end
def psG (g:Nat→Int):List (Nat × Nat)→(Nat→List Int)→Nat→List Int
 | [],rows=>rows
 | e :: L,rows=>psG g L (q3c rows e.1 (-(g e.2)))
def ctG (g:Nat→Int) (L:List (Nat × Nat)) (r:Nat):Int:=q1U (L.map fun e=>if e.1=r then g e.2 else 0)
def qe4 {g:Nat→Int}:∀ (A B:List (Nat × Nat)) (rows:Nat→List Int),psG g (A ++ B) rows=psG g B (psG g A rows)
 | [],_,_=>rfl
 | e :: A,B,rows=>by rw [List.cons_append,psG,psG,qe4 A B]
def qm4 {g:Nat→Int} {t:Nat} {L:List (Nat × Nat)} {e:Nat × Nat} {rows:Nat→List Int} (he:L[t]?=some e):psG g (L.take (t+1)) rows=q3c (psG g (L.take t) rows) e.1 (-(g e.2)):=by
 rw [q1D he,qe4]; rfl
def q71 {g:Nat→Int} {r:Nat}:∀ (L:List (Nat × Nat)) (rows:Nat→List Int),q1U (psG g L rows r)=q1U (rows r)-ctG g L r
 | [],rows=>by unfold psG ctG; rw [List.map_nil,q5K]; omega
 | e :: L,rows=>by
  rw [psG,q71 L,qdT];have:ctG g (e :: L) r=(if e.1=r then g e.2 else 0)+ctG g L r:=by unfold ctG; rw [List.map_cons,q3l]
  rw [this]
  by_cases h:r=e.1
  ·rw [if_pos h,if_pos h.symm]; omega
  ·rw [if_neg h,if_neg fun q=>h q.symm]; omega
def qkM {g:Nat→Int}:∀ (L:List (Nat × Nat)) (rows:Nat→List Int) (m:Nat),(∀ e ∈ L,bl (g e.2).natAbs≤67600)→(∀ r,(rows r).length≤m)→(∀ r,∀ z ∈ rows r,bl z.natAbs≤67600)→(∀ r,(psG g L rows r).length≤m+L.length)∧∀ r,∀ z ∈ psG g L rows r,bl z.natAbs≤67600
 | [],rows,m,_,h1,h2=>⟨h1,h2⟩
 | e :: L,rows,m,he,h1,h2=>by
  have hz:bl (-(g e.2)).natAbs≤67600:=by rw [Int.natAbs_neg]; exact he e List.mem_cons_self
  have b1:=qg7 (k:=e.1) h1 h2 hz;have b2:=qkM L _ (m+1) (fun d hd=>he d (List.mem_cons_of_mem _ hd)) b1.1 b1.2;rw [psG];exact ⟨fun r=>by have:=b2.1 r; rw [List.length_cons]; omega,b2.2⟩
abbrev psE (y:Nat):=psG fun v=>q10 v y
structure RB (rows:Nat→List Int) (m:Nat):Prop where
 l:∀ r,(rows r).length≤m
 b:∀ r,∀ z ∈ rows r,bl z.natAbs≤67600
def RB.pg {rows:Nat→List Int} {m:Nat} {g:Nat→Int} {L:List (Nat × Nat)} (h:RB rows m) (hL:∀ e ∈ L,bl (g e.2).natAbs≤67600):RB (psG g L rows) (m+L.length):=by
 obtain ⟨h1,h2⟩:=qkM L rows m hL h.l h.b;exact ⟨h1,h2⟩
def RB.ps {rows:Nat→List Int} {m y:Nat} {L:List (Nat × Nat)} (h:RB rows m) (hy:q0G y) (hL:∀ e ∈ L,q0G e.2):RB (psE y L rows) (m+L.length):=h.pg fun e he=>(q0k (hL e he) hy).2
def RB.mono {rows:Nat→List Int} {m m':Nat} (h:RB rows m) (hm:m≤m'):RB rows m':=⟨fun r=>Nat.le_trans (h.l r) hm,h.b⟩
def RB.bg {b:List Nat} {k:Nat} (hb:q1E b):RB (bgR b k) 1:=⟨fun r=>by unfold bgR; split <;> simp,fun r z hz=>by
 unfold bgR at hz
 split at hz
 ·simp at hz; subst hz; exact Nat.le_trans (q0u (q2j hb).2) (by omega)
 ·cases hz⟩
def qar {g:Nat→Int}:∀ m,sg g (m+1)=g 0+sg (fun i=>g (i+1)) m
 | 0=>by rw [sg,sg,sg]; omega
 | m+1=>by rw [sg,qar m,show sg (fun i=>g (i+1)) (m+1)=sg (fun i=>g (i+1)) m+g (m+1) from rfl]; omega
section
variable {D:Nat→Nat→Nat} {E:Nat→List (Nat × Nat)} {n k:Nat} {ys:List Nat} {rows:Nat→List Int}
def RLo (D:Nat→Nat→Nat) (n k:Nat) (ys:List Nat) (rows:Nat→List Int):Prop:=∀ r,k≤r→r < n→q1U (rows r)=ofZ (ys.getD r 0)-sg (fun c=>q10 (D r c) (ys.getD c 0)) k
def RUp (D:Nat→Nat→Nat) (n k:Nat) (ys:List Nat) (rows:Nat→List Int):Prop:=∀ r,r < k→q1U (rows r)=ofZ (ys.getD r 0)-sg (fun i=>q10 (D r (k+i)) (ys.getD (k+i) 0)) (n-k)
def qgF {b:List Nat} {r:Nat} (hr:r < b.length):q1U (bgR b b.length r)=ofZ (b.getD r 0):=by
 unfold bgR;rw [if_pos hr,q5J]
def RLo.bg (hn:ys.length=n):RLo D n 0 ys (bgR ys n):=fun r _ hr=>by
 subst hn;rw [qgF hr,sg]; omega
def RUp.bg (hn:ys.length=n):RUp D n n ys (bgR ys n):=fun r hr=>by
 subst hn;rw [qgF hr,Nat.sub_self,sg]; omega
def qco {i v:Nat} (h:i≠k):(ys.set k v).getD i 0=ys.getD i 0:=by
 rw [List.getD_eq_getElem?_getD,List.getD_eq_getElem?_getD,List.getElem?_set,if_neg fun q=>h q.symm]
def qhx {v:Nat} (h:k < ys.length):(ys.set k v).getD k 0=v:=by
 rw [List.getD_eq_getElem?_getD,List.getElem?_set_self h]; rfl
def RLo.s {v:Nat} (h:RLo D n k ys rows) (hl:k < ys.length) (hE:((E k).map (·.1)).Nodup) (hD:∀ r,D r k=ctV (E k) r):RLo D n (k+1) (ys.set k v) (psE v (E k) rows):=fun r h1 h2=>by
 have e:sg (fun c=>q10 (D r c) ((ys.set k v).getD c 0)) k=sg (fun c=>q10 (D r c) (ys.getD c 0)) k:=q3m k fun i hi=>by rw [qco (by omega)]
 rw [q71,h r (by omega) h2,show ctG (fun x=>q10 x v) (E k) r=q10 (ctV (E k) r) v from qtf hE,← hD,qco (by omega),sg,qhx hl,e];omega
def RUp.s {v x:Nat} {m:List (Nat × Nat)} (h:RUp D n (k+1) ys rows) (hk:k < n) (hl:k < ys.length) (hE:((E k).map (·.1)).Nodup) (hm:E k=m ++ [(k,x)]) (hD:∀ r,D r k=ctV (E k) r):RUp D n k (ys.set k v) (psE v m rows):=fun r h1=>by
 have e1:ctV (E k) r=ctV m r:=by
  rw [hm];unfold ctV;rw [List.find?_append];cases m.find? fun e=>e.1 == r with
  | some e=>rfl
  | none=>rw [List.find?_cons,show (k == r)=false by simp; omega]; rfl
 have e2:(m.map (·.1)).Nodup:=by
  rw [hm,List.map_append] at hE;exact (List.nodup_append.1 hE).1
 rw [q71,h r (by omega),show ctG (fun x=>q10 x v) m r=q10 (ctV m r) v from qtf e2,← e1,← hD,qco (by omega),show n-k=(n-(k+1))+1 by omega,qar];have:sg (fun i=>q10 (D r (k+(i+1))) ((ys.set k v).getD (k+(i+1)) 0)) (n-(k+1))=sg (fun i=>q10 (D r (k+1+i)) (ys.getD (k+1+i) 0)) (n-(k+1)):=q3m _ fun i _=>by rw [qco (by omega),show k+(i+1)=k+1+i by omega]
 rw [this];simp only [Nat.add_zero];rw [qhx hl];omega
def RLo.v (h:RLo D n k ys rows) (hk:k < n):q1U (rows k)=loZ D ys k:=h k (Nat.le_refl _) hk
def RUp.v (h:RUp D n (k+1) ys rows):q1U (rows k)=upZ D ys n k:=h k Oq
end
def yLo (n:Nat) (ys:List Nat) (k:Nat):List Nat:=rwG n (fun i=>ys.getD i 0) k
def yUp (n:Nat) (ys:List Nat) (k:Nat):List Nat:=(List.range n).map fun j=>if k≤j then ys.getD j 0 else 0
section
variable {n k v:Nat} {ys:List Nat}
def qlX:(yLo n ys k).length=n:=q3S
def qlV:(yUp n ys k).length=n:=by unfold yUp; simp
def qpi:yLo n ys 0=List.replicate n 0:=qcU.symm
def yUp_n:yUp n ys n=List.replicate n 0:=by
 unfold yUp;refine List.ext_getElem? fun i=>?_;rw [List.getElem?_map,List.getElem?_replicate]
 by_cases h:i < n
 ·rw [List.getElem?_range h,if_pos h,Option.map_some,if_neg (by omega)]
 ·rw [List.getElem?_eq_none (by simpa using h),if_neg h]; rfl
def yLo_s (hl:ys.length=n) (hk:k < n):(yLo n ys k).set k v=yLo n (ys.set k v) (k+1):=by
 unfold yLo rwG;dsimp only;refine List.ext_getElem? fun i=>?_;rw [List.getElem?_set,List.getElem?_map,List.getElem?_map,List.length_map,List.length_range]
 by_cases h:i < n
 ·rw [List.getElem?_range h,Option.map_some,Option.map_some]
  by_cases h2:k=i
  ·subst h2;rw [if_pos rfl,if_pos h,if_pos (by omega),qhx (by omega)]
  ·rw [if_neg h2,qco (by omega)]
   by_cases h3:i < k
   ·rw [if_pos h3,if_pos (by omega)]
   ·rw [if_neg h3,if_neg (by omega)]
 ·rw [List.getElem?_eq_none (by simpa using h),if_neg (by omega)]; rfl
def yUp_s (hl:ys.length=n) (hk:k < n):(yUp n ys (k+1)).set k v=yUp n (ys.set k v) k:=by
 unfold yUp;refine List.ext_getElem? fun i=>?_;rw [List.getElem?_set,List.getElem?_map,List.getElem?_map,List.length_map,List.length_range]
 by_cases h:i < n
 ·rw [List.getElem?_range h,Option.map_some,Option.map_some]
  by_cases h2:k=i
  ·subst h2;rw [if_pos rfl,if_pos h,if_pos (by omega),qhx (by omega)]
  ·rw [if_neg h2,qco (by omega)]
   by_cases h3:k≤i
   ·rw [if_pos h3,if_pos (by omega)]
   ·rw [if_neg h3,if_neg (by omega)]
 ·rw [List.getElem?_eq_none (by simpa using h),if_neg (by omega)]; rfl
def yLo_n (hl:ys.length=n):yLo n ys n=ys:=by
 unfold yLo rwG;dsimp only;refine List.ext_getElem? fun i=>?_;rw [List.getElem?_map]
 by_cases h:i < n
 ·rw [List.getElem?_range h,Option.map_some,if_pos h,List.getD_eq_getElem?_getD,List.getElem?_eq_getElem (by omega)]; rfl
 ·rw [List.getElem?_eq_none (by simpa using h),List.getElem?_eq_none (by omega)]; rfl
def yUp_0 (hl:ys.length=n):yUp n ys 0=ys:=by
 unfold yUp;refine List.ext_getElem? fun i=>?_;rw [List.getElem?_map]
 by_cases h:i < n
 ·rw [List.getElem?_range h,Option.map_some,if_pos (Nat.zero_le _),List.getD_eq_getElem?_getD,List.getElem?_eq_getElem (by omega)]; rfl
 ·rw [List.getElem?_eq_none (by simpa using h),List.getElem?_eq_none (by omega)]; rfl
end
def qmR {n m i:Nat} {g:Nat→Nat} (hi:i < n):(rwG n g m)[i]?=some (if i < m then g i else 0):=by
 unfold rwG;rw [List.getElem?_map,List.getElem?_range hi]; rfl
open Classical in
def qcT {l:List Nat} (hu:∀ x ∈ l,x < 18446744073709551616) (hn:l.length≤1000000):ACt 268 [pF l] (iv (if ¬ ∀ x ∈ l,q0G x then 4 else 0)):=by
 obtain ⟨res,hres⟩:∃ res:Int,res=if ¬ ∀ x ∈ l,q0G x then 4 else 0:=⟨_,rfl⟩
 rw [← hres];refine ac0 Tryz.func268 Tryz.ntmps268 [.tmp 2] ?_;refine wk ?_;refine q0A (fun i=>i≤l.length∧∀ x ∈ l.take i,q0G x) [0,5,6] [] Lk Lk (fun i:Nat=>[(7,iv i)]) (fun _=>[]) (fun i=>l.length-i) 0 ⟨Nat.zero_le _,by simp⟩ ?_ ?_
 ·refine LeM [] rfl rfl ?_;refine Zz ?_
  rfl
 ·rintro i ⟨hi,hf⟩
  by_cases hil:i < l.length
  ·obtain ⟨x,hx⟩:∃ x,l[i]?=some x:=⟨_,List.getElem?_eq_getElem hil⟩;have hmx:=List.mem_of_getElem? hx;have cF:=q34 (hu x hmx)
   by_cases hfx:q0G x
   case neg =>
    rw [decide_eq_false hfx] at cF;refine wk1 hx ?_;exact (hres.trans (if_pos fun h=>hfx (h x hmx))).symm
   rw [decide_eq_true hfx] at cF;refine wk1 hx ?_;refine ⟨i+1,⟨by omega,?_⟩,by omega,?_⟩
   ·rw [q1D hx];intro y hy
    rcases List.mem_append.1 hy with hy | hy
    ·exact hf y hy
    ·simp at hy; subst hy; exact hfx
   ·refine LeM [] rfl rfl ?_;refine Zz ?_
    rfl
  ·obtain rfl:i=l.length:=by omega
   rw [List.take_length] at hf;refine wk ?_;exact (hres.trans (if_neg (not_not_intro hf))).symm
def qmG {e:Int} {n:Nat} {l:List Nat} (h:q9K e n l=0):e=0∧l.length=n∧∀ x ∈ l,q0G x:=by
 unfold q9K at h
 split at h
 ·exact absurd h (by assumption)
 ·split at h
  ·cases h
  ·split at h
   ·cases h
   ·rename_i h1 h2 h3;exact ⟨Decidable.not_not.1 h1,Decidable.not_not.1 h2,Classical.not_not.1 h3⟩
def q08 {l:List Nat} (hn:l.length≤1000000):ACt 32 [pF l,pF l] (bv true):=by
 have q:((l.length:Int) != (l.length:Int))=false:=by simp
 refine ac0 Tryz.func32 Tryz.ntmps32 [.tmp 4] ?_;refine wk1 q ?_;refine q0A (fun i=>i≤l.length) [0,1] [] Lk Lk (fun i:Nat=>[(5,iv i)]) (fun _=>[]) (fun i=>l.length-i) 0 (Nat.zero_le _) ?_ ?_
 ·refine LeM [] rfl rfl ?_;refine Zz ?_
  rfl
 ·intro i hi
  by_cases hil:i < l.length
  ·obtain ⟨x,hx⟩:∃ x,l[i]?=some x:=⟨_,List.getElem?_eq_getElem hil⟩;have q2:((x:Int) != (x:Int))=false:=by simp
   refine wk1 (x2 hx q2) ?_;refine ⟨i+1,by omega,by omega,?_⟩;refine LeM [] rfl rfl ?_;refine Zz ?_
   rfl
  ·exact wk trivial
def q40 {raw:List Nat} {k st:Int} {n:Nat} (hr:raw.length≤9223372036854775807) (hn:n≤1000000) (h1 : -1000000≤k) (h2:k≤1000000) (h3 : -9223372036854775808≤st) (h4:st≤9223372036854775807) :
  qg6 29 [pF raw,iv k,iv n,iv st] h0 (.ow 5000 none 0 n) (q0P h0 5000 ⟨43,none,(q6R raw k (q04 st 4) n).map fun z:Nat=>uv z,false⟩):=by
 have hJ:∀ i,¬ (h0 i≠none):=fun i h=>h rfl;refine qjR qoE Tryz.func29 rfl Tryz.ntmps29 (by kernel_rfl) ?_ ?_ ?_ ?_
 ·intro i b hb; cases hb
 ·intro i b hb
  by_cases hi:i=5000
  ·subst hi; exact ⟨by omega,by omega⟩
  ·rw [q0B hi] at hb; cases hb
 ·exact IdL.of fun x hx=>by
   simp at hx
   rcases hx with rfl | rfl | rfl | rfl <;> unfold IdP <;> trivial
 have hW:WfH h0:=⟨fun i b hb=>by cases hb⟩;refine wk ?_;refine q0U (fun i=>i≤n) [0,1,2,3] [] Lk Lk (fun i:Nat=>[(10,iv i),(9,.ow 11 none 0 i)]) (fun i=>[(11,⟨43,none,(q6R raw k (q04 st 4) i).map fun z:Nat=>uv z,false⟩)]) (fun _=>h0) (fun i=>n-i) 0 (Nat.zero_le _) ?_ ?_
 ·refine LeW [] rfl rfl ?_ ?_ (by simp [q1I,q0t,win]) ?_
  ·exact Ow
  ·exact hW
  ·try refine Zz ?_
   exact ⟨rfl,rfl⟩
 ·intro i hi
  by_cases hlt:i < n
  ·have C1:=@q7A;have C2:=@qe9;have C3:=@q2b;refine wk1 @q1k ?_;refine ⟨i+1,by omega,by omega,?_⟩;refine LeW [(11,some 26)] rfl rfl ?_ ?_ (by simp [q1I,q0t,win]) ?_
   ·exact Ow
   ·exact hW
   ·try refine Zz ?_
    exact ⟨by omega,by rw [qj7]⟩
  ·obtain rfl:i=n:=by omega
   refine wk ?_;refine (rtM (rs:=[.tmp 8]) rfl rfl Lq ?_ (.inl rfl));refine LeO hJ ?_ clU
   try simp -implicitDefEqProofs (disch:=omega) only [go_sem,Nat.reduceEqDiff,Nat.reduceAdd,↓reduceIte]


def qbX {l:List Nat} (h:q1E l) (i:Nat):l.getD i 0 < 18446744073709551616∧q0G (l.getD i 0):=by
 rw [List.getD_eq_getElem?_getD];cases hx:l[i]? with
 | none=>exact ⟨by simp,by unfold q0G; simp⟩
 | some x=>exact h x (List.mem_of_getElem? hx)

section
variable {F:Nat→Nat→Option Nat} {l:List Int} {cs:List Nat} {cols:List (List Nat)} {j n M:Nat} {p:LSt}
end
def q2P {raw:List Nat} {k:Int} {st n:Nat}:q1E (q6R raw k st n):=fun x hx=>by
 unfold q6R at hx;obtain ⟨i,_,rfl⟩:=List.mem_map.1 hx;have:=qea (k:=st) (q2b raw (k+i));exact ⟨this.2,this.1⟩


def gaS (l:List Nat) (o:List Int) (n:Nat):List Nat:=rwG n (fun k=>l.getD (o.getD k 0).toNat 0) n
def scS (x:List Nat) (o:List Int) (n:Nat):Nat→List Nat
 | 0=>List.replicate n 0
 | k+1=>(scS x o n k).set (o.getD k 0).toNat (x.getD k 0)
def q44 {x:List Nat} {o:List Int} {n:Nat}:∀ k,(scS x o n k).length=n
 | 0=>List.length_replicate
 | k+1=>by rw [scS,List.length_set,q44 k]
def q9w {l:List Nat} {o:List Int} {n:Nat}:(gaS l o n).length=n:=q3S
def q9x {l:List Nat} {o:List Int} {n:Nat} (hl:q1E l):q1E (gaS l o n):=fun x hx=>by
 unfold gaS rwG at hx;obtain ⟨j,_,rfl⟩:=List.mem_map.1 hx
 split
 ·exact qbX hl _
 ·exact ⟨by omega,by unfold q0G; simp⟩
section
variable {l:List Nat} {o:List Int} {n:Nat}
def qcS (hl:l.length=n) (ho:o.length=n) (hn:n≤1000000) (hb:∀ x ∈ o,0≤x∧x < n):ACt 179 [pF l,pI o] (pF (gaS l o n)):=by
 unfold gaS;have hgl:∀ m,(rwG n (fun k=>l.getD (o.getD k 0).toNat 0) m).length=n:=fun _=>q3S;generalize hg:(fun k=>l.getD (o.getD k 0).toNat 0)=g at *;refine ac0 Tryz.func179 Tryz.ntmps179 [.tmp 4] ?_;refine wk1 hl ?_;refine q0A (fun k=>k≤n) [0,11,12] [] Lk Lk (fun k:Nat=>[(13,iv k),(5,.ow 1001 none 0 n)]) (fun k=>[(1001,⟨43,none,(rwG n g k).map fun z:Nat=>uv z,false⟩)]) (fun k=>n-k) 0 (Nat.zero_le _) ?_ ?_
 ·rw [← qcU];refine LeM [(1001,some 10)] rfl rfl ?_;refine Zz ?_;simp
 ·intro k hk
  by_cases hlt:k < n
  ·obtain ⟨x,hx⟩:∃ x,o[k]?=some x:=⟨_,List.getElem?_eq_getElem Oq⟩;obtain ⟨h1,h2⟩:=hb x (List.mem_of_getElem? hx);obtain ⟨x,rfl⟩:∃ y:Nat,x=y:=⟨x.toNat,by omega⟩;obtain ⟨u,hu⟩:∃ u,l[x]?=some u:=⟨_,List.getElem?_eq_getElem Oq⟩;have hs:=qeD (n:=n) (g:=g) (m:=k);have hgk:g k=u:=by rw [← hg]; simp only [getD_some hx,Int.toNat_natCast,getD_some hu]
   rw [hgk] at hs;refine wk1 (x3 hx hu (hgl k)) ?_;refine ⟨k+1,by omega,by omega,?_⟩;refine LeM [] rfl rfl ?_;refine Zz ?_;rw [← hs];exact ⟨by omega,rfl⟩
  ·obtain rfl:k=n:=by omega
   have hgk:=hgl k;exact wk1 ho trivial
def qpP (hl:l.length=n) (ho:o.length=n) (hn:n≤1000000) (hb:∀ x ∈ o,0≤x∧x < n):ACt 224 [pF l,pI o] (pF (gaS l o n)):=by
 unfold gaS;have hgl:∀ m,(rwG n (fun k=>l.getD (o.getD k 0).toNat 0) m).length=n:=fun _=>q3S;generalize hg:(fun k=>l.getD (o.getD k 0).toNat 0)=g at *;refine ac0 Tryz.func224 Tryz.ntmps224 [.tmp 4] ?_;refine wk1 ho ?_;refine q0A (fun k=>k≤n) [0,1] [] Lk Lk (fun k:Nat=>[(6,iv k),(5,.ow 1001 none 0 n)]) (fun k=>[(1001,⟨43,none,(rwG n g k).map fun z:Nat=>uv z,false⟩)]) (fun k=>n-k) 0 (Nat.zero_le _) ?_ ?_
 ·rw [← qcU];refine LeM [(1001,some 9)] rfl rfl ?_;refine Zz ?_;simp
 ·intro k hk
  by_cases hlt:k < n
  ·obtain ⟨x,hx⟩:∃ x,o[k]?=some x:=⟨_,List.getElem?_eq_getElem Oq⟩;obtain ⟨h1,h2⟩:=hb x (List.mem_of_getElem? hx);obtain ⟨x,rfl⟩:∃ y:Nat,x=y:=⟨x.toNat,by omega⟩;obtain ⟨u,hu⟩:∃ u,l[x]?=some u:=⟨_,List.getElem?_eq_getElem Oq⟩;have hs:=qeD (n:=n) (g:=g) (m:=k);have hgk:g k=u:=by rw [← hg]; simp only [getD_some hx,Int.toNat_natCast,getD_some hu]
   rw [hgk] at hs;refine wk1 (x4 ho hx hu (hgl k)) ?_;refine ⟨k+1,by omega,by omega,?_⟩;refine LeM [] rfl rfl ?_;refine Zz ?_;rw [← hs];exact ⟨by omega,rfl⟩
  ·obtain rfl:k=n:=by omega
   have hgk:=hgl k;exact wk1 ho trivial
def q98 (hl:l.length=n) (ho:o.length=n) (hn:n≤1000000) (hb:∀ x ∈ o,0≤x∧x < n):qg6 182 [pF l,pI o] h0 (.ow 5000 none 0 n) (q0P h0 5000 ⟨43,none,(scS l o n n).map fun z:Nat=>uv z,false⟩):=by
 have hJ:∀ i,¬ (h0 i≠none):=fun i h=>h rfl;refine qjR qks Tryz.func182 rfl Tryz.ntmps182 (by kernel_rfl) ?_ ?_ ?_ ?_
 ·intro i b hb; cases hb
 ·exact qc8
 ·exact IdL.of fun x hx=>by
   simp at hx
   rcases hx with rfl | rfl <;> unfold IdP <;> trivial
 have hW:WfH h0:=⟨fun i b hb=>by cases hb⟩;refine wk1 hl ?_;refine q0U (fun k=>k≤n) [0,11,12] [] Lk Lk (fun k:Nat=>[(13,iv k),(5,.ow 1001 none 0 n)]) (fun k=>[(1001,⟨43,none,(scS l o n k).map fun z:Nat=>uv z,false⟩)]) (fun _=>h0) (fun k=>n-k) 0 (Nat.zero_le _) ?_ ?_
 ·refine LeW [(1001,some 10)] rfl rfl ?_ ?_ (by simp [q1I,q0t,win]) ?_
  ·exact Ow
  ·exact hW
  ·rw [scS]
   try refine Zz ?_
   simp
 ·intro k hk
  by_cases hlt:k < n
  ·obtain ⟨x,hx⟩:∃ x,o[k]?=some x:=⟨_,List.getElem?_eq_getElem Oq⟩;obtain ⟨h1,h2⟩:=hb x (List.mem_of_getElem? hx);obtain ⟨x,rfl⟩:∃ y:Nat,x=y:=⟨x.toNat,by omega⟩;obtain ⟨u,hu⟩:∃ u,l[k]?=some u:=⟨_,List.getElem?_eq_getElem Oq⟩;have hs:scS l o n (k+1)=(scS l o n k).set x u:=by rw [scS,getD_some hx,Int.toNat_natCast,getD_some hu]
   have hsl:=q44 (x:=l) (o:=o) (n:=n) k;refine wk1 (x3 hx hu hsl) ?_;refine ⟨k+1,by omega,by omega,?_⟩;refine LeW [] rfl rfl ?_ ?_ (by simp [q1I,q0t,win]) ?_
   ·exact Ow
   ·exact hW
   ·try refine Zz ?_
    exact ⟨by omega,hs.symm⟩
  ·obtain rfl:k=n:=by omega
   refine wk1 ho ?_;refine (rtM (rs:=[.tmp 4]) rfl rfl Lq ?_ (.inl rfl));refine LeO hJ ?_ clU
   try simp -implicitDefEqProofs (disch:=omega) only [go_sem,Nat.reduceEqDiff,Nat.reduceAdd,↓reduceIte]
def q9P (hl:l.length=n) (ho:o.length=n) (hn:n≤1000000) (hb:∀ x ∈ o,0≤x∧x < n):qg6 226 [pF l,pI o] h0 (.ow 5000 none 0 n) (q0P h0 5000 ⟨43,none,(scS l o n n).map fun z:Nat=>uv z,false⟩):=by
 have hJ:∀ i,¬ (h0 i≠none):=fun i h=>h rfl;refine qjR qko Tryz.func226 rfl Tryz.ntmps226 (by kernel_rfl) ?_ ?_ ?_ ?_
 ·intro i b hb; cases hb
 ·exact qc8
 ·exact IdL.of fun x hx=>by
   simp at hx
   rcases hx with rfl | rfl <;> unfold IdP <;> trivial
 have hW:WfH h0:=⟨fun i b hb=>by cases hb⟩;refine wk1 ho ?_;refine q0U (fun k=>k≤n) [0,1] [] Lk Lk (fun k:Nat=>[(6,iv k),(5,.ow 1001 none 0 n)]) (fun k=>[(1001,⟨43,none,(scS l o n k).map fun z:Nat=>uv z,false⟩)]) (fun _=>h0) (fun k=>n-k) 0 (Nat.zero_le _) ?_ ?_
 ·refine LeW [(1001,some 9)] rfl rfl ?_ ?_ (by simp [q1I,q0t,win]) ?_
  ·exact Ow
  ·exact hW
  ·rw [scS]
   try refine Zz ?_
   simp
 ·intro k hk
  by_cases hlt:k < n
  ·obtain ⟨x,hx⟩:∃ x,o[k]?=some x:=⟨_,List.getElem?_eq_getElem Oq⟩;obtain ⟨h1,h2⟩:=hb x (List.mem_of_getElem? hx);obtain ⟨x,rfl⟩:∃ y:Nat,x=y:=⟨x.toNat,by omega⟩;obtain ⟨u,hu⟩:∃ u,l[k]?=some u:=⟨_,List.getElem?_eq_getElem Oq⟩;have hs:scS l o n (k+1)=(scS l o n k).set x u:=by rw [scS,getD_some hx,Int.toNat_natCast,getD_some hu]
   have hsl:=q44 (x:=l) (o:=o) (n:=n) k;refine wk1 (x4 ho hx hu hsl) ?_;refine ⟨k+1,by omega,by omega,?_⟩;refine LeW [] rfl rfl ?_ ?_ (by simp [q1I,q0t,win]) ?_
   ·exact Ow
   ·exact hW
   ·try refine Zz ?_
    exact ⟨by omega,hs.symm⟩
  ·obtain rfl:k=n:=by omega
   refine wk1 ho ?_;refine (rtM (rs:=[.tmp 4]) rfl rfl Lq ?_ (.inl rfl));refine LeO hJ ?_ clU
   try simp -implicitDefEqProofs (disch:=omega) only [go_sem,Nat.reduceEqDiff,Nat.reduceAdd,↓reduceIte]
end
section
variable {n k z:Nat} {rows:Nat→List Int} {l:List PV}
def q8Q {j:Nat} (h:qcm (q5I n rows) (q7I 45 40 (some 4) 5000 10000 n (q69 rows) k z l) j):j=k+10000:=by
 obtain ⟨_,h2,h3⟩:=h;unfold q7I at h3
 split at h3
 ·assumption
 ·split at h3
  ·cases h3
  ·split at h3
   ·cases h3
   ·exact (h2 h3).elim
def qad (hn:n≤1000) (hk:k < n) (hl:(rows k).length≤1000) (hb:∀ z ∈ rows k,bl z.natAbs≤67600):ACt 219 [.sl none ((List.range n).map fun j=>.sl (some 4) ((rows j).map fun V=>pV V)),iv k] (dT (q1U (rows k))):=by
 have hd:=q4p hb Oq;have C1:=q9S (l:=rows k) hl (fun z hz=>by have:=hb z hz; unfold q00; omega) hd;have rk:(List.range n)[k]?=some k:=List.getElem?_range hk;refine ac0 Tryz.func219 Tryz.ntmps219 [.cell 4 40] ?_;exact wk1 rk trivial
def qaE {z:Int}:q68 (q69 rows) k ((rows k ++ [z]).map fun V=>pV V)=q69 (q3c rows k z):=by
 funext j
 unfold q68 q69 q3c
 by_cases h:j=k
 ·subst h; rw [if_pos rfl,if_pos rfl]
 ·rw [if_neg h,if_neg h]
end
def qle {st ix:List Int} {vs b:List Nat} {n:Nat} {E:Nat→List (Nat × Nat)} (hC:ColS n st ix vs E) (hbn:b.length=n) (hb:q1E b) (hn:n≤30) :
  ACt 217 [pI st,pI ix,pF vs,pF b] (fwP (geL (fun i c=>ctV (E c) i) n 0 b)):=by
 obtain ⟨D,hD⟩:∃ D:Nat→Nat→Nat,D=fun i c=>ctV (E c) i:=⟨_,rfl⟩;have hDv:=fun r k=>congrFun (congrFun hD r) k;rw [← hD];clear hD;obtain ⟨R,hR⟩:∃ R,R=geL D n 0 b:=⟨_,rfl⟩;rw [← hR];have cB:=qgG hb Oq;rw [hbn] at cB;have hnn:n*n≤30*30:=Nat.mul_le_mul hn hn;refine ac0 Tryz.func217 Tryz.ntmps217 [.tmp 8,.tmp 9] ?_;refine wk ?_;refine A_jW [(0,pI st),(1,pI ix),(2,pF vs),(3,pF b),(10,.ow 5000 none 0 n),(11,.ow 18 none 0 n)] [(18,⟨43,none,(yLo n b 0).map fun z:Nat=>uv z,false⟩)] (q5I n (bgR b n)) ?_ fun K0 fin=>?_
 rotate_left
 ·refine q6Q q3Y (.one 0 (.one 2 (.one 3 (.alt (.one 1 (.one 5 (.one 4 (.one 6 .fin)))) (.one 4 (.one 1 (.one 5 (.one 6 .fin)))))))) (by kernel_rfl) fun K9 hK9=>?_;refine Zz1 hbn ?_;refine ⟨?_,?_⟩
  ·refine jmF cB ?_ ?_
   ·exact Ow
   ·try refine Zz ?_
    refine hK9 _ _ (fin _ _ ?_);refine LeW [] rfl rfl ?_ ?_ (by simp [q1I,q0t,win]) ?_
    ·exact Ow
    ·exact wfB (q09 Oq)
    ·try refine Zz ?_
     exact qpi.symm
  ·refine jmF cB ?_ ?_
   ·exact Ow
   ·try refine Zz ?_
    refine hK9 _ _ (fin _ _ ?_);refine LeW [] rfl rfl ?_ ?_ (by simp [q1I,q0t,win]) ?_
    ·exact Ow
    ·exact wfB (q09 Oq)
    ·try refine Zz ?_
     exact qpi.symm
 refine wk1 hbn ?_;refine q0U (fun q:Nat × List Nat × (Nat→List Int)=>q.1≤n∧q.2.1.length=n∧q1E q.2.1∧RLo D n q.1 q.2.1 q.2.2∧RB q.2.2 (q.1*n+1)∧geL D (n-q.1) q.1 q.2.1=R) [0,1,2,10,20] [] Lk Lk (fun q=>[(21,iv q.1),(11,.ow 1001 none 0 n)]) (fun q=>[(1001,⟨43,none,(yLo n q.2.1 q.1).map fun z:Nat=>uv z,false⟩)]) (fun q=>q5I n q.2.2) (fun q=>n-q.1) (0,b,bgR b n) ⟨Nat.zero_le _,hbn,hb,RLo.bg hbn,by rw [Nat.zero_mul]; exact RB.bg hb,hR.symm⟩ ?_ ?_
 ·refine LeW [(1001,some 18)] rfl rfl ?_ ?_ (by simp [q1I,q0t,win]) ?_
  ·exact Ow
  ·exact wfB (q09 Oq)
  ·try refine Zz ?_
   rfl
 ·rintro ⟨k,ys,rows⟩ ⟨hk,hy,hfy,hlo,hrb,hv⟩;simp only at hk hy hfy hlo hrb hv ⊢;have hkn:k*n≤30*30:=Nat.mul_le_mul Oq hn
  by_cases hlt:k < n
  ·have hlt':(k:Int) < n:=by omega
   obtain ⟨a,a1,a2,a3,a4⟩:=hC.col k hlt;have hnd:=hC.nd k hlt;have hsz:=hC.sz k hlt;have hcl:=hC.len;obtain ⟨L,hL⟩:∃ L,L=E k:=⟨_,rfl⟩;rw [← hL] at a2 a3 a4 hnd hsz;have cT:=qad (rows:=rows) (k:=k) Oq hlt (by have:=hrb.l k; omega) (hrb.b k);have hd:=q4p (hrb.b k) (by have:=hrb.l k; omega);have cR:=q4E hd;have nd:=qh1 hd;rw [hlo.v hlt] at cT cR nd;rw [show n-k=(n-(k+1))+1 by omega,geL] at hv;have hqlt:fR 0 (loZ D ys k) < 18446744073709551616:=q3E;have hls:=fun v=>hlo.s (E:=E) (v:=v) Oq (by rwa [← hL]) (fun r=>hDv r k);rw [← hL] at hls;generalize loZ D ys k=S at *;generalize fR 0 S=v at *;have cF:=q34 hqlt;have hyl:=qlX (n:=n) (ys:=ys) (k:=k);have hys:=yLo_s (v:=v) hy hlt;have hset:((yLo n ys k).map fun z:Nat=>uv z).set k (uv (v:Nat))=(yLo n (ys.set k v) (k+1)).map fun z:Nat=>uv z:=by rw [← hys,List.map_set]
   have hset2:(((yLo n ys k).map fun z:Nat=>uv z).set k (uv (v:Nat)))[k]?=some (uv (v:Nat)):=List.getElem?_set_self (by rw [List.length_map,hyl]; exact hlt)
   by_cases hfx:q0G v
   ·rw [decide_eq_true hfx] at cF;rw [if_pos hfx] at hv;refine wk1 (x4 hlt' hyl hset2 a1) ?_;rw [hset] at hset2 ⊢;have hLf:∀ e ∈ L,q0G e.2∧e.2 < 18446744073709551616:=fun e he=>by
     obtain ⟨t,ht⟩:=List.mem_iff_getElem?.1 he;obtain ⟨_,_,_,q4,q5⟩:=a4 t e ht;exact ⟨q4,q5⟩
    have hBL:=fun t=>hrb.ps (L:=L.take t) hfx fun e he=>(hLf e (List.mem_of_mem_take he)).1;refine q0U (fun t:Nat=>t≤L.length) [0,1,2,10,11,12,20,21] [1001] Lk Lk (fun t=>[(13,iv ((a+t:Nat):Int))]) (fun _=>[]) (fun t=>q5I n (psE v (L.take t) rows)) (fun t=>L.length-t) 0 (Nat.zero_le _) ?_ ?_
    ·refine LeW [] rfl rfl ?_ ?_ (by simp [q1I,q0t,win]) ?_
     ·exact Ow
     ·exact wfB (q09 Oq)
     ·try simp -implicitDefEqProofs (disch:=omega) only [go_sem,Nat.reduceEqDiff,Nat.reduceAdd,↓reduceIte]
    ·intro t ht;have wkk:IntKind.i64.wrap ((k:Int)+1)=((k+1:Nat):Int):=by rw [i64_in (by omega) (by omega)]; omega
     by_cases hlt2:t < L.length
     ·obtain ⟨⟨i,w⟩,e1⟩:∃ e,L[t]?=some e:=⟨_,List.getElem?_eq_getElem hlt2⟩;obtain ⟨b1,b2,b3,b4,b5⟩:=a4 t (i,w) e1;dsimp only at b1 b2 b3 b4 b5;have hq:((a+t:Nat):Int) < ((a+L.length:Nat):Int):=by omega
      have wt:IntKind.i64.wrap (((a+t:Nat):Int)+1)=((a+(t+1):Nat):Int):=by rw [i64_in (by omega) (by omega)]; omega
      have hps:psE v (L.take (t+1)) rows=q3c (psE v (L.take t) rows) i (-(q10 w v)):=qm4 e1;have hli:(psE v (L.take t) rows i).length≤2000:=by have:=(hBL t).l i; rw [List.length_take] at this; omega
      have cX:=q63 (rows:=psE v (L.take t) rows) (k:=i) (n:=n) (a:=w) (c:=v) Oq b3 hli ⟨b4,b5⟩ ⟨hfx,hqlt⟩;generalize psE v (L.take t) rows=rs at *;have hgn:=fun j=>q8Q (j:=j) (n:=n) (rows:=rs) (k:=i) (z:=900000) (l:=(rs i ++ [-(q10 w v)]).map fun V=>pV V);refine wk1 (x3 hq a2 wkk) ?_;refine q6Q q3Y (.one 0 (.one 1 (.one 2 (.one 3 (.one 5 (.one 6 (.one 7 (.one 9 (.one 10 (.one 11 (.alt (.one 4 (.alt (.one 8 (.one 12 (.one 13 .fin))) (.one 12 (.one 8 (.one 13 .fin))))) (.alt (.one 8 (.alt (.one 4 (.one 12 (.one 13 .fin))) (.one 12 (.one 4 (.one 13 .fin))))) (.one 12 (.alt (.one 4 (.one 8 (.one 13 .fin))) (.one 8 (.one 4 (.one 13 .fin))))))))))))))))) (by kernel_rfl) fun K9 hK9=>?_;refine Zz3 b1 b2 hset2 ?_;have fin:∀ (s:Nat→PV) (h:Hp),Le (fun _=>False) s h (stM [(0,pI st),(1,pI ix),(2,pF vs),(10,.ow 5000 none 0 n),(11,.ow 1001 none 0 n),(12,iv k),(13,iv ((a+t:Nat):Int)),(20,iv n),(21,iv k)] []) (q0v (q5I n (q3c rs i (-(q10 w v)))) (hpM [(1001,⟨43,none,(yLo n (ys.set k v) (k+1)).map fun z:Nat=>uv z,false⟩)] []))→K9 s h:=fun s h hl=>by
       refine hK9 _ _ (q1M hl ?_);clear hK9 hl K9;refine wk1 wt ?_;refine ⟨t+1,by omega,by omega,?_⟩;rw [hps];refine LeW [] rfl rfl ?_ ?_ (by simp [q1I,q0t,win]) ?_
       ·exact Ow
       ·exact wfB (q09 Oq)
       ·try simp -implicitDefEqProofs (disch:=omega) only [go_sem,Nat.reduceEqDiff,Nat.reduceAdd,↓reduceIte]
      clear hK9
      repeat' (with_reducible apply And.intro)
      all_goals
       refine jx cX q37 (fun _ h=>h.elim) (qj0 (a:=i+10000) hgn ?_ ?_) ?_
       ·repeat (refine qcA ?_ (by first | (unfold IdP; first | trivial | omega) | simp [IdP,IdL]))
        first | exact (fun t=>by unfold stV IdP; trivial) | exact qgP (by simp [IdL,IdP]; omega) (by simp [IdL,IdP]) | exact qgP (by simp [IdL,IdP]) (by simp [IdL,IdP])
       ·repeat (refine qcE ?_ rfl (by first | exact qft clU | simp [IdL,IdP]))
        exact qjZ (qgU (fun p hp b hb=>by simp at hp; subst hp; cases hb; exact ⟨rfl,qft clU⟩) (by simp))
       ·try refine Zz ?_
        refine fin _ _ ?_;unfold q5I;rw [← qaE];refine q3j (r:=900000) (k:=i) (row:=q69 rs) (fun _ h=>h) b3 clV ?_ ?_ (fun i h1 h2 h3 h4=>?_) (fun _ _=>clV) BOk.h0 (.inr ⟨by omega,by omega⟩) (by omega) (by omega) (by omega) (by simp [nmW]) ?_
        ·rw [q0T ⟨by omega,by omega⟩];unfold q7I;rw [if_neg (by omega),if_neg (by omega),if_pos rfl]
        ·rw [q0T ⟨by omega,by omega⟩];unfold q7I;rw [if_neg (by omega),if_pos rfl]
        ·rw [q0T h1];unfold q7I;rw [if_neg h3,if_neg h4,if_neg h2]
        ·try simp -implicitDefEqProofs (disch:=omega) only [go_sem,Nat.reduceEqDiff,Nat.reduceAdd,↓reduceIte]
     ·obtain rfl:t=L.length:=by omega
      have hq:¬ ((a+L.length:Nat):Int) < ((a+L.length:Nat):Int):=by omega
      have hB2:=hBL L.length;rw [List.take_length] at hB2 ⊢;refine wk1 (x3 hq a2 wkk) ?_;refine ⟨(k+1,ys.set k v,psE v L rows),⟨hlt,by simp only; rw [List.length_set]; exact hy,q2w hfy hqlt hfx,hls v,hB2.mono (by rw [Nat.succ_mul]; omega),hv⟩,by simp only; omega,?_⟩;simp only;refine LeW [] rfl rfl ?_ ?_ (by simp [q1I,q0t,win]) ?_
      ·exact Ow
      ·exact wfB (q09 Oq)
      ·try simp -implicitDefEqProofs (disch:=omega) only [go_sem,Nat.reduceEqDiff,Nat.reduceAdd,↓reduceIte]
   ·rw [decide_eq_false hfx] at cF;rw [if_neg hfx] at hv;subst hv;unfold fwP;exact wk1 (x3 hlt' hyl hset2) trivial
  ·obtain rfl:n=k:=by omega
   have hlt':¬ (n:Int) < n:=by omega
   rw [Nat.sub_self,geL] at hv;subst hv;have e:=yLo_n hy;unfold fwP;exact wk1 (x3 hlt' e hy) trivial
def RsI (f:Nat→Nat→Option Nat) (x:List (Nat × Nat)) (b:List Nat) (R J:Nat) (rows:Nat→List Int):Prop:=∀ r,r < R→q1U (rows r)=ofZ (b.getD r 0)-sg (fun j=>q6h ((f j r).getD 0) (x.getD j (0,0))) J
section
variable {f:Nat→Nat→Option Nat} {x:List (Nat × Nat)} {b:List Nat} {R C J:Nat} {rows:Nat→List Int}
def qs7 {p:Nat × Nat}:q6h 0 p=0:=by unfold q6h; rw [qkW,qkW]; rfl
def qkj {g:Nat→Int} (h0:g 0=0) {r:Nat}:∀ i,ctG g (tZ f J i) r=if r < i then g ((f J r).getD 0) else 0
 | 0=>by unfold ctG tZ; simp [q5K]
 | i+1=>by
  have ih:=qkj h0 (r:=r) i;unfold ctG at *;rw [tZ_s,List.map_append];cases h:f J i with
  | none =>
   rw [List.map_nil,List.append_nil,ih]
   by_cases hr:r < i
   ·rw [if_pos hr,if_pos (by omega)]
   ·rw [if_neg hr]
    by_cases h2:r=i
    ·subst h2; rw [if_pos (by omega),h]; exact h0.symm
    ·rw [if_neg (by omega)]
  | some v =>
   rw [List.map_singleton,q1b,ih];dsimp only
   by_cases h2:r=i
   ·subst h2; rw [if_neg (by omega),if_pos rfl,if_pos (by omega),h]; simp
   ·rw [if_neg (show ¬ i=r from fun q=>h2 q.symm)]
    by_cases hr:r < i
    ·rw [if_pos hr,if_pos (by omega)]; omega
    ·rw [if_neg hr,if_neg (by omega)]; rfl
def RsI.s (h:RsI f x b R J rows):RsI f x b R (J+1) (psG (fun v=>q6h v (x.getD J (0,0))) (tZ f J R) rows):=fun r hr=>by
 rw [q71,h r hr,qkj (qs7) R,if_pos hr,sg];omega
def RsI.bg (hb:b.length=R):RsI f x b R 0 (bgR b R):=fun r hr=>by
 subst hb;rw [qgF hr,sg]; omega
def q8n (h:TOk f R C) (hR:R≤20) (hC:C≤20) (hx:qdQ x) (hxl:x.length=C) (hb:q1E b) (hbl:b.length=R):ACt 90 [pT R C f,pVs (x.map pZ),pF b] (lnR (rdL f x b C R)):=by
 have hml:=q1a (f:=f) (R:=R) C;have hg:=fun j hj=>q3k (f:=f) (R:=R) (C:=C) (j:=j) hj;have hix:=fun j k hj h1 h2=>qdd (f:=f) (R:=R) (C:=C) (j:=j) (k:=k) hj h1 h2;have hos:=fun j=>qlp (f:=f) (R:=R) (j:=j);obtain ⟨o,ho⟩:∃ o,o=tO f R:=⟨_,rfl⟩;have hRC:=h.m;unfold pT;rw [← ho] at hg hix hos;generalize (tM f R C).1=st at *;generalize (tM f R C).2.1=ix at *;generalize (tM f R C).2.2=vl at *;obtain ⟨m1,m2,m3⟩:=hml;unfold q1n;refine ac0 Tryz.func90 Tryz.ntmps90 [.tmp 6,.tmp 7] ?_;refine wk ?_;refine q1M (qag (o:=19) (N:=5000) (R:=10000) (n:=R) (T1:=45) (T2:=40) (K:=some 4) (fun _ h=>h) ?_ (by omega) (by omega) (by omega) (by omega) (xs:=[(1,pVs (x.map pZ)),(2,pF b),(3,.pt 3 0 0),(8,.ow 5000 none 0 R),(20,pF b),(21,iv R),(22,iv 0)]) (kv:=[]) (kb:=[(3,some ⟨26,some 5,[.ag [iv R,iv C,pI st,pI ix,pF vl]],false⟩)]) (by simp [nmW]) ?_) ?_
 ·try simp -implicitDefEqProofs (disch:=omega) only [go_sem,Nat.reduceEqDiff,Nat.reduceAdd,↓reduceIte]
 ·try refine Zz ?_
  exact ⟨if_pos rfl,by omega⟩
 rw [qjg];refine q0U (fun k:Nat=>k≤R) [1,2,3,8,20,21] [3] Lk Lk (fun k:Nat=>[(22,iv k)]) (fun _=>[]) (fun k=>q5I R (bgR b k)) (fun k=>R-k) 0 (Nat.zero_le _) ?_ ?_
 ·refine LeW [] rfl rfl ?_ ?_ (by simp [q1I,q0t,win]) ?_
  ·exact Ow
  ·exact wfB (q09 Oq)
  ·try refine Zz ?_
   rfl
 ·intro k hk
  by_cases hlt:k < R
  ·have hlt':(k:Int) < R:=by omega
   obtain ⟨y,hy⟩:∃ y,b[k]?=some y:=⟨_,List.getElem?_eq_getElem Oq⟩;obtain ⟨u1,u2⟩:=hb y (List.mem_of_getElem? hy);have C1:=q4a (q1v u1 (q0N u2)) (q11 u2);have er:q68 (q69 (bgR b k)) k [pV (ofZ y)]=q69 (bgR b (k+1)):=by
    funext j
    unfold q68 q69 bgR
    by_cases h:j=k
    ·subst h; rw [if_pos rfl,if_pos (by omega),getD_some hy]; rfl
    ·rw [if_neg h]
     by_cases h2:j < k
     ·rw [if_pos h2,if_pos (by omega)]
     ·rw [if_neg h2,if_neg (by omega)]
   refine wk1 (x2 hlt' hy) ?_;refine ⟨k+1,by omega,by omega,?_⟩;unfold q5I;rw [← er];refine q3j (r:=31) (k:=k) (row:=q69 (bgR b k)) (fun _ h=>h) hlt (by intro x hx; simp at hx; subst hx; trivial) ?_ ?_ (fun i h1 h2 h3 h4=>?_) (fun _ _=>clV) BOk.h0 (.inl (by omega)) (by omega) (by omega) (by omega) (by simp [nmW]) ?_
   ·try simp -implicitDefEqProofs (disch:=omega) only [go_sem,Nat.reduceEqDiff,Nat.reduceAdd,↓reduceIte]
   ·try simp -implicitDefEqProofs (disch:=omega) only [go_sem,Nat.reduceEqDiff,Nat.reduceAdd,↓reduceIte]
   ·rw [q0B h2,q0B h4,q0T h1]
   ·try refine Zz ?_
    rfl
  ·have hlt':¬ (k:Int) < R:=by omega
   obtain rfl:R=k:=by omega
   refine wk1 hlt' ?_;refine q0U (fun q:Nat × (Nat→List Int)=>q.1≤C∧RsI f x b R q.1 q.2∧RB q.2 (1+q.1*R)) [1,3,8,35] [3] Lk Lk (fun q=>[(36,iv q.1)]) (fun _=>[]) (fun q=>q5I R q.2) (fun q=>C-q.1) (0,bgR b R) ⟨Nat.zero_le _,RsI.bg hbl,by rw [Nat.zero_mul]; exact RB.bg hb⟩ ?_ ?_
   ·refine LeW [] rfl rfl ?_ ?_ (by simp [q1I,q0t,win]) ?_
    ·exact Ow
    ·exact wfB (q09 Oq)
    ·try refine Zz ?_
     rfl
   ·clear hlt hlt' hk;rintro ⟨J,rows⟩ ⟨hJ,hI,hB⟩;simp only at hJ hI hB ⊢;have hJR:J*R≤20*20:=Nat.mul_le_mul Oq hR
    by_cases hlt:J < C
    ·have hlt':(J:Int) < C:=by omega
     have g1:=hg J Oq;have g2:=hg (J+1) Oq;have oJ:=hos J;have ww:IntKind.i64.wrap ((J:Int)+1)=((J+1:Nat):Int):=by rw [i64_in (by omega) (by omega)]; omega
     have hZ:=fun k v=>q61 (f:=f) (j:=J) (i:=R) (k:=k) (x:=v);have hIs:=hI.s;obtain ⟨L,hL⟩:∃ L,L=tZ f J R:=⟨_,rfl⟩;have hLn:L.length≤R:=by rw [hL]; unfold tZ; exact Nat.le_trans (List.length_filterMap_le _ _) (by simp)
     have hixJ:=hix J;rw [← hL] at oJ hZ hixJ hIs;clear hL;obtain ⟨p,hp⟩:∃ p,x[J]?=some p:=⟨_,List.getElem?_eq_getElem Oq⟩;obtain ⟨⟨p1,p2⟩,p3,p4⟩:=hx p (List.mem_of_getElem? hp);have hgp:x.getD J (0,0)=p:=by rw [List.getD_eq_getElem?_getD,hp]; rfl
     rw [hgp] at hIs;have hpp:((x.map pZ).map fun V=>pV V)[J]?=some (pV (pZ p)):=by rw [List.getElem?_map,List.getElem?_map,hp]; rfl
     have hLv:∀ e ∈ L,(e.2 < 18446744073709551616∧q0G e.2)∧e.1 < R:=fun e he=>by
      obtain ⟨q1,q2⟩:=(hZ e.1 e.2).1 he;exact ⟨⟨h.u J e.1 e.2 hlt q1 q2,h.v J e.1 e.2 hlt q1 q2⟩,q1⟩
     have hBL:=fun t=>hB.pg (g:=fun v=>q6h v p) (L:=L.take t) fun e he=>(q88 (hLv e (List.mem_of_mem_take he)).1.2 p2 p4).2;have hz:q00 (pZ p):=by have:=qmb p2 p4; unfold q00; omega
     refine wk1 (x2 hlt' g1) ?_;refine q0U (fun t:Nat=>t≤L.length) [1,3,8,11,35,36] [3] Lk Lk (fun t=>[(12,iv ((o J+t:Nat):Int))]) (fun _=>[]) (fun t=>q5I R (psG (fun v=>q6h v p) (L.take t) rows)) (fun t=>L.length-t) 0 (Nat.zero_le _) ?_ ?_
     ·refine LeW [] rfl rfl ?_ ?_ (by simp [q1I,q0t,win]) ?_
      ·exact Ow
      ·exact wfB (q09 Oq)
      ·try simp -implicitDefEqProofs (disch:=omega) only [go_sem,Nat.reduceEqDiff,Nat.reduceAdd,↓reduceIte]
     ·intro t ht
      by_cases hlt2:t < L.length
      ·obtain ⟨⟨i,v⟩,e1,e2,e3⟩:=hixJ (o J+t) Oq Oq Oq;rw [Nat.add_sub_cancel_left] at e1;dsimp only at e2 e3;obtain ⟨⟨v1,v2⟩,hin⟩:=hLv (i,v) (List.mem_of_getElem? e1);dsimp only at v1 v2 hin;have hq:((o J+t:Nat):Int) < ((o (J+1):Nat):Int):=by omega
       have C1:=q4a (q1v v1 (q0N v2)) (q11 v2);have N1:=qdO (V:=ofZ v);have M:=q88 (p:=p) v2 p2 p4;have C2:=ac_2 qkt fun ho=>qdY ho.1 ho.2 M.1;have hmd:=(q5o M.1).2.2.2;have C3:=q4a (q9T hmd) (by unfold q00 at *; rw [Int.natAbs_neg]; exact hmd);have hr1:(List.range R)[i]?=some i:=List.getElem?_range hin;have hob:=(List.getElem?_eq_some_iff.1 e2).1;have wt:IntKind.i64.wrap (((o J+t:Nat):Int)+1)=((o J+(t+1):Nat):Int):=by rw [i64_in (by omega) (by omega)]; omega
       have hps:psG (fun v=>q6h v p) (L.take (t+1)) rows=q3c (psG (fun v=>q6h v p) (L.take t) rows) i (-(q6h v p)):=qm4 e1;have hli:(psG (fun v=>q6h v p) (L.take t) rows i).length≤2000:=by have:=(hBL t).l i; rw [List.length_take] at this; omega
       generalize psG (fun v=>q6h v p) (L.take t) rows=rs at *;refine wk1 (x6 g1 g2 ww hq e2 (x4 e3 hr1 hpp wt)) ?_;refine ⟨t+1,by omega,by omega,?_⟩;rw [hps];unfold q5I;rw [← qaE];refine q3j (r:=78) (k:=i) (row:=q69 rs) (fun _ h=>h) hin clV ?_ ?_ (fun i h1 h2 h3 h4=>?_) (fun _ _=>clV) BOk.h0 (.inl (by omega)) (by omega) (by omega) (by omega) (by simp [nmW]) ?_
       ·try simp -implicitDefEqProofs (disch:=omega) only [go_sem,Nat.reduceEqDiff,Nat.reduceAdd,↓reduceIte]
       ·try refine Zz ?_
        rw [List.map_append]
        rfl
       ·rw [q0B h2,q0B h4,q0B h3,q0B (by obtain ⟨w1,w2⟩:=h1; omega),q0T h1]
       ·try simp -implicitDefEqProofs (disch:=omega) only [go_sem,Nat.reduceEqDiff,Nat.reduceAdd,↓reduceIte]
      ·obtain rfl:t=L.length:=by omega
       have hq:¬ ((o J+L.length:Nat):Int) < ((o (J+1):Nat):Int):=by omega
       have hB2:=hBL L.length;rw [List.take_length] at hB2 ⊢;refine wk1 (x3 g2 ww hq) ?_;refine ⟨(J+1,psG (fun v=>q6h v p) L rows),⟨hlt,hIs,hB2.mono (by rw [Nat.succ_mul]; omega)⟩,by simp only; omega,?_⟩;simp only;refine LeW [] rfl rfl ?_ ?_ (by simp [q1I,q0t,win]) ?_
       ·exact Ow
       ·exact wfB (q09 Oq)
       ·try simp -implicitDefEqProofs (disch:=omega) only [go_sem,Nat.reduceEqDiff,Nat.reduceAdd,↓reduceIte]
    ·obtain rfl:J=C:=by omega
     have hlt':¬ (J:Int) < J:=by omega
     have hsum:∀ r,r < R→q1U (rows r)=rdZ f x b J r:=fun r hr=>hI r hr;have hrl:=hB.l;have hdy:=fun r=>q4p (hB.b r) (by have:=hrl r; omega);have hbb:=hB.b;have hal:=fun i=>q3V (f:=f) (x:=x) (b:=b) (C:=J) (i:=i);have has:=fun i=>rdL_s (f:=f) (x:=x) (b:=b) (C:=J) (i:=i);have ha0:rdL f x b J 0=[]:=rfl;have hfu:=q99 (f:=f) (x:=x) (b:=b) (C:=J) (i:=R);have C7:=q4f hfu (by rw [hal]; omega);unfold lnR;have N1:Nz (bv (decide (∀ z ∈ rdL f x b J R,q0G z))):=qdN;generalize decide (∀ z ∈ rdL f x b J R,q0G z)=bb at *;generalize rdL f x b J=A at *;clear hI hg hix;refine wk1 hlt' ?_;refine q0U (fun r=>r≤R) [81,82] [] Lk Lk (fun r:Nat=>[(83,iv r),(14,.ow 1001 none 0 r)]) (fun r=>[(1001,⟨43,none,(A r).map fun z:Nat=>uv z,false⟩)]) (fun _=>q5I R rows) (fun r=>R-r) 0 (Nat.zero_le _) ?_ ?_
     ·refine LeW [(1001,none)] rfl rfl ?_ ?_ (by simp [q1I,q0t,win]) ?_
      ·exact Ow
      ·exact wfB (q09 Oq)
      ·try refine Zz ?_
       rw [ha0];exact ⟨rfl,rfl⟩
     ·intro r hr
      by_cases hlt2:r < R
      ·have q2:(r:Int) < R:=by omega
       have hr1:(List.range R)[r]?=some r:=List.getElem?_range hlt2;have hd:=hdy r;have C1:=q9S (l:=rows r) (by have:=hrl r; omega) (fun z hz=>by have:=hbb r z hz; unfold q00; omega) hd;have C2:=q4E hd;have N2:=qh1 hd;rw [hsum r hlt2] at C1 C2 N2;have es:=has r;have hll:=hal r;have hli:=hrl r;refine wk1 (x3 q2 hr1 hll) ?_;refine ⟨r+1,by omega,by omega,?_⟩;rw [es];refine LeW [(1001,some 92)] rfl rfl ?_ ?_ (by simp [q1I,q0t,win]) ?_
       ·exact Ow
       ·exact wfB (q09 Oq)
       ·try refine Zz ?_
        omega
      ·obtain rfl:r=R:=by omega
       have q2:¬ (r:Int) < r:=by omega
       exact wk1 (x2 q2 (hal r)) trivial
end
def q8H {l:List Nat} (hn:l.length≤1000):ACt 94 [pF l] (pP (l.map fun v=>(v,0))):=by
 refine ac0 Tryz.func94 Tryz.ntmps94 [.tmp 2] ?_;refine wk ?_;refine q0A (fun i=>i≤l.length) [0] [] Lk Lk (fun i:Nat=>[(4,iv i),(3,.ow 1001 (some 2) 0 i)]) (fun i=>[(1001,⟨65,some 2,((l.take i).map fun v=>(v,0)).map fun p:Nat × Nat=>.ag [uv p.1,uv p.2],false⟩)]) (fun i=>l.length-i) 0 (Nat.zero_le _) ?_ ?_
 ·refine LeM [(1001,none)] rfl rfl ?_;refine Zz ?_
  rfl
 ·intro i hi;have htl:(l.take i).length=i:=by rw [List.length_take]; omega
  by_cases hlt:i < l.length
  ·obtain ⟨x,hx⟩:∃ x,l[i]?=some x:=⟨_,List.getElem?_eq_getElem hlt⟩;have e:((l.take (i+1)).map fun v=>(v,0)).map (fun p:Nat × Nat=>PV.ag [uv p.1,uv p.2])=((l.take i).map fun v=>(v,0)).map (fun p:Nat × Nat=>PV.ag [uv p.1,uv p.2]) ++ [.ag [uv x,uv (0:Nat)]]:=by rw [q1D hx,List.map_append,List.map_append]; rfl
   refine wk1 (x2 hx htl) ?_;refine ⟨i+1,by omega,by omega,?_⟩;rw [e];refine LeM [(1001,some 18)] rfl rfl ?_;refine Zz ?_;exact ⟨by omega,q0M rfl (by rw [← e]; exact qfs)⟩
  ·obtain rfl:i=l.length:=by omega
   rw [List.take_length];refine wk1 @qfs ?_;exact List.take_of_length_le (by simp)
def rpL (f:Nat→Nat→Option Nat) (x:List (Nat × Nat)) (b:List Nat) (r:Nat):Nat→List Int
 | 0=>[ofZ (b.getD r 0)]
 | j+1=>rpL f x b r j ++ [-(q10 ((f j r).getD 0) (x.getD j (0,0)).1),-(q10 ((f j r).getD 0) (x.getD j (0,0)).2)]
section
variable {f:Nat→Nat→Option Nat} {x:List (Nat × Nat)} {b:List Nat} {R C r:Nat}
def qeK:∀ j,(rpL f x b r j).length=2*j+1
 | 0=>rfl
 | j+1=>by rw [rpL,List.length_append,qeK j]; simp; omega
def qeJ:∀ j,q1U (rpL f x b r j)=rdZ f x b j r
 | 0=>by unfold rpL rdZ; rw [q5J,sg]; omega
 | j+1=>by
  have:rpL f x b r (j+1)=(rpL f x b r j ++ [-(q10 ((f j r).getD 0) (x.getD j (0,0)).1)]) ++ [-(q10 ((f j r).getD 0) (x.getD j (0,0)).2)]:=by rw [rpL,List.append_assoc]; rfl
  rw [this,q1b,q1b,qeJ j];unfold rdZ;rw [sg];unfold q6h;omega
def qkG (hx:qdQ x) (hxl:x.length=C) (h:TOk f R C) (hr:r < R) (hb:q1E b):∀ j,j≤C→∀ z ∈ rpL f x b r j,bl z.natAbs≤67600
 | 0,_,z,hz=>by unfold rpL at hz; simp at hz; subst hz; exact q0u (q2j hb).2
 | j+1,hj,z,hz=>by
  unfold rpL at hz
  rcases List.mem_append.1 hz with hz | hz
  ·exact qkG hx hxl h hr hb j Oq z hz
  ·obtain ⟨p,hp⟩:∃ p,x[j]?=some p:=⟨_,List.getElem?_eq_getElem Oq⟩;have hgp:x.getD j (0,0)=p:=by rw [List.getD_eq_getElem?_getD,hp]; rfl
   obtain ⟨⟨_,p2⟩,_,p4⟩:=hx p (List.mem_of_getElem? hp);have hv:=h.fin (j:=j) (i:=r) Oq hr;rw [hgp] at hz;simp at hz
   rcases hz with rfl | rfl
   ·rw [Int.natAbs_neg]; exact (q0k hv.1 p2).2
   ·rw [Int.natAbs_neg]; exact (q0k hv.1 p4).2
def qj6 (h:TOk f R C) (hR:R≤20) (hC:C≤20) (hx:qdQ x) (hxl:x.length=C) (hb:q1E b) (hbl:b.length=R):ACt 93 [pT R C f,pP x,pF b] (if ∀ v ∈ rdL f x b C R,q0G v then .tu [pF (rdL f x b C R),bv true] else .tu [pF [],bv false]):=by
 have cA:∀ {i j:Nat},i < R→j < C→_:=fun {i j} hi hj=>qai (i:=i) (j:=j) h hi hj;have hfi:∀ {i j:Nat},i < R→j < C→_:=fun {i j} hi hj=>h.fin (j:=j) (i:=i) hj hi;have hbd:=fun r (hr:r < R)=>qkG hx hxl h hr hb;have hsm:=fun r=>qeJ (f:=f) (x:=x) (b:=b) (r:=r) C;have hln:=fun r j=>qeK (f:=f) (x:=x) (b:=b) (r:=r) j;have hst:=fun r j=>show rpL f x b r (j+1)=rpL f x b r j ++ [-(q10 ((f j r).getD 0) (x.getD j (0,0)).1),-(q10 ((f j r).getD 0) (x.getD j (0,0)).2)] from rfl;have hs0:=fun r=>show rpL f x b r 0=[ofZ (b.getD r 0)] from rfl;obtain ⟨g,hg⟩:∃ g:Nat→Nat,g=fun r=>fR 0 (rdZ f x b C r):=⟨_,rfl⟩;have hgk:=fun k=>congrFun hg k;have hle:rdL f x b C R=rwG R g R:=by
  unfold rdL rwG;rw [hg];exact List.map_congr_left fun k hk=>by rw [if_pos (List.mem_range.1 hk)]
 have hrl:=fun m=>q3S (n:=R) (g:=g) (m:=m);have hrs:=fun m=>qeD (n:=R) (g:=g) (m:=m);have hrg:=fun m i hi=>qmR (n:=R) (g:=g) (m:=m) (i:=i) hi;have hr0:=qcU (n:=R) (g:=g);rw [hle];generalize rwG R g=rw0 at *;generalize rdZ f x b C=Z at *;generalize rpL f x b=P at *;unfold pT q1n at *;generalize (tM f R C).1=st at *;generalize (tM f R C).2.1=ix at *;generalize (tM f R C).2.2=vl at *;clear hg hle;refine ac0 Tryz.func93 Tryz.ntmps93 [.tmp 6,.tmp 7] ?_;refine wk1 hbl ?_;refine q0A (fun i=>i≤R∧∀ k,k < i→q0G (g k)) [1,2,3] [3] Lk Lk (fun i:Nat=>[(9,iv i),(8,.ow 1001 none 0 R)]) (fun i=>[(1001,⟨43,none,(rw0 i).map fun z:Nat=>uv z,false⟩)]) (fun i=>R-i) 0 ⟨Nat.zero_le _,fun _ h=>by omega⟩ ?_ ?_
 ·refine LeM [(1001,some 15)] rfl rfl ?_;refine Zz ?_;exact ⟨rfl,hr0⟩
 ·rintro i ⟨hi,hgf⟩
  by_cases hlt:i < R
  ·have hlb:(i:Int) < R:=by omega
   obtain ⟨y,hy⟩:∃ y,b[i]?=some y:=⟨_,List.getElem?_eq_getElem Oq⟩;obtain ⟨u1,u2⟩:=hb y (List.mem_of_getElem? hy);have C1:=q0h u1 (q0N u2);have h0:=hs0 i;rw [getD_some hy] at h0;refine wk1 (x3 hlb hbl hy) ?_;refine q0A (fun j=>j≤C) [1,2,3,8,9] [3,1001] Lk Lk (fun j:Nat=>[(11,iv j),(10,.ow 1002 (some 4) 0 (2*j+1))]) (fun j=>[(1002,⟨40,some 4,(P i j).map fun V=>pV V,false⟩)]) (fun j=>C-j) 0 (Nat.zero_le _) ?_ ?_
   ·refine LeM [(1002,some 27)] rfl rfl ?_;refine Zz ?_;rw [h0];exact ⟨rfl,q0M rfl clV⟩
   ·intro j hj;have hlj:=hln i j
    by_cases hlt2:j < C
    ·have hl2:(j:Int) < C:=by omega
     obtain ⟨p,hp⟩:∃ p,x[j]?=some p:=⟨_,List.getElem?_eq_getElem Oq⟩;have hgp:x.getD j (0,0)=p:=by rw [List.getD_eq_getElem?_getD,hp]; rfl
     obtain ⟨⟨p1,p2⟩,p3,p4⟩:=hx p (List.mem_of_getElem? hp);have C2:=cA hlt hlt2;obtain ⟨v2,v1⟩:=hfi hlt hlt2;have hs:=hst i j;rw [hgp] at hs;generalize (f j i).getD 0=v at *;have C3:=q2V v1 p1 (q0N v2) (q0N p2) (q0k v2 p2).1;have C4:=q2V v1 p3 (q0N v2) (q0N p4) (q0k v2 p4).1;have C5:=@q4h;refine wk1 (x4 hl2 hxl hp hlj) ?_;refine ⟨j+1,by omega,by omega,?_⟩;rw [hs];refine LeM [(1002,some 56)] rfl rfl ?_;refine Zz ?_;exact ⟨⟨by omega,by omega⟩,q0M (by rw [List.map_append]; rfl) clV⟩
    ·obtain rfl:j=C:=by omega
     have hl2:¬ (j:Int) < j:=by omega
     have hd:=q4p (hbd i hlt j (Nat.le_refl _)) Oq;have C2:=q6E (l:=P i j) Oq hd;rw [hsm i] at C2;have N2:=qdO (V:=Z i);have C3:=q49 (A:=Z i);rw [← hgk i] at C3;have hgl:g i < 18446744073709551616:=by rw [hgk]; exact q3E
     have C5:=q1F hgl;have e1:=hrs i;have e3:(((rw0 i).map fun z:Nat=>uv z).set i (uv (g i:Nat)))[i]?=some (uv (g i:Nat)):=List.getElem?_set_self (by rw [List.length_map,hrl]; exact hlt)
     by_cases hf:q0G (g i)
     ·rw [decide_eq_true hf] at C5;refine wk1 (x5 hl2 hxl hlj (hrl i) e3) ?_;refine ⟨i+1,⟨by omega,fun k hk=>?_⟩,by omega,?_⟩
      ·rcases Nat.lt_succ_iff_lt_or_eq.1 hk with h | rfl
       ·exact hgf k h
       ·exact hf
      rw [← e1];refine LeM [] rfl rfl ?_;refine Zz ?_;omega
     ·rw [decide_eq_false hf] at C5;rw [if_neg fun h=>hf (by
       refine h (g i) (List.mem_of_getElem? (i:=i) ?_);rw [hrg R i hlt,if_pos hlt])]
      exact wk1 (x5 hl2 hxl hlj (hrl i) e3) trivial
  ·obtain rfl:i=R:=by omega
   have hlb:¬ (i:Int) < i:=by omega
   rw [if_pos fun z hz=>by
    obtain ⟨k,hk⟩:=List.mem_iff_getElem?.1 hz;have hkl:k < i:=by have:=(List.getElem?_eq_some_iff.1 hk).1; rw [hrl] at this; exact this
    rw [hrg i k hkl,if_pos hkl] at hk;cases hk;exact hgf k hkl]
   exact wk1 (x3 hlb hbl (hrl i)) trivial
end
end Go.Proofs.YtfmojhhokfkdaaaGreatDoor
namespace Go.E
open Go Go.RowKit
def LeE {J:Nat→Prop} {h:Hp} {a n:Nat} {T:TypeId} {xs:List PV} {e:Value} (hJ:∀ i,¬ J i) (hb:h a=some ⟨T,none,xs,false⟩) (hc:ClL xs):Le J (fun _=>.tu [.ow a none 0 n,.vl e]) h (fun _=>.tu [.ow 5000 none 0 n,.vl e]) (q0P h0 5000 ⟨T,none,xs,false⟩):=by
 refine q4l (fun i=>if i=5000 then some a else none) (fun i b' hb'=>?_) (fun i j k b c hi hj ti tj=>?_) (fun _=>.tu rfl fun i x y hx hy=>?_) fun i hi=>(hJ i hi).elim
 ·by_cases hi:i=5000
  ·subst hi;rw [q0J] at hb'; cases hb';unfold LeB;exact ⟨_,hb,rfl,rfl,⟨rfl,rfl⟩,q0M rfl hc⟩
  ·rw [q0B hi] at hb'; cases hb'
 ·split at ti
  ·split at tj
   ·rename_i e1 e2; rw [e1,e2]
   ·cases tj
  ·cases ti
 ·rcases i with _ | _ | i
  ·cases hx; cases hy; exact .ow (if_pos rfl) q0J
  ·cases hx; cases hy; exact .cl trivial
  ·simp at hx
def LeEn {J:Nat→Prop} {h:Hp} {T:TypeId} {e:Value} (hJ:∀ i,¬ J i):Le J (fun _=>.tu [.vl (.slice none 0 0),.vl e]) h (fun _=>.tu [.ow 5000 none 0 0,.vl e]) (q0P h0 5000 ⟨T,none,[],false⟩):=by
 refine q4l (fun _=>none) (fun i b' hb'=>?_) (fun i j k b c hi hj ti tj=>by cases ti) (fun _=>.tu rfl fun i x y hx hy=>?_) fun i hi=>(hJ i hi).elim
 ·by_cases hi:i=5000
  ·subst hi;rw [q0J] at hb'; cases hb'
   rfl
  ·rw [q0B hi] at hb'; cases hb'
 ·rcases i with _ | _ | i
  ·cases hx; cases hy; exact .nilow rfl q0J rfl
  ·cases hx; cases hy; exact .cl trivial
  ·simp at hx
end Go.E
namespace Go.Proofs.YtfmojhhokfkdaaaGreatDoor
open Go Go.E Go.Sp
def cLo (f:LUt) (i c:Nat):Nat:=ctV (q7i f.ls f.li f.lv c) i
def cUp (f:LUt) (i c:Nat):Nat:=ctV (q7i f.us f.ui f.uv c) i
open Classical in
noncomputable def lgE (f:LUt) (l:List Nat):List Nat × Int :=
 if q9K (q4W f) f.rows.length l≠0 then ([],q9K (q4W f) f.rows.length l) else
  match geL (cLo f) f.rows.length 0 (gaS l f.rows f.rows.length) with
  | none=>([],233)
  | some y=>match geU (cUp f) f.rows.length f.rows.length y with
   | none=>([],233)
   | some z=>(scS z f.cols f.rows.length f.rows.length,0)
def q9L (n:Nat) (g:Nat→Nat→Nat) (k:Nat):List Nat:=(List.range n).map (g k)
def qsI {n:Nat} {g:Nat→Nat→Nat} {k:Nat}:rU n g k=(q9L n g k).map fun z:Nat=>uv z:=by
 unfold rU q9L;rw [List.map_map]
 rfl
def q5N {n:Nat} {g:Nat→Nat→Nat} {k c:Nat} (hc:c < n):(q9L n g k)[c]?=some (g k c):=by
 unfold q9L;rw [List.getElem?_map,List.getElem?_range hc]; rfl
def q7Q {n:Nat} {g:Nat→Nat→Nat} {k:Nat}:(q9L n g k).length=n:=by unfold q9L; simp
def rst_L {g:Nat→Nat→Nat} {D:Nat→Nat→Nat} {n k:Nat} {ys:List Nat} (hk:k < n) (hy:ys.length=n) (h:∀ c,c < k→g k c=D k c):q1U (q83 (ofZ (ys.getD k 0)) ((q9L n g k).take k) (ys.take k) k)=loZ D ys k:=by
 rw [qeG];unfold loZ
 congr 1
 refine q3m k fun i hi=>?_;have h1:((q9L n g k).take k)[i]?=some (g k i):=by rw [List.getElem?_take,if_pos hi]; exact q5N (by omega)
 obtain ⟨y,hy2⟩:∃ y,ys[i]?=some y:=⟨_,List.getElem?_eq_getElem Oq⟩;have h2:(ys.take k)[i]?=some y:=by rw [List.getElem?_take,if_pos hi]; exact hy2
 rw [getD_some h1,getD_some h2,getD_some hy2,h i hi]
def rst_U {g:Nat→Nat→Nat} {D:Nat→Nat→Nat} {n k:Nat} {ys:List Nat} (hk:k < n) (hy:ys.length=n) (h:∀ c,c < n→g k c=D k c):q1U (q83 (ofZ (ys.getD k 0)) ((q9L n g k).drop (k+1)) (ys.drop (k+1)) (n-(k+1)))=upZ D ys n k:=by
 rw [qeG];unfold upZ
 congr 1
 refine q3m (n-(k+1)) fun i hi=>?_;have h1:((q9L n g k).drop (k+1))[i]?=some (g k (k+1+i)):=by rw [List.getElem?_drop]; exact q5N (by omega)
 obtain ⟨y,hy2⟩:∃ y,ys[k+1+i]?=some y:=⟨_,List.getElem?_eq_getElem Oq⟩;have h2:(ys.drop (k+1))[i]?=some y:=by rw [List.getElem?_drop]; exact hy2
 rw [getD_some h1,getD_some h2,getD_some hy2,h _ (by omega)]
def qdV {l:List Nat} {o:List Int} {n:Nat} (hl:l.length=n) (ho:o.length=n) (hn:n≤1000000) (hb:∀ x ∈ o,0≤x∧x < n):qg6 224 [pF l,pI o] h0 (.ow 5000 none 0 n) (q0P h0 5000 ⟨43,none,(gaS l o n).map fun z:Nat=>uv z,false⟩):=by
 have hJ:∀ i,¬ (h0 i≠none):=fun i h=>h rfl;unfold gaS;have hgl:∀ m,(rwG n (fun k=>l.getD (o.getD k 0).toNat 0) m).length=n:=fun _=>q3S;generalize hg:(fun k=>l.getD (o.getD k 0).toNat 0)=g at *;refine qjR qkp Tryz.func224 rfl Tryz.ntmps224 (by kernel_rfl) ?_ ?_ ?_ ?_
 ·intro i b hb; cases hb
 ·exact qc8
 ·exact IdL.of fun x hx=>by
   simp at hx
   rcases hx with rfl | rfl <;> unfold IdP <;> trivial
 have hW:WfH h0:=⟨fun i b hb=>by cases hb⟩;refine wk1 ho ?_;refine q0U (fun k=>k≤n) [0,1] [] Lk Lk (fun k:Nat=>[(6,iv k),(5,.ow 1001 none 0 n)]) (fun k=>[(1001,⟨43,none,(rwG n g k).map fun z:Nat=>uv z,false⟩)]) (fun _=>h0) (fun k=>n-k) 0 (Nat.zero_le _) ?_ ?_
 ·rw [← qcU];refine LeW [(1001,some 9)] rfl rfl ?_ ?_ (by simp [q1I,q0t,win]) ?_
  ·exact Ow
  ·exact hW
  ·try refine Zz ?_
   simp
 ·intro k hk
  by_cases hlt:k < n
  ·obtain ⟨x,hx⟩:∃ x,o[k]?=some x:=⟨_,List.getElem?_eq_getElem Oq⟩;obtain ⟨h1,h2⟩:=hb x (List.mem_of_getElem? hx);obtain ⟨x,rfl⟩:∃ y:Nat,x=y:=⟨x.toNat,by omega⟩;obtain ⟨u,hu⟩:∃ u,l[x]?=some u:=⟨_,List.getElem?_eq_getElem Oq⟩;have hs:=qeD (n:=n) (g:=g) (m:=k);have hgk:g k=u:=by rw [← hg]; simp only [getD_some hx,Int.toNat_natCast,getD_some hu]
   rw [hgk] at hs;refine wk1 (x4 ho hx hu (hgl k)) ?_;refine ⟨k+1,by omega,by omega,?_⟩;refine LeW [] rfl rfl ?_ ?_ (by simp [q1I,q0t,win]) ?_
   ·exact Ow
   ·exact hW
   ·try refine Zz ?_
    rw [← hs];exact ⟨by omega,rfl⟩
  ·obtain rfl:k=n:=by omega
   have hgk:=hgl k;refine wk1 ho ?_;refine (rtM (rs:=[.tmp 4]) rfl rfl Lq ?_ (.inl rfl));refine LeO hJ ?_ clU
   try simp -implicitDefEqProofs (disch:=omega) only [go_sem,Nat.reduceEqDiff,Nat.reduceAdd,↓reduceIte]
def qsc {f:LUt} {l:List Nat}:IdL win [pLU f,pF l]:=IdL.of fun x hx=>by
 simp at hx
 rcases hx with rfl | rfl
 ·unfold pLU IdP;unfold IdL IdL IdL IdL IdL IdL IdL IdL IdL;unfold IdP;exact ⟨trivial,trivial,trivial,trivial,trivial,trivial,trivial,trivial,trivial⟩
 ·unfold IdP; trivial
def qlU {f:LUt} {l:List Nat} (hb:LUb f) (hn:f.rows.length≤100) (hul:∀ x ∈ l,x < 18446744073709551616) (hl:l.length≤1000000) :
  qg6 136 [pLU f,pF l] h0 (.tu [.ow 5000 none 0 (lgE f l).1.length,iv (lgE f l).2]) (q0P h0 5000 ⟨43,none,(lgE f l).1.map fun z:Nat=>uv z,false⟩):=by
 have hJ:∀ i,¬ (h0 i≠none):=fun i h=>h rfl;have cK:=qdW hb;have cS:=qg9 (e:=q4W f) (n:=f.rows.length) hul hl;refine qjR qku Tryz.func136 rfl Tryz.ntmps136 (by kernel_rfl) ?_ ?_ ?_ ?_
 ·intro i b hb; cases hb
 ·exact qc8
 ·exact qsc
 unfold lgE
 by_cases hz0:q9K (q4W f) f.rows.length l=0
 case neg =>
  rw [if_pos hz0];generalize q9K (q4W f) f.rows.length l=e at *;generalize q4W f=e2 at *;have q:(e != 0)=true:=by simpa using hz0
  unfold pLU at *;dsimp only at *;refine wk1 q ?_;refine (rtM (rs:=[.tmp 4,.tmp 5]) rfl rfl Lq ?_ (.inl rfl));exact LeEn hJ
 rw [if_neg (not_not_intro hz0)];rw [hz0] at cS;obtain ⟨h1,h2,h3⟩:=qmG hz0;rw [h1] at cK cS;have hf:=qa2 hb h1;have hfl:q1E l:=fun x hx=>⟨hul x hx,h3 x hx⟩;have hrb:∀ x ∈ f.rows,0≤x∧x < f.rows.length:=fun x hx=>hf.rp.2.1 x hx;have hcb:∀ x ∈ f.cols,0≤x∧x < f.rows.length:=fun x hx=>hf.cp.2.1 x hx;have hcl:f.cols.length=f.rows.length:=by have:=hf.cp.1; omega
 have cG:=qdV (l:=l) (o:=f.rows) (n:=f.rows.length) h2 rfl Oq hrb;have hgl:=q9w (l:=l) (o:=f.rows) (n:=f.rows.length);have hgf:=q9x (o:=f.rows) (n:=f.rows.length) hfl;generalize gaS l f.rows f.rows.length=g at *;have cD:=qiq (f:=f) rfl hn hf.L hf.U;have vL:∀ {i j:Nat},i < f.rows.length→j < i→dnT (dnD f.rows.length) (q7i f.ls f.li f.lv) f.rows.length i j=cLo f i j:=fun hi hj=>dnL_v hf.L.nd Oq hj;have vU:∀ {i j:Nat},j < f.rows.length→dnT (fun _ _=>0) (q7i f.us f.ui f.uv) f.rows.length i j=cUp f i j:=fun hj=>dnU_v hf.U.nd hj;have fL:∀ {i j:Nat},j < f.rows.length→cLo f i j < 18446744073709551616∧q0G (cLo f i j):=fun hj=>qfk hf.L hj;have fU:∀ {i j:Nat},j < f.rows.length→cUp f i j < 18446744073709551616∧q0G (cUp f i j):=fun hj=>qfk hf.U hj;have dU:∀ k,k < f.rows.length→ofZ (cUp f k k)≠0:=fun k hk=>by
  obtain ⟨m,x,m1,m2,m3⟩:=hf.dg k hk;have:=qaN (t:=m.length) (e:=(k,x)) (hf.U.nd k hk) (by rw [m1]; simp);unfold cUp;rw [this];exact m2
 obtain ⟨gl,hgl2⟩:∃ q,q=dnT (dnD f.rows.length) (q7i f.ls f.li f.lv) f.rows.length:=⟨_,rfl⟩;obtain ⟨gu,hgu2⟩:∃ q,q=dnT (fun _ _=>0) (q7i f.us f.ui f.uv) f.rows.length:=⟨_,rfl⟩;rw [← hgl2,← hgu2] at cD;simp only [← hgl2] at vL;simp only [← hgu2] at vU;clear hgl2 hgu2 hf;generalize cLo f=DL at *;generalize cUp f=DU at *;generalize hnn:f.rows.length=n at *;unfold pLU at *;obtain ⟨F,hF⟩:∃ F:List Nat→List Nat × Int,F=fun y=>(match geU DU n n y with
   | none=>([],233)
   | some z=>(scS z f.cols n n,(0:Int))):=⟨_,rfl⟩
 obtain ⟨res,hres⟩:∃ q,q=(match geL DL n 0 g with
  | none=>([],233)
  | some y=>F y):=⟨_,rfl⟩
 have hres':=hres;rw [hF] at hres';rw [← hres'];clear hres';refine wk1 hnn ?_;refine qpb fun K hK=>?_;refine Zz1 hnn ?_;refine jm cG ?_ (fun i hi=>(hi trivial).elim) ?_
 ·change Wn _ _;exact Ow
 try refine Zz ?_
 refine hK _ _ ?_; clear hK K;clear cG;have hW:WfH h0:=⟨fun i b hb=>by cases hb⟩;refine wk ?_;refine q1M (LeT (hw:=h0) (fun i=>if i=1001 then some 5000 else if i=5000 then none else some i) (fun i hi=>(hJ i hi).elim) (fun i hi hw=>?_) (fun i b hw hb=>?_) (fun i j x hi hj ti tj=>?_) (xs:=[(2,.pt 2 0 0),(6,iv n),(8,tU n gl),(9,tU n gu),(10,.ow 1001 none 0 n),(11,iv 0)]) (kv:=[]) (bs:=[(2,⟨28,some 8,[.ag [pI f.rows,pI f.cols,pI f.ls,pI f.li,pF f.lv,pI f.us,pI f.ui,pF f.uv]],false⟩),(1001,⟨43,none,g.map fun z:Nat=>uv z,false⟩)]) (kb:=[]) ?_) ?_
 ·simp at hi;unfold win at hw;omega
 ·cases hb
 ·have a1:∀ i,(win i∧(h0:Hp) i≠none∨i ∈ List.map (·.1) [(2,(⟨28,some 8,[.ag [pI f.rows,pI f.cols,pI f.ls,pI f.li,pF f.lv,pI f.us,pI f.ui,pF f.uv]],false⟩:Bk)),(1001,⟨43,none,g.map fun z:Nat=>uv z,false⟩)] ++ [])→i=2∨i=1001:=fun i hi=>by
   rcases hi with ⟨_,hi⟩ | hi
   ·exact absurd rfl hi
   ·simpa using hi
  rcases a1 i hi with rfl | rfl <;> rcases a1 j hj with rfl | rfl <;> simp at ti tj <;> omega
 ·try simp -implicitDefEqProofs (disch:=omega) only [go_sem,Nat.reduceEqDiff,Nat.reduceAdd,↓reduceIte]
 refine q0U (fun q:Nat × List Nat=>q.1≤n∧q.2.length=n∧q1E q.2∧(match geL DL (n-q.1) q.1 q.2 with | none=>([],233) | some y=>F y)=res) [2,6,8,9] [2] Lk Lk (fun q=>[(11,iv q.1),(10,.ow 1001 none 0 n)]) (fun q=>[(1001,⟨43,none,q.2.map fun z:Nat=>uv z,false⟩)]) (fun _=>h0) (fun q=>n-q.1) (0,g) ⟨Nat.zero_le _,hgl,hgf,hres.symm⟩ ?_ ?_
 ·refine LeW [] rfl rfl ?_ ?_ (by simp [q1I,q0t,win]) ?_
  ·exact Ow
  ·exact hW
  ·try refine Zz ?_
   rfl
 ·rintro ⟨k,ys⟩ ⟨hk,hy,hfy,hv⟩;simp only at hk hy hfy hv ⊢
  by_cases hlt:k < n
  ·have hlt':(k:Int) < n:=by omega
   obtain ⟨u,hu⟩:∃ u,ys[k]?=some u:=⟨_,List.getElem?_eq_getElem Oq⟩;obtain ⟨u1,u2⟩:=hfy u (List.mem_of_getElem? hu);have rk:(List.range n)[k]?=some k:=List.getElem?_range hlt;have hrf:q1E ((q9L n gl k).take k):=fun x hx=>by
    obtain ⟨c,hc⟩:=List.mem_iff_getElem?.1 hx;have hck:c < k:=by have:=(List.getElem?_eq_some_iff.1 hc).1; rw [List.length_take] at this; omega
    rw [List.getElem?_take,if_pos hck,q5N (by omega)] at hc;cases hc;rw [vL hlt hck];exact fL Oq
   have hrl:((q9L n gl k).take k).length=k:=by rw [List.length_take,q7Q]; omega
   have hS:=rst_L (g:=gl) (D:=DL) (n:=n) (k:=k) (ys:=ys) hlt hy fun c hc=>vL hlt hc;rw [getD_some hu] at hS;rw [show n-k=(n-(k+1))+1 by omega,geL] at hv;have cR:=qa6 (B:=ofZ u) (l:=(q9L n gl k).take k) (x:=ys.take k) (q0u u2) hrf (qf0 hfy) (by rw [hrl,List.length_take]; omega) (by omega);rw [hrl,hS] at cR;generalize loZ DL ys k=S at *;unfold pF at cR;rw [List.map_take,List.map_take,← qsI] at cR;have cZ:=qdO (V:=S);have cO1:=q0h u1 (q0N u2);have cQ:=@q49 S;have hqlt:fR 0 S < 18446744073709551616:=q3E;generalize fR 0 S=v at *;have cF:=q1F hqlt;have es1:slP (some 1) none (some (iv (k:Int))) (.sl none (rU n gl k))=some (.sl none ((rU n gl k).take k)):=by
    simp [slP,q8w,ksz];omega
   have es2:slP (some 1) none (some (iv (k:Int))) (.ow 1001 none 0 n)=some (.ow 1001 none 0 k):=by
    simp [slP,q8w,ksz];omega
   have hset:((ys.map fun z:Nat=>uv z).set k (uv (v:Nat)))[k]?=some (uv (v:Nat)):=List.getElem?_set_self (by rw [List.length_map]; omega)
   by_cases hfx:q0G v
   ·rw [decide_eq_true hfx] at cF;rw [if_pos hfx] at hv;refine wk1 (x6 hlt' hu rk es1 es2 (x2 hy hset)) ?_;refine ⟨(k+1,ys.set k v),⟨by simp only; omega,by simp only; rw [List.length_set]; exact hy,q2w hfy hqlt hfx,hv⟩,by simp only; omega,?_⟩;simp only;refine LeW [] rfl rfl ?_ ?_ (by simp [q1I,q0t,win]) ?_
    ·exact Ow
    ·exact hW
    ·try refine Zz ?_
     rfl
   ·rw [decide_eq_false hfx] at cF;rw [if_neg hfx] at hv;subst hv;refine wk1 (x6 hlt' hu rk es1 es2 (x2 hy hset)) ?_;refine (rtM (rs:=[.tmp 4,.tmp 5]) rfl rfl Lq ?_ (.inl rfl));exact LeEn hJ
  ·obtain rfl:n=k:=by omega
   have hlt':¬ (n:Int) < n:=by omega
   rw [Nat.sub_self,geL] at hv;simp only [hF] at hv;clear hF hres;refine wk1 hlt' ?_;refine q0U (fun q:Nat × List Nat=>q.1≤n∧q.2.length=n∧q1E q.2∧(match geU DU n q.1 q.2 with | none=>([],233) | some z=>(scS z f.cols n n,(0:Int)))=res) [2,6,8,9] [2] Lk Lk (fun q=>[(12,iv ((q.1:Int)-1)),(10,.ow 1001 none 0 n)]) (fun q=>[(1001,⟨43,none,q.2.map fun z:Nat=>uv z,false⟩)]) (fun _=>h0) (fun q=>q.1) (n,ys) ⟨Nat.le_refl _,hy,hfy,hv⟩ ?_ ?_
   ·refine LeW [] rfl rfl ?_ ?_ (by simp [q1I,q0t,win]) ?_
    ·exact Ow
    ·exact hW
    ·try simp -implicitDefEqProofs (disch:=omega) only [go_sem,Nat.reduceEqDiff,Nat.reduceAdd,↓reduceIte]
   ·clear hv hy hfy;rintro ⟨k,ys⟩ ⟨hk,hy,hfy,hv⟩;simp only at hk hy hfy hv ⊢
    by_cases hlt:k=0
    ·subst hlt;rw [geU] at hv;simp only at hv;subst hv;have cS2:=q9P (l:=ys) (o:=f.cols) hy hcl Oq hcb;have hsl:=q44 (x:=ys) (o:=f.cols) (n:=n) n;dsimp only;rw [hsl];generalize scS ys f.cols n n=x at *;refine wk ?_;refine q1M (LeT (hw:=h0) (fun i=>if i=1001 then none else some i) (fun i hi=>(hJ i hi).elim) (fun i hi hw=>?_) (fun i b hw hb=>?_) (fun i j x hi hj ti tj=>?_) (xs:=[(2,.pt 2 0 0),(10,pF ys)]) (kv:=[]) (bs:=[(2,⟨28,some 8,[.ag [pI f.rows,pI f.cols,pI f.ls,pI f.li,pF f.lv,pI f.us,pI f.ui,pF f.uv]],false⟩)]) (kb:=[]) ?_) ?_
     ·simp at hi;unfold win at hw;omega
     ·cases hb
     ·split at ti <;> split at tj <;> cases ti <;> cases tj <;> rfl
     ·try refine Zz ?_
      try exact q9H rfl clU (fun i hi=>by split at hi <;> cases hi; omega) (by rw [List.drop_zero]; exact List.take_of_length_le (by rw [List.length_map]; omega))
     refine qpb fun K hK=>?_;refine Zz ?_;refine jm cS2 ?_ (fun i hi=>(hi trivial).elim) ?_
     ·change Wn _ _;exact Ow
     try refine Zz ?_
     refine hK _ _ ?_; clear hK K;refine wk ?_;refine (rtM (rs:=[.tmp 4,.tmp 5]) rfl rfl Lq ?_ (.inl rfl));refine LeE hJ ?_ clU
     try simp -implicitDefEqProofs (disch:=omega) only [go_sem,Nat.reduceEqDiff,Nat.reduceAdd,↓reduceIte]
    ·obtain ⟨k,rfl⟩:∃ k',k=k'+1:=⟨k-1,by omega⟩;have hkn:k < n:=by omega
     obtain ⟨u,hu⟩:∃ u,ys[k]?=some u:=⟨_,List.getElem?_eq_getElem Oq⟩;obtain ⟨u1,u2⟩:=hfy u (List.mem_of_getElem? hu);have rk:(List.range n)[k]?=some k:=List.getElem?_range hkn;have hrf:q1E (q9L n gu k):=fun x hx=>by
      obtain ⟨c,hc⟩:=List.mem_iff_getElem?.1 hx;have hck:c < n:=by have:=(List.getElem?_eq_some_iff.1 hc).1; rwa [q7Q] at this
      rw [q5N hck] at hc;cases hc;rw [vU hck];exact fU hck
     have hrl:((q9L n gu k).drop (k+1)).length=n-(k+1):=by rw [List.length_drop,q7Q]
     have hS:=rst_U (g:=gu) (D:=DU) (n:=n) (k:=k) (ys:=ys) hkn hy fun c hc=>vU hc;rw [getD_some hu] at hS;rw [geU] at hv;have cR:=qa6 (B:=ofZ u) (l:=(q9L n gu k).drop (k+1)) (x:=ys.drop (k+1)) (q0u u2) (q8l hrf) (q8l hfy) (by rw [hrl,List.length_drop]; omega) (by omega);rw [hrl,hS] at cR;have hdz:=dU k hkn;have hkk:=vU (i:=k) (j:=k) hkn;obtain ⟨d1,d2⟩:=fU (i:=k) (j:=k) hkn;rw [← hkk] at hdz d1 d2 hv;generalize upZ DU ys n k=S at *;unfold pF at cR;rw [List.map_drop,List.map_drop,← qsI] at cR;have cZ:=qdO (V:=S);have cO1:=q0h u1 (q0N u2);have cO2:=q0h d1 (q0N d2);have cQ:=qdU (qeU (A:=S) (mode:=0) hdz);have hqlt:fQ 0 S (ofZ (gu k k)) < 18446744073709551616:=qia hdz;generalize fQ 0 S (ofZ (gu k k))=v at *;have cF:=q1F hqlt;have ek:((k+1:Nat):Int)-1=(k:Int):=by omega
     have wj:(k:Int)+1=((k+1:Nat):Int):=rfl;have ww:IntKind.i64.wrap ((k+1:Nat):Int)=((k+1:Nat):Int):=i64_in Oq Oq;have es1:slP (some 1) (some (iv ((k+1:Nat):Int))) none (.sl none (rU n gu k))=some (.sl none ((rU n gu k).drop (k+1))):=by
      simp [slP,q8w,ksz];rw [if_pos (by omega),Option.bind_some,if_pos (by omega),List.take_of_length_le (by simp [rU])]
     have es2:slP (some 1) (some (iv ((k+1:Nat):Int))) none (.ow 1001 none 0 n)=some (.ow 1001 none (k+1) (n-(k+1))):=by
      simp [slP,q8w,ksz];rw [if_pos (by omega),Option.bind_some,if_pos (by omega)]
     have htk:((ys.map fun z:Nat=>uv z).drop (k+1)).take (n-(k+1))=(ys.map fun z:Nat=>uv z).drop (k+1):=List.take_of_length_le (by rw [List.length_drop,List.length_map]; omega);have hset:((ys.map fun z:Nat=>uv z).set k (uv (v:Nat)))[k]?=some (uv (v:Nat)):=List.getElem?_set_self (by rw [List.length_map]; omega)
     by_cases hfx:q0G v
     ·rw [decide_eq_true hfx] at cF;rw [if_pos hfx] at hv;refine wk1 (x6 ek wj ww htk hu (x4 rk es1 es2 hset)) ?_;refine ⟨(k,ys.set k v),⟨by simp only; omega,by simp only; rw [List.length_set]; exact hy,q2w hfy hqlt hfx,hv⟩,by simp only; omega,?_⟩;simp only;refine LeW [] rfl rfl ?_ ?_ (by simp [q1I,q0t,win]) ?_
      ·exact Ow
      ·exact hW
      ·try simp -implicitDefEqProofs (disch:=omega) only [go_sem,Nat.reduceEqDiff,Nat.reduceAdd,↓reduceIte]
     ·rw [decide_eq_false hfx] at cF;rw [if_neg hfx] at hv;subst hv;refine wk1 (x6 ek wj ww htk hu (x4 rk es1 es2 hset)) ?_;refine (rtM (rs:=[.tmp 4,.tmp 5]) rfl rfl Lq ?_ (.inl rfl));exact LeEn hJ
def qhF {l:List Nat} {n:Nat} (hu:∀ x ∈ l,x < 18446744073709551616) (hl:l.length≤1000000) (hn:n≤1000000):ACt 216 [pF l,iv n] (iv (q9K 0 n l)):=by
 have cF:=qcT hu hl;unfold q9K;rw [if_neg (not_not_intro rfl)];refine ac0 Tryz.func216 Tryz.ntmps216 [.tmp 4] ?_
 by_cases h:l.length=n
 ·have q:((l.length:Int) != (n:Int))=false:=by simp; omega
  rw [if_neg (not_not_intro h)];generalize (if ¬ ∀ x ∈ l,q0G x then (4:Int) else 0)=z at *;exact wk1 q trivial
 ·have q:((l.length:Int) != (n:Int))=true:=by simp; omega
  rw [if_pos h];exact wk1 q trivial
noncomputable def lgF (DU:Nat→Nat→Nat) (n:Nat) (o:List Int) (K:Nat) (ys:List Nat):List Nat × Int:=match geU DU n K ys with
 | none=>([],233)
 | some z=>(scS z o n n,0)
def lgF_s {DU:Nat→Nat→Nat} {n:Nat} {o:List Int} {k:Nat} {ys:List Nat}:lgF DU n o (k+1) ys=if q0G (fQ 0 (upZ DU ys n k) (ofZ (DU k k))) then lgF DU n o k (ys.set k (fQ 0 (upZ DU ys n k) (ofZ (DU k k)))) else ([],233):=by
 unfold lgF;rw [geU]
 by_cases h:q0G (fQ 0 (upZ DU ys n k) (ofZ (DU k k)))
 ·rw [if_pos h,if_pos h]
 ·rw [if_neg h,if_neg h]
def lgF_0 {DU:Nat→Nat→Nat} {n:Nat} {o:List Int} {ys:List Nat}:lgF DU n o 0 ys=(scS ys o n n,0):=rfl
def qeA {f:LUt} {l:List Nat} (hb:LUb f) (hn:f.rows.length≤30) (hul:∀ x ∈ l,x < 18446744073709551616) (hl:l.length≤1000000) :
  ACt 134 [pLU f,pF l] (.tu [pF (lgE f l).1,iv (lgE f l).2]):=by
 have cK:=qet hb;have cV:=qhF (n:=f.rows.length) hul hl Oq;unfold lgE
 by_cases hc:q4W f=0
 case neg =>
  have hs:q9K (q4W f) f.rows.length l=q4W f:=if_pos hc;rw [hs,if_pos hc];generalize q4W f=e at *;have q1:(e == 0)=false:=by simpa using hc
  have q2:(e != 0)=true:=by simpa using hc
  unfold pLU at *;dsimp only;refine ac0 Tryz.func134 Tryz.ntmps134 [.tmp 4,.tmp 5] ?_;exact wk1 (x2 q1 q2) trivial
 rw [hc]
 by_cases hz0:q9K 0 f.rows.length l=0
 case neg =>
  rw [if_pos hz0];rw [hc] at cK;generalize q9K 0 f.rows.length l=e at *;have q2:(e != 0)=true:=by simpa using hz0
  unfold pLU at *;dsimp only;refine ac0 Tryz.func134 Tryz.ntmps134 [.tmp 4,.tmp 5] ?_;exact wk1 q2 trivial
 rw [if_neg (not_not_intro hz0)];rw [hc] at cK;rw [hz0] at cV;obtain ⟨_,h2,h3⟩:=qmG hz0;have hf:=qa2 hb hc;have hfl:q1E l:=fun x hx=>⟨hul x hx,h3 x hx⟩;have hrb:∀ x ∈ f.rows,0≤x∧x < f.rows.length:=fun x hx=>hf.rp.2.1 x hx;have hcb:∀ x ∈ f.cols,0≤x∧x < f.rows.length:=fun x hx=>hf.cp.2.1 x hx;have hcl:f.cols.length=f.rows.length:=by have:=hf.cp.1; omega
 have cG:=qcS (l:=l) (o:=f.rows) (n:=f.rows.length) h2 rfl Oq hrb;have hgl:=q9w (l:=l) (o:=f.rows) (n:=f.rows.length);have hgf:=q9x (o:=f.rows) (n:=f.rows.length) hfl;generalize gaS l f.rows f.rows.length=g at *;have cU:=qle hf.L hgl hgf hn;have hlr:∀ y,geL (cLo f) f.rows.length 0 g=some y→y.length=f.rows.length∧q1E y:=fun y hy=>q9v _ _ g y hgl hgf hy;have ec:cLo f=fun i c=>ctV (q7i f.ls f.li f.lv c) i:=rfl;rw [← ec] at cU;clear ec;generalize geL (cLo f) f.rows.length 0 g=R1 at *;cases R1 with
 | none =>
  unfold fwP at cU;unfold pLU at *;dsimp only;refine ac0 Tryz.func134 Tryz.ntmps134 [.tmp 4,.tmp 5] ?_;exact wk trivial
 | some b =>
  obtain ⟨hbn,hbf⟩:=hlr b rfl;unfold fwP at cU;have hDv:=fun r k=>show cUp f r k=ctV (q7i f.us f.ui f.uv k) r from rfl;have hC:=hf.U;have hdg:=hf.dg;clear hf hlr;change ACt _ _ (.tu [pF (lgF (cUp f) f.rows.length f.cols f.rows.length b).1,iv (lgF (cUp f) f.rows.length f.cols f.rows.length b).2]);have h00:=fun ys=>lgF_0 (DU:=cUp f) (n:=f.rows.length) (o:=f.cols) (ys:=ys);have hss:=fun k ys=>lgF_s (DU:=cUp f) (n:=f.rows.length) (o:=f.cols) (k:=k) (ys:=ys);generalize lgF (cUp f) f.rows.length f.cols=W at *;generalize cUp f=D at *;generalize q7i f.us f.ui f.uv=E at *;generalize hnn:f.rows.length=n at *;obtain ⟨res,hres⟩:∃ r,r=W n b:=⟨_,rfl⟩;rw [← hres];have cB:=qgG hbf Oq;rw [hbn] at cB;have hnn2:n*n≤30*30:=Nat.mul_le_mul hn hn;unfold pLU at *;refine ac0 Tryz.func134 Tryz.ntmps134 [.tmp 4,.tmp 5] ?_;refine wk1 hnn ?_;refine A_jW [(2,.pt 2 0 0),(7,pF b),(8,.ow 5000 none 0 n),(9,.ow 46 none 0 n)] [(2,⟨28,some 8,[.ag [pI f.rows,pI f.cols,pI f.ls,pI f.li,pF f.lv,pI f.us,pI f.ui,pF f.uv]],false⟩),(46,⟨43,none,(yUp n b n).map fun z:Nat=>uv z,false⟩)] (q5I n (bgR b n)) ?_ fun K0 fin=>?_
  rotate_left
  ·refine q6Q q3Y (.one 0 (.one 2 (.one 3 (.alt (.one 1 (.one 5 (.one 4 (.one 6 .fin)))) (.one 4 (.one 1 (.one 5 (.one 6 .fin)))))))) (by kernel_rfl) fun K9 hK9=>?_;refine Zz1 hbn ?_;refine ⟨?_,?_⟩
   all_goals
    refine jmF cB ?_ ?_
    ·exact Ow
    ·try refine Zz ?_
     refine hK9 _ _ (fin _ _ ?_);refine LeW [] rfl rfl ?_ ?_ (by simp [q1I,q0t,win]) ?_
     ·exact Ow
     ·exact wfB (q09 Oq)
     ·try refine Zz ?_
      exact yUp_n.symm
  refine wk1 hbn ?_;refine q0U (fun q:Nat × List Nat × (Nat→List Int)=>q.1≤n∧q.2.1.length=n∧q1E q.2.1∧RUp D n q.1 q.2.1 q.2.2∧RB q.2.2 ((n-q.1)*n+1)∧W q.1 q.2.1=res) [2,8] [2] Lk Lk (fun q=>[(10,iv ((q.1:Int)-1)),(9,.ow 1001 none 0 n)]) (fun q=>[(1001,⟨43,none,(yUp n q.2.1 q.1).map fun z:Nat=>uv z,false⟩)]) (fun q=>q5I n q.2.2) (fun q=>q.1) (n,b,bgR b n) ⟨Nat.le_refl _,hbn,hbf,RUp.bg hbn,by rw [Nat.sub_self,Nat.zero_mul]; exact RB.bg hbf,hres.symm⟩ ?_ ?_
  ·refine LeW [(1001,some 46)] rfl rfl ?_ ?_ (by simp [q1I,q0t,win]) ?_
   ·exact Ow
   ·exact wfB (q09 Oq)
   ·try simp -implicitDefEqProofs (disch:=omega) only [go_sem,Nat.reduceEqDiff,Nat.reduceAdd,↓reduceIte]
  ·rintro ⟨K,ys,rows⟩ ⟨hk,hy,hfy,hlo,hrb,hv⟩;simp only at hk hy hfy hlo hrb hv ⊢
   by_cases hK0:K=0
   ·subst hK0;rw [h00] at hv;subst hv;have e:=yUp_0 hy;have cS:=q98 (l:=ys) (o:=f.cols) hy hcl Oq hcb;have hsl:=q44 (x:=ys) (o:=f.cols) (n:=n) n;dsimp only;generalize scS ys f.cols n n=zs at *;rw [e];refine wk ?_;refine q1M (LeT (hw:=h0) (fun i=>if i=1001 then none else some i) (fun i hi=>hi.elim) (fun i hi hw=>?_) (fun i b hw hb=>?_) (fun i j x hi hj ti tj=>?_) (xs:=[(2,.pt 2 0 0),(9,pF ys)]) (kv:=[]) (bs:=[(2,⟨28,some 8,[.ag [pI f.rows,pI f.cols,pI f.ls,pI f.li,pF f.lv,pI f.us,pI f.ui,pF f.uv]],false⟩)]) (kb:=[]) ?_) ?_
    ·simp at hi;unfold win at hw;omega
    ·cases hb
    ·split at ti <;> split at tj <;> cases ti <;> cases tj <;> rfl
    ·try refine Zz ?_
     exact q9H rfl clU (fun i hi=>by split at hi <;> cases hi; omega) (by rw [List.drop_zero]; exact List.take_of_length_le (by rw [List.length_map]; omega))
    refine qpb fun K hK=>?_;refine Zz ?_;refine jmF cS ?_ ?_
    ·exact Ow
    try refine Zz ?_
    refine hK _ _ ?_; clear hK K;exact wk1 hsl trivial
   ·obtain ⟨k,rfl⟩:∃ k,K=k+1:=⟨K-1,by omega⟩;have hlt:k < n:=by omega
    have ek:((k+1:Nat):Int)-1=(k:Int):=by omega
    have wj:(k:Int)+1=((k+1:Nat):Int):=rfl;have ww:IntKind.i64.wrap ((k+1:Nat):Int)=((k+1:Nat):Int):=i64_in Oq Oq;have hkn:(n-(k+1))*n≤30*30:=Nat.mul_le_mul Oq hn;obtain ⟨a,a1,a2,a3,a4⟩:=hC.col k hlt;obtain ⟨L,x,hL,hx0,hL1⟩:=hdg k hlt;have hnd:=hC.nd k hlt;have hsz:=hC.sz k hlt;have hcl2:=hC.len;have hUs:=fun v=>hlo.s (E:=E) (v:=v) (x:=x) (m:=L) hlt Oq hnd hL (fun r=>hDv r k);have hxx:D k k=x:=by rw [hDv]; exact qaN (t:=L.length) (e:=(k,x)) hnd (by rw [hL]; simp)
    rw [hL,List.length_append,List.length_singleton] at a2 a3 hsz;rw [hL] at a4 hnd;obtain ⟨_,x1,_,x2,x3⟩:=a4 L.length (k,x) (by simp);dsimp only at x1 x2 x3;have cT:=qad (rows:=rows) (k:=k) Oq hlt (by have:=hrb.l k; omega) (hrb.b k);have hd:=q4p (hrb.b k) (by have:=hrb.l k; omega);have nd:=qh1 hd;rw [hlo.v] at cT nd hd;rw [hss,hxx] at hv;have hqlt:fQ 0 (upZ D ys n k) (ofZ x) < 18446744073709551616:=qia hx0;have cO:=q1v x3 (q0N x2);have cQ:=qne hd (q11 x2) hx0;generalize upZ D ys n k=S at *;generalize fQ 0 S (ofZ x)=v at *;have cF:=q34 hqlt;have hyl:=qlV (n:=n) (ys:=ys) (k:=k+1);have hys:=yUp_s (v:=v) hy hlt;have hset:((yUp n ys (k+1)).map fun z:Nat=>uv z).set k (uv (v:Nat))=(yUp n (ys.set k v) k).map fun z:Nat=>uv z:=by rw [← hys,List.map_set]
    have hset2:(((yUp n ys (k+1)).map fun z:Nat=>uv z).set k (uv (v:Nat)))[k]?=some (uv (v:Nat)):=List.getElem?_set_self (by rw [List.length_map,hyl]; exact hlt);have wl:IntKind.i64.wrap (((a+(L.length+1):Nat):Int)-1)=((a+L.length:Nat):Int):=by rw [i64_in (by omega) (by omega)]; omega
    by_cases hfx:q0G v
    ·rw [decide_eq_true hfx] at cF;rw [if_pos hfx] at hv;refine wk1 (x6 ek wj ww a1 a2 (x4 wl hyl x1 hset2)) ?_;rw [hset] at hset2 ⊢;have hLf:∀ e ∈ L,q0G e.2∧e.2 < 18446744073709551616:=fun e he=>by
      obtain ⟨t,ht⟩:=List.mem_iff_getElem?.1 he;obtain ⟨_,_,_,q4,q5⟩:=a4 t e (by rw [List.getElem?_append_left (List.getElem?_eq_some_iff.1 ht).1]; exact ht);exact ⟨q4,q5⟩
     have hBL:=fun t=>hrb.ps (L:=L.take t) hfx fun e he=>(hLf e (List.mem_of_mem_take he)).1;refine q0U (fun t:Nat=>t≤L.length) [2,8,9,10,11] [2,1001] Lk Lk (fun t=>[(12,iv ((a+t:Nat):Int))]) (fun _=>[]) (fun t=>q5I n (psE v (L.take t) rows)) (fun t=>L.length-t) 0 (Nat.zero_le _) ?_ ?_
     ·refine LeW [] rfl rfl ?_ ?_ (by simp [q1I,q0t,win]) ?_
      ·exact Ow
      ·exact wfB (q09 Oq)
      ·try simp -implicitDefEqProofs (disch:=omega) only [go_sem,Nat.reduceEqDiff,Nat.reduceAdd,↓reduceIte]
     ·intro t ht
      by_cases hlt2:t < L.length
      ·obtain ⟨⟨i,w⟩,e1⟩:∃ e,L[t]?=some e:=⟨_,List.getElem?_eq_getElem hlt2⟩;obtain ⟨b1,b2,b3,b4,b5⟩:=a4 t (i,w) (by rw [List.getElem?_append_left hlt2]; exact e1);dsimp only at b1 b2 b3 b4 b5;have hq:((a+t:Nat):Int) < ((a+L.length:Nat):Int):=by omega
       have wt:IntKind.i64.wrap (((a+t:Nat):Int)+1)=((a+(t+1):Nat):Int):=by rw [i64_in (by omega) (by omega)]; omega
       have hps:psE v (L.take (t+1)) rows=q3c (psE v (L.take t) rows) i (-(q10 w v)):=qm4 e1;have hli:(psE v (L.take t) rows i).length≤2000:=by have:=(hBL t).l i; rw [List.length_take] at this; omega
       have cX:=q63 (rows:=psE v (L.take t) rows) (k:=i) (n:=n) (a:=w) (c:=v) Oq b3 hli ⟨b4,b5⟩ ⟨hfx,hqlt⟩;generalize psE v (L.take t) rows=rs at *;have hgn:=fun j=>q8Q (j:=j) (n:=n) (rows:=rs) (k:=i) (z:=900000) (l:=(rs i ++ [-(q10 w v)]).map fun V=>pV V);refine wk1 hq ?_;refine q6Q q3Y (.one 0 (.one 1 (.one 3 (.one 6 (.one 8 (.one 11 (.one 12 (.one 13 (.alt (.one 2 (.one 4 (.alt (.one 5 (.alt (.one 7 (.one 9 (.alt (.one 10 (.one 14 (.one 15 .fin))) (.one 14 (.one 10 (.one 15 .fin)))))) (.one 14 (.one 7 (.one 9 (.one 10 (.one 15 .fin))))))) (.alt (.one 7 (.one 9 (.alt (.one 5 (.alt (.one 10 (.one 14 (.one 15 .fin))) (.one 14 (.one 10 (.one 15 .fin))))) (.alt (.one 10 (.alt (.one 5 (.one 14 (.one 15 .fin))) (.one 14 (.one 5 (.one 15 .fin))))) (.one 14 (.alt (.one 5 (.one 10 (.one 15 .fin))) (.one 10 (.one 5 (.one 15 .fin))))))))) (.one 14 (.alt (.one 5 (.one 7 (.one 9 (.one 10 (.one 15 .fin))))) (.one 7 (.one 9 (.alt (.one 5 (.one 10 (.one 15 .fin))) (.one 10 (.one 5 (.one 15 .fin)))))))))))) (.alt (.one 7 (.one 9 (.alt (.one 2 (.one 4 (.alt (.one 5 (.alt (.one 10 (.one 14 (.one 15 .fin))) (.one 14 (.one 10 (.one 15 .fin))))) (.alt (.one 10 (.alt (.one 5 (.one 14 (.one 15 .fin))) (.one 14 (.one 5 (.one 15 .fin))))) (.one 14 (.alt (.one 5 (.one 10 (.one 15 .fin))) (.one 10 (.one 5 (.one 15 .fin))))))))) (.alt (.one 10 (.alt (.one 2 (.one 4 (.alt (.one 5 (.one 14 (.one 15 .fin))) (.one 14 (.one 5 (.one 15 .fin)))))) (.one 14 (.one 2 (.one 4 (.one 5 (.one 15 .fin))))))) (.one 14 (.alt (.one 2 (.one 4 (.alt (.one 5 (.one 10 (.one 15 .fin))) (.one 10 (.one 5 (.one 15 .fin)))))) (.one 10 (.one 2 (.one 4 (.one 5 (.one 15 .fin))))))))))) (.one 14 (.alt (.one 2 (.one 4 (.alt (.one 5 (.one 7 (.one 9 (.one 10 (.one 15 .fin))))) (.one 7 (.one 9 (.alt (.one 5 (.one 10 (.one 15 .fin))) (.one 10 (.one 5 (.one 15 .fin))))))))) (.one 7 (.one 9 (.alt (.one 2 (.one 4 (.alt (.one 5 (.one 10 (.one 15 .fin))) (.one 10 (.one 5 (.one 15 .fin)))))) (.one 10 (.one 2 (.one 4 (.one 5 (.one 15 .fin)))))))))))))))))))) (by kernel_rfl) fun K9 hK9=>?_
       refine Zz3 b1 b2 hset2 ?_;have fin:∀ (s:Nat→PV) (h:Hp),Le (fun _=>False) s h (stM [(2,.pt 2 0 0),(8,.ow 5000 none 0 n),(9,.ow 1001 none 0 n),(10,iv k),(11,iv ((a+L.length:Nat):Int)),(12,iv ((a+t:Nat):Int))] []) (q0v (q5I n (q3c rs i (-(q10 w v)))) (hpM [(2,⟨28,some 8,[.ag [pI f.rows,pI f.cols,pI f.ls,pI f.li,pF f.lv,pI f.us,pI f.ui,pF f.uv]],false⟩),(1001,⟨43,none,(yUp n (ys.set k v) k).map fun z:Nat=>uv z,false⟩)] []))→K9 s h:=fun s h hl=>by
        refine hK9 _ _ (q1M hl ?_);clear hK9 hl K9;refine wk1 wt ?_;refine ⟨t+1,by omega,by omega,?_⟩;rw [hps];refine LeW [] rfl rfl ?_ ?_ (by simp [q1I,q0t,win]) ?_
        ·exact Ow
        ·exact wfB (q09 Oq)
        ·try simp -implicitDefEqProofs (disch:=omega) only [go_sem,Nat.reduceEqDiff,Nat.reduceAdd,↓reduceIte]
       clear hK9
       repeat' (with_reducible apply And.intro)
       all_goals
        refine jx cX q37 (fun _ h=>h.elim) (qj0 (a:=i+10000) hgn ?_ ?_) ?_
        ·repeat (refine qcA ?_ (by first | (unfold IdP; first | trivial | omega) | simp [IdP,IdL]))
         first | exact (fun t=>by unfold stV IdP; trivial) | exact qgP (by simp [IdL,IdP]; omega) (by simp [IdL,IdP]) | exact qgP (by simp [IdL,IdP]) (by simp [IdL,IdP])
        ·repeat (refine qcE ?_ rfl (by first | exact qft clU | simp [IdL,IdP]))
         exact qjZ (qgU (fun p hp b hb=>by
          simp at hp
          rcases hp with rfl | rfl <;> cases hb
          ·exact ⟨rfl,by simp [IdL,IdP]⟩
          ·exact ⟨rfl,qft clU⟩) (by simp))
        ·try refine Zz ?_
         refine fin _ _ ?_;unfold q5I;rw [← qaE];refine q3j (r:=900000) (k:=i) (row:=q69 rs) (fun _ h=>h) b3 clV ?_ ?_ (fun i h1 h2 h3 h4=>?_) (fun _ _=>clV) BOk.h0 (.inr ⟨by omega,by omega⟩) (by omega) (by omega) (by omega) (by simp [nmW]) ?_
         ·rw [q0T ⟨by omega,by omega⟩];unfold q7I;rw [if_neg (by omega),if_neg (by omega),if_pos rfl]
         ·rw [q0T ⟨by omega,by omega⟩];unfold q7I;rw [if_neg (by omega),if_pos rfl]
         ·rw [q0T h1];unfold q7I;rw [if_neg h3,if_neg h4,if_neg h2]
         ·try simp -implicitDefEqProofs (disch:=omega) only [go_sem,Nat.reduceEqDiff,Nat.reduceAdd,↓reduceIte]
      ·obtain rfl:t=L.length:=by omega
       have hq:¬ ((a+L.length:Nat):Int) < ((a+L.length:Nat):Int):=by omega
       have hB2:=hBL L.length;rw [List.take_length] at hB2 ⊢;refine wk1 hq ?_;refine ⟨(k,ys.set k v,psE v L rows),⟨by simp only; omega,by simp only; rw [List.length_set]; exact hy,q2w hfy hqlt hfx,hUs v,hB2.mono (by rw [show n-k=(n-(k+1))+1 by omega,Nat.succ_mul]; omega),hv⟩,by simp only; omega,?_⟩;simp only;refine LeW [] rfl rfl ?_ ?_ (by simp [q1I,q0t,win]) ?_
       ·exact Ow
       ·exact wfB (q09 Oq)
       ·try simp -implicitDefEqProofs (disch:=omega) only [go_sem,Nat.reduceEqDiff,Nat.reduceAdd,↓reduceIte]
    ·rw [decide_eq_false hfx] at cF;rw [if_neg hfx] at hv;subst hv;exact wk1 (x6 ek wj ww a1 a2 (x4 wl hyl x1 hset2)) trivial
def rgL (G:Nat→Nat→Option Nat) (i:Nat):Nat→List Int
 | 0=>[qsV]
 | k+1=>if k=i then rgL G i k else rgL G i k ++ [((ofZ ((G k i).getD 0)).natAbs:Int),((ofZ ((G i k).getD 0)).natAbs:Int)]
def rgF (G:Nat→Nat→Option Nat) (n j i:Nat):Option Nat:=if i=j then some (fR 2 (q1U (rgL G i n))) else G j i
def qeL {G:Nat→Nat→Option Nat} {n i:Nat} (h:TOk G n n) (hi:i < n):∀ k,k≤n→(rgL G i k).length≤2*k+1∧∀ x ∈ rgL G i k,bl x.natAbs≤67600
 | 0,_=>⟨Nat.le_refl _,fun x hx=>by unfold rgL at hx; simp at hx; subst hx; exact q9d.2⟩
 | k+1,hk=>by
  obtain ⟨h1,h2⟩:=qeL h hi k Oq;unfold rgL
  split
  ·exact ⟨by omega,h2⟩
  ·refine ⟨by simp; omega,fun x hx=>?_⟩
   rcases List.mem_append.1 hx with hx | hx
   ·exact h2 x hx
   ·simp at hx
    rcases hx with rfl | rfl <;> rw [Int.natAbs_natCast]
    ·exact q0u (h.fin Oq Oq).1
    ·exact q0u (h.fin Oq Oq).1
def qc1 {raw:List Nat} {st:Int} {n:Nat} (hr:raw.length≤9223372036854775807) (hn:n≤100) (h3 : -9223372036854775808≤st) (h4:st≤9223372036854775807) :
  ACt 71 [pF raw,iv n,iv st] (pT n n (rgF (gF raw n (q04 (q04 st 3:Nat) 4)) n)):=by
 have hs3:q04 st 3 < 3:=by unfold q04; omega
 have hnn:n*n≤100*100:=Nat.mul_le_mul hn hn;have cM:=q2i (a:=st) (n:=3) h3 h4 Oq Oq;have cG:=q32 (raw:=raw) (st:=(q04 st 3:Nat)) (R:=n) (C:=n) hr Oq Oq Oq Oq;have hG:=qhy (raw:=raw) (R:=n) (C:=n) (st:=q04 (q04 st 3:Nat) 4) Oq Oq Oq;generalize gF raw n (q04 (q04 st 3:Nat) 4)=G at *;have cA:∀ {i j:Nat},i < n→j < n→_:=fun {i j} hi hj=>qai (i:=i) (j:=j) hG hi hj;have cS:∀ {i j:Nat},i < n→j < n→_:=fun {i j} hi hj=>qcN (i:=i) (j:=j) hG hi hj;generalize hFn:rgF G n=F;have hpt:pT n n F=pM n n (tM F n n):=rfl;have hpG:pT n n G=q1n n n (tM G n n).1 (tM G n n).2.1 (tM G n n).2.2:=rfl;rw [hpG] at cG;simp only [hpG] at cA cS;rw [hpt];clear hpG hpt;unfold q1n at cG cA cS;generalize (tM G n n).1=gs at *;generalize (tM G n n).2.1=gi at *;generalize (tM G n n).2.2=gv at *;have c1:=q3s (z:=1) Oq Oq q9d.1;refine ac0 Tryz.func71 Tryz.ntmps71 [.cell 6 26] ?_;refine wk ?_;refine q0A (fun j=>j≤n) [1,6,7,8] [6,7] Lk Lk (fun j:Nat=>[(9,iv j)]) (fun j=>[(8,⟨26,some 5,[.ag [iv n,iv n,.ow 1001 none 0 (tM F n j).1.length,.ow 1002 none 0 (tM F n j).2.1.length,.ow 1003 none 0 (tM F n j).2.2.length]],false⟩),(1001,⟨3,none,(tM F n j).1.map fun z=>iv z,false⟩),(1002,⟨3,none,(tM F n j).2.1.map fun z=>iv z,false⟩),(1003,⟨43,none,(tM F n j).2.2.map fun z:Nat=>uv z,false⟩)]) (fun j=>n-j) 0 (Nat.zero_le _) ?_ ?_
 ·refine LeM [(1001,some 21),(1002,none),(1003,none)] rfl rfl ?_;refine Zz ?_;exact ⟨rfl,⟨rfl,rfl,rfl⟩,rfl,rfl,rfl⟩
 ·intro j hj;have hg:=q1a (f:=F) (R:=n) j;have hjn:j*n≤100*100:=Nat.mul_le_mul Oq hn;refine wk ?_
  by_cases hlt:j < n
  ·have hlt':(j:Int) < n:=by omega
   refine wk1 hlt' ?_;have hM1:(tM F n (j+1)).1=(tM F n j).1 ++ [((tC F j (tM F n j).2 n).1.length:Int)]:=rfl;have hM2:(tM F n (j+1)).2=tC F j (tM F n j).2 n:=rfl;generalize (tM F n j).1=ms at *;generalize (tM F n j).2=mp at *;refine q0A (fun i=>i≤n) [1,6,7,8,9] [6,7,1001] Lk Lk (fun i:Nat=>[(10,iv i)]) (fun i=>[(8,⟨26,some 5,[.ag [iv n,iv n,.ow 1001 none 0 ms.length,.ow 1002 none 0 (tC F j mp i).1.length,.ow 1003 none 0 (tC F j mp i).2.length]],false⟩),(1002,⟨3,none,(tC F j mp i).1.map fun z=>iv z,false⟩),(1003,⟨43,none,(tC F j mp i).2.map fun z:Nat=>uv z,false⟩)]) (fun i=>n-i) 0 (Nat.zero_le _) ?_ ?_
   ·refine LeM [] rfl rfl ?_;refine Zz ?_;exact ⟨rfl,⟨rfl,rfl⟩,rfl,rfl⟩
   ·intro i hi;have hq:=q8V (f:=F) (j:=j) hg.2.1 i;refine wk ?_
    by_cases hlt2:i < n
    ·have hlt2':(i:Int) < n:=by omega
     refine wk1 hlt2' ?_
     by_cases hij:i=j
     ·have e1:((i:Int) == (j:Int))=true:=by simp; omega
      have hF:F j i=some (fR 2 (q1U (rgL G i n))):=by rw [← hFn]; unfold rgF; rw [if_pos hij]
      obtain ⟨z,hz⟩:∃ z,z=fR 2 (q1U (rgL G i n)):=⟨_,rfl⟩;rw [← hz] at hF;have eg:=q93 (p:=mp) hF;refine wk1 e1 ?_;refine q0A (fun k=>k≤n) [1,6,7,8,9,10] [6,7,8,1001,1002,1003] Lk Lk (fun k:Nat=>[(12,iv k),(11,.ow 1004 (some 4) 0 (rgL G i k).length)]) (fun k=>[(1004,⟨40,some 4,(rgL G i k).map fun V=>pV V,false⟩)]) (fun k=>n-k) 0 (Nat.zero_le _) ?_ ?_
      ·refine LeM [(1004,some 37)] rfl rfl ?_;refine Zz ?_;exact ⟨⟨rfl,rfl⟩,q0M rfl clV⟩
      ·intro k hk;obtain ⟨d1,d2⟩:=qeL hG hlt2 k hk;refine wk ?_
       by_cases hlk:k < n
       ·have hlk':(k:Int) < n:=by omega
        refine wk1 hlk' ?_
        by_cases hki:k=i
        ·have e2:((k:Int) != (i:Int))=false:=by simp; omega
         have es:rgL G i (k+1)=rgL G i k:=by rw [rgL,if_pos hki]
         refine wk1 e2 ?_;refine ⟨k+1,by omega,by omega,?_⟩;rw [es];refine LeM [] rfl rfl ?_;refine Zz ?_;exact ⟨by omega,q0M rfl clV⟩
        ·have e2:((k:Int) != (i:Int))=true:=by simp; omega
         obtain ⟨u,hu⟩:∃ u,u=(G k i).getD 0:=⟨_,rfl⟩;obtain ⟨v,hv⟩:∃ u,u=(G i k).getD 0:=⟨_,rfl⟩;obtain ⟨f1,f2⟩:=hG.fin (j:=k) (i:=i) hlk hlt2;obtain ⟨g1,g2⟩:=hG.fin (j:=i) (i:=k) hlt2 hlk;have cE:=cA hlt2 hlk;have cE2:=cA hlk hlt2;rw [← hu] at f1 f2 cE;rw [← hv] at g1 g2 cE2;have cO:=q0h f2 (q0N f1);have cO2:=q0h g2 (q0N g1);have es:rgL G i (k+1)=rgL G i k ++ [((ofZ u).natAbs:Int),((ofZ v).natAbs:Int)]:=by rw [rgL,if_neg hki,hu,hv]
         have C1:=@q7g;refine wk1 e2 ?_;refine ⟨k+1,by omega,by omega,?_⟩;rw [es];refine LeM [(1004,some 60)] rfl rfl ?_;refine Zz ?_;exact ⟨by omega,q0M (by simp) clV⟩
       ·have hlk':¬ (k:Int) < n:=by omega
        obtain rfl:k=n:=by omega
        have hsd:=q4p d2 Oq;have C2:=q6E (l:=rgL G i k) Oq hsd;have C3:=qdO (V:=q1U (rgL G i k));have C4:=q3q (V:=q1U (rgL G i k)) (mode:=2);rw [← hz] at C4;refine wk1 hlk' ?_;refine ⟨i+1,by omega,by omega,?_⟩;rw [eg];refine LeM [(1002,some 65),(1003,some 73)] rfl rfl ?_;refine Zz ?_;omega
     ·have e1:((i:Int) == (j:Int))=false:=by simp; omega
      have hF:F j i=G j i:=by rw [← hFn]; unfold rgF; rw [if_neg hij]
      have C5:=(cS hlt2 hlt);refine wk1 e1 ?_;have cE:=cA hlt2 hlt;cases hx:G j i with
      | none =>
       rw [hx] at hF;have eg:=q8U (p:=mp) hF;have ei:(none:Option Nat).isSome=false:=rfl;refine wk1 ei ?_;refine ⟨i+1,by omega,by omega,?_⟩;rw [eg];refine LeM [] rfl rfl ?_;refine Zz ?_;omega
      | some z =>
       rw [hx] at hF cE;rw [Option.getD_some] at cE;have eg:=q93 (p:=mp) hF;have ei:(some z).isSome=true:=rfl;refine wk1 ei ?_;refine ⟨i+1,by omega,by omega,?_⟩;rw [eg];refine LeM [(1002,some 83),(1003,some 92)] rfl rfl ?_;refine Zz ?_;omega
    ·have hlt2':¬ (i:Int) < n:=by omega
     obtain rfl:i=n:=by omega
     refine wk1 hlt2' ?_;refine ⟨j+1,by omega,by omega,?_⟩;rw [hM1,hM2];refine LeM [(1001,some 100)] rfl rfl ?_;refine Zz ?_;omega
  ·have hlt':¬ (j:Int) < n:=by omega
   obtain rfl:j=n:=by omega
   exact wk1 hlt' trivial
def qeM {raw:List Nat} {R k i:Nat} (hk:k < 3):∀ m,∀ x ∈ rgL (gF raw R k) i m,bl x.natAbs≤66000
 | 0,x,hx=>by unfold rgL at hx; simp at hx; subst hx; exact qmd
 | m+1,x,hx=>by
  unfold rgL at hx
  split at hx
  ·exact qeM hk m x hx
  ·rcases List.mem_append.1 hx with hx | hx
   ·exact qeM hk m x hx
   ·simp at hx
    rcases hx with rfl | rfl
    all_goals
     rw [Int.natAbs_natCast];exact gF_bl hk
def qri {raw:List Nat} {n k:Nat} (hn:n≤100) (hk:k < 3):TOk (rgF (gF raw n k) n) n n:=by
 have hnn:n*n≤100*100:=Nat.mul_le_mul hn hn;have hG:=qhy (raw:=raw) (R:=n) (C:=n) (st:=k) Oq Oq Oq;have key:∀ i,i < n→q0G (fR 2 (q1U (rgL (gF raw n k) i n))):=fun i hi=>by
  have hl:=(qeL hG hi n (Nat.le_refl _)).1;have h1:=q7K (K:=66000) (qeM (raw:=raw) (R:=n) (i:=i) hk n) (i:=(rgL (gF raw n k) i n).length) Oq;rw [List.take_length] at h1;obtain ⟨c,hc⟩:∃ c,c=900:=⟨_,rfl⟩;obtain ⟨K,hK⟩:∃ K,K=65536:=⟨_,rfl⟩;refine qtF hK hc (Nat.lt_of_lt_of_le (q26 _) ?_);rw [← Nat.pow_add];exact Nat.pow_le_pow_right Oq Oq
 refine ⟨hG.r,hG.c,hG.m,fun j i x hj hi h=>?_,fun j i x hj hi h=>?_⟩
 ·unfold rgF at h
  split at h
  ·have h:=Option.some.inj h; rw [← h]; exact q3E
  ·exact hG.u j i x hj hi h
 ·unfold rgF at h
  split at h
  ·have h:=Option.some.inj h; rw [← h]; exact key i hi
  ·exact hG.v j i x hj hi h
def qtE {F:Nat→Nat→Option Nat} {mi:List Int} {n:Nat} {cols:List Int} {num den:Nat} (hn:n≤100) (hc:cols.length≤1000000):LUb (qg4 F mi n cols num den)∧(qg4 F mi n cols num den).rows.length≤n:=by
 have hnn:n*n≤100*100:=Nat.mul_le_mul hn hn;unfold qg4
 by_cases h:(q3I F mi n cols num den n).1=0
 ·rw [if_pos h];have hG:=qaB (F:=F) (mi:=mi) (n:=n) (cols:=cols) (num:=num) (den:=den) n h;generalize (q3I F mi n cols num den n).2.2=S at *;have k1:∀ j i x,fLt S j i=some x→q0G x∧x < 18446744073709551616:=fun j i x hx=>by
   unfold fLt at hx
   split at hx
   ·cases hx; exact hG.l _ _
   ·cases hx
  have k2:∀ j i x,fUt S j i=some x→q0G x∧x < 18446744073709551616:=fun j i x hx=>by
   unfold fUt at hx
   split at hx
   ·cases hx; exact hG.u _ _
   ·cases hx
  have h1:TOk (fLt S) n n:=⟨by omega,by omega,by omega,fun j i x _ _ hx=>(k1 j i x hx).2,fun j i x _ _ hx=>(k1 j i x hx).1⟩;have h2:TOk (fUt S) n n:=⟨by omega,by omega,by omega,fun j i x _ _ hx=>(k2 j i x hx).2,fun j i x _ _ hx=>(k2 j i x hx).1⟩;have l1:=q1a (f:=fLt S) (R:=n) n;have l2:=q1a (f:=fUt S) (R:=n) n;have hrl:=hG.len;unfold qse;refine ⟨⟨?_,hc,?_,?_,?_,?_,?_,?_,h1.vl.2.2.2,h2.vl.2.2.2⟩,?_⟩ <;> dsimp only <;> (try rw [List.length_map]) <;> omega
 ·rw [if_neg h];exact ⟨⟨by simp,by simp,by simp,by simp,by simp,by simp,by simp,by simp,by simp,by simp⟩,Nat.zero_le _⟩
end Go.Proofs.YtfmojhhokfkdaaaGreatDoor
namespace Go.Sp
open Go Go.E
end Go.Sp
namespace Go.Proofs.YtfmojhhokfkdaaaGreatDoor
open Go Go.E Go.Sp
def qa8 {f:LUt} {l:List Nat} (hb:LUb f) (hn:f.rows.length≤100) (hul:∀ x ∈ l,x < 18446744073709551616) (hl:l.length≤1000000):ACt 136 [pLU f,pF l] (.tu [pF (lgE f l).1,iv (lgE f l).2]):=by
 refine qj5 (ids:=[5000]) (qlU hb hn hul hl) ?_;generalize (lgE f l).1=xs;generalize (lgE f l).2=e;have h1:q3F (q0P h0 5000 ⟨43,none,xs.map fun z:Nat=>uv z,false⟩) (.ow 5000 none 0 xs.length)=some (pF xs,[5000]):=by
  unfold q3F;dsimp only;rw [q0J,Option.bind_some,if_pos ⟨rfl,rfl,fun x hx=>clU x hx⟩,List.drop_zero,List.take_of_length_le (by rw [List.length_map]; exact Nat.le_refl _)]
 have h2:q3F (q0P h0 5000 ⟨43,none,xs.map fun z:Nat=>uv z,false⟩) (iv e)=some (iv e,[]):=by
  unfold q3F;dsimp only;exact if_pos trivial
 unfold q2U q2U q2U clo;simp only [h1,h2]
 rfl
open Classical in
noncomputable def rfR (R C:Nat) (f:LUt) (steps:Int):Int:=if q4W f≠0 then q4W f else if R≠f.rows.length∨C≠f.rows.length then 5 else if steps < 0∨64 < steps then 350 else 0
section
variable (C:Nat) (F:Nat→Nat→Option Nat) (f:LUt) (b:List Nat) (dbl:Bool)
open Classical in
noncomputable def rfL:Nat→List (Nat × Nat)→List Nat→List Nat→List (Nat × Nat) × List Nat × Int
 | 0,x,_,l=>(x,l,0)
 | k+1,x,r,l =>
  if q0b r C=0 then (x,l,0) else
  if (lgE f r).2≠0 then ([],[],(lgE f r).2) else
  if ¬ ∀ p ∈ chL dbl x (lgE f r).1 C,q0G p.1 then ([],[],233) else
  if ¬ ∀ v ∈ rdL F (chL dbl x (lgE f r).1 C) b C C,q0G v then ([],[],233) else
  if ofZ (q0b r C) < 2*ofZ (q0b (rdL F (chL dbl x (lgE f r).1 C) b C C) C) then (x,l,0) else
  rfL k (chL dbl x (lgE f r).1 C) (rdL F (chL dbl x (lgE f r).1 C) b C C) (l ++ [q0b (rdL F (chL dbl x (lgE f r).1 C) b C C) C])
open Classical in
noncomputable def rfS (R:Nat) (steps:Int):List (Nat × Nat) × List Nat × Int :=
 if rfR R C f steps≠0 then ([],[],rfR R C f steps) else
 if (lgE f b).2≠0 then ([],[],(lgE f b).2) else
 if ¬ ∀ v ∈ rdL F ((lgE f b).1.map fun v=>(v,0)) b C C,q0G v then ([],[],233) else
 rfL C F f b dbl steps.toNat ((lgE f b).1.map fun v=>(v,0)) (rdL F ((lgE f b).1.map fun v=>(v,0)) b C C) [q0b (rdL F ((lgE f b).1.map fun v=>(v,0)) b C C) C]
end
def qeN {R C:Nat} {f:LUt} {steps:Int} (h:rfR R C f steps=0):q4W f=0∧R=f.rows.length∧C=f.rows.length∧0≤steps∧steps≤64:=by
 unfold rfR at h
 split at h
 ·exact absurd h (by assumption)
 ·split at h
  ·cases h
  ·split at h
   ·cases h
   ·exact ⟨Classical.not_not.1 (by assumption),by omega,by omega,by omega,by omega⟩
def qdz {x:List Nat} {o:List Int} {n:Nat} (hx:q1E x):∀ k,q1E (scS x o n k)
 | 0=>fun v hv=>by
  unfold scS at hv;rw [List.mem_replicate] at hv;rw [hv.2]; exact ⟨by omega,by unfold q0G; simp⟩
 | k+1=>fun v hv=>by
  unfold scS at hv
  rcases List.mem_or_eq_of_mem_set hv with hv | rfl
  ·exact qdz hx k v hv
  ·exact qbX hx _
def q4s {f:LUt} {l:List Nat} (hb:LUb f) (hul:∀ x ∈ l,x < 18446744073709551616) (h:(lgE f l).2=0):q4W f=0∧l.length=f.rows.length∧q1E l∧(lgE f l).1.length=f.rows.length∧q1E (lgE f l).1:=by
 unfold lgE at h ⊢
 by_cases hz:q9K (q4W f) f.rows.length l=0
 case neg=>rw [if_pos hz] at h; exact absurd h hz
 rw [if_neg (not_not_intro hz)] at h ⊢;obtain ⟨h1,h2,h3⟩:=qmG hz;have hf:=qa2 hb h1;have hfl:q1E l:=fun x hx=>⟨hul x hx,h3 x hx⟩;have hlr:∀ y,geL (cLo f) f.rows.length 0 (gaS l f.rows f.rows.length)=some y→y.length=f.rows.length∧q1E y:=fun y hy=>q9v _ _ _ y q9w (q9x hfl) hy;have dU:∀ k,k < f.rows.length→ofZ (cUp f k k)≠0:=fun k hk=>by
  obtain ⟨m,x,m1,m2,m3⟩:=hf.dg k hk;have:=qaN (t:=m.length) (e:=(k,x)) (hf.U.nd k hk) (by rw [m1]; simp);unfold cUp;rw [this];exact m2
 refine ⟨h1,h2,hfl,?_⟩;generalize geL (cLo f) f.rows.length 0 (gaS l f.rows f.rows.length)=R1 at *;cases R1 with
 | none=>cases h
 | some y =>
  obtain ⟨q1,q2⟩:=hlr y rfl;have hur:∀ z,geU (cUp f) f.rows.length f.rows.length y=some z→z.length=f.rows.length∧q1E z:=fun z hz=>qfH dU _ y z (Nat.le_refl _) q1 q2 hz;dsimp only at h ⊢;generalize geU (cUp f) f.rows.length f.rows.length y=R2 at *;cases R2 with
  | none=>cases h
  | some z=>exact ⟨q44 _,qdz (hur z rfl).2 _⟩
section
variable {dbl:Bool} {x:List (Nat × Nat)} {d l:List Nat} {n:Nat}
def q6J:(chL dbl x d n).length=n:=by unfold chL; simp
def q7k (h:∀ p ∈ chL dbl x d n,q0G p.1):qdQ (chL dbl x d n):=fun p hp=>by
 have h1:=h p hp;obtain ⟨j,_,rfl⟩:=List.mem_map.1 hp;unfold chV at h1 ⊢;dsimp only at h1 ⊢;refine ⟨⟨q3E,h1⟩,?_⟩;generalize hv:fR 0 (chT (x.getD j (0,0)) (d.getD j 0)-ofZ (fR 0 (chT (x.getD j (0,0)) (d.getD j 0))))=v;have h2:v < 18446744073709551616∧q0G v:=by rw [← hv]; exact ⟨q3E,qek h1⟩
 cases dbl
 ·rw [if_neg (by decide)]; exact ⟨by omega,by unfold q0G; omega⟩
 ·rw [if_pos rfl]; exact h2
def q5k (h:q1E l):qdQ (l.map fun v=>(v,0)):=fun p hp=>by
 obtain ⟨v,hv,rfl⟩:=List.mem_map.1 hp;exact ⟨h v hv,by simp,by simp [q0G]⟩
def rwQ (n:Nat) (g:Nat→Nat × Nat) (m:Nat):List (Nat × Nat):=(List.range n).map fun j=>if j < m then g j else (0,0)
def qeB {g:Nat→Nat × Nat} {m:Nat}:(rwQ n g m).length=n:=by simp [rwQ]
def qqu {g:Nat→Nat × Nat} {m:Nat}:(rwQ n g m).set m (g m)=rwQ n g (m+1):=by
 unfold rwQ;refine List.ext_getElem? fun i=>?_;rw [List.getElem?_set,List.getElem?_map,List.getElem?_map,List.length_map,List.length_range]
 by_cases h:i < n
 ·rw [List.getElem?_range h,Option.map_some,Option.map_some]
  by_cases h2:m=i
  ·subst h2;rw [if_pos rfl,if_pos h,if_pos (by omega)]
  ·rw [if_neg h2]
   by_cases h3:i < m
   ·rw [if_pos h3,if_pos (by omega)]
   ·rw [if_neg h3,if_neg (by omega)]
 ·rw [List.getElem?_eq_none (by simpa using h)]
  by_cases h2:m=i
  ·rw [if_pos h2,if_neg (by omega)]; rfl
  ·rw [if_neg h2]; rfl
def qqw {g:Nat→Nat × Nat}:List.replicate n (0,0)=rwQ n g 0:=by
 unfold rwQ;refine List.ext_getElem? fun i=>?_;rw [List.getElem?_map,List.getElem?_replicate]
 by_cases h:i < n
 ·rw [List.getElem?_range h,if_pos h,Option.map_some,if_neg (by omega)]
 ·rw [List.getElem?_eq_none (by simpa using h),if_neg h]; rfl
def qqv:rwQ n (fun j=>chV dbl (x.getD j (0,0)) (d.getD j 0)) n=chL dbl x d n:=by
 unfold rwQ chL;exact List.map_congr_left fun j hj=>if_pos (List.mem_range.1 hj)
def q65 {r:List Nat} (h:q1E r):q0b r r.length < 9223372036854775808∧q0G (q0b r r.length):=q5d h _ (Nat.le_refl _)
end
section
variable {R C:Nat} {F:Nat→Nat→Option Nat} {f:LUt}
def qf2 {steps:Int} (hm:TOk F R C) (hb:LUb f):ACt 138 [pT R C F,pLU f,iv steps] (iv (rfR R C f steps)):=by
 have C1:=qah hm;have C2:=qet hb;have hrl:=hb.rows;have hr:=hm.r;have hc:=hm.c;unfold rfR;unfold pT q1n at *;generalize q4W f=e at *;unfold pLU at *
 by_cases h1:e=0
 ·rw [if_neg (not_not_intro h1)];subst h1
  by_cases h2:R=f.rows.length
  ·have q2:((R:Int) != (f.rows.length:Int))=false:=by simp; omega
   by_cases h3:C=f.rows.length
   ·have q3:((C:Int) != (f.rows.length:Int))=false:=by simp; omega
    rw [if_neg (by omega)]
    by_cases h4:steps < 0
    ·rw [if_pos (.inl h4)];refine ac0 Tryz.func138 Tryz.ntmps138 [.tmp 6] ?_;exact wk1 (x3 q2 q3 h4) trivial
    ·by_cases h5:steps > 64
     ·rw [if_pos (.inr h5)];refine ac0 Tryz.func138 Tryz.ntmps138 [.tmp 6] ?_;exact wk1 (x4 q2 q3 h4 h5) trivial
     ·rw [if_neg (by omega)];refine ac0 Tryz.func138 Tryz.ntmps138 [.tmp 6] ?_;exact wk1 (x4 q2 q3 h4 h5) trivial
   ·have q3:((C:Int) != (f.rows.length:Int))=true:=by simp; omega
    rw [if_pos (.inr h3)];refine ac0 Tryz.func138 Tryz.ntmps138 [.tmp 6] ?_;exact wk1 (x2 q2 q3) trivial
  ·have q2:((R:Int) != (f.rows.length:Int))=true:=by simp; omega
   rw [if_pos (.inl h2)];refine ac0 Tryz.func138 Tryz.ntmps138 [.tmp 6] ?_;exact wk1 q2 trivial
 ·rw [if_pos h1];have q:(e != 0)=true:=by simpa using h1
  refine ac0 Tryz.func138 Tryz.ntmps138 [.tmp 6] ?_;exact wk1 q trivial
end
abbrev rfV (q:List (Nat × Nat) × List Nat × Int):PV:=.tu [pP q.1,pF q.2.1,iv q.2.2]
section
variable {R C:Nat} {F:Nat→Nat→Option Nat} {f:LUt} {b:List Nat} {dbl:Bool} {steps:Int}
def q1f {T id n:Nat} {k:Kd} {h h':Hp} {l:List PV} (h1:h id=some ⟨T,k,l,false⟩) (hc:ClL l) (h2:h' id=none) (hn:l.length=n):LeV (q0t []) h h' (.ow id k 0 n) (.sl k l):=q9H (T:=T) (l:=l) h1 hc (fun i hi=>by
 have hi:some i=some id:=hi;cases hi;exact h2) (by rw [List.drop_zero]; exact List.take_of_length_le (by omega))
def qbS {s:Nat} (h:s < 9223372036854775808):(((q0e s:Nat):Int) == 0)=decide (s=0):=by
 have h1:=q5t (f:=s) Oq;have h2:q0x s=s:=Nat.mod_eq_of_lt h;rw [h2] at h1
 by_cases h0:s=0
 ·rw [decide_eq_true h0,h1.2 h0]; rfl
 ·rw [decide_eq_false h0];have:q0e s≠0:=fun q=>h0 (h1.1 q);simp; omega
def qb9 (hm:TOk F R C) (hb:LUb f) (hn:f.rows.length≤20) (hu:∀ v ∈ b,v < 18446744073709551616) (hl:b.length≤1000000) (hs1 : -9223372036854775808≤steps) (hs2:steps≤9223372036854775807):ACt 72 [pT R C F,pLU f,pF b,iv steps,bv dbl] (rfV (rfS C F f b dbl R steps)):=by
 have cR:=qf2 (steps:=steps) hm hb;have rfS0:=qeN (R:=R) (C:=C) (f:=f) (steps:=steps);have cG:=qeA (l:=b) hb Oq hu hl;have hG:=q4s (l:=b) hb hu;have cGr:=fun (l:List Nat) (h1:q1E l) (h2:l.length≤1000000)=>qeA (l:=l) hb Oq (fun x hx=>(h1 x hx).1) h2;have hGr:=fun (l:List Nat) (h1:q1E l)=>q4s (l:=l) hb (fun x hx=>(h1 x hx).1);unfold rfV rfS
 by_cases hz:rfR R C f steps=0
 case neg =>
  rw [if_pos hz];generalize rfR R C f steps=e at *;have q:(e != 0)=true:=by simpa using hz
  unfold pT q1n pLU at *;dsimp only;refine ac0 Tryz.func72 Tryz.ntmps72 [.tmp 10,.tmp 11,.tmp 12] ?_;exact wk1 q trivial
 rw [if_neg (not_not_intro hz)];rw [hz] at cR;obtain ⟨_,hR,hC,s0,s1⟩:=rfS0 hz
 by_cases hg:(lgE f b).2=0
 case neg =>
  rw [if_pos hg];generalize (lgE f b).2=e at *;generalize (lgE f b).1=xs at *;have q:(e != 0)=true:=by simpa using hg
  unfold pT q1n pLU at *;dsimp only;refine ac0 Tryz.func72 Tryz.ntmps72 [.tmp 10,.tmp 11,.tmp 12] ?_;exact wk1 q trivial
 rw [if_neg (not_not_intro hg)];obtain ⟨_,hbn,hbf,hxn,hxf⟩:=hG hg;rw [hg] at cG;have cS:=fun (x:List (Nat × Nat)) (h1:qdQ x) (h2:x.length=C)=>qi8 (x:=x) h1 Oq;have cD:=fun (x:List (Nat × Nat)) (h1:qdQ x) (h2:x.length=C)=>q8n (f:=F) (x:=x) (b:=b) hm Oq Oq h1 h2 hbf Oq;obtain rfl:C=R:=by omega
 generalize (lgE f b).1=x0 at *;have hxl:x0.length=C:=by omega
 clear hG hg rfS0;have hpl:pT C C F=q1n C C (tM F C C).1 (tM F C C).2.1 (tM F C C).2.2:=rfl;rw [hpl] at cR ⊢;simp only [hpl] at cD;clear hpl;unfold q1n at *;generalize (tM F C C).1=ms at *;generalize (tM F C C).2.1=mi at *;generalize (tM F C C).2.2=mv at *;have hrfL:=fun k x r l=>show rfL C F f b dbl (k+1) x r l=(
  if q0b r C=0 then (x,l,0) else
  if (lgE f r).2≠0 then ([],[],(lgE f r).2) else
  if ¬ ∀ p ∈ chL dbl x (lgE f r).1 C,q0G p.1 then ([],[],233) else
  if ¬ ∀ v ∈ rdL F (chL dbl x (lgE f r).1 C) b C C,q0G v then ([],[],233) else
  if ofZ (q0b r C) < 2*ofZ (q0b (rdL F (chL dbl x (lgE f r).1 C) b C C) C) then (x,l,0) else
  rfL C F f b dbl k (chL dbl x (lgE f r).1 C) (rdL F (chL dbl x (lgE f r).1 C) b C C) (l ++ [q0b (rdL F (chL dbl x (lgE f r).1 C) b C C) C])) from rfl
 have hrf0:=fun x r l=>show rfL C F f b dbl 0 x r l=(x,l,0) from rfl;have hdl:=fun x=>q3V (f:=F) (x:=x) (b:=b) (C:=C) (i:=C);have hdu:=fun x=>q99 (f:=F) (x:=x) (b:=b) (C:=C) (i:=C);generalize rfL C F f b dbl=RL at *;generalize hdg:(fun x=>rdL F x b C C)=RD at *;have hRD:=fun x=>show rdL F x b C C=RD x from congrFun hdg x;simp only [hRD] at hrfL hdl hdu cD ⊢;clear hRD hdg;unfold lnR at cD;unfold pLU at *;generalize hlg:lgE f=LG at *;obtain ⟨mt,hmt⟩:∃ q:PV,q=.ag [iv C,iv C,pI ms,pI mi,pF mv]:=⟨_,rfl⟩;obtain ⟨lu,hlu⟩:∃ q:PV,q=.ag [pI f.rows,pI f.cols,pI f.ls,pI f.li,pF f.lv,pI f.us,pI f.ui,pF f.uv]:=⟨_,rfl⟩;refine ac0 Tryz.func72 Tryz.ntmps72 [.tmp 10,.tmp 11,.tmp 12] ?_;refine wk ?_;refine q0A (fun i=>i≤x0.length) [2,3,4,5,6,46,47] [5,6] Lk Lk (fun i:Nat=>[(48,iv i),(16,.ow 1001 (some 2) 0 i)]) (fun i=>[(1001,⟨65,some 2,((x0.take i).map fun v=>(v,0)).map fun p:Nat × Nat=>.ag [uv p.1,uv p.2],false⟩)]) (fun i=>x0.length-i) 0 (Nat.zero_le _) ?_ ?_
 ·refine LeM [(1001,none)] rfl rfl ?_;refine Zz ?_
  rfl
 ·intro i hi;have htl:(x0.take i).length=i:=by rw [List.length_take]; omega
  by_cases hlt:i < x0.length
  ·obtain ⟨v,hv⟩:∃ v,x0[i]?=some v:=⟨_,List.getElem?_eq_getElem hlt⟩;have e:((x0.take (i+1)).map fun v=>(v,0)).map (fun p:Nat × Nat=>PV.ag [uv p.1,uv p.2])=((x0.take i).map fun v=>(v,0)).map (fun p:Nat × Nat=>PV.ag [uv p.1,uv p.2]) ++ [.ag [uv v,uv (0:Nat)]]:=by rw [q1D hv,List.map_append,List.map_append]; rfl
   refine wk1 (x2 hv htl) ?_;refine ⟨i+1,by omega,by omega,?_⟩;rw [e];refine LeM [(1001,some 56)] rfl rfl ?_;refine Zz ?_;exact ⟨by omega,q0M rfl (by rw [← e]; exact qfs)⟩
  ·obtain rfl:i=x0.length:=by omega
   rw [List.take_length];have hX1:=q5k hxf;have hX2:(x0.map fun v=>(v,0)).length=C:=by rw [List.length_map]; exact hxl
   have hXl:(x0.map fun v=>(v,0)).length=x0.length:=List.length_map _;obtain ⟨X,hX⟩:∃ X:List (Nat × Nat),X=x0.map fun v=>(v,0):=⟨_,rfl⟩;rw [← hX] at hX1 hX2 hXl ⊢;clear hX;refine wk ?_;refine q1M (LeM [] rfl rfl (xs:=[(2,pF b),(3,iv steps),(4,bv dbl),(5,.pt 5 0 0),(6,.pt 6 0 0),(16,pP X)]) (kv:=[]) (bs:=[(5,⟨26,some 5,[.ag [iv C,iv C,pI ms,pI mi,pF mv]],false⟩),(6,⟨28,some 8,[.ag [pI f.rows,pI f.cols,pI f.ls,pI f.li,pF f.lv,pI f.us,pI f.ui,pF f.uv]],false⟩)]) (kb:=[]) ?_) ?_
   ·try refine Zz ?_
    exact q1f (T:=65) rfl qfs rfl (by rw [List.length_map]; omega)
   have c1:=cS X hX1 hX2;have c2:=cD X hX1 hX2;have hDl:=hdl X;have hDu:=hdu X;generalize RD X=r0 at *
   by_cases hf0:∀ v ∈ r0,q0G v
   case neg =>
    rw [if_pos hf0];rw [decide_eq_false hf0] at c2;clear cS cD;exact wk trivial
   rw [if_neg (not_not_intro hf0)];rw [decide_eq_true hf0] at c2;have hr0:q1E r0:=fun v hv=>⟨hDu v hv,hf0 v hv⟩;have hDl0:=hDl;have c3:=qbU hr0 Oq;rw [hDl] at c3;obtain ⟨N,hN⟩:∃ N:Nat,steps=N:=⟨steps.toNat,by omega⟩;subst hN;rw [Int.toNat_natCast];obtain ⟨res,hres⟩:∃ r,r=RL N X r0 [q0b r0 C]:=⟨_,rfl⟩;rw [← hres];clear cR hxf hi htl hlt hDl hDu cG;have hMT:mt=.ag [iv C,iv C,pI ms,pI mi,pF mv]:=hmt;have hLU:lu=.ag [pI f.rows,pI f.cols,pI f.ls,pI f.li,pF f.lv,pI f.us,pI f.ui,pF f.uv]:=hlu;refine wk ?_;refine q0A (fun q:Nat × List (Nat × Nat) × List Nat × List Nat=>q.1≤N∧q.2.1.length=C∧qdQ q.2.1∧q.2.2.1.length=C∧q1E q.2.2.1∧q.2.2.2.length≤q.1∧RL (N-q.1) q.2.1 q.2.2.1 (q.2.2.2 ++ [q0b q.2.2.1 C])=res) [2,4,5,6,71] [5,6] Lk Lk (fun q=>[(72,iv q.1),(16,pP q.2.1),(19,pF q.2.2.1),(21,.ow 1002 none 0 (q.2.2.2.length+1))]) (fun q=>[(1002,⟨43,none,(q.2.2.2 ++ [q0b q.2.2.1 C]).map fun z:Nat=>uv z,false⟩)]) (fun q=>N-q.1) (0,X,r0,[]) ⟨Nat.zero_le _,hX2,hX1,hDl0,hr0,Nat.zero_le _,hres.symm⟩ ?_ ?_
   ·refine LeM [(1002,some 70)] rfl rfl ?_;refine Zz ?_
    rfl
   ·clear hr0 hX1 hX2 hXl hres hf0 c1 c2;rintro ⟨k,x,r,l⟩ ⟨hk,hx1,hx2,hr1,hr2,hl1,hv⟩;simp only at hk hx1 hx2 hr1 hr2 hl1 hv ⊢;have z1:=q65 hr2;rw [hr1] at z1;have hlast:(l ++ [q0b r C])[l.length]?=some (q0b r C):=by rw [List.getElem?_append_right (Nat.le_refl _),Nat.sub_self]; rfl
    have hll:(l ++ [q0b r C]).length=l.length+1:=by simp
    have c4:=q2x (f:=q0b r C) Oq;have hkz:=qbS z1.1;have hwl:IntKind.i64.wrap (((l.length+1:Nat):Int)-1)=((l.length:Nat):Int):=by rw [i64_in (by omega) (by omega)]; omega
    by_cases hlt:k < N
    ·have hlt':(k:Int) < N:=by omega
     rw [show N-k=(N-(k+1))+1 by omega,hrfL] at hv
     by_cases h0:q0b r C=0
     ·rw [if_pos h0] at hv;subst hv;rw [decide_eq_true h0] at hkz;exact wk1 (x5 hlt' hlast hll hwl hkz) trivial
     rw [if_neg h0] at hv;rw [decide_eq_false h0] at hkz;have c5:=cGr r hr2 Oq;have h5:=hGr r hr2
     by_cases he:(LG r).2=0
     case neg =>
      rw [if_pos he] at hv;subst hv;generalize (LG r).2=e at *;generalize (LG r).1=ds at *;have q:(e != 0)=true:=by simpa using he
      exact wk1 (x6 hlt' hlast hll hwl hkz q) trivial
     rw [if_neg (not_not_intro he)] at hv;obtain ⟨_,_,_,d1,d2⟩:=h5 he;rw [he] at c5;generalize (LG r).1=d at *;have d1:d.length=C:=by omega
     clear h5 he;have g0:=qqw (n:=C) (g:=fun j=>chV dbl (x.getD j (0,0)) (d.getD j 0));have gn:=qqv (n:=C) (dbl:=dbl) (x:=x) (d:=d);have gl:=fun m=>qeB (n:=C) (g:=fun j=>chV dbl (x.getD j (0,0)) (d.getD j 0)) (m:=m);have gs:=fun m=>qqu (n:=C) (g:=fun j=>chV dbl (x.getD j (0,0)) (d.getD j 0)) (m:=m);have cC:=fun (p:Nat × Nat) (v:Nat) (h1:(p.1 < 18446744073709551616∧q0G p.1)∧p.2 < 18446744073709551616∧q0G p.2) (h2:v < 18446744073709551616∧q0G v)=>qcq (dbl:=dbl) h1.1 h1.2 h2;have hY2:=q6J (dbl:=dbl) (x:=x) (d:=d) (n:=C);have hY1:=q7k (dbl:=dbl) (x:=x) (d:=d) (n:=C);have hYm:=fun j (hj:j < C)=>show chV dbl (x.getD j (0,0)) (d.getD j 0) ∈ chL dbl x d C from List.mem_map_of_mem (List.mem_range.2 hj);have hYx:(∀ j,j < C→q0G (chV dbl (x.getD j (0,0)) (d.getD j 0)).1)→∀ p ∈ chL dbl x d C,q0G p.1:=fun h p hp=>by
      obtain ⟨j,hj,rfl⟩:=List.mem_map.1 hp;exact h j (List.mem_range.1 hj)
     generalize rwQ C (fun j=>chV dbl (x.getD j (0,0)) (d.getD j 0))=G at *;refine wk1 (x6 hlt' hlast hll hwl hkz hx1) ?_;refine q0A (fun i=>i≤C∧∀ j,j < i→q0G (chV dbl (x.getD j (0,0)) (d.getD j 0)).1) [2,4,5,6,71,72,16,19,21,22,23,95,96] [5,6,1002] Lk Lk (fun i=>[(97,iv i),(25,.ow 1003 (some 2) 0 C)]) (fun i=>[(1003,⟨65,some 2,(G i).map fun p:Nat × Nat=>.ag [uv p.1,uv p.2],false⟩)]) (fun i=>C-i) 0 ⟨Nat.zero_le _,fun _ h=>by omega⟩ ?_ ?_
     ·refine LeM [(1003,some 94)] rfl rfl ?_;refine Zz ?_;exact ⟨rfl,q0M (by rw [← g0,List.map_replicate]; rfl) qfs⟩
     ·rintro i ⟨hi,hgf⟩
      by_cases hlt2:i < C
      ·have hli:(i:Int) < C:=by omega
       obtain ⟨p,hp⟩:∃ p,x[i]?=some p:=⟨_,List.getElem?_eq_getElem Oq⟩;obtain ⟨v,hdv⟩:∃ v,d[i]?=some v:=⟨_,List.getElem?_eq_getElem Oq⟩;have c6:=cC p v (hx2 p (List.mem_of_getElem? hp)) (d2 v (List.mem_of_getElem? hdv));have hgp:x.getD i (0,0)=p:=by rw [List.getD_eq_getElem?_getD,hp]; rfl
       have hgs:=gs i;have hgm:=hYm i hlt2;rw [hgp,getD_some hdv] at hgs hgm;generalize hcv:chV dbl p v=y at *
       by_cases hfy:q0G y.1
       ·rw [if_pos hfy] at c6;refine wk1 (x5 hli hx1 hp hdv (gl i)) ?_;refine ⟨i+1,⟨by omega,fun j hj=>?_⟩,by omega,?_⟩
        ·rcases Nat.lt_succ_iff_lt_or_eq.1 hj with h | rfl
         ·exact hgf j h
         ·rw [hgp,getD_some hdv,hcv]; exact hfy
        have hset:((G i).map fun p:Nat × Nat=>PV.ag [uv p.1,uv p.2]).set i (.ag [uv y.1,uv y.2])=(G (i+1)).map fun p:Nat × Nat=>PV.ag [uv p.1,uv p.2]:=by rw [← hgs,List.map_set]
        refine LeM [] rfl rfl ?_;refine Zz ?_;exact ⟨by omega,q0M hset qfs⟩
       ·rw [if_neg hfy] at c6;rw [if_pos fun h=>hfy (h _ hgm)] at hv;subst hv;exact wk1 (x5 hli hx1 hp hdv (gl i)) trivial
      ·obtain rfl:i=C:=by omega
       have hli:¬ (i:Int) < i:=by omega
       have hYf:=hYx hgf;rw [if_neg (not_not_intro hYf)] at hv;have hY1:=hY1 hYf;rw [gn];generalize chL dbl x d i=Y at *;clear hYx hYf hYm gs g0 gn hgf cC;have c7:=cS Y hY1 hY2;have c8:=cD Y hY1 hY2;have e1:=hdl Y;have e2:=hdu Y;refine wk1 (x2 hli hx1) ?_;refine q1M (LeM [] rfl rfl (xs:=[(2,pF b),(4,bv dbl),(5,.pt 5 0 0),(6,.pt 6 0 0),(71,iv N),(72,iv k),(16,pP x),(19,pF r),(21,.ow 1002 none 0 (l.length+1)),(22,uv (q0b r i:Nat)),(25,pP Y)]) (kv:=[]) (bs:=[(5,⟨26,some 5,[.ag [iv i,iv i,pI ms,pI mi,pF mv]],false⟩),(6,⟨28,some 8,[.ag [pI f.rows,pI f.cols,pI f.ls,pI f.li,pF f.lv,pI f.us,pI f.ui,pF f.uv]],false⟩),(1002,⟨43,none,(l ++ [q0b r i]).map fun z:Nat=>uv z,false⟩)]) (kb:=[]) ?_) ?_
       ·try refine Zz ?_
        exact q1f (T:=65) rfl qfs rfl (by rw [List.length_map]; omega)
       generalize RD Y=S at *
       by_cases hfs:∀ v ∈ S,q0G v
       case neg =>
        rw [if_pos hfs] at hv;subst hv;rw [decide_eq_false hfs] at c8;exact wk trivial
       rw [if_neg (not_not_intro hfs)] at hv;rw [decide_eq_true hfs] at c8;have hSf:q1E S:=fun v hv=>⟨e2 v hv,hfs v hv⟩;have c9:=qbU hSf Oq;have z2:=q65 hSf;rw [e1] at c9 z2;have c10:=qaC (s:=q0b S i) (r:=q0b r i) ⟨z2.2,by omega⟩ ⟨z1.2,by omega⟩
       by_cases hsm:ofZ (q0b r i) < 2*ofZ (q0b S i)
       ·rw [if_pos hsm] at hv;subst hv;rw [decide_eq_false (by omega)] at c10;exact wk1 hll trivial
       ·rw [if_neg hsm] at hv;rw [decide_eq_true (by omega)] at c10;refine wk1 hll ?_;refine ⟨(k+1,Y,S,l ++ [q0b r i]),⟨by simp only; omega,hY2,hY1,e1,hSf,by simp only; rw [hll]; omega,hv⟩,by simp only; omega,?_⟩;simp only;refine LeM [(1002,some 140)] rfl rfl ?_;refine Zz ?_;omega
    ·obtain rfl:k=N:=by omega
     have hlt':¬ (k:Int) < k:=by omega
     rw [Nat.sub_self,hrf0] at hv;subst hv;exact wk1 (x2 hlt' hll) trivial
end
def qmp {A:Int} (ho:q00 (2*A)):mkV (od A) (dyE A+1)=some (2*A):=by
 have a1:=q6n (V:=A);rw [q2t (V:=2*A) (by omega) ?_,q1o ho];have h0:=q1t (V:=A) (E:=dyE A) a1 (Int.le_refl _);rw [Int.sub_self,show (0:Int).toNat=0 from rfl,Int.pow_zero,Int.mul_one] at h0;rw [show (dyE A+1+65536).toNat=(dyE A+65536).toNat+1 by omega,Int.pow_succ,← Int.mul_assoc,h0,Int.mul_comm]
def qqX {T:TypeId} {m i j:Nat} {xs l:List PV} {x:PV} {K:Bk→Prop} (hx:xs[i]?=some (.ag l)) (hj:j < l.length):q9J (some ⟨T,some m,xs,false⟩) (some none) (some 1) i j x K=q2B none x (K ⟨T,some m,xs.set i (.ag (l.set j x)),false⟩):=by
 unfold q9J q2B;refine propext ⟨?_,?_⟩
 ·rintro ⟨b,k',u,u',h1,h2,_,_,h5,h6,h7,h8⟩;cases h1; cases h2;rw [hx] at h6;cases h6;unfold stU at h7;rw [if_neg (by simp)] at h7;simp only at h7;rw [if_pos hj] at h7;cases h7; exact ⟨h5,h8⟩
 ·rintro ⟨h2,h3⟩;exact ⟨_,none,.ag l,.ag (l.set j x),rfl,rfl,rfl,rfl,h2,hx,by unfold stU; rw [if_neg (by simp)]; simp [hj],h3⟩
section
variable {R C:Nat} {F:Nat→Nat→Option Nat} {f:LUt} {b:List Nat} {sg:Bool} {steps:Int}
def qg8 {s:Nat} (h:s < 9223372036854775808):decide (s=0∨s=9223372036854775808)=decide (s=0):=by
 by_cases h0:s=0
 ·rw [decide_eq_true h0,decide_eq_true (.inl h0)]
 ·rw [decide_eq_false h0,decide_eq_false (by omega)]
def qa7 (hm:TOk F R C) (hb:LUb f) (hn:f.rows.length≤20) (hu:∀ v ∈ b,v < 18446744073709551616) (hl:b.length≤1000000) (hs1 : -9223372036854775808≤steps) (hs2:steps≤9223372036854775807):ACt 101 [pT R C F,pLU f,pF b,iv steps,bv sg] (rfV (rfS C F f b (!sg) R steps)):=by
 have cK1:=qde hm;have cK2:=qdW hb;have rfS0:=qeN (R:=R) (C:=C) (f:=f) (steps:=steps);have cG:=qa8 (l:=b) hb Oq hu hl;have hG:=q4s (l:=b) hb hu;have cGr:=fun (l:List Nat) (h1:q1E l) (h2:l.length≤1000000)=>qa8 (l:=l) hb Oq (fun x hx=>(h1 x hx).1) h2;have hGr:=fun (l:List Nat) (h1:q1E l)=>q4s (l:=l) hb (fun x hx=>(h1 x hx).1);have hmr:=hm.r;have hmc:=hm.c;unfold rfV rfS
 by_cases hz:rfR R C f steps=0
 case neg =>
  rw [if_pos hz];dsimp only;clear cG hG cGr hGr rfS0;unfold rfR at hz ⊢;unfold pT q1n at *;generalize q4W f=e at *;unfold pLU at *
  by_cases h1:e=0
  ·rw [if_neg (not_not_intro h1)] at hz ⊢;subst h1
   by_cases h2:R=f.rows.length
   ·have q2:((R:Int) != (f.rows.length:Int))=false:=by simp; omega
    by_cases h3:C=f.rows.length
    ·have q3:((C:Int) != (f.rows.length:Int))=false:=by simp; omega
     rw [if_neg (by omega)] at hz ⊢
     by_cases h4:steps < 0
     ·rw [if_pos (.inl h4)];refine ac0 Tryz.func101 Tryz.ntmps101 [.tmp 10,.tmp 11,.tmp 12] ?_;exact wk1 (x3 q2 q3 h4) trivial
     ·by_cases h5:steps > 64
      ·rw [if_pos (.inr h5)];refine ac0 Tryz.func101 Tryz.ntmps101 [.tmp 10,.tmp 11,.tmp 12] ?_;exact wk1 (x4 q2 q3 h4 h5) trivial
      ·rw [if_neg (by omega)] at hz;exact absurd rfl hz
    ·have q3:((C:Int) != (f.rows.length:Int))=true:=by simp; omega
     rw [if_pos (.inr h3)];refine ac0 Tryz.func101 Tryz.ntmps101 [.tmp 10,.tmp 11,.tmp 12] ?_;exact wk1 (x2 q2 q3) trivial
   ·have q2:((R:Int) != (f.rows.length:Int))=true:=by simp; omega
    rw [if_pos (.inl h2)];refine ac0 Tryz.func101 Tryz.ntmps101 [.tmp 10,.tmp 11,.tmp 12] ?_;exact wk1 q2 trivial
  ·rw [if_pos h1];have q:(e != 0)=true:=by simpa using h1
   refine ac0 Tryz.func101 Tryz.ntmps101 [.tmp 10,.tmp 11,.tmp 12] ?_;exact wk1 q trivial
 rw [if_neg (not_not_intro hz)];obtain ⟨hck,hR,hC,s0,s1⟩:=rfS0 hz;rw [hck] at cK2;obtain rfl:C=R:=by omega
 have q2:((C:Int) != (f.rows.length:Int))=false:=by simp; omega
 have q4:¬ steps < 0:=by omega
 have q5:¬ steps > 64:=by omega
 by_cases hg:(lgE f b).2=0
 case neg =>
  rw [if_pos hg];generalize (lgE f b).2=e at *;generalize (lgE f b).1=xs at *;have q:(e != 0)=true:=by simpa using hg
  unfold pT q1n pLU at *;dsimp only;refine ac0 Tryz.func101 Tryz.ntmps101 [.tmp 10,.tmp 11,.tmp 12] ?_;exact wk1 (x4 q2 q4 q5 q) trivial
 rw [if_neg (not_not_intro hg)];obtain ⟨_,hbn,hbf,hxn,hxf⟩:=hG hg;rw [hg] at cG;have cD:=fun (x:List (Nat × Nat)) (h1:qdQ x) (h2:x.length=C)=>qj6 (f:=F) (x:=x) (b:=b) hm Oq Oq h1 h2 hbf Oq;generalize (lgE f b).1=x0 at *;have hxl:x0.length=C:=by omega
 have cP:=q8H (l:=x0) Oq;clear hG hg rfS0;have hpl:pT C C F=q1n C C (tM F C C).1 (tM F C C).2.1 (tM F C C).2.2:=rfl;rw [hpl] at cK1 ⊢;simp only [hpl] at cD;clear hpl;unfold q1n at *;generalize (tM F C C).1=ms at *;generalize (tM F C C).2.1=mi at *;generalize (tM F C C).2.2=mv at *;have hrfL:=fun k x r l=>show rfL C F f b (!sg) (k+1) x r l=(
  if q0b r C=0 then (x,l,0) else
  if (lgE f r).2≠0 then ([],[],(lgE f r).2) else
  if ¬ ∀ p ∈ chL (!sg) x (lgE f r).1 C,q0G p.1 then ([],[],233) else
  if ¬ ∀ v ∈ rdL F (chL (!sg) x (lgE f r).1 C) b C C,q0G v then ([],[],233) else
  if ofZ (q0b r C) < 2*ofZ (q0b (rdL F (chL (!sg) x (lgE f r).1 C) b C C) C) then (x,l,0) else
  rfL C F f b (!sg) k (chL (!sg) x (lgE f r).1 C) (rdL F (chL (!sg) x (lgE f r).1 C) b C C) (l ++ [q0b (rdL F (chL (!sg) x (lgE f r).1 C) b C C) C])) from rfl
 have hrf0:=fun x r l=>show rfL C F f b (!sg) 0 x r l=(x,l,0) from rfl;have hdl:=fun x=>q3V (f:=F) (x:=x) (b:=b) (C:=C) (i:=C);have hdu:=fun x=>q99 (f:=F) (x:=x) (b:=b) (C:=C) (i:=C);generalize rfL C F f b (!sg)=RL at *;generalize hdg:(fun x=>rdL F x b C C)=RD at *;have hRD:=fun x=>show rdL F x b C C=RD x from congrFun hdg x;simp only [hRD] at hrfL hdl hdu cD ⊢;clear hRD hdg;unfold pLU at *;generalize hlg:lgE f=LG at *;have hX1:=q5k hxf;have hX2:(x0.map fun v=>(v,0)).length=C:=by rw [List.length_map]; exact hxl
 generalize (x0.map fun v=>(v,0))=X at *;have c2:=cD X hX1 hX2;have hDl0:=hdl X;have hDu:=hdu X;generalize RD X=r0 at *;have C1:=@q0h
 by_cases hf0:∀ v ∈ r0,q0G v
 case neg =>
  rw [if_pos hf0];rw [if_neg hf0] at c2;clear cD;refine ac0 Tryz.func101 Tryz.ntmps101 [.tmp 10,.tmp 11,.tmp 12] ?_;exact wk1 (x3 q2 q4 q5) trivial
 rw [if_neg (not_not_intro hf0)];rw [if_pos hf0] at c2;have hr0:q1E r0:=fun v hv=>⟨hDu v hv,hf0 v hv⟩;have c3:=q6v hr0 Oq;rw [hDl0] at c3;obtain ⟨N,hN⟩:∃ N:Nat,steps=N:=⟨steps.toNat,by omega⟩;subst hN;rw [Int.toNat_natCast];obtain ⟨res,hres⟩:∃ r,r=RL N X r0 [q0b r0 C]:=⟨_,rfl⟩;rw [← hres];refine ac0 Tryz.func101 Tryz.ntmps101 [.tmp 10,.tmp 11,.tmp 12] ?_;refine wk1 (x3 q2 q4 q5) ?_;refine q0A (fun q:Nat × List (Nat × Nat) × List Nat × List Nat=>q.1≤N∧q.2.1.length=C∧qdQ q.2.1∧q.2.2.1.length=C∧q1E q.2.2.1∧q.2.2.2.length≤q.1∧RL (N-q.1) q.2.1 q.2.2.1 (q.2.2.2 ++ [q0b q.2.2.1 C])=res) [2,3,4,5,6] [5,6] Lk Lk (fun q=>[(21,iv q.1),(17,pP q.2.1),(18,pF q.2.2.1),(20,.ow 1002 none 0 (q.2.2.2.length+1))]) (fun q=>[(1002,⟨43,none,(q.2.2.2 ++ [q0b q.2.2.1 C]).map fun z:Nat=>uv z,false⟩)]) (fun q=>N-q.1) (0,X,r0,[]) ⟨Nat.zero_le _,hX2,hX1,hDl0,hr0,Nat.zero_le _,hres.symm⟩ ?_ ?_
 ·refine LeM [(1002,some 81)] rfl rfl ?_;refine Zz ?_
  rfl
 ·clear hr0 hX1 hX2 hres hf0 c2 c3 cP hDu hDl0 cK1 cK2 cG hxf hck;rintro ⟨k,x,r,l⟩ ⟨hk,hx1,hx2,hr1,hr2,hl1,hv⟩;simp only at hk hx1 hx2 hr1 hr2 hl1 hv ⊢;have z1:=q65 hr2;have c3:=q6v hr2 Oq;rw [hr1] at z1 c3;have hll:(l ++ [q0b r C]).length=l.length+1:=by simp
  have c4:=q4X (x:=q0b r C);rw [qg8 z1.1] at c4
  by_cases hlt:k < N
  ·have hlt':(k:Int) < N:=by omega
   rw [show N-k=(N-(k+1))+1 by omega,hrfL] at hv
   by_cases h0:q0b r C=0
   ·rw [if_pos h0] at hv;subst hv;rw [decide_eq_true h0] at c4;exact wk1 (x2 hlt' hll) trivial
   rw [if_neg h0] at hv;rw [decide_eq_false h0] at c4;have c5:=cGr r hr2 Oq;have h5:=hGr r hr2
   by_cases he:(LG r).2=0
   case neg =>
    rw [if_pos he] at hv;subst hv;generalize (LG r).2=e at *;generalize (LG r).1=ds at *;have q:(e != 0)=true:=by simpa using he
    exact wk1 (x3 hlt' hll q) trivial
   rw [if_neg (not_not_intro he)] at hv;obtain ⟨_,_,_,d1,d2⟩:=h5 he;rw [he] at c5;generalize (LG r).1=d at *;have d1:d.length=C:=by omega
   clear h5 he;have g0:=qqw (n:=C) (g:=fun j=>chV (!sg) (x.getD j (0,0)) (d.getD j 0));have gn:=qqv (n:=C) (dbl:=!sg) (x:=x) (d:=d);have gl:=fun m=>qeB (n:=C) (g:=fun j=>chV (!sg) (x.getD j (0,0)) (d.getD j 0)) (m:=m);have gs:=fun m=>qqu (n:=C) (g:=fun j=>chV (!sg) (x.getD j (0,0)) (d.getD j 0)) (m:=m);have hY2:=q6J (dbl:=!sg) (x:=x) (d:=d) (n:=C);have hY1:=q7k (dbl:=!sg) (x:=x) (d:=d) (n:=C);have hYm:=fun j (hj:j < C)=>show chV (!sg) (x.getD j (0,0)) (d.getD j 0) ∈ chL (!sg) x d C from List.mem_map_of_mem (List.mem_range.2 hj);have hYx:(∀ j,j < C→q0G (chV (!sg) (x.getD j (0,0)) (d.getD j 0)).1)→∀ p ∈ chL (!sg) x d C,q0G p.1:=fun h p hp=>by
    obtain ⟨j,hj,rfl⟩:=List.mem_map.1 hp;exact h j (List.mem_range.1 hj)
   generalize rwQ C (fun j=>chV (!sg) (x.getD j (0,0)) (d.getD j 0))=G at *;refine wk1 (x3 hlt' hll hx1) ?_;refine q0A (fun i=>i≤C∧∀ j,j < i→q0G (chV (!sg) (x.getD j (0,0)) (d.getD j 0)).1) [2,3,4,5,6,17,18,20,21,22] [5,6,1002] Lk Lk (fun i=>[(25,iv i),(24,.ow 1003 (some 2) 0 C)]) (fun i=>[(1003,⟨65,some 2,(G i).map fun p:Nat × Nat=>.ag [uv p.1,uv p.2],false⟩)]) (fun i=>C-i) 0 ⟨Nat.zero_le _,fun _ h=>by omega⟩ ?_ ?_
   ·refine LeM [(1003,some 104)] rfl rfl ?_;refine Zz ?_;exact ⟨rfl,q0M (by rw [← g0,List.map_replicate]; rfl) qfs⟩
   ·rintro i ⟨hi,hgf⟩
    by_cases hlt2:i < C
    ·have hli:(i:Int) < C:=by omega
     obtain ⟨p,hp⟩:∃ p,x[i]?=some p:=⟨_,List.getElem?_eq_getElem Oq⟩;obtain ⟨v,hdv⟩:∃ v,d[i]?=some v:=⟨_,List.getElem?_eq_getElem Oq⟩;obtain ⟨⟨p1,p2⟩,p3,p4⟩:=hx2 p (List.mem_of_getElem? hp);obtain ⟨v1,v2⟩:=d2 v (List.mem_of_getElem? hdv);have o1:=q0h p1 (q0N p2);have o2:=q0h p3 (q0N p4);have o3:=q0h v1 (q0N v2);have hT:=qkm p2 p4 v2;have a1:=qaL (A:=ofZ p.1) (B:=ofZ p.2) (by have:=qmb p2 p4; unfold pZ at this; unfold q00; omega);have a2:=qaL (A:=ofZ p.1+ofZ p.2) (B:=ofZ v) (by unfold chT at hT; unfold q00; omega);rw [show ofZ p.1+ofZ p.2+ofZ v=chT p v from rfl] at a2;have c6:=q49 (A:=chT p v);have hgp:x.getD i (0,0)=p:=by rw [List.getD_eq_getElem?_getD,hp]; rfl
     have hgs:=gs i;have hgm:=hYm i hlt2;rw [hgp,getD_some hdv] at hgs hgm;have hcv:chV (!sg) p v=(fR 0 (chT p v),if (!sg)=true then fR 0 (chT p v-ofZ (fR 0 (chT p v))) else 0):=rfl;have hqlt:fR 0 (chT p v) < 18446744073709551616:=q3E;generalize chT p v=T at *;generalize fR 0 T=y at *;have c7:=q1F hqlt;have hget:(((G i).map fun p:Nat × Nat=>PV.ag [uv p.1,uv p.2]).set i (.ag [uv y,.vl (.int .u64 0)]))[i]?=some (.ag [uv y,.vl (.int .u64 0)]):=List.getElem?_set_self (by rw [List.length_map,gl]; exact hlt2)
     by_cases hfy:q0G y
     ·rw [decide_eq_true hfy] at c7;have o4:=q0h hqlt (q0N hfy);have s1:=qfi (A:=T) (B:=ofZ y) (by have:=qbp (a:=T) (b:=ofZ y) (k:=67602) hT (by have:=q0u hfy; omega); unfold q00; omega);have c8:=q49 (A:=T-ofZ y);have hnx:∀ j,j < i+1→q0G (chV (!sg) (x.getD j (0,0)) (d.getD j 0)).1:=fun j hj=>by
       rcases Nat.lt_succ_iff_lt_or_eq.1 hj with h | rfl
       ·exact hgf j h
       ·rw [hgp,getD_some hdv,hcv]; exact hfy
      have hset:((G i).map fun p:Nat × Nat=>PV.ag [uv p.1,uv p.2]).set i (.ag [uv (chV (!sg) p v).1,uv (chV (!sg) p v).2])=(G (i+1)).map fun p:Nat × Nat=>PV.ag [uv p.1,uv p.2]:=by rw [← hgs,List.map_set]
      rw [hcv] at hset;generalize fR 0 (T-ofZ y)=w at *;clear hYx hYm hgm hgs gs hcv;cases sg
      ·have hsto:=fun (x:PV) (K:Bk→Prop)=>qqX (T:=65) (m:=2) (j:=1) (x:=x) (K:=K) hget (by simp);refine wk1 (x6 hli hx1 hp hdv (gl i) (x2 hget hsto)) ?_;refine ⟨i+1,⟨by omega,hnx⟩,by omega,?_⟩;rw [if_pos (by decide)] at hset;refine LeM [] rfl rfl ?_;refine Zz ?_;exact ⟨by omega,q0M (by rw [List.set_set]; exact hset) qfs⟩
      ·refine wk1 (x6 hli hx1 hp hdv (gl i) hget) ?_;refine ⟨i+1,⟨by omega,hnx⟩,by omega,?_⟩;refine LeM [] rfl rfl ?_;refine Zz ?_;rw [if_neg (by decide)] at hset;exact ⟨by omega,q0M hset qfs⟩
     ·rw [decide_eq_false hfy] at c7;rw [if_pos fun h=>hfy (by have:=h _ hgm; rwa [hcv] at this)] at hv;subst hv;exact wk1 (x6 hli hx1 hp hdv (gl i) hget) trivial
    ·obtain rfl:i=C:=by omega
     have hli:¬ (i:Int) < i:=by omega
     have hYf:=hYx hgf;rw [if_neg (not_not_intro hYf)] at hv;have hY1:=hY1 hYf;rw [gn];generalize chL (!sg) x d i=Y at *;clear hYx hYf hYm gs g0 gn hgf;have c8:=cD Y hY1 hY2;have e1:=hdl Y;have e2:=hdu Y;refine wk1 (x2 hli hx1) ?_;refine q1M (LeM [] rfl rfl (xs:=[(2,pF b),(3,iv N),(4,bv sg),(5,.pt 5 0 0),(6,.pt 6 0 0),(17,pP x),(18,pF r),(20,.ow 1002 none 0 (l.length+1)),(21,iv k),(24,pP Y)]) (kv:=[]) (bs:=[(5,⟨26,some 5,[.ag [iv i,iv i,pI ms,pI mi,pF mv]],false⟩),(6,⟨28,some 8,[.ag [pI f.rows,pI f.cols,pI f.ls,pI f.li,pF f.lv,pI f.us,pI f.ui,pF f.uv]],false⟩),(1002,⟨43,none,(l ++ [q0b r i]).map fun z:Nat=>uv z,false⟩)]) (kb:=[]) ?_) ?_
     ·try refine Zz ?_
      exact q1f (T:=65) rfl qfs rfl (by rw [List.length_map]; omega)
     generalize RD Y=S at *
     by_cases hfs:∀ v ∈ S,q0G v
     case neg =>
      rw [if_pos hfs] at hv;subst hv;rw [if_neg hfs] at c8;exact wk trivial
     rw [if_neg (not_not_intro hfs)] at hv;rw [if_pos hfs] at c8;have hSf:q1E S:=fun v hv=>⟨e2 v hv,hfs v hv⟩;have c9:=q6v hSf Oq;have z2:=q65 hSf;rw [e1] at c9 z2;have o1:=q0h (x:=q0b r i) Oq (q0N z1.2);have o2:=q0h (x:=q0b S i) Oq (q0N z2.2);have sc:=q7P (V:=ofZ (q0b S i)) (j:=1) Oq Oq (qmp (by have:=bl_2 (q0u z2.2); unfold q00; omega));have lc:=q6w (A:=ofZ (q0b r i)) (B:=2*ofZ (q0b S i))
     by_cases hsm:ofZ (q0b r i) < 2*ofZ (q0b S i)
     ·rw [if_pos hsm] at hv;subst hv;rw [decide_eq_true hsm] at lc;exact wk1 hll trivial
     ·rw [if_neg hsm] at hv;rw [decide_eq_false hsm] at lc;refine wk1 hll ?_;refine ⟨(k+1,Y,S,l ++ [q0b r i]),⟨by simp only; omega,hY2,hY1,e1,hSf,by simp only; rw [hll]; omega,hv⟩,by simp only; omega,?_⟩;simp only;refine LeM [(1002,some 181)] rfl rfl ?_;refine Zz ?_;omega
  ·obtain rfl:k=N:=by omega
   have hlt':¬ (k:Int) < k:=by omega
   rw [Nat.sub_self,hrf0] at hv;subst hv;exact wk1 (x2 hlt' hll) trivial
end
section
variable {R C:Nat} {F:Nat→Nat→Option Nat} {f:LUt} {b x:List Nat} {steps:Int}
abbrev rfH (q:List (Nat × Nat) × List Nat × Int):PV:=.tu [pF (q.1.map (·.1)),pF q.2.1,iv q.2.2]
def qeO {C:Nat} {F:Nat→Nat→Option Nat} {f:LUt} {b:List Nat} {dbl:Bool}:∀ (k:Nat) (x:List (Nat × Nat)) (r l:List Nat),x.length≤C→(rfL C F f b dbl k x r l).1.length≤C∧(rfL C F f b dbl k x r l).2.1.length≤l.length+k
 | 0,x,r,l,h=>⟨h,Nat.le_refl _⟩
 | k+1,x,r,l,h=>by
  rw [rfL]
  split
  ·exact ⟨h,by dsimp only; omega⟩
  split
  ·exact ⟨Nat.zero_le _,Nat.zero_le _⟩
  split
  ·exact ⟨Nat.zero_le _,Nat.zero_le _⟩
  split
  ·exact ⟨Nat.zero_le _,Nat.zero_le _⟩
  split
  ·exact ⟨h,by dsimp only; omega⟩
  ·have:=qeO (F:=F) (f:=f) (b:=b) (dbl:=dbl) k (chL dbl x (lgE f r).1 C) (rdL F (chL dbl x (lgE f r).1 C) b C C) (l ++ [q0b (rdL F (chL dbl x (lgE f r).1 C) b C C) C]) (Nat.le_of_eq q6J);rw [List.length_append,List.length_singleton] at this;exact ⟨this.1,by omega⟩
def q45 {dbl:Bool} (hb:LUb f) (hu:∀ v ∈ b,v < 18446744073709551616) (hC:C≤200):(rfS C F f b dbl R steps).1.length≤200∧(rfS C F f b dbl R steps).2.1.length≤200:=by
 unfold rfS
 by_cases h1:rfR R C f steps≠0
 ·rw [if_pos h1]; exact ⟨Nat.zero_le _,Nat.zero_le _⟩
 rw [if_neg h1];obtain ⟨q1,q2,q3,q4,q5⟩:=qeN (Classical.not_not.1 h1)
 by_cases h2:(lgE f b).2≠0
 ·rw [if_pos h2]; exact ⟨Nat.zero_le _,Nat.zero_le _⟩
 rw [if_neg h2];obtain ⟨_,_,_,p1,_⟩:=q4s hb hu (Classical.not_not.1 h2)
 split
 ·exact ⟨Nat.zero_le _,Nat.zero_le _⟩
 ·have:=qeO (C:=C) (F:=F) (f:=f) (b:=b) (dbl:=dbl) steps.toNat ((lgE f b).1.map fun v=>(v,0)) (rdL F ((lgE f b).1.map fun v=>(v,0)) b C C) [q0b (rdL F ((lgE f b).1.map fun v=>(v,0)) b C C) C] (by rw [List.length_map]; omega);rw [List.length_singleton] at this;exact ⟨by omega,by omega⟩
def q4e (hm:TOk F R C) (hb:LUb f) (hn:f.rows.length≤20) (hu:∀ v ∈ b,v < 18446744073709551616) (hl:b.length≤1000000) (hs1 : -9223372036854775808≤steps) (hs2:steps≤9223372036854775807):ACt 16 [pT R C F,pLU f,pF b,iv steps] (rfH (rfS C F f b false R steps)):=by
 have c1:=qb9 (dbl:=false) (steps:=steps) hm hb hn hu hl hs1 hs2;have hl2:=(q45 (R:=R) (C:=C) (F:=F) (steps:=steps) (dbl:=false) hb hu hm.c).1;unfold rfH rfV at *;generalize (rfS C F f b false R steps).1=x at *;generalize (rfS C F f b false R steps).2.1=l at *;generalize (rfS C F f b false R steps).2.2=e at *;have nn:Nz (iv e):=qdN;unfold pT q1n pLU at *;refine ac0 Tryz.func16 Tryz.ntmps16 [.tmp 8,.tmp 9,.tmp 10] ?_;refine wk ?_;refine q0A (fun i=>i≤x.length) [12,13,26,27] [] Lk Lk (fun i:Nat=>[(28,iv i),(14,.ow 1001 none 0 i)]) (fun i=>[(1001,⟨43,none,((x.take i).map (·.1)).map fun z:Nat=>uv z,false⟩)]) (fun i=>x.length-i) 0 (Nat.zero_le _) ?_ ?_
 ·refine LeM [(1001,none)] rfl rfl ?_;refine Zz ?_
  rfl
 ·intro i hi;have htl:(x.take i).length=i:=by rw [List.length_take]; omega
  by_cases hlt:i < x.length
  ·obtain ⟨p,hp⟩:∃ p,x[i]?=some p:=⟨_,List.getElem?_eq_getElem hlt⟩;have e:((x.take (i+1)).map (·.1)).map (fun z:Nat=>uv z)=((x.take i).map (·.1)).map (fun z:Nat=>uv z) ++ [uv p.1]:=by rw [q1D hp,List.map_append,List.map_append]; rfl
   refine wk1 (x2 hp htl) ?_;refine ⟨i+1,by omega,by omega,?_⟩;rw [e];refine LeM [(1001,some 36)] rfl rfl ?_;refine Zz ?_;exact ⟨by omega,q0M rfl (by rw [← e]; exact clU)⟩
  ·obtain rfl:i=x.length:=by omega
   rw [List.take_length];refine wk ?_;exact List.take_of_length_le (by simp)
def qcI (hm:TOk F R C) (hb:LUb f) (hn:f.rows.length≤20) (hu:∀ v ∈ b,v < 18446744073709551616) (hl:b.length≤1000000) (hs1 : -9223372036854775808≤steps) (hs2:steps≤9223372036854775807):ACt 42 [pT R C F,pLU f,pF b,iv steps] (rfH (rfS C F f b false R steps)):=by
 have c1:ACt _ _ (rfV (rfS C F f b false R steps)):=qa7 (sg:=true) (steps:=steps) hm hb hn hu hl hs1 hs2;have hl2:=(q45 (R:=R) (C:=C) (F:=F) (steps:=steps) (dbl:=false) hb hu hm.c).1;unfold rfH rfV at *;generalize (rfS C F f b false R steps).1=x at *;generalize (rfS C F f b false R steps).2.1=l at *;generalize (rfS C F f b false R steps).2.2=e at *;unfold pT q1n pLU at *;have nn:Nz (iv e):=qdN;refine ac0 Tryz.func42 Tryz.ntmps42 [.tmp 8,.tmp 9,.tmp 10] ?_;refine wk ?_;refine q0A (fun i=>i≤x.length) [11,12,13] [] Lk Lk (fun i:Nat=>[(15,iv i),(14,.ow 1001 none 0 i)]) (fun i=>[(1001,⟨43,none,((x.take i).map (·.1)).map fun z:Nat=>uv z,false⟩)]) (fun i=>x.length-i) 0 (Nat.zero_le _) ?_ ?_
 ·refine LeM [(1001,none)] rfl rfl ?_;refine Zz ?_
  rfl
 ·intro i hi;have htl:(x.take i).length=i:=by rw [List.length_take]; omega
  by_cases hlt:i < x.length
  ·obtain ⟨p,hp⟩:∃ p,x[i]?=some p:=⟨_,List.getElem?_eq_getElem hlt⟩;have e:((x.take (i+1)).map (·.1)).map (fun z:Nat=>uv z)=((x.take i).map (·.1)).map (fun z:Nat=>uv z) ++ [uv p.1]:=by rw [q1D hp,List.map_append,List.map_append]; rfl
   refine wk1 (x2 hp htl) ?_;refine ⟨i+1,by omega,by omega,?_⟩;rw [e];refine LeM [(1001,some 38)] rfl rfl ?_;refine Zz ?_;exact ⟨by omega,q0M rfl (by rw [← e]; exact clU)⟩
  ·obtain rfl:i=x.length:=by omega
   rw [List.take_length];refine wk ?_;exact List.take_of_length_le (by simp)
def q6C (hm:TOk F R C) (hb:LUb f) (hn:f.rows.length≤20) (hu:∀ v ∈ b,v < 18446744073709551616) (hl:b.length≤1000000) (hs1 : -9223372036854775808≤steps) (hs2:steps≤9223372036854775807):ACt 35 [pT R C F,pLU f,pF b,iv steps] (rfV (rfS C F f b true R steps)):=by
 have c1:=qb9 (dbl:=true) (steps:=steps) hm hb hn hu hl hs1 hs2;unfold rfV at *;generalize (rfS C F f b true R steps).1=x at *;generalize (rfS C F f b true R steps).2.1=l at *;generalize (rfS C F f b true R steps).2.2=e at *;unfold pT q1n pLU at *;refine ac0 Tryz.func35 Tryz.ntmps35 [.tmp 8,.tmp 9,.tmp 10] ?_;exact wk trivial
def q9Q (hm:TOk F R C) (hb:LUb f) (hn:f.rows.length≤20) (hu:∀ v ∈ b,v < 18446744073709551616) (hl:b.length≤1000000) (hs1 : -9223372036854775808≤steps) (hs2:steps≤9223372036854775807):ACt 40 [pT R C F,pLU f,pF b,iv steps] (rfV (rfS C F f b true R steps)):=by
 have c1:ACt _ _ (rfV (rfS C F f b true R steps)):=qa7 (sg:=false) (steps:=steps) hm hb hn hu hl hs1 hs2;unfold rfV at *;generalize (rfS C F f b true R steps).1=x at *;generalize (rfS C F f b true R steps).2.1=l at *;generalize (rfS C F f b true R steps).2.2=e at *;unfold pT q1n pLU at *;refine ac0 Tryz.func40 Tryz.ntmps40 [.tmp 8,.tmp 9,.tmp 10] ?_;exact wk trivial
end
def qhZ {f m e:Nat} (h1:f / 4503599627370496 % 2048=e) (h2:e≠0) (h3:e≠2047) (h4:f < 9223372036854775808) (h5:4503599627370496+f % 4503599627370496=m):ofZ f=(m:Int)*(2:Int) ^ (64461+e):=by
 refine q0W ?_;unfold ofF;rw [h1,if_neg h3,if_neg h2,decide_eq_false (by omega),h5]
 rfl
def fR_u {z K s:Nat} (hK:K=65536) (hs:s≤K) (hz:0 < z):fR 0 ((z:Int)*(2:Int) ^ (K-s))=rF 0 false z (2 ^ s):=by
 have hp:=q0S (K-s);have hpos:0 < (z:Int)*(2:Int) ^ (K-s):=Int.mul_pos Oq hp;unfold fR;rw [if_neg (by omega),decide_eq_false (by omega),q0H,Int.natAbs_natCast,← hK,show (2:Nat) ^ K=2 ^ s*2 ^ (K-s) by rw [← Nat.pow_add]; congr 1; omega];exact q3t hz (q0F _) (q0F _)
def fQ_u {z y K s:Nat} (hs:s≤K) (hz:0 < z) (hy:0 < y):fQ 0 ((z:Int)*(2:Int) ^ (K-s)) ((y:Int)*(2:Int) ^ K)=rF 0 false z (y*2 ^ s):=by
 have hpos:0 < (z:Int)*(2:Int) ^ (K-s):=Int.mul_pos Oq (q0S _);have hpos2:0 < (y:Int)*(2:Int) ^ K:=Int.mul_pos Oq (q0S _);unfold fQ;rw [if_neg (by omega),decide_eq_false (by omega),decide_eq_false (by omega),q0H,q0H,Int.natAbs_natCast,Int.natAbs_natCast,show y*(2:Nat) ^ K=y*2 ^ s*2 ^ (K-s) by rw [Nat.mul_assoc,← Nat.pow_add]; congr 2; omega];exact q3t hz (Nat.mul_pos hy (q0F _)) (q0F _)
def lu1 (c:Nat):LUt:=⟨[0],[0],[0,0],[],[],[0,1],[0],[c]⟩
def qtw {c:Nat} (hc:q0G c) (h0:ofZ c≠0):q4W (lu1 c)=0:=by
 have p1:q28 [0] ([0]:List Int).length:=⟨rfl,fun x hx=>by simp at hx; subst hx; exact ⟨by omega,by simp⟩,by simp⟩;have p2:qa3 (lu1 c):=⟨⟨rfl,rfl,fun j hj=>by
  obtain rfl:j=0:=by simp [lu1] at hj; omega
  exact ⟨0,0,rfl,rfl,by omega,by simp [lu1],fun i x y hx=>by simp [lu1] at hx,fun z hz=>by simp [lu1] at hz,fun z hz=>by simp [lu1] at hz⟩⟩,⟨rfl,rfl,fun j hj=>by
  obtain rfl:j=0:=by simp [lu1] at hj; omega
  exact ⟨0,1,rfl,rfl,by omega,by simp [lu1],fun i x y hx hy=>by simp [lu1] at hx hy,fun z hz=>by simp [lu1] at hz; omega,by simp [lu1]⟩⟩⟩
 have p3:UDg 1 [0,1] [c]:=fun j hj a x ha hx=>by
  obtain rfl:j=0:=by omega
  simp at ha;obtain rfl:a=0:=by omega
  cases hx; exact h0
 unfold q4W;rw [if_neg (by simp [lu1]),if_neg (not_not_intro ⟨p1,p1⟩),if_neg (by simp [lu1]),if_neg (not_not_intro p2),if_pos ⟨fun x hx=>by simp [lu1] at hx,fun x hx=>by simp [lu1] at hx; subst hx; exact hc,p3⟩]
def qsi {c b y:Nat} (hc:q0G c) (h0:ofZ c≠0) (hb:q0G b) (hy:fR 0 (ofZ b)=b) (hz:fQ 0 (ofZ b) (ofZ c)=y) (h1:q0G y):lgE (lu1 c) [b]=([y],0):=by
 unfold lgE;have hs:q9K (q4W (lu1 c)) (lu1 c).rows.length [b]=0:=by
  rw [qtw hc h0];unfold q9K;rw [if_neg (by omega),if_neg (by simp [lu1]),if_neg (not_not_intro fun x hx=>by simp at hx; subst hx; exact hb)]
 rw [if_neg (not_not_intro hs)];have e1:gaS [b] (lu1 c).rows (lu1 c).rows.length=[b]:=rfl;have e2:(lu1 c).rows.length=1:=rfl;have e3:cUp (lu1 c) 0 0=c:=rfl;rw [e1,e2];have v1:loZ (cLo (lu1 c)) [b] 0=ofZ b:=by unfold loZ; simp [sg]
 have g1:geL (cLo (lu1 c)) 1 0 [b]=some [b]:=by
  rw [geL,v1,hy,if_pos hb,geL]; rfl
 have v2:upZ (cUp (lu1 c)) [b] 1 0=ofZ b:=by unfold upZ; simp [sg]
 have g2:geU (cUp (lu1 c)) 1 1 [b]=some [y]:=by
  rw [geU,v2,e3,hz,if_pos h1,geU]; rfl
 rw [g1];dsimp only;rw [g2]
 rfl
section
variable {K:Nat}
def mul_3 {c x z s:Nat} (hK:K=65536) (hs:s≤K) (hc:ofZ c=3*(2:Int) ^ K) (hx:ofZ x=(z:Int)*(2:Int) ^ (K-s)) (hz:bl (3*z)≤64):q10 c x=((3*z:Nat):Int)*(2:Int) ^ (K-s):=by
 unfold q10;rw [hc,hx];have e:3*(2:Int) ^ K*((z:Int)*(2:Int) ^ (K-s))=((3*z:Nat):Int)*(2:Int) ^ (K-s)*(2:Int) ^ 65536:=by
  rw [← hK]
  push_cast
  generalize (2:Int) ^ K=A;generalize (2:Int) ^ (K-s)=B;simp only [Int.mul_assoc,Int.mul_left_comm,Int.mul_comm]
 rw [e,qbK]
 ·rfl
 ·unfold q00;rw [q0H,Int.natAbs_natCast]
  by_cases h0:3*z=0
  ·rw [h0,Nat.zero_mul]; simp [q1A]
  ·rw [q1Q h0]; omega
def awk35 {c:Nat} (hK:K=65536) (hcf:q0G c) (hc:ofZ c=3*(2:Int) ^ K):rfS 1 (fun _ _=>some c) (lu1 c) [4607182418800017408] false 1 5=([(4599676419421066581,0)],[4363988038922010624],0):=by
 have a1:54+(K-54)=K:=by omega
 have a2:54+(K-108)=K-54:=by omega
 have a3:54≤K:=by omega
 have a4:108≤K:=by omega
 have hp:=q0S K;have h0:ofZ c≠0:=by rw [hc]; omega
 have z1:ofZ 4607182418800017408=1*(2:Int) ^ K:=by
  have e:(2:Int) ^ K=(2:Int) ^ 52*(2:Int) ^ (64461+1023):=by rw [← Int.pow_add]; congr 1
  rw [qhZ (e:=1023) (m:=4503599627370496) rfl (by omega) (by omega) (by omega) rfl,e,show ((2:Int) ^ 52)=4503599627370496 by decide,Int.one_mul]
  rfl
 have zx:ofZ 4599676419421066581=((6004799503160661:Nat):Int)*(2:Int) ^ (K-54):=by
  rw [qhZ (e:=1021) (m:=6004799503160661) rfl (by omega) (by omega) (by omega) rfl,show K-54=64461+1021 by omega]
 have zr:ofZ 4363988038922010624=((1:Nat):Int)*(2:Int) ^ (K-54):=by
  have e:(2:Int) ^ (K-54)=(2:Int) ^ 52*(2:Int) ^ (64461+969):=by rw [← Int.pow_add]; congr 1; omega
  rw [qhZ (e:=969) (m:=4503599627370496) rfl (by omega) (by omega) (by omega) rfl,e,show ((2:Int) ^ 52)=4503599627370496 by decide,show ((1:Nat):Int)=1 from rfl,Int.one_mul]
  rfl
 have zd:ofZ 4356482039543059797=((6004799503160661:Nat):Int)*(2:Int) ^ (K-108):=by
  rw [qhZ (e:=967) (m:=6004799503160661) rfl (by omega) (by omega) (by omega) rfl,show K-108=64461+967 by omega]
 have fx:q0G 4599676419421066581:=by decide
 have fr:q0G 4363988038922010624:=by decide
 have fd:q0G 4356482039543059797:=by decide
 have f1:q0G 4607182418800017408:=by decide
 have r1:fR 0 (ofZ 4607182418800017408)=4607182418800017408:=by
  rw [z1];have:=fR_u (z:=1) (K:=K) (s:=0) hK Oq Oq;rw [Nat.sub_zero] at this;have k:rF 0 false 1 (2 ^ 0)=4607182418800017408:=by kernel_rfl
  rw [show (1:Int)=((1:Nat):Int) from rfl,this,k]
 have L1:=qsi (c:=c) (b:=4607182418800017408) (y:=4599676419421066581) hcf h0 f1 r1 (by
  rw [z1,hc];have:=fQ_u (z:=1) (y:=3) (K:=K) (s:=0) Oq Oq Oq;rw [Nat.sub_zero] at this;have k:rF 0 false 1 (3*2 ^ 0)=4599676419421066581:=by kernel_rfl
  rw [show (1:Int)=((1:Nat):Int) from rfl,show (3:Int)=((3:Nat):Int) from rfl,this,k]) fx
 have rr:fR 0 (((1:Nat):Int)*(2:Int) ^ (K-54))=4363988038922010624:=by
  have k:rF 0 false 1 (2 ^ 54)=4363988038922010624:=by kernel_rfl
  rw [fR_u hK (by omega) (by omega),k]
 have L2:=qsi (c:=c) (b:=4363988038922010624) (y:=4356482039543059797) hcf h0 fr (by rw [zr]; exact rr) (by
  have k:rF 0 false 1 (3*2 ^ 54)=4356482039543059797:=by kernel_rfl
  rw [zr,hc,show (3:Int)=((3:Nat):Int) from rfl,fQ_u (by omega) (by omega) (by omega),k]) fd
 have M:q10 c 4599676419421066581=((3*6004799503160661:Nat):Int)*(2:Int) ^ (K-54):=mul_3 hK Oq hc zx (by decide);have M0:q10 c 0=0:=by
  unfold q10;rw [show ofZ 0=0 from q0W q16,Int.mul_zero,q1N]
  rfl
 have D:rdL (fun _ _=>some c) [(4599676419421066581,0)] [4607182418800017408] 1 1=[4363988038922010624]:=by
  have e:rdL (fun _ _=>some c) [(4599676419421066581,0)] [4607182418800017408] 1 1=[fR 0 (ofZ 4607182418800017408-(0+(q10 c 4599676419421066581+q10 c 0)))]:=rfl;have e54:(2:Int) ^ K=(2:Int) ^ 54*(2:Int) ^ (K-54):=by rw [← Int.pow_add,a1]
  rw [show ((2:Int) ^ 54)=18014398509481984 by decide] at e54;have e2:1*(2:Int) ^ K-(0+(((3*6004799503160661:Nat):Int)*(2:Int) ^ (K-54)+0))=((1:Nat):Int)*(2:Int) ^ (K-54):=by
   rw [e54];generalize (2:Int) ^ (K-54)=A;omega
  rw [e,M,M0,z1,e2,rr]
 have X:chL false [(4599676419421066581,0)] [4356482039543059797] 1=[(4599676419421066581,0)]:=by
  have e:chL false [(4599676419421066581,0)] [4356482039543059797] 1=[(fR 0 (ofZ 4599676419421066581+ofZ 0+ofZ 4356482039543059797),0)]:=rfl;have e54:(2:Int) ^ (K-54)=(2:Int) ^ 54*(2:Int) ^ (K-108):=by rw [← Int.pow_add,a2]
  rw [show ((2:Int) ^ 54)=18014398509481984 by decide] at e54;have e2:((6004799503160661:Nat):Int)*(2:Int) ^ (K-54)+0+((6004799503160661:Nat):Int)*(2:Int) ^ (K-108)=((6004799503160661*18014398509481984+6004799503160661:Nat):Int)*(2:Int) ^ (K-108):=by
   rw [e54];generalize (2:Int) ^ (K-108)=A;omega
  have k:rF 0 false (6004799503160661*18014398509481984+6004799503160661) (2 ^ 108)=4599676419421066581:=by kernel_rfl
  rw [e,show ofZ 0=0 from q0W q16,zx,zd,e2,fR_u hK (by omega) (by omega),k]
 have s8:q0b [4363988038922010624] 1=4363988038922010624:=by decide
 have hR:rfR 1 1 (lu1 c) 5=0:=by
  unfold rfR;rw [qtw hcf h0,if_neg (by omega),if_neg (by simp [lu1]),if_neg (by omega)]
 unfold rfS;rw [hR,if_neg (not_not_intro rfl),L1];dsimp only;rw [if_neg (not_not_intro rfl),show ([4599676419421066581].map fun v=>(v,0))=[(4599676419421066581,0)] from rfl,D,if_neg (not_not_intro fun v hv=>by simp at hv; subst hv; exact fr),s8,show (5:Int).toNat=4+1 from rfl,rfL,s8,if_neg (by omega),L2];dsimp only;rw [if_neg (not_not_intro rfl),X,if_neg (not_not_intro fun p hp=>by simp at hp; subst hp; exact fx),D,if_neg (not_not_intro fun v hv=>by simp at hv; subst hv; exact fr),s8,if_pos];rw [zr];have:=q0S (K-54);omega
end
def q2m:ACt 17 [] (bv true):=by
 obtain ⟨c3,h3⟩:∃ c,c=flz 3:=⟨_,rfl⟩;have hI:∀ z:Int,z.natAbs≤9→ACt 46 [iv z,iv 0] (uv (flz z:Nat)):=fun z hz=>q6d (z:=z) (mode:=0) Oq Oq (q9j (by have:=q0R (n:=z.natAbs) (k:=4) (by omega); omega));have C1:=hI 3 Oq;clear hI;have u3:flz 3 < 18446744073709551616∧q0G (flz 3):=⟨qke Oq,qfM Oq⟩;have z3:ofZ (flz 3)=3*(2:Int) ^ 65536:=q0W (qfL Oq);rw [← h3] at C1 u3 z3;clear h3;have hg:=awk35 (c:=c3) rfl u3.2 z3;have hm:TOk (fun _ _=>some c3) 1 1:=⟨by omega,by omega,by omega,fun j i x _ _ h=>by cases h; exact u3.1,fun j i x _ _ h=>by cases h; exact u3.2⟩;have hb:LUb (lu1 c3):=⟨by simp [lu1],by simp [lu1],by simp [lu1],by simp [lu1],by simp [lu1],by simp [lu1],by simp [lu1],by simp [lu1],by simp [lu1],fun x hx=>by simp [lu1] at hx; subst hx; exact u3.1⟩;have C4:=q4e (F:=fun _ _=>some c3) (f:=lu1 c3) (b:=[4607182418800017408]) (steps:=5) hm hb (by simp [lu1]) (fun v hv=>by simp at hv; subst hv; omega) (by simp) (by omega) (by omega);rw [hg] at C4;have hC4:ACt 16 [.ag [iv 1,iv 1,.sl none [iv 0,iv 1],.sl none [iv 0],.sl none [uv c3]],.ag [.sl none [iv 0],.sl none [iv 0],.sl none [iv 0,iv 0],.sl none [],.sl none [],.sl none [iv 0,iv 1],.sl none [iv 0],.sl none [uv c3]],.sl none [uv 4607182418800017408],iv 5] (.tu [.sl none [uv 4599676419421066581],.sl none [uv 4363988038922010624],iv 0]):=C4;clear C4 hg z3;refine ac0 Tryz.func17 Tryz.ntmps17 [.tmp 0] ?_;refine wk ?_;refine q3N fun K0 hK0=>?_;refine qa5 3 fun K hK=>?_;rw [List.take_succ_cons,List.take_succ_cons,List.take_succ_cons,List.take_zero,List.drop_succ_cons,List.drop_succ_cons,List.drop_succ_cons,List.drop_zero]
 try refine Zz ?_
 refine ⟨_,_,LeM [] rfl rfl (xs:=[(20,.ag [iv 1,iv 1,.sl none [iv 0,iv 1],.sl none [iv 0],.sl none [uv (c3:Nat)]]),(21,.ag [.sl none [iv 0],.sl none [iv 0],.sl none [iv 0,iv 0],.sl none [],.sl none [],.sl none [iv 0,iv 1],.sl none [iv 0],.sl none [uv (c3:Nat)]]),(22,.sl none [uv 4607182418800017408])]) (kv:=[]) (bs:=[]) (kb:=[]) ?_,?_⟩
 ·try refine Zz ?_
  repeat' (with_reducible apply And.intro)
  all_goals first | exact q1f rfl (clI (l:=[0,1])) rfl rfl | exact q1f rfl (clI (l:=[0,0])) rfl rfl | exact q1f rfl (clI (l:=[0])) rfl rfl | exact q1f rfl (clU (l:=[c3])) rfl rfl | exact q1f rfl (clU (l:=[4607182418800017408])) rfl rfl
 try refine Zz ?_
 refine q0Q hC4 ?_
 try refine Zz ?_
 refine hK _ _ ?_;refine hK0 _ _ ?_;clear hK hK0 K K0;exact wk trivial
def q74 (v:Nat):Nat:=v / 1099511627776*1099511627776
def qol {a:Nat} (ha:a < 18446744073709551616):a &&& 18446742974197923840=q74 a:=by
 unfold q74;rw [show (18446742974197923840:Nat)=(2 ^ 24-1)*2 ^ 40 from rfl,show (1099511627776:Nat)=2 ^ 40 from rfl]
 apply Nat.eq_of_testBit_eq
 intro i;rw [Nat.testBit_and,Nat.testBit_mul_two_pow,Nat.testBit_mul_two_pow,Nat.testBit_two_pow_sub_one,Nat.testBit_div_two_pow]
 by_cases h:40≤i
 ·rw [decide_eq_true h,Bool.true_and,Bool.true_and,show i-40+40=i by omega]
  by_cases h2:i < 64
  ·rw [decide_eq_true (by omega),Bool.and_true]
  ·rw [Nat.testBit_lt_two_pow (Nat.lt_of_lt_of_le ha (Nat.le_trans (by decide:18446744073709551616≤2 ^ 64) (Nat.pow_le_pow_right (by omega) (by omega)))),Bool.false_and]
 ·rw [decide_eq_false h,Bool.false_and,Bool.and_false,Bool.false_and]
def qdC {a:Nat} (ha:a < 18446744073709551616):q0o .andNot .u64 (a:Int) 1099511627775=((q74 a:Nat):Int):=by
 have h2:(BitVec.ofInt 64 (a:Int) &&& ~~~(BitVec.ofInt 64 1099511627775)).toNat=q74 a:=by
  rw [show ~~~(BitVec.ofInt 64 1099511627775)=BitVec.ofNat 64 18446742974197923840 from rfl,q3K,BitVec.toNat_and,BitVec.toNat_ofNat,BitVec.toNat_ofNat,Nat.mod_eq_of_lt ha];exact qol ha
 show IntKind.u64.wrap ((BitVec.ofInt 64 (a:Int) &&& ~~~(BitVec.ofInt 64 1099511627775)).toNat:Int)=_
 rw [h2,q0j];have:q74 a≤a:=Nat.div_mul_le_self _ _;omega
def qkX {v:Nat} (h1:v < 18446744073709551616) (h2:q0G v):q74 v < 18446744073709551616∧q0G (q74 v):=by
 have h3:q74 v≤v:=Nat.div_mul_le_self _ _;refine ⟨by omega,?_⟩;unfold q0G q74 at *;omega
def qbI (F:Nat→Nat→Option Nat):Nat→Nat→Option Nat:=fun j i=>(F j i).map q74
section
variable {F:Nat→Nat→Option Nat} {R:Nat}
def qjk {j:Nat} {p:List Int × List Nat}:∀ i,tC (qbI F) j (p.1,p.2.map q74) i=((tC F j p i).1,(tC F j p i).2.map q74)
 | 0=>rfl
 | i+1=>by
  have ih:=qjk (j:=j) (p:=p) i;cases h:F j i with
  | none =>
   have h2:qbI F j i=none:=by unfold qbI; rw [h]; rfl
   rw [q8U h,q8U h2,ih]
  | some x =>
   have h2:qbI F j i=some (q74 x):=by unfold qbI; rw [h]; rfl
   rw [q93 h,q93 h2,ih,List.map_append]
   rfl
def qji:∀ C,tM (qbI F) R C=((tM F R C).1,(tM F R C).2.1,(tM F R C).2.2.map q74)
 | 0=>rfl
 | C+1=>by
  rw [tM,qji C];have:=qjk (F:=F) (j:=C) (p:=(tM F R C).2) R;dsimp only;rw [this]
  rfl
def qmn {C:Nat} (h:TOk F R C):TOk (qbI F) R C:=⟨h.r,h.c,h.m,fun j i x hj hi hx=>by
 unfold qbI at hx;obtain ⟨v,hv,rfl⟩:=Option.map_eq_some_iff.1 hx;exact (qkX (h.u j i v hj hi hv) (h.v j i v hj hi hv)).1,fun j i x hj hi hx=>by
 unfold qbI at hx;obtain ⟨v,hv,rfl⟩:=Option.map_eq_some_iff.1 hx;exact (qkX (h.u j i v hj hi hv) (h.v j i v hj hi hv)).2⟩
end
noncomputable def pcG (raw:List Nat) (N:Nat) (st:Int):Nat→Nat→Option Nat:=rgF (gF raw N (q04 (q04 st 3:Nat) 4)) N
def qbE {raw:List Nat} {N:Nat} {st:Int} (hN:N≤100):TOk (pcG raw N st) N N:=qri hN (by unfold q04; omega)
noncomputable def pcH (raw:List Nat) (N:Nat) (st:Int) (w:Bool):Nat→Nat→Option Nat:=if w then qbI (pcG raw N st) else pcG raw N st
noncomputable def pcL (raw:List Nat) (N:Nat) (st:Int) (w:Bool):LUt:=qg4 (pcH raw N st w) (tM (pcH raw N st w) N N).2.1 N (q39 raw N) 1 2
def qhV {raw:List Nat} {N:Nat} {st:Int} {w:Bool} (hN:N≤100):LUb (pcL raw N st w)∧(pcL raw N st w).rows.length≤N:=qtE hN (by rw [q5l]; omega)
def qlc {raw:List Nat} {k st:Int} {n:Nat} (hr:raw.length≤9223372036854775807) (hn:n≤1000000) (h1 : -1000000≤k) (h2:k≤1000000) (h3 : -9223372036854775808≤st) (h4:st≤9223372036854775807) :
  ACt 29 [pF raw,iv k,iv n,iv st] (pF (q6R raw k (q04 st 4) n)):=by
 have hl:=q1k (raw:=raw) (k:=k) (st:=q04 st 4) (n:=n);refine qg1 (ids:=[5000]) (q40 hr hn h1 h2 h3 h4) ?_;generalize q6R raw k (q04 st 4) n=xs at *;subst hl;have h1:q3F (q0P h0 5000 ⟨43,none,xs.map fun z:Nat=>uv z,false⟩) (.ow 5000 none 0 xs.length)=some (pF xs,[5000]):=by
  unfold q3F;dsimp only;rw [q0J,Option.bind_some,if_pos ⟨rfl,rfl,fun x hx=>clU x hx⟩,List.drop_zero,List.take_of_length_le (by rw [List.length_map]; exact Nat.le_refl _)]
 unfold q2U q2U clo;simp only [h1]
 rfl
def q5Q {raw:List Nat} {n st:Int} {w:Bool} (hr:raw.length≤9223372036854775807) (h1 : -9223372036854775808≤n) (h2:n≤9223372036854775807) (h3 : -9223372036854775808≤st) (h4:st≤9223372036854775807) :
  ACt 15 [pF raw,iv n,iv st,bv w] (.tu [pT (q04 n 5) (q04 n 5) (pcG raw (q04 n 5) st),pLU (pcL raw (q04 n 5) st w),pF (q6R raw 30 (q04 st 4) (q04 n 5))]):=by
 have cM:=q2i (a:=n) (n:=5) h1 h2 Oq Oq;have hN:q04 n 5 < 5:=by unfold q04; omega
 generalize q04 n 5=N at *;have cR:=qc1 (raw:=raw) (st:=st) (n:=N) hr Oq h3 h4;change ACt _ _ (pT N N (pcG raw N st)) at cR;have hF:=qbE (raw:=raw) (N:=N) (st:=st) Oq;have cO:=qhX (raw:=raw) (N:=N) hr Oq;have hpm:=qhY raw N;have hll:=q5l raw N;have cV:=qlc (raw:=raw) (k:=30) (st:=st) (n:=N) hr Oq Oq Oq h3 h4;have cL:=fun (G:Nat→Nat→Option Nat) (hG:TOk G N N)=>qh9 (num:=1) (den:=2) hG (by omega) (cols:=q39 raw N) ⟨by rw [hll],fun x hx=>by have:=hpm.1 x hx; omega,hpm.2⟩ (by omega) (by omega) (by omega);unfold pcL;have hml:=q1a (f:=pcG raw N st) (R:=N) N;have hvl:=hF.vl.2.2.2;have hNN:N*N≤5*5:=Nat.mul_le_mul Oq Oq;cases w with
 | false =>
  have cL1:=cL _ hF;clear cL;change ACt _ _ (.tu [_,pLU (qg4 (pcG raw N st) (tM (pcG raw N st) N N).2.1 N (q39 raw N) 1 2),_]);unfold facP at cL1;generalize qg4 (pcG raw N st) (tM (pcG raw N st) N N).2.1 N (q39 raw N) 1 2=lu at *;unfold pT q1n pLU at *;refine ac0 Tryz.func15 Tryz.ntmps15 [.cell 8 26,.cell 9 28,.tmp 10] ?_;exact wk trivial
 | true =>
  have cL1:=cL _ (qmn hF);clear cL;change ACt _ _ (.tu [_,pLU (qg4 (qbI (pcG raw N st)) (tM (qbI (pcG raw N st)) N N).2.1 N (q39 raw N) 1 2),_]);unfold facP at cL1;generalize qg4 (qbI (pcG raw N st)) (tM (qbI (pcG raw N st)) N N).2.1 N (q39 raw N) 1 2=lu at *;unfold pT q1n pLU at *;rw [qji] at cL1;dsimp only at cL1;generalize (tM (pcG raw N st) N N).1=ms at *;generalize (tM (pcG raw N st) N N).2.1=mi at *;generalize (tM (pcG raw N st) N N).2.2=vs at *;obtain ⟨m1,m2,m3⟩:=hml;refine ac0 Tryz.func15 Tryz.ntmps15 [.cell 8 26,.cell 9 28,.tmp 10] ?_;refine wk ?_;refine q0A (fun i=>i≤vs.length) [0,1,2,8,9,10,11,12] [8,9,11] Lk Lk (fun i:Nat=>[(13,iv i)]) (fun i=>[(12,⟨26,some 5,[.ag [iv N,iv N,pI ms,pI mi,.ow 1001 none 0 i]],false⟩),(1001,⟨43,none,((vs.take i).map q74).map fun z:Nat=>uv z,false⟩)]) (fun i=>vs.length-i) 0 (Nat.zero_le _) ?_ ?_
  ·refine LeM [(1001,none)] rfl rfl ?_;refine Zz ?_
   rfl
  ·intro i hi;have htl:(vs.take i).length=i:=by rw [List.length_take]; omega
   by_cases hlt:i < vs.length
   ·obtain ⟨x,hx⟩:∃ x,vs[i]?=some x:=⟨_,List.getElem?_eq_getElem hlt⟩;have ha:=qdC (hvl x (List.mem_of_getElem? hx));have e:((vs.take (i+1)).map q74).map (fun z:Nat=>uv z)=((vs.take i).map q74).map (fun z:Nat=>uv z) ++ [uv (q74 x)]:=by rw [q1D hx,List.map_append,List.map_append]; rfl
    refine wk1 (x3 hx htl ha) ?_;refine ⟨i+1,by omega,by omega,?_⟩;rw [e];refine LeM [(1001,some 48)] rfl rfl ?_;refine Zz ?_;exact ⟨by omega,q0M rfl (by rw [← e]; exact clU)⟩
   ·obtain rfl:i=vs.length:=by omega
    rw [List.take_length];refine wk ?_;refine q1M (LeM [] rfl rfl (xs:=[(0,pF raw),(1,iv N),(2,iv st),(8,.pt 8 0 0),(9,.pt 9 0 0),(11,.pt 11 0 0),(12,.pt 12 0 0)]) (kv:=[]) (bs:=[(8,⟨26,some 5,[.ag [iv 0,iv 0,q01,q01,q01]],false⟩),(9,⟨28,some 8,[.ag [q01,q01,q01,q01,q01,q01,q01,q01]],false⟩),(11,⟨26,some 5,[.ag [iv N,iv N,pI ms,pI mi,pF vs]],false⟩),(12,⟨26,some 5,[.ag [iv N,iv N,pI ms,pI mi,pF (vs.map q74)]],false⟩)]) (kb:=[]) ?_) ?_
    ·try refine Zz ?_
     exact q1f (T:=43) rfl clU rfl (by simp)
    exact wk trivial
section
variable {raw:List Nat} {n st steps:Int} {w:Bool}
def qmX {R C:Nat} {F:Nat→Nat→Option Nat} {f:LUt} {b:List Nat} {steps:Int} (hm:TOk F R C) (hb:LUb f) (hn:f.rows.length≤20) (hu:∀ v ∈ b,v < 18446744073709551616) (hl:b.length≤1000000) (hs1 : -9223372036854775808≤steps) (hs2:steps≤9223372036854775807):∃ (x l:List Nat) (e:Int),(x.length≤1000000∧l.length≤1000000)∧ACt 16 [pT R C F,pLU f,pF b,iv steps] (.tu [pF x,pF l,iv e])∧ACt 42 [pT R C F,pLU f,pF b,iv steps] (.tu [pF x,pF l,iv e]):=by
 have hl2:=q45 (R:=R) (C:=C) (F:=F) (steps:=steps) (dbl:=false) hb hu hm.c;exact ⟨_,_,_,⟨by rw [List.length_map]; omega,by omega⟩,q4e hm hb hn hu hl hs1 hs2,qcI hm hb hn hu hl hs1 hs2⟩
def qfh {R C:Nat} {F:Nat→Nat→Option Nat} {f:LUt} {b:List Nat} {steps:Int} (hm:TOk F R C) (hb:LUb f) (hn:f.rows.length≤20) (hu:∀ v ∈ b,v < 18446744073709551616) (hl:b.length≤1000000) (hs1 : -9223372036854775808≤steps) (hs2:steps≤9223372036854775807):∃ (x:List (Nat × Nat)) (l:List Nat) (e:Int),(x.length≤1000∧l.length≤1000000)∧ACt 35 [pT R C F,pLU f,pF b,iv steps] (.tu [pP x,pF l,iv e])∧ACt 40 [pT R C F,pLU f,pF b,iv steps] (.tu [pP x,pF l,iv e]):=by
 have hl2:=q45 (R:=R) (C:=C) (F:=F) (steps:=steps) (dbl:=true) hb hu hm.c;exact ⟨_,_,_,⟨by omega,by omega⟩,q6C hm hb hn hu hl hs1 hs2,q9Q hm hb hn hu hl hs1 hs2⟩
end
section
variable {C:Nat} {F:Nat→Nat→Option Nat} {f:LUt} {b:List Nat}
def qdF (l:List Nat):Prop:=(∀ v ∈ l,v < 9223372036854775808∧q0G v)∧∀ (k u v:Nat),l[k]?=some u→l[k+1]?=some v→2*ofZ v≤ofZ u
def qdF.snoc {l:List Nat} {a v:Nat} (h:qdF (l ++ [a])) (hv:v < 9223372036854775808∧q0G v) (h2:2*ofZ v≤ofZ a):qdF (l ++ [a] ++ [v]):=by
 refine ⟨fun x hx=>?_,fun k u w hu hw=>?_⟩
 ·rcases List.mem_append.1 hx with hx | hx
  ·exact h.1 x hx
  ·simp at hx; subst hx; exact hv
 ·by_cases hk:k+1 < (l ++ [a]).length
  ·rw [List.getElem?_append_left (by omega)] at hu;rw [List.getElem?_append_left hk] at hw;exact h.2 k u w hu hw
  ·have hk2:=(List.getElem?_eq_some_iff.1 hw).1;simp at hk hk2;obtain rfl:k=l.length:=by omega
   rw [List.getElem?_append_left (by simp),List.getElem?_append_right (Nat.le_refl _),Nat.sub_self] at hu;rw [List.getElem?_append_right (by simp),show l.length+1-(l ++ [a]).length=0 by simp] at hw;cases hu; cases hw; exact h2
def RefG (C:Nat) (F:Nat→Nat→Option Nat) (b:List Nat) (q:List (Nat × Nat) × List Nat × Int):Prop:=q.2.2=0→q.1.length=C∧(∀ p ∈ q.1,(p.1 < 18446744073709551616∧q0G p.1)∧p.2=0)∧q1E (rdL F q.1 b C C)∧qdF q.2.1∧∃ l,q.2.1=l ++ [q0b (rdL F q.1 b C C) C]
def chL_0 {x:List (Nat × Nat)} {d:List Nat} {n:Nat}:∀ p ∈ chL false x d n,p.2=0:=fun p hp=>by
 obtain ⟨j,_,rfl⟩:=List.mem_map.1 hp
 rfl
def qrj:∀ (k:Nat) (x:List (Nat × Nat)) (r l:List Nat),r=rdL F x b C C→x.length=C→(∀ p ∈ x,(p.1 < 18446744073709551616∧q0G p.1)∧p.2=0)→q1E r→qdF (l ++ [q0b r C])→RefG C F b (rfL C F f b false k x r (l ++ [q0b r C]))
 | 0,x,r,l,hr,h1,h2,h3,h4=>fun _=>⟨h1,h2,hr ▸ h3,h4,l,by rw [hr]; rfl⟩
 | k+1,x,r,l,hr,h1,h2,h3,h4=>by
  rw [rfL]
  by_cases c1:q0b r C=0
  ·rw [if_pos c1]; exact fun _=>⟨h1,h2,hr ▸ h3,h4,l,by rw [hr]⟩
  rw [if_neg c1]
  by_cases c2:(lgE f r).2≠0
  ·rw [if_pos c2]; exact fun h=>(c2 h).elim
  rw [if_neg c2]
  by_cases c3:¬ ∀ p ∈ chL false x (lgE f r).1 C,q0G p.1
  ·rw [if_pos c3]; exact fun h=>by cases h
  rw [if_neg c3]
  by_cases c4:¬ ∀ v ∈ rdL F (chL false x (lgE f r).1 C) b C C,q0G v
  ·rw [if_pos c4]; exact fun h=>by cases h
  rw [if_neg c4]
  by_cases c5:ofZ (q0b r C) < 2*ofZ (q0b (rdL F (chL false x (lgE f r).1 C) b C C) C)
  ·rw [if_pos c5]; exact fun _=>⟨h1,h2,hr ▸ h3,h4,l,by rw [hr]⟩
  rw [if_neg c5];have hfin:q1E (rdL F (chL false x (lgE f r).1 C) b C C):=fun v hv=>⟨q99 v hv,Classical.not_not.1 c4 v hv⟩;have hsz:=q65 hfin;rw [q3V] at hsz;refine qrj k _ _ (l ++ [q0b r C]) rfl q6J (fun p hp=>⟨⟨(q7k (Classical.not_not.1 c3) p hp).1.1,Classical.not_not.1 c3 p hp⟩,chL_0 p hp⟩) hfin (h4.snoc hsz Oq)
def rfS_G {R:Nat} {steps:Int} (hb:LUb f) (hu:∀ v ∈ b,v < 18446744073709551616):RefG C F b (rfS C F f b false R steps):=by
 unfold rfS
 by_cases c1:rfR R C f steps≠0
 ·rw [if_pos c1]; exact fun h=>(c1 h).elim
 rw [if_neg c1];obtain ⟨_,_,hC,_,_⟩:=qeN (Classical.not_not.1 c1)
 by_cases c2:(lgE f b).2≠0
 ·rw [if_pos c2]; exact fun h=>(c2 h).elim
 rw [if_neg c2];obtain ⟨_,_,_,e1,e2⟩:=q4s hb hu (Classical.not_not.1 c2)
 by_cases c3:¬ ∀ v ∈ rdL F ((lgE f b).1.map fun v=>(v,0)) b C C,q0G v
 ·rw [if_pos c3]; exact fun h=>by cases h
 rw [if_neg c3];have hfin:q1E (rdL F ((lgE f b).1.map fun v=>(v,0)) b C C):=fun v hv=>⟨q99 v hv,Classical.not_not.1 c3 v hv⟩;have hsz:=q65 hfin;rw [q3V] at hsz;have hH:qdF ([] ++ [q0b (rdL F ((lgE f b).1.map fun v=>(v,0)) b C C) C]):=⟨fun x hx=>by simp at hx; subst hx; exact hsz,fun k u v hu hv=>by simp at hv⟩;exact qrj _ _ _ [] rfl (by rw [List.length_map]; omega) (fun p hp=>by
  obtain ⟨v,hv,rfl⟩:=List.mem_map.1 hp;exact ⟨e2 v hv,rfl⟩) hfin hH
end
def hpL (f:Nat→Nat→Option Nat) (x b:List Nat) (r:Nat):Nat→List Int
 | 0=>[ofZ (b.getD r 0)]
 | j+1=>hpL f x b r j ++ [-(q10 ((f j r).getD 0) (x.getD j 0))]
section
variable {f:Nat→Nat→Option Nat} {x b:List Nat} {r C:Nat}
def qmk {v:Nat}:q10 v 0=0:=by
 unfold q10;rw [show ofZ 0=0 from q0W q16,Int.mul_zero,q1N]
 rfl
def qfC:∀ j,(hpL f x b r j).length=j+1
 | 0=>rfl
 | j+1=>by rw [hpL,List.length_append,qfC j]; rfl
def qfB {q:List (Nat × Nat)} (h:∀ p ∈ q,p.2=0):∀ j,j≤q.length→q1U (hpL f (q.map (·.1)) b r j)=rdZ f q b j r
 | 0,_=>by unfold hpL rdZ; rw [q5J,sg]; omega
 | j+1,hj=>by
  rw [hpL,q1b,qfB h j (by omega)];obtain ⟨p,hp⟩:∃ p,q[j]?=some p:=⟨_,List.getElem?_eq_getElem Oq⟩;have h1:q.getD j (0,0)=p:=by rw [List.getD_eq_getElem?_getD,hp]; rfl
  have h2:(q.map (·.1)).getD j 0=p.1:=by rw [List.getD_eq_getElem?_getD,List.getElem?_map,hp]; rfl
  unfold rdZ;rw [sg,h1,h2];unfold q6h;rw [h p (List.mem_of_getElem? hp),qmk];omega
def qka {R:Nat} (hx:q1E x) (hxl:x.length=C) (h:TOk f R C) (hr:r < R) (hb:q1E b):∀ j,j≤C→∀ z ∈ hpL f x b r j,bl z.natAbs≤67600
 | 0,_,z,hz=>by unfold hpL at hz; simp at hz; subst hz; exact q0u (q2j hb).2
 | j+1,hj,z,hz=>by
  unfold hpL at hz
  rcases List.mem_append.1 hz with hz | hz
  ·exact qka hx hxl h hr hb j Oq z hz
  ·have hv:=h.fin (j:=j) (i:=r) Oq hr;simp at hz;subst hz;rw [Int.natAbs_neg];exact (q0k hv.1 (q2j hx).2).2
end
section
variable {raw:List Nat} {n st:Int} {w:Bool}
def q5i (hr:raw.length≤9223372036854775807) (h1 : -9223372036854775808≤n) (h2:n≤9223372036854775807) (h3 : -9223372036854775808≤st) (h4:st≤9223372036854775807) :
  ACt 3 [pF raw,iv n,iv st,bv w] (bv true):=by
 have cA:=q2m;have cP:=q5Q (w:=w) hr h1 h2 h3 h4;have hN:q04 n 5 < 5:=by unfold q04; omega
 generalize q04 n 5=N at *;have hm:=qbE (raw:=raw) (N:=N) (st:=st) Oq;obtain ⟨hb,hbr⟩:=qhV (raw:=raw) (N:=N) (st:=st) (w:=w) Oq;have hv:=q2P (raw:=raw) (k:=30) (st:=q04 st 4) (n:=N);have hvl:=q1k (raw:=raw) (k:=30) (st:=q04 st 4) (n:=N);generalize pcG raw N st=F at *;generalize pcL raw N st w=f at *;generalize q6R raw 30 (q04 st 4) N=b at *;have hu:=fun v hx=>(hv v hx).1;have C1:=q4e (steps:=6) hm hb Oq hu Oq Oq Oq;have hG:=rfS_G (C:=N) (F:=F) (R:=N) (steps:=6) hb hu;have hl1:=(q45 (R:=N) (C:=N) (F:=F) (steps:=6) (dbl:=false) hb hu hm.c);generalize rfS N F f b false N 6=X at *;obtain ⟨q,l,e⟩:=X;unfold rfH at C1;dsimp only at C1 hl1;have cA2:∀ {i j:Nat},i < N→j < N→_:=fun {i j} hi hj=>qai (i:=i) (j:=j) hm hi hj;have hfi:∀ {i j:Nat},i < N→j < N→_:=fun {i j} hi hj=>hm.fin (j:=j) (i:=i) hj hi
 by_cases he:e=0
 rotate_left
 ·have q:(e != 0)=true:=by simpa using he
  unfold pT q1n pLU at *;refine ac0 Tryz.func3 Tryz.ntmps3 [.tmp 8] ?_;exact wk1 q trivial
 subst he;obtain ⟨g1,g2,g3,⟨g4,g5⟩,l0,g6⟩:=hG rfl;dsimp only at g1 g2 g3 g4 g5 g6;have hx1:q1E (q.map (·.1)):=fun v hv=>by
  obtain ⟨p,hp,rfl⟩:=List.mem_map.1 hv;exact (g2 p hp).1
 have hx2:(q.map (·.1)).length=N:=by rw [List.length_map]; exact g1
 have hsm:=fun r=>qfB (f:=F) (b:=b) (r:=r) (fun p hp=>(g2 p hp).2) N Oq;have hbd:=fun r (hr:r < N)=>qka (f:=F) (b:=b) (r:=r) hx1 hx2 hm hr hv;have hln:=fun r j=>qfC (f:=F) (x:=q.map (·.1)) (b:=b) (r:=r) j;have hst:=fun r j=>show hpL F (q.map (·.1)) b r (j+1)=hpL F (q.map (·.1)) b r j ++ [-(q10 ((F j r).getD 0) ((q.map (·.1)).getD j 0))] from rfl;have hs0:=fun r=>show hpL F (q.map (·.1)) b r 0=[ofZ (b.getD r 0)] from rfl;have hrg:=fun i (hi:i < N)=>show (rdL F q b N N)[i]?=some (fR 0 (rdZ F q b N i)) by unfold rdL; rw [List.getElem?_map,List.getElem?_range hi]; rfl
 have hsz0:q0b (rdL F q b N N) 0=0:=rfl;have hszs:=fun i v h=>q5c (l:=rdL F q b N N) (i:=i) (x:=v) h;have hszk:=q5d g3;rw [q3V] at hszk;generalize (q.map (·.1))=x at *;generalize rdZ F q b N=Z at *;generalize hpL F x b=P at *;generalize rdL F q b N N=RD at *;have hlen:l.length=l0.length+1:=by rw [g6]; simp
 have hlast:l[l0.length]?=some (q0b RD N):=by rw [g6,List.getElem?_append_right (Nat.le_refl _),Nat.sub_self]; rfl
 unfold pT q1n pLU at *;generalize (tM F N N).1=ms at *;generalize (tM F N N).2.1=mi at *;generalize (tM F N N).2.2=mv at *;have k1:¬ (l.length:Int) < 1:=by omega
 have k2:((N:Int) != (N:Int))=false:=by simp
 refine ac0 Tryz.func3 Tryz.ntmps3 [.tmp 8] ?_;refine wk1 (x4 k1 k2 hx2 hvl) ?_;refine q0A (fun t=>t≤l0.length) [9,11,12,13] [9] Lk Lk (fun t:Nat=>[(15,iv ((t+1:Nat):Int))]) (fun _=>[]) (fun t=>l0.length-t) 0 (Nat.zero_le _) ?_ ?_
 ·refine LeM [] rfl rfl ?_;refine Zz ?_
  rfl
 ·intro t ht
  by_cases hlt:t < l0.length
  ·have hq:((t+1:Nat):Int) < (l.length:Int):=by omega
   have ek:((t+1:Nat):Int)-1=(t:Int):=by omega
   obtain ⟨u,hu1⟩:∃ u,l[t]?=some u:=⟨_,List.getElem?_eq_getElem Oq⟩;obtain ⟨v,hv1⟩:∃ v,l[t+1]?=some v:=⟨_,List.getElem?_eq_getElem Oq⟩;have g4u:=g4 u (List.mem_of_getElem? hu1);have g4v:=g4 v (List.mem_of_getElem? hv1);have hle:=g5 t u v hu1 hv1;have o1:=q0h (x:=u) Oq (q0N g4u.2);have o2:=q0h (x:=v) Oq (q0N g4v.2);have sc:=q7P (V:=ofZ v) (j:=1) Oq Oq (qmp (by have:=bl_2 (q0u g4v.2); unfold q00; omega));have lc:=qbY (A:=ofZ u) (B:=2*ofZ v);rw [decide_eq_false (by omega)] at lc;have wt:IntKind.i64.wrap (((t+1:Nat):Int)+1)=((t+1+1:Nat):Int):=by rw [i64_in (by omega) (by omega)]; omega
   refine wk1 (x5 hq ek hu1 hv1 wt) ?_;refine ⟨t+1,by omega,by omega,?_⟩;refine LeM [] rfl rfl ?_;exact Zy
  ·obtain rfl:t=l0.length:=by omega
   have hq:¬ ((l0.length+1:Nat):Int) < (l.length:Int):=by omega
   refine wk1 hq ?_;refine q0A (fun i=>i≤N) [9,11,12,13] [9] Lk Lk (fun i:Nat=>[(17,iv i),(16,uv (q0b RD i:Nat))]) (fun _=>[]) (fun i=>N-i) 0 (Nat.zero_le _) ?_ ?_
   ·refine LeM [] rfl rfl ?_;refine Zz ?_;rw [hsz0];exact ⟨rfl,rfl⟩
   ·intro i hi
    by_cases hlt2:i < N
    ·have hli:(i:Int) < N:=by omega
     obtain ⟨y,hy⟩:∃ y,b[i]?=some y:=⟨_,List.getElem?_eq_getElem Oq⟩;obtain ⟨u1,u2⟩:=hv y (List.mem_of_getElem? hy);have o1:=q0h u1 (q0N u2);have h0:=hs0 i;rw [getD_some hy] at h0;refine wk1 (x3 hli hvl hy) ?_;refine q0A (fun j=>j≤N) [9,11,12,13,16,17] [9] Lk Lk (fun j:Nat=>[(19,iv j),(18,.ow 1002 (some 4) 0 (j+1))]) (fun j=>[(1002,⟨40,some 4,(P i j).map fun V=>pV V,false⟩)]) (fun j=>N-j) 0 (Nat.zero_le _) ?_ ?_
     ·refine LeM [(1002,some 80)] rfl rfl ?_;refine Zz ?_;rw [h0];exact ⟨rfl,q0M rfl clV⟩
     ·intro j hj;have hlj:=hln i j
      by_cases hlt3:j < N
      ·have hljj:(j:Int) < N:=by omega
       obtain ⟨p,hp⟩:∃ p,x[j]?=some p:=⟨_,List.getElem?_eq_getElem Oq⟩;obtain ⟨p1,p2⟩:=hx1 p (List.mem_of_getElem? hp);have c2:=cA2 hlt2 hlt3;obtain ⟨v2,v1⟩:=hfi hlt2 hlt3;have hs:=hst i j;rw [getD_some hp] at hs;generalize (F j i).getD 0=v at *;have o2:=q0h v1 (q0N v2);have o3:=q0h p1 (q0N p2);have c3:=q7U (q0k v2 p2).1;have c5:=@q4h;refine wk1 (x4 hljj hx2 hp hlj) ?_;refine ⟨j+1,by omega,by omega,?_⟩;rw [hs];refine LeM [(1002,some 101)] rfl rfl ?_;refine Zz ?_;exact ⟨by omega,q0M (by rw [List.map_append]; rfl) clV⟩
      ·obtain rfl:j=N:=by omega
       have hljj:¬ (j:Int) < j:=by omega
       have hd:=q4p (hbd i hlt2 j (Nat.le_refl _)) Oq;have c2:=q6E (l:=P i j) Oq hd;rw [hsm i] at c2;have nn:=qdO (V:=Z i);have c3:=q3q (V:=Z i) (mode:=0);have hgi:=hrg i hlt2;have hgf:=g3 _ (List.mem_of_getElem? hgi);have hss:=hszs i _ hgi;generalize fR 0 (Z i)=y2 at *;have c4:=q9b hgf.1 hgf.2;have hk:=hszk i Oq;refine wk1 (x3 hljj hx2 hlj) ?_;refine ⟨i+1,by omega,by omega,?_⟩;rw [hss];refine LeM [] rfl rfl ?_;refine Zz ?_;exact ⟨by omega,by omega⟩
    ·obtain rfl:i=N:=by omega
     have hli:¬ (i:Int) < i:=by omega
     have ek:((l.length:Nat):Int)-1=(l0.length:Int):=by omega
     have r1:(((q0b RD i:Nat):Int) == ((q0b RD i:Nat):Int))=true:=by simp
     exact wk1 (x5 hli hvl ek hlast r1) trivial
end
end Go.Proofs.YtfmojhhokfkdaaaGreatDoor
