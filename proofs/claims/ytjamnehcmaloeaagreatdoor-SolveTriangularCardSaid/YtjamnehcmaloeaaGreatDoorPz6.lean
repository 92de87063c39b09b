/- SolveTriangular, the statement of that name about the given program, is proved: for every input the law SolveTriangular answers true and does not panic. Part 6 of 6: V4, V5, V6, V7, V8, V9, V10, V11, V12, T37, G5, T38, L7, L4, T39, V13, Lr, Et, EtC. -/
import Derived.SevenTiedAt
import Derived.Test.YtjamnehcmaloeaaGreatDoorCards
import Derived.Test.YtjamnehcmaloeaaGreatDoorTie
import Derived.Test.YtjamnehcmaloeaaGreatDoorPz5
set_option linter.unusedSimpArgs false
set_option linter.unusedVariables false
set_option maxRecDepth 20000
set_option maxHeartbeats 2000000
namespace Go.Proofs.YtjamnehcmaloeaaGreatDoor
open Go Go.E Go.Sp
noncomputable def loV (L:List (List Nat)) (b ys:List Nat) (k:Nat):Nat:=fQ 0 (q1O (q6I (ofZ (b.getD k 0)) ((L.getD k []).take k) (ys.take k) k)) (ofZ ((L.getD k []).getD k 0))
noncomputable def loF (L:List (List Nat)) (b:List Nat):Nat→Nat→List Nat→Option (List Nat)
 | 0,_,ys=>some ys
 | m+1,k,ys=>if q0a (loV L b ys k) then loF L b m (k+1) (ys.set k (loV L b ys k)) else none
noncomputable def upV (U:List (List Nat)) (b ys:List Nat) (n k:Nat):Nat:=fQ 0 (q1O (q6I (ofZ (b.getD k 0)) ((U.getD k []).drop (k+1)) (ys.drop (k+1)) (n-(k+1)))) (ofZ ((U.getD k []).getD k 0))
noncomputable def upF (U:List (List Nat)) (b:List Nat) (n:Nat):Nat→List Nat→Option (List Nat)
 | 0,ys=>some ys
 | k+1,ys=>if q0a (upV U b ys n k) then upF U b n k (ys.set k (upV U b ys n k)) else none
theorem q7R {l:List Nat} {k v:Nat} (h:q38 l) (h1:v < 18446744073709551616) (h2:q0a v):q38 (l.set k v):=fun x hx=>by
 rcases List.mem_or_eq_of_mem_set hx with h3 | rfl
 ·exact h x h3
 ·exact ⟨h1,h2⟩
theorem q8Q {l:List Nat} {k:Nat} (h:q38 l):q38 (l.take k):=fun x hx=>h x (List.mem_of_mem_take hx)
theorem q8R {l:List Nat} {k:Nat} (h:q38 l):q38 (l.drop k):=fun x hx=>h x (List.mem_of_mem_drop hx)
theorem q7S {n:Nat}:q38 (List.replicate n 0):=fun x hx=>by
 rw [List.eq_of_mem_replicate hx];exact ⟨by omega,by unfold q0a; simp⟩
structure SqM (L:List (List Nat)) (n:Nat):Prop where
 len:L.length=n
 row:∀ r ∈ L,r.length=n∧q38 r
 dg:∀ k,k < n→ofZ ((L.getD k []).getD k 0)≠0
theorem qc3 {pm cp ri:List Int} {vs l:List Nat} {n:Nat} {L:List (List Nat)} (hL:SqM L n) (hn:l.length=n) (hn2:n≤200) (hl:q38 l) (hcp:pm.length=n)
  (cK:ACt 74 [q2I (pm,cp,ri,vs)] (iv 0)) (cD:ACt 75 [q2I (pm,cp,ri,vs)] (pFF L)) :
  ACt 33 [q2I (pm,cp,ri,vs),pF l] (fwP (loF L l n 0 (List.replicate n 0))):=by
 have cS:=q5B (e:=0) (n:=n) (l:=l) (fun x hx=>(hl x hx).1) (by omega);have e0:q4n 0 n l=0:=by
  unfold q4n;rw [if_neg (by omega),if_neg (by omega),if_neg (not_not_intro fun x hx=>(hl x hx).2)]
 rw [e0] at cS;obtain ⟨res,hres⟩:∃ res,res=loF L l n 0 (List.replicate n 0):=⟨_,rfl⟩;rw [← hres];have hLl:=hL.len;unfold q2I at *;dsimp only at *;refine ac0 Tryz.func33 Tryz.ntmps33 [.tmp 4,.tmp 5] ?_;refine wk1 (x2 hcp hn) ?_;refine q0L (fun q:Nat × List Nat=>q.1≤n∧q.2.length=n∧q38 q.2∧loF L l (n-q.1) q.1 q.2=res) [1,2,7] [2] Lk Lk (fun q=>[(9,iv q.1),(8,.ow 1001 none 0 n)]) (fun q=>[(1001,⟨40,none,q.2.map fun z:Nat=>uv z,false⟩)]) (fun q=>n-q.1) (0,List.replicate n 0) ⟨Nat.zero_le _,by simp,q7S,hres.symm⟩ ?_ ?_
 ·refine LeM [(1001,some 24)] rfl rfl ?_;refine Zz ?_
  rfl
 ·rintro ⟨k,ys⟩ ⟨hk,hy,hfy,hv⟩;simp only at hk hy hfy hv ⊢
  by_cases hlt:k < n
  ·obtain ⟨u,hu⟩:∃ u,l[k]?=some u:=⟨_,List.getElem?_eq_getElem (by omega)⟩;obtain ⟨r,hr⟩:∃ r,L[k]?=some r:=⟨_,List.getElem?_eq_getElem (by omega)⟩;obtain ⟨hrn,hrf⟩:=hL.row r (List.mem_of_getElem? hr);obtain ⟨d,hd⟩:∃ d,r[k]?=some d:=⟨_,List.getElem?_eq_getElem (by omega)⟩;obtain ⟨u1,u2⟩:=hl u (List.mem_of_getElem? hu);obtain ⟨d1,d2⟩:=hrf d (List.mem_of_getElem? hd);have hdz:ofZ d≠0:=by
    have:=hL.dg k hlt
    rwa [getD_some hr,getD_some hd] at this
   obtain ⟨S,hS⟩:∃ S,S=q1O (q6I (ofZ u) (r.take k) (ys.take k) k):=⟨_,rfl⟩;have hvk:loV L l ys k=fQ 0 S (ofZ d):=by unfold loV; rw [getD_some hr,getD_some hd,getD_some hu,← hS]
   rw [show n-k=(n-(k+1))+1 by omega,loF,hvk] at hv;have hrl:(r.take k).length=k:=by rw [List.length_take]; omega
   have cR:=q9m (B:=ofZ u) (l:=r.take k) (x:=ys.take k) (q5o u2) (q8Q hrf) (q8Q hfy) (by rw [hrl,List.length_take]; omega) (by omega);rw [hrl,← hS] at cR;unfold pF at cR;rw [List.map_take,List.map_take] at cR;have cZ:=qqu (V:=S);have cO1:=q3f u1 (q0m u2);have cO2:=q3f d1 (q0m d2);have cQ:=q8k (q9C (A:=S) (mode:=0) hdz);have hqlt:fQ 0 S (ofZ d) < 18446744073709551616:=qey hdz;generalize fQ 0 S (ofZ d)=v at *;have cF:=q4c hqlt;have es1:slP (some 1) none (some (iv (k:Int))) (pF r)=some (.sl none ((r.map fun z:Nat=>uv z).take k)):=by
    simp [slP,qcX,ksz];omega
   have es2:slP (some 1) none (some (iv (k:Int))) (.ow 1001 none 0 n)=some (.ow 1001 none 0 k):=by
    simp [slP,qcX,ksz];omega
   have hset:((ys.map fun z:Nat=>uv z).set k (uv (v:Nat)))[k]?=some (uv (v:Nat)):=List.getElem?_set_self (by rw [List.length_map]; omega)
   by_cases hfx:q0a v
   ·rw [decide_eq_true hfx] at cF;rw [if_pos hfx] at hv;refine wk1 (x6 hu hr hd es1 es2 (x4 hy hLl hset hn)) ?_;refine ⟨(k+1,ys.set k v),⟨by simp only; omega,by simp only; rw [List.length_set]; exact hy,q7R hfy hqlt hfx,hv⟩,by simp only; omega,?_⟩;simp only;refine LeM [] rfl rfl ?_;refine Zz ?_
    rfl
   ·rw [decide_eq_false hfx] at cF;rw [if_neg hfx] at hv;subst hv;rw [show fwP none=.tu [pF [],iv 233] from rfl];exact wk1 (x6 hu hr hd es1 es2 (x3 hy hLl hset)) trivial
  ·obtain rfl:k=n:=by omega
   rw [Nat.sub_self,loF] at hv;subst hv;rw [show fwP (some ys)=.tu [pF ys,iv 0] from rfl];exact wk1 hn trivial
theorem qc1 {pm cp ri:List Int} {vs l:List Nat} {n:Nat} {L U:List (List Nat)} (hU:SqM U n) (hn:l.length=n) (hn2:n≤200) (hl:q38 l) (hcp:pm.length=n)
  (cK:ACt 74 [q2I (pm,cp,ri,vs)] (iv 0)) (cD:ACt 75 [q2I (pm,cp,ri,vs)] (pFF L)) (cT:ACt 79 [pFF L] (pFF U)) :
  ACt 35 [q2I (pm,cp,ri,vs),pF l] (fwP (upF U l n n (List.replicate n 0))):=by
 have cS:=q5B (e:=0) (n:=n) (l:=l) (fun x hx=>(hl x hx).1) (by omega);have e0:q4n 0 n l=0:=by
  unfold q4n;rw [if_neg (by omega),if_neg (by omega),if_neg (not_not_intro fun x hx=>(hl x hx).2)]
 rw [e0] at cS;obtain ⟨res,hres⟩:∃ res,res=upF U l n n (List.replicate n 0):=⟨_,rfl⟩;rw [← hres];have hUl:=hU.len;unfold q2I at *;dsimp only at *;refine ac0 Tryz.func35 Tryz.ntmps35 [.tmp 4,.tmp 5] ?_;refine wk1 (x2 hcp hn) ?_;refine q0L (fun q:Nat × List Nat=>q.1≤n∧q.2.length=n∧q38 q.2∧upF U l n q.1 q.2=res) [1,2,7] [2] Lk Lk (fun q=>[(9,iv ((q.1:Int)-1)),(8,.ow 1001 none 0 n)]) (fun q=>[(1001,⟨40,none,q.2.map fun z:Nat=>uv z,false⟩)]) (fun q=>q.1) (n,List.replicate n 0) ⟨Nat.le_refl _,by simp,q7S,hres.symm⟩ ?_ ?_
 ·refine LeM [(1001,some 25)] rfl rfl ?_;exact Zy
 ·rintro ⟨k,ys⟩ ⟨hk,hy,hfy,hv⟩;simp only at hk hy hfy hv ⊢
  by_cases hlt:k=0
  ·subst hlt;rw [upF] at hv;subst hv;rw [show fwP (some ys)=.tu [pF ys,iv 0] from rfl];exact wk1 hn trivial
  ·obtain ⟨k,rfl⟩:∃ k',k=k'+1:=⟨k-1,by omega⟩;obtain ⟨u,hu⟩:∃ u,l[k]?=some u:=⟨_,List.getElem?_eq_getElem (by omega)⟩;obtain ⟨r,hr⟩:∃ r,U[k]?=some r:=⟨_,List.getElem?_eq_getElem (by omega)⟩;obtain ⟨hrn,hrf⟩:=hU.row r (List.mem_of_getElem? hr);obtain ⟨d,hd⟩:∃ d,r[k]?=some d:=⟨_,List.getElem?_eq_getElem (by omega)⟩;obtain ⟨u1,u2⟩:=hl u (List.mem_of_getElem? hu);obtain ⟨d1,d2⟩:=hrf d (List.mem_of_getElem? hd);have hdz:ofZ d≠0:=by
    have:=hU.dg k (by omega)
    rwa [getD_some hr,getD_some hd] at this
   obtain ⟨S,hS⟩:∃ S,S=q1O (q6I (ofZ u) (r.drop (k+1)) (ys.drop (k+1)) (n-(k+1))):=⟨_,rfl⟩;have hvk:upV U l ys n k=fQ 0 S (ofZ d):=by unfold upV; rw [getD_some hr,getD_some hd,getD_some hu,← hS]
   rw [upF,hvk] at hv;have hrl:(r.drop (k+1)).length=n-(k+1):=by rw [List.length_drop]; omega
   have cR:=q9m (B:=ofZ u) (l:=r.drop (k+1)) (x:=ys.drop (k+1)) (q5o u2) (q8R hrf) (q8R hfy) (by rw [hrl,List.length_drop]; omega) (by omega);rw [hrl,← hS] at cR;unfold pF at cR;rw [List.map_drop,List.map_drop] at cR;have cZ:=qqu (V:=S);have cO1:=q3f u1 (q0m u2);have cO2:=q3f d1 (q0m d2);have cQ:=q8k (q9C (A:=S) (mode:=0) hdz);have hqlt:fQ 0 S (ofZ d) < 18446744073709551616:=qey hdz;generalize fQ 0 S (ofZ d)=v at *;have cF:=q4c hqlt;have ek:((k+1:Nat):Int)-1=(k:Int):=by omega
   have wj:(k:Int)+1=((k+1:Nat):Int):=rfl;have ww:IntKind.i64.wrap ((k+1:Nat):Int)=((k+1:Nat):Int):=i64_in (by omega) (by omega);have sl1:∀ m:Nat,m≤n→slP (some 1) (some (iv (m:Int))) none (pF r)=some (.sl none ((r.map fun z:Nat=>uv z).drop m)):=fun m hm=>by
    simp [slP,qcX,ksz];exact ⟨by omega,by rw [List.take_of_length_le (by rw [List.length_map]; omega)]⟩
   have sl2:∀ m:Nat,m≤n→slP (some 1) (some (iv (m:Int))) none (.ow 1001 none 0 n)=some (.ow 1001 none m (n-m)):=fun m hm=>by
    simp [slP,qcX,ksz];omega
   have htk:((ys.map fun z:Nat=>uv z).drop (k+1)).take (n-(k+1))=(ys.map fun z:Nat=>uv z).drop (k+1):=List.take_of_length_le (by rw [List.length_drop,List.length_map]; omega);have es1:=sl1 (k+1) hk;have es2:=sl2 (k+1) hk;have hset:((ys.map fun z:Nat=>uv z).set k (uv (v:Nat)))[k]?=some (uv (v:Nat)):=List.getElem?_set_self (by rw [List.length_map]; omega)
   by_cases hfx:q0a v
   ·rw [decide_eq_true hfx] at cF;rw [if_pos hfx] at hv;refine wk1 (x6 ek wj ww htk hu (x6 hr hd es1 es2 hUl hset)) ?_;refine ⟨(k,ys.set k v),⟨by simp only; omega,by simp only; rw [List.length_set]; exact hy,q7R hfy hqlt hfx,hv⟩,by simp only; omega,?_⟩;simp only;refine LeM [] rfl rfl ?_;exact Zy
   ·rw [decide_eq_false hfx] at cF;rw [if_neg hfx] at hv;subst hv;rw [show fwP none=.tu [pF [],iv 233] from rfl];exact wk1 (x6 ek wj ww htk hu (x6 hr hd es1 es2 hUl hset)) trivial
theorem q49 {n m i:Nat} {g:Nat→Nat} (hi:i < n):(rwG n g m)[i]?=some (if i < m then g i else 0):=by
 unfold rwG;rw [List.getElem?_map,List.getElem?_range hi]; rfl
theorem q7W {f:Fac} {n k:Nat} (hk:k < n):(q5X f n n)[k]?=some (rwG n (elF f k) (k+1)):=by
 unfold q5X;rw [List.getElem?_map,List.getElem?_range hk]; rfl
theorem q7q {α:Type} {l:List α} {k i:Nat} {d:α} (hi:i < k):(l.take k).getD i d=l.getD i d:=by
 rw [List.getD_eq_getElem?_getD,List.getD_eq_getElem?_getD,List.getElem?_take,if_pos hi]
theorem qdZ {f:Fac} {b ys:List Nat} {n k:Nat} (hk:k < n):∀ m,m≤k→q6I (ofZ (b.getD k 0)) ((rwG n (elF f k) (k+1)).take k) (ys.take k) m=qgM f b ys k m
 | 0,_=>rfl
 | m+1,hm=>by
  rw [q6I,qgM,qdZ hk m (by omega),q7q (by omega),q7q (by omega),getD_some (q49 (by omega)),if_pos (by omega)]
theorem qmW {f:Fac} {b ys:List Nat} {n k:Nat} (hk:k < n):loV (q5X f n n) b ys k=fQ 0 (q1O (qgM f b ys k k)) (ofZ (elF f k k)):=by
 unfold loV;rw [getD_some (q7W hk),qdZ hk k (Nat.le_refl _),getD_some (q49 hk),if_pos (by omega)]
theorem qe8 {f:Fac} {b:List Nat} (ho:FacOk f):∀ (m k:Nat) (rows:List (List Int)) (ys:List Nat),k+m=f.pm.length→rows.length=f.pm.length→ys.length=f.pm.length →
  (∀ i,k≤i→i < f.pm.length→∃ r,rows[i]?=some r∧q1O r=q1O (qgM f b ys i k))→q8h f ((List.range' k m).map fun i:Nat=>(i:Int)) rows ys=loF (q5X f f.pm.length f.pm.length) b m k ys
 | 0,k,rows,ys,_,_,_,_=>by
  simp only [List.range'_zero,List.map_nil]
  rfl
 | m+1,k,rows,ys,hk,hr,hy,h=>by
  obtain ⟨a,e,hcol⟩:=ho.col k (by omega);have hlt:=hcol.lt;have hle:=hcol.le;obtain ⟨r,hr0,hsum⟩:=h k (Nat.le_refl _) (by omega);obtain ⟨x,V,d1,d2,d3⟩:=hcol.diag;have hel:elF f k k=x:=by
   rw [q5x hcol,show e-a=(e-(a+1))+1 by omega,q2d,if_pos hcol.first];exact getD_some d1
  rw [List.range'_succ,List.map_cons,q4N hcol.ha hcol.hb d1 hr0,loF,qmW (by omega),hel,← hsum];obtain ⟨y,hyv⟩:∃ y,y=fQ 0 (q1O r) (ofZ x):=⟨_,rfl⟩;rw [← hyv]
  by_cases hfin:q0a y
  case neg=>rw [if_neg hfin,if_neg hfin]
  rw [if_pos hfin,if_pos hfin];have hset:∀ i,i < k→ys.getD i 0=(ys.set k y).getD i 0:=fun i hi=>by
   rw [List.getD_eq_getElem?_getD,List.getD_eq_getElem?_getD,List.getElem?_set_ne (by omega)]
  have hsk:(ys.set k y).getD k 0=y:=getD_some (List.getElem?_set_self (by omega));refine qe8 ho m (k+1) _ _ (by omega) (by rw [qaC]; exact hr) (by simpa using hy) ?_;intro i hi1 hi2;obtain ⟨ri,h1,h2⟩:=h i (by omega) hi2;obtain ⟨r',h3,h4⟩:=q7t (q:=y) hcol ho.n ho.ril (e-(a+1)) (a+1) rows (by omega) (by omega) (by omega) i ri h1;refine ⟨r',h3,?_⟩;have hel2:elF f i k=q2d f i (a+1) (e-(a+1)):=by
   rw [q5x hcol,show e-a=(e-(a+1))+1 by omega,q2d,if_neg (by rw [hcol.first]; intro e; have:=Option.some.inj e; omega)]
  rw [h4,h2,qgM,q2G,hsk,hel2,← q63 k hset];omega
theorem qrY {f:Fac} {b:List Nat} (ho:FacOk f) (hb:b.length=f.pm.length):q8h f (q7n b.length) (b.map fun x=>[ofZ x]) (List.replicate b.length 0)=loF (q5X f f.pm.length f.pm.length) b f.pm.length 0 (List.replicate f.pm.length 0):=by
 rw [hb,← qe8 (b:=b) ho f.pm.length 0 (b.map fun x=>[ofZ x]) (List.replicate f.pm.length 0) (by omega) (by simpa using hb) (by simp) ?_]
 ·unfold q7n; rw [List.range_eq_range']
 intro i _ hi;obtain ⟨x,hx⟩:∃ x,b[i]?=some x:=⟨_,List.getElem?_eq_getElem (by omega)⟩;refine ⟨[ofZ x],by rw [List.getElem?_map,hx]; rfl,?_⟩;rw [qgM,getD_some hx]
theorem qfS {f:Fac} (ho:FacOk f):SqM (q5X f f.pm.length f.pm.length) f.pm.length:=⟨qao,fun r hr=>by
 obtain ⟨i,hi,rfl⟩:=List.mem_map.1 hr;refine ⟨q5f,fun x hx=>?_⟩;obtain ⟨j,hj,rfl⟩:=List.mem_map.1 hx
 split
 ·obtain ⟨a,b,hc⟩:=ho.col j (List.mem_range.1 hj);rw [q5x hc];exact qcd ho.vals _ _
 ·exact ⟨by omega,by unfold q0a; simp⟩,fun k hk=>by
 rw [getD_some (q7W hk),getD_some (q49 hk),if_pos (by omega)];obtain ⟨a,e,hcol⟩:=ho.col k hk;have hlt:=hcol.lt;obtain ⟨x,V,d1,d2,d3⟩:=hcol.diag;have hel:elF f k k=x:=by
  rw [q5x hcol,show e-a=(e-(a+1))+1 by omega,q2d,if_pos hcol.first];exact getD_some d1
 rw [hel,q0o d2];omega⟩
open Classical in
theorem qba {l:List Nat} (hu:∀ x ∈ l,x < 18446744073709551616) (hn:l.length≤1000000):ACt 86 [pF l] (iv (if ¬ ∀ x ∈ l,q0a x then 4 else 0)):=by
 obtain ⟨res,hres⟩:∃ res:Int,res=if ¬ ∀ x ∈ l,q0a x then 4 else 0:=⟨_,rfl⟩
 rw [← hres];refine ac0 Tryz.func86 Tryz.ntmps86 [.tmp 2] ?_;refine wk ?_;refine q0L (fun i=>i≤l.length∧∀ x ∈ l.take i,q0a x) [0,5,6] [] Lk Lk (fun i:Nat=>[(7,iv i)]) (fun _=>[]) (fun i=>l.length-i) 0 ⟨Nat.zero_le _,by simp⟩ ?_ ?_
 ·refine LeM [] rfl rfl ?_;refine Zz ?_
  rfl
 ·rintro i ⟨hi,hf⟩
  by_cases hil:i < l.length
  ·obtain ⟨x,hx⟩:∃ x,l[i]?=some x:=⟨_,List.getElem?_eq_getElem hil⟩;have hmx:=List.mem_of_getElem? hx;have cF:=q91 (hu x hmx)
   by_cases hfx:q0a x
   case neg =>
    rw [decide_eq_false hfx] at cF;refine wk1 hx ?_;exact (hres.trans (if_pos fun h=>hfx (h x hmx))).symm
   rw [decide_eq_true hfx] at cF;refine wk1 hx ?_;refine ⟨i+1,⟨by omega,?_⟩,by omega,?_⟩
   ·rw [q3z hx];intro y hy
    rcases List.mem_append.1 hy with hy | hy
    ·exact hf y hy
    ·simp at hy; subst hy; exact hfx
   ·refine LeM [] rfl rfl ?_;refine Zz ?_
    rfl
  ·obtain rfl:i=l.length:=by omega
   rw [List.take_length] at hf;refine wk ?_;exact (hres.trans (if_neg (not_not_intro hf))).symm
theorem q7x {pm cp ri:List Int} {vs l:List Nat} (hp:pm.length≤1000000) (hc:cp.length≤1000000) (hr:ri.length≤1000000) (hv:vs.length≤1000000) (hu:∀ x ∈ vs,x < 18446744073709551616) (hul:∀ x ∈ l,x < 18446744073709551616) (hl:l.length≤1000000) :
  ACt 52 [q2I (pm,cp,ri,vs),pF l] (iv (q4n (q3a (pm,cp,ri,vs)) pm.length l)):=by
 have cC:=qaw hp hc hr hv hu;have cF:=qba hul hl;have cV:ACt 94 [pF l,iv pm.length] (iv (q4n 0 pm.length l)):=by
  unfold q4n;rw [if_neg (not_not_intro rfl)];refine ac0 Tryz.func94 Tryz.ntmps94 [.tmp 4] ?_
  by_cases h:l.length=pm.length
  ·have q:((l.length:Int) != (pm.length:Int))=false:=by simp; omega
   rw [if_neg (not_not_intro h)];generalize (if ¬ ∀ x ∈ l,q0a x then (4:Int) else 0)=z at *;exact wk1 q trivial
  ·have q:((l.length:Int) != (pm.length:Int))=true:=by simp; omega
   rw [if_pos h];exact wk1 q trivial
 generalize q3a (pm,cp,ri,vs)=e at *;unfold q2I at *;dsimp only at *
 by_cases h0:e=0
 ·subst h0;generalize q4n 0 pm.length l=z at *;refine ac0 Tryz.func52 Tryz.ntmps52 [.tmp 4] ?_;have q:((0:Int) != 0)=false:=rfl;exact wk1 q trivial
 ·have q:(e != 0)=true:=by simpa using h0
  have hs:q4n e pm.length l=e:=if_pos h0;rw [hs];refine ac0 Tryz.func52 Tryz.ntmps52 [.tmp 4] ?_;exact wk1 q trivial
noncomputable def qlZ (F:List Int × List Int × List Int × List Nat) (l:List Nat):PV :=
 if q4n (q3a F) F.1.length l≠0 then .tu [pF [],iv (q4n (q3a F) F.1.length l)] else fwP (loF (q5X ⟨F.1,F.2.1,F.2.2.1,F.2.2.2⟩ F.1.length F.1.length) l F.1.length 0 (List.replicate F.1.length 0))
theorem qgm {e:Int} {n:Nat} {l:List Nat} (h:q4n e n l=0):e=0∧l.length=n∧∀ x ∈ l,q0a x:=by
 unfold q4n at h
 split at h
 ·exact absurd h (by assumption)
 ·split at h
  ·cases h
  ·split at h
   ·cases h
   ·rename_i h1 h2 h3;exact ⟨Decidable.not_not.1 h1,Decidable.not_not.1 h2,Classical.not_not.1 h3⟩
theorem qdT {pm cp ri:List Int} {vs l:List Nat} (hp:pm.length≤1000000) (hc:cp.length≤1000000) (hr:ri.length≤1000000) (hv:vs.length≤1000000) (hu:∀ x ∈ vs,x < 18446744073709551616) (hul:∀ x ∈ l,x < 18446744073709551616) (hl:l.length≤1000000) :
  ACt 13 [q2I (pm,cp,ri,vs),pF l] (qlZ (pm,cp,ri,vs) l):=by
 by_cases h0:q4n (q3a (pm,cp,ri,vs)) pm.length l=0
 ·obtain ⟨h1,h2,h3⟩:=qgm h0;have ho:=q4O h1 hr hu;have cL:=qa4 hp hc hr hv hu (l:=l) (fun x hx=>⟨hul x hx,h3 x hx⟩) h2;unfold lowR at cL;rw [if_neg (not_not_intro h1)] at cL;have e:=qrY (b:=l) ho h2;dsimp only at e cL;rw [e] at cL;unfold qlZ;rw [if_neg (not_not_intro h0)];exact cL
 ·have cR:=q7x hp hc hr hv hu hul hl;unfold qlZ;dsimp only;rw [if_pos h0];generalize q4n (q3a (pm,cp,ri,vs)) pm.length l=e at *;have q:(e != 0)=true:=by simpa using h0
  unfold q2I at *;dsimp only at *;refine ac0 Tryz.func13 Tryz.ntmps13 [.tmp 4,.tmp 5] ?_;exact wk1 q trivial
theorem qbT {pm cp ri:List Int} {vs l:List Nat} (hp:pm.length≤1000000) (hc:cp.length≤1000000) (hr:ri.length≤1000000) (hv:vs.length≤1000000) (hu:∀ x ∈ vs,x < 18446744073709551616) (hul:∀ x ∈ l,x < 18446744073709551616) (hl:l.length≤1000000) :
  ACt 33 [q2I (pm,cp,ri,vs),pF l] (qlZ (pm,cp,ri,vs) l):=by
 have cK:=qdl hp hc hr hv hu;unfold qlZ;dsimp only
 by_cases h0:q4n (q3a (pm,cp,ri,vs)) pm.length l=0
 ·obtain ⟨h1,h2,h3⟩:=qgm h0;have ho:=q4O h1 hr hu;rw [h1] at cK;rw [if_neg (not_not_intro h0)];exact qc3 (qfS ho) h2 ho.n (fun x hx=>⟨hul x hx,h3 x hx⟩) rfl cK (q7h ho)
 ·rw [if_pos h0];have cS:=q5B (e:=q3a (pm,cp,ri,vs)) (n:=pm.length) hul hl;generalize q4n (q3a (pm,cp,ri,vs)) pm.length l=e at *;generalize q3a (pm,cp,ri,vs)=e2 at *;have q:(e != 0)=true:=by simpa using h0
  unfold q2I at *;dsimp only at *;refine ac0 Tryz.func33 Tryz.ntmps33 [.tmp 4,.tmp 5] ?_;exact wk1 q trivial
theorem q66 {l:List Nat} (hn:l.length≤1000000):ACt 36 [pF l,pF l] (bv true):=by
 have q:((l.length:Int) != (l.length:Int))=false:=by simp
 refine ac0 Tryz.func36 Tryz.ntmps36 [.tmp 4] ?_;refine wk1 q ?_;refine q0L (fun i=>i≤l.length) [0,1] [] Lk Lk (fun i:Nat=>[(5,iv i)]) (fun _=>[]) (fun i=>l.length-i) 0 (Nat.zero_le _) ?_ ?_
 ·refine LeM [] rfl rfl ?_;refine Zz ?_
  rfl
 ·intro i hi
  by_cases hil:i < l.length
  ·obtain ⟨x,hx⟩:∃ x,l[i]?=some x:=⟨_,List.getElem?_eq_getElem hil⟩;have q2:((x:Int) != (x:Int))=false:=by simp
   refine wk1 (x2 hx q2) ?_;refine ⟨i+1,by omega,by omega,?_⟩;refine LeM [] rfl rfl ?_;refine Zz ?_
   rfl
  ·exact wk trivial
end Go.Proofs.YtjamnehcmaloeaaGreatDoor
namespace Go.E
open Go Go.RowKit
theorem LeO {J:Nat→Prop} {h:Hp} {a n:Nat} {T:TypeId} {xs:List PV} (hJ:∀ i,¬ J i) (hb:h a=some ⟨T,none,xs,false⟩) (hc:ClL xs):Le J (fun _=>.ow a none 0 n) h (fun _=>.ow 5000 none 0 n) (q0j h0 5000 ⟨T,none,xs,false⟩):=by
 refine q79 (fun i=>if i=5000 then some a else none) (fun i b' hb'=>?_) (fun i j k b c hi hj ti tj=>?_) (fun _=>.ow (if_pos rfl) q08) fun i hi=>(hJ i hi).elim
 ·by_cases hi:i=5000
  ·subst hi;rw [q08] at hb'; cases hb';unfold LeB;exact ⟨_,hb,rfl,rfl,⟨rfl,rfl⟩,q0w rfl hc⟩
  ·rw [q0T hi] at hb'; cases hb'
 ·split at ti
  ·split at tj
   ·rename_i e1 e2; rw [e1,e2]
   ·cases tj
  ·cases ti
end Go.E
namespace Go.Proofs.YtjamnehcmaloeaaGreatDoor
open Go Go.E Go.Sp
theorem qb1 {raw:List Nat} {k st:Int} {n:Nat} (hr:raw.length≤9223372036854775807) (hn:n≤1000000) (h1 : -1000000≤k) (h2:k≤1000000) (h3 : -9223372036854775808≤st) (h4:st≤9223372036854775807) :
  qop 12 [pF raw,iv k,iv n,iv st] h0 (.ow 5000 none 0 n) (q0j h0 5000 ⟨40,none,(q8n raw k (q1A st 4) n).map fun z:Nat=>uv z,false⟩):=by
 have hJ:∀ i,¬ (h0 i≠none):=fun i h=>h rfl;refine qpN qsa Tryz.func12 rfl Tryz.ntmps12 (by kernel_rfl) ?_ ?_ ?_ ?_
 ·intro i b hb; cases hb
 ·intro i b hb
  by_cases hi:i=5000
  ·subst hi; exact ⟨by omega,by omega⟩
  ·rw [q0T hi] at hb; cases hb
 ·exact IdL.of fun x hx=>by
   simp at hx
   rcases hx with rfl | rfl | rfl | rfl <;> unfold IdP <;> trivial
 have hW:WfH h0:=⟨fun i b hb=>by cases hb⟩;refine wk ?_;refine q0z (fun i=>i≤n) [0,1,2,3] [] Lk Lk (fun i:Nat=>[(10,iv i),(9,.ow 11 none 0 i)]) (fun i=>[(11,⟨40,none,(q8n raw k (q1A st 4) i).map fun z:Nat=>uv z,false⟩)]) (fun _=>h0) (fun i=>n-i) 0 (Nat.zero_le _) ?_ ?_
 ·refine LeW [] rfl rfl ?_ ?_ (by simp [q3d,q27,win]) ?_
  ·repeat (first | exact q0q | exact q48 | exact q44 | exact q47 (by simp [nmW]) (by simp [nmW]) | refine q45 (by omega) ?_)
  ·exact hW
  ·try refine Zz ?_
   exact ⟨rfl,rfl⟩
 ·intro i hi
  by_cases hlt:i < n
  ·have C1:=@q8l;have C2:=@qjc;have C3:=@q3j;refine wk1 @q6h ?_;refine ⟨i+1,by omega,by omega,?_⟩;refine LeW [(11,some 26)] rfl rfl ?_ ?_ (by simp [q3d,q27,win]) ?_
   ·repeat (first | exact q0q | exact q48 | exact q44 | exact q47 (by simp [nmW]) (by simp [nmW]) | refine q45 (by omega) ?_)
   ·exact hW
   ·try refine Zz ?_
    exact ⟨by omega,by rw [qp0]⟩
  ·obtain rfl:i=n:=by omega
   refine wk ?_;refine (rtM (rs:=[.tmp 8]) rfl rfl Lq ?_ (.inl rfl));refine LeO hJ ?_ clU
   try simp -implicitDefEqProofs (disch:=omega) only [go_sem,Nat.reduceEqDiff,Nat.reduceAdd,↓reduceIte]
def qb8 (raw:List Nat) (n:Nat) (st:Nat) (spoil:Int):List Nat :=
 if q1A spoil 9=0 then q8n raw 30 st n ++ [4607182418800017408] else if q1A spoil 9=1∧0 < n then (q8n raw 30 st n).set (q1A spoil n) (q4m raw 1) else q8n raw 30 st n
theorem ql2 {raw:List Nat} {st spoil:Int} {n:Nat} (hr:raw.length≤9223372036854775807) (hn:n≤1000) (h3 : -9223372036854775808≤st) (h4:st≤9223372036854775807) (h5 : -9223372036854775808≤spoil) (h6:spoil≤9223372036854775807) :
  ACt 32 [pF raw,iv n,iv st,iv spoil] (pF (qb8 raw n (q1A st 4) spoil)):=by
 have cV:=qb1 (k:=30) (st:=st) (n:=n) hr (by omega) (by omega) (by omega) h3 h4;have cM:=qa0 (a:=spoil) (n:=9) h5 h6 (by omega) (by omega);have hl:=q6h (raw:=raw) (k:=30) (st:=q1A st 4) (n:=n);unfold qb8;generalize q8n raw 30 (q1A st 4) n=l at *;obtain ⟨q,hq⟩:∃ q,q=q1A spoil 9:=⟨_,rfl⟩;rw [← hq] at cM ⊢;refine ac0 Tryz.func32 Tryz.ntmps32 [.tmp 8] ?_;refine wk ?_;refine qjC fun K hK=>?_;refine Zz ?_;refine jmF cV ?_ ?_
 ·repeat (first | exact q0q | exact q48 | exact q44 | exact q47 (by simp [nmW]) (by simp [nmW]) | refine q45 (by omega) ?_)
 try refine Zz ?_
 refine hK _ _ ?_; clear hK K;refine q7e (LeM [(1001,some 5000)] rfl rfl (xs:=[(0,pF raw),(1,iv n),(3,iv spoil),(9,.ow 1001 none 0 n)]) (kv:=[]) (bs:=[(1001,⟨40,none,l.map fun z:Nat=>uv z,false⟩)]) (kb:=[]) ?_) ?_
 ·try simp -implicitDefEqProofs (disch:=omega) only [go_sem,Nat.reduceEqDiff,Nat.reduceAdd,↓reduceIte]
 by_cases h0:q=0
 ·rw [if_pos h0];have q1:((q:Int) == 0)=true:=by simp [h0]
  refine wk1 q1 ?_;rw [List.map_append];exact List.take_of_length_le (by simp)
 rw [if_neg h0];have q1:((q:Int) == 0)=false:=by simpa using h0
 by_cases h1:q=1
 ·have q2:((q:Int) == 1)=true:=by simp; omega
  by_cases hn0:0 < n
  ·have q3:(n:Int) > 0:=by omega
   have cM2:=qa0 (a:=spoil) (n:=n) h5 h6 hn0 (by omega);have cW:=q8l (raw:=raw) (k:=1) hr (by omega) (by omega);have hm:q1A spoil n < n:=q5q hn0;rw [if_pos ⟨h1,hn0⟩];generalize q1A spoil n=m at *;have hcl:ClL ((l.map fun z:Nat=>uv z).set m (uv (q4m raw 1:Nat))):=by
    have:=clU (l:=l.set m (q4m raw 1))
    rwa [List.map_set] at this
   refine wk1 (x4 q1 q2 q3 hcl) ?_;rw [List.map_set];exact List.take_of_length_le (by simp; omega)
  ·have q3:¬ (n:Int) > 0:=by omega
   rw [if_neg fun h=>hn0 h.2];refine wk1 (x3 q1 q2 q3) ?_
   trivial
 ·have q2:((q:Int) == 1)=false:=by simp; omega
  rw [if_neg fun h=>h1 h.1];refine wk1 (x2 q1 q2) ?_
  trivial
def upT (f:Fac) (ys:List Nat) (p:Nat):Nat→List Int
 | 0=>[]
 | c+1=>upT f ys p c ++ [-(q6G (f.vs.getD (p+c) 0) (ys.getD (f.ri.getD (p+c) 0).toNat 0))]
noncomputable def bwV (f:Fac) (l ys:List Nat) (k:Nat):Nat :=
 fQ 0 (q1O (ofZ (l.getD k 0) :: upT f ys ((f.cp.getD k 0).toNat+1) ((f.cp.getD (k+1) 0).toNat-((f.cp.getD k 0).toNat+1)))) (ofZ (f.vs.getD (f.cp.getD k 0).toNat 0))
noncomputable def bwS (f:Fac) (l:List Nat):Nat→List Nat→Option (List Nat)
 | 0,ys=>some ys
 | k+1,ys=>if q0a (bwV f l ys k) then bwS f l k (ys.set k (bwV f l ys k)) else none
def stZ (f:Fac) (ys:List Nat):Nat→Nat→Int
 | _,0=>0
 | p,c+1=>q6G (f.vs.getD p 0) (ys.getD (f.ri.getD p 0).toNat 0)+stZ f ys (p+1) c
theorem qpw {f:Fac} {ys:List Nat}:∀ c p,stZ f ys p (c+1)=stZ f ys p c+q6G (f.vs.getD (p+c) 0) (ys.getD (f.ri.getD (p+c) 0).toNat 0)
 | 0,p=>by simp [stZ]
 | c+1,p=>by
  rw [stZ,qpw c (p+1),show p+1+c=p+(c+1) by omega,stZ,Int.add_assoc]
theorem qcf {f:Fac} {ys:List Nat} {B:Int} {p:Nat}:∀ c,q1O (B :: upT f ys p c)=B-stZ f ys p c
 | 0=>by simp [upT,stZ,q1O]
 | c+1=>by
  rw [upT,← List.cons_append,q2G,qcf c,qpw];omega
def rwZ (g:Nat→Nat) (ys:List Nat):Nat→Nat→Int
 | _,0=>0
 | r,m+1=>q6G (g r) (ys.getD r 0)+rwZ g ys (r+1) m
theorem qqS {g:Nat→Nat} {ys:List Nat}:∀ m r,rwZ g ys r (m+1)=rwZ g ys r m+q6G (g (r+m)) (ys.getD (r+m) 0)
 | 0,r=>by simp [rwZ]
 | m+1,r=>by
  rw [rwZ,qqS m (r+1),show r+1+m=r+(m+1) by omega,rwZ,Int.add_assoc]
theorem qdY {g:Nat→Nat} {l x ys:List Nat} {B:Int} {r:Nat} (hl:∀ i,l.getD i 0=g (r+i)) (hx:∀ i,x.getD i 0=ys.getD (r+i) 0):∀ m,q1O (q6I B l x m)=B-rwZ g ys r m
 | 0=>by simp [q6I,rwZ,q1O]
 | m+1=>by
  rw [q6I,q2G,qdY hl hx m,qqS,hl,hx];omega
theorem q6n {f:Fac} {j a b:Nat} {ys:List Nat} (h:Col f j a b) (hn:f.pm.length≤200) (hrv:f.ri.length=f.vs.length) :
  ∀ m r p,r+m=f.pm.length→a < p→p≤b→(∀ p',p≤p'→p' < b→∃ i:Nat,f.ri[p']?=some (i:Int)∧r≤i)→stZ f ys p (b-p)=rwZ (fun i=>q2d f i p (b-p)) ys r m
 | 0,r,p,hr,ha,hpb,hi=>by
  have hp:p=b:=by
   rcases Nat.lt_or_ge p b with h1 | h1
   ·obtain ⟨i,h2,h3⟩:=hi p (Nat.le_refl _) h1;obtain ⟨i',h4,_,h5⟩:=h.row hn ha h1;rw [h2] at h4;have:=Option.some.inj h4;omega
   ·omega
  rw [hp,Nat.sub_self]; rfl
 | m+1,r,p,hr,ha,hpb,hi=>by
  rw [rwZ]
  by_cases hp:p < b∧f.ri[p]?=some (r:Int)
  ·obtain ⟨hp1,hp2⟩:=hp;have hle:=h.le;obtain ⟨x,hv⟩:∃ x,f.vs[p]?=some x:=⟨_,List.getElem?_eq_getElem (by omega)⟩;have hlater:∀ p',p+1≤p'→p' < b→∃ i:Nat,f.ri[p']?=some (i:Int)∧r+1≤i:=fun p' q1 q2=>by
    obtain ⟨i,h1,_⟩:=hi p' (by omega) q2;have:=h.mono (p'-p) p r i (by omega) (by omega) hp2 (by rw [show p+(p'-p)=p' by omega]; exact h1);rw [if_neg (by omega)] at this;exact ⟨i,h1,by omega⟩
   have hc:b-p=(b-(p+1))+1:=by omega
   have e1:q2d f (r:Int) p (b-p)=x:=by rw [hc,q2d,if_pos hp2]; exact getD_some hv
   have e2:rwZ (fun i=>q2d f i p (b-p)) ys (r+1) m=rwZ (fun i=>q2d f i (p+1) (b-(p+1))) ys (r+1) m:=by
    have key:∀ m r',r+1≤r'→rwZ (fun i=>q2d f i p (b-p)) ys r' m=rwZ (fun i=>q2d f i (p+1) (b-(p+1))) ys r' m:=fun m=>by
     induction m with
     | zero=>intro _ _; rfl
     | succ m ih =>
      intro r' hr';rw [rwZ,rwZ,ih (r'+1) (by omega)]
      congr 2
      show q2d f (r':Int) p (b-p)=_
      rw [hc,q2d,if_neg (by rw [hp2]; intro e; have:=Option.some.inj e; omega)]
    exact key m (r+1) (Nat.le_refl _)
   rw [e1,e2,← q6n h hn hrv m (r+1) (p+1) (by omega) (by omega) (by omega) hlater,hc,stZ,getD_some hv,getD_some hp2]
   rfl
  ·have hge:∀ p',p≤p'→p' < b→∃ i:Nat,f.ri[p']?=some (i:Int)∧r+1≤i:=fun p' q1 q2=>by
    obtain ⟨i,h1,h2⟩:=hi p' q1 q2;refine ⟨i,h1,?_⟩
    rcases Nat.lt_or_ge r i with h3 | h3
    ·omega
    ·obtain rfl:i=r:=by omega
     by_cases hpp:p'=p
     ·subst hpp; exact absurd ⟨q2,h1⟩ hp
     ·obtain ⟨i0,h4,h5⟩:=hi p (Nat.le_refl _) (by omega);have:=h.mono (p'-p) p i0 i (by omega) (by omega) h4 (by rw [show p+(p'-p)=p' by omega]; exact h1);rw [if_neg (by omega)] at this;omega
   have e0:q2d f (r:Int) p (b-p)=0:=q54 _ _ fun p' q1 q2 e=>by
    obtain ⟨i,h1,h2⟩:=hge p' q1 (by omega);rw [h1] at e;have:=Option.some.inj e;omega
   rw [e0,q5p,Int.zero_add];exact q6n h hn hrv m (r+1) p (by omega) ha hpb hge
theorem qdV {g g':Nat→Nat} {ys:List Nat}:∀ m r,(∀ i,r≤i→i < r+m→g i=g' i)→rwZ g ys r m=rwZ g' ys r m
 | 0,_,_=>rfl
 | m+1,r,h=>by rw [rwZ,rwZ,h r (Nat.le_refl _) (by omega),qdV m (r+1) fun i q1 q2=>h i (by omega) (by omega)]
theorem qsd {f:Fac} {l ys:List Nat} {k n:Nat} (ho:FacOk f) (hn:n=f.pm.length) (hk:k < n):bwV f l ys k=upV (trS (q5X f n n) n n) l ys n k:=by
 obtain ⟨a,b,hc⟩:=ho.col k (by omega);have hlt:=hc.lt;obtain ⟨x,V,d1,d2,d3⟩:=hc.diag;have hel:elF f k k=x:=by
  rw [q5x hc,show b-a=(b-(a+1))+1 by omega,q2d,if_pos hc.first];exact getD_some d1
 have hU:(trS (q5X f n n) n n).getD k []=rwG n (fun j=>((q5X f n n).getD j []).getD k 0) n:=by
  refine getD_some ?_;unfold trS;rw [List.getElem?_map,List.getElem?_range hk]; rfl
 obtain ⟨g,hg⟩:∃ g:Nat→Nat,g=fun j=>if j < n then ((q5X f n n).getD j []).getD k 0 else 0:=⟨_,rfl⟩
 have hgd:∀ i,(rwG n (fun j=>((q5X f n n).getD j []).getD k 0) n).getD i 0=g i:=fun i=>by
  rw [hg]
  by_cases hi:i < n
  ·rw [getD_some (q49 hi)]
  ·rw [List.getD_eq_getElem?_getD,List.getElem?_eq_none (by rw [q5f]; omega)];simp only [if_neg hi]; rfl
 have hgk:∀ i,k≤i→i < n→g i=elF f i k:=fun i h1 h2=>by
  rw [hg];simp only [if_pos h2];rw [getD_some (q7W h2),getD_some (q49 hk),if_pos (by omega)]
 unfold bwV upV;rw [getD_some hc.ha,getD_some hc.hb,hU,hgd,hgk k (Nat.le_refl _) hk,hel];rw [show ((a:Int)).toNat=a by omega,show ((b:Int)).toNat=b by omega,getD_some d1,qcf];rw [qdY (g:=g) (ys:=ys) (r:=k+1) (fun i=>by rw [List.getD_eq_getElem?_getD,List.getElem?_drop,← List.getD_eq_getElem?_getD,hgd]) (fun i=>by rw [List.getD_eq_getElem?_getD,List.getElem?_drop,← List.getD_eq_getElem?_getD])];rw [q6n hc ho.n ho.ril (n-(k+1)) (k+1) (a+1) (by omega) (by omega) (by omega) fun p q1 q2=>by
  obtain ⟨i,h1,h2,_⟩:=hc.row ho.n (by omega) q2;exact ⟨i,h1,by omega⟩]
 rw [qdV (g:=g) (g':=fun i=>q2d f i (a+1) (b-(a+1))) _ _ fun i q1 q2=>by
  rw [hgk i (by omega) (by omega),q5x hc,show b-a=(b-(a+1))+1 by omega,q2d,if_neg (by rw [hc.first]; intro e; have:=Option.some.inj e; omega)]]
theorem qkc {f:Fac} {l:List Nat} {n:Nat} (ho:FacOk f) (hn:n=f.pm.length):∀ (k:Nat) (ys:List Nat),k≤n→bwS f l k ys=upF (trS (q5X f n n) n n) l n k ys
 | 0,_,_=>rfl
 | k+1,ys,hk=>by rw [bwS,upF,qsd ho hn (by omega),qkc ho hn k _ (by omega)]
theorem qpb {L:List (List Nat)} {n:Nat} (h:SqM L n):SqM (trS L n n) n:=⟨qcj,fun r hr=>by
 obtain ⟨i,hi,rfl⟩:=List.mem_map.1 hr;have hi:=List.mem_range.1 hi;refine ⟨q5f,fun x hx=>?_⟩;obtain ⟨j,hj,rfl⟩:=List.mem_map.1 hx;have hj:=List.mem_range.1 hj;rw [if_pos hj];have hl:=h.len;obtain ⟨r,hr⟩:∃ r,L[j]?=some r:=⟨_,List.getElem?_eq_getElem (by omega)⟩;obtain ⟨h1,h2⟩:=h.row r (List.mem_of_getElem? hr);obtain ⟨x,hx⟩:∃ x,r[i]?=some x:=⟨_,List.getElem?_eq_getElem (by omega)⟩
 show (L.getD j []).getD i 0 < 18446744073709551616∧q0a ((L.getD j []).getD i 0)
 rw [getD_some hr,getD_some hx];exact h2 x (List.mem_of_getElem? hx),fun k hk=>by
 have e:(trS L n n)[k]?=some (rwG n (fun j=>(L.getD j []).getD k 0) n):=by
  unfold trS;rw [List.getElem?_map,List.getElem?_range hk]; rfl
 rw [getD_some e,getD_some (q49 hk),if_pos hk];exact h.dg k hk⟩
noncomputable def qor (F:List Int × List Int × List Int × List Nat) (l:List Nat):PV :=
 if q4n (q3a F) F.1.length l≠0 then .tu [pF [],iv (q4n (q3a F) F.1.length l)] else fwP (upF (trS (q5X ⟨F.1,F.2.1,F.2.2.1,F.2.2.2⟩ F.1.length F.1.length) F.1.length F.1.length) l F.1.length F.1.length (List.replicate F.1.length 0))
theorem qbS {pm cp ri:List Int} {vs l:List Nat} (hp:pm.length≤1000000) (hc:cp.length≤1000000) (hr:ri.length≤1000000) (hv:vs.length≤1000000) (hu:∀ x ∈ vs,x < 18446744073709551616) (hul:∀ x ∈ l,x < 18446744073709551616) (hl:l.length≤1000000) :
  ACt 35 [q2I (pm,cp,ri,vs),pF l] (qor (pm,cp,ri,vs) l):=by
 have cK:=qdl hp hc hr hv hu;unfold qor;dsimp only
 by_cases h0:q4n (q3a (pm,cp,ri,vs)) pm.length l=0
 ·obtain ⟨h1,h2,h3⟩:=qgm h0;have ho:=q4O h1 hr hu;rw [h1] at cK;rw [if_neg (not_not_intro h0)];have hs:=qfS ho;exact qc1 (qpb hs) h2 ho.n (fun x hx=>⟨hul x hx,h3 x hx⟩) rfl cK (q7h ho) (qc2 hs.len (fun r h=>(hs.row r h).1) ho.n)
 ·rw [if_pos h0];have cS:=q5B (e:=q3a (pm,cp,ri,vs)) (n:=pm.length) hul hl;generalize q4n (q3a (pm,cp,ri,vs)) pm.length l=e at *;generalize q3a (pm,cp,ri,vs)=e2 at *;have q:(e != 0)=true:=by simpa using h0
  unfold q2I at *;dsimp only at *;refine ac0 Tryz.func35 Tryz.ntmps35 [.tmp 4,.tmp 5] ?_;exact wk1 q trivial
theorem q7M {l:List Nat} (h:q38 l) (i:Nat):l.getD i 0 < 18446744073709551616∧q0a (l.getD i 0):=by
 rw [List.getD_eq_getElem?_getD];cases hx:l[i]? with
 | none=>exact ⟨by simp,by unfold q0a; simp⟩
 | some x=>exact h x (List.mem_of_getElem? hx)
theorem q8p {f:Fac} {ys:List Nat} {p:Nat}:∀ c,(upT f ys p c).length=c
 | 0=>rfl
 | c+1=>by rw [upT,List.length_append,q8p c]; rfl
theorem qjE {f:Fac} {ys:List Nat} {p:Nat} (hv:q38 f.vs) (hy:q38 ys):∀ c,∀ x ∈ upT f ys p c,bl x.natAbs≤67600
 | 0,x,hx=>by cases hx
 | c+1,x,hx=>by
  rw [upT] at hx
  rcases List.mem_append.1 hx with hx | hx
  ·exact qjE hv hy c x hx
  ·simp only [List.mem_singleton] at hx;subst hx;rw [Int.natAbs_neg];exact (q2S (q7M hv _).2 (q7M hy _).2).2
theorem RowsOk.up {f:Fac} {rows:List (List Int)} {r:List Int} {k:Nat} (h:RowsOk f 500 rows) (h1:r.length≤501) (h2:∀ x ∈ r,bl x.natAbs≤67600):RowsOk f 500 (rows.set k r) :=
 ⟨by rw [List.length_set]; exact h.len,fun r' hr'=>by
  rcases List.mem_or_eq_of_mem_set hr' with h3 | rfl
  ·exact h.row r' h3
  ·exact ⟨by omega,h2⟩⟩
theorem Col.climb {f:Fac} {j a b:Nat} (h:Col f j a b):∀ d,a+d < b→∃ i:Nat,f.ri[a+d]?=some (i:Int)∧j+d≤i
 | 0,_=>⟨j,h.first,Nat.le_refl _⟩
 | d+1,hd=>by
  obtain ⟨i,h1,h2⟩:=h.climb d (by omega);obtain ⟨y,z,h3,h4,h5⟩:=h.inc (a+(d+1)) (by omega) hd;rw [show a+(d+1)-1=a+d by omega,h1] at h3;cases h3;exact ⟨z.toNat,by rw [h4]; congr 1; omega,by omega⟩
theorem Col.short {f:Fac} {j a b:Nat} (h:Col f j a b) (hn:f.pm.length≤200):b≤a+201:=by
 rcases Nat.lt_or_ge b (a+202) with h1 | h1
 ·omega
 obtain ⟨i,h2,h3⟩:=h.climb (b-a-1) (by omega);obtain ⟨i',h4,_,h5⟩:=h.row hn (p:=a+(b-a-1)) (by omega) (by omega);rw [h2] at h4;have:=Option.some.inj h4;omega
theorem qg5 {f:Fac} {l ys:List Nat} {rows:List (List Int)} {k p c i x y:Nat} (hi:f.ri[p+c]?=some (i:Int)) (hx:f.vs[p+c]?=some x) (hy:ys[i]?=some y) :
  (rows.set k (ofZ (l.getD k 0) :: upT f ys p c)).set k ((ofZ (l.getD k 0) :: upT f ys p c) ++ [-(q6G x y)])=rows.set k (ofZ (l.getD k 0) :: upT f ys p (c+1)):=by
 rw [List.set_set,upT,getD_some hi,getD_some hx,show ((i:Int)).toNat=i by omega,getD_some hy]
 rfl
theorem q9g {D0 E:Nat→Prop} {f:Fac} {v:Value} {A:Option Addr} {n c:Nat} {l:List Nat} {w:World} (hT:q1r w) (h:In (qpD f) E v w) (ho:FacOk f) (hb:In (fSc q26 l) E (.slice A n c) w) (hl:q38 l) (hn:n=f.pm.length) (hf:Fr D0 w) :
  Calls Tryz.prog 78 #[v,.slice A n c] w (Rt (qnG (bwS f l n (List.replicate n 0))) D0 w):=by
 obtain ⟨A3,n3,c3,A4,n4,c4,A5,n5,c5,A6,n6,c6,rfl,h1,h2,h3,h4⟩:=q8T h;have l1:=h1.sc_len;have l2:=h2.sc_len;have l3:=h3.sc_len;have l4:=h4.sc_len;have lb:=hb.sc_len;have hnb:=ho.n;have hbeg:=fun {w':World} {D':Nat→Prop} (hx:Ext w w') (hd:∀ k,k < w.heap.size→D' k) (hf':Fr D' w')=>qbK (D:=D') (vals:=l.map ofZ) (hT.ext hx) ((hb.sub fun k hk _=>hd k hk).ext hx) (by simp) (by omega) (fun i x hi=>⟨(hl x (List.mem_of_getElem? hi)).1,ofZ x,by simp [hi],q0m (hl x (List.mem_of_getElem? hi)).2⟩) hf';obtain ⟨N,hN⟩:∃ N,N=w.heap.size:=⟨_,rfl⟩;have b2:=h2.db (w':=w);have b3:=h3.db (w':=w);have b4:=h4.db (w':=w);rw [← hN] at b2 b3 b4;refine q0I Tryz.func78 rfl Tryz.ntmps78 (by kernel_rfl) ?_;refine q0A fun K hK=>?_;refine Zz ?_;refine q0Y ?_;intro g2 w2 hg2 hx2 hb2 hs2;refine hK _ _ ?_; clear hK K;have hx:Ext w w2:=hx2;replace b2:=b2.ext hx;replace b3:=b3.ext hx;replace b4:=b4.ext hx;clear hx2;refine q77 (fun e' w'=>∃ (N0 g gy:Nat) (L:List Nat) (ss:List (Option Addr × Nat × Nat)),e' 2=.pointer (some ⟨g2,0,none⟩)∧e' 1=.slice A n c∧e' 6=.slice (some ⟨g,0,none⟩) n n∧e' 7=.slice (some ⟨gy,0,none⟩) n n∧Ext w2 w'∧Sums w' (fun k=>k≠gy) L N0 g n (l.map fun x=>[ofZ x]) ss∧Own w' N 40 1 (some ⟨gy,0,none⟩) n n (List.replicate n (q26 0))∧gy ∉ L∧g2 < N0∧N≤N0∧g2 < gy) ?_ ?_
 ·refine qt4 q0h (.one 0 (.one 2 (.one 3 (.alt (.one 1 (.one 5 (.one 4 (.one 6 .fin)))) (.one 4 (.one 1 (.one 5 (.one 6 .fin)))))))) (by kernel_rfl) fun KE wE hKE hxE=>?_;replace b2:=b2.ext hxE;replace b3:=b3.ext hxE;replace b4:=b4.ext hxE;replace hb2:=hb2.ext hxE;replace hx:=hx.trans hxE;simp only [q0g] at hKE;have hlt3:=hb2.lt;have hmm:(l.map ofZ).map (fun V=>[V])=l.map fun x=>[ofZ x]:=by rw [List.map_map]; rfl
  rw [hmm] at hbeg;have hrp:List.replicate n (Value.int .u64 0)=List.replicate n (q26 0):=rfl;have hNE:=hx.size;rw [← hN] at hNE;simp -implicitDefEqProofs (disch:=omega) only [go_sem,Nat.reduceEqDiff,Nat.reduceAdd,↓reduceIte,q89,q8a,qbO,q61,q8B,List.toList_toArray];refine ⟨?_,?_⟩
  ·refine q0F qfZ (hbeg (D':=fun _=>True) hx (fun _ _=>trivial) (Fr.triv _)) ?_;rintro _ w14 ⟨rfl,hx14,L,ss,hS⟩; refine ⟨_,rfl,?_⟩;refine q5r (Nat.le_refl _) (by omega) (by unfold maxLen; omega) fun w17 hx17 hO17 hs17=>?_;have hs14:=hx14.size;refine hKE _ _ ⟨_,_,w14.heap.size,L,ss,Ue,Ue,Ue,Ue,(hxE.trans hx14).trans hx17,(hS.sub (D':=fun k=>k≠w14.heap.size) fun k hk _=>by omega).ext hx17,hO17.mono (by omega),fun hm=>?_,hlt3,hNE,by omega⟩;have:=hS.hi _ hm;omega
  ·refine q5r (Nat.le_refl _) (by omega) (by unfold maxLen; omega) fun w17 hx17 hO17 hs17=>?_;refine q0F qfZ (hbeg (D':=fun k=>k≠wE.heap.size) (hx.trans hx17) (fun k hk=>by omega) (fun k hk=>by omega)) ?_;rintro _ w14 ⟨rfl,hx14,L,ss,hS⟩; refine ⟨_,rfl,?_⟩;refine hKE _ _ ⟨_,_,wE.heap.size,L,ss,Ue,Ue,Ue,Ue,(hxE.trans hx17).trans hx14,hS,(hO17.mono (by omega)).ext hx14,fun hm=>?_,by omega,by omega,hlt3⟩;have:=hS.lo _ hm;omega
 ·rintro e0 w1 ⟨N0,g,gy,L,ss,k2,k1,k6,k7,hx1,hS,hO,hgL,hgN,hNN,hg3y⟩;replace b2:=b2.ext hx1;replace b3:=b3.ext hx1;replace b4:=b4.ext hx1;replace hb2:=hb2.ext hx1;replace hx:=hx.trans hx1;refine q0B fun K0 hK0=>?_;refine Wz2 k1 @i64_in ?_;refine q0X ?_;refine q07 (fun e2 w2=>∃ (m:Nat) (L:List Nat) (rows:List (List Int)) (ys:List Nat) (ss:List (Option Addr × Nat × Nat)),e2 8=.int .i64 ((m:Int)-1)∧m≤n∧Ext w w2∧Blk w2 g2 26 #[.slice A3 n3 c3,.slice A4 n4 c4,.slice A5 n5 c5,.slice A6 n6 c6]∧In (fSc q1V f.cp) (Db E N) (.slice A4 n4 c4) w2∧In (fSc q1V f.ri) (Db E N) (.slice A5 n5 c5) w2∧In (fSc q26 f.vs) (Db E N) (.slice A6 n6 c6) w2∧Sums w2 (fun k=>k≠gy) L N0 g n rows ss∧Own w2 N 40 1 (some ⟨gy,0,none⟩) n n (ys.map q26)∧gy ∉ L∧RowsOk f 500 rows∧(∀ i,i < m→rows[i]?=some [ofZ (l.getD i 0)])∧ys.length=n∧q38 ys∧bwS f l m ys=bwS f l n (List.replicate n 0)) (fun e2 _=>(RowKit.intOf (e2 8)+1).toNat) ⟨n,L,_,_,ss,rfl,Nat.le_refl _,hx,hb2,b2,b3,b4,hS,by rw [List.map_replicate]; exact hO,hgL,⟨by simp; omega,fun r hr=>?_⟩,fun i hi=>?_,by simp,q7S,rfl⟩ ?_
  ·rw [List.mem_map] at hr;obtain ⟨y,hy,rfl⟩:=hr;exact ⟨by simp,fun x hx=>by simp at hx; subst hx; exact q5o (hl y hy).2⟩
  ·have hil:i < l.length:=by omega
   rw [List.getElem?_map,List.getD_eq_getElem?_getD,List.getElem?_eq_getElem hil]
   rfl
  clear hx hb2 b2 b3 b4 hS hO hgL;rintro e1 w5 ⟨m,L,rows,ys,ss,k8,hm,hx,hb2,b2,b3,b4,hS,hO,hgL,hR,hrw,hys,hfy,hbw⟩ hkk;have r2:e1 2=.pointer (some ⟨g2,0,none⟩):=(hkk 2 (by kernel_rfl)).trans Ue;have r6:e1 6=.slice (some ⟨g,0,none⟩) n n:=(hkk 6 (by kernel_rfl)).trans Ue;have r7:e1 7=.slice (some ⟨gy,0,none⟩) n n:=(hkk 7 (by kernel_rfl)).trans Ue;clear hkk
  by_cases hm0:m=0
  ·subst hm0;have hlt':¬ (0:Int)≤((0:Nat):Int)-1:=by omega
   refine q0B fun K1 hK1=>?_;refine Wz2 k8 hlt' ?_;refine Wf (q01 (hK0 _ _ ?_));rw [bwS] at hbw;rw [← hbw];refine Wz1 r7 ?_;refine q0K ?_
   try simp only [q0D,q0O]
   refine q7z rfl ⟨_,rfl,hx,⟨_,_,rfl,by simp only [q0E,Nat.reduceEqDiff,↓reduceIte]; exact qmI hO fun k hk=>hf k (by omega),by simp only [q0E,Nat.reduceEqDiff,↓reduceIte]; exact rfl⟩⟩
  ·obtain ⟨k,rfl⟩:∃ k,m=k+1:=⟨m-1,by omega⟩;replace k8:e1 8=.int .i64 (k:Int):=by rw [k8]; congr 1; omega
   have hlt':(0:Int)≤(k:Int):=by omega
   refine q0B fun K1 hK1=>?_;refine Wz2 k8 hlt' ?_;refine Wt (q0H (hK1 _ _ ?_));clear hK1;refine q0N fun K hK=>?_;obtain ⟨a,b,hcol⟩:=ho.col k (by omega);obtain ⟨dx,dV,d1,d2,d3⟩:=hcol.diag;have hcb:=hcol.hb;obtain ⟨k1,hk1⟩:∃ k1,k1=k+1:=⟨_,rfl⟩;rw [← hk1] at hcb;have hle:=hcol.le;have hlt:=hcol.lt;have hsh:=hcol.short ho.n;have hrib:=ho.rib;have hril:=ho.ril;obtain ⟨hdx,hdf⟩:=ho.vals dx (List.mem_of_getElem? d1);obtain ⟨u,hu⟩:∃ u,u=l.getD k 0:=⟨_,rfl⟩;obtain ⟨hu1,hu2⟩:=q7M hl k;have hrk:=hrw k (by omega);rw [← hu] at hu1 hu2 hrk;have hset0:rows.set k [ofZ u]=rows:=by
    refine List.ext_getElem? fun i=>?_;rw [List.getElem?_set]
    split
    ·rename_i e; subst e
     split
     ·exact hrk.symm
     ·rw [List.getElem?_eq_none (by omega)]
    ·rfl
   obtain ⟨ad2,rfl,i2,x2⟩:=b2.ixI hcol.ha;have e1':IntKind.i64.wrap ((a:Int)+1)=((a+1:Nat):Int):=by rw [i64_in (by omega) (by omega)]; omega
   have e2':IntKind.i64.wrap ((k:Int)+1)=(k1:Int):=by rw [i64_in (by omega) (by omega)]; omega
   refine q0B fun K2 hK2=>?_;refine q0A fun K hK=>?_;simp -implicitDefEqProofs (disch:=omega) only [go_sem,Nat.reduceEqDiff,Nat.reduceAdd,↓reduceIte,r2,hb2.c1,k8,i2,x2,e1'];refine hK _ _ ?_; clear hK K;refine q0X ?_;refine q07 (fun e2 w2=>∃ (p:Nat) (L:List Nat) (ss:List (Option Addr × Nat × Nat)),e2 9=.int .i64 p∧a+1≤p∧p≤b∧Ext w w2∧Blk w2 g2 26 #[.slice A3 n3 c3,.slice (some ad2) n4 c4,.slice A5 n5 c5,.slice A6 n6 c6]∧In (fSc q1V f.cp) (Db E N) (.slice (some ad2) n4 c4) w2∧In (fSc q1V f.ri) (Db E N) (.slice A5 n5 c5) w2∧In (fSc q26 f.vs) (Db E N) (.slice A6 n6 c6) w2∧Sums w2 (fun k=>k≠gy) L N0 g n (rows.set k (ofZ u :: upT f ys (a+1) (p-(a+1)))) ss∧Own w2 N 40 1 (some ⟨gy,0,none⟩) n n (ys.map q26)∧gy ∉ L) (fun e2 _=>b-(RowKit.intOf (e2 9)).toNat) ⟨a+1,L,ss,rfl,Nat.le_refl _,hlt,hx,hb2,b2,b3,b4,by rw [Nat.sub_self,upT,hset0]; exact hS,hO,hgL⟩ ?_;clear hx hb2 b2 b3 b4 hS hO hgL x2 i2;rintro e3 w6 ⟨p,L,ss,k9,hp1,hp2,hx,hb2,b2,b3,b4,hS,hO,hgL⟩ hkk;have q2:e3 2=.pointer (some ⟨g2,0,none⟩):=(hkk 2 (by kernel_rfl)).trans Ue;have q6:e3 6=.slice (some ⟨g,0,none⟩) n n:=(hkk 6 (by kernel_rfl)).trans Ue;have q7:e3 7=.slice (some ⟨gy,0,none⟩) n n:=(hkk 7 (by kernel_rfl)).trans Ue;have q8:e3 8=.int .i64 k:=(hkk 8 (by kernel_rfl)).trans Ue;clear hkk r2 r6 r7;have hro:RowsOk f 500 (rows.set k (ofZ u :: upT f ys (a+1) (p-(a+1)))):=hR.up (by rw [List.length_cons,q8p]; omega) fun x hx=>by
    rcases List.mem_cons.1 hx with rfl | hx
    ·exact q5o hu2
    ·exact qjE ho.vals hfy _ x hx
   have hrl:=hR.len;have hrk2:(rows.set k (ofZ u :: upT f ys (a+1) (p-(a+1))))[k]?=some (ofZ u :: upT f ys (a+1) (p-(a+1))):=List.getElem?_set_self (by omega);have hgy:gy < w6.heap.size:=by
    rcases hO.form with ⟨h0,_⟩ | ⟨_,_,h0,_,hb,_⟩
    ·cases h0
    ·cases h0; exact hb.lt
   obtain ⟨_,hcc,i2,x2⟩:=b2.ixI hcb;cases hcc
   by_cases hlt2:p < b
   ·have hlt2':(p:Int) < b:=by omega
    refine q0B fun K5 hK5=>?_;refine q0A fun K hK=>?_;simp -implicitDefEqProofs (disch:=omega) only [go_sem,Nat.reduceEqDiff,Nat.reduceAdd,↓reduceIte,k9,q2,hb2.c1,q8,e2',i2,x2,hlt2'];refine hK _ _ ?_; clear hK K;refine Wt (q0H (hK5 _ _ ?_));clear hK5;refine q0N fun K6 hK6=>?_;obtain ⟨j0,hj1,hj2,hj3⟩:=hcol.row ho.n (by omega) hlt2;obtain ⟨xv,hxv⟩:∃ xv,f.vs[p]?=some xv:=⟨_,List.getElem?_eq_getElem (by omega)⟩;obtain ⟨hv1,hv2⟩:=ho.vals xv (List.mem_of_getElem? hxv);obtain ⟨yv,hyv⟩:∃ yv,ys[j0]?=some yv:=⟨_,List.getElem?_eq_getElem (by omega)⟩;obtain ⟨hy1,hy2⟩:=hfy yv (List.mem_of_getElem? hyv);obtain ⟨ad5,rfl,i5,x5⟩:=b3.ixI hj1;obtain ⟨ad4,rfl,i6,x6⟩:=b4.ixU hxv;have cy:w6.cell? ⟨gy,j0,none⟩=some (.int .u64 yv):=by
     obtain ⟨_,hg',_,hc',_⟩:=hO.cell (j:=j0) (by rw [List.length_map]; omega);cases hg';rw [hc',List.getElem_map,Option.some.inj ((List.getElem?_eq_getElem (by omega)).symm.trans hyv)]
     rfl
    have ij:(0:Int)≤(j0:Int)∧(j0:Int) < n:=by omega
    refine qpO true q0h (Kp.pre (fun _=>True)) (fun _ _ _ h=>h) [true,true,true,true,true,true,true,true,true,true,true,true,true,true,true,false] [] 15 (by kernel_rfl) fun KE hKE=>?_;simp -implicitDefEqProofs (disch:=omega) only [go_sem,Nat.reduceEqDiff,Nat.reduceAdd,↓reduceIte,k9,q2,q6,q7,q8,hb2.c2,hb2.c3,i5,x5,i6,x6,ij,cy];refine hKE _ ⟨?_,fun e' w' hw hs ho=>?_⟩ <;> clear hKE KE
    ·exact q0d
    ·have z38:=ho 38 (by kernel_rfl);have z39:=ho 39 (by kernel_rfl);have z44:=ho 44 (by kernel_rfl);have z52:=ho 52 (by kernel_rfl);have z2:=ho 2 (by kernel_rfl);have z6:=ho 6 (by kernel_rfl);have z7:=ho 7 (by kernel_rfl);have z8:=ho 8 (by kernel_rfl);have z9:=ho 9 (by kernel_rfl);clear hs ho;simp -implicitDefEqProofs only [q0E,Nat.reduceEqDiff,↓reduceIte,q92,q93,List.toList_toArray,k9,q2,q6,q7,q8] at z38 z39 z44 z52 z2 z6 z7 z8 z9;have o38:=z38;clear z38;have o39:=z39;clear z39;have o44:=z44;clear z44;have o52:=z52;clear z52;have o2:=z2;clear z2;have o6:=z6;clear z6;have o7:=z7;clear z7;have o8:=z8;clear z8;have o9:=z9;clear z9;replace hx:=hx.trans hw;simp -implicitDefEqProofs (disch:=omega) only [List.drop_succ_cons,List.drop_zero,go_sem,Nat.reduceEqDiff,Nat.reduceAdd,↓reduceIte,o38,o39,o44,o52,o2,o6,o7,o8,o9,k9,q2,q6,q7,q8];replace b2:=b2.ext hw;replace b3:=b3.ext hw;replace b4:=b4.ext hw;replace hb2:=hb2.ext hw;replace hS:=hS.ext hw;replace hO:=hO.ext hw;have hw':=hw.size;clear x2 x5 x6 cy;obtain ⟨hmu,_⟩:=q2S hv2 hy2;refine q0F qfg (q5a (hT.ext hx) hS hrk2 hv1 hy1 (q0m hv2) (q0m hy2) hmu (by rw [List.length_cons,q8p]; omega) (fun k hk=>by omega)) ?_;rintro _ w7 ⟨rfl,hk7,L',ss',hL1,hL2,hS7⟩; refine ⟨_,rfl,?_⟩;rw [hu,qg5 (by rw [show a+1+(p-(a+1))=p by omega]; exact hj1) (by rw [show a+1+(p-(a+1))=p by omega]; exact hxv) hyv,show p-(a+1)+1=p+1-(a+1) by omega,← hu] at hS7;have hlo:∀ j,j < N→j ∉ L:=fun j hj hm=>by have:=hS.lo j hm; omega
     replace b2:=b2.kpb hk7 hlo;replace b3:=b3.kpb hk7 hlo;replace b4:=b4.kpb hk7 hlo;replace hb2:=hb2.kp hk7 fun hm=>by have:=hS.lo _ hm; omega
     replace hx:=hx.under hk7 fun j hj=>hlo j (by omega);replace hO:=hO.kp hk7 fun a ha=>by cases ha; exact hgL
     have hgL7:gy ∉ L':=fun hm=>by
      rcases hL2 _ hm with h | h
      ·exact hgL h
      ·omega
     simp only [q0g,qh7];refine hK6 _ _ ?_; clear hK6;refine q0Q fun K9 hK9=>?_;simp -implicitDefEqProofs (disch:=omega) only [go_sem,Nat.reduceEqDiff,Nat.reduceAdd,↓reduceIte,o9,i64_in];refine hK9 _ _ ?_; clear hK9 K9;exact ⟨⟨p+1,L',ss',rfl,by omega,by omega,hx,hb2,b2,b3,b4,hS7,hO,hgL7⟩,by simp only [q0E,↓reduceIte,RowKit.intOf,k9]; omega⟩
   ·have hlt2':¬ (p:Int) < b:=by omega
    refine q0B fun K5 hK5=>?_;refine q0A fun K hK=>?_;simp -implicitDefEqProofs (disch:=omega) only [go_sem,Nat.reduceEqDiff,Nat.reduceAdd,↓reduceIte,k9,q2,hb2.c1,q8,e2',i2,x2,hlt2'];refine hK _ _ ?_; clear hK K;refine Wf (q01 (hK2 _ _ ?_));obtain rfl:p=b:=by omega
    obtain ⟨S,hSS⟩:∃ S,S=q1O (ofZ u :: upT f ys (a+1) (p-(a+1))):=⟨_,rfl⟩;obtain ⟨q,hq⟩:∃ q,q=fQ 0 S dV:=⟨_,rfl⟩;have hqv:bwV f l ys k=q:=by
     unfold bwV;rw [← hk1,getD_some hcol.ha,getD_some hcb,← hu,show ((a:Int)).toNat=a by omega,show ((p:Int)).toNat=p by omega,← hSS,getD_some d1,q0o d2,hq]
    clear x2 i2;obtain ⟨_,hcc,i2,x2⟩:=b2.ixI hcol.ha;cases hcc;obtain ⟨ad4,rfl,i4,x4⟩:=b4.ixU d1;obtain ⟨s1,s2,s3⟩:=qd2 hro (List.mem_of_getElem? hrk2) (by omega);obtain ⟨D,hDq⟩:∃ D:Nat→Prop,D=fun _=>True:=⟨_,rfl⟩;have hDl:∀ k,Dl D [] k:=fun k=>⟨by rw [hDq]; trivial,by simp⟩;have hD:Fr (Dl D []) w6:=fun k _=>hDl k;have hS':Sums w6 (Dl D []) L N0 g n _ ss:=hS.sub fun k _ _=>hDl k;have ik:(0:Int)≤(k:Int)∧(k:Int) < n:=by omega
    refine q0B fun K3 hK3=>?_;refine qpO true q0h (Kp.pre (fun _=>True)) (fun _ _ _ h=>h) [true,true,true,true,false,true,true,true,true,true,true,true,true,true,false,false,false,false] [(58,Fam.S (fV S) (Dl D [])),(68,Fam.S (fV dV) (Dl D [])),(69,Fam.S (fc (.int .u64 q)) (Dl D [])),(70,Fam.S (fc (.pointer (some ⟨gy,k,none⟩))) (Dl D []))] 17 (by kernel_rfl) fun KE hKE=>?_;simp -implicitDefEqProofs (disch:=omega) only [go_sem,Nat.reduceEqDiff,Nat.reduceAdd,↓reduceIte,q2,q6,q7,q8,hb2.c1,hb2.c3,i2,x2,i4,x4];refine hKE _ ⟨?_,fun e' w' hw hs ho=>?_⟩ <;> clear hKE KE
    ·have hto:=fun {w:World} (hT:q1r w) (hS:Sums w (Dl D []) L N0 g n _ ss) (hf:Fr (Dl D []) w)=>q9r hT hS hrk2 (by omega) s2 s3 (fun k _=>hDl k) hf;rw [← hSS] at hto;refine q0P (fun e' w' hw hd ho=>?_) ?_
     ·skip
      have o56:=ho 56 (by kernel_rfl) (by kernel_rfl);have o57:=ho 57 (by kernel_rfl) (by kernel_rfl);simp -implicitDefEqProofs (disch:=omega) only [go_sem,Nat.reduceEqDiff,Nat.reduceAdd,↓reduceIte,o56,o57];refine Cr qne (hto ((hT.ext hx).ext hw) (hS'.ext hw) (hD.kp hw)) fun v9 w9 hx9 h9=>?_;exact ⟨hx9,by first | exact (h9) | (intro d hd; cases hd; exact (h9))⟩
     refine q0P (fun e' w' hw hd ho=>?_) ?_
     ·skip
      have o67:=ho 67 (by kernel_rfl) (by kernel_rfl);simp -implicitDefEqProofs (disch:=omega) only [go_sem,Nat.reduceEqDiff,Nat.reduceAdd,↓reduceIte,o67];refine Cr qcC (qfA ((hT.ext hx).ext hw) hdx d2 (hD.kp hw)) fun v9 w9 hx9 h9=>?_;exact ⟨hx9,by first | exact (h9) | (intro d hd; cases hd; exact (h9))⟩
     have hqu:=fun {w:World} {v v':Value} (hT:q1r w) (h:In (fV S) (Dl D []) v w) (h':In (fV dV) (Dl D []) v' w) (hf:Fr (Dl D []) w)=>qjx hT h h' (by omega) hf;rw [← hq] at hqu;refine q0P (fun e' w' hw hd ho=>?_) ?_
     ·skip
      have h58:In (fV S) (Dl D []) (e' 58) w':=hd 58 (by kernel_rfl) (by kernel_rfl);have h68:In (fV dV) (Dl D []) (e' 68) w':=hd 68 (by kernel_rfl) (by kernel_rfl);refine Zz ?_;refine Ck qnf (hqu ((hT.ext hx).ext hw) h58 h68 (hD.kp hw)) fun w9 hx9=>?_;exact ⟨hx9,by first | exact (rfl) | (intro d hd; cases hd; exact (rfl))⟩
     refine q0P (fun e' w' hw hd ho=>?_) ?_
     ·skip
      have o54:=ho 54 (by kernel_rfl) (by kernel_rfl);have o55:=ho 55 (by kernel_rfl) (by kernel_rfl);simp -implicitDefEqProofs (disch:=omega) only [go_sem,Nat.reduceEqDiff,Nat.reduceAdd,↓reduceIte,o54,o55,q7,ik];exact ⟨Kp.refl _ _,by first | exact (rfl) | (intro d hd; cases hd; exact (rfl))⟩
     exact q0d
    ·have h70:e' 70=(.pointer (some ⟨gy,k,none⟩)):=hs 70 (by kernel_rfl);have h69:e' 69=(.int .u64 q):=hs 69 (by kernel_rfl);have z2:=ho 2 (by kernel_rfl);have z6:=ho 6 (by kernel_rfl);have z7:=ho 7 (by kernel_rfl);have z8:=ho 8 (by kernel_rfl);clear hs ho;simp -implicitDefEqProofs only [q0E,Nat.reduceEqDiff,↓reduceIte,q92,q93,List.toList_toArray,q2,q6,q7,q8] at z2 z6 z7 z8;have o2:=z2;clear z2;have o6:=z6;clear z6;have o7:=z7;clear z7;have o8:=z8;clear z8;replace b2:=b2.ext hw;replace b3:=b3.ext hw;replace b4:=b4.ext hw;replace hS:=hS.ext hw;replace hO:=hO.ext hw;replace hb2:=hb2.ext hw;replace hD:=hD.kp hw;replace hx:=hx.trans hw;simp -implicitDefEqProofs (disch:=omega) only [List.drop_succ_cons,List.drop_zero,go_sem,Nat.reduceEqDiff,Nat.reduceAdd,↓reduceIte,h70,h69,o2,o6,o7,o8,q2,q6,q7,q8];have hqlt:q < 18446744073709551616:=by rw [hq]; exact qey (by omega)
     have hyl:(ys.map q26).length=n:=by rw [List.length_map]; exact hys
     refine qaD hO (by omega:k < n) ql1 rfl rfl fun w5 hO5 hk5 hs5=>?_;replace hS:=hS.kpo hk5 (fun _ h=>h) hgL;replace b2:=b2.kpb hk5 fun k hk=>by omega
     replace b3:=b3.kpb hk5 fun k hk=>by omega
     replace b4:=b4.kpb hk5 fun k hk=>by omega
     replace hb2:=hb2.kpne hk5 (by omega);replace hx:=hx.under hk5 fun k hk=>by omega
     have cy:=hO5.cell_set (by omega);have hO6:Own w5 N 40 1 (some ⟨gy,0,none⟩) n n ((ys.set k q).map q26):=by rw [List.map_set]; exact hO5
     clear hO hO5 hk5 hD hS';simp only [q0g];refine hK3 _ _ ?_; clear hK3;refine q0A fun K hK=>?_;simp -implicitDefEqProofs (disch:=omega) only [go_sem,Nat.reduceEqDiff,Nat.reduceAdd,↓reduceIte,o7,o8,ik,cy];refine q0F qfh (q4j hqlt) ?_;rintro _ _ ⟨rfl,rfl⟩; refine ⟨_,rfl,?_⟩;rw [bwS,hqv] at hbw
     by_cases hfin:q0a q
     ·rw [if_pos hfin] at hbw;rw [decide_eq_true hfin];refine Zz ?_;refine hK _ _ ?_; clear hK;refine Wf (q0H (hK _ _ ?_));refine q0Q fun K9 hK9=>?_;simp -implicitDefEqProofs (disch:=omega) only [go_sem,Nat.reduceEqDiff,Nat.reduceAdd,↓reduceIte,o8,i64_in];refine hK9 _ _ ?_; clear hK9 K9;exact ⟨⟨k,L,_,ys.set k q,ss,rfl,by omega,hx,hb2,b2,b3,b4,hS,hO6,hgL,hro,fun i hi=>by rw [List.getElem?_set_ne (by omega)]; exact hrw i (by omega),by rw [List.length_set]; exact hys,q7R hfy hqlt hfin,hbw⟩,by simp only [q0E,↓reduceIte,RowKit.intOf,k8]; omega⟩
     ·rw [if_neg hfin] at hbw;rw [decide_eq_false hfin];refine Zz ?_;refine hK _ _ ?_; clear hK;refine Wt ?_;refine Wz ?_;refine q0K ?_
      try simp only [q0D,q0O]
      refine q7z rfl ⟨_,rfl,hx,by rw [← hbw]; exact ⟨_,_,rfl,by simp only [q0E,Nat.reduceEqDiff,↓reduceIte]; exact In.sc_nil,by simp only [q0E,Nat.reduceEqDiff,↓reduceIte]; exact rfl⟩⟩
theorem qsc {f:List Int × List Int × List Int × List Nat} {l:List Nat} (ho:FacOk ⟨f.1,f.2.1,f.2.2.1,f.2.2.2⟩) (hl:q38 l) (hn:l.length=f.1.length) :
  ACt 78 [q2I f,pF l] (fwP (bwS ⟨f.1,f.2.1,f.2.2.1,f.2.2.2⟩ l l.length (List.replicate l.length 0))):=q1Q (r:=.fm (qnG _)) (fun D w v h=>qjW (q2w h)) (q50 qsY fun D w vs hT hF hR=>by
 obtain ⟨_,_,rfl,h3,h4⟩:=q4a hR;obtain ⟨A,n,c,rfl,h6⟩:=q6J (f:=q26) h4;obtain rfl:n=l.length:=h6.sc_len.symm;exact q9g hT (qjX h3) ho h6 hl hn hF)
theorem qdS {pm cp ri:List Int} {vs l:List Nat} (hp:pm.length≤1000000) (hc:cp.length≤1000000) (hr:ri.length≤1000000) (hv:vs.length≤1000000) (hu:∀ x ∈ vs,x < 18446744073709551616) (hul:∀ x ∈ l,x < 18446744073709551616) (hl:l.length≤1000000) :
  ACt 34 [q2I (pm,cp,ri,vs),pF l] (qor (pm,cp,ri,vs) l):=by
 have cR:=q7x hp hc hr hv hu hul hl;unfold qor;dsimp only
 by_cases h0:q4n (q3a (pm,cp,ri,vs)) pm.length l=0
 ·obtain ⟨h1,h2,h3⟩:=qgm h0;have ho:=q4O h1 hr hu;have cB:=qsc (f:=(pm,cp,ri,vs)) ho (l:=l) (fun x hx=>⟨hul x hx,h3 x hx⟩) h2;dsimp only at cB;rw [h2,qkc ho rfl _ _ (Nat.le_refl _)] at cB;rw [if_neg (not_not_intro h0)];rw [h0] at cR;dsimp only at cB ⊢;generalize upF (trS (q5X ⟨pm,cp,ri,vs⟩ pm.length pm.length) pm.length pm.length) l pm.length pm.length (List.replicate pm.length 0)=res at *;unfold q2I at *;dsimp only at *;refine ac0 Tryz.func34 Tryz.ntmps34 [.tmp 4,.tmp 5] ?_;cases res
  ·unfold fwP at *;exact wk trivial
  ·unfold fwP at *;exact wk trivial
 ·rw [if_pos h0];generalize q4n (q3a (pm,cp,ri,vs)) pm.length l=e at *;have q:(e != 0)=true:=by simpa using h0
  unfold q2I at *;dsimp only at *;refine ac0 Tryz.func34 Tryz.ntmps34 [.tmp 4,.tmp 5] ?_;exact wk1 q trivial

section
variable {D:Nat→Prop} {w:World}
theorem ownE {w':World} {B E:Nat} (hb:Blk w' w.heap.size E #[]) (h:B≤w.heap.size):Own w' B E 1 (some ⟨w.heap.size,0,none⟩) 0 0 [] :=
 Own.made (w:=w') (w':=w) (B:=B) (sz:=1) (n:=0) (c:=0) (E:=E) (cur:=#[]) hb (Nat.le_refl _) (by simp [maxLen]) rfl h
theorem qd4 {E g:Nat} {v:Value} (hb:Blk w g E #[v]):Row w (fun k=>k=g) 1 (some ⟨g,0,none⟩) 1 1 [v] :=
 ⟨Nat.le_refl _,rfl,fun _=>⟨⟨g,0,none⟩,rfl,rfl,fun j u hu=>by rw [q02,Nat.zero_add,hb.cell]; simpa using hu⟩⟩
theorem qhP {l:List Int}:∀ u ∈ l.map q1V,u.oneCell'=true:=fun u hu=>by
 obtain ⟨z,_,rfl⟩:=List.mem_map.1 hu
 rfl
theorem qhM {A:Option Addr} {n c N:Nat} {raw:List Nat} (hT:q1r w) (h:In (fSc q26 raw) D (.slice A n c) w) (hn:n≤9223372036854775807) (hN:N≤1000000) (hf:Fr D w) :
  Calls Tryz.prog 26 #[.slice A n c,.int .i64 N] w (Rt (fSc q1V (q3F raw N)) D w):=by
 refine q0I Tryz.func26 rfl Tryz.ntmps26 (by kernel_rfl) ?_;refine Wz ?_;refine q0A fun K hK=>?_;refine Zz ?_;refine q12 fun w0 hx0 hb0 hs0=>?_;generalize hg:w.heap.size=g at hb0 hs0;refine hK _ _ ?_; clear hK;refine q0B fun K0 hK0=>?_;refine Wz ?_;have hO0:Own w0 g 3 1 (some ⟨g,0,none⟩) 0 0 (([]:List Int).map q1V):=by
  have:=Own.made (w:=w0) (w':=w) (B:=g) (sz:=1) (n:=0) (c:=0) (E:=3) (cur:=#[]) (by rw [hg]; exact hb0) (Nat.le_refl _) (by simp [maxLen]) rfl (by omega);rw [hg] at this;exact this
 have hd:=h.db (w':=w);rw [hg] at hd;refine q0X ?_;refine q07 (fun e2 w'=>∃ (i:Nat) (A':Option Addr) (c':Nat),e2 6=.int .i64 i∧e2 5=.slice A' i c'∧i≤N∧Ext w w'∧In (fSc q26 raw) (Db D g) (.slice A n c) w'∧Own w' g 3 1 A' i c' ((q3F raw i).map q1V)) (fun e2 _=>N-(RowKit.intOf (e2 6)).toNat) ⟨0,_,0,rfl,Ue,Nat.zero_le _,hx0,hd.ext hx0,hO0⟩ ?_;rintro e1 w1 ⟨i,A',c',k6,k5,hi,hx,hd,hO⟩ hkk;have k0:e1 0=.slice A n c:=(hkk 0 (by kernel_rfl)).trans Ue;have k1:e1 1=.int .i64 N:=(hkk 1 (by kernel_rfl)).trans Ue;clear hkk
 by_cases hlt:i < N
 ·have hlt':(i:Int) < N:=by omega
  refine q0B fun K1 hK1=>?_;refine Wz3 k6 k1 hlt' ?_;refine Wt (q0H (hK1 _ _ ?_));clear hK1;refine q0N fun K hK=>?_;have e1':IntKind.i64.wrap (700+(i:Int))=700+i:=i64_in (by omega) (by omega);have e2':IntKind.i64.wrap ((i:Int)+1)=((i+1:Nat):Int):=by rw [i64_in (by omega) (by omega)]; omega
  have hw:=q3j raw (700+i);obtain ⟨at',hat⟩:∃ a,a=q1A ((q4m raw (700+i) / 2:Nat):Int) (i+1):=⟨_,rfl⟩;have hat2:at' < i+1:=by rw [hat]; exact q5q (by omega)
  have e3':IntKind.i64.wrap ((q4m raw (700+i) / 2:Nat):Int)=((q4m raw (700+i) / 2:Nat):Int):=i64_in (by omega) (by omega);refine q0A fun K hK=>?_;refine Zz4 k0 k6 e1' e2' ?_;refine q0F qnm (qc5 hd hn (by omega) (by omega)) ?_;rintro _ _ ⟨rfl,rfl⟩; refine ⟨_,rfl,?_⟩;refine Zz1 e3' ?_;refine q0F qf6 (qaZ (by omega) (by omega) (by omega) (by omega)) ?_;rintro _ _ ⟨rfl,rfl⟩; refine ⟨_,rfl,?_⟩;rw [← hat];refine hK _ _ ?_; clear hK;refine qt4 q0h (.one 1 (.one 2 (.one 3 (.one 5 (.one 8 (.one 9 (.one 10 (.alt (.one 0 (.alt (.one 4 (.one 6 (.one 7 (.one 11 (.one 12 .fin))))) (.one 6 (.one 4 (.one 7 (.one 11 (.one 12 .fin))))))) (.one 6 (.one 0 (.one 4 (.one 7 (.one 11 (.one 12 .fin)))))))))))))) (by kernel_rfl) fun KE wE hKE hxE=>?_;replace hx:=hx.trans hxE;simp only [q0g,qh7] at hKE;have q1:(0:Int)≤(at':Int)∧(at':Int)≤c':=by have:=hO.cap; omega
  have q2:(0:Int)≤(at':Int)∧(at':Int)≤i:=by omega
  simp -implicitDefEqProofs (disch:=omega) only [go_sem,Nat.reduceEqDiff,Nat.reduceAdd,↓reduceIte,q89,q8a,qbO,q61,q8B,List.toList_toArray,k5,k6,q1,q2];replace hd:=hd.ext hxE;obtain ⟨M,hM⟩:∃ M,M=wE.heap.size:=⟨_,rfl⟩;have hgM:g≤M:=by have:=hx.size; omega
  obtain ⟨T,hTd⟩:∃ T,T=(q3F raw i).take at':=⟨_,rfl⟩;obtain ⟨U,hUd⟩:∃ U,U=(q3F raw i).drop at':=⟨_,rfl⟩;have hR0:Row wE (fun k=>k < M) 1 A' i c' ((q3F raw i).map q1V):=(hO.ext hxE).row.sub fun k hk _=>by omega
  have hT1:Row wE (fun k=>k < M) 1 A' at' c' (T.map q1V):=by
   have:=hR0.take (m:=at') (by omega)
   rwa [Nat.mul_one,← List.map_take,← hTd] at this
  have hU1:Row wE (fun k=>k < M) 1 (if c'=at' then A' else Option.map (fun x=>x.add at') A') (i-at') (c'-at') (U.map q1V):=by
   have:=hR0.drop (m:=at') (by omega)
   rwa [Nat.mul_one,← List.map_drop,← hUd] at this
  refine ⟨?_,?_⟩
  ·refine q12 fun w2 hx2 hb2 hs2=>?_;have hO2:Own w2 M 3 1 _ 0 0 (([]:List Int).map q1V):=ownE hb2 (by omega);have hs2':=hx2.size;replace hT1:=hT1.kp (Kp.of_ext hx2);replace hU1:=hU1.kp (Kp.of_ext hx2);replace hx:=hx.trans hx2;replace hd:=hd.ext hx2;refine ⟨?_,?_⟩
   ·refine q1z q6N rfl (by omega) hO2 hT1 qhP (by omega) (by omega) fun A4 c4 w4 hO4 hk4 hat4=>?_;have hs4:=hk4.size;replace hT1:=hT1.kp (hk4.mono fun k _ hk=>hO2.not_lt (B:=M) hk);replace hU1:=hU1.kp (hk4.mono fun k _ hk=>hO2.not_lt (B:=M) hk);replace hx:=hx.under hk4 fun k hk=>hO2.not_lt (B:=M) (by omega);replace hd:=hd.kpb hk4 fun k hk=>hO2.not_lt (B:=M) (by omega);refine q12 fun w3 hx3 hb3 hs3=>?_;have hR3:Row _ _ 1 _ 1 1 ([(i:Int)].map q1V):=qd4 hb3;have hs3':=hx3.size;replace hT1:=hT1.kp (Kp.of_ext hx3);replace hU1:=hU1.kp (Kp.of_ext hx3);replace hx:=hx.trans hx3;replace hd:=hd.ext hx3;replace hO4:=hO4.ext hx3;refine q1z q6N rfl (by omega) hO4 hR3 qhP (by omega) (by omega) fun A6 c6 w6 hO6 hk6 hat6=>?_;have hs6:=hk6.size;replace hT1:=hT1.kp (hk6.mono fun k _ hk=>hO4.not_lt (B:=M) hk);replace hU1:=hU1.kp (hk6.mono fun k _ hk=>hO4.not_lt (B:=M) hk);replace hx:=hx.under hk6 fun k hk=>hO4.not_lt (B:=M) (by omega);replace hd:=hd.kpb hk6 fun k hk=>hO4.not_lt (B:=M) (by omega);refine q1z q6N rfl (by omega) hO6 hU1 qhP (by omega) (by omega) fun A9 c9 w9 hO9 hk9 hat9=>?_;have hs9:=hk9.size;replace hx:=hx.under hk9 fun k hk=>hO6.not_lt (B:=M) (by omega);replace hd:=hd.kpb hk9 fun k hk=>hO6.not_lt (B:=M) (by omega);replace hO9:=hO9.mono hgM;refine hKE _ _ ?_; clear hKE KE;refine hK _ _ ?_; clear hK;have hn:0+at'+1+(i-at')=i+1:=by omega
    rw [hn] at hO9 ⊢;have hle:(([]:List Int).map q1V ++ T.map q1V ++ [(i:Int)].map q1V ++ U.map q1V)=(q3F raw (i+1)).map q1V:=by
     rw [← List.map_append,← List.map_append,← List.map_append,List.nil_append,q3F,hTd,hUd,hat]
    rw [hle] at hO9;refine q0Q fun K9 hK9=>?_;refine Zz2 k6 @i64_in ?_;refine hK9 _ _ ?_; clear hK9 K9;refine ⟨⟨i+1,A9,c9,rfl,Ue,by omega,hx,hd,hO9⟩,by simp only [q0E,↓reduceIte,RowKit.intOf,k6]; omega⟩
   ·refine q12 fun w3 hx3 hb3 hs3=>?_;have hR3:Row _ _ 1 _ 1 1 ([(i:Int)].map q1V):=qd4 hb3;have hs3':=hx3.size;replace hT1:=hT1.kp (Kp.of_ext hx3);replace hU1:=hU1.kp (Kp.of_ext hx3);replace hx:=hx.trans hx3;replace hd:=hd.ext hx3;replace hO2:=hO2.ext hx3;refine q1z q6N rfl (by omega) hO2 hT1 qhP (by omega) (by omega) fun A4 c4 w4 hO4 hk4 hat4=>?_;have hs4:=hk4.size;replace hT1:=hT1.kp (hk4.mono fun k _ hk=>hO2.not_lt (B:=M) hk);replace hU1:=hU1.kp (hk4.mono fun k _ hk=>hO2.not_lt (B:=M) hk);replace hx:=hx.under hk4 fun k hk=>hO2.not_lt (B:=M) (by omega);replace hd:=hd.kpb hk4 fun k hk=>hO2.not_lt (B:=M) (by omega);replace hR3:=hR3.kp (hk4.mono fun k _ hk a ha=>by cases ha; simp only; omega);refine q1z q6N rfl (by omega) hO4 hR3 qhP (by omega) (by omega) fun A6 c6 w6 hO6 hk6 hat6=>?_;have hs6:=hk6.size;replace hT1:=hT1.kp (hk6.mono fun k _ hk=>hO4.not_lt (B:=M) hk);replace hU1:=hU1.kp (hk6.mono fun k _ hk=>hO4.not_lt (B:=M) hk);replace hx:=hx.under hk6 fun k hk=>hO4.not_lt (B:=M) (by omega);replace hd:=hd.kpb hk6 fun k hk=>hO4.not_lt (B:=M) (by omega);refine q1z q6N rfl (by omega) hO6 hU1 qhP (by omega) (by omega) fun A9 c9 w9 hO9 hk9 hat9=>?_;have hs9:=hk9.size;replace hx:=hx.under hk9 fun k hk=>hO6.not_lt (B:=M) (by omega);replace hd:=hd.kpb hk9 fun k hk=>hO6.not_lt (B:=M) (by omega);replace hO9:=hO9.mono hgM;refine hKE _ _ ?_; clear hKE KE;refine hK _ _ ?_; clear hK;have hn:0+at'+1+(i-at')=i+1:=by omega
    rw [hn] at hO9 ⊢;have hle:(([]:List Int).map q1V ++ T.map q1V ++ [(i:Int)].map q1V ++ U.map q1V)=(q3F raw (i+1)).map q1V:=by
     rw [← List.map_append,← List.map_append,← List.map_append,List.nil_append,q3F,hTd,hUd,hat]
    rw [hle] at hO9;refine q0Q fun K9 hK9=>?_;refine Zz2 k6 @i64_in ?_;refine hK9 _ _ ?_; clear hK9 K9;refine ⟨⟨i+1,A9,c9,rfl,Ue,by omega,hx,hd,hO9⟩,by simp only [q0E,↓reduceIte,RowKit.intOf,k6]; omega⟩
  ·refine q12 fun w3 hx3 hb3 hs3=>?_;have hR3:Row _ _ 1 _ 1 1 ([(i:Int)].map q1V):=qd4 hb3;have hs3':=hx3.size;replace hT1:=hT1.kp (Kp.of_ext hx3);replace hU1:=hU1.kp (Kp.of_ext hx3);replace hx:=hx.trans hx3;replace hd:=hd.ext hx3;refine q12 fun w2 hx2 hb2 hs2=>?_;have hO2:Own w2 M 3 1 _ 0 0 (([]:List Int).map q1V):=ownE hb2 (by omega);have hs2':=hx2.size;replace hT1:=hT1.kp (Kp.of_ext hx2);replace hU1:=hU1.kp (Kp.of_ext hx2);replace hx:=hx.trans hx2;replace hd:=hd.ext hx2;replace hR3:=hR3.kp (Kp.of_ext hx2);refine q1z q6N rfl (by omega) hO2 hT1 qhP (by omega) (by omega) fun A4 c4 w4 hO4 hk4 hat4=>?_;have hs4:=hk4.size;replace hT1:=hT1.kp (hk4.mono fun k _ hk=>hO2.not_lt (B:=M) hk);replace hU1:=hU1.kp (hk4.mono fun k _ hk=>hO2.not_lt (B:=M) hk);replace hx:=hx.under hk4 fun k hk=>hO2.not_lt (B:=M) (by omega);replace hd:=hd.kpb hk4 fun k hk=>hO2.not_lt (B:=M) (by omega);replace hR3:=hR3.kp (hk4.mono fun k _ hk a ha=>by cases ha; simp only; omega);refine q1z q6N rfl (by omega) hO4 hR3 qhP (by omega) (by omega) fun A6 c6 w6 hO6 hk6 hat6=>?_;have hs6:=hk6.size;replace hT1:=hT1.kp (hk6.mono fun k _ hk=>hO4.not_lt (B:=M) hk);replace hU1:=hU1.kp (hk6.mono fun k _ hk=>hO4.not_lt (B:=M) hk);replace hx:=hx.under hk6 fun k hk=>hO4.not_lt (B:=M) (by omega);replace hd:=hd.kpb hk6 fun k hk=>hO4.not_lt (B:=M) (by omega);refine q1z q6N rfl (by omega) hO6 hU1 qhP (by omega) (by omega) fun A9 c9 w9 hO9 hk9 hat9=>?_;have hs9:=hk9.size;replace hx:=hx.under hk9 fun k hk=>hO6.not_lt (B:=M) (by omega);replace hd:=hd.kpb hk9 fun k hk=>hO6.not_lt (B:=M) (by omega);replace hO9:=hO9.mono hgM;refine hKE _ _ ?_; clear hKE KE;refine hK _ _ ?_; clear hK;have hn:0+at'+1+(i-at')=i+1:=by omega
   rw [hn] at hO9 ⊢;have hle:(([]:List Int).map q1V ++ T.map q1V ++ [(i:Int)].map q1V ++ U.map q1V)=(q3F raw (i+1)).map q1V:=by
    rw [← List.map_append,← List.map_append,← List.map_append,List.nil_append,q3F,hTd,hUd,hat]
   rw [hle] at hO9;refine q0Q fun K9 hK9=>?_;refine Zz2 k6 @i64_in ?_;refine hK9 _ _ ?_; clear hK9 K9;refine ⟨⟨i+1,A9,c9,rfl,Ue,by omega,hx,hd,hO9⟩,by simp only [q0E,↓reduceIte,RowKit.intOf,k6]; omega⟩
 ·have hlt':¬ (i:Int) < N:=by omega
  refine q0B fun K1 hK1=>?_;refine Wz3 k6 k1 hlt' ?_;refine Wf (q01 (hK0 _ _ ?_));obtain rfl:i=N:=by omega
  refine Wz1 k5 ?_;refine q0K ?_
  try simp only [q0D,q0O]
  refine q0n rfl ⟨_,rfl,hx,by simp only [q0E,Nat.reduceEqDiff,↓reduceIte]; exact qmI hO fun k hk=>hf k (by omega)⟩
end
theorem qoI (m:Int) (k:Nat) (h1:m.natAbs < 9007199254740992) (h2:k≤65561):bl (m*(2:Int) ^ k).natAbs≤66000:=by
 have h53:∀ n:Nat,n < 9007199254740992→bl n≤53:=fun n h=>q0U (Nat.lt_of_lt_of_le h (Nat.le_refl _))
 by_cases hm:m=0
 ·subst hm; rw [Int.zero_mul]; simp [q1g]
 ·rw [q0V,q1j (by omega)]; have:=h53 _ h1; omega
theorem qj9 {f:Nat} (h:f / 4503599627370496 % 2048≤1100):bl (ofZ f).natAbs≤66000:=by
 have hm:=Nat.mod_lt f (show 0 < 4503599627370496 by omega);have hfm:∃ (m:Int) (k:Nat),ofF f=some (m*(2:Int) ^ k)∧m.natAbs < 9007199254740992∧k≤65561:=by
  unfold ofF;rw [if_neg (by omega)];generalize f / 4503599627370496 % 2048=x at *;generalize f % 4503599627370496=m at *
  split
  ·exact ⟨_,64462,rfl,by rw [q1R]; omega,by omega⟩
  ·exact ⟨_,64461+x,rfl,by rw [q1R]; omega,by omega⟩
 obtain ⟨m,k,h1,h2,h3⟩:=hfm;rw [q0o h1];exact qoI m k h2 h3
theorem qmP {k x:Nat} (hk:k < 3) (hx:x < 18446744073709551616):bl (ofZ (q3J k x)).natAbs≤66000:=by
 by_cases h1:k=1
 ·subst h1;refine qj9 ?_;unfold q3J;rw [if_pos rfl];omega
 by_cases h2:k=2
 ·subst h2;refine qj9 ?_;unfold q3J;rw [if_neg (by omega),if_pos rfl];have h1:x / 9223372036854775808≤1:=by omega
  have h2:x / 256 % 81 < 81:=by omega
  have h3:x / 2251799813685248 % 2≤1:=by omega
  generalize x / 9223372036854775808=a at *;generalize x / 256 % 81=b at *;generalize x / 2251799813685248 % 2=c at *;omega
 have hs:=q6o x;unfold q3J;rw [if_neg h1,if_neg h2,if_neg (by omega),q0o (q4h (by omega))];exact qoI _ 65536 (by omega) (by omega)
theorem qmK:bl qqr.natAbs≤66000:=by
 have h:=q9I (z:=1) (by have:=q0U (n:=Int.natAbs 1) (k:=1) (by decide); omega);rw [q9F.1] at h;rw [Option.some.inj h];exact qoI 1 65536 (by decide) (by omega)
theorem gF_bl {raw:List Nat} {R k:Nat} (hk:k < 3) {j i:Nat}:bl (ofZ ((gF raw R k j i).getD 0)).natAbs≤66000:=by
 unfold gF
 split
 ·exact qmP hk (q3j _ _)
 ·rw [Option.getD_none,q0o qaW]; simp [q1g]
theorem qfR {raw:List Nat} {R k i:Nat} (hk:k < 3):∀ m,∀ x ∈ dgL (gF raw R k) i m,bl x.natAbs≤66000
 | 0,x,hx=>by unfold dgL at hx; simp at hx; subst hx; exact qmK
 | m+1,x,hx=>by
  unfold dgL at hx
  split at hx
  ·exact qfR hk m x hx
  ·rcases List.mem_append.1 hx with hx | hx
   ·exact qfR hk m x hx
   ·simp at hx; subst hx;rw [Int.natAbs_natCast];exact gF_bl hk
theorem qsF {raw:List Nat} {n k:Nat} (hn:n≤100) (hk:k < 3):TOk (dfF (gF raw n k) n) n n:=by
 have hnn:n*n≤100*100:=Nat.mul_le_mul hn hn;have hG:=qrW (raw:=raw) (R:=n) (C:=n) (st:=k) (by omega) (by omega) (by omega);have key:∀ i,i < n→q0a (fR 2 (q1O (dgL (gF raw n k) i n))):=fun i hi=>by
  have hl:=(qfQ hG hi n (Nat.le_refl _)).1;have h1:=q58 (K:=66000) (qfR (raw:=raw) (R:=n) (i:=i) hk n) (i:=(dgL (gF raw n k) i n).length) (by omega);rw [List.take_length] at h1;obtain ⟨c,hc⟩:∃ c,c=900:=⟨_,rfl⟩;obtain ⟨K,hK⟩:∃ K,K=65536:=⟨_,rfl⟩;refine qrc hK hc (Nat.lt_of_lt_of_le (q2q _) ?_);rw [← Nat.pow_add];exact Nat.pow_le_pow_right (by omega) (by omega)
 refine ⟨hG.r,hG.c,hG.m,fun j i x hj hi h=>?_,fun j i x hj hi h=>?_⟩
 ·unfold dfF at h
  split at h
  ·have h:=Option.some.inj h; rw [← h]; exact fR_lt
  ·exact hG.u j i x hj hi h
 ·unfold dfF at h
  split at h
  ·have h:=Option.some.inj h; rw [← h]; exact key i hi
  ·exact hG.v j i x hj hi h
theorem qhN {raw:List Nat} {N:Nat} (hr:raw.length≤9223372036854775807) (hN:N≤1000000):ACt 26 [pF raw,iv N] (pI (q3F raw N)) :=
 q1Q (r:=.fm (fSc q1V (q3F raw N))) (fun D w v h=>qdR (f:=q1V) (fun x=>⟨rfl,rfl⟩) (q2w h)) (q50 qs3 fun D w vs hT hF hR=>by
  obtain ⟨_,_,rfl,h3,h4⟩:=q4a hR;obtain ⟨A,n,c,rfl,h5⟩:=q6J (f:=q26) h3;rw [q3S h4];exact qhM hT h5 (by have:=h5.sc_len; omega) hN hF)
noncomputable def qpC (raw:List Nat) (N k:Nat):List Int × List Int × List Int × List Nat :=
 q7K (dfF (gF raw N k) N) (q3F raw N) (q3G (adT (qcU (dfF (gF raw N k) N) (q3F raw N) N)) N N) N
theorem qew {raw:List Nat} {n st:Int} (hr:raw.length≤9223372036854775807) (h1 : -9223372036854775808≤n) (h2:n≤9223372036854775807) (h3 : -9223372036854775808≤st) (h4:st≤9223372036854775807) (hp:q3H (q3F raw (q1A n 6)) (q1A n 6)) :
  ACt 11 [pF raw,iv n,iv st] (q2I (qpC raw (q1A n 6) (q1A (q1A st 3:Nat) 4))):=by
 have hN:q1A n 6 < 6:=by unfold q1A; omega
 have hk:q1A (q1A st 3:Nat) 4 < 3:=by unfold q1A; omega
 have cM:=qa0 (a:=n) (n:=6) h1 h2 (by omega) (by omega);have cD:=q94 (raw:=raw) (n:=q1A n 6) hr (by omega) h3 h4;have cO:=qhN (raw:=raw) (N:=q1A n 6) hr (by omega);have cL:ACt 50 _ (.tu [q2I (qpC raw (q1A n 6) (q1A (q1A st 3:Nat) 4)),.un,.un]):=qmZ (qsF (raw:=raw) (n:=q1A n 6) (by omega) hk) (by omega) hp;generalize qpC _ _ _=res at *;unfold q2I at *;generalize dfF _ _=F at *;unfold pT q4x at *;generalize (tM F (q1A n 6) (q1A n 6)).1=ms at *;generalize (tM F (q1A n 6) (q1A n 6)).2.1=mi at *;generalize (tM F (q1A n 6) (q1A n 6)).2.2=mv at *;refine ac0 Tryz.func11 Tryz.ntmps11 [.cell 6 26] ?_;exact wk trivial

end Go.Proofs.YtjamnehcmaloeaaGreatDoor
namespace Go.Sp
open Go Go.E
theorem qqL {z:Int} {K:Nat}:decide (z*(2:Int) ^ K < 0)=decide (z < 0):=by
 have hp:=q06 K;rw [decide_eq_decide]
 constructor
 ·intro h
  rcases Int.lt_or_le z 0 with h1 | h1
  ·exact h1
  ·have:=Int.mul_nonneg h1 (Int.le_of_lt hp); omega
 ·intro h; exact Int.mul_neg_of_neg_of_pos h hp
theorem rF_K {z y:Int} {neg:Bool} (K:Nat) (hz:z≠0) (hy:y≠0):rF 0 neg (z*(2:Int) ^ K).natAbs (y*(2:Int) ^ K).natAbs=rF 0 neg z.natAbs y.natAbs:=by
 rw [q0V,q0V];exact q5Q (by omega) (by omega) (q0R K)
theorem fQ_K {z y:Int} (K:Nat) (hz:z≠0) (hy:y≠0):fQ 0 (z*(2:Int) ^ K) (y*(2:Int) ^ K)=rF 0 (decide (z < 0) != decide (y < 0)) z.natAbs y.natAbs:=by
 have hp:=q06 K;unfold fQ;rw [if_neg (Int.mul_ne_zero hz (Int.ne_of_gt hp)),qqL,qqL,rF_K K hz hy]
theorem qml:flz 1=4607182418800017408:=by
 have h1:flz 1=fQ 0 (1*(2:Int) ^ 65536) (1*(2:Int) ^ 65536):=by
  have:=qah (x:=1) (y:=1) (by omega) (by omega);rw [Int.one_mul] at this;exact this.symm
 rw [h1,fQ_K 65536 (by omega) (by omega)]
 show rF 0 false 1 1=4607182418800017408
 kernel_rfl
theorem quo32 (K:Nat):fQ 0 (3*(2:Int) ^ K) (2*(2:Int) ^ K)=4609434218613702656:=by
 rw [fQ_K K (by omega) (by omega)]
 show rF 0 false 3 2=4609434218613702656
 kernel_rfl
end Go.Sp
namespace Go.Proofs.YtjamnehcmaloeaaGreatDoor
open Go Go.E Go.Sp
def qcV:Fac:=⟨[0,1],[0,2,3],[0,1,1],[flz 2,flz 1,flz 2]⟩
theorem qee {z:Int} (h1:0 < z) (h2:z.natAbs≤9) {a:Nat} {l:List Nat} (hl:l[a]?=some (flz z)):∃ (x:Nat) (V:Int),l[a]?=some x∧ofF x=some V∧0 < V:=⟨_,_,hl,q4h (by omega),Int.mul_pos h1 (q06 _)⟩
theorem qnD:FacOk qcV:=by
 refine ⟨⟨fun x hx=>?_,by decide⟩,by decide,by simp [qcV],by simp [qcV],by simp [qcV],rfl,by simp [qcV],fun j hj=>?_,fun x hx=>?_⟩
 ·have hx':x ∈ ([0,1]:List Int):=hx;have hl:(qcV.pm.length:Int)=2:=rfl;rw [hl];simp at hx'; omega
 ·have hj':j < 2:=hj
  rcases (by omega:j=0∨j=1) with rfl | rfl
  ·refine ⟨0,2,rfl,rfl,by omega,by decide,rfl,⟨1,rfl,by decide⟩,fun i h1 h2=>?_,qee (z:=2) (by omega) (by omega) rfl⟩;obtain rfl:i=1:=by omega
   exact ⟨0,1,rfl,rfl,by omega⟩
  ·exact ⟨2,3,rfl,rfl,by omega,by decide,rfl,⟨1,rfl,by decide⟩,fun i h1 h2=>by omega,qee (z:=2) (by omega) (by omega) rfl⟩
 ·have hx':x ∈ [flz 2,flz 1,flz 2]:=hx;simp only [List.mem_cons,List.not_mem_nil,or_false] at hx';have hh:∀ z:Int,z.natAbs≤9→x=flz z→x < 18446744073709551616∧q0a x:=fun z hz h=>by rw [h]; exact ⟨qef (by omega),q7P (by omega)⟩
  exact hx'.elim (hh 2 (by omega)) fun h=>h.elim (hh 1 (by omega)) (hh 2 (by omega))
theorem qex {K:Nat} (hK:K=65536):q8h qcV [((0:Nat):Int),((1:Nat):Int)] [[(8:Int)*(2:Int) ^ K],[(7:Int)*(2:Int) ^ K]] [0,0]=some [flz 4,4609434218613702656]:=by
 have h2:ofZ (flz 2)=2*(2:Int) ^ K:=by rw [hK]; exact q0o (q4h (by omega))
 have hm:q6G (flz 1) (flz 4)=1*4*(2:Int) ^ K:=by rw [hK]; exact qhS (by omega) (by omega)
 rw [q4N (a:=0) (b:=2) (x:=flz 2) (r:=[(8:Int)*(2:Int) ^ K]) rfl rfl rfl rfl];have e1:fQ 0 (q1O [(8:Int)*(2:Int) ^ K]) (ofZ (flz 2))=flz 4:=by
  rw [qaA,h2];have:=qah (x:=4) (y:=2) (by omega) (by omega);rw [← hK] at this;exact this
 rw [e1,if_pos (q7P (by omega))];have e2:qcN qcV (flz 4) (0+1) (2-(0+1)) [[(8:Int)*(2:Int) ^ K],[(7:Int)*(2:Int) ^ K]]=[[(8:Int)*(2:Int) ^ K],[(7:Int)*(2:Int) ^ K,-(1*4*(2:Int) ^ K)]]:=by
  have:=q5b (f:=qcV) (q:=flz 4) (p:=1) (c:=0) (i:=1) (x:=flz 1) (rows:=[[(8:Int)*(2:Int) ^ K],[(7:Int)*(2:Int) ^ K]]) (r:=[(7:Int)*(2:Int) ^ K]) rfl rfl rfl;rw [hm] at this;exact this
 rw [e2,q4N (a:=2) (b:=3) (x:=flz 2) (r:=[(7:Int)*(2:Int) ^ K,-(1*4*(2:Int) ^ K)]) rfl rfl rfl rfl];have e3:q1O [(7:Int)*(2:Int) ^ K,-(1*4*(2:Int) ^ K)]=3*(2:Int) ^ K:=by
  have h1:=q2G [(7:Int)*(2:Int) ^ K] (-(1*4*(2:Int) ^ K));rw [qaA] at h1;have h2:([(7:Int)*(2:Int) ^ K] ++ [-(1*4*(2:Int) ^ K)])=[(7:Int)*(2:Int) ^ K,-(1*4*(2:Int) ^ K)]:=rfl;rw [h2] at h1;rw [h1]; omega
 rw [e3,h2,quo32,if_pos (by decide)]
 rfl
theorem qiL:q8h qcV (q7n 2) ([flz 8,flz 7].map fun x=>[ofZ x]) (List.replicate 2 0)=some [flz 4,4609434218613702656]:=by
 have h8:ofZ (flz 8)=8*(2:Int) ^ 65536:=q0o (q4h (by omega));have h7:ofZ (flz 7)=7*(2:Int) ^ 65536:=q0o (q4h (by omega));have hu:q7n 2=[((0:Nat):Int),((1:Nat):Int)]:=rfl;have hr:List.replicate 2 0=[0,0]:=rfl;rw [List.map_cons,List.map_cons,List.map_nil,h8,h7,hu,hr];exact qex rfl
theorem qiK {x:Nat} {l:List Int} (hl:∀ z ∈ l,z.natAbs≤9) (h:x ∈ l.map flz):x < 18446744073709551616∧q0a x:=by
 obtain ⟨z,hz,rfl⟩:=List.mem_map.1 h;have:=hl z hz;exact ⟨qef (by omega),q7P (by omega)⟩
theorem q7N {D:Nat→Prop} {z:Int} {w:World} (hT:q1r w) (hz:z.natAbs≤9) (hf:Fr D w):Calls Tryz.prog 55 #[.int .i64 z,.int .i64 0] w fun x w'=>x=.returned (.int .u64 (flz z:Nat))∧Ext w w' :=
 q5l hT (by omega) (by omega) (q9I (by have:=q0U (n:=z.natAbs) (k:=4) (by omega); omega)) hf
theorem q8H {α:Type} {f:α→Value} {xs:List α} {D:Nat→Prop} {w:World} {g E k:Nat} (hb:Blk w g E ⟨xs.map f⟩) (hk:k=xs.length) (hd:D g):In (fSc f xs) D (.slice (some ⟨g,0,none⟩) k k) w:=by
 subst hk;refine ⟨some ⟨g,0,none⟩,xs.length,xs.length,rfl,Nat.le_refl _,by simp,fun _=>⟨⟨g,0,none⟩,rfl,hd,fun j u hu=>?_⟩⟩;rw [q02,Nat.zero_add,hb.cell];simpa using hu
theorem qie {w:World} (hT:q1r w):Calls Tryz.prog 14 #[] w fun e w'=>e=.returned (.bool true)∧Ext w w':=by
 have hx:Ext w w:=Kp.refl _ _;have hf:Fr (fun _=>True) w:=Fr.triv _;obtain ⟨c2,hc2⟩:∃ c,c=flz 2:=⟨_,rfl⟩;obtain ⟨c4,hc4⟩:∃ c,c=flz 4:=⟨_,rfl⟩;obtain ⟨c8,hc8⟩:∃ c,c=flz 8:=⟨_,rfl⟩;obtain ⟨c7,hc7⟩:∃ c,c=flz 7:=⟨_,rfl⟩;have f2:=fun {w:World} (hT:q1r w)=>q7N (D:=fun _=>True) (z:=2) hT (by omega) (Fr.triv _);have f4:=fun {w:World} (hT:q1r w)=>q7N (D:=fun _=>True) (z:=4) hT (by omega) (Fr.triv _);have f8:=fun {w:World} (hT:q1r w)=>q7N (D:=fun _=>True) (z:=8) hT (by omega) (Fr.triv _);have f7:=fun {w:World} (hT:q1r w)=>q7N (D:=fun _=>True) (z:=7) hT (by omega) (Fr.triv _);rw [← hc2] at f2;rw [← hc4] at f4;rw [← hc8] at f8;rw [← hc7] at f7;refine q0I Tryz.func14 rfl Tryz.ntmps14 (by kernel_rfl) ?_;refine Wz ?_;refine q0A fun K hK=>?_;refine Zz ?_;refine Ck qcD (f2 (hT.ext hx)) fun w8 hx8=>?_;replace hx:=hx.trans hx8;clear hx8;refine Ck qcD (f4 (hT.ext hx)) fun w9 hx9=>?_;replace hx:=hx.trans hx9;clear hx9;refine Ck qcD (f8 (hT.ext hx)) fun w10 hx10=>?_;replace hx:=hx.trans hx10;clear hx10;refine Ck qcD (f7 (hT.ext hx)) fun w11 hx11=>?_;replace hx:=hx.trans hx11;clear hx11;refine hK _ _ ?_; clear hK;refine q0A fun K hK=>?_;refine Zz ?_;refine q12 fun w12 hx12 hb12 hs12=>?_;replace hx:=hx.trans hx12;have h12:In (fSc q1V [0,1]) (fun _=>True) _ w12:=q8H (k:=2) hb12 rfl trivial;refine q12 fun w13 hx13 hb13 hs13=>?_;replace h12:=h12.ext hx13;replace hx:=hx.trans hx13;have h13:In (fSc q1V [0,2,3]) (fun _=>True) _ w13:=q8H (k:=3) hb13 rfl trivial;refine q12 fun w14 hx14 hb14 hs14=>?_;replace h12:=h12.ext hx14;replace h13:=h13.ext hx14;replace hx:=hx.trans hx14;have h14:In (fSc q1V [0,1,1]) (fun _=>True) _ w14:=q8H (k:=3) hb14 rfl trivial;refine q12 fun w17 hx17 hb17 hs17=>?_;replace h12:=h12.ext hx17;replace h13:=h13.ext hx17;replace h14:=h14.ext hx17;replace hx:=hx.trans hx17;have h17:In (fSc q26 [c2,4607182418800017408,c2]) (fun _=>True) _ w17:=q8H (k:=3) hb17 rfl trivial;have hf5:In (qpD ⟨[0,1],[0,2,3],[0,1,1],[c2,4607182418800017408,c2]⟩) (fun _=>True) (.agg #[_,_,_,_]) w17:=⟨_,_,_,_,rfl,h12,h13,h14,h17⟩
 have hfd:(⟨[0,1],[0,2,3],[0,1,1],[c2,4607182418800017408,c2]⟩:Fac)=qcV:=by unfold qcV; rw [qml,hc2]
 rw [hfd] at hf5;replace hf5:=hf5.db (w':=w17);clear h12 h13 h14 h17 hfd hb12 hb13 hb14 hb17;refine Zz ?_;have hs0:=hx.size;refine q0k ?_;intro g w5 hg5 hx5 hb5 hs5;replace hf5:=hf5.ext hx5;replace hx:=hx.trans hx5;refine q0W hb5 qqC rfl rfl fun w6 hk6 hb6=>?_;replace hf5:=hf5.kpb hk6 fun k hk=>by omega
 replace hx:=hx.under hk6 fun k hk=>by have:=hx.size; omega
 refine hK _ _ ?_; clear hK;have h0:(0:Int)=0:=rfl;refine q0A fun K hK=>?_;refine Zz1 hb6.l4 ?_;refine q12 fun w23 hx23 hb23 hs23=>?_;replace hf5:=hf5.ext hx23;replace hb6:=hb6.ext hx23;replace hx:=hx.trans hx23;have h23:In (fSc q26 [flz 8,flz 7]) (fun _=>True) _ w23:=q8H (k:=2) (by rw [← hc8,← hc7]; exact hb23) rfl trivial;have hfin:q38 [flz 8,flz 7]:=fun x hx=>qiK (l:=[8,7]) (fun z hz=>by simp at hz; omega) hx;have hlow:=qeJ (hT.ext hx) hf5.all qnD h23 hfin rfl (Fr.triv _);rw [show q8h ⟨[0,1],[0,2,3],[0,1,1],[flz 2,flz 1,flz 2]⟩ (q7n 2) ([flz 8,flz 7].map fun x=>[ofZ x]) (List.replicate 2 0)=_ from qiL] at hlow;refine Cr qs9 hlow fun v24 w24 hx24 h24=>?_;replace hf5:=hf5.ext hx24;replace h23:=h23.ext hx24;replace hb6:=hb6.ext hx24;replace hx:=hx.trans hx24;obtain ⟨a24,b24,rfl,h25,h26⟩:=h24;have h26':b24=.int .i64 0:=h26;subst h26';obtain ⟨A25,n25,c25,rfl,h25'⟩:=id h25;have hl25:=In.sc_len h25;obtain rfl:n25=2:=hl25.symm;rw [← hc4] at h25;replace h25:In (fSc q26 [c4,4609434218613702656]) (fun _=>True) (.slice A25 2 c25) w24:=h25;obtain ⟨ad,rfl,i0,x0⟩:=h25.ixU (i:=0) rfl;obtain ⟨_,hcc,i1,x1⟩:=h25.ixU (i:=1) rfl;cases hcc;have i0':(0:Int)≤0∧(0:Int) < (2:Nat):=by omega
 have i1':(0:Int)≤1∧(1:Int) < (2:Nat):=by omega
 have x0':w24.cell? ad=some (.int .u64 c4):=x0;have x1':w24.cell? ⟨ad.block,ad.off+1,none⟩=some (.int .u64 (4609434218613702656:Nat)):=x1;have q1:((0:Int) == 0)=true:=rfl;have q2:(((2:Nat):Int) == 2)=true:=rfl;have q3:((c4:Int) == c4)=true:=by simp
 have q4:(((4609434218613702656:Nat):Int) == 4609434218613702656)=true:=rfl;have q5:(1:Int).toNat=1:=rfl;refine Zz ?_;refine hK _ _ ?_; clear hK;refine q0A fun K hK=>?_;simp -implicitDefEqProofs (disch:=omega) only [go_sem,Nat.reduceEqDiff,Nat.reduceAdd,↓reduceIte,q1,q2,q3,q4,i0',i1',x0',x1',q5,Int.toNat_zero];refine hK _ _ ?_; clear hK K;refine q0K ?_
 try simp only [q0D,q0O]
 refine q0n rfl ⟨by simp only [q0E,Nat.reduceEqDiff,↓reduceIte],hx⟩
section
variable {F:Nat→Nat→Option Nat} {l:List Int} {cs:List Nat} {cols:List (List Nat)} {j n M:Nat} {p:LSt}
theorem qjm (h1:p.2.1.length=p.2.2.length) (h2:∀ x ∈ p.2.2,x < 18446744073709551616):∀ (c:Nat) (q:LSt),lcC F l cs j p c=some q→q.2.1.length=p.2.1.length+c∧q.2.1.length=q.2.2.length∧∀ x ∈ q.2.2,x < 18446744073709551616
 | 0,q,h=>by cases h; exact ⟨rfl,h1,h2⟩
 | c+1,q,h=>by
  unfold lcC at h;cases hq:lcC F l cs j p c with
  | none=>rw [hq] at h; cases h
  | some r =>
   obtain ⟨a1,a2,a3⟩:=qjm h1 h2 c r hq;rw [hq,Option.bind_some] at h;cases hv:lcV (q1O (lcS F l r.1 (cs.getD c 0) j j)) r.1 (cs.getD c 0) j with
   | none=>rw [hv] at h; cases h
   | some v =>
    rw [hv] at h;cases h;refine ⟨by simp; omega,by simp; omega,fun x hx=>?_⟩
    rcases List.mem_append.1 hx with hx | hx
    ·exact a3 x hx
    ·simp at hx; subst hx; exact (qh1 hv).2
theorem qjl (hM:∀ j,(cols.getD j []).length≤M):∀ (j:Nat) (q:List Int × LSt),lcM F l cols j=some q→q.1.length=j+1∧q.2.2.1.length≤j*M∧q.2.2.1.length=q.2.2.2.length∧∀ x ∈ q.2.2.2,x < 18446744073709551616
 | 0,q,h=>by cases h; exact ⟨rfl,by simp,rfl,fun x hx=>by cases hx⟩
 | j+1,q,h=>by
  unfold lcM at h;cases hq:lcM F l cols j with
  | none=>rw [hq] at h; cases h
  | some r =>
   obtain ⟨a1,a2,a3,a4⟩:=qjl hM j r hq;rw [hq,Option.bind_some] at h;cases hc:lcC F l (cols.getD j []) j r.2 (cols.getD j []).length with
   | none=>rw [hc] at h; cases h
   | some s =>
    rw [hc] at h;cases h;obtain ⟨b1,b2,b3⟩:=qjm a3 a4 _ s hc;have:=hM j;refine ⟨by simp; omega,?_,b2,b3⟩;rw [Nat.succ_mul];dsimp only;omega
end
structure FSh (f:List Int × List Int × List Int × List Nat):Prop where
 p:f.1.length≤100
 c:f.2.1.length≤1000000
 r:f.2.2.1.length≤1000000
 v:f.2.2.2.length≤1000000
 u:∀ x ∈ f.2.2.2,x < 18446744073709551616
theorem qnC {raw:List Nat} {N k:Nat} (hN:N≤100):FSh (qpC raw N k):=by
 unfold qpC;have hl:=q7C raw N;have hM:∀ j,((q3G (adT (qcU (dfF (gF raw N k) N) (q3F raw N) N)) N N).getD j []).length≤N+1:=fun j=>by
  unfold q3G;rw [List.getD_eq_getElem?_getD,List.getElem?_map]
  rcases Nat.lt_or_ge j N with hj | hj
  ·rw [List.getElem?_range hj]; exact qap
  ·rw [List.getElem?_eq_none (by simpa using hj)]; simp
 generalize q3G (adT (qcU (dfF (gF raw N k) N) (q3F raw N) N)) N N=cols at *;unfold q7K;cases hq:lcM (dfF (gF raw N k) N) (q3F raw N) cols N with
 | none=>exact ⟨by simp,by simp,by simp,by simp,by simp⟩
 | some q =>
  obtain ⟨a1,a2,a3,a4⟩:=qjl hM N q hq;have:N*(N+1)≤100*101:=Nat.mul_le_mul hN (by omega);exact ⟨by dsimp only; omega,by dsimp only; omega,by dsimp only; omega,by dsimp only; omega,a4⟩
theorem qif:ACt 14 [] (bv true):=qgP qs8 fun D w vs hT hF hR=>by
 unfold RdL at hR;subst hR;exact qie hT
theorem qcb {raw:List Nat} {k:Int} {st n:Nat}:q38 (q8n raw k st n):=fun x hx=>by
 unfold q8n at hx;obtain ⟨i,_,rfl⟩:=List.mem_map.1 hx;have:=qdv (k:=st) (q3j raw (k+i));exact ⟨this.2,this.1⟩
theorem qeL {L:List (List Nat)} {b:List Nat}:∀ (m k:Nat) (ys zs:List Nat),loF L b m k ys=some zs→zs.length=ys.length
 | 0,_,_,_,h=>by cases h; rfl
 | m+1,k,ys,zs,h=>by
  rw [loF] at h
  split at h
  ·rw [qeL m (k+1) _ zs h,List.length_set]
  ·cases h
theorem qcg {L:List (List Nat)} {b:List Nat} {n:Nat}:∀ (k:Nat) (ys zs:List Nat),upF L b n k ys=some zs→zs.length=ys.length
 | 0,_,_,h=>by cases h; rfl
 | k+1,ys,zs,h=>by
  rw [upF] at h
  split at h
  ·rw [qcg k _ zs h,List.length_set]
  ·cases h
theorem qjs {o:Option (List Nat)} {M:Nat} (h:∀ ys,o=some ys→ys.length=M):∃ (ys:List Nat) (e:Int),fwP o=.tu [pF ys,iv e]∧ys.length≤M:=by
 cases o with
 | none=>exact ⟨[],233,rfl,Nat.zero_le _⟩
 | some ys=>exact ⟨ys,0,rfl,Nat.le_of_eq (h ys rfl)⟩
theorem qpz {F:List Int × List Int × List Int × List Nat} {l:List Nat}:∃ (ys:List Nat) (e:Int),qlZ F l=.tu [pF ys,iv e]∧ys.length≤F.1.length:=by
 unfold qlZ
 split
 ·exact ⟨[],_,rfl,Nat.zero_le _⟩
 ·exact qjs fun ys h=>by rw [qeL _ _ _ _ h,List.length_replicate]
theorem qp2 {F:List Int × List Int × List Int × List Nat} {l:List Nat}:∃ (ys:List Nat) (e:Int),qor F l=.tu [pF ys,iv e]∧ys.length≤F.1.length:=by
 unfold qor
 split
 ·exact ⟨[],_,rfl,Nat.zero_le _⟩
 ·exact qjs fun ys h=>by rw [qcg _ _ _ h,List.length_replicate]
theorem qgl {raw:List Nat} {n st:Nat} {sp:Int}:(∀ x ∈ qb8 raw n st sp,x < 18446744073709551616)∧(qb8 raw n st sp).length≤n+1:=by
 have hb:q38 (q8n raw 30 st n):=qcb;have hl:(q8n raw 30 st n).length=n:=q6h;unfold qb8
 split
 ·refine ⟨fun x hx=>?_,by simp; omega⟩
  rcases List.mem_append.1 hx with hx | hx
  ·exact (hb x hx).1
  ·simp at hx; omega
 split
 ·refine ⟨fun x hx=>?_,by rw [List.length_set]; omega⟩
  rcases List.mem_or_eq_of_mem_set hx with hx | rfl
  ·exact (hb x hx).1
  ·exact q3j raw 1
 ·exact ⟨fun x hx=>(hb x hx).1,by omega⟩
theorem q8w {raw:List Nat} {n st kd sp:Int} (hr:raw.length≤9223372036854775807) (h1 : -9223372036854775808≤n) (h2:n≤9223372036854775807) (h3 : -9223372036854775808≤st) (h4:st≤9223372036854775807) (h5 : -9223372036854775808≤kd) (h6:kd≤9223372036854775807) (h7 : -9223372036854775808≤sp) (h8:sp≤9223372036854775807) :
  ACt 5 [pF raw,iv n,iv st,iv kd,iv sp] (bv true):=by
 have hN:q1A n 6 < 6:=by unfold q1A; omega
 have hpm:=qhO raw (q1A n 6);have hll:=q7C raw (q1A n 6);have cF:=qew hr h1 h2 h3 h4 ⟨by omega,fun x hx=>by have:=hpm.1 x hx; omega,hpm.2⟩;have hsh:=qnC (raw:=raw) (N:=q1A n 6) (k:=q1A (q1A st 3:Nat) 4) (by omega);obtain ⟨pm,cp,ri,vs,hf⟩:∃ pm cp ri vs,qpC raw (q1A n 6) (q1A (q1A st 3:Nat) 4)=(pm,cp,ri,vs):=⟨_,_,_,_,rfl⟩;rw [hf] at cF hsh;clear hf hpm hll;obtain ⟨hp,hc,hri,hv,hu⟩:=hsh;dsimp only at hp hc hri hv hu;have cS:=ql2 (raw:=raw) (st:=kd) (spoil:=sp) (n:=pm.length) hr (by omega) h5 h6 h7 h8;obtain ⟨hbu,hbl⟩:=qgl (raw:=raw) (n:=pm.length) (st:=q1A kd 4) (sp:=sp);generalize qb8 raw pm.length (q1A kd 4) sp=b at *;have cL:=qdT (l:=b) (by omega:pm.length≤1000000) hc hri hv hu hbu (by omega);have cLz:=qbT (l:=b) (by omega:pm.length≤1000000) hc hri hv hu hbu (by omega);have cU:=qdS (l:=b) (by omega:pm.length≤1000000) hc hri hv hu hbu (by omega);have cUz:=qbS (l:=b) (by omega:pm.length≤1000000) hc hri hv hu hbu (by omega);obtain ⟨y1,e1,q1,l1⟩:=qpz (F:=(pm,cp,ri,vs)) (l:=b);obtain ⟨y2,e2,q2,l2⟩:=qp2 (F:=(pm,cp,ri,vs)) (l:=b);dsimp only at l1 l2;rw [q1] at cL cLz;rw [q2] at cU cUz;clear q1 q2;have k1:=q66 (l:=y1) (by omega);have k2:=q66 (l:=y2) (by omega);have cA:=qif;have r1:(e1 == e1)=true:=by simp
 have r2:(e2 == e2)=true:=by simp
 unfold q2I at *;dsimp only at *;refine ac0 Tryz.func5 Tryz.ntmps5 [.tmp 10] ?_;exact wk1 (x2 r1 r2) trivial
open Go.ChangeShapes Go.WideShapes Go.ChangeAt Go.WideMaps Go.WideElems Go.RowKit
set_option maxRecDepth 100000
abbrev qh3 : List (String × DataW Unit) := [("math/bits.deBruijn32tab", Rows.laid_math_bits_deBruijn32tab)]
theorem own:ownKnob Tryz.prog.godebug=none:=by kernel_rfl
theorem qiY (os:Os) (args:Array Value):laidMetH Tryz.prog qh3 ((World.doorLaid Tryz.prog 400 os).forCall (fun _ _=>0) ⟨#[],args,[]⟩).memory :=
 laidMetH_of_parts3 (fuel:=8) (laidMet_of_run' 8 (by kernel_rfl) (by kernel_rfl)) (by kernel_rfl) (by kernel_rfl)
theorem undW:Tryz.prog.underlying 22=some (.slice 39):=by kernel_rfl
theorem cellU:Tryz.prog.cellsOf 39=1:=by kernel_rfl
theorem qh6 {H:Type} {enc:TypeId × Value→H} {W:World} {v:Value} {d:DataW H} {p:List MemPlace} {b0:Nat} (hv:Value.okWide Tryz.prog W .any b0 22 v) (h:DataW.Trod enc Tryz.prog W 0 (fun _=>true) true 22 v d p) :
  ∃ A n c raw,v=.slice A n c∧n≤9223372036854775807∧In (fSc q26 raw) (fun _=>True) (.slice A n c) W:=by
 obtain ⟨A,n,c,rfl⟩:=okWide_slice undW hv;obtain ⟨fuel,hf⟩:=h
 rcases open_ints undW qp4 cellU hf with ⟨h1,_⟩ | ⟨a,len,cap,zs,h1,_,hl,hm,hz,_,hc,hw⟩
 ·injection h1 with h1 _
  injection h1 with h1 h2 h3
  subst h1; subst h2; subst h3;exact ⟨_,_,_,[],rfl,by omega,In.sc_nil⟩
 ·injection h1 with h1 _
  injection h1 with h1 h2 h3
  subst h1; subst h2; subst h3;have hz':zs.length=c:=by simpa using hz
  refine ⟨_,_,_,(zs.take n).map Int.toNat,rfl,by unfold maxLen at hm; omega,some a,n,c,rfl,hl,by simp; omega,fun _=>⟨a,rfl,trivial,fun j u hu=>?_⟩⟩;rw [List.getElem?_map,List.getElem?_map,List.getElem?_take] at hu
  split at hu
  ·rename_i hj;have hjz:j < zs.length:=by omega
   rw [List.getElem?_eq_getElem hjz] at hu;have h0:=hc j hjz;rw [List.getD_eq_getElem?_getD,List.getElem?_eq_getElem hjz] at h0;have h1:=hw zs[j] (List.getElem_mem _);simp only [Lit.wf,Bool.and_eq_true,decide_eq_true_eq] at h1;have h2:(0:Int)≤zs[j]:=h1.1;rw [h0,← Option.some.inj hu]
   show some (Value.int .u64 zs[j])=some (Value.int .u64 ((zs[j].toNat:Nat):Int))
   rw [Int.toNat_of_nonneg h2]
  ·cases hu
set_option maxRecDepth 100000
theorem q7o {H:Type} {enc:TypeId × Value→H} {P:Program} {w:World} {base:Nat} {spare:Nat→Bool} {held:Bool} {t t' t'' t3 t4:TypeId} {args:Array Value} {ds:List (DataW H)} {ps:List MemPlace} (h:DataW.TrodAll enc P w base spare held [t,t',t'',t3,t4] args.toList ds ps) :
  ∃ v v' v'' v3 v4 d d' d'' d3 d4 p p' p'' p3 p4,args=#[v,v',v'',v3,v4]∧ds=[d,d',d'',d3,d4]∧DataW.Trod enc P w base spare held t v d p∧DataW.Trod enc P w base spare held t' v' d' p'∧DataW.Trod enc P w base spare held t'' v'' d'' p''∧DataW.Trod enc P w base spare held t3 v3 d3 p3∧DataW.Trod enc P w base spare held t4 v4 d4 p4:=by
 obtain ⟨v,vs,d,ds',p,q,hargs,rfl,rfl,hd,hrest⟩:=trodAll_cons h;obtain ⟨v',vs',d',ds'',p',q',rfl,rfl,rfl,hd',hrest'⟩:=trodAll_cons hrest;obtain ⟨v'',vs'',d'',ds3,p'',q'',rfl,rfl,rfl,hd'',hrest''⟩:=trodAll_cons hrest';obtain ⟨v3,vs3,d3,ds4,p3,q3,rfl,rfl,rfl,hd3,hrest3⟩:=trodAll_cons hrest'';obtain ⟨v4,vs4,d4,ds5,p4,q4,rfl,rfl,rfl,hd4,hrest4⟩:=trodAll_cons hrest3;obtain ⟨rfl,rfl,rfl⟩:=trodAll_nil hrest4;exact ⟨v,v',v'',v3,v4,d,d',d'',d3,d4,p,p',p'',p3,p4,by cases args; simp_all,rfl,hd,hd',hd'',hd3,hd4⟩
theorem qgz {w:World} {D:Nat→Prop} {ρ:Nat→Option Nat} {h:Hp} {x y z t u:PV} {a b c d e:Value} (h1:Rd w D x ρ h a) (h2:Rd w D y ρ h b) (h3:Rd w D z ρ h c) (h4:Rd w D t ρ h d) (h5:Rd w D u ρ h e):RdL w D [x,y,z,t,u] ρ h [a,b,c,d,e]:=by
 unfold RdL;refine ⟨_,_,rfl,h1,?_⟩;unfold RdL;refine ⟨_,_,rfl,h2,?_⟩;unfold RdL;refine ⟨_,_,rfl,h3,?_⟩;unfold RdL;refine ⟨_,_,rfl,h4,?_⟩;unfold RdL;exact ⟨_,_,rfl,h5,by unfold RdL; rfl⟩
theorem qb2 (os:Os) (started:os.Started) (H:Type) (enc:TypeId × Value→H) :
  ReturnsInHanded {} Tryz.checked os 5 .any (fun w args=>(Rows.solveTriangularSpec.pre enc Tryz.prog Tryz.f5 [] false w args∧laidMetH Tryz.prog qh3 w)∧sizedMet enc Tryz.prog Tryz.f5 (OpenSpec.ofChange Rows.solveTriangularSpec) false w args)
   (Rows.solveTriangularSpec.post enc Tryz.prog Tryz.f5 false true false false):=by
 refine returnsInHanded_of_change_and (C:=Tryz.checked) (X:=fun w _=>laidMetH Tryz.prog qh3 w) (fun _ _ _ hh h=>h.of_heap hh) own started (by kernel_rfl) Tryz.func5
  (ChangeSpec.witness_shaped (enc:=enc) (C:=Tryz.checked) (os:=os) (X:=fun w _=>laidMetH Tryz.prog qh3 w) false (World.doorLaid Tryz.prog 400 os) #[.slice none 0 0,.int .i64 0,.int .i64 0,.int .i64 0,.int .i64 0] 8 rfl (World.shaped_of_RefB (by kernel_rfl) (by kernel_rfl)) (by kernel_rfl) (by kernel_rfl) (by kernel_rfl) (qiY os _)) ?_
 intro W base args ds gs before hval0 hW _ _ hL _;have hval:∀ (j:Nat) t v,Tryz.f5.params[j]?=some t→args[j]?=some v→Value.okWide Tryz.prog W .any base t v:=hval0;have hW':DataW.Whole enc Tryz.prog Tryz.f5.params.toList Rows.solveTriangularSpec.vars false W args.toList ds gs before:=hW;obtain ⟨p,q,hA0,hV,rfl,_,_⟩:=hW;have hA:DataW.TrodAll enc Tryz.prog W 0 (fun _=>true) true [22,3,3,3,3] args.toList ds p:=hA0;obtain ⟨v0,v1,v2,v3,v4,d0,d1,d2,d3,d4,p0,p1,p2,p3,p4,rfl,rfl,h0,h1,h2,h3,h4⟩:=q7o hA;obtain ⟨rfl,rfl⟩:=trodVars_none hV;obtain ⟨A,n,c,raw,rfl,hn,hin⟩:=qh6 (hval 0 22 _ rfl rfl) h0;obtain ⟨N,rfl,_,_,hN⟩:=open_int qp6 (hval 1 3 _ rfl rfl) h1;obtain ⟨S,rfl,_,_,hS⟩:=open_int qp6 (hval 2 3 _ rfl rfl) h2;obtain ⟨T,rfl,_,_,hT⟩:=open_int qp6 (hval 3 3 _ rfl rfl) h3;obtain ⟨U,rfl,_,_,hU⟩:=open_int qp6 (hval 4 3 _ rfl rfl) h4;simp only [Lit.wf,Bool.and_eq_true,decide_eq_true_eq] at hN hS hT hU;have hc:=q8w (raw:=raw) (by rw [hin.sc_len]; exact hn) hN.1 hN.2 hS.1 hS.2 hT.1 hT.2 hU.1 hU.2;refine (hc.2 _ W [_,_,_,_,_] (qlO hL) (Fr.triv _) (qgz (qd7 hin) q2j q2j q2j q2j)).mono fun e W' ⟨v,he,hx,hr⟩=>?_;rw [q3S hr] at he;subst he;exact ⟨_,rfl,qh2 rfl hW' (by kernel_rfl) rfl rfl hx⟩
theorem q3P:Rows.SolveTriangularSaid :=
 OpenClaim.holds_of_wide 5 Tryz.f5 rfl rfl rfl rfl rfl rfl rfl ⟨rfl,rfl,rfl,rfl,rfl⟩ rfl rfl rfl rfl rfl (by kernel_rfl) Tryz.func5 (by kernel_rfl)
  (of_decide_eq_true (by kernel_rfl)) (by unfold Func.isWrapper; first | (rw [if_pos (by decide +kernel)]; kernel_rfl) | (rw [if_neg (by decide +kernel)]; exact ⟨rfl,rfl⟩))
  (fun os started H enc _=>qb2 os started H enc)
set_option maxRecDepth 100000
theorem triangular_card:Rows.SolveTriangularCardSaid :=
 Claim7.holds_tied_plain_at .later [] [.data] true (true, "464a4fd313f0180230b5c370bf121eef3086acb9d2b3de5492cb098bc9e9bc3a") false
  q3P (fun _ h=>by cases h) (by kernel_rfl) (fun _ h=>by cases h) solveTriangular_row_tie rfl ⟨rfl,rfl⟩ (by kernel_rfl) rfl
  (fun f fn hf hfn=>by
   obtain rfl : f = 5 := Option.some.inj ((show Tryz.prog.funcNamed "sparse/sparselaw28.SolveTriangular" = some 5 by kernel_rfl).symm.trans hf) |>.symm;obtain rfl:fn=Tryz.f5:=(Option.some.inj (Tryz.func5.symm.trans hfn)).symm;exact ⟨by kernel_rfl,fun j t ht=>by
    have hm:t ∈ [22,3,3,3,3]:=by simpa using Array.mem_of_getElem? ht
    have hall:([22,3,3,3,3].all fun u=>!Tryz.prog.wantsStandIn u)=true:=by kernel_rfl
    exact (show Tryz.prog.wantsStandIn t=false by simpa using List.all_eq_true.1 hall t hm)⟩)
  (by kernel_rfl)
#print axioms triangular_card
end Go.Proofs.YtjamnehcmaloeaaGreatDoor
