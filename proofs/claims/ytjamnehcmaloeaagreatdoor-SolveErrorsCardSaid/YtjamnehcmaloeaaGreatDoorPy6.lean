/- SolveErrors answers true for every input: proved in full, under the card as given (the laid table of math/bits is tied to the text). Part 6 of 6: U1, T37, G5, L5, T38, L6, L7, L4, T39, T40, Lr, Es, EsC. -/
import Derived.SevenTiedAt
import Derived.Test.YtjamnehcmaloeaaGreatDoorCards
import Derived.Test.YtjamnehcmaloeaaGreatDoorTie
import Derived.Test.YtjamnehcmaloeaaGreatDoorPy5
set_option linter.unusedSimpArgs false
set_option linter.unusedVariables false
set_option maxRecDepth 20000
set_option maxHeartbeats 2000000
namespace Go.Proofs.YtjamnehcmaloeaaGreatDoor
open Go Go.E Go.Sp
theorem qiw {w:World} {D:Nat→Prop} {ρ:Nat→Option Nat} {h:Hp} {v:Value} {pm cp ri:List Int} {vs:List Nat} (hr:Rd w D (q5n (pm,cp,ri,vs)) ρ h v):In (qok ⟨pm,cp,ri,vs⟩) D v w:=by
 unfold q5n Rd at hr;obtain ⟨l,rfl,h1⟩:=hr;obtain ⟨_,_,_,_,rfl,h1,h2,h3,h4⟩:=rd_4 h1;obtain ⟨A1,n1,c1,rfl,i1⟩:=q6u (f:=q1f) h1;obtain ⟨A2,n2,c2,rfl,i2⟩:=q6u (f:=q1f) h2;obtain ⟨A3,n3,c3,rfl,i3⟩:=q6u (f:=q1f) h3;obtain ⟨A4,n4,c4,rfl,i4⟩:=q6u (f:=q3l) h4;exact ⟨_,_,_,_,rfl,i1,i2,i3,i4⟩
theorem q3t {l:List Int} {a b p:Nat} (h:a+p < b):((l.take b).drop a)[p]?=l[a+p]?:=by
 rw [List.getElem?_drop,List.getElem?_take,if_pos h]
theorem qa0 {pm cp ri:List Int} {vs:List Nat} (h:qbh (pm,cp,ri,vs)=0) (hr:ri.length≤1000000) (hu:∀ x ∈ vs,x < 18446744073709551616):FacOk ⟨pm,cp,ri,vs⟩:=by
 unfold qbh at h;dsimp only at h
 split at h
 ·cases h
 split at h
 ·cases h
 split at h
 ·cases h
 split at h
 ·cases h
 split at h
 case isFalse=>cases h
 rename_i h1 h2 h3 h4 h5;obtain ⟨h5,h6⟩:=h5;have h2:=Classical.not_not.1 h2;have h4:=Classical.not_not.1 h4;refine ⟨⟨fun x hx=>h2.2.1 x hx,h2.2.2⟩,by dsimp only; omega,by dsimp only; omega,by dsimp only; omega,hr,h4.c0,h4.cn,fun j hj=>?_,fun x hx=>⟨hu x hx,h5 x hx⟩⟩;obtain ⟨a,b,ha,hb,hab,hbr,hc⟩:=h4.col j hj;have hl:((ri.take b).drop a).length=b-a:=by simp; omega
 have hlt:a < b:=by
  have:=(List.getElem?_eq_some_iff.1 hc.f).1;omega
 refine ⟨a,b,ha,hb,hlt,hbr,?_,?_,?_,?_⟩
 ·have:=hc.f
  rwa [q3t (by omega)] at this
 ·obtain ⟨z,hz⟩:∃ z,ri[b-1]?=some z:=⟨_,List.getElem?_eq_getElem (by omega)⟩;refine ⟨z,hz,hc.l z ?_⟩;rw [hl,q3t (by omega),show a+(b-a-1)=b-1 by omega];exact hz
 ·intro i h7 h8;obtain ⟨y,hy⟩:∃ z,ri[i-1]?=some z:=⟨_,List.getElem?_eq_getElem (by omega)⟩;obtain ⟨z,hz⟩:∃ z,ri[i]?=some z:=⟨_,List.getElem?_eq_getElem (by omega)⟩;refine ⟨y,z,hy,hz,hc.m (i-1-a) y z ?_ ?_⟩
  ·rw [q3t (by omega),show a+(i-1-a)=i-1 by omega]; exact hy
  ·rw [q3t (by omega),show a+(i-1-a+1)=i by omega]; exact hz
 ·obtain ⟨x,hx⟩:∃ x,vs[a]?=some x:=⟨_,List.getElem?_eq_getElem (by omega)⟩;exact ⟨x,ofZ x,hx,q1R (h5 x (List.mem_of_getElem? hx)),h6 j hj a x ha hx⟩
def fwP:Option (List Nat)→PV
 | some ys=>.tu [pF ys,iv 0]
 | none=>.tu [pF [],iv 233]
noncomputable def lowR (f:List Int × List Int × List Int × List Nat) (l:List Nat):PV :=
 if qbh f≠0 then .tu [pF [],iv (qbh f)] else fwP (q8H ⟨f.1,f.2.1,f.2.2.1,f.2.2.2⟩ (q74 l.length) (l.map fun x=>[ofZ x]) (List.replicate l.length 0))
theorem qdE {w:World} {D:Nat→Prop} {ρ:Nat→Option Nat} {h:Hp} {v:Value} {l:List Nat} (hr:In (fSc q3l l) D v w):Rd w D (pF l) ρ h v:=qcv (f:=q3l) (fun x=>⟨rfl,rfl⟩) hr
theorem qqC {o:Option (List Nat)} {w:World} {D:Nat→Prop} {ρ:Nat→Option Nat} {h:Hp} {v:Value} (hr:In (qrL o) D v w):Rd w D (fwP o) ρ h v:=by
 cases o with
 | some ys =>
  obtain ⟨a,b,rfl,h1,h2⟩:=hr;unfold fwP Rd;refine ⟨[a,b],rfl,?_⟩;unfold RdL;refine ⟨_,_,rfl,qdE h1,?_⟩;unfold RdL;exact ⟨_,_,rfl,by unfold Rd; exact h2,by unfold RdL; rfl⟩
 | none =>
  obtain ⟨a,b,rfl,h1,h2⟩:=hr;unfold fwP Rd;refine ⟨[a,b],rfl,?_⟩;unfold RdL;refine ⟨_,_,rfl,qdE h1,?_⟩;unfold RdL;exact ⟨_,_,rfl,by unfold Rd; exact h2,by unfold RdL; rfl⟩
theorem qe7 {l:List Nat} (hl:qbb l) (hn:l.length≤1000000):ACt 86 [pF l] (iv 0):=by
 refine ac0 Tryz.func86 Tryz.ntmps86 [.tmp 2] ?_;refine wk ?_;refine q0V (fun i=>i≤l.length) [0,5,6] [] Lk Lk (fun i:Nat=>[(7,iv i)]) (fun _=>[]) (fun i=>l.length-i) 0 (Nat.zero_le _) ?_ ?_
 ·refine LeM [] rfl rfl ?_;refine Zz ?_
  rfl
 ·intro i hi
  by_cases hlt:i < l.length
  ·obtain ⟨x,hx⟩:∃ x,l[i]?=some x:=⟨_,List.getElem?_eq_getElem hlt⟩;obtain ⟨h1,h2⟩:=hl x (List.mem_of_getElem? hx);have C1:=qed h1;refine wk1 (x2 hx (decide_eq_true h2)) ?_;refine ⟨i+1,by omega,by omega,?_⟩;refine LeM [] rfl rfl ?_;refine Zz ?_;omega
  ·exact wk trivial
theorem qso {n:Nat} (hn:n≤1000000):ACt 54 [iv n] (pI (q74 n)):=by
 have hl:=q9c;refine ac0 Tryz.func54 Tryz.ntmps54 [.tmp 2] ?_;refine wk ?_;refine q0V (fun i=>i≤n) [5] [] Lk Lk (fun i:Nat=>[(6,iv i),(3,.ow 1001 none 0 i)]) (fun i=>[(1001,⟨3,none,(q74 i).map fun z=>iv z,false⟩)]) (fun i=>n-i) 0 (Nat.zero_le _) ?_ ?_
 ·refine LeM [(1001,none)] rfl rfl ?_;refine Zz ?_;exact ⟨rfl,rfl⟩
 ·intro i hi
  by_cases hlt:i < n
  ·refine wk1 (hl i) ?_;refine ⟨i+1,by omega,by omega,?_⟩;refine LeM [(1001,some 12)] rfl rfl ?_;refine Zz ?_;exact ⟨by omega,by rw [qcS]⟩
  ·obtain rfl:i=n:=by omega
   exact wk1 (hl i) trivial
theorem qqw {f:List Int × List Int × List Int × List Nat} {ps:List Int} {l:List Nat} (ho:FacOk ⟨f.1,f.2.1,f.2.2.1,f.2.2.2⟩) (hl:qbb l) (hn:l.length=f.1.length) (hps:∀ x ∈ ps,0≤x∧x < l.length) (hpl:ps.length≤200) :
  ACt 53 [q5n f,pF l,pI ps] (fwP (q8H ⟨f.1,f.2.1,f.2.2.1,f.2.2.2⟩ ps (l.map fun x=>[ofZ x]) (List.replicate l.length 0))):=q14 (r:=.fm (qrL _)) (fun D w v h=>qqC (q2p h)) (q53 qsC fun D w vs hT hF hR=>by
 obtain ⟨_,_,_,rfl,h3,h4,h5⟩:=qqD hR;obtain ⟨A,n,c,rfl,h6⟩:=q6u (f:=q3l) h4;obtain ⟨A2,n2,c2,rfl,h7⟩:=q6u (f:=q1f) h5;obtain rfl:n=l.length:=h6.sc_len.symm;obtain rfl:n2=ps.length:=h7.sc_len.symm;exact qb9 hT (qiw h3) ho h6 hl hn h7 hps hpl hF)
theorem qaN {pm cp ri:List Int} {vs l:List Nat} (hp:pm.length≤1000000) (hc:cp.length≤1000000) (hr:ri.length≤1000000) (hv:vs.length≤1000000) (hu:∀ x ∈ vs,x < 18446744073709551616) (hl:qbb l) (hn:l.length=pm.length) :
  ACt 13 [q5n (pm,cp,ri,vs),pF l] (lowR (pm,cp,ri,vs) l):=by
 have cC:=qiH hp hc hr hv hu;have cF:=qe7 hl (by omega);have cV:ACt 94 [pF l,iv l.length] (iv 0):=by
  refine ac0 Tryz.func94 Tryz.ntmps94 [.tmp 4] ?_;exact wk trivial
 have cR:ACt 52 [q5n (pm,cp,ri,vs),pF l] (iv (qbh (pm,cp,ri,vs))):=by
  generalize qbh (pm,cp,ri,vs)=res at *;unfold q5n at *;dsimp only at *;refine ac0 Tryz.func52 Tryz.ntmps52 [.tmp 4] ?_
  by_cases h0:res=0
  ·exact wk1 (x2 h0 hn.symm) trivial
  ·exact wk trivial
 unfold lowR
 by_cases h0:qbh (pm,cp,ri,vs)=0
 ·have ho:=qa0 h0 hr hu;rw [if_neg (not_not_intro h0)];have hnb:=ho.n;have cA:=qso (n:=l.length) (by omega);have cW:=qqw (f:=(pm,cp,ri,vs)) (ps:=q74 l.length) ho hl hn (fun x hx=>by unfold q74 at hx; simp at hx; omega) (by rw [q9c]; dsimp only at hnb; omega);dsimp only at cW ⊢;rw [h0] at cR;generalize q8H ⟨pm,cp,ri,vs⟩ (q74 l.length) (l.map fun x=>[ofZ x]) (List.replicate l.length 0)=res at *;unfold q5n at *;dsimp only at *;refine ac0 Tryz.func13 Tryz.ntmps13 [.tmp 4,.tmp 5] ?_;cases res
  ·unfold fwP at *;exact wk trivial
  ·unfold fwP at *;exact wk trivial
 ·rw [if_pos h0];generalize qbh (pm,cp,ri,vs)=res at *;unfold q5n at *;dsimp only at *;refine ac0 Tryz.func13 Tryz.ntmps13 [.tmp 4,.tmp 5] ?_;exact wk trivial
theorem qnU {pm cp ri:List Int} {vs:List Nat} (ho:FacOk ⟨pm,cp,ri,vs⟩):qbh (pm,cp,ri,vs)=0:=by
 have hn:=ho.n;have hcl:=ho.cpl;have hrl:=ho.ril;dsimp only at hn hcl hrl;have hS:FStr pm.length cp ri:=⟨ho.c0,ho.cn,fun j hj=>by
  obtain ⟨a,b,hc⟩:=ho.col j hj;have h1:=hc.lt;have h2:=hc.le;dsimp only at h2;have hl:((ri.take b).drop a).length=b-a:=by simp; omega
  refine ⟨a,b,hc.ha,hc.hb,by omega,hc.le,?_,fun z hz=>?_,fun i x y hx hy=>?_⟩
  ·rw [q3t (by omega)]; exact hc.first
  ·rw [hl,q3t (by omega),show a+(b-a-1)=b-1 by omega] at hz;obtain ⟨y,hy,hy2⟩:=hc.last;dsimp only at hy;rw [hy] at hz; cases hz; exact hy2
  ·have:=(List.getElem?_eq_some_iff.1 hy).1;rw [q3t (by omega)] at hx hy;obtain ⟨u,v,hu,hv,huv⟩:=hc.inc (a+(i+1)) (by omega) (by omega);dsimp only at hu hv;rw [show a+(i+1)-1=a+i by omega,hx] at hu;rw [hy] at hv;cases hu; cases hv; exact huv⟩
 have hD:FDg pm.length cp vs:=fun j hj a x ha hx=>by
  obtain ⟨a',b,hc⟩:=ho.col j hj;have h1:=hc.ha;dsimp only at h1;rw [ha] at h1;obtain ⟨y,V,d1,d2,d3⟩:=hc.diag;obtain rfl:a=a':=by injection h1 with h1; omega
  dsimp only at d1;rw [hx] at d1; cases d1;rw [q0g d2]; exact d3
 unfold qbh;dsimp only;rw [if_neg (by omega),if_neg (not_not_intro ⟨rfl,ho.perm.1,ho.perm.2⟩),if_neg (by omega),if_neg (not_not_intro hS),if_pos ⟨fun x hx=>(ho.vals x hx).2,hD⟩]
theorem qqv {o:Option (List Nat)} {w:World} {D:Nat→Prop} {v:Value} (hr:Rd w D (fwP o) (fun _=>none) h0 v):In (qrL o) D v w:=by
 cases o <;> unfold fwP Rd at hr <;> obtain ⟨_,rfl,h1⟩:=hr <;> obtain ⟨_,_,rfl,h2,h3⟩:=q4d h1 <;> obtain ⟨A,n,c,rfl,h4⟩:=q6u (f:=q3l) h2 <;> exact ⟨_,_,rfl,h4,q3G h3⟩
theorem qdk {D:Nat→Prop} {pm cp ri:List Int} {vs:List Nat} {v:Value} {A:Option Addr} {n c:Nat} {l:List Nat} {w:World} (hT:q2J w) (h:In (qok ⟨pm,cp,ri,vs⟩) D v w) (ho:FacOk ⟨pm,cp,ri,vs⟩) (hb:In (fSc q3l l) D (.slice A n c) w) (hl:qbb l) (hn:n=pm.length)
  (hf:Fr D w):Calls Tryz.prog 13 #[v,.slice A n c] w (Rt (qrL (q8H ⟨pm,cp,ri,vs⟩ (q74 n) (l.map fun x=>[ofZ x]) (List.replicate n 0))) D w):=by
 obtain rfl:n=l.length:=hb.sc_len.symm;have h1:=ho.n;have h2:=ho.cpl;have h3:=ho.ril;have h4:=ho.rib;dsimp only at h1 h2 h3 h4;have cL:=qaN (pm:=pm) (cp:=cp) (ri:=ri) (vs:=vs) (by omega) (by omega) h4 (by omega) (fun x hx=>(ho.vals x hx).1) hl hn;unfold lowR at cL;rw [if_neg (not_not_intro (qnU ho))] at cL;obtain ⟨_,_,_,_,rfl,i1,i2,i3,i4⟩:=h;refine (cL.2 D w [_,_] hT hf ?_).mono fun x w' ⟨v,h1,h2,h3⟩=>⟨v,h1,h2,qqv h3⟩;unfold RdL;refine ⟨_,_,rfl,?_,RdL.one (qdE hb)⟩;unfold q5n Rd;refine ⟨_,rfl,?_⟩;have q:∀ x,qjH (q1f x):=fun x=>⟨rfl,rfl⟩;unfold RdL;refine ⟨_,_,rfl,qcv (f:=q1f) q i1,?_⟩;unfold RdL;refine ⟨_,_,rfl,qcv (f:=q1f) q i2,?_⟩;unfold RdL;exact ⟨_,_,rfl,qcv (f:=q1f) q i3,RdL.one (qdE i4)⟩
theorem qgE {pm cp ri:List Int} {vs:List Nat} {x:Int} {j a b:Nat} (ho:FacOk ⟨pm,cp,ri,vs⟩) (ha:cp[j]?=some (a:Int)) (hb:cp[j+1]?=some (b:Int)) (hab:a≤b) (hbl:b≤ri.length) (hj:j≤200) (h1 : -9223372036854775808≤x) (h2:x≤9223372036854775807) :
  ACt 18 [q5n (pm,cp,ri,vs),iv x,iv j] (uv (q4b ⟨pm,cp,ri,vs⟩ x a (b-a):Nat)):=qf6 qsL fun D w vs hT hF hR=>by
 obtain ⟨_,_,_,rfl,h3,h4,h5⟩:=qqD hR;rw [q3G h4,q3G h5];exact qgD (qiw h3) ha hb hab hbl ho.ril ho.rib (by omega)
theorem q9y {V V' j:Int} (h1 : -200000≤j) (h2:j≤200000) (hv:mkV (od V) (dyE V+j)=some V'):ACt 24 [pV V,iv j] (pV V'):=q53 qsI fun D w vs hT hF hR=>by
 obtain ⟨_,_,rfl,h3,h4⟩:=q4d hR;rw [q3G h4];exact qdI hT (q2p h3) h1 h2 hv hF
section
variable {D:Nat→Prop} {w:World}
theorem ownE {w':World} {B E:Nat} (hb:Blk w' w.heap.size E #[]) (h:B≤w.heap.size):Own w' B E 1 (some ⟨w.heap.size,0,none⟩) 0 0 [] :=
 Own.made (w:=w') (w':=w) (B:=B) (sz:=1) (n:=0) (c:=0) (E:=E) (cur:=#[]) hb (Nat.le_refl _) (by simp [maxLen]) rfl h
theorem qdB {E g:Nat} {v:Value} (hb:Blk w g E #[v]):Row w (fun k=>k=g) 1 (some ⟨g,0,none⟩) 1 1 [v] :=
 ⟨Nat.le_refl _,rfl,fun _=>⟨⟨g,0,none⟩,rfl,rfl,fun j u hu=>by rw [q07,Nat.zero_add,hb.cell]; simpa using hu⟩⟩
theorem qgo {l:List Int}:∀ u ∈ l.map q1f,u.oneCell'=true:=fun u hu=>by
 obtain ⟨z,_,rfl⟩:=List.mem_map.1 hu
 rfl
theorem qgl {A:Option Addr} {n c N:Nat} {raw:List Nat} (hT:q2J w) (h:In (fSc q3l raw) D (.slice A n c) w) (hn:n≤9223372036854775807) (hN:N≤1000000) (hf:Fr D w) :
  Calls Tryz.prog 26 #[.slice A n c,.int .i64 N] w (Rt (fSc q1f (q3P raw N)) D w):=by
 refine q0J Tryz.func26 rfl Tryz.ntmps26 (by kernel_rfl) ?_;refine Wz ?_;refine q0A fun K hK=>?_;refine Zz ?_;refine q1d fun w0 hx0 hb0 hs0=>?_;generalize hg:w.heap.size=g at hb0 hs0;refine hK _ _ ?_; clear hK;refine q0B fun K0 hK0=>?_;refine Wz ?_;have hO0:Own w0 g 3 1 (some ⟨g,0,none⟩) 0 0 (([]:List Int).map q1f):=by
  have:=Own.made (w:=w0) (w':=w) (B:=g) (sz:=1) (n:=0) (c:=0) (E:=3) (cur:=#[]) (by rw [hg]; exact hb0) (Nat.le_refl _) (by simp [maxLen]) rfl (by omega);rw [hg] at this;exact this
 have hd:=h.db (w':=w);rw [hg] at hd;refine q02 ?_;refine q0e (fun e2 w'=>∃ (i:Nat) (A':Option Addr) (c':Nat),e2 6=.int .i64 i∧e2 5=.slice A' i c'∧i≤N∧Ext w w'∧In (fSc q3l raw) (Db D g) (.slice A n c) w'∧Own w' g 3 1 A' i c' ((q3P raw i).map q1f)) (fun e2 _=>N-(RowKit.intOf (e2 6)).toNat) ⟨0,_,0,rfl,Ue,Nat.zero_le _,hx0,hd.ext hx0,hO0⟩ ?_;rintro e1 w1 ⟨i,A',c',k6,k5,hi,hx,hd,hO⟩ hkk;have k0:e1 0=.slice A n c:=(hkk 0 (by kernel_rfl)).trans Ue;have k1:e1 1=.int .i64 N:=(hkk 1 (by kernel_rfl)).trans Ue;clear hkk
 by_cases hlt:i < N
 ·have hlt':(i:Int) < N:=by omega
  refine q0B fun K1 hK1=>?_;refine Wz3 k6 k1 hlt' ?_;refine Wt (q0I (hK1 _ _ ?_));clear hK1;refine q0Q fun K hK=>?_;have e1':IntKind.i64.wrap (700+(i:Int))=700+i:=i64_in (by omega) (by omega);have e2':IntKind.i64.wrap ((i:Int)+1)=((i+1:Nat):Int):=by rw [i64_in (by omega) (by omega)]; omega
  have hw:=q4f raw (700+i);obtain ⟨at',hat⟩:∃ a,a=q1W ((q5y raw (700+i) / 2:Nat):Int) (i+1):=⟨_,rfl⟩;have hat2:at' < i+1:=by rw [hat]; exact q7E (by omega)
  have e3':IntKind.i64.wrap ((q5y raw (700+i) / 2:Nat):Int)=((q5y raw (700+i) / 2:Nat):Int):=i64_in (by omega) (by omega);refine q0A fun K hK=>?_;refine Zz4 k0 k6 e1' e2' ?_;refine q0H qn3 (qcJ hd hn (by omega) (by omega)) ?_;rintro _ _ ⟨rfl,rfl⟩; refine ⟨_,rfl,?_⟩;refine Zz1 e3' ?_;refine q0H qfK (qaK (by omega) (by omega) (by omega) (by omega)) ?_;rintro _ _ ⟨rfl,rfl⟩; refine ⟨_,rfl,?_⟩;rw [← hat];refine hK _ _ ?_; clear hK;refine W_dA q05 (.one 1 (.one 2 (.one 3 (.one 5 (.one 8 (.one 9 (.one 10 (.alt (.one 0 (.alt (.one 4 (.one 6 (.one 7 (.one 11 (.one 12 .fin))))) (.one 6 (.one 4 (.one 7 (.one 11 (.one 12 .fin))))))) (.one 6 (.one 0 (.one 4 (.one 7 (.one 11 (.one 12 .fin)))))))))))))) (by kernel_rfl) fun KE wE hKE hxE=>?_;replace hx:=hx.trans hxE;simp only [q0w,qmL] at hKE;have q1:(0:Int)≤(at':Int)∧(at':Int)≤c':=by have:=hO.cap; omega
  have q2:(0:Int)≤(at':Int)∧(at':Int)≤i:=by omega
  simp -implicitDefEqProofs (disch:=omega) only [go_sem,Nat.reduceEqDiff,Nat.reduceAdd,↓reduceIte,qax,qay,qfa,q7q,qaI,List.toList_toArray,k5,k6,q1,q2];replace hd:=hd.ext hxE;obtain ⟨M,hM⟩:∃ M,M=wE.heap.size:=⟨_,rfl⟩;have hgM:g≤M:=by have:=hx.size; omega
  obtain ⟨T,hTd⟩:∃ T,T=(q3P raw i).take at':=⟨_,rfl⟩;obtain ⟨U,hUd⟩:∃ U,U=(q3P raw i).drop at':=⟨_,rfl⟩;have hR0:Row wE (fun k=>k < M) 1 A' i c' ((q3P raw i).map q1f):=(hO.ext hxE).row.sub fun k hk _=>by omega
  have hT1:Row wE (fun k=>k < M) 1 A' at' c' (T.map q1f):=by
   have:=hR0.take (m:=at') (by omega)
   rwa [Nat.mul_one,← List.map_take,← hTd] at this
  have hU1:Row wE (fun k=>k < M) 1 (if c'=at' then A' else Option.map (fun x=>x.add at') A') (i-at') (c'-at') (U.map q1f):=by
   have:=hR0.drop (m:=at') (by omega)
   rwa [Nat.mul_one,← List.map_drop,← hUd] at this
  refine ⟨?_,?_⟩
  ·refine q1d fun w2 hx2 hb2 hs2=>?_;have hO2:Own w2 M 3 1 _ 0 0 (([]:List Int).map q1f):=ownE hb2 (by omega);have hs2':=hx2.size;replace hT1:=hT1.kp (Kp.of_ext hx2);replace hU1:=hU1.kp (Kp.of_ext hx2);replace hx:=hx.trans hx2;replace hd:=hd.ext hx2;refine ⟨?_,?_⟩
   ·refine q2M q6F rfl (by omega) hO2 hT1 qgo (by omega) (by omega) fun A4 c4 w4 hO4 hk4 hat4=>?_;have hs4:=hk4.size;replace hT1:=hT1.kp (hk4.mono fun k _ hk=>hO2.not_lt (B:=M) hk);replace hU1:=hU1.kp (hk4.mono fun k _ hk=>hO2.not_lt (B:=M) hk);replace hx:=hx.under hk4 fun k hk=>hO2.not_lt (B:=M) (by omega);replace hd:=hd.kpb hk4 fun k hk=>hO2.not_lt (B:=M) (by omega);refine q1d fun w3 hx3 hb3 hs3=>?_;have hR3:Row _ _ 1 _ 1 1 ([(i:Int)].map q1f):=qdB hb3;have hs3':=hx3.size;replace hT1:=hT1.kp (Kp.of_ext hx3);replace hU1:=hU1.kp (Kp.of_ext hx3);replace hx:=hx.trans hx3;replace hd:=hd.ext hx3;replace hO4:=hO4.ext hx3;refine q2M q6F rfl (by omega) hO4 hR3 qgo (by omega) (by omega) fun A6 c6 w6 hO6 hk6 hat6=>?_;have hs6:=hk6.size;replace hT1:=hT1.kp (hk6.mono fun k _ hk=>hO4.not_lt (B:=M) hk);replace hU1:=hU1.kp (hk6.mono fun k _ hk=>hO4.not_lt (B:=M) hk);replace hx:=hx.under hk6 fun k hk=>hO4.not_lt (B:=M) (by omega);replace hd:=hd.kpb hk6 fun k hk=>hO4.not_lt (B:=M) (by omega);refine q2M q6F rfl (by omega) hO6 hU1 qgo (by omega) (by omega) fun A9 c9 w9 hO9 hk9 hat9=>?_;have hs9:=hk9.size;replace hx:=hx.under hk9 fun k hk=>hO6.not_lt (B:=M) (by omega);replace hd:=hd.kpb hk9 fun k hk=>hO6.not_lt (B:=M) (by omega);replace hO9:=hO9.mono hgM;refine hKE _ _ ?_; clear hKE KE;refine hK _ _ ?_; clear hK;have hn:0+at'+1+(i-at')=i+1:=by omega
    rw [hn] at hO9 ⊢;have hle:(([]:List Int).map q1f ++ T.map q1f ++ [(i:Int)].map q1f ++ U.map q1f)=(q3P raw (i+1)).map q1f:=by
     rw [← List.map_append,← List.map_append,← List.map_append,List.nil_append,q3P,hTd,hUd,hat]
    rw [hle] at hO9;refine q0R fun K9 hK9=>?_;refine Zz2 k6 @i64_in ?_;refine hK9 _ _ ?_; clear hK9 K9;refine ⟨⟨i+1,A9,c9,rfl,Ue,by omega,hx,hd,hO9⟩,by simp only [q0G,↓reduceIte,RowKit.intOf,k6]; omega⟩
   ·refine q1d fun w3 hx3 hb3 hs3=>?_;have hR3:Row _ _ 1 _ 1 1 ([(i:Int)].map q1f):=qdB hb3;have hs3':=hx3.size;replace hT1:=hT1.kp (Kp.of_ext hx3);replace hU1:=hU1.kp (Kp.of_ext hx3);replace hx:=hx.trans hx3;replace hd:=hd.ext hx3;replace hO2:=hO2.ext hx3;refine q2M q6F rfl (by omega) hO2 hT1 qgo (by omega) (by omega) fun A4 c4 w4 hO4 hk4 hat4=>?_;have hs4:=hk4.size;replace hT1:=hT1.kp (hk4.mono fun k _ hk=>hO2.not_lt (B:=M) hk);replace hU1:=hU1.kp (hk4.mono fun k _ hk=>hO2.not_lt (B:=M) hk);replace hx:=hx.under hk4 fun k hk=>hO2.not_lt (B:=M) (by omega);replace hd:=hd.kpb hk4 fun k hk=>hO2.not_lt (B:=M) (by omega);replace hR3:=hR3.kp (hk4.mono fun k _ hk a ha=>by cases ha; simp only; omega);refine q2M q6F rfl (by omega) hO4 hR3 qgo (by omega) (by omega) fun A6 c6 w6 hO6 hk6 hat6=>?_;have hs6:=hk6.size;replace hT1:=hT1.kp (hk6.mono fun k _ hk=>hO4.not_lt (B:=M) hk);replace hU1:=hU1.kp (hk6.mono fun k _ hk=>hO4.not_lt (B:=M) hk);replace hx:=hx.under hk6 fun k hk=>hO4.not_lt (B:=M) (by omega);replace hd:=hd.kpb hk6 fun k hk=>hO4.not_lt (B:=M) (by omega);refine q2M q6F rfl (by omega) hO6 hU1 qgo (by omega) (by omega) fun A9 c9 w9 hO9 hk9 hat9=>?_;have hs9:=hk9.size;replace hx:=hx.under hk9 fun k hk=>hO6.not_lt (B:=M) (by omega);replace hd:=hd.kpb hk9 fun k hk=>hO6.not_lt (B:=M) (by omega);replace hO9:=hO9.mono hgM;refine hKE _ _ ?_; clear hKE KE;refine hK _ _ ?_; clear hK;have hn:0+at'+1+(i-at')=i+1:=by omega
    rw [hn] at hO9 ⊢;have hle:(([]:List Int).map q1f ++ T.map q1f ++ [(i:Int)].map q1f ++ U.map q1f)=(q3P raw (i+1)).map q1f:=by
     rw [← List.map_append,← List.map_append,← List.map_append,List.nil_append,q3P,hTd,hUd,hat]
    rw [hle] at hO9;refine q0R fun K9 hK9=>?_;refine Zz2 k6 @i64_in ?_;refine hK9 _ _ ?_; clear hK9 K9;refine ⟨⟨i+1,A9,c9,rfl,Ue,by omega,hx,hd,hO9⟩,by simp only [q0G,↓reduceIte,RowKit.intOf,k6]; omega⟩
  ·refine q1d fun w3 hx3 hb3 hs3=>?_;have hR3:Row _ _ 1 _ 1 1 ([(i:Int)].map q1f):=qdB hb3;have hs3':=hx3.size;replace hT1:=hT1.kp (Kp.of_ext hx3);replace hU1:=hU1.kp (Kp.of_ext hx3);replace hx:=hx.trans hx3;replace hd:=hd.ext hx3;refine q1d fun w2 hx2 hb2 hs2=>?_;have hO2:Own w2 M 3 1 _ 0 0 (([]:List Int).map q1f):=ownE hb2 (by omega);have hs2':=hx2.size;replace hT1:=hT1.kp (Kp.of_ext hx2);replace hU1:=hU1.kp (Kp.of_ext hx2);replace hx:=hx.trans hx2;replace hd:=hd.ext hx2;replace hR3:=hR3.kp (Kp.of_ext hx2);refine q2M q6F rfl (by omega) hO2 hT1 qgo (by omega) (by omega) fun A4 c4 w4 hO4 hk4 hat4=>?_;have hs4:=hk4.size;replace hT1:=hT1.kp (hk4.mono fun k _ hk=>hO2.not_lt (B:=M) hk);replace hU1:=hU1.kp (hk4.mono fun k _ hk=>hO2.not_lt (B:=M) hk);replace hx:=hx.under hk4 fun k hk=>hO2.not_lt (B:=M) (by omega);replace hd:=hd.kpb hk4 fun k hk=>hO2.not_lt (B:=M) (by omega);replace hR3:=hR3.kp (hk4.mono fun k _ hk a ha=>by cases ha; simp only; omega);refine q2M q6F rfl (by omega) hO4 hR3 qgo (by omega) (by omega) fun A6 c6 w6 hO6 hk6 hat6=>?_;have hs6:=hk6.size;replace hT1:=hT1.kp (hk6.mono fun k _ hk=>hO4.not_lt (B:=M) hk);replace hU1:=hU1.kp (hk6.mono fun k _ hk=>hO4.not_lt (B:=M) hk);replace hx:=hx.under hk6 fun k hk=>hO4.not_lt (B:=M) (by omega);replace hd:=hd.kpb hk6 fun k hk=>hO4.not_lt (B:=M) (by omega);refine q2M q6F rfl (by omega) hO6 hU1 qgo (by omega) (by omega) fun A9 c9 w9 hO9 hk9 hat9=>?_;have hs9:=hk9.size;replace hx:=hx.under hk9 fun k hk=>hO6.not_lt (B:=M) (by omega);replace hd:=hd.kpb hk9 fun k hk=>hO6.not_lt (B:=M) (by omega);replace hO9:=hO9.mono hgM;refine hKE _ _ ?_; clear hKE KE;refine hK _ _ ?_; clear hK;have hn:0+at'+1+(i-at')=i+1:=by omega
   rw [hn] at hO9 ⊢;have hle:(([]:List Int).map q1f ++ T.map q1f ++ [(i:Int)].map q1f ++ U.map q1f)=(q3P raw (i+1)).map q1f:=by
    rw [← List.map_append,← List.map_append,← List.map_append,List.nil_append,q3P,hTd,hUd,hat]
   rw [hle] at hO9;refine q0R fun K9 hK9=>?_;refine Zz2 k6 @i64_in ?_;refine hK9 _ _ ?_; clear hK9 K9;refine ⟨⟨i+1,A9,c9,rfl,Ue,by omega,hx,hd,hO9⟩,by simp only [q0G,↓reduceIte,RowKit.intOf,k6]; omega⟩
 ·have hlt':¬ (i:Int) < N:=by omega
  refine q0B fun K1 hK1=>?_;refine Wz3 k6 k1 hlt' ?_;refine Wf (q08 (hK0 _ _ ?_));obtain rfl:i=N:=by omega
  refine Wz1 k5 ?_;refine q0L ?_
  try simp only [q0D,q0P]
  refine q0t rfl ⟨_,rfl,hx,by simp only [q0G,Nat.reduceEqDiff,↓reduceIte]; exact qqZ hO fun k hk=>hf k (by omega)⟩
end
theorem qpv {neg:Bool} {A B:Nat} (hB:0 < B):2*A≤2*(B*rq 0 neg A B)+B∧2*(B*rq 0 neg A B)≤2*A+B:=by
 have h1:=Nat.div_add_mod A B;have h2:=Nat.mod_lt A hB;unfold rq;rw [if_neg (by omega:¬ (0:Int)=1),if_neg (by omega:¬ (0:Int)=2),if_neg (by omega:¬ (0:Int)=3)];have h3:B*(A / B+1)=B*(A / B)+B:=by rw [Nat.mul_add,Nat.mul_one]
 split
 ·omega
 ·split
  ·rw [h3]; omega
  ·omega
theorem qlZ {mode:Int} {neg:Bool} {N D:Nat}:N / D≤rq mode neg N D:=by unfold rq; (repeat' split) <;> omega
theorem qdS {mode:Int} {neg:Bool} {N D K:Nat} (hN:0 < N) (hD:0 < D) (hK:1074≤K):∃ u r:Nat,K≤u+1074∧rF mode neg N D=fin mode neg r ((u:Int)-K)∧r=rq mode neg (N*2 ^ K) (D*2 ^ u)∧r≤9007199254740992∧(u+1074=K∨(4503599627370496≤r∧D*2 ^ (u+52)≤N*2 ^ K)):=by
 obtain ⟨q,hq⟩:∃ q,q=qdu N D:=⟨_,rfl⟩;have hq1:q=max (lgq N D-52) (-1074):=hq;obtain ⟨u,hu⟩:∃ u:Nat,(u:Int)=q+K:=⟨(q+K).toNat,by omega⟩;have hbl:D≤N*2 ^ bl D:=Nat.le_trans (Nat.le_of_lt (q3B D)) (Nat.le_mul_of_pos_left _ hN);obtain ⟨g,hg⟩:∃ g,bl (N*2 ^ bl D / D)=g+1:=⟨bl (N*2 ^ bl D / D)-1,by
  have:bl (N*2 ^ bl D / D)≠0:=fun h=>by
   have h1:=q3B (N*2 ^ bl D / D);rw [h] at h1;have:=Nat.div_pos hbl hD;omega
  omega⟩
 have hlg:lgq N D=(g:Int)-bl D:=by unfold lgq; omega
 have f2:N*2 ^ bl D < D*2 ^ (g+1):=by
  have:=q3B (N*2 ^ bl D / D);rw [hg,Nat.div_lt_iff_lt_mul hD] at this;rw [Nat.mul_comm D];exact this
 have f1:D*2 ^ g≤N*2 ^ bl D:=by
  have:=q7V (n:=N*2 ^ bl D / D) (by have:=Nat.div_pos hbl hD; omega);rw [hg,Nat.le_div_iff_mul_le hD] at this;rw [Nat.mul_comm D];exact this
 generalize bl D=b at *;have hr:rat mode neg N D q=rq mode neg (N*2 ^ K) (D*2 ^ u):=by
  unfold rat;rw [← q5N (c:=2 ^ (K-(-q).toNat)) (q0S _),Nat.mul_assoc,Nat.mul_assoc,← Nat.pow_add,← Nat.pow_add,show (-q).toNat+(K-(-q).toNat)=K by omega,show q.toNat+(K-(-q).toNat)=u by omega]
 refine ⟨u,_,by omega,?_,rfl,?_,?_⟩
 ·unfold rF;rw [← hq,hr,show (u:Int)-K=q by omega]
 ·refine Nat.le_trans qpu ?_;have:N*2 ^ K / (D*2 ^ u) < 2 ^ 53:=by
   rw [Nat.div_lt_iff_lt_mul (Nat.mul_pos hD (q0S _))];refine Nat.lt_of_mul_lt_mul_right (a:=2 ^ b) ?_;have e1:N*2 ^ K*2 ^ b=N*2 ^ b*2 ^ K:=by rw [Nat.mul_right_comm]
   have e2:2 ^ 53*(D*2 ^ u)*2 ^ b=D*2 ^ (53+u+b):=by rw [Nat.mul_left_comm,Nat.mul_assoc,← Nat.pow_add,← Nat.pow_add]
   rw [e1,e2];refine Nat.lt_of_lt_of_le (Nat.mul_lt_mul_of_pos_right f2 (q0S K)) ?_;rw [Nat.mul_assoc,← Nat.pow_add];exact Nat.mul_le_mul_left _ (Nat.pow_le_pow_right (by omega) (by omega))
  have h53:(2:Nat) ^ 53=9007199254740992:=by decide
  omega
 ·by_cases h:u+1074=K
  ·exact .inl h
  ·right
   have hm:D*2 ^ (u+52)≤N*2 ^ K:=by
    refine Nat.le_of_mul_le_mul_right (c:=2 ^ b) ?_ (q0S b);have e1:N*2 ^ K*2 ^ b=N*2 ^ b*2 ^ K:=by rw [Nat.mul_right_comm]
    have e2:D*2 ^ (u+52)*2 ^ b=D*2 ^ g*2 ^ K:=by rw [Nat.mul_assoc,Nat.mul_assoc,← Nat.pow_add,← Nat.pow_add]; congr 2; omega
    rw [e1,e2];exact Nat.mul_le_mul_right _ f1
   refine ⟨Nat.le_trans ?_ qlZ,hm⟩;rw [Nat.le_div_iff_mul_le (Nat.mul_pos hD (q0S _))];have h52:(2:Nat) ^ 52=4503599627370496:=by decide
   rw [← h52,Nat.mul_left_comm,← Nat.pow_add,Nat.add_comm 52];exact hm
theorem qe8 {mode:Int} {neg:Bool} {r u:Nat} {K:Nat} (hK:K=65536) (h1:K≤u+1074) (h2:r≤9007199254740992) (h3:u+1074=K∨4503599627370496≤r) (h4:u+1076 < 2047+K):ofF (fin mode neg r ((u:Int)-K))=some (sgn neg r*(2:Int) ^ u):=by
 unfold fin
 split
 ·rename_i h;rw [q5Y (by omega) (by omega) (by omega) (by omega),show ((u:Int)-K+1+65536).toNat=u+1 by omega,h]
  congr 1
  cases neg <;> simp [sgn,Int.pow_succ] <;> omega
 ·rw [q5Y (by omega) (by omega) (by omega) (by omega),show ((u:Int)-K+65536).toNat=u by omega]
theorem qaG {neg:Bool}:¬ q0r (q8u 0 neg):=by
 cases neg <;> exact fun h=>h (by decide)
theorem qhl {neg:Bool} {r u:Nat} {K:Nat} (hK:K=65536) (h1:K≤u+1074) (h2:r≤9007199254740992) (h3:u+1074=K∨4503599627370496≤r) (hf:q0r (fin 0 neg r ((u:Int)-K))):ofF (fin 0 neg r ((u:Int)-K))=some (sgn neg r*(2:Int) ^ u):=by
 by_cases h4:u+1076 < 2047+K
 ·exact qe8 hK h1 h2 h3 h4
 ·unfold fin at hf ⊢
  split
  ·rename_i h;rw [if_pos h] at hf;unfold fin2 at hf;rw [if_neg (by omega),if_pos (by omega)] at hf;exact absurd hf qaG
  ·rename_i h;rw [if_neg h] at hf
   by_cases h5:u+1075 < 2047+K
   ·rw [q5Y (by omega) (by omega) (by omega) (by omega),show ((u:Int)-K+65536).toNat=u by omega]
   ·unfold fin2 at hf;rw [if_neg (by omega),if_pos (by omega)] at hf;exact absurd hf qaG
theorem q7B:ofF 0=some 0:=by
 unfold ofF;rw [if_neg (by decide),if_pos (by decide)];have:sgn (decide (9223372036854775808≤0)) (0 % 4503599627370496)=0:=by decide
 rw [this,Int.zero_mul]
theorem qhK {L D K u:Nat} {c1 c2:Nat} (h1:c1=52) (h2:c2=53) (hK:c2≤K) (h:L*2 ^ (u+c1)≤D*2 ^ K):L*2 ^ u≤2*(D*2 ^ (K-c2)):=by
 have e1:L*2 ^ (u+c1)=L*2 ^ u*2 ^ c1:=by rw [Nat.pow_add,Nat.mul_assoc]
 have e2:D*2 ^ K=2*(D*2 ^ (K-c2))*2 ^ c1:=by
  have:2 ^ K=2*2 ^ (K-c2)*2 ^ c1:=by rw [← Nat.pow_succ',← Nat.pow_add]; congr 1; omega
  rw [this];generalize 2 ^ (K-c2)=x;generalize 2 ^ c1=y;simp only [Nat.mul_comm,Nat.mul_left_comm,Nat.mul_assoc]
 rw [e1,e2] at h;exact Nat.le_of_mul_le_mul_right h (q0S c1)
theorem qlh {d l:Int} {K:Nat} (hK:K=65536) (hl:0 < l) (hf:q0r (fQ 0 d l)):(d*(2:Int) ^ K-l*ofZ (fQ 0 d l)).natAbs≤d.natAbs*2 ^ (K-53)+l.natAbs*2 ^ (K-1075):=by
 by_cases hd:d=0
 ·subst hd;have:ofZ (fQ 0 0 l)=0:=by unfold fQ; rw [if_pos rfl]; exact q0g q7B
  rw [this];simp
 ·obtain ⟨u,r,h1,h2,h3,h4,h5⟩:=qdS (mode:=0) (neg:=decide (d < 0) != decide (l < 0)) (N:=d.natAbs) (D:=l.natAbs) (K:=K) (by omega) (by omega) (by omega);have hx:fQ 0 d l=fin 0 (decide (d < 0) != decide (l < 0)) r ((u:Int)-K):=by unfold fQ; rw [if_neg hd,h2]
  rw [hx] at hf ⊢;rw [q0g (qhl hK h1 h4 (by omega) hf)];have hneg:(decide (d < 0) != decide (l < 0))=decide (d < 0):=by rw [decide_eq_false (by omega:¬ l < 0)]; simp
  rw [hneg] at h3 ⊢;have e:=qpv (neg:=decide (d < 0)) (A:=d.natAbs*2 ^ K) (B:=l.natAbs*2 ^ u) (Nat.mul_pos (by omega) (q0S _));rw [← h3] at e;have hB:l.natAbs*2 ^ u≤2*(d.natAbs*2 ^ (K-53)+l.natAbs*2 ^ (K-1075)):=by
   rcases h5 with h5 | ⟨_,h5⟩
   ·have:l.natAbs*2 ^ u=2*(l.natAbs*2 ^ (K-1075)):=by rw [Nat.mul_left_comm,← Nat.pow_succ',show (K-1075).succ=u by omega]
    omega
   ·have:=qhK rfl rfl (by omega) h5;omega
  have e3:(d*(2:Int) ^ K-l*(sgn (decide (d < 0)) r*(2:Int) ^ u)).natAbs=(((d.natAbs*2 ^ K:Nat):Int)-((l.natAbs*2 ^ u*r:Nat):Int)).natAbs:=by
   obtain ⟨m,rfl⟩:∃ m:Nat,l=m:=⟨l.natAbs,by omega⟩;have p1:=q0o u;have p2:=q0o K
   by_cases hn:d < 0
   ·rw [decide_eq_true hn];obtain ⟨n,rfl⟩:∃ n:Nat,d = -(n:Int):=⟨d.natAbs,by omega⟩;rw [← p1,← p2];simp only [sgn,if_true,Int.natAbs_neg,Int.natAbs_natCast];rw [show (-(n:Int)*((2 ^ K:Nat):Int)-(m:Int)*(-(r:Int)*((2 ^ u:Nat):Int))) = -(((n*2 ^ K:Nat):Int)-((m*2 ^ u*r:Nat):Int)) by
     push_cast
     generalize (2:Int) ^ K=A;generalize (2:Int) ^ u=B;rw [Int.neg_mul,Int.neg_mul,Int.mul_neg,Int.mul_comm (r:Int),Int.mul_assoc];omega]
    rw [Int.natAbs_neg]
   ·rw [decide_eq_false hn];obtain ⟨n,rfl⟩:∃ n:Nat,d=(n:Int):=⟨d.natAbs,by omega⟩;rw [← p1,← p2];simp only [sgn,Bool.false_eq_true,if_false,Int.natAbs_natCast];rw [show ((n:Int)*((2 ^ K:Nat):Int)-(m:Int)*((r:Int)*((2 ^ u:Nat):Int)))=(((n*2 ^ K:Nat):Int)-((m*2 ^ u*r:Nat):Int)) by
     push_cast
     generalize (2:Int) ^ K=A;generalize (2:Int) ^ u=B;rw [Int.mul_comm (r:Int),Int.mul_assoc]]
  rw [e3];generalize d.natAbs*2 ^ K=A at *;generalize l.natAbs*2 ^ u*r=C at *;generalize l.natAbs*2 ^ u=B at *;omega
theorem qrJ {mode V:Int} {K c:Nat} (hK:K=65536) (hc:c=900) (h:V.natAbs < 2 ^ c*2 ^ K):q0r (fR mode V):=by
 unfold fR
 split
 ·unfold q0r; simp
 ·rw [← hK];obtain ⟨u,r,h1,h2,h3,h4,h5⟩:=qdS (mode:=mode) (neg:=decide (V < 0)) (N:=V.natAbs) (D:=2 ^ K) (K:=K) (by omega) (q0S _) (by omega);rw [h2];have hu:u+1076 < 2047+K:=by
   rcases h5 with h5 | ⟨_,h5⟩
   ·omega
   ·have h6:2 ^ K*2 ^ (u+52) < 2 ^ c*2 ^ K*2 ^ K:=Nat.lt_of_le_of_lt h5 (Nat.mul_lt_mul_of_pos_right h (q0S K));rw [← Nat.pow_add,← Nat.pow_add,← Nat.pow_add] at h6;have:=(Nat.pow_lt_pow_iff_right (by omega:1 < 2)).1 h6;omega
  have:=qe8 (mode:=mode) (neg:=decide (V < 0)) hK h1 h4 (by omega) hu;intro hn;unfold ofF at this;rw [if_pos hn] at this;cases this
theorem qnp (m:Int) (k:Nat) (h1:m.natAbs < 9007199254740992) (h2:k≤65561):bl (m*(2:Int) ^ k).natAbs≤66000:=by
 have h53:∀ n:Nat,n < 9007199254740992→bl n≤53:=fun n h=>q0W (Nat.lt_of_lt_of_le h (Nat.le_refl _))
 by_cases hm:m=0
 ·subst hm; rw [Int.zero_mul]; simp [q1s]
 ·rw [q0T,q1t (by omega)]; have:=h53 _ h1; omega
theorem qjI {f:Nat} (h:f / 4503599627370496 % 2048≤1100):bl (ofZ f).natAbs≤66000:=by
 have hm:=Nat.mod_lt f (show 0 < 4503599627370496 by omega);have hfm:∃ (m:Int) (k:Nat),ofF f=some (m*(2:Int) ^ k)∧m.natAbs < 9007199254740992∧k≤65561:=by
  unfold ofF;rw [if_neg (by omega)];generalize f / 4503599627370496 % 2048=x at *;generalize f % 4503599627370496=m at *
  split
  ·exact ⟨_,64462,rfl,by rw [q1Z]; omega,by omega⟩
  ·exact ⟨_,64461+x,rfl,by rw [q1Z]; omega,by omega⟩
 obtain ⟨m,k,h1,h2,h3⟩:=hfm;rw [q0g h1];exact qnp m k h2 h3
theorem qlx {k x:Nat} (hk:k < 3) (hx:x < 18446744073709551616):bl (ofZ (q3S k x)).natAbs≤66000:=by
 by_cases h1:k=1
 ·subst h1;refine qjI ?_;unfold q3S;rw [if_pos rfl];omega
 by_cases h2:k=2
 ·subst h2;refine qjI ?_;unfold q3S;rw [if_neg (by omega),if_pos rfl];have h1:x / 9223372036854775808≤1:=by omega
  have h2:x / 256 % 81 < 81:=by omega
  have h3:x / 2251799813685248 % 2≤1:=by omega
  generalize x / 9223372036854775808=a at *;generalize x / 256 % 81=b at *;generalize x / 2251799813685248 % 2=c at *;omega
 have hs:=q6l x;unfold q3S;rw [if_neg h1,if_neg h2,if_neg (by omega),q0g (q4m (by omega))];exact qnp _ 65536 (by omega) (by omega)
theorem qlt:bl qq0.natAbs≤66000:=by
 have h:=q8y (z:=1) (by have:=q0W (n:=Int.natAbs 1) (k:=1) (by decide); omega);rw [q8v.1] at h;rw [Option.some.inj h];exact qnp 1 65536 (by decide) (by omega)
theorem gF_bl {raw:List Nat} {R k:Nat} (hk:k < 3) {j i:Nat}:bl (ofZ ((gF raw R k j i).getD 0)).natAbs≤66000:=by
 unfold gF
 split
 ·exact qlx hk (q4f _ _)
 ·rw [Option.getD_none,q0g q7B]; simp [q1s]
theorem qew {raw:List Nat} {R k i:Nat} (hk:k < 3):∀ m,∀ x ∈ dgL (gF raw R k) i m,bl x.natAbs≤66000
 | 0,x,hx=>by unfold dgL at hx; simp at hx; subst hx; exact qlt
 | m+1,x,hx=>by
  unfold dgL at hx
  split at hx
  ·exact qew hk m x hx
  ·rcases List.mem_append.1 hx with hx | hx
   ·exact qew hk m x hx
   ·simp at hx; subst hx;rw [Int.natAbs_natCast];exact gF_bl hk
theorem qrd {raw:List Nat} {n k:Nat} (hn:n≤100) (hk:k < 3):TOk (dfF (gF raw n k) n) n n:=by
 have hnn:n*n≤100*100:=Nat.mul_le_mul hn hn;have hG:=qqu (raw:=raw) (R:=n) (C:=n) (st:=k) (by omega) (by omega) (by omega);have key:∀ i,i < n→q0r (fR 2 (q1w (dgL (gF raw n k) i n))):=fun i hi=>by
  have hl:=(qev hG hi n (Nat.le_refl _)).1;have h1:=q59 (K:=66000) (qew (raw:=raw) (R:=n) (i:=i) hk n) (i:=(dgL (gF raw n k) i n).length) (by omega);rw [List.take_length] at h1;obtain ⟨c,hc⟩:∃ c,c=900:=⟨_,rfl⟩;obtain ⟨K,hK⟩:∃ K,K=65536:=⟨_,rfl⟩;refine qrJ hK hc (Nat.lt_of_lt_of_le (q3B _) ?_);rw [← Nat.pow_add];exact Nat.pow_le_pow_right (by omega) (by omega)
 refine ⟨hG.r,hG.c,hG.m,fun j i x hj hi h=>?_,fun j i x hj hi h=>?_⟩
 ·unfold dfF at h
  split at h
  ·have h:=Option.some.inj h; rw [← h]; exact fR_lt
  ·exact hG.u j i x hj hi h
 ·unfold dfF at h
  split at h
  ·have h:=Option.some.inj h; rw [← h]; exact key i hi
  ·exact hG.v j i x hj hi h
theorem qgm {raw:List Nat} {N:Nat} (hr:raw.length≤9223372036854775807) (hN:N≤1000000):ACt 26 [pF raw,iv N] (pI (q3P raw N)) :=
 q14 (r:=.fm (fSc q1f (q3P raw N))) (fun D w v h=>qcv (f:=q1f) (fun x=>⟨rfl,rfl⟩) (q2p h)) (q53 qsH fun D w vs hT hF hR=>by
  obtain ⟨_,_,rfl,h3,h4⟩:=q4d hR;obtain ⟨A,n,c,rfl,h5⟩:=q6u (f:=q3l) h3;rw [q3G h4];exact qgl hT h5 (by have:=h5.sc_len; omega) hN hF)
noncomputable def qoj (raw:List Nat) (N k:Nat):List Int × List Int × List Int × List Nat :=
 q7J (dfF (gF raw N k) N) (q3P raw N) (q3Q (adT (qcC (dfF (gF raw N k) N) (q3P raw N) N)) N N) N
theorem qea {raw:List Nat} {n st:Int} (hr:raw.length≤9223372036854775807) (h1 : -9223372036854775808≤n) (h2:n≤9223372036854775807) (h3 : -9223372036854775808≤st) (h4:st≤9223372036854775807) (hp:q38 (q3P raw (q1W n 6)) (q1W n 6)) :
  ACt 11 [pF raw,iv n,iv st] (q5n (qoj raw (q1W n 6) (q1W (q1W st 3:Nat) 4))):=by
 have hN:q1W n 6 < 6:=by unfold q1W; omega
 have hk:q1W (q1W st 3:Nat) 4 < 3:=by unfold q1W; omega
 have cM:=qjO (a:=n) (n:=6) h1 h2 (by omega) (by omega);have cD:=q9R (raw:=raw) (n:=q1W n 6) hr (by omega) h3 h4;have cO:=qgm (raw:=raw) (N:=q1W n 6) hr (by omega);have cL:ACt 50 _ (.tu [q5n (qoj raw (q1W n 6) (q1W (q1W st 3:Nat) 4)),.un,.un]):=qmF (qrd (raw:=raw) (n:=q1W n 6) (by omega) hk) (by omega) hp;generalize qoj _ _ _=res at *;unfold q5n at *;generalize dfF _ _=F at *;unfold pT q4y at *;generalize (tM F (q1W n 6) (q1W n 6)).1=ms at *;generalize (tM F (q1W n 6) (q1W n 6)).2.1=mi at *;generalize (tM F (q1W n 6) (q1W n 6)).2.2=mv at *;refine ac0 Tryz.func11 Tryz.ntmps11 [.cell 6 26] ?_;exact wk trivial
theorem q7c {f:Fac} {i:Int}:∀ (k a:Nat),(∀ p,a≤p→p < a+k→f.ri[p]?≠some i)→q4b f i a k=0
 | 0,_,_=>rfl
 | k+1,a,h=>by
  unfold q4b;rw [if_neg (h a (Nat.le_refl _) (by omega))];exact q7c k (a+1) fun p h1 h2=>h p (by omega) (by omega)
theorem qeJ {l:List Nat} {i:Nat} (h:∀ x ∈ l,x < 18446744073709551616∧q0r x):l.getD i 0 < 18446744073709551616∧q0r (l.getD i 0):=by
 rw [List.getD_eq_getElem?_getD];cases hx:l[i]? with
 | none=>exact ⟨by simp,by unfold q0r; simp⟩
 | some x=>exact h x (List.mem_of_getElem? hx)
theorem q6e {f:Fac} {i:Int} (h:qbb f.vs):∀ (k a:Nat),q4b f i a k < 18446744073709551616∧q0r (q4b f i a k)
 | 0,_=>⟨by simp [q4b],by unfold q4b q0r; simp⟩
 | k+1,a=>by
  unfold q4b
  split
  ·exact qeJ h
  ·exact q6e h k (a+1)
theorem q7t {q:Nat}:q5o 0 q=0:=by
 unfold q5o;rw [q0g q7B,Int.zero_mul,q2P]
 rfl
theorem q7h {f:Fac} {j a b q:Nat} (h:Col f j a b) (hn:f.pm.length≤200) (hrv:f.ri.length=f.vs.length) :
  ∀ (c p:Nat) (rows:List (List Int)),a < p→p+c=b→f.pm.length≤rows.length→∀ (i:Nat) (r:List Int),rows[i]?=some r→∃ r',(qbv f q p c rows)[i]?=some r'∧q1w r'=q1w r-q5o (q4b f i p c) q
 | 0,p,rows,_,_,_,i,r,hr=>⟨r,hr,by simp [q4b,q7t]⟩
 | c+1,p,rows,ha,hp,hl,i,r,hr=>by
  obtain ⟨i0,h1,h2,h3⟩:=h.row hn ha (by omega);have hle:=h.le;obtain ⟨x,hv⟩:∃ x,f.vs[p]?=some x:=⟨_,List.getElem?_eq_getElem (by omega)⟩;obtain ⟨r0,hr0⟩:∃ r0,rows[i0]?=some r0:=⟨_,List.getElem?_eq_getElem (by omega)⟩;rw [q5b h1 hv hr0];have ih:=q7h (q:=q) h hn hrv c (p+1) (rows.set i0 (r0 ++ [-(q5o x q)])) (by omega) (by omega) (by simpa using hl) i
  by_cases hi:i=i0
  ·subst hi;obtain rfl:r=r0:=Option.some.inj (hr.symm.trans hr0);obtain ⟨r',h4,h5⟩:=ih _ (List.getElem?_set_self (by omega));refine ⟨r',h4,?_⟩;have hnone:q4b f i (p+1) c=0:=q7c c (p+1) fun p' q1 q2 hc=>by
    have:=h.mono (p'-p) p i i (by omega) (by omega) h1 (by rw [show p+(p'-p)=p' by omega]; exact hc);rw [if_neg (by omega)] at this;omega
   have hsome:q4b f i p (c+1)=x:=by unfold q4b; rw [if_pos h1]; exact getD_some hv
   rw [h5,hnone,hsome,q3Y,q7t];omega
  ·obtain ⟨r',h4,h5⟩:=ih r (by rw [List.getElem?_set_ne (fun e=>hi e.symm)]; exact hr);refine ⟨r',h4,?_⟩;have hne:q4b f i p (c+1)=q4b f i (p+1) c:=by
    rw [q4b,if_neg (by rw [h1]; intro e; have:=Option.some.inj e; omega)]
   rw [h5,hne]
def elF (f:Fac) (i j:Nat):Nat:=q4b f i (f.cp.getD j 0).toNat ((f.cp.getD (j+1) 0).toNat-(f.cp.getD j 0).toNat)
theorem qa6 {f:Fac} {i j a b:Nat} (h:Col f j a b):elF f i j=q4b f i a (b-a):=by
 unfold elF;rw [getD_some h.ha,getD_some h.hb]; rfl
def q5z (f:Fac) (b ys:List Nat) (k:Nat):Nat→List Int
 | 0=>[ofZ (b.getD k 0)]
 | m+1=>q5z f b ys k m ++ [-(q5o (elF f k m) (ys.getD m 0))]
theorem q3d {f:Fac} {b ys zs:List Nat} {k:Nat}:∀ m,(∀ i,i < m→ys.getD i 0=zs.getD i 0)→q5z f b ys k m=q5z f b zs k m
 | 0,_=>rfl
 | m+1,h=>by unfold q5z; rw [q3d m fun i hi=>h i (by omega),h m (by omega)]
def FwOk (f:Fac) (b ys:List Nat) (k:Nat):Prop:=∀ i,i < k→q0r (ys.getD i 0)∧ys.getD i 0 < 18446744073709551616∧ys.getD i 0=fQ 0 (q1w (q5z f b ys i i)) (ofZ (elF f i i))
theorem qeL {f:Fac} {b zs:List Nat} (ho:FacOk f):∀ (m k:Nat) (rows:List (List Int)) (ys:List Nat),k+m=f.pm.length→rows.length=f.pm.length→ys.length=f.pm.length→FwOk f b ys k →
  (∀ i,k≤i→i < f.pm.length→∃ r,rows[i]?=some r∧q1w r=q1w (q5z f b ys i k))→q8H f ((List.range' k m).map fun i:Nat=>(i:Int)) rows ys=some zs→zs.length=f.pm.length∧FwOk f b zs f.pm.length
 | 0,k,rows,ys,hk,_,hy,hF,_,hz=>by
  simp only [List.range'_zero,List.map_nil] at hz;have hz:=Option.some.inj hz;subst hz;exact ⟨hy,by rw [← hk]; exact hF⟩
 | m+1,k,rows,ys,hk,hr,hy,hF,h,hz=>by
  obtain ⟨a,e,hcol⟩:=ho.col k (by omega);have hlt:=hcol.lt;have hle:=hcol.le;obtain ⟨r,hr0,hsum⟩:=h k (Nat.le_refl _) (by omega);obtain ⟨x,V,d1,d2,d3⟩:=hcol.diag;have hel:elF f k k=x:=by
   rw [qa6 hcol,show e-a=(e-(a+1))+1 by omega,q4b,if_pos hcol.first];exact getD_some d1
  rw [List.range'_succ,List.map_cons,q4X hcol.ha hcol.hb d1 hr0] at hz
  split at hz
  case isFalse=>cases hz
  rename_i hfin;obtain ⟨y,hyv⟩:∃ y,y=fQ 0 (q1w r) (ofZ x):=⟨_,rfl⟩;rw [← hyv] at hz hfin;have hylt:y < 18446744073709551616:=by rw [hyv]; exact qmm (by rw [q0g d2]; omega)
  have hset:∀ i,i < k→ys.getD i 0=(ys.set k y).getD i 0:=fun i hi=>by
   rw [List.getD_eq_getElem?_getD,List.getD_eq_getElem?_getD,List.getElem?_set_ne (by omega)]
  have hsk:(ys.set k y).getD k 0=y:=getD_some (List.getElem?_set_self (by omega));refine qeL ho m (k+1) _ _ (by omega) (by rw [q9p]; exact hr) (by simpa using hy) ?_ ?_ hz
  ·intro i hi
   by_cases hik:i < k
   ·rw [← hset i hik,← q3d i fun i' h'=>hset i' (by omega)];exact hF i hik
   ·obtain rfl:i=k:=by omega
    rw [hsk,← q3d i hset,hel,← hsum];exact ⟨hfin,hylt,hyv⟩
  ·intro i hi1 hi2;obtain ⟨ri,h1,h2⟩:=h i (by omega) hi2;obtain ⟨r',h3,h4⟩:=q7h (q:=y) hcol ho.n ho.ril (e-(a+1)) (a+1) rows (by omega) (by omega) (by omega) i ri h1;refine ⟨r',h3,?_⟩;have hel2:elF f i k=q4b f i (a+1) (e-(a+1)):=by
    rw [qa6 hcol,show e-a=(e-(a+1))+1 by omega,q4b,if_neg (by rw [hcol.first]; intro e; have:=Option.some.inj e; omega)]
   rw [h4,h2,q5z,q3Y,hsk,hel2,← q3d k hset];omega
theorem qm1 {f:Fac} {b zs:List Nat} (ho:FacOk f) (hb:b.length=f.pm.length) (h:q8H f (q74 b.length) (b.map fun x=>[ofZ x]) (List.replicate b.length 0)=some zs):zs.length=f.pm.length∧FwOk f b zs f.pm.length:=by
 refine qeL ho f.pm.length 0 (b.map fun x=>[ofZ x]) (List.replicate b.length 0) (by omega) (by simpa using hb) (by simpa using hb) (fun i hi=>by omega) ?_ (by rw [← h,hb]; unfold q74; rw [List.range_eq_range']);intro i _ hi;obtain ⟨x,hx⟩:∃ x,b[i]?=some x:=⟨_,List.getElem?_eq_getElem (by omega)⟩;refine ⟨[ofZ x],by rw [List.getElem?_map,hx]; rfl,?_⟩;rw [q5z,getD_some hx]
theorem qr9 {V:Int} {c:Nat} (h:(2:Int) ^ c ∣ V) (hV:V≠0):c≤tz V.natAbs:=by
 obtain ⟨m,rfl⟩:=h;have hm:m.natAbs≠0:=fun h0=>hV (by rw [Int.natAbs_eq_zero.1 h0,Int.mul_zero]);rw [Int.mul_comm,q0T,qcT hm];omega
theorem q9x {V:Int} {c:Nat} (h:(2:Int) ^ c ∣ V) (hb:bl V.natAbs≤131072):∃ s,mkV (od V) (dyE V+(-(c:Int)))=some s∧s*(2:Int) ^ c=V∧bl s.natAbs≤bl V.natAbs:=by
 by_cases hV:V=0
 ·subst hV;exact ⟨0,by rw [Go.Sp.q1z,q2P],by simp,Nat.le_refl _⟩
 ·have ht:=qr9 h hV;have hE:dyE V=(tz V.natAbs:Int)-65536:=by unfold dyE; rw [if_neg hV]
  have h1:=q8X hV;have h2:=q6W (m:=od V) (E:=dyE V+(-(c:Int))) (by omega) (by omega);refine ⟨_,h2,?_,?_⟩
  ·rw [show (dyE V+(-(c:Int))+65536).toNat=tz V.natAbs-c by omega,Int.mul_assoc,← Int.pow_add,show tz V.natAbs-c+c=tz V.natAbs by omega,q1n]
  ·have:=q3j hV;rw [q0T,q1t (by omega)];omega
theorem qd1 {m:Int} {k c:Nat} (h:c≤k):(2:Int) ^ c ∣ m*(2:Int) ^ k:=by
 obtain ⟨e,rfl⟩:∃ e,k=c+e:=⟨k-c,by omega⟩;rw [Int.pow_add,Int.mul_left_comm];exact Int.dvd_mul_right _ _
theorem qd4 {x c:Nat} (hc:c≤60000) (hx:q0r x):(2:Int) ^ c ∣ ofZ x:=by
 obtain ⟨m,k,h,h1,h2,h3⟩:=q2w hx;rw [q0g h];exact qd1 (by omega)
theorem qdb {x y K:Nat} (hK:K=65536) (hx:q0r x) (hy:q0r y):q5o x y*(2:Int) ^ K=ofZ x*ofZ y∧∀ c,c≤60000→(2:Int) ^ c ∣ q5o x y:=by
 obtain ⟨m,k,h,h1,h2,h3⟩:=q2w hx;obtain ⟨m',k',h',h1',h2',h3'⟩:=q2w hy;have e:ofZ x*ofZ y=m*m'*(2:Int) ^ (k+k'):=by
  rw [q0g h,q0g h',Int.pow_add];simp only [Int.mul_assoc,Int.mul_left_comm,Int.mul_comm]
 have hb:bl (m*m').natAbs≤106:=by
  rw [Int.natAbs_mul];exact Nat.le_trans (q2H _ _) (by omega)
 have hm:=q6W (m:=m*m') (E := -131072+((k+k':Nat):Int)) (by omega) (by omega);obtain ⟨t,ht⟩:∃ t,t=(-131072+((k+k':Nat):Int)+65536).toNat:=⟨_,rfl⟩;rw [← ht] at hm;have hv:q5o x y=m*m'*(2:Int) ^ t:=by
  unfold q5o;rw [e,q2l,hm]; rfl
 refine ⟨?_,fun c hc=>?_⟩
 ·rw [hv,e,Int.mul_assoc,← Int.pow_add,show t+K=k+k' by omega]
 ·rw [hv]; exact qd1 (by omega)
theorem qlK {M:Int} {l:List Int} (h:∀ x ∈ l,M ∣ x):M ∣ q1w l:=by
 have key:∀ (l:List Int) (a:Int),M ∣ a→(∀ x ∈ l,M ∣ x)→M ∣ l.foldl (·+·) a:=fun l=>by
  induction l with
  | nil=>exact fun a h _=>h
  | cons y l ih=>exact fun a h1 h2=>ih _ (Int.dvd_add h1 (h2 y (by simp))) fun x hx=>h2 x (by simp [hx])
 exact key l 0 (Int.dvd_zero _) h
theorem qdt {f:Fac} {b ys:List Nat} {k:Nat} (hv:qbb f.vs) (hb:qbb b):∀ m,(∀ i,i < m→q0r (ys.getD i 0))→(q5z f b ys k m).length=m+1∧(∀ x ∈ q5z f b ys k m,bl x.natAbs≤67600)∧∀ c,c≤60000→∀ x ∈ q5z f b ys k m,(2:Int) ^ c ∣ x
 | 0,_=>by
  have h:=(qeJ (i:=k) hb).2;unfold q5z;refine ⟨rfl,fun x hx=>?_,fun c hc x hx=>?_⟩
  ·simp at hx; subst hx; exact q7p h
  ·simp at hx; subst hx; exact qd4 hc h
 | m+1,hf=>by
  obtain ⟨h1,h2,h3⟩:=qdt (k:=k) hv hb m fun i hi=>hf i (by omega);have h4:q0r (elF f k m):=(q6e hv _ _).2;have h5:=hf m (by omega);unfold q5z;refine ⟨by simp [h1],fun x hx=>?_,fun c hc x hx=>?_⟩
  ·rcases List.mem_append.1 hx with hx | hx
   ·exact h2 x hx
   ·simp at hx; subst hx;rw [Int.natAbs_neg];exact (q22 h4 h5).2
  ·rcases List.mem_append.1 hx with hx | hx
   ·exact h3 c hc x hx
   ·simp at hx; subst hx;exact Int.dvd_neg.2 ((qdb rfl h4 h5).2 c hc)
theorem qem {k:Nat} {V:Int} (h:bl V.natAbs≤k) (hk:k≤131072):q1H V:=Nat.le_trans h hk
theorem q66 {a b:Int} {k:Nat} (ha:bl a.natAbs≤k) (hb:bl b.natAbs≤k):bl (a+b).natAbs≤k+1:=by
 have:=q2n ha hb;refine q0W (Nat.lt_of_le_of_lt (by omega:(a+b).natAbs≤a.natAbs+b.natAbs) (q12 this))
theorem qqk {d:Int} {u x:Nat} (hd:bl d.natAbs≤70000) (hdv:∀ c,c≤60000→(2:Int) ^ c ∣ d) (hu:q0r u) (hu0:0 < ofZ u) (hx:x=fQ 0 d (ofZ u)) (hf:q0r x) :
  ∃ s1 s2,mkV (od (d.natAbs:Int)) (dyE (d.natAbs:Int)+(-53))=some s1∧mkV (od (ofZ u)) (dyE (ofZ u)+(-1075))=some s2∧q1H (s1+s2)∧q1H (d-q5o u x)∧¬ s1+s2 < ((d-q5o u x).natAbs:Int):=by
 have hdv2:(2:Int) ^ 53 ∣ (d.natAbs:Int):=Int.dvd_natAbs.2 (hdv 53 (by omega));obtain ⟨s1,a1,a2,a3⟩:=q9x (V:=(d.natAbs:Int)) hdv2 (by rw [Int.natAbs_natCast]; omega);have hul:=q7p hu;obtain ⟨c,hc⟩:∃ c,c=1075:=⟨_,rfl⟩;obtain ⟨s2,b1,b2,b3⟩:=q9x (V:=ofZ u) (c:=c) (qd4 (by omega) hu) (by omega);rw [hc] at b1;rw [Int.natAbs_natCast] at a3;obtain ⟨hP,hPb⟩:=q22 hu hf;refine ⟨s1,s2,a1,b1,qem (q66 (k:=70000) (by omega) (by omega)) (by omega),qem (k:=70001) (by rw [Int.sub_eq_add_neg]; exact q66 (k:=70000) hd (by rw [Int.natAbs_neg]; omega)) (by omega),?_⟩;obtain ⟨K,hK⟩:∃ K,K=65536:=⟨_,rfl⟩;obtain ⟨c1,hc1⟩:∃ c1,c1=53:=⟨_,rfl⟩;rw [← hc1] at a2;have e:=qlh hK hu0 (by rw [← hx]; exact hf);rw [← hx,← (qdb hK hu hf).1,← Int.sub_mul,q0T] at e;rw [← hc1,← hc] at e;intro hlt;have e1:=Int.ofNat_le.2 e;rw [Int.natCast_mul,Int.natCast_add,Int.natCast_mul,Int.natCast_mul,q0o,q0o,q0o,← a2,Int.natAbs_of_nonneg (by omega:0≤ofZ u),← b2,Int.mul_assoc,Int.mul_assoc,← Int.pow_add,← Int.pow_add,show c1+(K-c1)=K by omega,show c+(K-c)=K by omega,← Int.add_mul] at e1;have e2:=Int.mul_lt_mul_of_pos_right hlt (q0b K);omega
end Go.Proofs.YtjamnehcmaloeaaGreatDoor
namespace Go.Sp
open Go Go.E
theorem qpl {z:Int} {K:Nat}:decide (z*(2:Int) ^ K < 0)=decide (z < 0):=by
 have hp:=q0b K;rw [decide_eq_decide]
 constructor
 ·intro h
  rcases Int.lt_or_le z 0 with h1 | h1
  ·exact h1
  ·have:=Int.mul_nonneg h1 (Int.le_of_lt hp); omega
 ·intro h; exact Int.mul_neg_of_neg_of_pos h hp
theorem rF_K {z y:Int} {neg:Bool} (K:Nat) (hz:z≠0) (hy:y≠0):rF 0 neg (z*(2:Int) ^ K).natAbs (y*(2:Int) ^ K).natAbs=rF 0 neg z.natAbs y.natAbs:=by
 rw [q0T,q0T];exact q5S (by omega) (by omega) (q0S K)
theorem fQ_K {z y:Int} (K:Nat) (hz:z≠0) (hy:y≠0):fQ 0 (z*(2:Int) ^ K) (y*(2:Int) ^ K)=rF 0 (decide (z < 0) != decide (y < 0)) z.natAbs y.natAbs:=by
 have hp:=q0b K;unfold fQ;rw [if_neg (Int.mul_ne_zero hz (Int.ne_of_gt hp)),qpl,qpl,rF_K K hz hy]
theorem qm3:flz 1=4607182418800017408:=by
 have h1:flz 1=fQ 0 (1*(2:Int) ^ 65536) (1*(2:Int) ^ 65536):=by
  have:=qa1 (x:=1) (y:=1) (by omega) (by omega);rw [Int.one_mul] at this;exact this.symm
 rw [h1,fQ_K 65536 (by omega) (by omega)]
 show rF 0 false 1 1=4607182418800017408
 kernel_rfl
theorem quo32 (K:Nat):fQ 0 (3*(2:Int) ^ K) (2*(2:Int) ^ K)=4609434218613702656:=by
 rw [fQ_K K (by omega) (by omega)]
 show rF 0 false 3 2=4609434218613702656
 kernel_rfl
end Go.Sp
namespace Go.Proofs.YtjamnehcmaloeaaGreatDoor
open Go Go.E Go.Sp
def qcD:Fac:=⟨[0,1],[0,2,3],[0,1,1],[flz 2,flz 1,flz 2]⟩
theorem qeR {z:Int} (h1:0 < z) (h2:z.natAbs≤9) {a:Nat} {l:List Nat} (hl:l[a]?=some (flz z)):∃ (x:Nat) (V:Int),l[a]?=some x∧ofF x=some V∧0 < V:=⟨_,_,hl,q4m (by omega),Int.mul_pos h1 (q0b _)⟩
theorem qmk:FacOk qcD:=by
 refine ⟨⟨fun x hx=>?_,by decide⟩,by decide,by simp [qcD],by simp [qcD],by simp [qcD],rfl,by simp [qcD],fun j hj=>?_,fun x hx=>?_⟩
 ·have hx':x ∈ ([0,1]:List Int):=hx;have hl:(qcD.pm.length:Int)=2:=rfl;rw [hl];simp at hx'; omega
 ·have hj':j < 2:=hj
  rcases (by omega:j=0∨j=1) with rfl | rfl
  ·refine ⟨0,2,rfl,rfl,by omega,by decide,rfl,⟨1,rfl,by decide⟩,fun i h1 h2=>?_,qeR (z:=2) (by omega) (by omega) rfl⟩;obtain rfl:i=1:=by omega
   exact ⟨0,1,rfl,rfl,by omega⟩
  ·exact ⟨2,3,rfl,rfl,by omega,by decide,rfl,⟨1,rfl,by decide⟩,fun i h1 h2=>by omega,qeR (z:=2) (by omega) (by omega) rfl⟩
 ·have hx':x ∈ [flz 2,flz 1,flz 2]:=hx;simp only [List.mem_cons,List.not_mem_nil,or_false] at hx';have hh:∀ z:Int,z.natAbs≤9→x=flz z→x < 18446744073709551616∧q0r x:=fun z hz h=>by rw [h]; exact ⟨qeS (by omega),q7N (by omega)⟩
  exact hx'.elim (hh 2 (by omega)) fun h=>h.elim (hh 1 (by omega)) (hh 2 (by omega))
theorem qeb {K:Nat} (hK:K=65536):q8H qcD [((0:Nat):Int),((1:Nat):Int)] [[(8:Int)*(2:Int) ^ K],[(7:Int)*(2:Int) ^ K]] [0,0]=some [flz 4,4609434218613702656]:=by
 have h2:ofZ (flz 2)=2*(2:Int) ^ K:=by rw [hK]; exact q0g (q4m (by omega))
 have hm:q5o (flz 1) (flz 4)=1*4*(2:Int) ^ K:=by rw [hK]; exact qgr (by omega) (by omega)
 rw [q4X (a:=0) (b:=2) (x:=flz 2) (r:=[(8:Int)*(2:Int) ^ K]) rfl rfl rfl rfl];have e1:fQ 0 (q1w [(8:Int)*(2:Int) ^ K]) (ofZ (flz 2))=flz 4:=by
  rw [q9n,h2];have:=qa1 (x:=4) (y:=2) (by omega) (by omega);rw [← hK] at this;exact this
 rw [e1,if_pos (q7N (by omega))];have e2:qbv qcD (flz 4) (0+1) (2-(0+1)) [[(8:Int)*(2:Int) ^ K],[(7:Int)*(2:Int) ^ K]]=[[(8:Int)*(2:Int) ^ K],[(7:Int)*(2:Int) ^ K,-(1*4*(2:Int) ^ K)]]:=by
  have:=q5b (f:=qcD) (q:=flz 4) (p:=1) (c:=0) (i:=1) (x:=flz 1) (rows:=[[(8:Int)*(2:Int) ^ K],[(7:Int)*(2:Int) ^ K]]) (r:=[(7:Int)*(2:Int) ^ K]) rfl rfl rfl;rw [hm] at this;exact this
 rw [e2,q4X (a:=2) (b:=3) (x:=flz 2) (r:=[(7:Int)*(2:Int) ^ K,-(1*4*(2:Int) ^ K)]) rfl rfl rfl rfl];have e3:q1w [(7:Int)*(2:Int) ^ K,-(1*4*(2:Int) ^ K)]=3*(2:Int) ^ K:=by
  have h1:=q3Y [(7:Int)*(2:Int) ^ K] (-(1*4*(2:Int) ^ K));rw [q9n] at h1;have h2:([(7:Int)*(2:Int) ^ K] ++ [-(1*4*(2:Int) ^ K)])=[(7:Int)*(2:Int) ^ K,-(1*4*(2:Int) ^ K)]:=rfl;rw [h2] at h1;rw [h1]; omega
 rw [e3,h2,quo32,if_pos (by decide)]
 rfl
theorem qhm:q8H qcD (q74 2) ([flz 8,flz 7].map fun x=>[ofZ x]) (List.replicate 2 0)=some [flz 4,4609434218613702656]:=by
 have h8:ofZ (flz 8)=8*(2:Int) ^ 65536:=q0g (q4m (by omega));have h7:ofZ (flz 7)=7*(2:Int) ^ 65536:=q0g (q4m (by omega));have hu:q74 2=[((0:Nat):Int),((1:Nat):Int)]:=rfl;have hr:List.replicate 2 0=[0,0]:=rfl;rw [List.map_cons,List.map_cons,List.map_nil,h8,h7,hu,hr];exact qeb rfl
theorem qhk {x:Nat} {l:List Int} (hl:∀ z ∈ l,z.natAbs≤9) (h:x ∈ l.map flz):x < 18446744073709551616∧q0r x:=by
 obtain ⟨z,hz,rfl⟩:=List.mem_map.1 h;have:=hl z hz;exact ⟨qeS (by omega),q7N (by omega)⟩
theorem q7L {D:Nat→Prop} {z:Int} {w:World} (hT:q2J w) (hz:z.natAbs≤9) (hf:Fr D w):Calls Tryz.prog 55 #[.int .i64 z,.int .i64 0] w fun x w'=>x=.returned (.int .u64 (flz z:Nat))∧Ext w w' :=
 q5k hT (by omega) (by omega) (q8y (by have:=q0W (n:=z.natAbs) (k:=4) (by omega); omega)) hf
theorem q7z {α:Type} {f:α→Value} {xs:List α} {D:Nat→Prop} {w:World} {g E k:Nat} (hb:Blk w g E ⟨xs.map f⟩) (hk:k=xs.length) (hd:D g):In (fSc f xs) D (.slice (some ⟨g,0,none⟩) k k) w:=by
 subst hk;refine ⟨some ⟨g,0,none⟩,xs.length,xs.length,rfl,Nat.le_refl _,by simp,fun _=>⟨⟨g,0,none⟩,rfl,hd,fun j u hu=>?_⟩⟩;rw [q07,Nat.zero_add,hb.cell];simpa using hu
theorem qiT {w:World} (hT:q2J w):Calls Tryz.prog 14 #[] w fun e w'=>e=.returned (.bool true)∧Ext w w':=by
 have hx:Ext w w:=Kp.refl _ _;have hf:Fr (fun _=>True) w:=Fr.triv _;obtain ⟨c2,hc2⟩:∃ c,c=flz 2:=⟨_,rfl⟩;obtain ⟨c4,hc4⟩:∃ c,c=flz 4:=⟨_,rfl⟩;obtain ⟨c8,hc8⟩:∃ c,c=flz 8:=⟨_,rfl⟩;obtain ⟨c7,hc7⟩:∃ c,c=flz 7:=⟨_,rfl⟩;have f2:=fun {w:World} (hT:q2J w)=>q7L (D:=fun _=>True) (z:=2) hT (by omega) (Fr.triv _);have f4:=fun {w:World} (hT:q2J w)=>q7L (D:=fun _=>True) (z:=4) hT (by omega) (Fr.triv _);have f8:=fun {w:World} (hT:q2J w)=>q7L (D:=fun _=>True) (z:=8) hT (by omega) (Fr.triv _);have f7:=fun {w:World} (hT:q2J w)=>q7L (D:=fun _=>True) (z:=7) hT (by omega) (Fr.triv _);rw [← hc2] at f2;rw [← hc4] at f4;rw [← hc8] at f8;rw [← hc7] at f7;refine q0J Tryz.func14 rfl Tryz.ntmps14 (by kernel_rfl) ?_;refine Wz ?_;refine q0A fun K hK=>?_;refine Zz ?_;refine Ck qbj (f2 (hT.ext hx)) fun w8 hx8=>?_;replace hx:=hx.trans hx8;clear hx8;refine Ck qbj (f4 (hT.ext hx)) fun w9 hx9=>?_;replace hx:=hx.trans hx9;clear hx9;refine Ck qbj (f8 (hT.ext hx)) fun w10 hx10=>?_;replace hx:=hx.trans hx10;clear hx10;refine Ck qbj (f7 (hT.ext hx)) fun w11 hx11=>?_;replace hx:=hx.trans hx11;clear hx11;refine hK _ _ ?_; clear hK;refine q0A fun K hK=>?_;refine Zz ?_;refine q1d fun w12 hx12 hb12 hs12=>?_;replace hx:=hx.trans hx12;have h12:In (fSc q1f [0,1]) (fun _=>True) _ w12:=q7z (k:=2) hb12 rfl trivial;refine q1d fun w13 hx13 hb13 hs13=>?_;replace h12:=h12.ext hx13;replace hx:=hx.trans hx13;have h13:In (fSc q1f [0,2,3]) (fun _=>True) _ w13:=q7z (k:=3) hb13 rfl trivial;refine q1d fun w14 hx14 hb14 hs14=>?_;replace h12:=h12.ext hx14;replace h13:=h13.ext hx14;replace hx:=hx.trans hx14;have h14:In (fSc q1f [0,1,1]) (fun _=>True) _ w14:=q7z (k:=3) hb14 rfl trivial;refine q1d fun w17 hx17 hb17 hs17=>?_;replace h12:=h12.ext hx17;replace h13:=h13.ext hx17;replace h14:=h14.ext hx17;replace hx:=hx.trans hx17;have h17:In (fSc q3l [c2,4607182418800017408,c2]) (fun _=>True) _ w17:=q7z (k:=3) hb17 rfl trivial;have hf5:In (qok ⟨[0,1],[0,2,3],[0,1,1],[c2,4607182418800017408,c2]⟩) (fun _=>True) (.agg #[_,_,_,_]) w17:=⟨_,_,_,_,rfl,h12,h13,h14,h17⟩
 have hfd:(⟨[0,1],[0,2,3],[0,1,1],[c2,4607182418800017408,c2]⟩:Fac)=qcD:=by unfold qcD; rw [qm3,hc2]
 rw [hfd] at hf5;replace hf5:=hf5.db (w':=w17);clear h12 h13 h14 h17 hfd hb12 hb13 hb14 hb17;refine Zz ?_;have hs0:=hx.size;refine q0q ?_;intro g w5 hg5 hx5 hb5 hs5;replace hf5:=hf5.ext hx5;replace hx:=hx.trans hx5;refine q0Z hb5 qpc rfl rfl fun w6 hk6 hb6=>?_;replace hf5:=hf5.kpb hk6 fun k hk=>by omega
 replace hx:=hx.under hk6 fun k hk=>by have:=hx.size; omega
 refine hK _ _ ?_; clear hK;have h0:(0:Int)=0:=rfl;refine q0A fun K hK=>?_;refine Zz1 hb6.l4 ?_;refine q1d fun w23 hx23 hb23 hs23=>?_;replace hf5:=hf5.ext hx23;replace hb6:=hb6.ext hx23;replace hx:=hx.trans hx23;have h23:In (fSc q3l [flz 8,flz 7]) (fun _=>True) _ w23:=q7z (k:=2) (by rw [← hc8,← hc7]; exact hb23) rfl trivial;have hfin:qbb [flz 8,flz 7]:=fun x hx=>qhk (l:=[8,7]) (fun z hz=>by simp at hz; omega) hx;have hlow:=qdk (hT.ext hx) hf5.all qmk h23 hfin rfl (Fr.triv _);rw [show q8H ⟨[0,1],[0,2,3],[0,1,1],[flz 2,flz 1,flz 2]⟩ (q74 2) ([flz 8,flz 7].map fun x=>[ofZ x]) (List.replicate 2 0)=_ from qhm] at hlow;refine Cr qsQ hlow fun v24 w24 hx24 h24=>?_;replace hf5:=hf5.ext hx24;replace h23:=h23.ext hx24;replace hb6:=hb6.ext hx24;replace hx:=hx.trans hx24;obtain ⟨a24,b24,rfl,h25,h26⟩:=h24;have h26':b24=.int .i64 0:=h26;subst h26';obtain ⟨A25,n25,c25,rfl,h25'⟩:=id h25;have hl25:=In.sc_len h25;obtain rfl:n25=2:=hl25.symm;rw [← hc4] at h25;replace h25:In (fSc q3l [c4,4609434218613702656]) (fun _=>True) (.slice A25 2 c25) w24:=h25;obtain ⟨ad,rfl,i0,x0⟩:=h25.ixU (i:=0) rfl;obtain ⟨_,hcc,i1,x1⟩:=h25.ixU (i:=1) rfl;cases hcc;have i0':(0:Int)≤0∧(0:Int) < (2:Nat):=by omega
 have i1':(0:Int)≤1∧(1:Int) < (2:Nat):=by omega
 have x0':w24.cell? ad=some (.int .u64 c4):=x0;have x1':w24.cell? ⟨ad.block,ad.off+1,none⟩=some (.int .u64 (4609434218613702656:Nat)):=x1;have q1:((0:Int) == 0)=true:=rfl;have q2:(((2:Nat):Int) == 2)=true:=rfl;have q3:((c4:Int) == c4)=true:=by simp
 have q4:(((4609434218613702656:Nat):Int) == 4609434218613702656)=true:=rfl;have q5:(1:Int).toNat=1:=rfl;refine Zz ?_;refine hK _ _ ?_; clear hK;refine q0A fun K hK=>?_;simp -implicitDefEqProofs (disch:=omega) only [go_sem,Nat.reduceEqDiff,Nat.reduceAdd,↓reduceIte,q1,q2,q3,q4,i0',i1',x0',x1',q5,Int.toNat_zero];refine hK _ _ ?_; clear hK K;refine q0L ?_
 try simp only [q0D,q0P]
 refine q0t rfl ⟨by simp only [q0G,Nat.reduceEqDiff,↓reduceIte],hx⟩
section
variable {F:Nat→Nat→Option Nat} {l:List Int} {cs:List Nat} {cols:List (List Nat)} {j n M:Nat} {p:LSt}
theorem qjX (h1:p.2.1.length=p.2.2.length) (h2:∀ x ∈ p.2.2,x < 18446744073709551616):∀ (c:Nat) (q:LSt),lcC F l cs j p c=some q→q.2.1.length=p.2.1.length+c∧q.2.1.length=q.2.2.length∧∀ x ∈ q.2.2,x < 18446744073709551616
 | 0,q,h=>by cases h; exact ⟨rfl,h1,h2⟩
 | c+1,q,h=>by
  unfold lcC at h;cases hq:lcC F l cs j p c with
  | none=>rw [hq] at h; cases h
  | some r =>
   obtain ⟨a1,a2,a3⟩:=qjX h1 h2 c r hq;rw [hq,Option.bind_some] at h;cases hv:lcV (q1w (lcS F l r.1 (cs.getD c 0) j j)) r.1 (cs.getD c 0) j with
   | none=>rw [hv] at h; cases h
   | some v =>
    rw [hv] at h;cases h;refine ⟨by simp; omega,by simp; omega,fun x hx=>?_⟩
    rcases List.mem_append.1 hx with hx | hx
    ·exact a3 x hx
    ·simp at hx; subst hx; exact (qhA hv).2
theorem qjW (hM:∀ j,(cols.getD j []).length≤M):∀ (j:Nat) (q:List Int × LSt),lcM F l cols j=some q→q.1.length=j+1∧q.2.2.1.length≤j*M∧q.2.2.1.length=q.2.2.2.length∧∀ x ∈ q.2.2.2,x < 18446744073709551616
 | 0,q,h=>by cases h; exact ⟨rfl,by simp,rfl,fun x hx=>by cases hx⟩
 | j+1,q,h=>by
  unfold lcM at h;cases hq:lcM F l cols j with
  | none=>rw [hq] at h; cases h
  | some r =>
   obtain ⟨a1,a2,a3,a4⟩:=qjW hM j r hq;rw [hq,Option.bind_some] at h;cases hc:lcC F l (cols.getD j []) j r.2 (cols.getD j []).length with
   | none=>rw [hc] at h; cases h
   | some s =>
    rw [hc] at h;cases h;obtain ⟨b1,b2,b3⟩:=qjX a3 a4 _ s hc;have:=hM j;refine ⟨by simp; omega,?_,b2,b3⟩;rw [Nat.succ_mul];dsimp only;omega
end
structure FSh (f:List Int × List Int × List Int × List Nat):Prop where
 p:f.1.length≤100
 c:f.2.1.length≤1000000
 r:f.2.2.1.length≤1000000
 v:f.2.2.2.length≤1000000
 u:∀ x ∈ f.2.2.2,x < 18446744073709551616
theorem qmj {raw:List Nat} {N k:Nat} (hN:N≤100):FSh (qoj raw N k):=by
 unfold qoj;have hl:=q7A raw N;have hM:∀ j,((q3Q (adT (qcC (dfF (gF raw N k) N) (q3P raw N) N)) N N).getD j []).length≤N+1:=fun j=>by
  unfold q3Q;rw [List.getD_eq_getElem?_getD,List.getElem?_map]
  rcases Nat.lt_or_ge j N with hj | hj
  ·rw [List.getElem?_range hj]; exact qaa
  ·rw [List.getElem?_eq_none (by simpa using hj)]; simp
 generalize q3Q (adT (qcC (dfF (gF raw N k) N) (q3P raw N) N)) N N=cols at *;unfold q7J;cases hq:lcM (dfF (gF raw N k) N) (q3P raw N) cols N with
 | none=>exact ⟨by simp,by simp,by simp,by simp,by simp⟩
 | some q =>
  obtain ⟨a1,a2,a3,a4⟩:=qjW hM N q hq;have:N*(N+1)≤100*101:=Nat.mul_le_mul hN (by omega);exact ⟨by dsimp only; omega,by dsimp only; omega,by dsimp only; omega,by dsimp only; omega,a4⟩
theorem qat:ACt 14 [] (bv true):=qf6 qsP fun D w vs hT hF hR=>by
 unfold RdL at hR;subst hR;exact qiT hT
theorem qcQ {raw:List Nat} {k:Int} {st n:Nat}:qbb (qbu raw k st n):=fun x hx=>by
 unfold qbu at hx;obtain ⟨i,_,rfl⟩:=List.mem_map.1 hx;have:=qd6 (k:=st) (q4f raw (k+i));exact ⟨this.2,this.1⟩
theorem qdl {pm cp ri:List Int} {vs l:List Nat} (hs:FSh (pm,cp,ri,vs)) (hl:qbb l) (hn:l.length=pm.length):∃ (ys:List Nat) (e:Int),ACt 13 [q5n (pm,cp,ri,vs),pF l] (.tu [pF ys,iv e])∧(e=0→FacOk ⟨pm,cp,ri,vs⟩∧ys.length=pm.length∧FwOk ⟨pm,cp,ri,vs⟩ l ys pm.length):=by
 have hp:=hs.p;have h:=qaN (by have:=hs.p; dsimp only at this; omega) hs.c hs.r hs.v hs.u hl hn;unfold lowR at h
 split at h
 ·rename_i h0;exact ⟨[],_,h,fun e=>absurd e h0⟩
 ·rename_i h0;have ho:=qa0 (Classical.not_not.1 h0) hs.r hs.u;dsimp only at h;cases hf:q8H ⟨pm,cp,ri,vs⟩ (q74 l.length) (l.map fun x=>[ofZ x]) (List.replicate l.length 0) with
  | none=>rw [hf] at h; exact ⟨[],233,h,fun e=>by cases e⟩
  | some ys=>rw [hf] at h; exact ⟨ys,0,h,fun _=>⟨ho,qm1 ho hn hf⟩⟩
theorem qhv {f:Fac} {k:Nat} (ho:FacOk f) (hk:k < f.pm.length):0 < ofZ (elF f k k):=by
 obtain ⟨a,e,hcol⟩:=ho.col k hk;obtain ⟨x,V,d1,d2,d3⟩:=hcol.diag;have hlt:=hcol.lt;have hel:elF f k k=x:=by
  rw [qa6 hcol,show e-a=(e-(a+1))+1 by omega,q4b,if_pos hcol.first];exact getD_some d1
 rw [hel,q0g d2];exact d3
set_option maxHeartbeats 1000000 in
theorem q6B {raw:List Nat} {n st kd:Int} (hr:raw.length≤9223372036854775807) (h1 : -9223372036854775808≤n) (h2:n≤9223372036854775807) (h3 : -9223372036854775808≤st) (h4:st≤9223372036854775807) (h5 : -9223372036854775808≤kd) (h6:kd≤9223372036854775807) :
  ACt 3 [pF raw,iv n,iv st,iv kd] (bv true):=by
 have hN:q1W n 6 < 6:=by unfold q1W; omega
 have hpm:=qgn raw (q1W n 6);have hll:=q7A raw (q1W n 6);have cF:=qea hr h1 h2 h3 h4 ⟨by omega,fun x hx=>by have:=hpm.1 x hx; omega,hpm.2⟩;have hsh:=qmj (raw:=raw) (N:=q1W n 6) (k:=q1W (q1W st 3:Nat) 4) (by omega);obtain ⟨pm,cp,ri,vs,hf⟩:∃ pm cp ri vs,qoj raw (q1W n 6) (q1W (q1W st 3:Nat) 4)=(pm,cp,ri,vs):=⟨_,_,_,_,rfl⟩;rw [hf] at cF hsh;clear hf hpm hll;have hp:=hsh.p;dsimp only at hp;have cV:=qbJ (raw:=raw) (k:=30) (n:=pm.length) (st:=kd) hr (by omega) (by omega) (by omega) h5 h6;have hb:qbb (qbu raw 30 (q1W kd 4) pm.length):=qcQ;have hbl:(qbu raw 30 (q1W kd 4) pm.length).length=pm.length:=q6d;generalize qbu raw 30 (q1W kd 4) pm.length=b at *;obtain ⟨ys,e,cL,hok⟩:=qdl hsh hb hbl;have cE:∀ {k m:Nat},FacOk ⟨pm,cp,ri,vs⟩→m < pm.length→k < pm.length→ACt 18 [q5n (pm,cp,ri,vs),iv k,iv m] (uv (elF ⟨pm,cp,ri,vs⟩ k m:Nat)):=fun {k m} ho hm hk=>by
  obtain ⟨a,b,hc⟩:=ho.col m hm;rw [qa6 hc];exact qgE ho hc.ha hc.hb (Nat.le_of_lt hc.lt) hc.le (by omega) (by omega) (by omega)
 unfold q5n at cF cL cE;dsimp only at cF cL cE;refine act cal3 Tryz.func3 rfl Tryz.ntmps3 (by kernel_rfl) ?_;refine Az ?_;refine q1h fun K hK=>?_;refine Zz ?_;refine q0E cF ?_
 try refine Zz ?_
 refine hK _ _ ?_; clear hK K;refine q1h fun K hK=>?_;refine Zz ?_;refine q0E cV ?_
 try refine Zz ?_
 refine hK _ _ ?_; clear hK K;refine q1h fun K hK=>?_;refine Zz ?_;refine q0E cL ?_
 try refine Zz ?_
 refine hK _ _ ?_; clear hK K;refine q0N fun K0 hK0=>?_
 by_cases he:e=0
 case neg =>
  have e1:(e != 0)=true:=by simpa using he
  refine Az1 e1 ?_;refine A_t Cz ?_;refine q1h fun K hK=>?_;refine Zz ?_;refine q0E qat ?_
  try refine Zz ?_
  refine hK _ _ ?_; clear hK K;refine q09 (rt (rs:=[.tmp 8]) rfl rfl ?_ (.inl rfl));exact Zy
 obtain ⟨ho,hyl,hFw⟩:=hok he;clear hok;subst he;have e1:((0:Int) != 0)=false:=rfl;refine Az1 e1 ?_;refine A_f Cz ?_;refine q0M (hK0 _ _ ?_); clear hK0 K0;refine q0N fun K0 hK0=>?_;have e2:((ys.length:Int) != (b.length:Int))=false:=by simp; omega
 refine Az1 e2 ?_;refine A_f Cz ?_;refine q0M (hK0 _ _ ?_); clear hK0 K0;refine q0N fun K0 hK0=>?_;refine q4D [9,10,11] Lk ?_;refine Az ?_;refine q00 ?_;refine q0V (fun k=>k≤pm.length) [9,10,11] [9] Lk Lk (fun k:Nat=>[(13,iv k)]) (fun _=>[]) (fun k=>pm.length-k) 0 (Nat.zero_le _) ?_ ?_
 ·refine LeM [] rfl rfl ?_;refine Zz ?_
  rfl
 ·intro k hk;refine q0N fun K1 hK1=>?_
  by_cases hlt:k < pm.length
  ·have hlt':(k:Int) < b.length:=by omega
   refine Az1 hlt' ?_;refine A_t Cz ?_;refine q0M (hK1 _ _ ?_); clear hK1 K1;refine q3k fun K1 hK1=>?_;obtain ⟨bk,hbk⟩:∃ x,b[k]?=some x:=⟨_,List.getElem?_eq_getElem (by omega)⟩;obtain ⟨g1,g2⟩:=hb bk (List.mem_of_getElem? hbk);have cB:=q3n g1 (q1R g2);refine q1h fun K hK=>?_;refine Zz1 hbk ?_;refine q0E cB ?_
   try refine Zz ?_
   refine hK _ _ ?_; clear hK K;refine q0N fun K hK=>?_;refine Az ?_;refine q00 ?_;have hq:=fun m (hm:m≤k)=>qdt (f:=⟨pm,cp,ri,vs⟩) (b:=b) (ys:=ys) (k:=k) ho.vals hb m fun i hi=>(hFw i (by omega)).1;have hq0:q5z ⟨pm,cp,ri,vs⟩ b ys k 0=[ofZ bk]:=by rw [q5z,getD_some hbk]
   have hqs:∀ m y,ys[m]?=some y→q5z ⟨pm,cp,ri,vs⟩ b ys k (m+1)=q5z ⟨pm,cp,ri,vs⟩ b ys k m ++ [-(q5o (elF ⟨pm,cp,ri,vs⟩ k m) y)]:=fun m y hy=>by rw [q5z,getD_some hy]
   refine q0V (fun m=>m≤k) [9,10,11,13] [9] Lk Lk (fun m:Nat=>[(15,iv m),(14,.ow 1004 (some 4) 0 (q5z ⟨pm,cp,ri,vs⟩ b ys k m).length)]) (fun m=>[(1004,⟨37,some 4,(q5z ⟨pm,cp,ri,vs⟩ b ys k m).map fun V=>pV V,false⟩)]) (fun m=>k-m) 0 (Nat.zero_le _) ?_ ?_
   ·rw [hq0];refine LeM [(1004,some 54)] rfl rfl ?_;refine Zz ?_
    rfl
   ·intro m hm;obtain ⟨q1,q2,q3⟩:=hq m hm;refine q0N fun K2 hK2=>?_
    by_cases hlm:m < k
    ·have hlm':(m:Int) < k:=by omega
     obtain ⟨y,hy⟩:∃ x,ys[m]?=some x:=⟨_,List.getElem?_eq_getElem (by omega)⟩;obtain ⟨y1,y2,_⟩:=hFw m (by omega);rw [getD_some hy] at y1 y2;have cE1:=cE (k:=k) (m:=m) ho (by omega) hlt;obtain ⟨u1,u2⟩:elF ⟨pm,cp,ri,vs⟩ k m < 18446744073709551616∧q0r (elF ⟨pm,cp,ri,vs⟩ k m):=q6e ho.vals _ _;have cO1:=q3n u1 (q1R u2);have cO2:=q3n y2 (q1R y1);have cM:=q8r (q22 u2 y1).1;have es:=hqs m y hy;refine Az1 hlm' ?_;refine A_t Cz ?_;refine q0M (hK2 _ _ ?_); clear hK2 K2;refine q3k fun K2 hK2=>?_;refine qfg [] q05 (by kernel_rfl) fun K9 hK9=>?_;refine Zz1 hy ?_;refine q0E cE1 ?_
     try refine Zz ?_
     refine q0E cO1 ?_
     try refine Zz1 hy ?_
     refine q0E cO2 ?_
     try refine Zz ?_
     refine q0E cM ?_
     try refine Zz ?_
     refine q0E q9T ?_
     try refine Zz ?_
     refine hK9 _ _ (hK2 _ _ ?_); clear hK9 hK2;refine q0h fun K9 hK9=>?_;refine Zz1 @i64_in ?_;refine hK9 _ _ ?_; clear hK9 K9;refine ⟨m+1,by omega,by omega,?_⟩;rw [es];refine LeM [(1004,some 74)] rfl rfl ?_;refine Zz ?_;exact ⟨by omega,q1v (by simp) clV⟩
    ·have hlm':¬ (m:Int) < k:=by omega
     obtain rfl:m=k:=by omega
     refine Az1 hlm' ?_;refine A_f Cz ?_;refine q06 (hK _ _ ?_); clear hK;obtain ⟨y,hy⟩:∃ x,ys[m]?=some x:=⟨_,List.getElem?_eq_getElem (by omega)⟩;obtain ⟨y1,y2,y3⟩:=hFw m (by omega);rw [getD_some hy] at y1 y2 y3;have cE1:=cE (k:=m) (m:=m) ho (by omega) hlt;obtain ⟨u1,u2⟩:elF ⟨pm,cp,ri,vs⟩ m m < 18446744073709551616∧q0r (elF ⟨pm,cp,ri,vs⟩ m m):=q6e ho.vals _ _;have u3:=qhv (k:=m) ho (by omega);have hsd:=qcb q2 (by omega);have hsb:=q59 (i:=(q5z ⟨pm,cp,ri,vs⟩ b ys m m).length) q2 (by omega);rw [List.take_length] at hsb;have hdv:=fun c hc=>qlK (q3 c hc);obtain ⟨s1,s2,r1,r2,r3,r4,r5⟩:=qqk (by omega) hdv u2 u3 y3 y1;have cO1:=q3n u1 (q1R u2);have cO2:=q3n y2 (q1R y1);have cM:=q8r (q22 u2 y1).1;have cS:=q9S (by omega) hsd;have c53:=q9y (by omega) (by omega) r1;have c75:=q9y (by omega) (by omega) r2;have cA:=qex r3;have cB:=qnC r4;have cG:=qhQ (A:=s1+s2) (B:=((q1w (q5z ⟨pm,cp,ri,vs⟩ b ys m m)-q5o (elF ⟨pm,cp,ri,vs⟩ m m) y).natAbs:Int));rw [decide_eq_false r5] at cG;refine qbt [(1,7),(2,7),(5,7),(6,7),(1,8),(2,8),(5,8),(6,8)] q05 (by kernel_rfl) fun K hK=>?_;refine Zz ?_;refine q3A cS nz_V ?_
     try refine Zz ?_
     refine q0E cE1 ?_
     try refine Zz ?_
     refine q0E cO1 ?_
     try refine Zz ?_
     refine hK _ _ ?_; clear hK K;refine qbt [(0,10),(1,10),(5,10),(6,10),(7,10),(8,10),(9,10)] q05 (by kernel_rfl) fun K hK=>?_;refine Zz1 hy ?_;refine q0E cO2 ?_
     try refine Zz ?_
     refine q0E cM ?_
     try refine Zz ?_
     refine q0E cB ?_
     try refine Zz ?_
     refine q0E q9U ?_
     try refine Zz ?_
     refine hK _ _ ?_; clear hK K;refine qbt [] q05 (by kernel_rfl) fun K hK=>?_;refine Zz ?_;refine q0E q9U ?_
     try refine Zz ?_
     refine q0E c53 ?_
     try refine Zz ?_
     refine q0E c75 ?_
     try refine Zz ?_
     refine q0E cA ?_
     try refine Zz ?_
     refine q0E cG ?_
     try refine Zz ?_
     refine hK _ _ ?_; clear hK K;refine A_f Cz ?_;refine q0M (hK1 _ _ ?_); clear hK1;refine q0h fun K9 hK9=>?_;refine Zz1 @i64_in ?_;refine hK9 _ _ ?_; clear hK9 K9;refine ⟨m+1,by omega,by omega,?_⟩;refine LeM [] rfl rfl ?_;refine Zz ?_;omega
  ·have hlt':¬ (k:Int) < b.length:=by omega
   refine Az1 hlt' ?_;refine A_f Cz ?_;refine q06 (hK0 _ _ ?_); clear hK0;refine q1h fun K hK=>?_;refine Zz ?_;refine q0E qat ?_
   try refine Zz ?_
   refine hK _ _ ?_; clear hK K;refine q09 (rt (rs:=[.tmp 8]) rfl rfl ?_ (.inl rfl));exact Zy
open Go.ChangeShapes Go.WideShapes Go.ChangeAt Go.WideMaps Go.WideElems Go.RowKit
set_option maxRecDepth 100000
abbrev qhC : List (String × DataW Unit) := [("math/bits.deBruijn32tab", Rows.laid_math_bits_deBruijn32tab)]
theorem own:ownKnob Tryz.prog.godebug=none:=by kernel_rfl
theorem qiB (os:Os) (args:Array Value):laidMetH Tryz.prog qhC ((World.doorLaid Tryz.prog 400 os).forCall (fun _ _=>0) ⟨#[],args,[]⟩).memory :=
 laidMetH_of_parts3 (fuel:=8) (laidMet_of_run' 8 (by kernel_rfl) (by kernel_rfl)) (by kernel_rfl) (by kernel_rfl)
theorem undW:Tryz.prog.underlying 22=some (.slice 39):=by kernel_rfl
theorem cellU:Tryz.prog.cellsOf 39=1:=by kernel_rfl
theorem qhF {H:Type} {enc:TypeId × Value→H} {W:World} {v:Value} {d:DataW H} {p:List MemPlace} {b0:Nat} (hv:Value.okWide Tryz.prog W .any b0 22 v) (h:DataW.Trod enc Tryz.prog W 0 (fun _=>true) true 22 v d p) :
  ∃ A n c raw,v=.slice A n c∧n≤9223372036854775807∧In (fSc q3l raw) (fun _=>True) (.slice A n c) W:=by
 obtain ⟨A,n,c,rfl⟩:=okWide_slice undW hv;obtain ⟨fuel,hf⟩:=h
 rcases open_ints undW qpH cellU hf with ⟨h1,_⟩ | ⟨a,len,cap,zs,h1,_,hl,hm,hz,_,hc,hw⟩
 ·injection h1 with h1 _
  injection h1 with h1 h2 h3
  subst h1; subst h2; subst h3;exact ⟨_,_,_,[],rfl,by omega,In.sc_nil⟩
 ·injection h1 with h1 _
  injection h1 with h1 h2 h3
  subst h1; subst h2; subst h3;have hz':zs.length=c:=by simpa using hz
  refine ⟨_,_,_,(zs.take n).map Int.toNat,rfl,by unfold maxLen at hm; omega,some a,n,c,rfl,hl,by simp; omega,fun _=>⟨a,rfl,trivial,fun j u hu=>?_⟩⟩;rw [List.getElem?_map,List.getElem?_map,List.getElem?_take] at hu
  split at hu
  ·rename_i hj;have hjz:j < zs.length:=by omega
   rw [List.getElem?_eq_getElem hjz] at hu;have h0:=hc j hjz;rw [List.getD_eq_getElem?_getD,List.getElem?_eq_getElem hjz] at h0;have h1:=hw zs[j] (List.getElem_mem _);simp only [Lit.wf,Bool.and_eq_true,decide_eq_true_eq] at h1;have h2:(0:Int)≤zs[j]:=h1.1;rw [h0,← Option.some.inj hu]
   show some (Value.int .u64 zs[j])=some (Value.int .u64 ((zs[j].toNat:Nat):Int))
   rw [Int.toNat_of_nonneg h2]
  ·cases hu
set_option maxRecDepth 100000
theorem q7d {H:Type} {enc:TypeId × Value→H} {P:Program} {w:World} {base:Nat} {spare:Nat→Bool} {held:Bool} {t t' t'' t3:TypeId} {args:Array Value} {ds:List (DataW H)} {ps:List MemPlace} (h:DataW.TrodAll enc P w base spare held [t,t',t'',t3] args.toList ds ps) :
  ∃ v v' v'' v3 d d' d'' d3 p p' p'' p3,args=#[v,v',v'',v3]∧ds=[d,d',d'',d3]∧DataW.Trod enc P w base spare held t v d p∧DataW.Trod enc P w base spare held t' v' d' p'∧DataW.Trod enc P w base spare held t'' v'' d'' p''∧DataW.Trod enc P w base spare held t3 v3 d3 p3:=by
 obtain ⟨v,vs,d,ds',p,q,hargs,rfl,rfl,hd,hrest⟩:=trodAll_cons h;obtain ⟨v',vs',d',ds'',p',q',rfl,rfl,rfl,hd',hrest'⟩:=trodAll_cons hrest;obtain ⟨v'',vs'',d'',ds3,p'',q'',rfl,rfl,rfl,hd'',hrest''⟩:=trodAll_cons hrest';obtain ⟨v3,vs3,d3,ds4,p3,q3,rfl,rfl,rfl,hd3,hrest3⟩:=trodAll_cons hrest'';obtain ⟨rfl,rfl,rfl⟩:=trodAll_nil hrest3;exact ⟨v,v',v'',v3,d,d',d'',d3,p,p',p'',p3,by cases args; simp_all,rfl,hd,hd',hd'',hd3⟩
theorem qg7 {w:World} {D:Nat→Prop} {ρ:Nat→Option Nat} {h:Hp} {x y z t:PV} {a b c d:Value} (h1:Rd w D x ρ h a) (h2:Rd w D y ρ h b) (h3:Rd w D z ρ h c) (h4:Rd w D t ρ h d):RdL w D [x,y,z,t] ρ h [a,b,c,d]:=by
 unfold RdL;refine ⟨_,_,rfl,h1,?_⟩;unfold RdL;refine ⟨_,_,rfl,h2,?_⟩;unfold RdL;refine ⟨_,_,rfl,h3,?_⟩;unfold RdL;exact ⟨_,_,rfl,h4,by unfold RdL; rfl⟩
theorem q7P (os:Os) (started:os.Started) (H:Type) (enc:TypeId × Value→H) :
  ReturnsInHanded {} Tryz.checked os 3 .any (fun w args=>(Rows.solveErrorsSpec.pre enc Tryz.prog Tryz.f3 [] false w args∧laidMetH Tryz.prog qhC w)∧sizedMet enc Tryz.prog Tryz.f3 (OpenSpec.ofChange Rows.solveErrorsSpec) false w args)
   (Rows.solveErrorsSpec.post enc Tryz.prog Tryz.f3 false true false false):=by
 refine returnsInHanded_of_change_and (C:=Tryz.checked) (X:=fun w _=>laidMetH Tryz.prog qhC w) (fun _ _ _ hh h=>h.of_heap hh) own started (by kernel_rfl) Tryz.func3
  (ChangeSpec.witness_shaped (enc:=enc) (C:=Tryz.checked) (os:=os) (X:=fun w _=>laidMetH Tryz.prog qhC w) false (World.doorLaid Tryz.prog 400 os) #[.slice none 0 0,.int .i64 0,.int .i64 0,.int .i64 0] 8 rfl (World.shaped_of_RefB (by kernel_rfl) (by kernel_rfl)) (by kernel_rfl) (by kernel_rfl) (by kernel_rfl) (qiB os _)) ?_
 intro W base args ds gs before hval0 hW _ _ hL _;have hval:∀ (j:Nat) t v,Tryz.f3.params[j]?=some t→args[j]?=some v→Value.okWide Tryz.prog W .any base t v:=hval0;have hW':DataW.Whole enc Tryz.prog Tryz.f3.params.toList Rows.solveErrorsSpec.vars false W args.toList ds gs before:=hW;obtain ⟨p,q,hA0,hV,rfl,_,_⟩:=hW;have hA:DataW.TrodAll enc Tryz.prog W 0 (fun _=>true) true [22,3,3,3] args.toList ds p:=hA0;obtain ⟨v0,v1,v2,v3,d0,d1,d2,d3,p0,p1,p2,p3,rfl,rfl,h0,h1,h2,h3⟩:=q7d hA;obtain ⟨rfl,rfl⟩:=trodVars_none hV;obtain ⟨A,n,c,raw,rfl,hn,hin⟩:=qhF (hval 0 22 _ rfl rfl) h0;obtain ⟨N,rfl,_,_,hN⟩:=open_int und3 (hval 1 3 _ rfl rfl) h1;obtain ⟨S,rfl,_,_,hS⟩:=open_int und3 (hval 2 3 _ rfl rfl) h2;obtain ⟨T,rfl,_,_,hT⟩:=open_int und3 (hval 3 3 _ rfl rfl) h3;simp only [Lit.wf,Bool.and_eq_true,decide_eq_true_eq] at hN hS hT;have hc:=q6B (raw:=raw) (by rw [hin.sc_len]; exact hn) hN.1 hN.2 hS.1 hS.2 hT.1 hT.2;refine (hc.2 _ W [_,_,_,_] (qlC hL) (Fr.triv _) (qg7 (qdE hin) q3O q3O q3O)).mono fun e W' ⟨v,he,hx,hr⟩=>?_;rw [q3G hr] at he;subst he;exact ⟨_,rfl,qhB rfl hW' (by kernel_rfl) rfl rfl hx⟩
theorem q4g:Rows.SolveErrorsSaid :=
 OpenClaim.holds_of_wide 3 Tryz.f3 rfl rfl rfl rfl rfl rfl rfl ⟨rfl,rfl,rfl,rfl,rfl⟩ rfl rfl rfl rfl rfl (by kernel_rfl) Tryz.func3 (by kernel_rfl)
  (of_decide_eq_true (by kernel_rfl)) (by unfold Func.isWrapper; first | (rw [if_pos (by decide +kernel)]; kernel_rfl) | (rw [if_neg (by decide +kernel)]; exact ⟨rfl,rfl⟩))
  (fun os started H enc _=>q7P os started H enc)
set_option maxRecDepth 100000
theorem errors_card:Rows.SolveErrorsCardSaid :=
 Claim7.holds_tied_plain_at .later [] [.data] true (true, "464a4fd313f0180230b5c370bf121eef3086acb9d2b3de5492cb098bc9e9bc3a") false
  q4g (fun _ h=>by cases h) (by kernel_rfl) (fun _ h=>by cases h) solveErrors_row_tie rfl ⟨rfl,rfl⟩ (by kernel_rfl) rfl
  (fun f fn hf hfn=>by
   obtain rfl : f = 3 := Option.some.inj ((show Tryz.prog.funcNamed "sparse/sparselaw28.SolveErrors" = some 3 by kernel_rfl).symm.trans hf) |>.symm;obtain rfl:fn=Tryz.f3:=(Option.some.inj (Tryz.func3.symm.trans hfn)).symm;exact ⟨by kernel_rfl,fun j t ht=>by
    have hm:t ∈ [22,3,3,3]:=by simpa using Array.mem_of_getElem? ht
    have hall:([22,3,3,3].all fun u=>!Tryz.prog.wantsStandIn u)=true:=by kernel_rfl
    exact (show Tryz.prog.wantsStandIn t=false by simpa using List.all_eq_true.1 hall t hm)⟩)
  (by kernel_rfl)
#print axioms errors_card
end Go.Proofs.YtjamnehcmaloeaaGreatDoor
