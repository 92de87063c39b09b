/- KrylovSteps. 6/7. -/
import Derived.Test.YtbcmhlhgljoolaaGreatDoorPt5
set_option linter.unusedSimpArgs false
set_option linter.unusedVariables false
set_option maxRecDepth 20000
set_option maxHeartbeats 2000000
set_option linter.defProp false
namespace Go.Proofs.YtbcmhlhgljoolaaGreatDoor
open Go Go.E Go.Sp
def qaM {D0 E:Nat→Prop} {f:Fac} {v:Value} {A:Option Addr} {n c:Nat} {l:List Nat} {w:World} (hT:q2i w) (h:In (fFac f) E v w) (ho:FacOk f) (hb:In (fSc q2h l) E (.slice A n c) w) (hl:q1f l) (hn:n=f.pm.length) (hf:Fr D0 w) :
  Calls Tryz.prog 138 #[v,.slice A n c] w (Rt (qtX (bwS f l n (List.replicate n 0))) D0 w):=by
 obtain ⟨A3,n3,c3,A4,n4,c4,A5,n5,c5,A6,n6,c6,rfl,h1,h2,h3,h4⟩:=q8h h;have l1:=h1.sc_len;have l2:=h2.sc_len;have l3:=h3.sc_len;have l4:=h4.sc_len;have lb:=hb.sc_len;have hnb:=ho.n;have hbeg:=fun {w':World} {D':Nat→Prop} (hx:Ext w w') (hd:∀ k,k < w.heap.size→D' k) (hf':Fr D' w')=>qbg (D:=D') (vals:=l.map ofZ) (hT.ext hx) ((hb.sub fun k hk _=>hd k hk).ext hx) (by simp) (by omega) (fun i x hi=>⟨(hl x (List.mem_of_getElem? hi)).1,ofZ x,by simp [hi],q0g (hl x (List.mem_of_getElem? hi)).2⟩) hf';obtain ⟨N,hN⟩:∃ N,N=w.heap.size:=⟨_,rfl⟩;have b2:=h2.db (w':=w);have b3:=h3.db (w':=w);have b4:=h4.db (w':=w);rw [← hN] at b2 b3 b4;refine q0J Tryz.func138 rfl Tryz.ntmps138 (by kernel_rfl) ?_;refine q0A fun K hK=>?_;refine Zz ?_;refine q01 ?_;intro g2 w2 hg2 hx2 hb2 hs2;refine hK _ _ ?_; clear hK K;have hx:Ext w w2:=hx2;replace b2:=b2.ext hx;replace b3:=b3.ext hx;replace b4:=b4.ext hx;clear hx2;refine q7u (fun e' w'=>∃ (N0 g gy:Nat) (L:List Nat) (ss:List (Option Addr × Nat × Nat)),e' 2=.pointer (some ⟨g2,0,none⟩)∧e' 1=.slice A n c∧e' 6=.slice (some ⟨g,0,none⟩) n n∧e' 7=.slice (some ⟨gy,0,none⟩) n n∧Ext w2 w'∧Sums w' (fun k=>k≠gy) L N0 g n (l.map fun x=>[ofZ x]) ss∧Own w' N 30 1 (some ⟨gy,0,none⟩) n n (List.replicate n (q2h 0))∧gy ∉ L∧g2 < N0∧N≤N0∧g2 < gy) ?_ ?_
 ·refine W_dA q0l (.one 0 (.one 2 (.one 3 (.alt (.one 1 (.one 5 (.one 4 (.one 6 .fin)))) (.one 4 (.one 1 (.one 5 (.one 6 .fin)))))))) (by kernel_rfl) fun KE wE hKE hxE=>?_;replace b2:=b2.ext hxE;replace b3:=b3.ext hxE;replace b4:=b4.ext hxE;replace hb2:=hb2.ext hxE;replace hx:=hx.trans hxE;simp only [q0o] at hKE;have hlt3:=hb2.lt;have hmm:(l.map ofZ).map (fun V=>[V])=l.map fun x=>[ofZ x]:=by rw [List.map_map]; rfl
  rw [hmm] at hbeg;have hrp:List.replicate n (Value.int .u64 0)=List.replicate n (q2h 0):=rfl;have hNE:=hx.size;rw [← hN] at hNE;simp -implicitDefEqProofs (disch:=omega) only [go_sem,Nat.reduceEqDiff,Nat.reduceAdd,↓reduceIte,qbm,qbn,qgo,q8Z,qas,List.toList_toArray];refine ⟨?_,?_⟩
  ·refine q0F qgO (hbeg (D':=fun _=>True) hx (fun _ _=>trivial) (Fr.triv _)) ?_;rintro _ w14 ⟨rfl,hx14,L,ss,hS⟩; refine ⟨_,rfl,?_⟩;refine q6D (Nat.le_refl _) Oq (by unfold maxLen; omega) fun w17 hx17 hO17 hs17=>?_;have hs14:=hx14.size;refine hKE _ _ ⟨_,_,w14.heap.size,L,ss,Ue,Ue,Ue,Ue,(hxE.trans hx14).trans hx17,(hS.sub (D':=fun k=>k≠w14.heap.size) fun k hk _=>by omega).ext hx17,hO17.mono Oq,fun hm=>?_,hlt3,hNE,by omega⟩;have:=hS.hi _ hm;omega
  ·refine q6D (Nat.le_refl _) Oq (by unfold maxLen; omega) fun w17 hx17 hO17 hs17=>?_;refine q0F qgO (hbeg (D':=fun k=>k≠wE.heap.size) (hx.trans hx17) (fun k hk=>by omega) (fun k hk=>by omega)) ?_;rintro _ w14 ⟨rfl,hx14,L,ss,hS⟩; refine ⟨_,rfl,?_⟩;refine hKE _ _ ⟨_,_,wE.heap.size,L,ss,Ue,Ue,Ue,Ue,(hxE.trans hx17).trans hx14,hS,(hO17.mono Oq).ext hx14,fun hm=>?_,by omega,by omega,hlt3⟩;have:=hS.lo _ hm;omega
 ·rintro e0 w1 ⟨N0,g,gy,L,ss,k2,k1,k6,k7,hx1,hS,hO,hgL,hgN,hNN,hg3y⟩;replace b2:=b2.ext hx1;replace b3:=b3.ext hx1;replace b4:=b4.ext hx1;replace hb2:=hb2.ext hx1;replace hx:=hx.trans hx1;refine q0B fun K0 hK0=>?_;refine Wz2 k1 @i64_in ?_;refine q0X ?_;refine q0a (fun e2 w2=>∃ (m:Nat) (L:List Nat) (rows:List (List Int)) (ys:List Nat) (ss:List (Option Addr × Nat × Nat)),e2 8=.int .i64 ((m:Int)-1)∧m≤n∧Ext w w2∧Blk w2 g2 27 #[.slice A3 n3 c3,.slice A4 n4 c4,.slice A5 n5 c5,.slice A6 n6 c6]∧In (fSc q4S f.cp) (Db E N) (.slice A4 n4 c4) w2∧In (fSc q4S f.ri) (Db E N) (.slice A5 n5 c5) w2∧In (fSc q2h f.vs) (Db E N) (.slice A6 n6 c6) w2∧Sums w2 (fun k=>k≠gy) L N0 g n rows ss∧Own w2 N 30 1 (some ⟨gy,0,none⟩) n n (ys.map q2h)∧gy ∉ L∧RowsOk f 500 rows∧(∀ i,i < m→rows[i]?=some [ofZ (l.getD i 0)])∧ys.length=n∧q1f ys∧bwS f l m ys=bwS f l n (List.replicate n 0)) (fun e2 _=>(RowKit.intOf (e2 8)+1).toNat) ⟨n,L,_,_,ss,rfl,Nat.le_refl _,hx,hb2,b2,b3,b4,hS,by rw [List.map_replicate]; exact hO,hgL,⟨by simp; omega,fun r hr=>?_⟩,fun i hi=>?_,by simp,q4X,rfl⟩ ?_
  ·rw [List.mem_map] at hr;obtain ⟨y,hy,rfl⟩:=hr;exact ⟨by simp,fun x hx=>by simp at hx; subst hx; exact q6B (hl y hy).2⟩
  ·have hil:i < l.length:=by omega
   rw [List.getElem?_map,List.getD_eq_getElem?_getD,List.getElem?_eq_getElem hil]
   rfl
  clear hx hb2 b2 b3 b4 hS hO hgL;rintro e1 w5 ⟨m,L,rows,ys,ss,k8,hm,hx,hb2,b2,b3,b4,hS,hO,hgL,hR,hrw,hys,hfy,hbw⟩ hkk;have r2:e1 2=.pointer (some ⟨g2,0,none⟩):=(hkk 2 (by kernel_rfl)).trans Ue;have r6:e1 6=.slice (some ⟨g,0,none⟩) n n:=(hkk 6 (by kernel_rfl)).trans Ue;have r7:e1 7=.slice (some ⟨gy,0,none⟩) n n:=(hkk 7 (by kernel_rfl)).trans Ue;clear hkk
  by_cases hm0:m=0
  ·subst hm0;have hlt':¬ (0:Int)≤((0:Nat):Int)-1:=by omega
   refine q0B fun K1 hK1=>?_;refine Wz2 k8 hlt' ?_;refine Wf (q04 (hK0 _ _ ?_));rw [bwS] at hbw;rw [← hbw];refine Wz1 r7 ?_;refine q0O ?_
   try simp only [q0D,q0S]
   refine q8S rfl ⟨_,rfl,hx,⟨_,_,rfl,by simp only [q0E,Nat.reduceEqDiff,↓reduceIte]; exact qn3 hO fun k hk=>hf k (by omega),by simp only [q0E,Nat.reduceEqDiff,↓reduceIte]; exact rfl⟩⟩
  ·obtain ⟨k,rfl⟩:∃ k,m=k+1:=⟨m-1,by omega⟩;replace k8:e1 8=.int .i64 (k:Int):=by rw [k8]; congr 1; omega
   have hlt':(0:Int)≤(k:Int):=by omega
   refine q0B fun K1 hK1=>?_;refine Wz2 k8 hlt' ?_;refine Wt (q0G (hK1 _ _ ?_));clear hK1;refine q0N fun K hK=>?_;obtain ⟨a,b,hcol⟩:=ho.col k Oq;obtain ⟨dx,dV,d1,d2,d3⟩:=hcol.diag;have hcb:=hcol.hb;obtain ⟨k1,hk1⟩:∃ k1,k1=k+1:=⟨_,rfl⟩;rw [← hk1] at hcb;have hle:=hcol.le;have hlt:=hcol.lt;have hsh:=hcol.short ho.n;have hrib:=ho.rib;have hril:=ho.ril;obtain ⟨hdx,hdf⟩:=ho.vals dx (List.mem_of_getElem? d1);obtain ⟨u,hu⟩:∃ u,u=l.getD k 0:=⟨_,rfl⟩;obtain ⟨hu1,hu2⟩:=q4V hl k;have hrk:=hrw k Oq;rw [← hu] at hu1 hu2 hrk;have hset0:rows.set k [ofZ u]=rows:=by
    refine List.ext_getElem? fun i=>?_;rw [List.getElem?_set]
    split
    ·rename_i e; subst e
     split
     ·exact hrk.symm
     ·rw [List.getElem?_eq_none (by omega)]
    ·rfl
   obtain ⟨ad2,rfl,i2,x2⟩:=b2.ixI hcol.ha;have e1':IntKind.i64.wrap ((a:Int)+1)=((a+1:Nat):Int):=by rw [i64_in (by omega) (by omega)]; omega
   have e2':IntKind.i64.wrap ((k:Int)+1)=(k1:Int):=by rw [i64_in (by omega) (by omega)]; omega
   refine q0B fun K2 hK2=>?_;refine q0A fun K hK=>?_;simp -implicitDefEqProofs (disch:=omega) only [go_sem,Nat.reduceEqDiff,Nat.reduceAdd,↓reduceIte,r2,hb2.c1,k8,i2,x2,e1'];refine hK _ _ ?_; clear hK K;refine q0X ?_;refine q0a (fun e2 w2=>∃ (p:Nat) (L:List Nat) (ss:List (Option Addr × Nat × Nat)),e2 9=.int .i64 p∧a+1≤p∧p≤b∧Ext w w2∧Blk w2 g2 27 #[.slice A3 n3 c3,.slice (some ad2) n4 c4,.slice A5 n5 c5,.slice A6 n6 c6]∧In (fSc q4S f.cp) (Db E N) (.slice (some ad2) n4 c4) w2∧In (fSc q4S f.ri) (Db E N) (.slice A5 n5 c5) w2∧In (fSc q2h f.vs) (Db E N) (.slice A6 n6 c6) w2∧Sums w2 (fun k=>k≠gy) L N0 g n (rows.set k (ofZ u :: upT f ys (a+1) (p-(a+1)))) ss∧Own w2 N 30 1 (some ⟨gy,0,none⟩) n n (ys.map q2h)∧gy ∉ L) (fun e2 _=>b-(RowKit.intOf (e2 9)).toNat) ⟨a+1,L,ss,rfl,Nat.le_refl _,hlt,hx,hb2,b2,b3,b4,by rw [Nat.sub_self,upT,hset0]; exact hS,hO,hgL⟩ ?_;clear hx hb2 b2 b3 b4 hS hO hgL x2 i2;rintro e3 w6 ⟨p,L,ss,k9,hp1,hp2,hx,hb2,b2,b3,b4,hS,hO,hgL⟩ hkk;have q2:e3 2=.pointer (some ⟨g2,0,none⟩):=(hkk 2 (by kernel_rfl)).trans Ue;have q6:e3 6=.slice (some ⟨g,0,none⟩) n n:=(hkk 6 (by kernel_rfl)).trans Ue;have q7:e3 7=.slice (some ⟨gy,0,none⟩) n n:=(hkk 7 (by kernel_rfl)).trans Ue;have q8:e3 8=.int .i64 k:=(hkk 8 (by kernel_rfl)).trans Ue;clear hkk r2 r6 r7;have hro:RowsOk f 500 (rows.set k (ofZ u :: upT f ys (a+1) (p-(a+1)))):=hR.up (by rw [List.length_cons,q9O]; omega) fun x hx=>by
    rcases List.mem_cons.1 hx with rfl | hx
    ·exact q6B hu2
    ·exact qkP ho.vals hfy _ x hx
   have hrl:=hR.len;have hrk2:(rows.set k (ofZ u :: upT f ys (a+1) (p-(a+1))))[k]?=some (ofZ u :: upT f ys (a+1) (p-(a+1))):=List.getElem?_set_self Oq;have hgy:gy < w6.heap.size:=by
    rcases hO.form with ⟨h0,_⟩ | ⟨_,_,h0,_,hb,_⟩
    ·cases h0
    ·cases h0; exact hb.lt
   obtain ⟨_,hcc,i2,x2⟩:=b2.ixI hcb;cases hcc
   by_cases hlt2:p < b
   ·have hlt2':(p:Int) < b:=by omega
    refine q0B fun K5 hK5=>?_;refine q0A fun K hK=>?_;simp -implicitDefEqProofs (disch:=omega) only [go_sem,Nat.reduceEqDiff,Nat.reduceAdd,↓reduceIte,k9,q2,hb2.c1,q8,e2',i2,x2,hlt2'];refine hK _ _ ?_; clear hK K;refine Wt (q0G (hK5 _ _ ?_));clear hK5;refine q0N fun K6 hK6=>?_;obtain ⟨j0,hj1,hj2,hj3⟩:=hcol.row ho.n Oq hlt2;obtain ⟨xv,hxv⟩:∃ xv,f.vs[p]?=some xv:=⟨_,List.getElem?_eq_getElem Oq⟩;obtain ⟨hv1,hv2⟩:=ho.vals xv (List.mem_of_getElem? hxv);obtain ⟨yv,hyv⟩:∃ yv,ys[j0]?=some yv:=⟨_,List.getElem?_eq_getElem Oq⟩;obtain ⟨hy1,hy2⟩:=hfy yv (List.mem_of_getElem? hyv);obtain ⟨ad5,rfl,i5,x5⟩:=b3.ixI hj1;obtain ⟨ad4,rfl,i6,x6⟩:=b4.ixU hxv;have hyu:(ys.map q2h)[j0]?=some (.int .u64 (yv:Int)):=by rw [List.getElem?_map,hyv]; rfl
    have ij:(0:Int)≤(j0:Int)∧(j0:Int) < n:=by omega
    clear x2 x5 x6;obtain ⟨hmu,_⟩:=q0u hv2 hy2;refine qaR q0l (Kp (fun k=>k ∉ ([]:List Nat))) (fun _ _=>False) (Kp.pre _) [true,true,true,true,true,true,true,true,true,true,true,true,true,true,true,false] [false,false,false,false,false,false,false,false,false,false,false,false,false,false,false,false] [1,1,1,1,1,1,1,1,1,1,1,1,1,1,1,1] (by kernel_rfl) ?_
    apply Exists.intro
    refine ⟨fun wE hE KE hKE=>?_,fun wE hE KE hKE=>?_,fun wE hxE hr=>?_⟩
    ·skip
     replace hE:=Kp.all hE;replace hb2:=hb2.ext hE;replace b2:=b2.ext hE;replace b3:=b3.ext hE;replace b4:=b4.ext hE;replace hS:=hS.ext hE;replace hO:=hO.ext hE;refine Zz13 k9 q2 q6 q7 q8 hb2.c2 hb2.c3 i5 (inI b3 hj1) i6 (inU b4 hxv) ij (owG hO hyu) ?_;exact hKE
    ·exact hE.elim
    simp only [q2D,q2F,q2E];replace b2:=b2.ext hxE;replace b3:=b3.ext hxE;replace b4:=b4.ext hxE;replace hS:=hS.ext hxE;replace hO:=hO.ext hxE;replace hb2:=hb2.ext hxE;replace hx:=hx.trans hxE;clear hr;simp -implicitDefEqProofs (disch:=omega) only [go_sem,Nat.reduceEqDiff,Nat.reduceAdd,↓reduceIte,List.toList_toArray,k9,q2,q6,q7,q8,hb2.c2,hb2.c3,i5,(inI b3 hj1),i6,(inU b4 hxv),ij,(owG hO hyu)];have hw':=hxE.size;refine q0F qpD (q5p (hT.ext hx) hS hrk2 hv1 hy1 (q0g hv2) (q0g hy2) hmu (by rw [List.length_cons,q9O]; omega) (fun k hk=>by omega)) ?_;rintro _ w7 ⟨rfl,hk7,L',ss',hL1,hL2,hS7⟩; refine ⟨_,rfl,?_⟩;rw [hu,qh2 (by rw [show a+1+(p-(a+1))=p by omega]; exact hj1) (by rw [show a+1+(p-(a+1))=p by omega]; exact hxv) hyv,show p-(a+1)+1=p+1-(a+1) by omega,← hu] at hS7;have hlo:∀ j,j < N→j ∉ L:=fun j hj hm=>by have:=hS.lo j hm; omega
    replace b2:=b2.kpb hk7 hlo;replace b3:=b3.kpb hk7 hlo;replace b4:=b4.kpb hk7 hlo;replace hb2:=hb2.kp hk7 fun hm=>by have:=hS.lo _ hm; omega
    replace hx:=hx.under hk7 fun j hj=>hlo j Oq;replace hO:=hO.kp hk7 fun a ha=>by cases ha; exact hgL
    have hgL7:gy ∉ L':=fun hm=>by
     rcases hL2 _ hm with h | h
     ·exact hgL h
     ·omega
    simp only [q0o,qns];refine hK6 _ _ ?_; clear hK6;refine q0Q fun K9 hK9=>?_;refine Zz2 k9 @i64_in ?_;refine hK9 _ _ ?_; clear hK9 K9;exact ⟨⟨p+1,L',ss',rfl,by omega,by omega,hx,hb2,b2,b3,b4,hS7,hO,hgL7⟩,by simp only [q0E,↓reduceIte,RowKit.intOf,k9]; omega⟩
   ·have hlt2':¬ (p:Int) < b:=by omega
    refine q0B fun K5 hK5=>?_;refine q0A fun K hK=>?_;simp -implicitDefEqProofs (disch:=omega) only [go_sem,Nat.reduceEqDiff,Nat.reduceAdd,↓reduceIte,k9,q2,hb2.c1,q8,e2',i2,x2,hlt2'];refine hK _ _ ?_; clear hK K;refine Wf (q04 (hK2 _ _ ?_));obtain rfl:p=b:=by omega
    obtain ⟨S,hSS⟩:∃ S,S=q1I (ofZ u :: upT f ys (a+1) (p-(a+1))):=⟨_,rfl⟩;obtain ⟨q,hq⟩:∃ q,q=fQ 0 S dV:=⟨_,rfl⟩;have hqv:bwV f l ys k=q:=by
     unfold bwV;rw [← hk1,getD_some hcol.ha,getD_some hcb,← hu,show ((a:Int)).toNat=a by omega,show ((p:Int)).toNat=p by omega,← hSS,getD_some d1,q0t d2,hq]
    clear x2 i2;obtain ⟨_,hcc,i2,x2⟩:=b2.ixI hcol.ha;cases hcc;obtain ⟨ad4,rfl,i4,x4⟩:=b4.ixU d1;clear x2 x4;obtain ⟨s1,s2,s3⟩:=qeB hro (List.mem_of_getElem? hrk2) Oq;obtain ⟨D,hDq⟩:∃ D:Nat→Prop,D=fun _=>True:=⟨_,rfl⟩;have hDl:∀ k,Dl D [] k:=fun k=>⟨by rw [hDq]; trivial,by simp⟩;have hD:Fr (Dl D []) w6:=fun k _=>hDl k;have ik:(0:Int)≤(k:Int)∧(k:Int) < n:=by omega
    have hqu:=fun {w:World} {v v':Value} (hT:q2i w) (h:In (fV S) (Dl D []) v w) (h':In (fV dV) (Dl D []) v' w) (hf:Fr (Dl D []) w)=>qlM hT h h' Oq hf;rw [← hq] at hqu;refine q0B fun K3 hK3=>?_;refine qaR q0l (Kp (fun k=>k ∉ ([]:List Nat))) (fun _ _=>False) (Kp.pre _) [true,true,true,true,false,true,true,true,true,true,true,true,true,true,false,false,false,false] [false,false,false,false,false,false,false,false,false,false,false,false,false,false,false,false,false,false] [1,1,1,1,0,1,1,1,1,1,1,1,1,1,0,0,1,1] (by kernel_rfl) ?_
    apply Exists.intro
    refine ⟨fun wE hE KE hKE=>?_,fun wE hE KE hKE=>?_,fun wE hxE hr=>?_⟩
    ·skip
     replace hE:=Kp.all hE;replace hb2:=hb2.ext hE;replace b2:=b2.ext hE;replace b3:=b3.ext hE;replace b4:=b4.ext hE;replace hS:=hS.ext hE;replace hO:=hO.ext hE;refine Zz11 q2 q6 q7 q8 hb2.c1 hb2.c3 i2 (inI b2 hcol.ha) i4 (inU b4 d1) ik ?_;exact hKE
    ·exact hE.elim
    simp only [q2D,q2F,q2E];replace b2:=b2.ext hxE;replace b3:=b3.ext hxE;replace b4:=b4.ext hxE;replace hS:=hS.ext hxE;replace hO:=hO.ext hxE;replace hb2:=hb2.ext hxE;replace hD:=hD.kp hxE;replace hx:=hx.trans hxE;simp -implicitDefEqProofs (disch:=omega) only [go_sem,Nat.reduceEqDiff,Nat.reduceAdd,↓reduceIte,List.toList_toArray,q2,q6,q7,q8,hb2.c1,hb2.c3,i2,(inI b2 hcol.ha),i4,(inU b4 d1),ik];have hto:=qa0 (hT.ext hx) (hS.sub (D':=Dl D []) fun k _ _=>hDl k) hrk2 Oq s2 s3 (fun k _=>hDl k) hD;rw [← hSS] at hto;refine Cr qpF (hto) fun v58 w58 hx58 h58=>?_;replace b2:=b2.ext hx58;replace b3:=b3.ext hx58;replace b4:=b4.ext hx58;replace hS:=hS.ext hx58;replace hO:=hO.ext hx58;replace hb2:=hb2.ext hx58;replace hD:=hD.kp hx58;replace hx:=hx.trans hx58;replace hr:=hr.trans (Kp.of_ext hx58);clear hx58;refine ⟨hr,?_⟩;refine Cr qce (qfk (hT.ext hx) hdx d2 hD) fun v68 w68 hx68 h68=>?_;replace b2:=b2.ext hx68;replace b3:=b3.ext hx68;replace b4:=b4.ext hx68;replace hS:=hS.ext hx68;replace hO:=hO.ext hx68;replace h58:=h58.ext hx68;replace hb2:=hb2.ext hx68;replace hD:=hD.kp hx68;replace hx:=hx.trans hx68;replace hr:=hr.trans (Kp.of_ext hx68);clear hx68;refine ⟨hr,?_⟩;refine Ck qpG (hqu (hT.ext hx) h58 h68 hD) fun w69 hx69=>?_;replace b2:=b2.ext hx69;replace b3:=b3.ext hx69;replace b4:=b4.ext hx69;replace hS:=hS.ext hx69;replace hO:=hO.ext hx69;replace h58:=h58.ext hx69;replace h68:=h68.ext hx69;replace hb2:=hb2.ext hx69;replace hD:=hD.kp hx69;replace hx:=hx.trans hx69;replace hr:=hr.trans (Kp.of_ext hx69);clear hx69;refine ⟨hr,?_⟩;have hqlt:q < 18446744073709551616:=by rw [hq]; exact q9z (by omega)
    have hyl:(ys.map q2h).length=n:=by rw [List.length_map]; exact hys
    refine qac hO (by omega:k < n) qmj rfl rfl fun w5 hO5 hk5 hs5=>?_;replace hS:=hS.kpo hk5 (fun _ h=>h) hgL;replace b2:=b2.kpb hk5 fun k hk=>by omega
    replace b3:=b3.kpb hk5 fun k hk=>by omega
    replace b4:=b4.kpb hk5 fun k hk=>by omega
    replace hb2:=hb2.kpne hk5 Oq;replace hx:=hx.under hk5 fun k hk=>by omega
    have cy:=hO5.cell_set Oq;have hO6:Own w5 N 30 1 (some ⟨gy,0,none⟩) n n ((ys.set k q).map q2h):=by rw [List.map_set]; exact hO5
    clear hO hO5 hk5 hD;simp only [q0o];refine hK3 _ _ ?_; clear hK3;refine q0A fun K hK=>?_;refine Zz4 q7 q8 ik cy ?_;refine q0F qpE (q5F hqlt) ?_;rintro _ _ ⟨rfl,rfl⟩; refine ⟨_,rfl,?_⟩;rw [bwS,hqv] at hbw
    by_cases hfin:q0Y q
    ·rw [if_pos hfin] at hbw;rw [decide_eq_true hfin];refine Zz ?_;refine hK _ _ ?_; clear hK;refine Wf (q0G (hK _ _ ?_));refine q0Q fun K9 hK9=>?_;refine Zz2 q8 @i64_in ?_;refine hK9 _ _ ?_; clear hK9 K9;exact ⟨⟨k,L,_,ys.set k q,ss,rfl,by omega,hx,hb2,b2,b3,b4,hS,hO6,hgL,hro,fun i hi=>by rw [List.getElem?_set_ne (by omega)]; exact hrw i (by omega),by rw [List.length_set]; exact hys,q5e hfy hqlt hfin,hbw⟩,by simp only [q0E,↓reduceIte,RowKit.intOf,k8]; omega⟩
    ·rw [if_neg hfin] at hbw;rw [decide_eq_false hfin];refine Zz ?_;refine hK _ _ ?_; clear hK;refine Wt ?_;refine Wz ?_;refine q0O ?_
     try simp only [q0D,q0S]
     refine q8S rfl ⟨_,rfl,hx,by rw [← hbw]; exact ⟨_,_,rfl,by simp only [q0E,Nat.reduceEqDiff,↓reduceIte]; exact In.sc_nil,by simp only [q0E,Nat.reduceEqDiff,↓reduceIte]; exact rfl⟩⟩
def quV {f:List Int × List Int × List Int × List Nat} {l:List Nat} (ho:FacOk ⟨f.1,f.2.1,f.2.2.1,f.2.2.2⟩) (hl:q1f l) (hn:l.length=f.1.length) :
  ACt 138 [q4O f,pF l] (fwP (bwS ⟨f.1,f.2.1,f.2.2.1,f.2.2.2⟩ l l.length (List.replicate l.length 0))):=q1N (r:=.fm (qtX _)) (fun D w v h=>qka (q2z h)) (q6u qln fun D w vs hT hF hR=>by
 obtain ⟨_,_,rfl,h3,h4⟩:=q6Y hR;obtain ⟨A,n,c,rfl,h6⟩:=q8T (f:=q2h) h4;obtain rfl:n=l.length:=h6.sc_len.symm;exact qaM hT (qkb h3) ho h6 hl hn hF)
section
variable {F:Nat→Nat→Option Nat} {l:List Int} {cs:List Nat} {cols:List (List Nat)} {j n M:Nat} {p:LSt}
def qlA (h1:p.2.1.length=p.2.2.length) (h2:∀ x ∈ p.2.2,x < 18446744073709551616):∀ (c:Nat) (q:LSt),lcC F l cs j p c=some q→q.2.1.length=p.2.1.length+c∧q.2.1.length=q.2.2.length∧∀ x ∈ q.2.2,x < 18446744073709551616
 | 0,q,h=>by cases h; exact ⟨rfl,h1,h2⟩
 | c+1,q,h=>by
  unfold lcC at h;cases hq:lcC F l cs j p c with
  | none=>rw [hq] at h; cases h
  | some r =>
   obtain ⟨a1,a2,a3⟩:=qlA h1 h2 c r hq;rw [hq,Option.bind_some] at h;cases hv:lcV (q1I (lcS F l r.1 (cs.getD c 0) j j)) r.1 (cs.getD c 0) j with
   | none=>rw [hv] at h; cases h
   | some v =>
    rw [hv] at h;cases h;refine ⟨by simp; omega,by simp; omega,fun x hx=>?_⟩
    rcases List.mem_append.1 hx with hx | hx
    ·exact a3 x hx
    ·simp at hx; subst hx; exact (qi2 hv).2
def qkz (hM:∀ j,(cols.getD j []).length≤M):∀ (j:Nat) (q:List Int × LSt),lcM F l cols j=some q→q.1.length=j+1∧q.2.2.1.length≤j*M∧q.2.2.1.length=q.2.2.2.length∧∀ x ∈ q.2.2.2,x < 18446744073709551616
 | 0,q,h=>by cases h; exact ⟨rfl,by simp,rfl,fun x hx=>by cases hx⟩
 | j+1,q,h=>by
  unfold lcM at h;cases hq:lcM F l cols j with
  | none=>rw [hq] at h; cases h
  | some r =>
   obtain ⟨a1,a2,a3,a4⟩:=qkz hM j r hq;rw [hq,Option.bind_some] at h;cases hc:lcC F l (cols.getD j []) j r.2 (cols.getD j []).length with
   | none=>rw [hc] at h; cases h
   | some s =>
    rw [hc] at h;cases h;obtain ⟨b1,b2,b3⟩:=qlA a3 a4 _ s hc;have:=hM j;refine ⟨by simp; omega,?_,b2,b3⟩;rw [Nat.succ_mul];dsimp only;omega
end
structure FSh (f:List Int × List Int × List Int × List Nat):Prop where
 p:f.1.length≤100
 c:f.2.1.length≤1000000
 r:f.2.2.1.length≤1000000
 v:f.2.2.2.length≤1000000
 u:∀ x ∈ f.2.2.2,x < 18446744073709551616
def qdH {raw:List Nat} {k:Int} {st n:Nat}:q1f (q9M raw k st n):=fun x hx=>by
 unfold q9M at hx;obtain ⟨i,_,rfl⟩:=List.mem_map.1 hx;have:=qe4 (k:=st) (q3p raw (k+i));exact ⟨this.2,this.1⟩
def qek {L:List (List Nat)} {b:List Nat}:∀ (m k:Nat) (ys zs:List Nat),loF L b m k ys=some zs→zs.length=ys.length
 | 0,_,_,_,h=>by cases h; rfl
 | m+1,k,ys,zs,h=>by
  rw [loF] at h
  split at h
  ·rw [qek m (k+1) _ zs h,List.length_set]
  ·cases h
def qdM {L:List (List Nat)} {b:List Nat} {n:Nat}:∀ (k:Nat) (ys zs:List Nat),upF L b n k ys=some zs→zs.length=ys.length
 | 0,_,_,h=>by cases h; rfl
 | k+1,ys,zs,h=>by
  rw [upF] at h
  split at h
  ·rw [qdM k _ zs h,List.length_set]
  ·cases h
def AR (f:FuncId) (al:List PV) (r:PV):Prop :=
 q0C Tryz.prog f=true∧∀ (D E:Nat→Prop) (w:World) (vs:List Value),q2i w→Fr E w→RdL w D al (fun _=>none) h0 vs→Calls Tryz.prog f vs.toArray w fun x w'=>∃ v,x=.returned v∧Ext w w'∧Rd w' E r (fun _=>none) h0 v
def AR.ac {f:FuncId} {al:List PV} {r:PV} (h:AR f al r):ACt f al r:=⟨h.1,fun D w vs hT hF hR=>h.2 D D w vs hT hF hR⟩
def qgv (x:PV):Prop:=∀ (w:World) (D D':Nat→Prop) (ρ:Nat→Option Nat) (h:Hp) (v:Value),Rd w D x ρ h v→Rd w D' x ρ h v
def qtq {v:Value}:qgv (.vl v):=fun w D D' ρ h y hr=>by unfold Rd at hr ⊢; exact hr
def df_ow {id off n:Nat} {k:Kd}:qgv (.ow id k off n):=fun w D D' ρ h y hr=>by unfold Rd at hr ⊢; exact hr
def df_L {l:List PV} (hl:∀ y ∈ l,qgv y) {w:World} {D D':Nat→Prop} {ρ:Nat→Option Nat} {h:Hp} {vs:List Value} (hr:RdL w D l ρ h vs):RdL w D' l ρ h vs:=by
 obtain ⟨h1,h2⟩:=RdL.iff.1 hr;exact RdL.iff.2 ⟨h1,fun t x v ht hv=>hl x (List.mem_of_getElem? ht) _ _ _ _ _ _ (h2 t x v ht hv)⟩
def qqJ {f:FuncId} {al l cl:List PV} {ids:List Nat} {hout:Hp} (hM:ACm Tryz.prog q2i f al h0 (.tu l) hout) (hl:∀ y ∈ l,qgv y) (hb:∀ i b,hout i=some b→∀ y ∈ b.xs,qgv y) (hc:q2e hout l=some (cl,ids)):AR f al (.tu cl):=by
 refine ⟨hM.ca,fun D E w vs hT hF hR=>?_⟩;have hlen:=hR.len;obtain ⟨D0,hD0⟩:∃ D0:Nat→Prop,D0=fun k=>D k∨w.heap.size≤k:=⟨_,rfl⟩;have hF0:Fr D0 w:=fun k hk=>by rw [hD0]; exact .inr hk
 have hdm:dm D0 (fun _=>none) h0=D0:=by
  funext k
  exact propext ⟨fun h=>h.1,fun h=>⟨h,fun i b hi=>by cases hi⟩⟩
 have S:Sat D0 ⟨w,fun k=>k < w.heap.size,fun _ _ _=>False,fun _ _=>False,fun _ h=>h,fun _ _ h=>h.elim⟩ (enP al) h0 (fun _=>none) (q4Y vs) w:=by
  refine ⟨fun i j b c g hi=>(by cases hi),fun i b g hi=>(by cases hi),fun i b hi=>(by cases hi),fun t=>?_,Kp.refl _ _,hF0,fun _ _ _ h=>h.elim,fun _ _ h=>h.elim⟩;rw [hdm];obtain ⟨h1,h2⟩:=RdL.iff.1 (hR.sub (D':=D0) fun k _ hk=>by rw [hD0]; exact .inl hk);unfold enP q4Y;rw [List.getD_eq_getElem?_getD,List.getD_eq_getElem?_getD];cases ht:al[t]? with
  | none=>simp only [Option.getD_none]; unfold Rd; trivial
  | some x =>
   have hlt:=(List.getElem?_eq_some_iff.1 ht).1;have hv:=List.getElem?_eq_getElem (l:=vs) (show t < vs.length by omega);rw [hv];exact h2 t x _ ht hv
 refine (hM.run D0 ⟨w,fun k=>k < w.heap.size,fun _ _ _=>False,fun _ _=>False,fun _ h=>h,fun _ _ h=>h.elim⟩ _ w vs (fun w' hx=>q7D _ _ (hx.mono fun k hk _=>hk) hT) (fun _ _ h=>h.elim) hF0 Oq S).mono fun x w' ⟨v,ρ',hx,S',hr⟩=>?_;refine ⟨v,hx,S'.ext.mono fun k hk _=>hk,?_⟩;have S2:Sat E ⟨w,fun k=>k < w.heap.size,fun _ _ _=>False,fun _ _=>False,fun _ h=>h,fun _ _ h=>h.elim⟩ nos hout ρ' (fun _=>v) w':=by
  refine ⟨S'.inj,fun i b g hi hg=>?_,S'.vir,fun t=>by unfold nos Rd; trivial,S'.ext,hF,S'.imp,S'.pin⟩;obtain ⟨⟨h1,h2⟩,cs,h3,h4,h5⟩:=S'.own i b g hi hg;refine ⟨⟨h1,hF g (Nat.le_of_not_lt h1)⟩,cs,h3,h4,fun hs=>?_⟩;obtain ⟨us,h6,h7,h8⟩:=h5 hs;exact ⟨us,h6,df_L (hb i b hi) h7,h8⟩
 unfold Rd at hr ⊢;obtain ⟨us,hv,hr⟩:=hr;refine ⟨us,hv,?_⟩;refine (q4u S2 hc (df_L hl hr)).sub fun k _ hq=>?_
 rcases hq with hq | ⟨i,hi,hg⟩
 ·exact hq.1
 ·obtain ⟨b,hb'⟩:=q41 hc i hi;exact (S2.own i b k hb' hg).1.2
def gaS (l:List Nat) (o:List Int) (n:Nat):List Nat:=rwG n (fun k=>l.getD (o.getD k 0).toNat 0) n
def scS (x:List Nat) (o:List Int) (n:Nat):Nat→List Nat
 | 0=>List.replicate n 0
 | k+1=>(scS x o n k).set (o.getD k 0).toNat (x.getD k 0)
def q7P {x:List Nat} {o:List Int} {n:Nat}:∀ k,(scS x o n k).length=n
 | 0=>List.length_replicate
 | k+1=>by rw [scS,List.length_set,q7P k]
def qoI {l:List Nat} {o:List Int} {n:Nat}:(gaS l o n).length=n:=q5t
def qoJ {l:List Nat} {o:List Int} {n:Nat} (hl:q1f l):q1f (gaS l o n):=fun x hx=>by
 unfold gaS rwG at hx;obtain ⟨j,_,rfl⟩:=List.mem_map.1 hx
 split
 ·exact q4V hl _
 ·exact ⟨by omega,by unfold q0Y; simp⟩
section
variable {l:List Nat} {o:List Int} {n:Nat}
def qcF (hl:l.length=n) (ho:o.length=n) (hn:n≤1000000) (hb:∀ x ∈ o,0≤x∧x < n):ACt 58 [pF l,pI o] (pF (gaS l o n)):=by
 unfold gaS;have hgl:∀ m,(rwG n (fun k=>l.getD (o.getD k 0).toNat 0) m).length=n:=fun _=>q5t;generalize hg:(fun k=>l.getD (o.getD k 0).toNat 0)=g at *;refine ac0 Tryz.func58 Tryz.ntmps58 [.tmp 4] ?_;refine wk1 hl ?_;refine q0L (fun k=>k≤n) [0,11,12] [] Lk Lk (fun k:Nat=>[(13,iv k),(5,.ow 1001 none 0 n)]) (fun k=>[(1001,⟨30,none,(rwG n g k).map fun z:Nat=>uv z,false⟩)]) (fun k=>n-k) 0 (Nat.zero_le _) ?_ ?_
 ·rw [← rwG_0];refine LeM [(1001,some 10)] rfl rfl ?_;refine Zz ?_;simp
 ·intro k hk
  by_cases hlt:k < n
  ·obtain ⟨x,hx⟩:∃ x,o[k]?=some x:=⟨_,List.getElem?_eq_getElem Oq⟩;obtain ⟨h1,h2⟩:=hb x (List.mem_of_getElem? hx);obtain ⟨x,rfl⟩:∃ y:Nat,x=y:=⟨x.toNat,by omega⟩;obtain ⟨u,hu⟩:∃ u,l[x]?=some u:=⟨_,List.getElem?_eq_getElem Oq⟩;have hs:=rwG_s (n:=n) (g:=g) (m:=k);have hgk:g k=u:=by rw [← hg]; simp only [getD_some hx,Int.toNat_natCast,getD_some hu]
   rw [hgk] at hs;refine wk1 (x3 hx hu (hgl k)) ?_;refine ⟨k+1,by omega,by omega,?_⟩;refine LeM [] rfl rfl ?_;refine Zz ?_;rw [← hs];exact ⟨by omega,rfl⟩
  ·obtain rfl:k=n:=by omega
   have hgk:=hgl k;exact wk1 ho trivial
def qs3 {b:Bk}:∀ i b',q07 h0 5000 b i=some b'→win i:=fun i b' hb=>by
 by_cases hi:i=5000
 ·subst hi; exact ⟨by omega,by omega⟩
 ·rw [q0M hi] at hb; cases hb
def q93 (hl:l.length=n) (ho:o.length=n) (hn:n≤1000000) (hb:∀ x ∈ o,0≤x∧x < n):qcz 65 [pF l,pI o] h0 (.ow 5000 none 0 n) (q07 h0 5000 ⟨30,none,(scS l o n n).map fun z:Nat=>uv z,false⟩):=by
 have hJ:∀ i,¬ (h0 i≠none):=fun i h=>h rfl;refine qhK quO Tryz.func65 rfl Tryz.ntmps65 (by kernel_rfl) ?_ ?_ ?_ ?_
 ·intro i b hb; cases hb
 ·exact qs3
 ·exact IdL.of fun x hx=>by
   simp at hx
   rcases hx with rfl | rfl <;> unfold IdP <;> trivial
 have hW:WfH h0:=⟨fun i b hb=>by cases hb⟩;refine wk1 hl ?_;refine q0e (fun k=>k≤n) [0,11,12] [] Lk Lk (fun k:Nat=>[(13,iv k),(5,.ow 1001 none 0 n)]) (fun k=>[(1001,⟨30,none,(scS l o n k).map fun z:Nat=>uv z,false⟩)]) (fun _=>h0) (fun k=>n-k) 0 (Nat.zero_le _) ?_ ?_
 ·refine LeW [(1001,some 10)] rfl rfl ?_ ?_ (by simp [q21,q1s,win]) ?_
  ·exact Ow
  ·exact hW
  ·rw [scS]
   try refine Zz ?_
   simp
 ·intro k hk
  by_cases hlt:k < n
  ·obtain ⟨x,hx⟩:∃ x,o[k]?=some x:=⟨_,List.getElem?_eq_getElem Oq⟩;obtain ⟨h1,h2⟩:=hb x (List.mem_of_getElem? hx);obtain ⟨x,rfl⟩:∃ y:Nat,x=y:=⟨x.toNat,by omega⟩;obtain ⟨u,hu⟩:∃ u,l[k]?=some u:=⟨_,List.getElem?_eq_getElem Oq⟩;have hs:scS l o n (k+1)=(scS l o n k).set x u:=by rw [scS,getD_some hx,Int.toNat_natCast,getD_some hu]
   have hsl:=q7P (x:=l) (o:=o) (n:=n) k;refine wk1 (x3 hx hu hsl) ?_;refine ⟨k+1,by omega,by omega,?_⟩;refine LeW [] rfl rfl ?_ ?_ (by simp [q21,q1s,win]) ?_
   ·exact Ow
   ·exact hW
   ·try refine Zz ?_
    exact ⟨by omega,hs.symm⟩
  ·obtain rfl:k=n:=by omega
   refine wk1 ho ?_;refine (rtM (rs:=[.tmp 4]) rfl rfl Lq ?_ (.inl rfl));refine LeO hJ ?_ clU
   try simp -implicitDefEqProofs (disch:=omega) only [go_sem,Nat.reduceEqDiff,Nat.reduceAdd,↓reduceIte]
end
end Go.Proofs.YtbcmhlhgljoolaaGreatDoor
namespace Go.E
open Go Go.RowKit
def LeT {J:Nat→Prop} {h:Hp} {a n:Nat} {T:TypeId} {xs:List PV} {e:Value} (hJ:∀ i,¬ J i) (hb:h a=some ⟨T,none,xs,false⟩) (hc:ClL xs):Le J (fun _=>.tu [.ow a none 0 n,.vl e]) h (fun _=>.tu [.ow 5000 none 0 n,.vl e]) (q07 h0 5000 ⟨T,none,xs,false⟩):=by
 refine q30 (fun i=>if i=5000 then some a else none) (fun i b' hb'=>?_) (fun i j k b c hi hj ti tj=>?_) (fun _=>.tu rfl fun i x y hx hy=>?_) fun i hi=>(hJ i hi).elim
 ·by_cases hi:i=5000
  ·subst hi;rw [q0V] at hb'; cases hb';unfold LeB;exact ⟨_,hb,rfl,rfl,⟨rfl,rfl⟩,q1A rfl hc⟩
  ·rw [q0M hi] at hb'; cases hb'
 ·split at ti
  ·split at tj
   ·rename_i e1 e2; rw [e1,e2]
   ·cases tj
  ·cases ti
 ·rcases i with _ | _ | i
  ·cases hx; cases hy; exact .ow (if_pos rfl) q0V
  ·cases hx; cases hy; exact .cl trivial
  ·simp at hx
def LeTn {J:Nat→Prop} {h:Hp} {T:TypeId} {e:Value} (hJ:∀ i,¬ J i):Le J (fun _=>.tu [.vl (.slice none 0 0),.vl e]) h (fun _=>.tu [.ow 5000 none 0 0,.vl e]) (q07 h0 5000 ⟨T,none,[],false⟩):=by
 refine q30 (fun _=>none) (fun i b' hb'=>?_) (fun i j k b c hi hj ti tj=>by cases ti) (fun _=>.tu rfl fun i x y hx hy=>?_) fun i hi=>(hJ i hi).elim
 ·by_cases hi:i=5000
  ·subst hi;rw [q0V] at hb'; cases hb'
   rfl
  ·rw [q0M hi] at hb'; cases hb'
 ·rcases i with _ | _ | i
  ·cases hx; cases hy; exact .nilow rfl q0V rfl
  ·cases hx; cases hy; exact .cl trivial
  ·simp at hx
end Go.E
namespace Go.Proofs.YtbcmhlhgljoolaaGreatDoor
open Go Go.E Go.Sp
def qlN {L:List (List Nat)} {b ys:List Nat} {n k:Nat} (hL:SqM L n) (hk:k < n):loV L b ys k < 18446744073709551616∧upV L b ys n k < 18446744073709551616:=⟨q9z (hL.dg k hk),q9z (hL.dg k hk)⟩
def qay {L:List (List Nat)} {b:List Nat} {n:Nat} (hL:SqM L n):∀ (m k:Nat) (ys zs:List Nat),k+m=n→q1f ys→loF L b m k ys=some zs→q1f zs
 | 0,_,_,_,_,hf,h=>by cases h; exact hf
 | m+1,k,ys,zs,hk,hf,h=>by
  rw [loF] at h
  split at h
  ·rename_i hv;exact qay hL m (k+1) _ zs Oq (q5e hf (qlN hL Oq).1 hv) h
  ·cases h
noncomputable def dfE (F:List Int × List Int × List Int × List Nat) (l:List Nat):List Nat × Int :=
 if q9Z (q8B F) F.1.length l≠0 then ([],q9Z (q8B F) F.1.length l) else
  match loF (q63 ⟨F.1,F.2.1,F.2.2.1,F.2.2.2⟩ F.1.length F.1.length) (gaS l F.1 F.1.length) F.1.length 0 (List.replicate F.1.length 0) with
  | none=>([],233)
  | some y=>match upF (trS (q63 ⟨F.1,F.2.1,F.2.2.1,F.2.2.2⟩ F.1.length F.1.length) F.1.length F.1.length) y F.1.length F.1.length (List.replicate F.1.length 0) with
   | none=>([],233)
   | some z=>(scS z F.1 F.1.length F.1.length,0)
def qrf {n:Nat} {l:List Nat} (h1:l.length=n) (h2:∀ x ∈ l,q0Y x):q9Z 0 n l=0:=by
 unfold q9Z;rw [if_neg (by omega),if_neg (by omega),if_neg (not_not_intro h2)]
section
variable {pm cp ri:List Int} {vs l:List Nat}
def qs2:IdL win [q4O (pm,cp,ri,vs),pF l]:=IdL.of fun x hx=>by
 simp at hx
 rcases hx with rfl | rfl
 ·unfold q4O IdP IdL IdL IdL IdL IdL;unfold IdP;exact ⟨trivial,trivial,trivial,trivial,trivial⟩
 ·unfold IdP; trivial
def qdu (hp:pm.length≤1000000) (hc:cp.length≤1000000) (hr:ri.length≤1000000) (hv:vs.length≤1000000) (hu:∀ x ∈ vs,x < 18446744073709551616) (hul:∀ x ∈ l,x < 18446744073709551616) (hl:l.length≤1000000) :
  qcz 76 [q4O (pm,cp,ri,vs),pF l] h0 (.tu [.ow 5000 none 0 (dfE (pm,cp,ri,vs) l).1.length,iv (dfE (pm,cp,ri,vs) l).2]) (q07 h0 5000 ⟨30,none,(dfE (pm,cp,ri,vs) l).1.map fun z:Nat=>uv z,false⟩):=by
 have hJ:∀ i,¬ (h0 i≠none):=fun i h=>h rfl;have cR:=qds hp hc hr hv hu hul hl;refine qhK quM Tryz.func76 rfl Tryz.ntmps76 (by kernel_rfl) ?_ ?_ ?_ ?_
 ·intro i b hb; cases hb
 ·exact qs3
 ·exact qs2
 unfold dfE;dsimp only
 by_cases hz0:q9Z (q8B (pm,cp,ri,vs)) pm.length l=0
 case neg =>
  rw [if_pos hz0];generalize q9Z (q8B (pm,cp,ri,vs)) pm.length l=e at *;have q:(e != 0)=true:=by simpa using hz0
  unfold q4O at *;dsimp only at *;refine wk1 q ?_;refine (rtM (rs:=[.tmp 4,.tmp 5]) rfl rfl Lq ?_ (.inl rfl));exact LeTn hJ
 rw [if_neg (not_not_intro hz0)];rw [hz0] at cR;obtain ⟨h1,h2,h3⟩:=qrg hz0;have ho:=qbP h1 hr hu;have hn:=ho.n;dsimp only at hn;have hsq:=qgF ho;have hfl:q1f l:=fun x hx=>⟨hul x hx,h3 x hx⟩;have hpb:∀ x ∈ pm,0≤x∧x < pm.length:=fun x hx=>ho.perm.1 x hx;have cG:=qcF (l:=l) (o:=pm) (n:=pm.length) h2 rfl hp hpb;have hgl:=qoI (l:=l) (o:=pm) (n:=pm.length);have hgf:=qoJ (o:=pm) (n:=pm.length) hfl;generalize gaS l pm pm.length=g at *;have cA:=qux (n:=l.length) Oq;have cW:=qtJ (f:=(pm,cp,ri,vs)) (ps:=qbz l.length) (l:=g) ho hgf hgl (fun x hx=>by unfold qbz at hx; simp at hx; omega) (by rw [qaW]; omega);have e:=qtI (b:=g) ho hgl;rw [show qbz g.length=qbz l.length by rw [hgl,h2]] at e;dsimp only at e cW;rw [e] at cW;clear e;have hlf:∀ y,loF (q63 ⟨pm,cp,ri,vs⟩ pm.length pm.length) g pm.length 0 (List.replicate pm.length 0)=some y→y.length=pm.length∧q1f y:=fun y hy=>⟨by rw [qek _ _ _ _ hy,List.length_replicate],qay hsq _ _ _ y (Nat.zero_add _) q4X hy⟩;have hJn:∀ i,¬ (h0 i≠none):=hJ;generalize loF (q63 ⟨pm,cp,ri,vs⟩ pm.length pm.length) g pm.length 0 (List.replicate pm.length 0)=R1 at *;cases R1 with
 | none =>
  rw [show fwP none=.tu [pF [],iv 233] from rfl] at cW;dsimp only;unfold q4O at *;dsimp only at *;refine wk ?_;refine (rtM (rs:=[.tmp 4,.tmp 5]) rfl rfl Lq ?_ (.inl rfl));exact LeTn hJ
 | some y =>
  rw [show fwP (some y)=.tu [pF y,iv 0] from rfl] at cW;obtain ⟨hy1,hy2⟩:=hlf y rfl;have cB:=quV (f:=(pm,cp,ri,vs)) ho hy2 hy1;dsimp only at cB ⊢;rw [hy1,qlv ho rfl _ _ (Nat.le_refl _)] at cB;dsimp only at cB;have hzl:∀ z,upF (trS (q63 ⟨pm,cp,ri,vs⟩ pm.length pm.length) pm.length pm.length) y pm.length pm.length (List.replicate pm.length 0)=some z→z.length=pm.length:=fun z hz=>by rw [qdM _ _ _ hz,List.length_replicate]
  generalize upF (trS (q63 ⟨pm,cp,ri,vs⟩ pm.length pm.length) pm.length pm.length) y pm.length pm.length (List.replicate pm.length 0)=R2 at *;cases R2 with
  | none =>
   rw [show fwP none=.tu [pF [],iv 233] from rfl] at cB;dsimp only;unfold q4O at *;dsimp only at *;refine wk ?_;refine (rtM (rs:=[.tmp 4,.tmp 5]) rfl rfl Lq ?_ (.inl rfl));exact LeTn hJ
  | some z =>
   rw [show fwP (some z)=.tu [pF z,iv 0] from rfl] at cB;have cS:=q93 (l:=z) (o:=pm) (hzl z rfl) rfl hp hpb;have hsl:=q7P (x:=z) (o:=pm) (n:=pm.length) pm.length;dsimp only;rw [hsl];generalize scS z pm pm.length pm.length=x at *;unfold q4O at *;dsimp only at *;refine wk ?_;refine qhL fun K hK=>?_;refine Zz ?_;refine jm cS ?_ (fun i hi=>(hi trivial).elim) ?_
   ·change Wn _ _;exact Ow
   try refine Zz ?_
   refine hK _ _ ?_; clear hK K;refine wk ?_;refine (rtM (rs:=[.tmp 4,.tmp 5]) rfl rfl Lq ?_ (.inl rfl));refine LeT hJ ?_ clU
   try simp -implicitDefEqProofs (disch:=omega) only [go_sem,Nat.reduceEqDiff,Nat.reduceAdd,↓reduceIte]
def qlV {f:FuncId} {al:List PV} {xs:List Nat} {e:Int} (h:qcz f al h0 (.tu [.ow 5000 none 0 xs.length,iv e]) (q07 h0 5000 ⟨30,none,xs.map fun z:Nat=>uv z,false⟩)):AR f al (.tu [pF xs,iv e]):=by
 refine qqJ (ids:=[5000]) h (fun y hy=>?_) (fun i b hb y hy=>?_) ?_
 ·simp at hy
  rcases hy with rfl | rfl
  ·exact df_ow
  ·exact qtq
 ·by_cases hi:i=5000
  ·subst hi;rw [q0V] at hb; cases hb;obtain ⟨z,_,rfl⟩:=List.mem_map.1 hy;exact qtq
  ·rw [q0M hi] at hb; cases hb
 ·have h1:q3d (q07 h0 5000 ⟨30,none,xs.map fun z:Nat=>uv z,false⟩) (.ow 5000 none 0 xs.length)=some (pF xs,[5000]):=by
   unfold q3d;dsimp only;rw [q0V,Option.bind_some,if_pos ⟨rfl,rfl,fun x hx=>clU x hx⟩,List.drop_zero,List.take_of_length_le (by rw [List.length_map]; exact Nat.le_refl _)]
  have h2:q3d (q07 h0 5000 ⟨30,none,xs.map fun z:Nat=>uv z,false⟩) (iv e)=some (iv e,[]):=by
   unfold q3d;dsimp only;exact if_pos trivial
  unfold q2e q2e q2e clo;simp only [h1,h2]
  rfl
end
end Go.Proofs.YtbcmhlhgljoolaaGreatDoor
namespace Go.Sp
open Go Go.E Go.Proofs.YtbcmhlhgljoolaaGreatDoor
def qe5 {f:Nat} (hf:q0Y f) (h:f < 18446744073709551616):ofZ (q6i f) = -ofZ f∧q0Y (q6i f)∧q6i f < 18446744073709551616:=by
 have key:q6i f / 4503599627370496 % 2048=f / 4503599627370496 % 2048∧q6i f % 4503599627370496=f % 4503599627370496∧q6i f < 18446744073709551616∧decide (9223372036854775808≤q6i f)=!decide (9223372036854775808≤f):=by
  unfold q6i
  split
  ·refine ⟨by omega,by omega,by omega,?_⟩;rw [decide_eq_true (by omega),decide_eq_false (by omega)]; rfl
  ·refine ⟨by omega,by omega,by omega,?_⟩;rw [decide_eq_false (by omega),decide_eq_true (by omega)]; rfl
 obtain ⟨h1,h2,h3,h4⟩:=key;have sg:∀ (b:Bool) (m:Nat),sgn (!b) m = -sgn b m:=fun b m=>by cases b <;> simp [sgn]
 refine ⟨?_,?_,h3⟩
 ·unfold ofZ ofF;rw [h1,h2,h4]
  split
  ·rfl
  ·split
   ·simp only [Option.getD_some,sg,Int.neg_mul]
   ·simp only [Option.getD_some,sg,Int.neg_mul]
 ·unfold q0Y at hf ⊢;rw [h1]; exact hf
def qel {x y:List Nat} {t i:Nat}:∀ v ∈ lnF x t y i,v < 18446744073709551616:=fun v hv=>by
 obtain ⟨k,_,rfl⟩:=List.mem_map.1 hv;exact qfh
def qrN {f:Nat→Nat→Option Nat} {x:List Nat} {n i:Nat}:∀ v ∈ q4f f x n i,v < 18446744073709551616:=fun v hv=>by
 obtain ⟨k,_,rfl⟩:=List.mem_map.1 hv;exact qfh
def qhg {f:Nat→Nat→Option Nat} {x:List Nat} {n i:Nat}:(q4f f x n i).length=i:=by simp [q4f]
def qaX {L:List (List Nat)} {b:List Nat} {n:Nat} (hL:SqM L n):∀ (k:Nat) (ys zs:List Nat),k≤n→q1f ys→upF L b n k ys=some zs→q1f zs
 | 0,_,_,_,hf,h=>by cases h; exact hf
 | k+1,ys,zs,hk,hf,h=>by
  rw [upF] at h
  split at h
  ·rename_i hv;exact qaX hL k _ zs Oq (q5e hf (qlN hL Oq).2 hv) h
  ·cases h
def qdr {ix:List Int} {vl:List Nat} {n:Nat} (hv:q1f vl):∀ k,q1f (scS vl ix n k)
 | 0=>q4X
 | k+1=>by
  obtain ⟨h1,h2⟩:=q4V hv k;exact q5e (qdr hv k) h1 h2
def qgE {F:List Int × List Int × List Int × List Nat} {l:List Nat} (hr:F.2.2.1.length≤1000000) (hu:∀ x ∈ F.2.2.2,x < 18446744073709551616) (h:(dfE F l).2=0):(dfE F l).1.length=F.1.length∧q1f (dfE F l).1:=by
 unfold dfE at h ⊢
 split at h
 ·rename_i h1;exact (h1 h).elim
 ·rename_i h1;rw [if_neg h1];have hz:q9Z (q8B F) F.1.length l=0:=by simpa using h1
  have hsq:=qgF (qbP (pm:=F.1) (cp:=F.2.1) (ri:=F.2.2.1) (vs:=F.2.2.2) (qrg hz).1 hr hu)
  split at h
  ·cases h
  ·rename_i y hy
   split at h
   ·cases h
   ·rename_i z hzz;simp only [hy,hzz];exact ⟨q7P _,qdr (qaX (qqv hsq) _ _ z (Nat.le_refl _) q4X hzz) _⟩
abbrev GSt:=Int × List Nat × List Nat × List Nat × Int
def gEr (e:Int):GSt:=(e,[],[],[],0)
section
open Classical
noncomputable def gS5 (n:Nat) (z:List Nat) (be:Nat) (p x r:List Nat) (tau:Int):GSt:=if ∀ v ∈ lnF z be p n,q0Y v then (0,x,r,lnF z be p n,tau) else gEr 233
noncomputable def gS4 (n:Nat) (F:List Int × List Int × List Int × List Nat) (p x r:List Nat) (rho:Int):GSt :=
 if (dfE F r).2≠0 then gEr (dfE F r).2 else if q0Y (fQ 0 (q40 r (dfE F r).1) rho) then gS5 n (dfE F r).1 (fQ 0 (q40 r (dfE F r).1) rho) p x r (q40 r (dfE F r).1) else gEr 233
noncomputable def gS3 (n:Nat) (F:List Int × List Int × List Int × List Nat) (x r p q:List Nat) (rho:Int) (al:Nat):GSt :=
 if ∀ v ∈ lnF x al p n,q0Y v then (if ∀ v ∈ lnF r (q6i al) q n,q0Y v then gS4 n F p (lnF x al p n) (lnF r (q6i al) q n) rho else gEr 233) else gEr 233
noncomputable def gS2 (n:Nat) (F:List Int × List Int × List Int × List Nat) (x r p q:List Nat) (rho:Int):GSt :=
 if q40 p q≤0 then gEr 360 else if q0Y (fQ 0 rho (q40 p q)) then gS3 n F x r p q rho (fQ 0 rho (q40 p q)) else gEr 233
noncomputable def gS (n:Nat) (f:Nat→Nat→Option Nat) (F:List Int × List Int × List Int × List Nat) (x r p:List Nat) (rho:Int):GSt :=
 if rho≤0 then gEr 360 else if ∀ v ∈ q4f f p n n,q0Y v then gS2 n F x r p (q4f f p n n) rho else gEr 233
noncomputable def grL (n:Nat) (f:Nat→Nat→Option Nat) (F:List Int × List Int × List Int × List Nat):Nat→List Nat→List Nat→List Nat→Int→List Nat→List Nat × List Nat × Int
 | 0,x,_,_,_,l=>(x,l,0)
 | k+1,x,r,p,rho,l=>if q35 r n=0 then (x,l,0) else if (gS n f F x r p rho).1≠0 then ([],[],(gS n f F x r p rho).1) else
  grL n f F k (gS n f F x r p rho).2.1 (gS n f F x r p rho).2.2.1 (gS n f F x r p rho).2.2.2.1 (gS n f F x r p rho).2.2.2.2 (l ++ [q35 (gS n f F x r p rho).2.2.1 n])
noncomputable def grR (R C:Nat) (F:List Int × List Int × List Int × List Nat) (b:List Nat) (steps:Int):Int :=
 if R≠C then 5 else if q8B F≠0 then q8B F else if F.1.length≠R then 5 else if b.length≠R then 2 else if ¬ ∀ v ∈ b,q0Y v then 4 else if steps < 0∨64 < steps then 350 else 0
noncomputable def grS (R C:Nat) (f:Nat→Nat→Option Nat) (F:List Int × List Int × List Int × List Nat) (b:List Nat) (steps:Int):List Nat × List Nat × Int :=
 if grR R C F b steps≠0 then ([],[],grR R C F b steps) else if (dfE F b).2≠0 then ([],[],(dfE F b).2) else
  grL R f F steps.toNat (List.replicate R 0) b (dfE F b).1 (q40 b (dfE F b).1) [q35 b R]
end
section
variable {n:Nat} {f:Nat→Nat→Option Nat} {F:List Int × List Int × List Int × List Nat} {x r p:List Nat} {rho:Int}
def gS_ok (hn:n≤1000) (hF:F.1.length=n) (hr:F.2.2.1.length≤1000000) (hu:∀ x ∈ F.2.2.2,x < 18446744073709551616) (h:(gS n f F x r p rho).1=0) :
  (q1f (gS n f F x r p rho).2.1∧(gS n f F x r p rho).2.1.length=n)∧(q1f (gS n f F x r p rho).2.2.1∧(gS n f F x r p rho).2.2.1.length=n)∧(q1f (gS n f F x r p rho).2.2.2.1∧(gS n f F x r p rho).2.2.2.1.length=n)∧q0k (gS n f F x r p rho).2.2.2.2:=by
 unfold gS at h ⊢
 split at h
 ·simp [gEr] at h
 rename_i h1;rw [if_neg h1]
 split at h
 rotate_left
 ·simp [gEr] at h
 rename_i h2;rw [if_pos h2];unfold gS2 at h ⊢
 split at h
 ·simp [gEr] at h
 rename_i h3;rw [if_neg h3]
 split at h
 rotate_left
 ·simp [gEr] at h
 rename_i h4;rw [if_pos h4];unfold gS3 at h ⊢
 split at h
 rotate_left
 ·simp [gEr] at h
 rename_i h5;rw [if_pos h5]
 split at h
 rotate_left
 ·simp [gEr] at h
 rename_i h6;rw [if_pos h6];have a1:=q3u (x:=x) (t:=fQ 0 rho (q40 p (q4f f p n n))) (y:=p) (i:=n);have a2:=q3u (x:=r) (t:=q6i (fQ 0 rho (q40 p (q4f f p n n)))) (y:=q4f f p n n) (i:=n);have a3:q1f (lnF x (fQ 0 rho (q40 p (q4f f p n n))) p n):=fun v hv=>⟨qel v hv,h5 v hv⟩;have a4:q1f (lnF r (q6i (fQ 0 rho (q40 p (q4f f p n n)))) (q4f f p n n) n):=fun v hv=>⟨qel v hv,h6 v hv⟩;generalize lnF x (fQ 0 rho (q40 p (q4f f p n n))) p n=x1 at *;generalize lnF r (q6i (fQ 0 rho (q40 p (q4f f p n n)))) (q4f f p n n) n=r1 at *;unfold gS4 at h ⊢
 split at h
 ·rename_i h7;exact (h7 h).elim
 rename_i h7;rw [if_neg h7]
 split at h
 rotate_left
 ·simp [gEr] at h
 rename_i h8;rw [if_pos h8];obtain ⟨b1,b2⟩:=qgE (l:=r1) hr hu (by simpa using h7);unfold gS5 at h ⊢
 split at h
 rotate_left
 ·simp [gEr] at h
 rename_i h9;rw [if_pos h9];exact ⟨⟨a3,a1⟩,⟨a4,a2⟩,⟨fun v hv=>⟨qel v hv,h9 v hv⟩,q3u⟩,q7e a4 b2 Oq⟩
end
end Go.Sp
namespace Go.E
open Go Go.RowKit
def LeS {J:Nat→Prop} {h:Hp} {T:TypeId} {K:Kd} {l m lr:List PV} {x:PV} (hq:h 5000=some ⟨T,K,[.ag l],false⟩) (hm:LeV some h (q07 h0 5000 ⟨T,K,[.ag m],false⟩) (.ag l) (.ag m)) (hx:LeV some h (q07 h0 5000 ⟨T,K,[.ag m],false⟩) (mkR lr) x):Le J (fun _=>mkR lr) h (fun _=>x) (q07 h0 5000 ⟨T,K,[.ag m],false⟩):=by
 refine q30 some (fun i b hb=>?_) (fun i j k b c _ _ ti tj=>by cases ti; cases tj; rfl) (fun _=>hx) fun _ _ _ _=>rfl
 by_cases hi:i=5000
 ·subst hi;rw [q0V] at hb; cases hb;unfold LeB;exact ⟨_,hq,rfl,rfl,⟨rfl,rfl⟩,by rw [q4y]; exact hm⟩
 ·rw [q0M hi] at hb; cases hb
end Go.E
namespace Go.Proofs.YtbcmhlhgljoolaaGreatDoor
open Go Go.E Go.Sp
section
variable {n:Nat} {f:Nat→Nat→Option Nat} {F:List Int × List Int × List Int × List Nat} {x r p:List Nat} {rho:Int}
def stL (n:Nat) (f:Nat→Nat→Option Nat) (F:List Int × List Int × List Int × List Nat) (x r p:List Nat) (rho:Int):List PV:=[iv n,iv n,pI (tM f n n).1,pI (tM f n n).2.1,pF (tM f n n).2.2,pI F.1,pI F.2.1,pI F.2.2.1,pF F.2.2.2,pF x,pF r,.un,pF p,bv false,bv (decide (od rho < 0)),.fm (fL (od rho)),iv (dyE rho)]
def qr0:List PV:=[.un,.un,.un,.un,.un,.un,.un,.un,.un,.un,.un,.un,.un,.un,.un,.un,.un]
abbrev stH (l:List PV):Hp:=q07 h0 5000 ⟨115,some 17,[.ag l],false⟩
def qsv {a0 a1 a2 a3 a4 a5 a6 a7 a8 a9 a10 a11 a12 a13 a14 a15 a16:PV}:ldU (some 17) (some 5) 0 (.ag [a0,a1,a2,a3,a4,a5,a6,a7,a8,a9,a10,a11,a12,a13,a14,a15,a16])=some (.ag [a0,a1,a2,a3,a4]):=by simp [ldU]
def qsw {a0 a1 a2 a3 a4 a5 a6 a7 a8 a9 a10 a11 a12 a13 a14 a15 a16:PV}:ldU (some 17) (some 4) 5 (.ag [a0,a1,a2,a3,a4,a5,a6,a7,a8,a9,a10,a11,a12,a13,a14,a15,a16])=some (.ag [a5,a6,a7,a8]):=by simp [ldU]
def qsu {a0 a1 a2 a3 a4 a5 a6 a7 a8 a9 a10 a11 a12 a13 a14 a15 a16:PV}:ldU (some 17) (some 4) 13 (.ag [a0,a1,a2,a3,a4,a5,a6,a7,a8,a9,a10,a11,a12,a13,a14,a15,a16])=some (.ag [a13,a14,a15,a16]):=by simp [ldU]
def qr2 {a0 a1 a2 a3 a4 a5 a6 a7 a8 a9 a10 a11 a12 a13 a14 a15 a16 b0 b1 b2 b3:PV}:stU (some 17) (some 4) 13 (.ag [a0,a1,a2,a3,a4,a5,a6,a7,a8,a9,a10,a11,a12,a13,a14,a15,a16]) (.ag [b0,b1,b2,b3])=some (.ag [a0,a1,a2,a3,a4,a5,a6,a7,a8,a9,a10,a11,a12,b0,b1,b2,b3]):=by simp [stU]
attribute [go_sem] qsv qsw qsu qr2
def ag17:q0f Tryz.prog 115=some (some 17):=by kernel_rfl
attribute [go_sem] ag17
def qr1 {l m:List PV} (hl:IdL win l):∀ i b,stH l i=some b→win i∧b.st=false∧IdL win b.xs∧∃ b',stH m i=some b'∧b'.k=b.k∧b.xs.length≤b'.xs.length:=fun i b hb=>by
 unfold stH at hb
 by_cases hi:i=5000
 ·subst hi;rw [q0V] at hb; cases hb;exact ⟨⟨by omega,by omega⟩,rfl,IdL.of fun x hx=>by simp at hx; subst hx; unfold IdP; exact hl,_,q0V,rfl,Nat.le_refl _⟩
 ·rw [q0M hi] at hb; cases hb
def qmi {m:List PV}:∀ i b,stH m i=some b→win i:=fun i b hb=>by
 unfold stH at hb
 by_cases hi:i=5000
 ·subst hi; exact ⟨by omega,by omega⟩
 ·rw [q0M hi] at hb; cases hb
def q9X {q:Nat→Prop}:IdL q (stL n f F x r p rho):=by
 unfold stL;simp [IdL,IdP]
def qkI {J:Nat→Prop} {h:Hp} {T:TypeId} {K:Kd} {l:List PV} {v:Value} (hq:h 5000=some ⟨T,K,[.ag l],false⟩) (hl:l.length=17):Le J (fun _=>mkR [.vl v]) h (fun _=>.vl v) (q07 h0 5000 ⟨T,K,[.ag qr0],false⟩):=LeS hq (.ag hl fun i x y _ hy=>by
 have:y ∈ qr0:=List.mem_of_getElem? hy;simp [qr0] at this;subst this; exact .un) (.cl trivial)
noncomputable def stN (n:Nat) (f:Nat→Nat→Option Nat) (F:List Int × List Int × List Int × List Nat) (g:GSt):List PV:=if g.1=0 then stL n f F g.2.1 g.2.2.1 g.2.2.2.1 g.2.2.2.2 else qr0
def q7K {e:Int} (h:e≠0):stN n f F (gEr e)=qr0:=if_neg h
def qrW (hm : TOk f n n) (hn : n ≤ 20) (hp : F.1.length ≤ 1000000) (hc : F.2.1.length ≤ 1000000) (hr : F.2.2.1.length ≤ 1000000) (hv : F.2.2.2.length ≤ 1000000) (hu : ∀ x ∈ F.2.2.2, x < 18446744073709551616) (hF : F.1.length = n)
    (hx : q1f x ∧ x.length = n) (hrr : q1f r ∧ r.length = n) (hpp : q1f p ∧ p.length = n) (hrho : q0k rho) :
    qcz 80 [.pt 5000 0 0] (stH (stL n f F x r p rho)) (iv (gS n f F x r p rho).1) (stH (stN n f F (gS n f F x r p rho))) := by
  obtain ⟨hx1, hx2⟩ := hx
  obtain ⟨hr1, hr2⟩ := hrr
  obtain ⟨hp1, hp2⟩ := hpp
  refine qhK quL Tryz.func80 rfl Tryz.ntmps80 (by kernel_rfl) ?_ ?_ ?_ ?_
  · exact qr1 q9X
  · exact qmi
  · exact IdL.of fun x hx => by
      simp at hx; subst hx; unfold IdP; exact ⟨by omega, by omega⟩
  have C1 := q2k hrho
  have C2 := qex hm hp1 hp2 hn
  have hq2 := qhg (f := f) (x := p) (n := n) (i := n)
  have hqu := qrN (f := f) (x := p) (n := n) (i := n)
  unfold gS
  generalize q4f f p n n = q at *
  unfold stL pT q3G lnR at *
  by_cases a1 : rho ≤ 0
  · have q1 : rho.sign ≤ 0 := by rcases Int.lt_or_eq_of_le a1 with h | rfl; · rw [Int.sign_eq_neg_one_of_neg h]; decide
                                 · decide
    rw [if_pos a1]
    rw [q7K (by decide)]
    unfold gEr
    refine wk1 q1 ?_
    refine (rtM (rs := [.tmp 2]) rfl rfl Lq ?_ (.inl rfl))
    exact qkI rfl rfl
  have q1 : ¬ rho.sign ≤ 0 := by rw [Int.sign_eq_one_of_pos (by omega)]; decide
  rw [if_neg a1]
  by_cases a2 : ∀ v ∈ q, q0Y v
  rotate_left
  · rw [if_neg a2, q7K (by decide)]
    rw [decide_eq_false a2] at C2
    unfold gEr
    refine wk1 q1 ?_
    refine (rtM (rs := [.tmp 2]) rfl rfl Lq ?_ (.inl rfl))
    exact qkI rfl rfl
  rw [if_pos a2]
  rw [decide_eq_true a2] at C2
  have hqf : q1f q := fun v hv => ⟨hqu v hv, a2 v hv⟩
  have C3 := q6I hp1 hqf Oq Oq
  have hsd := q7e hp1 hqf Oq
  unfold gS2
  generalize q40 p q = sg at *
  have C4 := q2k hsd
  by_cases a3 : sg ≤ 0
  · have q3 : sg.sign ≤ 0 := by rcases Int.lt_or_eq_of_le a3 with h | rfl; · rw [Int.sign_eq_neg_one_of_neg h]; decide
                                · decide
    rw [if_pos a3, q7K (by decide)]
    unfold gEr
    refine wk1 (x2 q1 q3) ?_
    refine (rtM (rs := [.tmp 2]) rfl rfl Lq ?_ (.inl rfl))
    exact qkI rfl rfl
  have q3 : ¬ sg.sign ≤ 0 := by rw [Int.sign_eq_one_of_pos (by omega)]; decide
  rw [if_neg a3]
  have C5 := q9y hrho hsd Oq
  have hal := q9z (mode := 0) (a := rho) (b := sg) Oq
  generalize fQ 0 rho sg = al at *
  have C6 := q4t hal
  by_cases a4 : q0Y al
  rotate_left
  · rw [if_neg a4, q7K (by decide)]
    rw [decide_eq_false a4] at C6
    unfold gEr
    refine wk1 (x2 q1 q3) ?_
    refine (rtM (rs := [.tmp 2]) rfl rfl Lq ?_ (.inl rfl))
    exact qkI rfl rfl
  rw [if_pos a4]
  rw [decide_eq_true a4] at C6
  obtain ⟨n1, n2, n3⟩ := qe5 a4 hal
  have C7 := q3U hal (q0g a4)
  have C8 := qdC (q3g a4)
  have C9 := q77 rfl hx1 hp1 a4 Oq Oq
  have C10 := q77 n1.symm hr1 hqf n2 Oq Oq
  rw [hx2] at C9
  rw [hr2] at C10
  unfold gS3
  have hxu := qel (x := x) (t := al) (y := p) (i := n)
  have hru := qel (x := r) (t := q6i al) (y := q) (i := n)
  have hxl := q3u (x := x) (t := al) (y := p) (i := n)
  have hrl := q3u (x := r) (t := q6i al) (y := q) (i := n)
  unfold lnR at C9 C10
  generalize lnF x al p n = x1 at *
  generalize lnF r (q6i al) q n = r1 at *
  by_cases a5 : ∀ v ∈ x1, q0Y v
  rotate_left
  · rw [if_neg a5, q7K (by decide)]
    rw [decide_eq_false a5] at C9
    unfold gEr
    refine wk1 (x2 q1 q3) ?_
    refine (rtM (rs := [.tmp 2]) rfl rfl Lq ?_ (.inl rfl))
    exact qkI rfl rfl
  rw [if_pos a5]
  rw [decide_eq_true a5] at C9
  by_cases a6 : ∀ v ∈ r1, q0Y v
  rotate_left
  · rw [if_neg a6, q7K (by decide)]
    rw [decide_eq_false a6] at C10
    unfold gEr
    refine wk1 (x2 q1 q3) ?_
    refine (rtM (rs := [.tmp 2]) rfl rfl Lq ?_ (.inl rfl))
    exact qkI rfl rfl
  rw [if_pos a6]
  rw [decide_eq_true a6] at C10
  have hr1f : q1f r1 := fun v hv => ⟨hru v hv, a6 v hv⟩
  have hul : ∀ v ∈ r1, v < 18446744073709551616 := hru
  have C11 := (qlV (qdu hp hc hr hv hu hul Oq)).ac
  have hdf := @qgE F r1 hr hu
  unfold gS4
  rw [show (F.1, F.2.1, F.2.2.1, F.2.2.2) = F from rfl] at C11
  generalize dfE F r1 = D at *
  obtain ⟨z, e⟩ := D
  dsimp only at C11 hdf ⊢
  unfold q4O at C11
  by_cases a7 : e = 0
  rotate_left
  · rw [if_pos a7]
    have q7 : (e != 0) = true := by simpa using a7
    rw [q7K a7]
    unfold gEr
    refine wk1 (x3 q1 q3 q7) ?_
    refine (rtM (rs := [.tmp 2]) rfl rfl Lq ?_ (.inl rfl))
    exact qkI rfl rfl
  subst a7
  rw [if_neg (not_not_intro rfl)]
  obtain ⟨hz1, hz2⟩ := hdf rfl
  have C12 := q6I hr1f hz2 Oq Oq
  have htd := q7e hr1f hz2 Oq
  generalize q40 r1 z = ta at *
  have C13 := q9y htd hrho Oq
  have hbe := q9z (mode := 0) (a := ta) (b := rho) Oq
  generalize fQ 0 ta rho = be at *
  have C14 := q4t hbe
  by_cases a8 : q0Y be
  rotate_left
  · rw [if_neg a8, q7K (by decide)]
    rw [decide_eq_false a8] at C14
    unfold gEr
    refine wk1 (x2 q1 q3) ?_
    refine (rtM (rs := [.tmp 2]) rfl rfl Lq ?_ (.inl rfl))
    exact qkI rfl rfl
  rw [if_pos a8]
  rw [decide_eq_true a8] at C14
  have C15 := q3U hbe (q0g a8)
  have C16 := q77 rfl hz2 hp1 a8 Oq Oq
  rw [show z.length = n by omega] at C16
  unfold gS5
  unfold lnR at C16
  generalize lnF z be p n = p1 at *
  by_cases a9 : ∀ v ∈ p1, q0Y v
  rotate_left
  · rw [if_neg a9, q7K (by decide)]
    rw [decide_eq_false a9] at C16
    unfold gEr
    refine wk1 (x2 q1 q3) ?_
    refine (rtM (rs := [.tmp 2]) rfl rfl Lq ?_ (.inl rfl))
    exact qkI rfl rfl
  rw [if_pos a9]
  rw [decide_eq_true a9] at C16
  unfold stN
  rw [if_pos rfl]
  unfold stL
  refine wk1 (x2 q1 q3) ?_
  refine (rtM (rs := [.tmp 2]) rfl rfl Lq ?_ (.inl rfl))
  refine LeS rfl ?_ ?_
  · try simp -implicitDefEqProofs (disch := omega) only [go_sem, Nat.reduceEqDiff, Nat.reduceAdd, ↓reduceIte]
  · try simp -implicitDefEqProofs (disch := omega) only [go_sem, Nat.reduceEqDiff, Nat.reduceAdd, ↓reduceIte]
end
section
variable {R C:Nat} {f:Nat→Nat→Option Nat} {F:List Int × List Int × List Int × List Nat} {b:List Nat} {steps:Int}
def qew (hm:TOk f R C) (hp:F.1.length≤1000000) (hc:F.2.1.length≤1000000) (hr:F.2.2.1.length≤1000000) (hv:F.2.2.2.length≤1000000) (hu:∀ x ∈ F.2.2.2,x < 18446744073709551616) (hb:∀ v ∈ b,v < 18446744073709551616) (hbl:b.length≤1000000):ACt 74 [pT R C f,q4O F,pF b,iv steps] (iv (grR R C F b steps)):=by
 have C1:=qhf hm;have C2:=qb5 hp hc hr hv hu;have C3:=q4r hb hbl;rw [show (F.1,F.2.1,F.2.2.1,F.2.2.2)=F from rfl] at C2;unfold grR;unfold pT q3G q4O at *;generalize q8B F=e at *
 by_cases h1:R=C
 rotate_left
 ·rw [if_pos h1];refine ac0 Tryz.func74 Tryz.ntmps74 [.tmp 8] ?_;exact wk trivial
 subst h1;rw [if_neg (not_not_intro rfl)]
 by_cases h2:e=0
 rotate_left
 ·rw [if_pos h2];have q2:(e != 0)=true:=by simpa using h2
  refine ac0 Tryz.func74 Tryz.ntmps74 [.tmp 8] ?_;exact wk1 q2 trivial
 subst h2;rw [if_neg (not_not_intro rfl)]
 by_cases h3:F.1.length=R
 rotate_left
 ·rw [if_pos h3];have q3:((F.1.length:Int) != (R:Int))=true:=by simp; omega
  refine ac0 Tryz.func74 Tryz.ntmps74 [.tmp 8] ?_;exact wk1 q3 trivial
 rw [if_neg (not_not_intro h3)];have q3:((F.1.length:Int) != (R:Int))=false:=by simp; omega
 by_cases h4:b.length=R
 rotate_left
 ·rw [if_pos h4];have q4:((b.length:Int) != (R:Int))=true:=by simp; omega
  refine ac0 Tryz.func74 Tryz.ntmps74 [.tmp 8] ?_;exact wk1 (x2 q3 q4) trivial
 rw [if_neg (not_not_intro h4)];have q4:((b.length:Int) != (R:Int))=false:=by simp; omega
 by_cases h5:∀ v ∈ b,q0Y v
 rotate_left
 ·rw [if_pos h5];rw [decide_eq_false h5] at C3;refine ac0 Tryz.func74 Tryz.ntmps74 [.tmp 8] ?_;exact wk1 (x2 q3 q4) trivial
 rw [if_neg (not_not_intro h5)];rw [decide_eq_true h5] at C3
 by_cases h6:steps < 0
 ·rw [if_pos (.inl h6)];refine ac0 Tryz.func74 Tryz.ntmps74 [.tmp 8] ?_;exact wk1 (x3 q3 q4 h6) trivial
 by_cases h7:64 < steps
 ·rw [if_pos (.inr h7)];refine ac0 Tryz.func74 Tryz.ntmps74 [.tmp 8] ?_;exact wk1 (x4 q3 q4 h6 h7) trivial
 rw [if_neg (by omega)];refine ac0 Tryz.func74 Tryz.ntmps74 [.tmp 8] ?_;exact wk1 (x4 q3 q4 h6 h7) trivial
end
end Go.Proofs.YtbcmhlhgljoolaaGreatDoor
namespace Go.E
open Go Go.RowKit
def flS_5 {off:Nat} {a b c d e:PV} {cs:List PV}:flS (some (off,5)) (.ag [a,b,c,d,e]) cs=q92 cs off [a,b,c,d,e]:=by
 rw [q5r (by simp)];simp [flS]
attribute [go_sem] flS_5
def LeN {J:Nat→Prop} {s:Nat→PV} {h:Hp} {o:Nat} {T:TypeId} {K:Kd} {l m:List PV} (hJ:∀ i,¬ J i) (ho:h o=some ⟨T,K,[.ag l],false⟩) {xs kv:List (Nat × PV)} {kb:List (Nat × Option Bk)} (hn:nmW o o (kb.map (·.1)))
  (hm:LeV (tnU 5000 o) h (q1Q (q07 h0 5000 ⟨T,K,[.ag m],false⟩) (hpM [] kb)) (.ag l) (.ag m))
  (hh:q5U (tnU 5000 o) h (q1Q (q07 h0 5000 ⟨T,K,[.ag m],false⟩) (hpM [] kb)) s xs∧q5U (tnU 5000 o) h (q1Q (q07 h0 5000 ⟨T,K,[.ag m],false⟩) (hpM [] kb)) s kv∧q9F (tnU 5000 o) h (q1Q (q07 h0 5000 ⟨T,K,[.ag m],false⟩) (hpM [] kb)) kb):Le J s h (stM xs kv) (q1Q (q07 h0 5000 ⟨T,K,[.ag m],false⟩) (hpM [] kb)):=by
 obtain ⟨h1,h2,h4⟩:=hh;have w5:win 5000:=⟨by omega,by omega⟩;have key:∀ i b,q1Q (q07 h0 5000 ⟨T,K,[.ag m],false⟩) (hpM [] kb) i=some b→i=5000∨(i < 5000∧i≠o∧LeB (tnU 5000 o) h (q1Q (q07 h0 5000 ⟨T,K,[.ag m],false⟩) (hpM [] kb)) i b):=fun i b hb=>by
  by_cases hi:win i
  ·rw [q0m hi] at hb
   by_cases e:i=5000
   ·exact .inl e
   ·rw [q0M e] at hb; cases hb
  ·rw [q1J hi] at hb;have q:=q2Y h4 i b hb;have:=q3t hn i q.2;exact .inr ⟨this.1,this.2.1,q.1⟩
 refine q30 (tnU 5000 o) (fun i b hb=>?_) (fun i j k' b c hi hj ti tj=>?_) (fun t=>q3n h2 h1 t) fun i hi=>(hJ i hi).elim
 ·rcases key i b hb with rfl | ⟨_,_,q⟩
  ·rw [q0m w5,q0V] at hb; cases hb;unfold LeB;rw [show tnU 5000 o 5000=some o from if_pos rfl];exact ⟨_,ho,rfl,rfl,⟨rfl,rfl⟩,by rw [q4y]; exact hm⟩
  ·exact q
 ·rcases key i b hi with rfl | ⟨a1,a2,_⟩ <;> rcases key j c hj with rfl | ⟨b1,b2,_⟩
  ·rfl
  ·rw [show tnU 5000 o 5000=some o from if_pos rfl] at ti;unfold tnU at tj;rw [if_neg (by omega)] at tj; cases ti; cases tj; exact (b2 rfl).elim
  ·rw [show tnU 5000 o 5000=some o from if_pos rfl] at tj;unfold tnU at ti;rw [if_neg (by omega)] at ti; cases ti; cases tj; exact (a2 rfl).elim
  ·unfold tnU at ti tj;rw [if_neg (by omega)] at ti tj; cases ti; cases tj; rfl
end Go.E
namespace Go.Proofs.YtbcmhlhgljoolaaGreatDoor
open Go Go.E Go.Sp
structure GI where
 k:Nat
 x:List Nat
 r:List Nat
 p:List Nat
 rho:Int
 l:List Nat
def qrX {l:List PV} (hl:∀ q,IdL q l):WfH (stH l):=⟨fun i b hb=>by
 unfold stH at hb
 by_cases hi:i=5000
 ·subst hi;rw [q0V] at hb; cases hb;exact ⟨rfl,IdL.of fun x hx=>by simp at hx; subst hx; unfold IdP; exact hl _⟩
 ·rw [q0M hi] at hb; cases hb⟩
abbrev grP (q:List Nat × List Nat × Int):PV:=.tu [pF q.1,pF q.2.1,iv q.2.2]
section
variable {R C:Nat} {f:Nat→Nat→Option Nat} {F:List Int × List Int × List Int × List Nat} {b:List Nat} {steps:Int}
def q76 (hm:TOk f R C) (hR:R≤20) (hp:F.1.length≤1000000) (hc:F.2.1.length≤1000000) (hr:F.2.2.1.length≤1000000) (hv:F.2.2.2.length≤1000000) (hu:∀ x ∈ F.2.2.2,x < 18446744073709551616) (hb:∀ v ∈ b,v < 18446744073709551616) (hbl:b.length≤1000000):ACt 26 [pT R C f,q4O F,pF b,iv steps] (grP (grS R C f F b steps)):=by
 have C1:=qew (steps:=steps) hm hp hc hr hv hu hb hbl;have C2:=(qlV (qdu hp hc hr hv hu hb hbl)).ac;rw [show (F.1,F.2.1,F.2.2.1,F.2.2.2)=F from rfl] at C2;have hdf:=@qgE F b hr hu;unfold grP grS;obtain ⟨e,he⟩:∃ e,e=grR R C F b steps:=⟨_,rfl⟩;rw [← he] at C1 ⊢;have h64:e=0→R=C∧F.1.length=R∧b.length=R∧(∀ v ∈ b,q0Y v)∧0≤steps∧steps≤64:=fun h=>by
  rw [h] at he;unfold grR at he
  repeat' (split at he <;> try (first | omega | (exfalso; omega)))
  rename_i a1 a2 a3 a4 a5 a6;exact ⟨by omega,by omega,by omega,by simpa using a5,by omega,by omega⟩
 clear he;have C3:=q8o (l:=b) hbl
 by_cases h1:e=0
 rotate_left
 ·rw [if_pos h1];have q1:(e != 0)=true:=by simpa using h1
  unfold pT q3G q4O at *;refine ac0 Tryz.func26 Tryz.ntmps26 [.tmp 8,.tmp 9,.tmp 10] ?_;exact wk1 q1 trivial
 subst h1;rw [if_neg (not_not_intro rfl)];obtain ⟨rfl,g1,g2,g3,g4,g5⟩:=h64 rfl;have hbf:q1f b:=fun v hv=>⟨hb v hv,g3 v hv⟩;generalize dfE F b=D at *;obtain ⟨z,e⟩:=D;dsimp only at C2 hdf ⊢;have stp:=fun (x r p:List Nat) (rho:Int)=>@qrW R f F x r p rho hm hR hp hc hr hv hu g1;have sok:=fun (x r p:List Nat) (rho:Int)=>@gS_ok R f F x r p rho Oq g1 hr hu;unfold pT q3G q4O at *
 by_cases h2:e=0
 rotate_left
 ·rw [if_pos h2];have q2:(e != 0)=true:=by simpa using h2
  refine ac0 Tryz.func26 Tryz.ntmps26 [.tmp 8,.tmp 9,.tmp 10] ?_;exact wk1 q2 trivial
 subst h2;rw [if_neg (not_not_intro rfl)];obtain ⟨z1,z2⟩:=hdf rfl;have C4:=q8o (l:=z) Oq;have C5:=q6I hbf z2 Oq Oq;have hrd:=q7e hbf z2 Oq;have C6:=qbF hbf Oq;rw [g2] at C6;obtain ⟨N,rfl⟩:∃ N:Nat,steps=N:=⟨steps.toNat,by omega⟩;rw [Int.toNat_natCast];obtain ⟨Res,hRes⟩:∃ Res,Res=grL R f F N (List.replicate R 0) b z (q40 b z) [q35 b R]:=⟨_,rfl⟩;rw [← hRes];generalize q40 b z=rho at *;refine ac0 Tryz.func26 Tryz.ntmps26 [.tmp 8,.tmp 9,.tmp 10] ?_;refine wk ?_;refine q5V (LeN (o:=32) (xs:=[(3,iv N),(12,.pt 5000 0 0),(14,.ow 73 none 0 1),(74,iv N),(75,iv 0)]) (kv:=[]) (kb:=[(73,some ⟨30,none,[uv (q35 b R:Nat)],false⟩)]) (m:=stL R f F (List.replicate R 0) b z rho) (fun _ h=>h) rfl (by simp [nmW]) ?_ ?_) ?_
 ·unfold stL
  try refine Zz ?_
  refine q3m (T:=30) (l:=(List.replicate R 0).map fun z:Nat=>uv z) ?_ clU (fun i hi=>?_) ?_
  ·try refine Zz ?_
   rw [List.map_replicate,g2]
   rfl
  ·unfold tnU at hi
   split at hi
   ·cases hi
   ·cases hi
    rfl
  ·rw [List.drop_zero]; exact List.take_of_length_le (by simp; omega)
 ·try simp -implicitDefEqProofs (disch:=omega) only [go_sem,Nat.reduceEqDiff,Nat.reduceAdd,↓reduceIte]
 refine q0e (fun i:GI=>i.k≤N∧(q1f i.x∧i.x.length=R)∧(q1f i.r∧i.r.length=R)∧(q1f i.p∧i.p.length=R)∧q0k i.rho∧i.l.length=i.k+1∧i.l[i.k]?=some (q35 i.r R)∧grL R f F (N-i.k) i.x i.r i.p i.rho i.l=Res) [3,12,74] [] Lk Lk (fun i:GI=>[(75,iv i.k),(14,.ow 1001 none 0 (i.k+1))]) (fun i=>[(1001,⟨30,none,i.l.map fun z:Nat=>uv z,false⟩)]) (fun i=>stH (stL R f F i.x i.r i.p i.rho)) (fun i=>N-i.k) ⟨0,List.replicate R 0,b,z,rho,[q35 b R]⟩ ⟨Nat.zero_le _,⟨q4X,by simp⟩,⟨hbf,g2⟩,⟨z2,by dsimp only; omega⟩,hrd,rfl,rfl,hRes.symm⟩ ?_ ?_
 ·refine LeW [(1001,some 73)] rfl rfl ?_ ?_ (by simp [q21,q1s,win]) ?_
  ·exact q2x
  ·exact qrX fun q=>q9X
  ·try refine Zz ?_
   rfl
 ·rintro ⟨k,x,r,p,rho,l⟩ ⟨i1,i2,i3,i4,i5,i6,i7,i8⟩;dsimp only at i1 i2 i3 i4 i5 i6 i7 i8 ⊢
  by_cases hlt:k < N
  rotate_left
  ·obtain rfl:k=N:=by omega
   rw [Nat.sub_self,grL] at i8;rw [← i8];have q:¬ (k:Int) < k:=by omega
   unfold stL stH;exact wk1 (x2 q i6) trivial
  have q:(k:Int) < N:=by omega
  rw [show N-k=N-(k+1)+1 by omega,grL] at i8;have hsz:=q9Y i3.1 R Oq;have C7:=q7c (f:=q35 r R) Oq;have qk:(((q75 (q35 r R):Nat):Int) == 0)=decide (q35 r R=0):=by
   rw [Bool.eq_iff_iff,beq_iff_eq,decide_eq_true_iff];have:=qev (f:=q35 r R) Oq;unfold q7t at this;omega
  have w1:((k+1:Nat):Int)-1=k:=by omega
  unfold stL stH
  by_cases hz0:q35 r R=0
  ·rw [if_pos hz0] at i8;rw [← i8];rw [decide_eq_true hz0] at qk;exact wk1 (x5 q i6 i7 qk w1) trivial
  rw [if_neg hz0] at i8;rw [decide_eq_false hz0] at qk;have stp:=stp x r p rho i2 i3 i4 i5;have sok:=sok x r p rho;rw [show stH (stL R f F x r p rho)=q07 h0 5000 ⟨115,some 17,[.ag (stL R f F x r p rho)],false⟩ from rfl] at stp;unfold stL at stp;generalize gS R f F x r p rho=g at *;obtain ⟨e,x',r',p',rho'⟩:=g;dsimp only at stp sok i8;refine wk1 (x5 q i6 i7 qk w1) ?_;refine qhL fun K hK=>?_;refine Zz ?_;refine jmF stp ?_ ?_
  ·exact Ow
  try refine Zz ?_
  refine hK _ _ ?_; clear hK K
  by_cases h2:e=0
  rotate_left
  ·rw [if_pos h2] at i8;rw [← i8];have q2:(e != 0)=true:=by simpa using h2
   exact wk1 q2 trivial
  subst h2;rw [if_neg (not_not_intro rfl)] at i8;obtain ⟨j2,j3,j4,j5⟩:=sok rfl;have C8:=qbF j3.1 Oq;rw [j3.2] at C8;rw [show stN R f F (0,x',r',p',rho')=stL R f F x' r' p' rho' from if_pos rfl];unfold stL;refine wk ?_;refine ⟨⟨k+1,x',r',p',rho',l ++ [q35 r' R]⟩,⟨by dsimp only; omega,j2,j3,j4,j5,by simp [i6],?_,i8⟩,by dsimp only; omega,?_⟩
  ·dsimp only;rw [List.getElem?_append_right (by omega),i6,Nat.sub_self]; rfl
  refine LeW [(1001,some 97)] rfl rfl ?_ ?_ (by simp [q21,q1s,win]) ?_
  ·exact Ow
  ·exact qrX fun q=>q9X
  ·try refine Zz ?_
   exact ⟨by omega,i6⟩
end
section
variable {n k:Nat} {f:Nat→Nat→Option Nat} {F:List Int × List Int × List Int × List Nat} {x r p x' r' p' l:List Nat} {rho rho' e:Int}
def grL_z (h:q35 r n=0):grL n f F (k+1) x r p rho l=(x,l,0):=by rw [grL,if_pos h]
def grL_s (h:q35 r n≠0) (hg:gS n f F x r p rho=(0,x',r',p',rho')):grL n f F (k+1) x r p rho l=grL n f F k x' r' p' rho' (l ++ [q35 r' n]):=by
 rw [grL,if_neg h,hg];exact if_neg (not_not_intro rfl)
end
section
variable {R C:Nat} {f:Nat→Nat→Option Nat} {F:List Int × List Int × List Int × List Nat} {b:List Nat} {steps:Int}
end
def qoy {h:Hp} {l:List Int}:q3d h (pI l)=some (pI l,[]):=by
 unfold q3d pI;exact if_pos trivial
def qgM {h:Hp}:clo h .un=some (.un,[]):=by
 unfold clo q3d;exact if_pos trivial
noncomputable def lfS (f:Nat→Nat→Option Nat) (l:List Int) (n:Nat):List Int × List Int × List Int × List Nat:=q6F f l (q2v (adT (qcO f l n)) n n) n
def qer {F:Nat→Nat→Option Nat} {n:Nat} {l:List Int} (h:TOk F n n) (hn:n≤100) (hp:q2y l n):ACt 41 [pT n n F,pI l] (.tu [q4O (lfS F l n),.un,.un]):=by
 refine qkO (ids:=[5000]) (qss h hn hp) ?_;unfold lfS;generalize q6F _ _ _ _=res;unfold q2e q2e q2e q2e;simp only [qgM,Option.bind_some,Option.map_some];unfold qn2 clo q2d q2d q2d q2d q2d;simp only [qoy,qb2,Option.bind_some,Option.map_some]
 rfl
def qsn {f:Nat→Nat→Option Nat} {l:List Int} {N:Nat} (hl:l.length=N) (hN:N≤100):FSh (lfS f l N):=by
 unfold lfS;have hM:∀ j,((q2v (adT (qcO f l N)) N N).getD j []).length≤N+1:=fun j=>by
  unfold q2v;rw [List.getD_eq_getElem?_getD,List.getElem?_map]
  rcases Nat.lt_or_ge j N with hj | hj
  ·rw [List.getElem?_range hj]; exact qbZ
  ·rw [List.getElem?_eq_none (by simpa using hj)]; simp
 generalize q2v (adT (qcO f l N)) N N=cols at *;unfold q6F;cases hq:lcM f l cols N with
 | none=>exact ⟨by simp,by simp,by simp,by simp,by simp⟩
 | some q =>
  obtain ⟨a1,a2,a3,a4⟩:=qkz hM N q hq;have:N*(N+1)≤100*101:=Nat.mul_le_mul hN Oq;exact ⟨by dsimp only; omega,by dsimp only; omega,by dsimp only; omega,by dsimp only; omega,a4⟩
def qbx {raw:List Nat} {k st:Int} {n:Nat} (hr:raw.length≤9223372036854775807) (hn:n≤1000000) (h1 : -1000000≤k) (h2:k≤1000000) (h3 : -9223372036854775808≤st) (h4:st≤9223372036854775807) :
  ACt 31 [pF raw,iv k,iv n,iv st] (pF (q9M raw k (q19 st 4) n)):=by
 have hl:(q9M raw k (q19 st 4) n).length=n:=by simp [q9M]
 have h:=qby (k:=k) (n:=n) hr hn h1 h2 h3 h4;rw [← hl] at h;rw [hl] at h;refine qqL (ids:=[5000]) h ?_;unfold q2e q2e clo;dsimp only;have:=qb2 (xs:=q9M raw k (q19 st 4) n);rw [hl] at this;rw [this]
 rfl
section
variable {f:Nat→Nat→Option Nat} {n:Nat}
def dgT (f:Nat→Nat→Option Nat):Nat→Nat→Option Nat:=fun j i=>if i=j then f j i else none
def qtp (h:TOk f n n):TOk (dgT f) n n:=by
 refine ⟨h.r,h.c,h.m,fun j i x hj hi hx=>?_,fun j i x hj hi hx=>?_⟩ <;> unfold dgT at hx <;> split at hx
 ·exact h.u j i x hj hi hx
 ·cases hx
 ·exact h.v j i x hj hi hx
 ·cases hx
def dgP (f:Nat→Nat→Option Nat) (n j t:Nat):List (Nat × Nat):=((tZ f j n).take t).filter fun e=>e.1 == j
def qoi {j:Nat}:dgP f n j (tZ f j n).length=tZ (dgT f) j n:=by
 unfold dgP;rw [List.take_length]
 induction n with
 | zero=>rfl
 | succ i ih =>
  rw [qrI,qrI,List.filter_append,ih]
  congr 1
  unfold dgT
  by_cases h:i=j
  ·subst h;rw [if_pos rfl];cases f i i <;> simp
  ·rw [if_neg h];cases f j i <;> simp [h]
def dgP_s {j t i v:Nat} (h:(tZ f j n)[t]?=some (i,v)):dgP f n j (t+1)=dgP f n j t ++ if i=j then [(i,v)] else []:=by
 unfold dgP;rw [q4F h,List.filter_append]
 congr 1
 by_cases hi:i=j <;> simp [hi]
end
noncomputable def qiI (raw:List Nat) (N:Nat) (st:Int):Nat→Nat→Option Nat:=dfF (gF raw N (q19 (q19 st 3:Nat) 4)) N
def qe1 {raw:List Nat} {N:Nat} {st:Int} (hN:N≤100):TOk (qiI raw N st) N N:=qtr hN (by unfold q19; omega)
def q31 {T id n:Nat} {h h':Hp} {l:List PV} (h1:h id=some ⟨T,none,l,false⟩) (hc:ClL l) (h2:h' id=none) (hn:l.length=n):LeV (q1s []) h h' (.ow id none 0 n) (.sl none l):=q3m (T:=T) (l:=l) h1 hc (fun i hi=>by
 have hi:some i=some id:=hi;cases hi;exact h2) (by rw [List.drop_zero]; exact List.take_of_length_le (by omega))
noncomputable def pkFa (raw:List Nat) (N:Nat) (st:Int) (w:Bool):List Int × List Int × List Int × List Nat:=lfS (if w then qiI raw N st else dgT (qiI raw N st)) (q5B raw N) N
def qnV {raw:List Nat} {n st:Int} {w:Bool} (hr:raw.length≤9223372036854775807) (h1 : -9223372036854775808≤n) (h2:n≤9223372036854775807) (h3 : -9223372036854775808≤st) (h4:st≤9223372036854775807) :
  ACt 24 [pF raw,iv n,iv st,bv w] (.tu [pT (q19 n 5) (q19 n 5) (qiI raw (q19 n 5) st),q4O (pkFa raw (q19 n 5) st w),pF (q9M raw 30 (q19 st 4) (q19 n 5))]):=by
 have cM:=q6k (a:=n) (n:=5) h1 h2 Oq Oq;have hN:q19 n 5 < 5:=by unfold q19; omega
 generalize q19 n 5=N at *;have hm:TOk (qiI raw N st) N N:=qe1 Oq;have cD:=qaA (raw:=raw) (n:=N) hr Oq h3 h4;rw [show dfF (gF raw N (q19 (q19 st 3:Nat) 4)) N=qiI raw N st from rfl] at cD;have cO:=qiL (raw:=raw) (N:=N) hr Oq;have hpm:=qiM raw N;have hll:=q6A raw N;have hp:q2y (q5B raw N) N:=⟨by omega,fun x hx=>by have:=hpm.1 x hx; omega,hpm.2⟩;have cV:=qbx (k:=30) (n:=N) (st:=st) hr Oq Oq Oq h3 h4;unfold pkFa;have hmd:=qtp hm;generalize qiI raw N st=f at *;cases w with
 | true =>
  rw [if_pos rfl];have cL:=qer hm Oq hp;unfold pT q3G q4O at *;refine ac0 Tryz.func24 Tryz.ntmps24 [.cell 8 52,.cell 9 27,.tmp 10] ?_;exact wk trivial
 | false =>
  rw [if_neg (by decide)];have cL:=qer hmd Oq hp;have hml:=q1y (f:=f) (R:=N) N;have hg:=fun j hj=>q29 (f:=f) (R:=N) (C:=N) (j:=j) hj;have hix:=fun j k hj h1 h2=>q9T (f:=f) (R:=N) (C:=N) (j:=j) (k:=k) hj h1 h2;have hos:=fun j=>qhd (f:=f) (R:=N) (j:=j);obtain ⟨o,ho⟩:∃ o,o=tO f N:=⟨_,rfl⟩;unfold pT at *;unfold q3G q4O at *;have hdl:=fun j=>q1y (f:=dgT f) (R:=N) j;have hds:=fun j=>show tM (dgT f) N (j+1)=((tM (dgT f) N j).1 ++ [((tC (dgT f) j (tM (dgT f) N j).2 N).1.length:Int)],tC (dgT f) j (tM (dgT f) N j).2 N) from rfl;have hdc:=fun j=>q9V (f:=dgT f) (j:=j) (p:=(tM (dgT f) N j).2) N;have hd0:tM (dgT f) N 0=([0],[],[]):=rfl;obtain ⟨P,hP⟩:∃ P,P=dgP f N:=⟨_,rfl⟩;have hPa:=fun j=>qoi (f:=f) (n:=N) (j:=j);have hPs:=fun j t i v h=>dgP_s (f:=f) (n:=N) (j:=j) (t:=t) (i:=i) (v:=v) h;have hP0:∀ j,P j 0=[]:=fun j=>by rw [hP]; rfl
  rw [← ho] at hg hix hos;rw [← hP] at hPa hPs;have h5:=hm.m;have hPl:∀ j t,(P j t).length≤N:=fun j t=>by
   rw [hP];unfold dgP;refine Nat.le_trans (List.length_filter_le _ _) (Nat.le_trans (List.length_take_le' _ _) ?_);unfold tZ;exact Nat.le_trans (List.length_filterMap_le _ _) (by simp)
  have hLn:∀ j,(tZ f j N).length≤N:=fun j=>by unfold tZ; exact Nat.le_trans (List.length_filterMap_le _ _) (by simp)
  generalize tM (dgT f) N=G at *;generalize (tM f N N).1=ms at *;generalize (tM f N N).2.1=ix at *;generalize (tM f N N).2.2=vl at *;obtain ⟨m1,m2,m3⟩:=hml;refine ac0 Tryz.func24 Tryz.ntmps24 [.cell 8 52,.cell 9 27,.tmp 10] ?_;refine wk ?_;refine q0L (fun j=>j≤N) [0,1,2,8,9,10,11,12] [8,9,11] Lk Lk (fun j:Nat=>[(13,iv j)]) (fun j=>[(12,⟨52,some 5,[.ag [iv N,iv N,.ow 1001 none 0 (j+1),.ow 1002 none 0 (G j).2.1.length,.ow 1003 none 0 (G j).2.1.length]],false⟩),(1001,⟨3,none,(G j).1.map fun z=>iv z,false⟩),(1002,⟨3,none,(G j).2.1.map fun z=>iv z,false⟩),(1003,⟨30,none,(G j).2.2.map fun z:Nat=>uv z,false⟩)]) (fun j=>N-j) 0 (Nat.zero_le _) ?_ ?_
  ·refine LeM [(1001,some 29),(1002,none),(1003,none)] rfl rfl ?_;refine Zz ?_;rw [hd0];exact ⟨rfl,rfl,rfl,rfl,rfl⟩
  ·intro J hJ;have l1:=hdl J;have hJN:J*N≤5*5:=Nat.mul_le_mul Oq Oq
   by_cases hlt:J < N
   ·have q:(J:Int) < N:=by omega
    have g1:=hg J Oq;have g2:=hg (J+1) Oq;have oJ:=hos J;have ww:IntKind.i64.wrap ((J:Int)+1)=((J+1:Nat):Int):=by rw [i64_in (by omega) (by omega)]; omega
    have hZ:=fun k v=>q4I (f:=f) (j:=J) (i:=N) (k:=k) (x:=v);have hixJ:=hix J;have hPJ:=hPs J;have hPaJ:=hPa J;have hLJ:=hLn J;have hPlJ:=hPl J;have hPJ0:=hP0 J;have es:=hds J;rw [hdc J,← hPaJ] at es;clear hds hdc hPa hPs hix hg hos;generalize tZ f J N=L at *;generalize P J=Q at *;refine wk1 (x2 q g1) ?_;refine q0L (fun t=>t≤L.length) [0,1,2,8,9,10,11,12,13] [8,9,11,1001] Lk Lk (fun t:Nat=>[(14,iv ((o J+t:Nat):Int))]) (fun t=>[(12,⟨52,some 5,[.ag [iv N,iv N,.ow 1001 none 0 (J+1),.ow 1002 none 0 ((G J).2.1.length+(Q t).length),.ow 1003 none 0 ((G J).2.1.length+(Q t).length)]],false⟩),(1002,⟨3,none,((G J).2.1 ++ (Q t).map fun e=>(e.1:Int)).map fun z=>iv z,false⟩),(1003,⟨30,none,((G J).2.2 ++ (Q t).map fun e=>e.2).map fun z:Nat=>uv z,false⟩)]) (fun t=>L.length-t) 0 (Nat.zero_le _) ?_ ?_
    ·refine LeM [] rfl rfl ?_;refine Zz ?_;rw [hPJ0];simp
    ·intro t ht;have hQl:=hPlJ t
     by_cases hlt2:t < L.length
     ·obtain ⟨⟨i,v⟩,e1,e2,e3⟩:=hixJ (o J+t) Oq Oq Oq;rw [Nat.add_sub_cancel_left] at e1;dsimp only at e2 e3;have hob:=(List.getElem?_eq_some_iff.1 e2).1;have wt:IntKind.i64.wrap (((o J+t:Nat):Int)+1)=((o J+(t+1):Nat):Int):=by rw [i64_in (by omega) (by omega)]; omega
      have hq:((o J+t:Nat):Int) < ((o (J+1):Nat):Int):=by omega
      have eQ:=hPJ t i v e1
      by_cases hiJ:i=J
      ·subst hiJ;rw [if_pos rfl] at eQ;refine wk1 (x6 g1 g2 ww hq e2 (x2 e3 wt)) ?_;refine ⟨t+1,hlt2,by omega,?_⟩;rw [eQ];refine LeM [(1002,some 62),(1003,some 71)] rfl rfl ?_;refine Zz ?_;exact ⟨⟨by omega,by omega⟩,by simp,by simp⟩
      ·rw [if_neg hiJ,List.append_nil] at eQ;have qi:((i:Int) == (J:Int))=false:=by simp; omega
       refine wk1 (x6 g1 g2 ww hq e2 (x3 e3 wt qi)) ?_;refine ⟨t+1,hlt2,by omega,?_⟩;rw [eQ];refine LeM [] rfl rfl ?_;exact Zy
     ·obtain rfl:t=L.length:=by omega
      have hq:¬ ((o J+L.length:Nat):Int) < ((o (J+1):Nat):Int):=by omega
      refine wk1 (x3 g2 ww hq) ?_;refine ⟨J+1,hlt,by omega,?_⟩;rw [es];refine LeM [(1001,some 80)] rfl rfl ?_;refine Zz ?_;exact l1.1
   ·obtain rfl:J=N:=by omega
    have q:¬ (J:Int) < J:=by omega
    refine wk1 q ?_;refine q5V (LeM [] rfl rfl (xs:=[(0,pF raw),(1,iv J),(2,iv st),(8,.pt 8 0 0),(9,.pt 9 0 0),(11,.pt 11 0 0),(12,.pt 12 0 0)]) (kv:=[]) (bs:=[(8,⟨52,some 5,[.un],false⟩),(9,⟨27,some 4,[.un],false⟩),(11,⟨52,some 5,[.ag [iv J,iv J,pI ms,pI ix,pF vl]],false⟩),(12,⟨52,some 5,[.ag [iv J,iv J,pI (G J).1,pI (G J).2.1,pF (G J).2.2]],false⟩)]) (kb:=[]) ?_) ?_
    ·try refine Zz ?_
     exact ⟨q31 rfl clI rfl (by rw [List.length_map]; exact l1.1),q31 rfl clI rfl (by rw [List.length_map]),q31 rfl clU rfl (by rw [List.length_map]; exact l1.2.1.symm)⟩
    exact wk trivial
def qik:flz 0=0:=by unfold flz; rw [Int.zero_mul]; rfl
def qiQ {u x:Int} (hu:u.natAbs≤9) (hx:x.natAbs≤9):q1e (flz u) (flz x)=u*x*(2:Int) ^ 65536:=by
 unfold q1e;rw [q0t (q8f Oq),q0t (q8f Oq),qiS rfl]
 ·rfl
 ·have:(u*x).natAbs≤81:=by rw [Int.natAbs_mul]; exact Nat.mul_le_mul hu hx
  have h:=q0T (n:=(u*x).natAbs) (k:=7) (Nat.lt_of_le_of_lt this Oq);omega
def q3S {u x:Int} {K:Nat} (hK:K=65536) (hu:u.natAbs≤9) (hx:x.natAbs≤9):q1e (flz u) (flz x)=u*x*(2:Int) ^ K:=by rw [hK]; exact qiQ hu hx
def q7G (V:Int):q1I [V]=V:=by have:=q1T [] V; rw [List.nil_append,qa9] at this; omega
section
variable {f:Fac} {z:Nat→Int}
end
end Go.Proofs.YtbcmhlhgljoolaaGreatDoor
namespace Go.Sp
open Go Go.E
def qrj {z:Int} {K:Nat}:decide (z*(2:Int) ^ K < 0)=decide (z < 0):=by
 have hp:=q08 K;rw [decide_eq_decide]
 constructor
 ·intro h
  rcases Int.lt_or_le z 0 with h1 | h1
  ·exact h1
  ·have:=Int.mul_nonneg h1 (Int.le_of_lt hp); omega
 ·intro h; exact Int.mul_neg_of_neg_of_pos h hp
def rF_K {z y:Int} {neg:Bool} (K:Nat) (hz:z≠0) (hy:y≠0):rF 0 neg (z*(2:Int) ^ K).natAbs (y*(2:Int) ^ K).natAbs=rF 0 neg z.natAbs y.natAbs:=by
 rw [q0U,q0U];exact q57 Oq Oq (q0P K)
def fQ_K {z y:Int} (K:Nat) (hz:z≠0) (hy:y≠0):fQ 0 (z*(2:Int) ^ K) (y*(2:Int) ^ K)=rF 0 (decide (z < 0) != decide (y < 0)) z.natAbs y.natAbs:=by
 have hp:=q08 K;unfold fQ;rw [if_neg (Int.mul_ne_zero hz (Int.ne_of_gt hp)),qrj,qrj,rF_K K hz hy]
end Go.Sp
namespace Go.Proofs.YtbcmhlhgljoolaaGreatDoor
open Go Go.E Go.Sp
end Go.Proofs.YtbcmhlhgljoolaaGreatDoor
namespace Go.Sp
open Go Go.E Go.Proofs.YtbcmhlhgljoolaaGreatDoor
def flz8:flz 8=4620693217682128896:=by
 have h1:flz 8=fQ 0 (8*(2:Int) ^ 65536) (1*(2:Int) ^ 65536):=by
  have:=qbQ (x:=8) (y:=1) Oq Oq;rw [Int.mul_one] at this;exact this.symm
 rw [h1,fQ_K 65536 (by omega) (by omega)]
 show rF 0 false 8 1=4620693217682128896
 kernel_rfl
def q4m {z:Int} {K:Nat} (hK:K=65536) (h:z.natAbs≤9):ofZ (flz z)=z*(2:Int) ^ K:=by rw [hK]; exact q0t (q8f (by omega))
def qlL {z:Int} {K:Nat} (hK:K=65536):fR 0 (z*(2:Int) ^ K)=flz z:=by rw [hK]; rfl
def qfi {x y:Int} {K:Nat} (hK:K=65536) (hy:y≠0) (hx:x.natAbs≤9):fQ 0 (x*y*(2:Int) ^ K) (y*(2:Int) ^ K)=flz x:=by rw [hK]; exact qbQ hy (by omega)
def qc6:q0Y 0:=by unfold q0Y; simp
def qiN:ofZ 0=0:=by have:=q4m (z:=0) rfl (by omega); rw [qik,Int.zero_mul] at this; exact this
def qbX {a b:Nat}:q40 [a] [b]=q1e a b:=by
 unfold q40 prL;simp only [List.length_cons,List.length_nil,Nat.zero_add,List.range_succ,List.range_zero,List.nil_append,List.map_cons,List.map_nil,List.getD_cons_zero];exact q7G _
def qnj {a b t:Nat}:lnF [a] t [b] 1=[fR 0 (ofZ a+q1e t b)]:=rfl
def qlY {c:Nat} (hc:q0Y c) (h0:0 < ofZ c):q8B ([0],[0,1],[0],[c])=0:=by
 have p1:q2y [0] ([0]:List Int).length:=⟨rfl,fun x hx=>by simp at hx; subst hx; exact ⟨by omega,by simp⟩,by simp⟩;have p2:FStr ([0]:List Int).length [0,1] [0]:=⟨rfl,rfl,fun j hj=>by
  obtain rfl:j=0:=by simp at hj; omega
  refine ⟨0,1,rfl,rfl,by omega,by simp,⟨rfl,fun z hz=>?_,fun i x y hx hy=>?_⟩⟩
  ·cases hz; simp
  ·cases hy⟩
 have p3:FDg ([0]:List Int).length [0,1] [c]:=fun j hj a x ha hx=>by
  obtain rfl:j=0:=by simp at hj; omega
  simp at ha;obtain rfl:a=0:=by omega
  cases hx; exact h0
 unfold q8B;dsimp only;rw [if_neg (by simp),if_neg (not_not_intro p1),if_neg (by simp),if_neg (not_not_intro p2),if_pos ⟨fun x hx=>by simp at hx; subst hx; exact hc,p3⟩]
def qts {c b y z:Nat} (hc:q0Y c) (h0:0 < ofZ c) (hb:q0Y b) (hy:fQ 0 (ofZ b) (ofZ c)=y) (hz:fQ 0 (ofZ y) (ofZ c)=z) (h1:q0Y y) (h2:q0Y z):dfE ([0],[0,1],[0],[c]) [b]=([z],0):=by
 unfold dfE;have hs:q9Z (q8B ([0],[0,1],[0],[c])) ([0]:List Int).length [b]=0:=by
  rw [qlY hc h0];exact qrf rfl fun x hx=>by simp at hx; subst hx; exact hb
 dsimp only;rw [if_neg (not_not_intro hs)];have e1:gaS [b] [0] 1=[b]:=rfl;have e2:q63 ⟨[0],[0,1],[0],[c]⟩ 1 1=[[c]]:=rfl;have e3:trS [[c]] 1 1=[[c]]:=rfl;rw [show ([0]:List Int).length=1 from rfl,e1,e2,e3];have v1:loV [[c]] [b] (List.replicate 1 0) 0=y:=by
  unfold loV;rw [← hy]
  congr 1
  exact q7G _
 have e4:loF [[c]] [b] 1 0 (List.replicate 1 0)=some [y]:=by
  rw [loF,v1,if_pos h1]; rfl
 have v2:upV [[c]] [y] (List.replicate 1 0) 1 0=z:=by
  unfold upV;rw [← hz]
  congr 1
  exact q7G _
 have e5:upF [[c]] [y] 1 1 (List.replicate 1 0)=some [z]:=by
  rw [upF,v2,if_pos h2]; rfl
 simp only [e4,e5]
 rfl
section
variable {c1 c2 c4 c8 K:Nat}
def qud (hK:K=65536) (h2:c2=flz 2) (h4:c4=flz 4) (h8:c8=flz 8):grS 1 1 (fun _ _=>some c4) ([0],[0,1],[0],[c2]) [c8] 3=([c2],[c8,0],0):=by
 have f2:q0Y c2:=by rw [h2]; exact q4s (by omega)
 have f4:q0Y c4:=by rw [h4]; exact q4s (by omega)
 have f8:q0Y c8:=by rw [h8]; exact q4s (by omega)
 have z2:ofZ c2=2*(2:Int) ^ K:=by rw [h2]; exact q4m hK (by omega)
 have z4:ofZ c4=4*(2:Int) ^ K:=by rw [h4]; exact q4m hK (by omega)
 have z8:ofZ c8=8*(2:Int) ^ K:=by rw [h8]; exact q4m hK (by omega)
 have hp:=q08 K;have d2:0 < ofZ c2:=by rw [z2]; omega
 have n8:c8 < 9223372036854775808∧c8≠0:=by rw [h8,flz8]; omega
 have m82:q1e c8 c2=16*(2:Int) ^ K:=by rw [h8,h2]; exact q3S hK (by omega) (by omega)
 have m28:q1e c2 c8=16*(2:Int) ^ K:=by rw [h8,h2]; exact q3S hK (by omega) (by omega)
 have m42:q1e c4 c2=8*(2:Int) ^ K:=by rw [h4,h2]; exact q3S hK (by omega) (by omega)
 have D8:dfE ([0],[0,1],[0],[c2]) [c8]=([c2],0):=qts f2 d2 f8 (y:=c4) (z:=c2) (by
  rw [z8,z2,h4];exact qfi (x:=4) (y:=2) hK Oq Oq) (by
  rw [z4,z2,h2];exact qfi (x:=2) (y:=2) hK Oq Oq) f4 f2
 have q0:∀ {b:Int},fQ 0 0 b=0:=fun {b}=>if_pos rfl;have D0:dfE ([0],[0,1],[0],[c2]) [0]=([0],0):=qts f2 d2 qc6 (y:=0) (z:=0) (by rw [qiN]; exact q0) (by rw [qiN]; exact q0) qc6 qc6;obtain ⟨c1,h1⟩:∃ c,c=flz 1:=⟨_,rfl⟩;have f1:q0Y c1:=by rw [h1]; exact q4s (by omega)
 have l1:c1 < 18446744073709551616:=by rw [h1]; exact qfU (by omega)
 have m12:q1e c1 c2=2*(2:Int) ^ K:=by rw [h1,h2]; exact q3S hK (by omega) (by omega)
 have mn:q1e (q6i c1) c8 = -8*(2:Int) ^ K:=by
  have e:ofZ (q6i c1)=ofZ (flz (-1)):=by
   rw [(qe5 f1 l1).1,h1,q4m hK (by omega),q4m hK (by omega)]; omega
  have:q1e (q6i c1) c8=q1e (flz (-1)) c8:=by unfold q1e; rw [e]
  rw [this,h8];exact q3S hK Oq Oq
 have one:∀ {a:Nat},q0Y a→∀ v ∈ [a],q0Y v:=fun h v hv=>by simp at hv; subst hv; exact h
 have A:q4f (fun _ _=>some c4) [c2] 1 1=[c8]:=by
  have e:q4f (fun _ _=>some c4) [c2] 1 1=[fR 0 (q40 [c4] [c2])]:=rfl;rw [e,qbX,m42,qlL hK,h8]
 have X:lnF [0] c1 [c2] 1=[c2]:=by
  rw [qnj,qiN,m12,Int.zero_add,qlL hK,h2]
 have Rr:lnF [c8] (q6i c1) [c8] 1=[0]:=by
  rw [qnj,z8,mn,show (8:Int)*(2:Int) ^ K + -8*(2:Int) ^ K=0 by omega]
  rfl
 have P:lnF [0] 0 [c2] 1=[0]:=by
  rw [qnj,qiN,qea]
  rfl
 have G:gS 1 (fun _ _=>some c4) ([0],[0,1],[0],[c2]) [0] [c8] [c2] (16*(2:Int) ^ K)=(0,[c2],[0],[0],0):=by
  unfold gS;rw [if_neg (by omega),A,if_pos (one f8)];unfold gS2;rw [qbX,m28,if_neg (by omega)];have:fQ 0 (16*(2:Int) ^ K) (16*(2:Int) ^ K)=c1:=by rw [h1]; exact qfi (x:=1) (y:=16) hK (by omega) (by omega)
  rw [this,if_pos f1];unfold gS3;rw [X,Rr,if_pos (one f2),if_pos (one qc6)];unfold gS4;rw [D0];dsimp only;rw [if_neg (not_not_intro rfl),qbX,qea,q0,if_pos qc6];unfold gS5;rw [P,if_pos (one qc6)]
 have s8:q35 [c8] 1=c8:=by
  have e:q35 [c8] 1=max 0 (q7t c8):=rfl;rw [e];unfold q7t;omega
 have s0:q35 [0] 1=0:=rfl;unfold grS;have R:grR 1 1 ([0],[0,1],[0],[c2]) [c8] 3=0:=by
  unfold grR;rw [if_neg (by omega),qlY f2 d2,if_neg (by omega),if_neg (by simp),if_neg (by simp),if_neg (not_not_intro (one f8)),if_neg (by omega)]
 rw [R,if_neg (not_not_intro rfl),D8];dsimp only;rw [if_neg (not_not_intro rfl),qbX,m82,s8];rw [show (3:Int).toNat=2+1 from rfl,show List.replicate 1 0=[0] from rfl,grL_s (by rw [s8]; exact n8.2) G,grL_z s0,s0]
 rfl
end
end Go.Sp
namespace Go.E
open Go Go.RowKit
section
variable {P:Program} {Tb:World→Prop} {J:Nat→Prop} {n:Nat} {Q:SQ} {s:Nat→PV} {h:Hp}
def qgs {ops:Array Oper} {K:Env→World→Prop}:∀ (k:Nat) (l:List Oper) (e:Env) (w:World),WL P ops (fun e w=>WL P ops K (l.drop k) e w) (l.take k) e w→WL P ops K l e w
 | 0,_,_,_,h=>h
 | k+1,[],_,_,h=>h
 | k+1,o :: l,e,w,h=>q4w (fun v w' h=>qgs k l _ _ h) h
def qqF {id:Nat} {l:List Oper} (k:Nat) (hw:∀ K:(Nat→PV)→Hp→Prop,(∀ s h,Q .normal s h→K s h)→AL P Tb l (fun s1 h1 acc=>∃ s' h',Le J s1 h1 s' h'∧AL P Tb l (fun s h _=>K s h) (l.drop k) s' h' acc) (l.take k) s h []):AW P Tb J n (.region id l.toArray false) Q s h:=fun D0 w0 ρ e w hT hF S=>by
 have h1:=hw _ fun _ _ h=>h;refine q5g (qgs k _ _ _ ?_);refine qkN (K':=fun e' w'=>WL P l.toArray (fun e' w'=>∃ s' h' ρ',Sat D0 w0 s' h' ρ' e' w'∧Q .normal s' h') (l.drop k) e' w') hT.1 hF _ s h [] ρ e w (fun s h acc ρ e w S hq=>?_) h1 S;obtain ⟨s',h',hl,hq⟩:=hq;obtain ⟨ρ',S'⟩:=hl D0 w0 ρ e w hT.2 S;exact qkN hT.1 hF _ s' h' acc ρ' e w (fun s h _ ρ e w S hq=>⟨s,h,ρ,S,hq⟩) hq S'
end
end Go.E
namespace Go.Proofs.YtbcmhlhgljoolaaGreatDoor
open Go Go.E Go.Sp
def qgd:ACt 28 [] (bv true):=by
 obtain ⟨c2,h2⟩:∃ c,c=flz 2:=⟨_,rfl⟩;obtain ⟨c4,h4⟩:∃ c,c=flz 4:=⟨_,rfl⟩;obtain ⟨c8,h8⟩:∃ c,c=flz 8:=⟨_,rfl⟩;have hI:∀ z:Int,z.natAbs≤9→ACt 34 [iv z,iv 0] (uv (flz z:Nat)):=fun z hz=>q6g (z:=z) (mode:=0) Oq Oq (q9d (by have:=q0T (n:=z.natAbs) (k:=4) (by omega); omega));have C1:=hI 2 Oq;have C2:=hI 4 Oq;have C3:=hI 8 Oq;have hu:∀ z:Int,z.natAbs≤9→flz z < 18446744073709551616∧q0Y (flz z):=fun z hz=>⟨qfU Oq,q4s Oq⟩;have u2:=hu 2 Oq;have u4:=hu 4 Oq;have u8:=hu 8 Oq;have hg:=qud (K:=65536) rfl h2 h4 h8;rw [← h2] at C1 u2;rw [← h4] at C2 u4;rw [← h8] at C3 u8;clear hI hu h2 h4 h8;have hm:TOk (fun _ _=>some c4) 1 1:=⟨by omega,by omega,by omega,fun j i x _ _ h=>by cases h; exact u4.1,fun j i x _ _ h=>by cases h; exact u4.2⟩;have C4:=q76 (f:=fun _ _=>some c4) (F:=([0],[0,1],[0],[c2])) (b:=[c8]) (steps:=3) hm (by omega) (by simp) (by simp) (by simp) (by simp) (fun x hx=>by simp at hx; subst hx; exact u2.1) (fun x hx=>by simp at hx; subst hx; exact u8.1) (by simp);rw [hg] at C4;have hC4:ACt 26 [.ag [iv 1,iv 1,.sl none [iv 0,iv 1],.sl none [iv 0],.sl none [uv c4]],.ag [.sl none [iv 0],.sl none [iv 0,iv 1],.sl none [iv 0],.sl none [uv c2]],.sl none [uv c8],iv 3] (.tu [.sl none [uv c2],.sl none [uv c8,uv 0],iv 0]):=C4;clear C4;have C5:ACt 23 [.sl none [uv c2],.sl none [uv c2]] (bv true):=q4q (l:=[c2]) (by simp);have C6:ACt 23 [.sl none [uv c8,uv 0],.sl none [uv c8,uv 0]] (bv true):=q4q (l:=[c8,0]) (by simp);have N1:Nz (bv true):=qs7;refine ac0 Tryz.func28 Tryz.ntmps28 [.tmp 0] ?_;refine wk ?_;refine q2g fun K0 hK0=>?_;refine qqF 4 fun K hK=>?_;rw [List.take_succ_cons,List.take_succ_cons,List.take_succ_cons,List.take_succ_cons,List.take_zero,List.drop_succ_cons,List.drop_succ_cons,List.drop_succ_cons,List.drop_succ_cons,List.drop_zero]
 try refine Zz ?_
 refine ⟨_,_,LeM [] rfl rfl (xs:=[(1,uv (c2:Nat)),(3,uv (c8:Nat)),(24,.ag [iv 1,iv 1,.sl none [iv 0,iv 1],.sl none [iv 0],.sl none [uv (c4:Nat)]]),(25,.ag [.sl none [iv 0],.sl none [iv 0,iv 1],.sl none [iv 0],.sl none [uv (c2:Nat)]]),(27,.sl none [uv (c8:Nat)])]) (kv:=[]) (bs:=[]) (kb:=[]) ?_,?_⟩
 ·try refine Zz ?_
  refine ⟨⟨q31 rfl (clI (l:=[0,1])) rfl rfl,q31 rfl (clI (l:=[0])) rfl rfl,q31 rfl (clU (l:=[c4])) rfl rfl⟩,⟨q31 rfl (clI (l:=[0])) rfl rfl,q31 rfl (clI (l:=[0,1])) rfl rfl,q31 rfl (clI (l:=[0])) rfl rfl,q31 rfl (clU (l:=[c2])) rfl rfl⟩,q31 rfl (clU (l:=[c8])) rfl rfl⟩
 try refine Zz ?_
 refine q2B hC4 ?_
 try refine Zz ?_
 refine hK _ _ ?_;refine hK0 _ _ ?_;clear hK hK0 K K0;exact wk trivial
section
variable {n:Nat} {f:Nat→Nat→Option Nat} {F:List Int × List Int × List Int × List Nat} {x r p:List Nat} {rho:Int}
def qtG:(gS n f F x r p rho).2.1.length≤n:=by
 unfold gS gS2 gS3 gS4 gS5 gEr
 repeat' split
 all_goals first | exact Nat.zero_le _ | exact Nat.le_of_eq q3u
def qfL:∀ (k:Nat) (x r p:List Nat) (rho:Int) (l:List Nat),x.length≤n→(grL n f F k x r p rho l).1.length≤n∧(grL n f F k x r p rho l).2.1.length≤l.length+k
 | 0,x,r,p,rho,l,h=>⟨h,Nat.le_refl _⟩
 | k+1,x,r,p,rho,l,h=>by
  rw [grL]
  split
  ·exact ⟨h,by dsimp only; omega⟩
  ·split
   ·exact ⟨Nat.zero_le _,Nat.zero_le _⟩
   ·have:=qfL k _ (gS n f F x r p rho).2.2.1 (gS n f F x r p rho).2.2.2.1 (gS n f F x r p rho).2.2.2.2 (l ++ [q35 (gS n f F x r p rho).2.2.1 n]) (qtG (n:=n) (f:=f) (F:=F) (x:=x) (r:=r) (p:=p) (rho:=rho));rw [List.length_append] at this;exact ⟨this.1,by have:=this.2; simp at this; omega⟩
def qfJ {R C:Nat} {b:List Nat} {steps:Int} (hR:R≤100000) (hs:steps≤64∨64 < steps):(grS R C f F b steps).1.length≤1000000∧(grS R C f F b steps).2.1.length≤1000000:=by
 unfold grS
 split
 ·exact ⟨Nat.zero_le _,Nat.zero_le _⟩
 ·rename_i h
  split
  ·exact ⟨Nat.zero_le _,Nat.zero_le _⟩
  ·have:=qfL (n:=R) (f:=f) (F:=F) steps.toNat (List.replicate R 0) b (dfE F b).1 (q40 b (dfE F b).1) [q35 b R] (by simp);have h64:steps≤64:=by
    rcases hs with h2 | h2
    ·exact h2
    ·exfalso
     apply h
     unfold grR
     repeat' split
     all_goals first | omega | (exact fun q=>by omega)
   refine ⟨by have:=this.1; omega,?_⟩;have:=this.2;simp at this;omega
end
def qnU {raw:List Nat} {N:Nat} {st:Int} {w:Bool} (hN:N≤100):FSh (pkFa raw N st w):=qsn (q6A raw N) hN
section
variable {raw other:List Nat} {n st steps:Int} {w:Bool}
end
section
variable {raw:List Nat} {n r c long steps:Int} {value:Nat}
end
section
variable {n:Nat} {f:Nat→Nat→Option Nat} {F:List Int × List Int × List Int × List Nat}
def qfK:∀ (k:Nat) (x r p:List Nat) (rho:Int) (l:List Nat),(grL n f F k x r p rho l).2.2=0→∃ t,(grL n f F k x r p rho l).2.1=l ++ t
 | 0,x,r,p,rho,l,_=>⟨[],(List.append_nil l).symm⟩
 | k+1,x,r,p,rho,l,h=>by
  rw [grL] at h ⊢
  split at h
  ·rename_i h1;rw [if_pos h1];exact ⟨[],(List.append_nil l).symm⟩
  ·rename_i h1;rw [if_neg h1]
   split at h
   ·rename_i h2; exact (h2 h).elim
   ·rename_i h2;rw [if_neg h2];obtain ⟨t,ht⟩:=qfK k _ _ _ _ _ h;rw [ht,List.append_assoc];exact ⟨_,rfl⟩
def qbH : ∀ (k d : Nat) (x r p : List Nat) (rho : Int) (l : List Nat), (grL n f F k x r p rho l).2.2 = 0 → (grL n f F (k + d) x r p rho l).2.2 = 0 → l.length ≤ (grL n f F k x r p rho l).2.1.length ∧ (∃ t, (grL n f F (k + d) x r p rho l).2.1 = (grL n f F k x r p rho l).2.1 ++ t) ∧ ((grL n f F k x r p rho l).2.1.length = l.length + k ∨ (grL n f F k x r p rho l).2.1.length = (grL n f F (k + d) x r p rho l).2.1.length)
  | 0, d, x, r, p, rho, l, _, h => ⟨Nat.le_refl _, qfK _ _ _ _ _ _ h, .inl rfl⟩
  | k + 1, d, x, r, p, rho, l, h, h' => by
    rw [show k + 1 + d = k + d + 1 by omega] at h' ⊢
    rw [grL] at h h'
    rw [grL, grL]
    by_cases h1 : q35 r n = 0
    · rw [if_pos h1, if_pos h1]
      exact ⟨Nat.le_refl _, ⟨[], (List.append_nil l).symm⟩, .inr rfl⟩
    · rw [if_neg h1] at h h' ⊢
      rw [if_neg h1]
      by_cases h2 : (gS n f F x r p rho).1 ≠ 0
      · rw [if_pos h2] at h
        exact (h2 h).elim
      · rw [if_neg h2] at h h' ⊢
        rw [if_neg h2]
        have := qbH k d _ _ _ _ _ h h'
        rw [List.length_append] at this
        simp only [List.length_cons, List.length_nil] at this
        exact ⟨by omega, this.2.1, by rcases this.2.2 with q | q; · exact .inl Oq
                                      · exact .inr q⟩
def qih {R C : Nat} {b : List Nat} {k m : Nat} (hkm : k ≤ m) (h : (grS R C f F b k).2.2 = 0) (h' : (grS R C f F b m).2.2 = 0) : 1 ≤ (grS R C f F b k).2.1.length ∧ (∃ t, (grS R C f F b m).2.1 = (grS R C f F b k).2.1 ++ t) ∧ ((grS R C f F b k).2.1.length = k + 1 ∨ (grS R C f F b k).2.1.length = (grS R C f F b m).2.1.length) := by
  unfold grS at h h' ⊢
  by_cases h1 : grR R C F b k ≠ 0
  · rw [if_pos h1] at h; exact (h1 h).elim
  by_cases h2 : grR R C F b m ≠ 0
  · rw [if_pos h2] at h'; exact (h2 h').elim
  rw [if_neg h1] at h ⊢
  rw [if_neg h2] at h' ⊢
  by_cases h3 : (dfE F b).2 ≠ 0
  · rw [if_pos h3] at h; exact (h3 h).elim
  rw [if_neg h3] at h h' ⊢
  rw [if_neg h3]
  rw [Int.toNat_natCast] at h h' ⊢
  rw [Int.toNat_natCast]
  obtain ⟨d, rfl⟩ : ∃ d, m = k + d := ⟨m - k, by omega⟩
  have := qbH k d _ _ _ _ _ h h'
  simp only [List.length_cons, List.length_nil] at this
  exact ⟨by omega, this.2.1, by rcases this.2.2 with q | q; · exact .inl Oq
                                · exact .inr q⟩
end
section
variable {raw:List Nat} {n st k:Int} {w:Bool}
def q60 (hr:raw.length≤9223372036854775807) (h1 : -9223372036854775808≤n) (h2:n≤9223372036854775807) (h3 : -9223372036854775808≤st) (h4:st≤9223372036854775807) (h5 : -9223372036854775808≤k) (h6:k≤9223372036854775807) :
  ACt 9 [pF raw,iv n,iv st,bv w,iv k] (bv true):=by
 have cA:=qgd;have cP:=qnV (w:=w) hr h1 h2 h3 h4;have hN:q19 n 5 < 5:=by unfold q19; omega
 generalize q19 n 5=N at *;have hm:TOk (qiI raw N st) N N:=qe1 Oq;have hF:=qnU (raw:=raw) (N:=N) (st:=st) (w:=w) Oq;have hb:=qdH (raw:=raw) (k:=30) (st:=q19 st 4) (n:=N);have hbl:=qaV (raw:=raw) (k:=30) (st:=q19 st 4) (n:=N);generalize qiI raw N st=f at *;generalize pkFa raw N st w=F at *;generalize q9M raw 30 (q19 st 4) N=b at *;have cM:=q6k (a:=k) (n:=4) h5 h6 Oq Oq;have hk:q19 k 4 < 4:=by unfold q19; omega
 generalize q19 k 4=K at *;have hR:N≤20:=by omega
 have C1:=q76 (steps:=(K:Nat)) hm hR (by have:=hF.p; omega) hF.c hF.r hF.v hF.u (fun v hv=>(hb v hv).1) Oq;have C2:=q76 (steps:=(4:Nat)) hm hR (by have:=hF.p; omega) hF.c hF.r hF.v hF.u (fun v hv=>(hb v hv).1) Oq;have hmo:=qih (R:=N) (C:=N) (f:=f) (F:=F) (b:=b) (k:=K) (m:=4) Oq;have hl1:=(qfJ (R:=N) (C:=N) (f:=f) (F:=F) (b:=b) (steps:=(K:Nat)) Oq Oq).2;have hl2:=(qfJ (R:=N) (C:=N) (f:=f) (F:=F) (b:=b) (steps:=(4:Nat)) Oq Oq).2;generalize grS N N f F b (K:Nat)=X at *;generalize grS N N f F b (4:Nat)=Y at *;obtain ⟨x,l,e⟩:=X;obtain ⟨y,m,d⟩:=Y;unfold grP at C1 C2;dsimp only at C1 C2 hmo hl1 hl2;have C3:=q4q hl1;unfold pT q3G q4O at *;rw [show ((4:Nat):Int)=4 from rfl] at C2
 by_cases he:e=0
 rotate_left
 ·have q:(e != 0)=true:=by simpa using he
  refine ac0 Tryz.func9 Tryz.ntmps9 [.tmp 10] ?_;exact wk1 q trivial
 subst he
 by_cases hd:d=0
 rotate_left
 ·have q:(d != 0)=true:=by simpa using hd
  refine ac0 Tryz.func9 Tryz.ntmps9 [.tmp 10] ?_;exact wk1 q trivial
 subst hd;obtain ⟨m1,⟨t,ht⟩,m3⟩:=hmo rfl rfl;have hml:m.length=l.length+t.length:=by rw [ht,List.length_append]
 have a1:(1:Int)≤l.length:=by omega
 have a2:(l.length:Int)≤(m.length:Int):=by omega
 have a3:slP (some 1) none (some (iv (l.length:Int))) (pF m)=some (pF l):=by
  rw [ht];simp [slP,qcv,ksz]
 clear ht hml;have a4:IntKind.i64.wrap ((K:Int)+1)=((K+1:Nat):Int):=by rw [i64_in (by omega) (by omega)]; omega
 refine ac0 Tryz.func9 Tryz.ntmps9 [.tmp 10] ?_
 rcases m3 with m3 | m3
 ·have a5:((l.length:Int) == ((K+1:Nat):Int))=true:=by simp; omega
  exact wk1 (x5 a1 a2 a3 a4 a5) trivial
 ·cases a5:((l.length:Int) == ((K+1:Nat):Int)) with
  | true =>
   exact wk1 (x5 a1 a2 a3 a4 a5) trivial
  | false =>
   have a6:((l.length:Int) == (m.length:Int))=true:=by rw [← m3]; simp
   exact wk1 (x6 a1 a2 a3 a4 a5 a6) trivial
end
end Go.Proofs.YtbcmhlhgljoolaaGreatDoor
