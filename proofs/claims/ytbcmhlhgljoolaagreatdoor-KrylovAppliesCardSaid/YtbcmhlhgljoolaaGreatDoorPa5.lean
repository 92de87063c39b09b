/- KrylovApplies. Part 5 of 5: S7, T31, T23, T24, T20, T21, T25, T26, T27, T32, T33, T34, T35, T36, U1, T37, L5, T38, Y4, Y5, Y6, Y7, Y8, V1, L6, V2, V3, V4, V5, Y9, V6, V7, V8, Y10, V9, V10, V11, V12, T39, V13, V14, V15, V16, Y11, Y12, Y13, Y14, Y15, Y16, Y17, L1, L4, Y18, Y19, Y20, Y21, Y24, Lr, Kr, Kf, KfC. -/
import Derived.Test.YtbcmhlhgljoolaaGreatDoorPa4
set_option linter.unusedSimpArgs false
set_option linter.unusedVariables false
set_option maxRecDepth 20000
set_option maxHeartbeats 2000000
namespace Go.Proofs.YtbcmhlhgljoolaaGreatDoor
open Go Go.E Go.Sp
section
variable {D:Nat→Prop} {L:List Nat} {N0 g n gy:Nat} {rows:List (List Int)} {ss:List (Option Addr × Nat × Nat)} {w w':World}
theorem Sums.kpo (h:Sums w D L N0 g n rows ss) (k:Kp (fun k=>k≠gy) w w') (hD:∀ k,D k→k≠gy) (hg:gy ∉ L):Sums w' D L N0 g n rows ss :=
 ⟨h.own.kp k (fun a ha=>by cases ha; exact fun e=>hg (e ▸ h.gL)),h.len,fun i s r a b=>(h.row i s r a b).kp k (fun k hd=>hD k hd.1) (fun A hA e=>hg (e ▸ (h.mem i s A a hA).1)),h.mem,h.ne,h.gL,h.lo,fun j hj=>Nat.lt_of_lt_of_le (h.hi j hj) k.size⟩
theorem qoA {mode:Int} {neg:Bool} {N M:Nat} (hN:0 < N) (hM:0 < M):rF mode neg N M < 18446744073709551616:=by
 have h1:M≤N*2 ^ bl M:=Nat.le_trans (Nat.le_of_lt (q35 M)) (Nat.le_mul_of_pos_left _ hN);have:=qoC (mode:=mode) (neg:=neg) (e := -((bl M:Nat):Int)) hM h1;unfold rE at this;rw [show (-((bl M:Nat):Int)).toNat=0 by omega,show (- -((bl M:Nat):Int)).toNat=bl M by omega,Nat.pow_zero,Nat.mul_one,q4i hN hM (q0S _)] at this;exact this
theorem qae {mode a b:Int} (hb:b≠0):fQ mode a b < 18446744073709551616:=by
 unfold fQ
 split
 ·omega
 ·exact qoA Oq Oq
def qpE:Option (List Nat)→Fam
 | some ys=>fP (fSc q2S ys) (fc (.int .i64 0))
 | none=>fP (fSc q2S []) (fc (.int .i64 233))
structure RowsOk (f:Fac) (k:Nat) (rows:List (List Int)):Prop where
 len:rows.length=f.pm.length
 row:∀ r ∈ rows,r.length≤1+k∧∀ x ∈ r,bl x.natAbs≤67600
structure RowsIn (f:Fac) (k p b:Nat) (rows:List (List Int)):Prop where
 len:rows.length=f.pm.length
 row:∀ (i:Nat) (r:List Int),rows[i]?=some r→r.length≤2+k∧((∃ p',p≤p'∧p' < b∧f.ri[p']?=some (i:Int))→r.length≤1+k)∧∀ x ∈ r,bl x.natAbs≤67600
theorem RowsOk.into {f:Fac} {k p b:Nat} (h:RowsOk f k rows):RowsIn f k p b rows :=
 ⟨h.len,fun i r hr=>by
  obtain ⟨h1,h2⟩:=h.row r (List.mem_of_getElem? hr);exact ⟨by omega,fun _=>h1,h2⟩⟩
theorem RowsIn.out {f:Fac} {k p b:Nat} (h:RowsIn f k p b rows):RowsOk f (k+1) rows :=
 ⟨h.len,fun r hr=>by
  obtain ⟨i,hi⟩:=List.mem_iff_getElem?.1 hr;obtain ⟨h1,_,h2⟩:=h.row i r hi;exact ⟨by omega,h2⟩⟩
theorem RowsIn.step {f:Fac} {j a k p b i:Nat} {r:List Int} {x q:Nat} (hc:Col f j a b) (h:RowsIn f k p b rows) (hp1:a < p) (hp2:p < b) (hi:f.ri[p]?=some (i:Int)) (hr:rows[i]?=some r) (hx:q0V x) (hq:q0V q):RowsIn f k (p+1) b (rows.set i (r ++ [-(q1U x q)])):=by
 have h2:=(q0w hx hq).2;obtain ⟨l1,l2,l3⟩:=h.row i r hr;refine ⟨by rw [List.length_set]; exact h.len,fun i' r' hr'=>?_⟩
 rcases q1Y hr' with ⟨rfl,rfl,_⟩ | ⟨hne,hr'⟩
 ·have:=l2 ⟨p,Nat.le_refl _,hp2,hi⟩;refine ⟨by simp; omega,?_,fun y hy=>?_⟩
  ·rintro ⟨p',h1,h2,h3⟩;have:=hc.mono (p'-p) p i i Oq Oq hi (by rw [show p+(p'-p)=p' by omega]; exact h3);rw [if_neg (by omega)] at this; omega
  ·rcases List.mem_append.1 hy with hy | hy
   ·exact l3 y hy
   ·simp at hy; subst hy; rwa [Int.natAbs_neg]
 ·obtain ⟨m1,m2,m3⟩:=h.row i' r' hr';exact ⟨m1,fun ⟨p',h1,h2,h3⟩=>m2 ⟨p',by omega,h2,h3⟩,m3⟩
theorem qbs {k:Nat} {f:Fac} {r:List Int} (h:RowsOk f k rows) (hr:r ∈ rows) (hk:k≤500):r.length≤501∧(∀ x ∈ r,q0i x)∧q0i (q1K r):=by
 obtain ⟨h1,h2⟩:=h.row r hr;refine ⟨by omega,fun x hx=>?_,?_⟩
 ·have:=h2 x hx; unfold q0i; omega
 ·have:=q8D (i:=r.length) h2 Oq;rw [List.take_length] at this;unfold q0i; omega
end
theorem inI {D:Nat→Prop} {a:Addr} {n c i:Nat} {l:List Int} {w:World} {z:Int} (h:In (fSc q3k l) D (.slice (some a) n c) w) (hi:l[i]?=some z):w.cell? (a.add i)=some (.int .i64 z):=by
 obtain ⟨_,hc,_,x⟩:=h.ixI hi; cases hc; exact x
theorem inU {D:Nat→Prop} {a:Addr} {n c i:Nat} {l:List Nat} {w:World} {z:Nat} (h:In (fSc q2S l) D (.slice (some a) n c) w) (hi:l[i]?=some z):w.cell? (a.add i)=some (.int .u64 (z:Int)):=by
 obtain ⟨_,hc,_,x⟩:=h.ixU hi; cases hc; exact x
theorem owG {B g n c j:Nat} {xs:List Value} {v:Value} {w:World} (h:Own w B 30 1 (some ⟨g,0,none⟩) n c xs) (hj:xs[j]?=some v):w.cell? ⟨g,j,none⟩=some v:=by
 obtain ⟨_,hg,_,hc,_⟩:=h.cell (List.getElem?_eq_some_iff.1 hj).1;cases hg;rw [hc]; exact (List.getElem?_eq_getElem _).symm.trans hj
theorem qab {E:Nat→Prop} {f:Fac} {v:Value} {A A2:Option Addr} {n c n2 c2:Nat} {l:List Nat} {ps:List Int} {w:World} (hT:q2a w) (h:In (fFac f) E v w) (ho:FacOk f) (hb:In (fSc q2S l) E (.slice A n c) w) (hl:q1M l) (hn:n=f.pm.length)
  (hp:In (fSc q3k ps) E (.slice A2 n2 c2) w) (hps:∀ x ∈ ps,0≤x∧x < n) (hpl:n2≤200) (hf:Fr E w) :
  Calls Tryz.prog 49 #[v,.slice A n c,.slice A2 n2 c2] w (Rt (qpE (qeN f ps (l.map fun x=>[ofZ x]) (List.replicate n 0))) E w):=by
 obtain ⟨A3,n3,c3,A4,n4,c4,A5,n5,c5,A6,n6,c6,rfl,h1,h2,h3,h4⟩:=q71 h;have l1:=h1.sc_len;have l2:=h2.sc_len;have l3:=h3.sc_len;have l4:=h4.sc_len;have lb:=hb.sc_len;have lp:=hp.sc_len;have hnb:=ho.n;have hbeg:=fun {w':World} {D':Nat→Prop} (hx:Ext w w') (hd:∀ k,k < w.heap.size→D' k) (hf':Fr D' w')=>q9t (D:=D') (vals:=l.map ofZ) (hT.ext hx) ((hb.sub fun k hk _=>hd k hk).ext hx) (by simp) Oq (fun i x hi=>⟨(hl x (List.mem_of_getElem? hi)).1,ofZ x,by simp [hi],q0h (hl x (List.mem_of_getElem? hi)).2⟩) hf';obtain ⟨N,hN⟩:∃ N,N=w.heap.size:=⟨_,rfl⟩;have b2:=h2.db (w':=w);have b3:=h3.db (w':=w);have b4:=h4.db (w':=w);have bp:=hp.db (w':=w);rw [← hN] at b2 b3 b4 bp;refine q0I Tryz.func49 rfl Tryz.ntmps49 (by kernel_rfl) ?_;refine q0A fun K hK=>?_;refine Zz ?_;refine q00 ?_;intro g3 w3 hg3 hx3 hb3 hs3;refine hK _ _ ?_; clear hK K;have hx:Ext w w3:=hx3;replace b2:=b2.ext hx;replace b3:=b3.ext hx;replace b4:=b4.ext hx;replace bp:=bp.ext hx;clear hx3;refine q8k (fun e' w'=>∃ (N0 g gy:Nat) (L:List Nat) (ss:List (Option Addr × Nat × Nat)),e' 3=.pointer (some ⟨g3,0,none⟩)∧e' 2=.slice A2 n2 c2∧e' 8=.slice (some ⟨g,0,none⟩) n n∧e' 9=.slice (some ⟨gy,0,none⟩) n n∧Ext w3 w'∧Sums w' (fun k=>k≠gy) L N0 g n (l.map fun x=>[ofZ x]) ss∧Own w' N 30 1 (some ⟨gy,0,none⟩) n n (List.replicate n (q2S 0))∧gy ∉ L∧g3 < N0∧N≤N0∧g3 < gy) ?_ ?_
 ·refine W_dA q0k (.one 0 (.one 2 (.one 3 (.alt (.one 1 (.one 5 (.one 4 (.one 6 .fin)))) (.one 4 (.one 1 (.one 5 (.one 6 .fin)))))))) (by kernel_rfl) fun KE wE hKE hxE=>?_;replace b2:=b2.ext hxE;replace b3:=b3.ext hxE;replace b4:=b4.ext hxE;replace bp:=bp.ext hxE;replace hb3:=hb3.ext hxE;replace hx:=hx.trans hxE;simp only [q0s] at hKE;have hlt3:=hb3.lt;have hmm:(l.map ofZ).map (fun V=>[V])=l.map fun x=>[ofZ x]:=by rw [List.map_map]; rfl
  rw [hmm] at hbeg;have hrp:List.replicate n (Value.int .u64 0)=List.replicate n (q2S 0):=rfl;have hNE:=hx.size;rw [← hN] at hNE;simp -implicitDefEqProofs (disch:=omega) only [go_sem,Nat.reduceEqDiff,Nat.reduceAdd,↓reduceIte,qdx,qdy,qi1,q9V,qcH,List.toList_toArray];refine ⟨?_,?_⟩
  ·refine q0F qd2 (hbeg (D':=fun _=>True) hx (fun _ _=>trivial) (Fr.triv _)) ?_;rintro _ w14 ⟨rfl,hx14,L,ss,hS⟩; refine ⟨_,rfl,?_⟩;refine q5I (Nat.le_refl _) Oq (by unfold maxLen; omega) fun w17 hx17 hO17 hs17=>?_;have hs14:=hx14.size;refine hKE _ _ ⟨_,_,w14.heap.size,L,ss,Ue,Ue,Ue,Ue,(hxE.trans hx14).trans hx17,(hS.sub (D':=fun k=>k≠w14.heap.size) fun k hk _=>by omega).ext hx17,hO17.mono Oq,fun hm=>?_,hlt3,hNE,by omega⟩;have:=hS.hi _ hm;omega
  ·refine q5I (Nat.le_refl _) Oq (by unfold maxLen; omega) fun w17 hx17 hO17 hs17=>?_;refine q0F qd2 (hbeg (D':=fun k=>k≠wE.heap.size) (hx.trans hx17) (fun k hk=>by omega) (fun k hk=>by omega)) ?_;rintro _ w14 ⟨rfl,hx14,L,ss,hS⟩; refine ⟨_,rfl,?_⟩;refine hKE _ _ ⟨_,_,wE.heap.size,L,ss,Ue,Ue,Ue,Ue,(hxE.trans hx17).trans hx14,hS,(hO17.mono Oq).ext hx14,fun hm=>?_,by omega,by omega,hlt3⟩;have:=hS.lo _ hm;omega
 ·rintro e0 w1 ⟨N0,g,gy,L,ss,k3,k2,k8,k9,hx1,hS,hO,hgL,hgN,hNN,hg3y⟩;replace b2:=b2.ext hx1;replace b3:=b3.ext hx1;replace b4:=b4.ext hx1;replace bp:=bp.ext hx1;replace hb3:=hb3.ext hx1;replace hx:=hx.trans hx1;refine q0B fun K0 hK0=>?_;refine Wz1 k2 ?_;refine q01 ?_;refine q09 (fun e2 w2=>∃ (i:Nat) (L:List Nat) (rows:List (List Int)) (ys:List Nat) (ss:List (Option Addr × Nat × Nat)),e2 20=.int .i64 i∧i≤n2∧Ext w w2∧Blk w2 g3 27 #[.slice A3 n3 c3,.slice A4 n4 c4,.slice A5 n5 c5,.slice A6 n6 c6]∧In (fSc q3k f.cp) (Db E N) (.slice A4 n4 c4) w2∧In (fSc q3k f.ri) (Db E N) (.slice A5 n5 c5) w2∧In (fSc q2S f.vs) (Db E N) (.slice A6 n6 c6) w2∧In (fSc q3k ps) (Db E N) (.slice A2 n2 c2) w2∧Sums w2 (fun k=>k≠gy) L N0 g n rows ss∧Own w2 N 30 1 (some ⟨gy,0,none⟩) n n (ys.map q2S)∧gy ∉ L∧RowsOk f i rows∧ys.length=n∧qeN f (ps.drop i) rows ys=qeN f ps (l.map fun x=>[ofZ x]) (List.replicate n 0)) (fun e2 _=>n2-(RowKit.intOf (e2 20)).toNat) ⟨0,L,_,_,ss,rfl,Nat.zero_le _,hx,hb3,b2,b3,b4,bp,hS,by rw [List.map_replicate]; exact hO,hgL,⟨by simp; omega,fun r hr=>?_⟩,by simp,rfl⟩ ?_
  ·rw [List.mem_map] at hr;obtain ⟨y,hy,rfl⟩:=hr;exact ⟨by simp,fun x hx=>by simp at hx; subst hx; exact q7N (hl y hy).2⟩
  clear hx hb3 b2 b3 b4 bp hS hO hgL;rintro e1 w2 ⟨i,L,rows,ys,ss,k20,hi,hx,hb3,b2,b3,b4,bp,hS,hO,hgL,hR,hys,hfw⟩ hkk;have r3:e1 3=.pointer (some ⟨g3,0,none⟩):=(hkk 3 (by kernel_rfl)).trans Ue;have r8:e1 8=.slice (some ⟨g,0,none⟩) n n:=(hkk 8 (by kernel_rfl)).trans Ue;have r9:e1 9=.slice (some ⟨gy,0,none⟩) n n:=(hkk 9 (by kernel_rfl)).trans Ue;have r18:e1 18=.slice A2 n2 c2:=(hkk 18 (by kernel_rfl)).trans Ue;have r19:e1 19=.int .i64 n2:=(hkk 19 (by kernel_rfl)).trans Ue;clear hkk
  by_cases hlt:i < n2
  ·have hlt':(i:Int) < n2:=by omega
   refine Wz3 k20 r19 hlt' ?_;refine q0B fun K1 hK1=>?_;refine Wt (q0H (hK1 _ _ ?_));clear hK1;refine q0M fun K hK=>?_;obtain ⟨x,hxi⟩:∃ x,ps[i]?=some x:=⟨_,List.getElem?_eq_getElem Oq⟩;obtain ⟨hx0,hxn⟩:=hps x (List.mem_of_getElem? hxi);obtain ⟨k,rfl⟩:∃ k:Nat,x=(k:Int):=⟨x.toNat,by omega⟩;obtain ⟨adp,rfl,ip,xp⟩:=bp.ixI hxi;obtain ⟨a,b,hcol⟩:=ho.col k Oq;obtain ⟨dx,dV,d1,d2,d3⟩:=hcol.diag;obtain ⟨ad2,rfl,i2,x2⟩:=b2.ixI hcol.ha;obtain ⟨ad4,rfl,i4,x4⟩:=b4.ixU d1;have hrl:=hR.len;obtain ⟨r,hrk⟩:∃ r,rows[k]?=some r:=⟨_,List.getElem?_eq_getElem Oq⟩;obtain ⟨s1,s2,s3⟩:=qbs hR (List.mem_of_getElem? hrk) Oq;obtain ⟨hdx,hdf⟩:=ho.vals dx (List.mem_of_getElem? d1);obtain ⟨q,hq⟩:∃ q,q=fQ 0 (q1K r) dV:=⟨_,rfl⟩;obtain ⟨D,hDq⟩:∃ D:Nat→Prop,D=fun _=>True:=⟨_,rfl⟩;have hDl:∀ k,Dl D [] k:=fun k=>⟨by rw [hDq]; trivial,by simp⟩;have hD:Fr (Dl D []) w2:=fun k _=>hDl k;have ik:(0:Int)≤(k:Int)∧(k:Int) < n:=by omega
   refine Wz4 r18 k20 ip xp ?_;refine q0B fun K2 hK2=>?_;have hqu:=fun {w:World} {v v':Value} (hT:q2a w) (h:In (fV (q1K r)) (Dl D []) v w) (h':In (fV dV) (Dl D []) v' w) (hf:Fr (Dl D []) w)=>qha hT h h' Oq hf;rw [← hq] at hqu;clear x2 x4 xp;refine q8l q0k (Kp (fun k=>k ∉ ([]:List Nat))) (fun _ _=>False) (Kp.pre _) [true,true,true,true,false,true,true,true,true,true,true,true,true,true,false,false,false,false] [false,false,false,false,false,false,false,false,false,false,false,false,false,false,false,false,false,false] [1,1,1,1,0,1,1,1,1,1,1,1,1,1,0,0,1,1] (by kernel_rfl) ?_
   apply Exists.intro
   refine ⟨fun wE hE KE hKE=>?_,fun wE hE KE hKE=>?_,fun wE hxE hr=>?_⟩
   ·skip
    replace hE:=Kp.all hE;replace hb3:=hb3.ext hE;replace b2:=b2.ext hE;replace b3:=b3.ext hE;replace b4:=b4.ext hE;replace bp:=bp.ext hE;replace hS:=hS.ext hE;replace hO:=hO.ext hE;refine Zz10 r3 r8 r9 hb3.c1 hb3.c3 i2 (inI b2 hcol.ha) i4 (inU b4 d1) ik ?_;exact hKE
   ·exact hE.elim
   simp only [q1h,q1j,q1i];replace b2:=b2.ext hxE;replace b3:=b3.ext hxE;replace b4:=b4.ext hxE;replace bp:=bp.ext hxE;replace hS:=hS.ext hxE;replace hO:=hO.ext hxE;replace hb3:=hb3.ext hxE;replace hD:=hD.kp hxE;replace hx:=hx.trans hxE;simp -implicitDefEqProofs (disch:=omega) only [go_sem,Nat.reduceEqDiff,Nat.reduceAdd,↓reduceIte,List.toList_toArray,r3,r8,r9,hb3.c1,hb3.c3,i2,(inI b2 hcol.ha),i4,(inU b4 d1),ik];refine Cr qlH (q8w (hT.ext hx) (hS.sub (D':=Dl D []) fun k _ _=>hDl k) hrk Oq s2 s3 (fun k _=>hDl k) hD) fun v28 w28 hx28 h28=>?_;replace b2:=b2.ext hx28;replace b3:=b3.ext hx28;replace b4:=b4.ext hx28;replace bp:=bp.ext hx28;replace hS:=hS.ext hx28;replace hO:=hO.ext hx28;replace hb3:=hb3.ext hx28;replace hD:=hD.kp hx28;replace hx:=hx.trans hx28;replace hr:=hr.trans (Kp.of_ext hx28);clear hx28;refine ⟨hr,?_⟩;refine Cr qaj (qdF (hT.ext hx) hdx d2 hD) fun v38 w38 hx38 h38=>?_;replace b2:=b2.ext hx38;replace b3:=b3.ext hx38;replace b4:=b4.ext hx38;replace bp:=bp.ext hx38;replace hS:=hS.ext hx38;replace hO:=hO.ext hx38;replace h28:=h28.ext hx38;replace hb3:=hb3.ext hx38;replace hD:=hD.kp hx38;replace hx:=hx.trans hx38;replace hr:=hr.trans (Kp.of_ext hx38);clear hx38;refine ⟨hr,?_⟩;refine Ck qlI (hqu (hT.ext hx) h28 h38 hD) fun w39 hx39=>?_;replace b2:=b2.ext hx39;replace b3:=b3.ext hx39;replace b4:=b4.ext hx39;replace bp:=bp.ext hx39;replace hS:=hS.ext hx39;replace hO:=hO.ext hx39;replace h28:=h28.ext hx39;replace h38:=h38.ext hx39;replace hb3:=hb3.ext hx39;replace hD:=hD.kp hx39;replace hx:=hx.trans hx39;replace hr:=hr.trans (Kp.of_ext hx39);clear hx39;refine ⟨hr,?_⟩;have hqlt:q < 18446744073709551616:=by rw [hq]; exact qae Oq
   have hyl:(ys.map q2S).length=n:=by rw [List.length_map]; exact hys
   refine q9F hO (by omega:k < n) qjB rfl rfl fun w5 hO5 hk5 hs5=>?_;replace hS:=hS.kpo hk5 (fun _ h=>h) hgL;replace b2:=b2.kpb hk5 fun k hk=>by omega
   replace b3:=b3.kpb hk5 fun k hk=>by omega
   replace b4:=b4.kpb hk5 fun k hk=>by omega
   replace bp:=bp.kpb hk5 fun k hk=>by omega
   replace hb3:=hb3.kpne hk5 Oq;replace hx:=hx.under hk5 fun k hk=>by omega
   have cy:=hO5.cell_set Oq;have hO6:Own w5 N 30 1 (some ⟨gy,0,none⟩) n n ((ys.set k q).map q2S):=by rw [List.map_set]; exact hO5
   clear hO hO5 hk5 hD;simp only [q0s];refine hK2 _ _ ?_; clear hK2;refine q0B fun K3 hK3=>?_;refine q0A fun K hK=>?_;refine Zz3 r9 ik cy ?_;refine q0F qlG (q4V hqlt) ?_;rintro _ _ ⟨rfl,rfl⟩; refine ⟨_,rfl,?_⟩;have hdr:ps.drop i=(k:Int) :: ps.drop (i+1):=by
    rw [List.drop_eq_getElem_cons (by omega)]
    congr 1
    exact Option.some.inj ((List.getElem?_eq_getElem Oq).symm.trans hxi)
   rw [hdr,q7Z hcol.ha hcol.hb d1 hrk,q1I d2,← hq] at hfw
   by_cases hfin:q0V q
   ·rw [if_pos hfin] at hfw;rw [decide_eq_true hfin];refine Zz ?_;refine hK _ _ ?_; clear hK;refine Wf (q0H (hK3 _ _ ?_));clear hK3;obtain ⟨k1,hk1⟩:∃ k1,k1=k+1:=⟨_,rfl⟩;have hcb:=hcol.hb;rw [← hk1] at hcb;have hle:=hcol.le;have hlt:=hcol.lt;have hrib:=ho.rib;have hril:=ho.ril;obtain ⟨_,hcc,i2',x2'⟩:=b2.ixI hcol.ha;cases hcc;have e1':IntKind.i64.wrap ((a:Int)+1)=((a+1:Nat):Int):=by rw [i64_in Oq (by omega)]; omega
    have e2':IntKind.i64.wrap ((k:Int)+1)=(k1:Int):=by rw [i64_in Oq (by omega)]; omega
    clear cy i2;refine Wz5 r3 hb3.c1 i2' x2' e1' ?_;refine q01 ?_;refine q09 (fun e2 w2=>∃ (p:Nat) (L:List Nat) (rows':List (List Int)) (ss:List (Option Addr × Nat × Nat)),e2 12=.int .i64 p∧a+1≤p∧p≤b∧Ext w w2∧Blk w2 g3 27 #[.slice A3 n3 c3,.slice (some ad2) n4 c4,.slice A5 n5 c5,.slice (some ad4) n6 c6]∧In (fSc q3k f.cp) (Db E N) (.slice (some ad2) n4 c4) w2∧In (fSc q3k f.ri) (Db E N) (.slice A5 n5 c5) w2∧In (fSc q2S f.vs) (Db E N) (.slice (some ad4) n6 c6) w2∧In (fSc q3k ps) (Db E N) (.slice (some adp) n2 c2) w2∧Sums w2 (fun k=>k≠gy) L N0 g n rows' ss∧Own w2 N 30 1 (some ⟨gy,0,none⟩) n n ((ys.set k q).map q2S)∧gy ∉ L∧RowsIn f i p b rows'∧qb1 f q p (b-p) rows'=qb1 f q (a+1) (b-(a+1)) rows) (fun e2 _=>b-(RowKit.intOf (e2 12)).toNat) ⟨a+1,L,rows,ss,rfl,Nat.le_refl _,hlt,hx,hb3,b2,b3,b4,bp,hS,hO6,hgL,hR.into,rfl⟩ ?_;clear hx hb3 b2 b3 b4 bp hS hO6 hgL x2' hrk hR hrl s1 s2 s3;rintro e3 w6 ⟨p,L,rows',ss,k12,hp1,hp2,hx,hb3,b2,b3,b4,bp,hS,hO,hgL,hR,hsub⟩ hkk;have q3:e3 3=.pointer (some ⟨g3,0,none⟩):=(hkk 3 (by kernel_rfl)).trans Ue;have q8:e3 8=.slice (some ⟨g,0,none⟩) n n:=(hkk 8 (by kernel_rfl)).trans Ue;have q9:e3 9=.slice (some ⟨gy,0,none⟩) n n:=(hkk 9 (by kernel_rfl)).trans Ue;have q11:e3 11=.int .i64 k:=(hkk 11 (by kernel_rfl)).trans Ue;have q20:e3 20=.int .i64 i:=(hkk 20 (by kernel_rfl)).trans Ue;clear hkk;obtain ⟨_,hcc,i2,x2⟩:=b2.ixI hcb;cases hcc
    by_cases hlt2:p < b
    ·have hlt2':(p:Int) < b:=by omega
     refine q0B fun K5 hK5=>?_;refine q0A fun K hK=>?_;simp -implicitDefEqProofs (disch:=omega) only [go_sem,Nat.reduceEqDiff,Nat.reduceAdd,↓reduceIte,k12,q3,hb3.c1,q11,e2',i2,x2,hlt2'];refine hK _ _ ?_; clear hK K;refine Wt (q0H (hK5 _ _ ?_));clear hK5;refine q0M fun K6 hK6=>?_;obtain ⟨j0,hj1,hj2,hj3⟩:=hcol.row ho.n Oq hlt2;obtain ⟨xv,hxv⟩:∃ xv,f.vs[p]?=some xv:=⟨_,List.getElem?_eq_getElem Oq⟩;obtain ⟨hv1,hv2⟩:=ho.vals xv (List.mem_of_getElem? hxv);obtain ⟨ad5,rfl,i5,x5⟩:=b3.ixI hj1;obtain ⟨_,hcc,i6,x6⟩:=b4.ixU hxv;cases hcc;have hyu:((ys.set k q).map q2S)[k]?=some (.int .u64 (q:Int)):=by rw [List.getElem?_map,List.getElem?_set_self (by omega)]; rfl
     have hrl:=hR.len;obtain ⟨r,hrk⟩:∃ r,rows'[j0]?=some r:=⟨_,List.getElem?_eq_getElem Oq⟩;have hrl2:=(hR.row j0 r hrk).1;have hgy:gy < w6.heap.size:=by
      rcases hO.form with ⟨h0,_⟩ | ⟨_,_,h0,_,hb,_⟩
      ·cases h0
      ·cases h0; exact hb.lt
     clear x2 x5 x6;obtain ⟨hmu,_⟩:=q0w hv2 hfin;refine q8l q0k (Kp (fun k=>k ∉ ([]:List Nat))) (fun _ _=>False) (Kp.pre _) [true,true,true,true,true,true,true,true,true,true,true,true,true,true,true,false] [false,false,false,false,false,false,false,false,false,false,false,false,false,false,false,false] [1,1,1,1,1,1,1,1,1,1,1,1,1,1,1,1] (by kernel_rfl) ?_
     apply Exists.intro
     refine ⟨fun wE hE KE hKE=>?_,fun wE hE KE hKE=>?_,fun wE hxE hr=>?_⟩
     ·skip
      replace hE:=Kp.all hE;replace hb3:=hb3.ext hE;replace b2:=b2.ext hE;replace b3:=b3.ext hE;replace b4:=b4.ext hE;replace bp:=bp.ext hE;replace hS:=hS.ext hE;replace hO:=hO.ext hE;refine Zz13 k12 q3 q8 q9 q11 hb3.c2 hb3.c3 i5 (inI b3 hj1) i6 (inU b4 hxv) ik (owG hO hyu) ?_;exact hKE
     ·exact hE.elim
     simp only [q1h,q1j,q1i];replace b2:=b2.ext hxE;replace b3:=b3.ext hxE;replace b4:=b4.ext hxE;replace bp:=bp.ext hxE;replace hS:=hS.ext hxE;replace hO:=hO.ext hxE;replace hb3:=hb3.ext hxE;replace hx:=hx.trans hxE;clear hr;simp -implicitDefEqProofs (disch:=omega) only [go_sem,Nat.reduceEqDiff,Nat.reduceAdd,↓reduceIte,List.toList_toArray,k12,q3,q8,q9,q11,hb3.c2,hb3.c3,i5,(inI b3 hj1),i6,(inU b4 hxv),ik,(owG hO hyu)];have hw':=hxE.size;refine q0F qlF (q5B (hT.ext hx) hS hrk hv1 hqlt (q0h hv2) (q0h hfin) hmu Oq (fun k hk=>by omega)) ?_;rintro _ w7 ⟨rfl,hk7,L',ss',hL1,hL2,hS7⟩; refine ⟨_,rfl,?_⟩;have hlo:∀ j,j < N→j ∉ L:=fun j hj hm=>by have:=hS.lo j hm; omega
     replace b2:=b2.kpb hk7 hlo;replace b3:=b3.kpb hk7 hlo;replace b4:=b4.kpb hk7 hlo;replace bp:=bp.kpb hk7 hlo;replace hb3:=hb3.kp hk7 fun hm=>by have:=hS.lo _ hm; omega
     replace hx:=hx.under hk7 fun j hj=>hlo j Oq;replace hO:=hO.kp hk7 fun a ha=>by cases ha; exact hgL
     have hgL7:gy ∉ L':=fun hm=>by
      rcases hL2 _ hm with h | h
      ·exact hgL h
      ·omega
     simp only [q0s,qkD];refine hK6 _ _ ?_; clear hK6;refine q0Q fun K9 hK9=>?_;refine Zz2 k12 @i64_in ?_;refine hK9 _ _ ?_; clear hK9 K9;refine ⟨⟨p+1,L',_,ss',rfl,by omega,by omega,hx,hb3,b2,b3,b4,bp,hS7,hO,hgL7,hR.step hcol Oq hlt2 hj1 hrk hv2 hfin,?_⟩,by simp only [q0E,↓reduceIte,RowKit.intOf,k12]; omega⟩;rw [← hsub,show b-p=(b-(p+1))+1 by omega,q7D hj1 hxv hrk]
    ·have hlt2':¬ (p:Int) < b:=by omega
     refine q0B fun K5 hK5=>?_;refine q0A fun K hK=>?_;simp -implicitDefEqProofs (disch:=omega) only [go_sem,Nat.reduceEqDiff,Nat.reduceAdd,↓reduceIte,k12,q3,hb3.c1,q11,e2',i2,x2,hlt2'];refine hK _ _ ?_; clear hK K;refine Wf (q03 (hK _ _ ?_));obtain rfl:p=b:=by omega
     rw [Nat.sub_self] at hsub;rw [← hsub] at hfw;refine q0Q fun K9 hK9=>?_;refine Zz2 q20 @i64_in ?_;refine hK9 _ _ ?_; clear hK9 K9;exact ⟨⟨i+1,L,rows',ys.set k q,ss,rfl,by omega,hx,hb3,b2,b3,b4,bp,hS,hO,hgL,hR.out,by rw [List.length_set]; exact hys,hfw⟩,by simp only [q0E,↓reduceIte,RowKit.intOf,k20]; omega⟩
   ·rw [if_neg hfin] at hfw;rw [decide_eq_false hfin];refine Zz ?_;refine hK _ _ ?_; clear hK;refine Wt ?_;refine Wz ?_;refine q0N ?_
    try simp only [q0D,q0O]
    refine q8L rfl ⟨_,rfl,hx,by rw [← hfw]; exact ⟨_,_,rfl,by simp only [q0E,Nat.reduceEqDiff,↓reduceIte]; exact In.sc_nil,by simp only [q0E,Nat.reduceEqDiff,↓reduceIte]; exact rfl⟩⟩
  ·have hlt':¬ (i:Int) < n2:=by omega
   refine Wz3 k20 r19 hlt' ?_;refine q0B fun K1 hK1=>?_;refine Wf (q03 (hK0 _ _ ?_));obtain rfl:i=n2:=by omega
   rw [List.drop_of_length_le (by omega)] at hfw;rw [← hfw];refine Wz1 r9 ?_;refine q0N ?_
   try simp only [q0D,q0O]
   refine q8L rfl ⟨_,rfl,hx,⟨_,_,rfl,by simp only [q0E,Nat.reduceEqDiff,↓reduceIte]; exact qjm hO fun k hk=>hf k Oq,by simp only [q0E,Nat.reduceEqDiff,↓reduceIte]; exact rfl⟩⟩
theorem nz_V {V:Int}:Nz (pV V):=fun w D B v hB h=>by
 obtain ⟨s,A,n,c,rfl,⟨h1,h2⟩,h3⟩:=q6S h;refine q8M ⟨s,A,n,c,rfl,⟨h1,⟨h2.1.cap,h2.1.len,fun hx=>?_⟩,h2.2⟩,h3⟩;obtain ⟨ad,hA,hd,hcell⟩:=h2.1.at_ hx;refine ⟨ad,hA,⟨hd,fun hb=>?_⟩,hcell⟩;obtain ⟨cs,T,hb,hc⟩:=hB _ hb;obtain ⟨x,hx0⟩:∃ x,((lim (od V).natAbs).map q6r)[0]?=some x:=⟨_,List.getElem?_eq_getElem hx⟩;have h1:=hcell 0 x hx0;have h2:∃ d:Int,x=.int .u32 d:=by
  rw [List.getElem?_map] at hx0;cases hl:(lim (od V).natAbs)[0]? with
  | none=>rw [hl] at hx0; cases hx0
  | some d=>rw [hl] at hx0; exact ⟨_,(Option.some.inj hx0).symm⟩
 obtain ⟨d,rfl⟩:=h2;have h3:w.heap[ad.block]?=some (.cells cs T (0,0)):=hb;have h4:(ad.add 0).block=ad.block:=q1H ad 0;unfold World.cell? at h1;rw [h4,h3] at h1;simp only at h1
 split at h1
 ·cases h1
 ·have:=hc _ (Array.mem_toList_iff.2 (Array.mem_of_getElem? h1));cases this
abbrev pVs (l:List Int):PV:=.sl (some 4) (l.map fun V=>pV V)
theorem clV {l:List Int}:ClL (l.map fun V=>pV V):=fun x hx=>by
 obtain ⟨e,_,rfl⟩:=List.mem_map.1 hx
 trivial
theorem qkp {l:List Int} (hn:l.length≤1000) (hv:q0i (q1K l)):ACt 95 [pVs l] (pV (q1K l)):=⟨by kernel_rfl,fun D w vs hT hF hR=>by
 refine (qkh hn (fun x hx=>?_) hv).2 D w vs hT hF hR;obtain ⟨_,rfl,h3⟩:=qhN hR;obtain ⟨i,hi⟩:=List.mem_iff_getElem?.1 hx;unfold Rd at h3;obtain ⟨_,_,_,us,_,_,_,h5,_⟩:=h3;obtain ⟨v,_,hr⟩:=h5.get (show (l.map fun V=>pV V)[i]?=some (pV x) by simp [hi]);exact ((q4X (ρ:=fun _=>none) (h:=h0)).2 (q6S hr)).2⟩
theorem qdC {mode V:Int}:fR mode V < 18446744073709551616:=by
 unfold fR
 split
 ·omega
 ·exact qoA (by omega) (by exact Nat.two_pow_pos 65536)
theorem TOk.fin {f:Nat→Nat→Option Nat} {R C j i:Nat} (h:TOk f R C) (hj:j < C) (hi:i < R):q0V ((f j i).getD 0)∧(f j i).getD 0 < 18446744073709551616:=by
 cases hx:f j i with
 | none=>exact ⟨by unfold q0V; simp,by simp⟩
 | some x=>exact ⟨h.v j i x hj hi hx,h.u j i x hj hi hx⟩
theorem qgy {l:List Int} (h:∀ x ∈ l,bl x.natAbs≤67600) (hl:l.length≤1024):q0i (q1K l):=by
 have:=q8D h hl;rw [List.take_length] at this;unfold q0i;omega
abbrev tbH (N R n m:Nat) (g:Nat→Nat→Bool):Hp:=qmM 23 4 N R n m g




def elH (n:Nat) (g:Nat→Nat→Bool) (gn:Nat→Bool):Hp:=fun i=>if i=5000 then some ⟨220,some 2,[.ag [.ow 5002 none 0 n,.ow 5001 none 0 n]],false⟩ else if i=5001 then some ⟨4,none,(List.range n).map fun c=>bv (gn c),false⟩ else tbH 5002 20000 n n g i
section
variable {n:Nat} {g g':Nat→Nat→Bool} {gn gn':Nat→Bool} {h:Hp}
theorem elH_0:elH n g gn 5000=some ⟨220,some 2,[.ag [.ow 5002 none 0 n,.ow 5001 none 0 n]],false⟩:=rfl
theorem elH_1:elH n g gn 5001=some ⟨4,none,(List.range n).map fun c=>bv (gn c),false⟩:=rfl
theorem elH_2:elH n g gn 5002=some ⟨23,none,(List.range n).map fun j=>.ow (j+20000) none 0 n,false⟩:=rfl
theorem elH_r {j:Nat} (hj:j < n):elH n g gn (j+20000)=some ⟨4,none,(List.range n).map fun c=>bv (g j c),false⟩:=by
 unfold elH;rw [if_neg (by omega),if_neg (by omega)];exact qgv (by omega) hj
theorem qpK {i:Nat} (hi:i < 5000):elH n g gn i=none:=by
 unfold elH;rw [if_neg (by omega),if_neg (by omega)];exact qnG (by omega) (.inl (by omega))
attribute [go_sem ↓] elH_0 elH_1 elH_2 elH_r qpK
end
theorem ag243:q0g Tryz.prog 220=some (some 2):=by kernel_rfl
attribute [go_sem] ag243

end Go.Proofs.YtbcmhlhgljoolaaGreatDoor
namespace Go.E
open Go Go.RowKit
section
variable {P:Program} {J:Nat→Prop} {s:Nat→PV} {h hw:Hp} {τ:Nat→Option Nat} {T1 T2:TypeId} {N R n k m:Nat} {g:Nat→Nat→Nat}
def tabU (T1 T2:TypeId) (N R n k m:Nat) (g:Nat→Nat→Nat):Hp:=fun i =>
 if i=N then some ⟨T1,none,(List.range n).map fun j=>if j < k then .ow (j+R) none 0 m else .vl (.slice none 0 0),false⟩
 else if R≤i∧i < R+k then some ⟨T2,none,(List.range m).map fun c=>.vl (.int .u64 (g (i-R) c:Nat)),false⟩ else none
theorem qnF:tabU T1 T2 N R n k m g N=some ⟨T1,none,(List.range n).map fun j=>if j < k then .ow (j+R) none 0 m else .vl (.slice none 0 0),false⟩:=if_pos rfl
theorem qnE {j:Nat} (hN:N < R) (hj:j < k):tabU T1 T2 N R n k m g (j+R)=some ⟨T2,none,(List.range m).map fun c=>.vl (.int .u64 (g j c:Nat)),false⟩:=by
 unfold tabU;rw [if_neg (by omega),if_pos (by omega),Nat.add_sub_cancel]
attribute [go_sem ↓] qnF qnE
def lset (g:Nat→Nat→Nat) (r c v:Nat):Nat→Nat→Nat:=fun x y=>if x=r∧y=c then v else g x y
def tnU (N o:Nat):Nat→Option Nat:=fun i=>if i=N then some o else some i
theorem qmx {o i:Nat}:tnU N o i=if i=N then some o else some i:=rfl
attribute [go_sem ↓] qmx
end
end Go.E
namespace Go.Proofs.YtbcmhlhgljoolaaGreatDoor
open Go Go.E Go.Sp
abbrev LSt:=(Nat→Nat→Nat) × List Int × List Nat
def q4k (f:List Int × List Int × List Int × List Nat):PV:=.ag [pI f.1,pI f.2.1,pI f.2.2.1,pF f.2.2.2]
section
variable {F:Nat→Nat→Option Nat} {l:List Int} {cs:List Nat} {cols:List (List Nat)} {j n:Nat} {p:LSt}
structure LGd (n:Nat) (q:LSt):Prop where
 fin:∀ r c,q0V (q.1 r c)∧q.1 r c < 18446744073709551616
 len:q.2.1.length=q.2.2.length
theorem LGd.step {q:LSt} (h:LGd n q) {r c v:Nat} (hv:q0V v∧v < 18446744073709551616) {x:Int}:LGd n (lset q.1 r c v,q.2.1 ++ [x],q.2.2 ++ [v]):=by
 refine ⟨fun r' c'=>?_,by simp [h.len]⟩;unfold lset;simp only
 split
 ·exact hv
 ·exact h.fin r' c'
end
end Go.Proofs.YtbcmhlhgljoolaaGreatDoor
namespace Go.E
open Go Go.RowKit
end Go.E
namespace Go.Proofs.YtbcmhlhgljoolaaGreatDoor
open Go Go.E Go.Sp
open Classical in
theorem qc8 {l:List Int} (hl:l.length≤1000000):ACt 115 [pI l] (bv (decide (qgh l l.length))):=by
 refine ac0 Tryz.func115 Tryz.ntmps115 [.tmp 2] ?_;refine wk ?_;refine q0T (fun i=>i≤l.length∧(∀ x ∈ l.take i,0≤x∧x < l.length)∧(l.take i).Nodup) [0,9,10] [] Lk Lk (fun i:Nat=>[(11,iv i),(3,.ow 1001 none 0 l.length)]) (fun i=>[(1001,⟨4,none,(q54 l i).map fun z=>bv z,false⟩)]) (fun i=>l.length-i) 0 ⟨Nat.zero_le _,by simp,by simp⟩ ?_ ?_
 ·refine LeM [(1001,some 8)] rfl rfl ?_;refine Zz ?_;exact ⟨rfl,qnj⟩
 ·rintro i ⟨hi,hr,hd⟩
  by_cases hlt:i < l.length
  ·have hlt':(i:Int) < l.length:=by omega
   obtain ⟨x,hx⟩:∃ x,l[i]?=some x:=⟨_,List.getElem?_eq_getElem hlt⟩;have hmem:=List.mem_of_getElem? hx;have ht:=q5d hx;refine wk1 (x2 hlt' hx) ?_
   by_cases hx0:x < 0
   ·refine wk1 hx0 ?_;exact (decide_eq_false fun h=>by have:=(h.2.1 x hmem).1; omega).symm
   ·obtain ⟨k,rfl⟩:∃ k:Nat,x=k:=⟨x.toNat,by omega⟩
    by_cases hxn:(l.length:Int)≤k
    ·refine wk1 (x2 hx0 hxn) ?_;exact (decide_eq_false fun h=>by have:=(h.2.1 _ hmem).2; omega).symm
    ·have hk:k < l.length:=by omega
     have hs:=qen (i:=i) hk
     by_cases hm:(k:Int) ∈ l.take i
     ·refine wk1 (x4 hx0 hxn hs hm) ?_;refine (decide_eq_false fun h=>?_).symm;have:=(h.2.2.sublist (List.take_sublist (i+1) l));rw [ht,List.nodup_append] at this;exact this.2.2 _ hm _ (by simp) rfl
     ·refine wk1 (x6 hx0 hxn hs hm hx @qem) ?_;refine ⟨i+1,⟨by omega,?_,?_⟩,by omega,?_⟩
      ·rw [ht];intro y hy
       rcases List.mem_append.1 hy with hy | hy
       ·exact hr y hy
       ·simp at hy; subst hy; omega
      ·rw [ht,List.nodup_append];exact ⟨hd,by simp,fun a ha b hb=>by simp at hb; subst hb; exact fun e=>hm (e ▸ ha)⟩
      ·refine LeM [] rfl rfl ?_;refine Zz ?_;exact ⟨by omega,qel hx⟩
  ·have hlt':¬ (i:Int) < l.length:=by omega
   refine wk1 hlt' ?_;have hil:i=l.length:=by omega
   rw [hil,List.take_length] at hr hd;exact (decide_eq_true ⟨rfl,hr,hd⟩).symm
structure CoC (n j:Nat) (col:List Int):Prop where
 f:col[0]?=some (j:Int)
 l:∀ z,col[col.length-1]?=some z→z < n
 m:∀ (i:Nat) (x y:Int),col[i]?=some x→col[i+1]?=some y→x < y
structure FStr (n:Nat) (cp ri:List Int):Prop where
 c0:cp[0]?=some 0
 cn:cp[n]?=some (ri.length:Int)
 col:∀ j,j < n→∃ a b:Nat,cp[j]?=some (a:Int)∧cp[j+1]?=some (b:Int)∧a≤b∧b≤ri.length∧CoC n j ((ri.take b).drop a)
open Classical in
theorem q6I {pm cp ri:List Int} {vs:List Nat} {n:Nat} (hn:pm.length=n) (hn2:n≤200) (hcl:cp.length=n+1) (hri:ri.length≤1000000):ACt 116 [q4k (pm,cp,ri,vs)] (bv (decide (FStr n cp ri))):=by
 have no:∀ {p:Prop},¬ FStr n cp ri→decide (FStr n cp ri)=false:=fun h=>decide_eq_false h;obtain ⟨res,hres⟩:∃ res,res=decide (FStr n cp ri):=⟨_,rfl⟩;rw [← hres];have rF:¬ FStr n cp ri→res=false:=fun h=>by rw [hres]; exact decide_eq_false h
 have rT:FStr n cp ri→res=true:=fun h=>by rw [hres]; exact decide_eq_true h
 clear hres no;obtain ⟨x0,hx0⟩:∃ x,cp[0]?=some x:=⟨_,List.getElem?_eq_getElem (by omega)⟩;obtain ⟨xn,hxn⟩:∃ x,cp[n]?=some x:=⟨_,List.getElem?_eq_getElem (by omega)⟩;unfold q4k;subst hn;refine ac0 Tryz.func116 Tryz.ntmps116 [.tmp 2] ?_;refine wk ?_
 by_cases h0:x0=0
 case neg =>
  have e1:(x0 != 0)=true:=by simpa using h0
  refine wk1 (x2 hx0 e1) ?_;rw [rF fun h=>h0 (Option.some.inj (hx0.symm.trans h.c0))]
 subst h0;have e1:((0:Int) != 0)=false:=rfl
 by_cases hn0:xn=ri.length
 case neg =>
  have e2:(xn != (ri.length:Int))=true:=by simpa using hn0
  refine wk1 (x4 hx0 e1 hxn e2) ?_;rw [rF fun h=>hn0 (Option.some.inj (hxn.symm.trans h.cn))]
 subst hn0;have e2:((ri.length:Int) != (ri.length:Int))=false:=by simp
 refine wk1 (x4 hx0 e1 hxn e2) ?_;refine q0T (fun j=>j≤pm.length∧(∃ a:Nat,cp[j]?=some (a:Int))∧∀ j',j' < j→∃ a b:Nat,cp[j']?=some (a:Int)∧cp[j'+1]?=some (b:Int)∧a≤b∧b≤ri.length∧CoC pm.length j' ((ri.take b).drop a)) [1,3,26] [1] Lk Lk (fun j:Nat=>[(27,iv j)]) (fun _=>[]) (fun j=>pm.length-j) 0 ⟨Nat.zero_le _,⟨0,hx0⟩,by omega⟩ ?_ ?_
 ·refine LeM [] rfl rfl ?_;refine Zz ?_
  rfl
 ·rintro j ⟨hj,⟨a,ha⟩,hr⟩
  by_cases hlt:j < pm.length
  ·have hlt':(j:Int) < pm.length:=by omega
   obtain ⟨y,hy⟩:∃ y,cp[j+1]?=some y:=⟨_,List.getElem?_eq_getElem (by omega)⟩;have w1:IntKind.i64.wrap ((j:Int)+1)=((j+1:Nat):Int):=by rw [i64_in (by omega) (by omega)]; omega
   have bad:(∀ b:Nat,y=b→a≤b→b≤ri.length→¬ CoC pm.length j ((ri.take b).drop a))→res=false:=fun h=>rF fun hS=>by
    obtain ⟨a',b',h1,h2,h3,h4,h5⟩:=hS.col j hlt;rw [ha] at h1; rw [hy] at h2;have:a'=a:=by have:=Option.some.inj h1; omega
    subst this;exact h b' (Option.some.inj h2) h3 h4 h5
   refine wk1 hlt' ?_
   by_cases hay:(a:Int) > y
   ·refine wk1 (x4 ha hy w1 hay) ?_;rw [bad fun b hb h1 _=>by omega]
   by_cases hyr:y > (ri.length:Int)
   ·refine wk1 (x5 ha hy w1 hay hyr) ?_;rw [bad fun b hb _ h1=>by omega]
   obtain ⟨b,rfl⟩:∃ b:Nat,y=b:=⟨y.toNat,by omega⟩;have bad2:¬ CoC pm.length j ((ri.take b).drop a)→res=false:=fun h=>bad fun b' hb _ _=>by
    have:b'=b:=by omega
    subst this; exact h
   clear bad;refine wk1 (x5 ha hy w1 hay hyr) ?_;have es:slP (some 1) (some (iv (a:Int))) (some (iv (b:Int))) (pI ri)=some (pI ((ri.take b).drop a)):=by
    simp [slP,qiS,ksz,List.map_take,List.map_drop];omega
   have hcl2:((ri.take b).drop a).length=b-a:=by simp; omega
   generalize hcol:(ri.take b).drop a=col at bad2 es hcl2;refine wk1 (x4 ha hy w1 es) ?_
   by_cases hl0:col.length=0
   ·have e3:((col.length:Int) == 0)=true:=by simp [hl0]
    refine wk1 e3 ?_;rw [bad2 fun h=>by have:=h.f; rw [List.getElem?_eq_none (by omega)] at this; cases this]
   have e3:((col.length:Int) == 0)=false:=by simpa using hl0
   obtain ⟨c0,hc0⟩:∃ x,col[0]?=some x:=⟨_,List.getElem?_eq_getElem (by omega)⟩;obtain ⟨cl,hcl3⟩:∃ x,col[col.length-1]?=some x:=⟨_,List.getElem?_eq_getElem (by omega)⟩;have wl:IntKind.i64.wrap ((col.length:Int)-1)=((col.length-1:Nat):Int):=by rw [i64_in (by omega) (by omega)]; omega
   by_cases h0:c0=j
   case neg =>
    have e4:(c0 != (j:Int))=true:=by simpa using h0
    refine wk1 (x3 e3 hc0 e4) ?_;rw [bad2 fun h=>h0 (Option.some.inj (hc0.symm.trans h.f))]
   subst h0;have e4:((j:Int) != (j:Int))=false:=by simp
   by_cases hge:(pm.length:Int)≤cl
   ·refine wk1 (x6 e3 hc0 e4 wl hcl3 hge) ?_;rw [bad2 fun h=>by have:=h.l _ hcl3; omega]
   refine wk1 (x6 e3 hc0 e4 wl hcl3 hge) ?_;refine q0T (fun i=>1≤i∧i≤col.length∧∀ (k:Nat) (x y:Int),k+1 < i→col[k]?=some x→col[k+1]?=some y→x < y) [1,3,4,5,26,27] [1] Lk Lk (fun i:Nat=>[(6,iv i)]) (fun _=>[]) (fun i=>col.length-i) 1 ⟨Nat.le_refl _,by omega,by omega⟩ ?_ ?_
   ·refine LeM [] rfl rfl ?_;refine Zz ?_
    rfl
   ·rintro i ⟨hi1,hi2,hm⟩
    by_cases hil:i < col.length
    ·have hil':(i:Int) < col.length:=by omega
     obtain ⟨x,hx⟩:∃ x,col[i-1]?=some x:=⟨_,List.getElem?_eq_getElem (by omega)⟩;obtain ⟨y,hy2⟩:∃ x,col[i]?=some x:=⟨_,List.getElem?_eq_getElem (by omega)⟩;have wi:IntKind.i64.wrap ((i:Int)-1)=((i-1:Nat):Int):=by rw [i64_in (by omega) (by omega)]; omega
     have wj:IntKind.i64.wrap ((i:Int)+1)=((i+1:Nat):Int):=by rw [i64_in (by omega) (by omega)]; omega
     refine wk1 hil' ?_
     by_cases hxy:y≤x
     ·refine wk1 (x4 hx hy2 wi hxy) ?_;rw [bad2 fun h=>by
       have:=h.m (i-1) x y hx (by rw [show i-1+1=i by omega]; exact hy2);omega]
     ·refine wk1 (x5 hx hy2 wi hxy wj) ?_;refine ⟨i+1,⟨by omega,by omega,?_⟩,by omega,?_⟩
      ·intro k u v hk hu hv
       by_cases hki:k+1 < i
       ·exact hm k u v hki hu hv
       ·obtain rfl:k=i-1:=by omega
        rw [show i-1+1=i by omega] at hv;have h1:=Option.some.inj (hx.symm.trans hu);have h2:=Option.some.inj (hy2.symm.trans hv);omega
      ·refine LeM [] rfl rfl ?_;exact Zy
    ·have hil':¬ (i:Int) < col.length:=by omega
     refine wk1 (x2 hil' w1) ?_;refine ⟨j+1,⟨by omega,⟨b,hy⟩,?_⟩,by omega,?_⟩
     ·intro j' hj'
      by_cases hjj:j' < j
      ·exact hr j' hjj
      ·obtain rfl:j'=j:=by omega
       refine ⟨a,b,ha,hy,by omega,by omega,?_⟩;rw [hcol];refine ⟨hc0,fun z hz=>by have:=Option.some.inj (hcl3.symm.trans hz); omega,fun k u v hu hv=>?_⟩;have hk:k+1 < col.length:=(List.getElem?_eq_some_iff.1 hv).1;exact hm k u v (by omega) hu hv
     ·refine LeM [] rfl rfl ?_;exact Zy
  ·have hlt':¬ (j:Int) < pm.length:=by omega
   obtain rfl:pm.length=j:=by omega
   refine wk1 hlt' ?_;exact (rT ⟨hx0,hxn,hr⟩).symm
def FDg (n:Nat) (cp:List Int) (vs:List Nat):Prop:=∀ j,j < n→∀ (a x:Nat),cp[j]?=some (a:Int)→vs[a]?=some x→0 < ofZ x
open Classical in
noncomputable def q6t (f:List Int × List Int × List Int × List Nat):Int :=
 if f.1.length > 200 then 6 else if ¬ qgh f.1 f.1.length then 90 else if f.2.1.length≠f.1.length+1∨f.2.2.1.length≠f.2.2.2.length then 2 else if ¬ FStr f.1.length f.2.1 f.2.2.1 then 240 else if (∀ x ∈ f.2.2.2,q0V x)∧FDg f.1.length f.2.1 f.2.2.2 then 0 else 4
open Classical in
theorem q9l {pm cp ri:List Int} {vs:List Nat} (hp:pm.length≤1000000) (hc:cp.length≤1000000) (hr:ri.length≤1000000) (hv:vs.length≤1000000) (hu:∀ x ∈ vs,x < 18446744073709551616):ACt 44 [q4k (pm,cp,ri,vs)] (iv (q6t (pm,cp,ri,vs))):=by
 obtain ⟨res,hres⟩:∃ res,res=q6t (pm,cp,ri,vs):=⟨_,rfl⟩;rw [← hres];unfold q6t at hres;dsimp only at hres;unfold q4k;dsimp only;refine ac0 Tryz.func44 Tryz.ntmps44 [.tmp 2] ?_;refine wk ?_
 by_cases h1:pm.length > 200
 ·rw [if_pos h1] at hres;have h1':(pm.length:Int) > 200:=by omega
  refine wk1 h1' ?_;exact hres.symm
 have h1':¬ (pm.length:Int) > 200:=by omega
 rw [if_neg h1] at hres;refine wk1 h1' ?_;have cP:=qc8 hp
 by_cases h2:qgh pm pm.length
 case neg =>
  rw [if_pos h2] at hres;rw [decide_eq_false h2] at cP;refine wk ?_;exact hres.symm
 rw [if_neg (not_not_intro h2)] at hres;rw [decide_eq_true h2] at cP;refine wk ?_;have w1:IntKind.i64.wrap ((pm.length:Int)+1)=((pm.length+1:Nat):Int):=by rw [i64_in (by omega) (by omega)]; omega
 by_cases h3:cp.length≠pm.length+1∨ri.length≠vs.length
 ·rw [if_pos h3] at hres
  by_cases h4:cp.length=pm.length+1
  ·have e1:((cp.length:Int) != ((pm.length+1:Nat):Int))=false:=by simp; omega
   have e2:((ri.length:Int) != (vs.length:Int))=true:=by simp; omega
   refine wk1 (x3 w1 e1 e2) ?_;exact hres.symm
  ·have e1:((cp.length:Int) != ((pm.length+1:Nat):Int))=true:=by simp; omega
   refine wk1 (x2 w1 e1) ?_;exact hres.symm
 rw [if_neg h3] at hres;have h4:cp.length=pm.length+1:=by omega
 have h5:ri.length=vs.length:=by omega
 have e1:((cp.length:Int) != ((pm.length+1:Nat):Int))=false:=by simp; omega
 have e2:((ri.length:Int) != (vs.length:Int))=false:=by simp; omega
 refine wk1 (x3 w1 e1 e2) ?_;have cS:=q6I (vs:=vs) (rfl:pm.length=_) (by omega) h4 hr;unfold q4k at cS;dsimp only at cS
 by_cases h6:FStr pm.length cp ri
 case neg =>
  rw [if_pos h6] at hres;rw [decide_eq_false h6] at cS;refine wk ?_;exact hres.symm
 rw [if_neg (not_not_intro h6)] at hres;rw [decide_eq_true h6] at cS;refine wk ?_;refine q8p [1,3,39,40,41] Lk ?_;have bad:¬ ((∀ x ∈ vs,q0V x)∧FDg pm.length cp vs)→res=4:=fun h=>by rw [hres,if_neg h]
 have good:((∀ x ∈ vs,q0V x)∧FDg pm.length cp vs)→res=0:=fun h=>by rw [hres,if_pos h]
 clear hres;refine q0T (fun i=>i≤vs.length∧∀ x ∈ vs.take i,q0V x) [1,3,39,40] [1] Lk Lk (fun i:Nat=>[(41,iv i)]) (fun _=>[]) (fun i=>vs.length-i) 0 ⟨Nat.zero_le _,by simp⟩ ?_ ?_
 ·refine LeM [] rfl rfl ?_;refine Zz ?_
  rfl
 ·rintro i ⟨hi,hf⟩
  by_cases hil:i < vs.length
  ·have hil':(i:Int) < vs.length:=by omega
   obtain ⟨x,hx⟩:∃ x,vs[i]?=some x:=⟨_,List.getElem?_eq_getElem hil⟩;have hm:=List.mem_of_getElem? hx;have cF:=q4M (hu x hm)
   by_cases hfx:q0V x
   case neg =>
    rw [decide_eq_false hfx] at cF;refine wk1 hx ?_;exact (bad fun h=>hfx (h.1 x hm)).symm
   rw [decide_eq_true hfx] at cF;refine wk1 hx ?_;refine ⟨i+1,⟨by omega,?_⟩,by omega,?_⟩
   ·rw [q5d hx];intro y hy
    rcases List.mem_append.1 hy with hy | hy
    ·exact hf y hy
    ·simp at hy; subst hy; exact hfx
   ·refine LeM [] rfl rfl ?_;refine Zz ?_
    rfl
  ·have hil':¬ (i:Int) < vs.length:=by omega
   obtain rfl:vs.length=i:=by omega
   rw [List.take_length] at hf;refine wk1 hil' ?_;refine q0T (fun j=>j≤pm.length∧∀ j',j' < j→∀ (a x:Nat),cp[j']?=some (a:Int)→vs[a]?=some x→0 < ofZ x) [1,3,49] [1] Lk Lk (fun i:Nat=>[(50,iv i)]) (fun _=>[]) (fun i=>pm.length-i) 0 ⟨Nat.zero_le _,by omega⟩ ?_ ?_
   ·refine LeM [] rfl rfl ?_;refine Zz ?_
    rfl
   ·rintro j ⟨hj,hd⟩
    by_cases hjl:j < pm.length
    ·have hjl':(j:Int) < pm.length:=by omega
     obtain ⟨a,b,ha,hb,hab,hbr,hcol⟩:=h6.col j hjl;have hal:a < vs.length:=by
      have:=(List.getElem?_eq_some_iff.1 hcol.f).1;simp at this;omega
     obtain ⟨x,hx⟩:∃ x,vs[a]?=some x:=⟨_,List.getElem?_eq_getElem hal⟩;have hm:=List.mem_of_getElem? hx;have wj:IntKind.i64.wrap ((j:Int)+1)=((j+1:Nat):Int):=by rw [i64_in (by omega) (by omega)]; omega
     have cO:=q2m (hu x hm) (q0h (hf x hm))
     by_cases hs:(ofZ x).sign≤0
     ·have C1:=(q2U (fOk (q0h (hf x hm))));refine wk1 (x3 ha hx hs) ?_;refine (bad fun h=>?_).symm;have:=Int.sign_eq_one_of_pos (h.2 j hjl a x ha hx);omega
     ·have C2:=(q2U (fOk (q0h (hf x hm))));refine wk1 (x4 ha hx hs wj) ?_;refine ⟨j+1,⟨by omega,?_⟩,by omega,?_⟩
      ·intro j' hj' a' x' h1 h2
       by_cases hjj:j' < j
       ·exact hd j' hjj a' x' h1 h2
       ·obtain rfl:j'=j:=by omega
        have e:a'=a:=by have:=Option.some.inj (h1.symm.trans ha); omega
        subst e;have e:=Option.some.inj (h2.symm.trans hx);subst e;exact Int.sign_pos_iff.1 (by omega)
      ·refine LeM [] rfl rfl ?_;exact Zy
    ·have hjl':¬ (j:Int) < pm.length:=by omega
     obtain rfl:pm.length=j:=by omega
     refine wk1 hjl' ?_;exact (good ⟨hf,hd⟩).symm
theorem qhK {w:World} {D:Nat→Prop} {ρ:Nat→Option Nat} {h:Hp} {v:Value} {pm cp ri:List Int} {vs:List Nat} (hr:Rd w D (q4k (pm,cp,ri,vs)) ρ h v):In (fFac ⟨pm,cp,ri,vs⟩) D v w:=by
 unfold q4k Rd at hr;obtain ⟨l,rfl,h1⟩:=hr;obtain ⟨_,_,_,_,rfl,h1,h2,h3,h4⟩:=rd_4 h1;obtain ⟨A1,n1,c1,rfl,i1⟩:=q7J (f:=q3k) h1;obtain ⟨A2,n2,c2,rfl,i2⟩:=q7J (f:=q3k) h2;obtain ⟨A3,n3,c3,rfl,i3⟩:=q7J (f:=q3k) h3;obtain ⟨A4,n4,c4,rfl,i4⟩:=q7J (f:=q2S) h4;exact ⟨_,_,_,_,rfl,i1,i2,i3,i4⟩
theorem q6H {l:List Int} {a b p:Nat} (h:a+p < b):((l.take b).drop a)[p]?=l[a+p]?:=by
 rw [List.getElem?_drop,List.getElem?_take,if_pos h]
theorem q9d {pm cp ri:List Int} {vs:List Nat} (h:q6t (pm,cp,ri,vs)=0) (hr:ri.length≤1000000) (hu:∀ x ∈ vs,x < 18446744073709551616):FacOk ⟨pm,cp,ri,vs⟩:=by
 unfold q6t at h;dsimp only at h
 split at h
 ·cases h
 split at h
 ·cases h
 split at h
 ·cases h
 split at h
 ·cases h
 split at h
 case isFalse=>cases h
 rename_i h1 h2 h3 h4 h5;obtain ⟨h5,h6⟩:=h5;have h2:=Classical.not_not.1 h2;have h4:=Classical.not_not.1 h4;refine ⟨⟨fun x hx=>h2.2.1 x hx,h2.2.2⟩,by dsimp only; omega,by dsimp only; omega,by dsimp only; omega,hr,h4.c0,h4.cn,fun j hj=>?_,fun x hx=>⟨hu x hx,h5 x hx⟩⟩;obtain ⟨a,b,ha,hb,hab,hbr,hc⟩:=h4.col j hj;have hl:((ri.take b).drop a).length=b-a:=by simp; omega
 have hlt:a < b:=by
  have:=(List.getElem?_eq_some_iff.1 hc.f).1;omega
 refine ⟨a,b,ha,hb,hlt,hbr,?_,?_,?_,?_⟩
 ·have:=hc.f
  rwa [q6H (by omega)] at this
 ·obtain ⟨z,hz⟩:∃ z,ri[b-1]?=some z:=⟨_,List.getElem?_eq_getElem (by omega)⟩;refine ⟨z,hz,hc.l z ?_⟩;rw [hl,q6H (by omega),show a+(b-a-1)=b-1 by omega];exact hz
 ·intro i h7 h8;obtain ⟨y,hy⟩:∃ z,ri[i-1]?=some z:=⟨_,List.getElem?_eq_getElem (by omega)⟩;obtain ⟨z,hz⟩:∃ z,ri[i]?=some z:=⟨_,List.getElem?_eq_getElem (by omega)⟩;refine ⟨y,z,hy,hz,hc.m (i-1-a) y z ?_ ?_⟩
  ·rw [q6H (by omega),show a+(i-1-a)=i-1 by omega]; exact hy
  ·rw [q6H (by omega),show a+(i-1-a+1)=i by omega]; exact hz
 ·obtain ⟨x,hx⟩:∃ x,vs[a]?=some x:=⟨_,List.getElem?_eq_getElem (by omega)⟩;exact ⟨x,ofZ x,hx,q0h (h5 x (List.mem_of_getElem? hx)),h6 j hj a x ha hx⟩
def fwP:Option (List Nat)→PV
 | some ys=>.tu [pF ys,iv 0]
 | none=>.tu [pF [],iv 233]
theorem qjX {w:World} {D:Nat→Prop} {ρ:Nat→Option Nat} {h:Hp} {v:Value} {l:List Nat} (hr:In (fSc q2S l) D v w):Rd w D (pF l) ρ h v:=qnk (f:=q2S) (fun x=>⟨rfl,rfl⟩) hr
theorem qhJ {o:Option (List Nat)} {w:World} {D:Nat→Prop} {ρ:Nat→Option Nat} {h:Hp} {v:Value} (hr:In (qpE o) D v w):Rd w D (fwP o) ρ h v:=by
 cases o with
 | some ys =>
  obtain ⟨a,b,rfl,h1,h2⟩:=hr;unfold fwP Rd;refine ⟨[a,b],rfl,?_⟩;unfold RdL;refine ⟨_,_,rfl,qjX h1,?_⟩;unfold RdL;exact ⟨_,_,rfl,by unfold Rd; exact h2,by unfold RdL; rfl⟩
 | none =>
  obtain ⟨a,b,rfl,h1,h2⟩:=hr;unfold fwP Rd;refine ⟨[a,b],rfl,?_⟩;unfold RdL;refine ⟨_,_,rfl,qjX h1,?_⟩;unfold RdL;exact ⟨_,_,rfl,by unfold Rd; exact h2,by unfold RdL; rfl⟩
theorem qqV {n:Nat} (hn:n≤1000000):ACt 51 [iv n] (pI (qaH n)):=by
 have hl:=q8s;refine ac0 Tryz.func51 Tryz.ntmps51 [.tmp 2] ?_;refine wk ?_;refine q0T (fun i=>i≤n) [5] [] Lk Lk (fun i:Nat=>[(6,iv i),(3,.ow 1001 none 0 i)]) (fun i=>[(1001,⟨3,none,(qaH i).map fun z=>iv z,false⟩)]) (fun i=>n-i) 0 (Nat.zero_le _) ?_ ?_
 ·refine LeM [(1001,none)] rfl rfl ?_;refine Zz ?_;exact ⟨rfl,rfl⟩
 ·intro i hi
  by_cases hlt:i < n
  ·refine wk1 (hl i) ?_;refine ⟨i+1,by omega,by omega,?_⟩;refine LeM [(1001,some 12)] rfl rfl ?_;refine Zz ?_;exact ⟨by omega,by rw [qbM]⟩
  ·obtain rfl:i=n:=by omega
   exact wk1 (hl i) trivial
theorem qoq {f:List Int × List Int × List Int × List Nat} {ps:List Int} {l:List Nat} (ho:FacOk ⟨f.1,f.2.1,f.2.2.1,f.2.2.2⟩) (hl:q1M l) (hn:l.length=f.1.length) (hps:∀ x ∈ ps,0≤x∧x < l.length) (hpl:ps.length≤200) :
  ACt 49 [q4k f,pF l,pI ps] (fwP (qeN ⟨f.1,f.2.1,f.2.2.1,f.2.2.2⟩ ps (l.map fun x=>[ofZ x]) (List.replicate l.length 0))):=q2D (r:=.fm (qpE _)) (fun D w v h=>qhJ (q6S h)) (qds qpg fun D w vs hT hF hR=>by
 obtain ⟨_,_,_,rfl,h3,h4,h5⟩:=rd_3 hR;obtain ⟨A,n,c,rfl,h6⟩:=q7J (f:=q2S) h4;obtain ⟨A2,n2,c2,rfl,h7⟩:=q7J (f:=q3k) h5;obtain rfl:n=l.length:=h6.sc_len.symm;obtain rfl:n2=ps.length:=h7.sc_len.symm;exact qab hT (qhK h3) ho h6 hl hn h7 hps hpl hF)

theorem qfA:ofF 0=some 0:=by
 unfold ofF;rw [if_neg (by decide),if_pos (by decide)];have:sgn (decide (9223372036854775808≤0)) (0 % 4503599627370496)=0:=by decide
 rw [this,Int.zero_mul]

theorem qgS {a b:Int}:ACt 253 [iv a,iv b] (bv (decide (a < b))):=by
 have C1:∀ x:Int,ACt 269 [iv x] (bv false):=fun x=>by
  have q:(x != x)=false:=by simp
  refine ac0 Tryz.func269 Tryz.ntmps269 [.tmp 2] ?_;exact wk1 q trivial
 refine ac0 Tryz.func253 Tryz.ntmps253 [.tmp 4] ?_;exact wk trivial
theorem q8U {l:List Int} (hl:∀ (i:Nat) (x y:Int),l[i]?=some x→l[i+1]?=some y→x≤y) (hn:l.length≤1000000):ACt 223 [pI l] (bv true):=by
 have C1:=@qgS;refine ac0 Tryz.func223 Tryz.ntmps223 [.tmp 2] ?_;refine wk ?_;refine q0T (fun i:Int=>i < l.length ∧ -1≤i) [0] [] Lk Lk (fun i:Int=>[(3,iv i)]) (fun _=>[]) (fun i=>(i+1).toNat) (l.length-1:Int) ⟨by omega,by omega⟩ ?_ ?_
 ·refine LeM [] rfl rfl ?_;exact Zy
 ·rintro i ⟨hi,h0⟩
  by_cases hlt:i > 0
  ·obtain ⟨k,rfl⟩:∃ k:Nat,i=((k+1:Nat):Int):=⟨(i-1).toNat,by omega⟩;obtain ⟨x,hx⟩:∃ x,l[k]?=some x:=⟨_,List.getElem?_eq_getElem (by omega)⟩;obtain ⟨y,hy⟩:∃ y,l[k+1]?=some y:=⟨_,List.getElem?_eq_getElem (by omega)⟩;have:=hl k x y hx hy;have q:¬ y < x:=by omega
   have e:IntKind.i64.wrap (((k+1:Nat):Int)-1)=(k:Int):=by rw [i64_in (by omega) (by omega)]; omega
   refine wk1 (x6 hlt hx hy q e (decide_eq_false q)) ?_;refine ⟨k,⟨by omega,by omega⟩,by omega,?_⟩;refine LeM [] rfl rfl ?_;exact Zy
  ·exact wk1 hlt trivial
theorem qnQ {l:List Int} {a b p:Nat} (h:a+p < b):((l.take b).drop a)[p]?=l[a+p]?:=by
 rw [List.getElem?_drop,List.getElem?_take,if_pos h]
def qa1 (ix:List Int) (a k:Nat):Int:=if k=a then -1 else ix.getD (k-1) 0
theorem qfH {R C:Nat} {st ix:List Int} {vl:List Nat} (hS:MSz R C ix) (hP:MPt C st ix vl) (hI:MIx R st ix):ACt 161 [q5k R C st ix vl] (bv true):=by
 obtain ⟨z1,z2,z3,z4,z5⟩:=hS;have hnn:=hP.nn;have hub:=hP.ub (by omega);obtain ⟨p1,p2,p3,p4,p5⟩:=hP;rw [Int.toNat_natCast] at p4;have C1:=q8U (l:=st) p5 (by omega);have hsl:st.length=C+1:=by omega
 have hg:∀ j,j < C→∃ a b:Nat,st[j]?=some (a:Int)∧st[j+1]?=some (b:Int)∧a≤b∧b≤ix.length:=fun j hj=>by
  obtain ⟨x,hx⟩:∃ x,st[j]?=some x:=⟨_,List.getElem?_eq_getElem (by omega)⟩;obtain ⟨y,hy⟩:∃ y,st[j+1]?=some y:=⟨_,List.getElem?_eq_getElem (by omega)⟩;have h1:=hnn j x hx;have h2:=p5 j x y hx hy;have h3:=hub (C-(j+1)) (j+1) y (by rw [Int.toNat_natCast]; omega) hy;exact ⟨x.toNat,y.toNat,by rw [hx]; congr 1; omega,by rw [hy]; congr 1; omega,by omega,by omega⟩
 unfold q5k;refine ac0 Tryz.func161 Tryz.ntmps161 [.tmp 2] ?_;refine wk1 (x4 hsl p1 p3 p4) ?_;refine q0T (fun j=>j≤C) [1,2,49] [1] Lk Lk (fun j:Nat=>[(50,iv j)]) (fun _=>[]) (fun j=>C-j) 0 (Nat.zero_le _) ?_ ?_
 ·refine LeM [] rfl rfl ?_;refine Zz ?_
  rfl
 ·intro j hj
  by_cases hlt:j < C
  ·obtain ⟨a,b,g1,g2,g3,g4⟩:=hg j hlt;have es:slP (some 1) (some (iv (a:Int))) (some (iv (b:Int))) (pI ix)=some (pI ((ix.take b).drop a)):=by
    simp [slP,qiS,ksz,List.map_take,List.map_drop];omega
   have hl:((ix.take b).drop a).length=b-a:=by simp; omega
   have wj:(j:Int)+1=((j+1:Nat):Int):=rfl;have ww:IntKind.i64.wrap ((j+1:Nat):Int)=((j+1:Nat):Int):=i64_in (by omega) (by omega);have hsb:=fun p (h:a+p < b)=>qnQ (l:=ix) (p:=p) h;generalize (ix.take b).drop a=L at *;refine wk1 (x6 g1 g2 es wj ww hl) ?_;refine q0T (fun t=>t≤b-a) [1,2,3,49,50,66,67] [1] Lk Lk (fun t:Nat=>[(68,iv t),(4,iv (qa1 ix a (a+t)))]) (fun _=>[]) (fun t=>b-a-t) 0 (Nat.zero_le _) ?_ ?_
   ·refine LeM [] rfl rfl ?_;refine Zz ?_;unfold qa1;exact ⟨rfl,(if_pos rfl).symm⟩
   ·intro t ht
    by_cases hlt2:t < b-a
    ·obtain ⟨x,hx⟩:∃ x,ix[a+t]?=some x:=⟨_,List.getElem?_eq_getElem (by omega)⟩;obtain ⟨h1,h2,h3⟩:=hI j _ _ g1 g2 (a+t) (by omega) (by omega) x hx;have hx2:=(hsb t (by omega)).trans hx;have hlast:qa1 ix a (a+t) < x∧qa1 ix a (a+(t+1))=x:=by
      unfold qa1;rw [if_neg (show ¬ a+(t+1)=a by omega),show a+(t+1)-1=a+t by omega,getD_some hx];refine ⟨?_,rfl⟩
      by_cases h0:t=0
      ·rw [if_pos (by omega)]; omega
      ·obtain ⟨u,hu⟩:∃ u,ix[a+t-1]?=some u:=⟨_,List.getElem?_eq_getElem (by omega)⟩;rw [if_neg (by omega),getD_some hu];exact h3 (by omega) u hu
     obtain ⟨q1,q2⟩:=hlast;have q3:¬ x≤qa1 ix a (a+t):=by omega
     have q4:¬ (R:Int)≤x:=by omega
     refine wk1 (x3 hx2 q3 q4) ?_;refine ⟨t+1,by omega,by omega,?_⟩;rw [q2];refine LeM [] rfl rfl ?_;refine Zz ?_;omega
    ·have hlt3:¬ (t:Int) < ((b-a:Nat):Int):=by omega
     refine wk1 hlt3 ?_;refine ⟨j+1,by omega,by omega,?_⟩;refine LeM [] rfl rfl ?_;refine Zz ?_;omega
  ·have hlt':¬ (j:Int) < C:=by omega
   exact wk1 hlt' trivial
theorem qfI {x:Nat} (hx:x < 18446744073709551616):ACt 163 [uv x] (bv (!decide (q0V x))):=by
 have C1:=q4M hx;refine ac0 Tryz.func163 Tryz.ntmps163 [.tmp 2] ?_;exact wk trivial
theorem qjt {R C:Nat} {st ix:List Int} {vl:List Nat} (h:q5t R C st ix vl=0) (hu:∀ x ∈ vl,x < 18446744073709551616):ACt 105 [q5k R C st ix vl] (iv 0):=by
 unfold q5t at h
 split at h
 ·rename_i hS
  split at h
  ·rename_i hP
   split at h
   ·rename_i hf;have C1:=qfH hS hP.1 hP.2;have hvl:=hP.1.v;obtain ⟨z1,z2,z3,z4,z5⟩:=hS;have C2:=q2o (f:=163) (l:=vl) (fun x hx=>qfI hx) hu (by omega);rw [decide_eq_true hf] at C2;have C3:∀ n:Nat,n≤200→ACt 160 [iv n,iv 0,iv 200] (bv true):=fun n hn=>by
     have q1:(0:Int)≤n:=by omega
     have q2:(n:Int)≤200:=by omega
     refine ac0 Tryz.func160 Tryz.ntmps160 [.tmp 6] ?_;exact wk1 (x2 q1 q2) trivial
    unfold q5k at *;refine ac0 Tryz.func105 Tryz.ntmps105 [.tmp 2] ?_;exact wk trivial
   ·cases h
  ·cases h
 ·cases h
theorem q9A {f:Nat→Nat→Option Nat} {R C:Nat} (h:TOk f R C):ACt 105 [pT R C f] (iv 0):=qjt h.chk h.vl.2.2.2
end Go.Proofs.YtbcmhlhgljoolaaGreatDoor
namespace Go.Sp
open Go.E Go.Proofs.YtbcmhlhgljoolaaGreatDoor
def prL (x y:List Nat) (i:Nat):List Int:=(List.range i).map fun k=>q1U (x.getD k 0) (y.getD k 0)
def q3F (x y:List Nat):Int:=q1K (prL x y x.length)
def lnE (x:List Nat) (t:Nat) (y:List Nat) (k:Nat):Int:=ofZ (x.getD k 0)+q1U t (y.getD k 0)
def lnF (x:List Nat) (t:Nat) (y:List Nat) (i:Nat):List Nat:=(List.range i).map fun k=>fR 0 (lnE x t y k)
theorem qje {x y:List Nat} {i:Nat}:prL x y (i+1)=prL x y i ++ [q1U (x.getD i 0) (y.getD i 0)]:=by unfold prL; rw [List.range_succ,List.map_append]; rfl
theorem lnF_s {x y:List Nat} {t i:Nat}:lnF x t y (i+1)=lnF x t y i ++ [fR 0 (lnE x t y i)]:=by unfold lnF; rw [List.range_succ,List.map_append]; rfl
theorem q5G {x y:List Nat} {i:Nat}:(prL x y i).length=i:=by simp [prL]
theorem q4J {x y:List Nat} {t i:Nat}:(lnF x t y i).length=i:=by simp [lnF]
theorem q2O {l:List Nat} {i:Nat} (h:q1M l):l.getD i 0 < 18446744073709551616∧q0V (l.getD i 0):=qci h
theorem qhS {x y:List Nat} (hx:q1M x) (hy:q1M y) {i:Nat}:∀ z ∈ prL x y i,bl z.natAbs≤67600:=fun z hz=>by
 obtain ⟨k,_,rfl⟩:=List.mem_map.1 hz;exact (q0w (q2O hx).2 (q2O hy).2).2
theorem q9S {x y:List Nat} (hx:q1M x) (hy:q1M y) {i:Nat} (hi:i≤1000):q0i (q1K (prL x y i)):=qgy (qhS hx hy) (by rw [q5G]; omega)
theorem q67 {x y:List Nat} (hx:q1M x) (hy:q1M y) (hn:x.length≤1000):q0i (q3F x y):=q9S hx hy hn
theorem qo5 {x y:List Nat} {t k:Nat} (hx:q1M x) (hy:q1M y) (ht:q0V t):q0i (lnE x t y k):=by
 have h1:=q7N (q2O (i:=k) hx).2;have h2:=(q0w ht (q2O (i:=k) hy).2).2;unfold q0i lnE;have:=qdj h1 h2;omega
theorem q3J {f:Nat} (h:q0V f):q0i (ofZ f):=by
 have:=q7N h;unfold q0i;omega
end Go.Sp
namespace Go.Proofs.YtbcmhlhgljoolaaGreatDoor
open Go Go.E Go.Sp
theorem qoU {V:Int} (ho:q0i V):Nz (dT V):=fun w D B v hB h=>(q4X.2 (q6S (nz_V w D B v hB (q8M (q4X.1 ⟨h,ho⟩))))).1
section
variable {x y:List Nat} {t:Nat}
theorem q5M (hx:q1M x) (hy:q1M y) (hn:x.length≤1000) (hl:y.length=x.length):ACt 77 [pF x,pF y] (dT (q3F x y)):=by
 have hpl:=fun i=>q5G (x:=x) (y:=y) (i:=i);refine ac0 Tryz.func77 Tryz.ntmps77 [.cell 4 74] ?_;refine wk ?_;refine q0T (fun i=>i≤x.length) [0,1,4,8] [4] Lk Lk (fun i:Nat=>[(9,iv i),(5,.ow 1001 (some 4) 0 i)]) (fun i=>[(1001,⟨74,some 4,(prL x y i).map fun V=>pV V,false⟩)]) (fun i=>x.length-i) 0 (Nat.zero_le _) ?_ ?_
 ·refine LeM [(1001,none)] rfl rfl ?_;refine Zz ?_;exact ⟨rfl,rfl⟩
 ·intro i hi
  by_cases hlt:i < x.length
  ·obtain ⟨u,hu⟩:∃ u,x[i]?=some u:=⟨_,List.getElem?_eq_getElem hlt⟩;obtain ⟨v,hv⟩:∃ v,y[i]?=some v:=⟨_,List.getElem?_eq_getElem (by omega)⟩;obtain ⟨u1,u2⟩:=hx u (List.mem_of_getElem? hu);obtain ⟨v1,v2⟩:=hy v (List.mem_of_getElem? hv);have C1:=q2m u1 (q0h u2);have C2:=q2m v1 (q0h v2);have C3:=qjb (q4v (q3J u2) (q3J v2) (q0w u2 v2).1) (q4S (q0w u2 v2).1).2.2.2;have es:=@qje x y i;rw [getD_some hu,getD_some hv] at es;refine wk1 (x3 hu hv (hpl i)) ?_;refine ⟨i+1,by omega,by omega,?_⟩;rw [es,List.map_append];refine LeM [(1001,some 25)] rfl rfl ?_;refine Zz ?_;exact ⟨by omega,qeE (q2E rfl clV) (q2E rfl (clV (l:=[_])))⟩
  ·obtain rfl:i=x.length:=by omega
   have C1:=q7s (l:=prL x y x.length) (by rw [q5G]; exact hn) (fun z hz=>by have:=qhS hx hy z hz; unfold q0i; omega) (q9S hx hy hn);have N1:=qoU (q9S hx hy hn);unfold q3F;exact wk1 (hpl x.length) trivial
theorem qia (hx:q1M x) (hy:q1M y) (hn:x.length≤1000) (hl:y.length=x.length):ACt 86 [pF x,pF y] (pV (q3F x y)):=by
 have hpl:=fun i=>q5G (x:=x) (y:=y) (i:=i);refine ac0 Tryz.func86 Tryz.ntmps86 [.cell 4 74] ?_;refine wk ?_;refine q0T (fun i=>i≤x.length) [0,1,4] [4] Lk Lk (fun i:Nat=>[(6,iv i),(5,.ow 1001 (some 4) 0 i)]) (fun i=>[(1001,⟨74,some 4,(prL x y i).map fun V=>pV V,false⟩)]) (fun i=>x.length-i) 0 (Nat.zero_le _) ?_ ?_
 ·refine LeM [(1001,none)] rfl rfl ?_;refine Zz ?_;exact ⟨rfl,rfl⟩
 ·intro i hi
  by_cases hlt:i < x.length
  ·obtain ⟨u,hu⟩:∃ u,x[i]?=some u:=⟨_,List.getElem?_eq_getElem hlt⟩;obtain ⟨v,hv⟩:∃ v,y[i]?=some v:=⟨_,List.getElem?_eq_getElem (by omega)⟩;obtain ⟨u1,u2⟩:=hx u (List.mem_of_getElem? hu);obtain ⟨v1,v2⟩:=hy v (List.mem_of_getElem? hv);have C3:=q7r u1 v1 (q0h u2) (q0h v2) (q0w u2 v2).1;have es:=@qje x y i;rw [getD_some hu,getD_some hv] at es;refine wk1 (x3 hu hv (hpl i)) ?_;refine ⟨i+1,by omega,by omega,?_⟩;rw [es,List.map_append];refine LeM [(1001,some 24)] rfl rfl ?_;refine Zz ?_;exact ⟨by omega,qeE (q2E rfl clV) (q2E rfl (clV (l:=[_])))⟩
  ·obtain rfl:i=x.length:=by omega
   have C1:=qkp (l:=prL x y x.length) (by rw [q5G]; exact hn) (q9S hx hy hn);have N1:=nz_V (V:=q1K (prL x y x.length));unfold q3F;exact wk1 (hpl x.length) trivial
def lnR (l:List Nat):PV:=.tu [pF l,bv (decide (∀ x ∈ l,q0V x))]
theorem q62 {c:Int} (hc:c=ofZ t) (hx:q1M x) (hy:q1M y) (ht:q0V t) (hn:x.length≤1000) (hl:y.length=x.length):ACt 141 [pF x,dT c,pF y] (lnR (lnF x t y x.length)):=by
 subst hc;have hpl:=fun i=>q4J (x:=x) (y:=y) (t:=t) (i:=i);have hfu:∀ z ∈ lnF x t y x.length,z < 18446744073709551616:=fun z hz=>by
  obtain ⟨k,_,rfl⟩:=List.mem_map.1 hz;exact qdC
 have C7:=q3B hfu (by rw [hpl]; omega);unfold lnR;have N1:Nz (bv (decide (∀ z ∈ lnF x t y x.length,q0V z))):=qoT;generalize decide (∀ z ∈ lnF x t y x.length,q0V z)=b at *;refine ac0 Tryz.func141 Tryz.ntmps141 [.tmp 6,.tmp 7] ?_;refine wk ?_;refine q0T (fun i=>i≤x.length) [0,2,4,11] [4] Lk Lk (fun i:Nat=>[(12,iv i),(8,.ow 1001 none 0 i)]) (fun i=>[(1001,⟨30,none,(lnF x t y i).map fun z:Nat=>uv z,false⟩)]) (fun i=>x.length-i) 0 (Nat.zero_le _) ?_ ?_
 ·refine LeM [(1001,none)] rfl rfl ?_;refine Zz ?_;exact ⟨rfl,rfl⟩
 ·intro i hi
  by_cases hlt:i < x.length
  ·obtain ⟨u,hu⟩:∃ u,x[i]?=some u:=⟨_,List.getElem?_eq_getElem hlt⟩;obtain ⟨v,hv⟩:∃ v,y[i]?=some v:=⟨_,List.getElem?_eq_getElem (by omega)⟩;obtain ⟨u1,u2⟩:=hx u (List.mem_of_getElem? hu);obtain ⟨v1,v2⟩:=hy v (List.mem_of_getElem? hv);have C1:=q2m u1 (q0h u2);have C2:=q2m v1 (q0h v2);have hm:=q0w ht v2;have C3:=q4v (q3J ht) (q3J v2) hm.1;have es:=@lnF_s x y t i;have hd:=qo5 (k:=i) hx hy ht;unfold lnE at es hd;rw [getD_some hu,getD_some hv] at es hd;have C4:=qic (q3J u2) (q4S hm.1).2.2.2 hd;have C5:=q72 hd;refine wk1 (x3 hu hv (hpl i)) ?_;refine ⟨i+1,by omega,by omega,?_⟩;rw [es];refine LeM [(1001,some 31)] rfl rfl ?_;refine Zz ?_;omega
  ·obtain rfl:i=x.length:=by omega
   exact wk1 (hpl x.length) trivial
end
end Go.Proofs.YtbcmhlhgljoolaaGreatDoor
namespace Go.E
open Go Go.RowKit
section
variable {J:Nat→Prop} {s:Nat→PV} {h:Hp} {T1 T2:TypeId} {K:Kd} {N R n:Nat} {row:Nat→List PV}
def q6s (T1 T2:TypeId) (K:Kd) (N R n:Nat) (row:Nat→List PV):Hp:=fun i =>
 if i=N then some ⟨T1,none,(List.range n).map fun j=>.ow (j+R) K 0 (row j).length,false⟩
 else if R≤i∧i < R+n then some ⟨T2,K,row (i-R),false⟩ else none
theorem qnI:q6s T1 T2 K N R n row N=some ⟨T1,none,(List.range n).map fun j=>.ow (j+R) K 0 (row j).length,false⟩:=if_pos rfl
theorem q8z {j:Nat} (hN:N < R) (hj:j < n):q6s T1 T2 K N R n row (j+R)=some ⟨T2,K,row j,false⟩:=by
 unfold q6s;rw [if_neg (by omega),if_pos (by omega),Nat.add_sub_cancel]
attribute [go_sem ↓] qnI q8z
theorem q3c {i:Nat} {b:Bk} (hb:q6s T1 T2 K N R n row i=some b):(i=N∧b=⟨T1,none,(List.range n).map fun j=>.ow (j+R) K 0 (row j).length,false⟩)∨(R≤i∧i < R+n∧b=⟨T2,K,row (i-R),false⟩):=by
 unfold q6s at hb
 split at hb
 ·cases hb; exact .inl ⟨‹_›,rfl⟩
 ·split at hb
  ·rename_i hi; cases hb; exact .inr ⟨hi.1,hi.2,rfl⟩
  ·cases hb
theorem qeb {p:Nat→Prop} (hp:∀ j,j < n→p (j+R)):IdL p ((List.range n).map fun j=>.ow (j+R) K 0 (row j).length):=IdL.of fun x hx=>by
 obtain ⟨z,hz,rfl⟩:=List.mem_map.1 hx;unfold IdP; exact hp z (List.mem_range.1 hz)
theorem qix (hrow:∀ j,∀ p,IdL p (row j)) (hN:5000≤N) (hNR:N < R) (hR:R+n≤1000000):WfH (q6s T1 T2 K N R n row):=⟨fun i b hb=>by
 rcases q3c hb with ⟨_,rfl⟩ | ⟨h1,h2,rfl⟩
 ·refine ⟨rfl,qeb fun j hj=>⟨⟨by omega,by omega⟩,?_⟩⟩;rw [q8z hNR hj]; exact Option.some_ne_none _
 ·exact ⟨rfl,hrow _ _⟩⟩
def tnG (N R n o:Nat):Nat→Option Nat:=fun i=>if i=N then some o else if R≤i∧i < R+n then none else some i
theorem qmy {o i:Nat} (h1:i < N) (h2:i < R):tnG N R n o i=some i:=by
 unfold tnG;rw [if_neg (by omega),if_neg (by omega)]
attribute [go_sem ↓] qmy
theorem qea {o:Nat} (hJ:∀ i,¬ J i) (ho:h o=some ⟨T1,none,List.replicate n (.vl (.slice none 0 0)),false⟩) (h5:o < 5000) (hN:5000≤N) (hNR:N < R) (hR:R+n≤1000000) {xs kv:List (Nat × PV)} {kb:List (Nat × Option Bk)} (hn:nmW o o (kb.map (·.1)))
  (hh:q7i (tnG N R n o) h (q1q (q6s T1 T2 K N R n fun _=>[]) (hpM [] kb)) s xs∧q7i (tnG N R n o) h (q1q (q6s T1 T2 K N R n fun _=>[]) (hpM [] kb)) s kv∧qbA (tnG N R n o) h (q1q (q6s T1 T2 K N R n fun _=>[]) (hpM [] kb)) kb):Le J s h (stM xs kv) (q1q (q6s T1 T2 K N R n fun _=>[]) (hpM [] kb)):=by
 obtain ⟨h1,h2,h4⟩:=hh;have tN:tnG N R n o N=some o:=if_pos rfl;have tR:∀ i,R≤i→i < R+n→tnG N R n o i=none:=fun i a b=>by unfold tnG; rw [if_neg (by omega),if_pos ⟨a,b⟩]
 have tI:∀ i,i < 5000→tnG N R n o i=some i:=fun i a=>by unfold tnG; rw [if_neg (by omega),if_neg (by omega)]
 have key:∀ i b,q1q (q6s T1 T2 K N R n fun _=>[]) (hpM [] kb) i=some b→i=N∨(R≤i∧i < R+n)∨(i < 5000∧i≠o):=fun i b hb=>by
  by_cases hi:win i
  ·rw [q1G hi] at hb
   rcases q3c hb with ⟨e,_⟩ | ⟨q1,q2,_⟩
   ·exact .inl e
   ·exact .inr (.inl ⟨q1,q2⟩)
  ·rw [q1c hi] at hb;have:=q6W hn i (q52 h4 i b hb).2;exact .inr (.inr ⟨this.1,this.2.1⟩)
 refine q6o (tnG N R n o) (fun i b hb=>?_) (fun i j k' b c hi hj ti tj=>?_) (fun t=>q5x h2 h1 t) fun i hi=>(hJ i hi).elim
 ·by_cases hi:win i
  ·rw [q1G hi] at hb
   rcases q3c hb with ⟨rfl,rfl⟩ | ⟨q1,q2,rfl⟩
   ·unfold LeB;rw [tN];refine ⟨_,ho,rfl,rfl,⟨rfl,rfl⟩,?_⟩;rw [qjV];refine ⟨by simp,fun c x y hx hy=>?_⟩;have hc:c < n:=by have:=(List.getElem?_eq_some_iff.1 hy).1; simpa using this
    rw [List.getElem?_map,List.getElem?_range hc,Option.map_some] at hx hy;cases hx; cases hy;exact .nilow (tR _ (by omega) (by omega)) (by rw [q1G ⟨by omega,by omega⟩]; exact q8z hNR hc) rfl
   ·unfold LeB;rw [tR i q1 q2]
  ·rw [q1c hi] at hb;exact (q52 h4 i b hb).1
 ·rcases key i b hi with rfl | ⟨a1,a2⟩ | ⟨a1,a2⟩ <;> rcases key j c hj with rfl | ⟨b1,b2⟩ | ⟨b1,b2⟩
  ·rfl
  ·rw [tR _ b1 b2] at tj; cases tj
  ·rw [tN] at ti; rw [tI _ b1] at tj; cases ti; cases tj; exact (b2 rfl).elim
  ·rw [tR _ a1 a2] at ti; cases ti
  ·rw [tR _ a1 a2] at ti; cases ti
  ·rw [tR _ a1 a2] at ti; cases ti
  ·rw [tI _ a1] at ti; rw [tN] at tj; cases ti; cases tj; exact (a2 rfl).elim
  ·rw [tR _ b1 b2] at tj; cases tj
  ·rw [tI _ a1] at ti; rw [tI _ b1] at tj; cases ti; cases tj; rfl
def q3f (row:Nat→List PV) (k:Nat) (x:PV):Nat→List PV:=fun j=>if j=k then row k ++ [x] else row j
theorem q7B {r k:Nat} {x:PV} (hJ:∀ i,¬ J i) (hk:k < n) (hcl:∀ j,ClL (q3f row k x j)) (ho:h N=some ⟨T1,none,((List.range n).map fun j=>.ow (j+R) K 0 (row j).length).set k (.ow r K 0 ((row k).length+1)),false⟩) (hr:h r=some ⟨T2,K,row k ++ [x],false⟩)
  (hrow:∀ j,j < n→j≠k→h (j+R)=some ⟨T2,K,row j,false⟩) (h6:r < 5000) (hN:5000≤N) (hNR:N < R) (hR:R+n≤1000000) {xs kv:List (Nat × PV)} {kb:List (Nat × Option Bk)} (hn:nmW r r (kb.map (·.1)))
  (hh:q7i (tnU (k+R) r) h (q1q (q6s T1 T2 K N R n (q3f row k x)) (hpM [] kb)) s xs∧q7i (tnU (k+R) r) h (q1q (q6s T1 T2 K N R n (q3f row k x)) (hpM [] kb)) s kv∧qbA (tnU (k+R) r) h (q1q (q6s T1 T2 K N R n (q3f row k x)) (hpM [] kb)) kb):Le J s h (stM xs kv) (q1q (q6s T1 T2 K N R n (q3f row k x)) (hpM [] kb)):=by
 obtain ⟨q1,q2,q4⟩:=hh;have tK:tnU (k+R) r (k+R)=some r:=if_pos rfl;have tI:∀ i,i≠k+R→tnU (k+R) r i=some i:=fun i a=>if_neg a;have key:∀ i b,q1q (q6s T1 T2 K N R n (q3f row k x)) (hpM [] kb) i=some b→i≠r:=fun i b hb=>by
  by_cases hi:win i
  ·unfold win at hi; omega
  ·rw [q1c hi] at hb;exact (q6W hn i (q52 q4 i b hb).2).2.1
 refine q6o (tnU (k+R) r) (fun i b hb=>?_) (fun i j k' b c hi hj ti tj=>?_) (fun t=>q5x q2 q1 t) fun i hi=>(hJ i hi).elim
 ·by_cases hi:win i
  ·rw [q1G hi] at hb
   rcases q3c hb with ⟨rfl,rfl⟩ | ⟨a1,a2,rfl⟩
   ·unfold LeB;rw [tI i (by omega)];refine ⟨_,ho,rfl,rfl,⟨rfl,rfl⟩,by simp,fun c u v hx hy=>?_⟩;have hc:c < n:=by have:=(List.getElem?_eq_some_iff.1 hy).1; simpa using this
    rw [List.getElem?_map,List.getElem?_range hc,Option.map_some] at hy;cases hy;rw [List.getElem?_set] at hx;have hex:∃ b,q1q (q6s T1 T2 K i R n (q3f row k x)) (hpM [] kb) (c+R)=some b:=⟨_,by rw [q1G ⟨by omega,by omega⟩,q8z hNR hc]⟩;obtain ⟨bb,hbb⟩:=hex
    by_cases hck:k=c
    ·subst hck;rw [if_pos rfl,if_pos (by simpa using hc)] at hx;cases hx;rw [show (q3f row k x k).length=(row k).length+1 by unfold q3f; rw [if_pos rfl,List.length_append]; rfl];exact .ow tK hbb
    ·rw [if_neg hck,List.getElem?_map,List.getElem?_range hc,Option.map_some] at hx;cases hx;rw [show q3f row k x c=row c from if_neg (Ne.symm hck)];exact .ow (tI _ (by omega)) hbb
   ·by_cases e:i=k+R
    ·subst e;unfold LeB;rw [tK,Nat.add_sub_cancel];have e2:q3f row k x k=row k ++ [x]:=if_pos rfl;refine ⟨_,hr,rfl,rfl,⟨rfl,rfl⟩,q2E e2.symm (hcl k)⟩
    ·unfold LeB;rw [tI i e];have:=hrow (i-R) (by omega) (by omega);rw [Nat.sub_add_cancel a1] at this;have e2:q3f row k x (i-R)=row (i-R):=if_neg (by omega);refine ⟨_,this,rfl,rfl,⟨rfl,rfl⟩,q2E e2.symm (hcl _)⟩
  ·rw [q1c hi] at hb;exact (q52 q4 i b hb).1
 ·have a1:=key i b hi;have a2:=key j c hj;unfold tnU at ti tj
  split at ti <;> split at tj <;> cases ti <;> cases tj <;> first | omega | rfl | exact (a1 rfl).elim | exact (a2 rfl).elim
end
end Go.E
namespace Go.Sp
open Go.E Go.Proofs.YtbcmhlhgljoolaaGreatDoor
def sg (g:Nat→Int):Nat→Int
 | 0=>0
 | n+1=>sg g n+g n
theorem q3e {g h:Nat→Int}:∀ n,(∀ i,i < n→g i=h i)→sg g n=sg h n
 | 0,_=>rfl
 | n+1,e=>by rw [sg,sg,q3e n fun i hi=>e i (by omega),e n (by omega)]
theorem q9L {g h:Nat→Int}:∀ n,sg (fun i=>g i+h i) n=sg g n+sg h n
 | 0=>rfl
 | n+1=>by rw [sg,sg,sg,q9L n]; omega
theorem qbe {g:Nat→Int}:∀ n,(∀ i,i < n→g i=0)→sg g n=0
 | 0,_=>rfl
 | n+1,e=>by rw [sg,qbe n fun i hi=>e i (by omega),e n (by omega)]; rfl
theorem qbf {g:Nat→Int} {r:Nat}:∀ n,sg (fun i=>if r=i then g i else 0) n=if r < n then g r else 0
 | 0=>by rw [if_neg (by omega)]; rfl
 | n+1=>by
  rw [sg,qbf n]
  by_cases h:r=n
  ·subst h; rw [if_neg (by omega),if_pos rfl,if_pos (by omega)]; omega
  ·rw [if_neg h]
   by_cases h2:r < n
   ·rw [if_pos h2,if_pos (by omega)]; omega
   ·rw [if_neg h2,if_neg (by omega)]; rfl
theorem qhR {x y:List Nat}:∀ i,q1K (prL x y i)=sg (fun k=>q1U (x.getD k 0) (y.getD k 0)) i
 | 0=>rfl
 | i+1=>by rw [qje,q1E,qhR i,sg]
theorem qcM {y:Nat}:q1U 0 y=0:=by
 unfold q1U;rw [show ofZ 0=0 from q1I (by unfold ofF; rw [if_neg (by decide),if_pos (by decide),show sgn (decide (9223372036854775808≤0)) (0 % 4503599627370496)=0 from rfl,Int.zero_mul]),Int.zero_mul,q1x]
 rfl
section
variable {f:Nat→Nat→Option Nat} {x:List Nat} {n J r:Nat} {rows:Nat→List Int}
def qar (f:Nat→Nat→Option Nat) (n r:Nat):List Nat:=(List.range n).map fun j=>(f (min r j) (max r j)).getD 0
def q25 (f:Nat→Nat→Option Nat) (x:List Nat) (n i:Nat):List Nat:=(List.range i).map fun r=>fR 0 (q3F (qar f n r) x)
def ce (x:List Nat) (J:Nat) (e:Nat × Nat) (r:Nat):Int:=if J≤e.1 then (if r=e.1 then q1U e.2 (x.getD J 0) else 0)+(if r=J∧J < e.1 then q1U e.2 (x.getD e.1 0) else 0) else 0
def q2T (rows:Nat→List Int) (k:Nat) (z:Int):Nat→List Int:=fun j=>if j=k then rows k ++ [z] else rows j
def apZ (x:List Nat) (J:Nat) (e:Nat × Nat) (rows:Nat→List Int):Nat→List Int :=
 if J≤e.1 then (if J < e.1 then q2T (q2T rows e.1 (q1U e.2 (x.getD J 0))) J (q1U e.2 (x.getD e.1 0)) else q2T rows e.1 (q1U e.2 (x.getD J 0))) else rows
theorem q4u {k:Nat} {z:Int}:q1K (q2T rows k z r)=q1K (rows r)+if r=k then z else 0:=by
 unfold q2T
 by_cases h:r=k
 ·subst h; rw [if_pos rfl,if_pos rfl,q1E]
 ·rw [if_neg h,if_neg h]; omega
theorem qlb {e:Nat × Nat}:q1K (apZ x J e rows r)=q1K (rows r)+ce x J e r:=by
 unfold apZ ce
 by_cases h:J≤e.1
 ·rw [if_pos h,if_pos h]
  by_cases h2:J < e.1
  ·rw [if_pos h2,q4u,q4u]
   by_cases h3:r=J
   ·rw [if_pos h3,if_pos (And.intro h3 h2:r=J∧J < e.1)]; omega
   ·rw [if_neg h3,if_neg (show ¬ (r=J∧J < e.1) from fun q=>h3 q.1)]; omega
  ·rw [if_neg h2,q4u,if_neg (show ¬ (r=J∧J < e.1) from fun q=>h2 q.2)]; omega
 ·rw [if_neg h,if_neg h]; omega
structure RI (x:List Nat) (n:Nat) (rows:Nat→List Int) (S:Nat→Int) (m:Nat):Prop where
 s:∀ r,r < n→q1K (rows r)=S r
 l:∀ r,(rows r).length≤m
 b:∀ r,∀ z ∈ rows r,bl z.natAbs≤67600
theorem q8q {k m:Nat} {z:Int} (hl:∀ r,(rows r).length≤m) (hb:∀ r,∀ z ∈ rows r,bl z.natAbs≤67600) (hz:bl z.natAbs≤67600):(∀ r,(q2T rows k z r).length≤m+1)∧∀ r,∀ y ∈ q2T rows k z r,bl y.natAbs≤67600:=by
 unfold q2T;refine ⟨fun r=>?_,fun r y hy=>?_⟩
 ·have h1:=hl r; have h2:=hl k
  split
  ·simp; omega
  ·omega
 ·split at hy
  ·rcases List.mem_append.1 hy with hy | hy
   ·exact hb k y hy
   ·simp at hy; subst hy; exact hz
  ·exact hb r y hy
theorem RI.step {S:Nat→Int} {m:Nat} {e:Nat × Nat} (h:RI x n rows S m) (hx:q1M x) (he:q0V e.2):RI x n (apZ x J e rows) (fun r=>S r+ce x J e r) (m+2):=by
 have h1:=(q0w he (q2O (i:=J) hx).2).2;have h2:=(q0w he (q2O (i:=e.1) hx).2).2;have b1:=q8q (k:=e.1) h.l h.b h1;have b2:=q8q (k:=J) b1.1 b1.2 h2;refine ⟨fun r hr=>by rw [qlb,h.s r hr],fun r=>?_,fun r z hz=>?_⟩
 ·unfold apZ;have:=b1.1 r;have:=b2.1 r;have:=h.l r
  split
  ·split <;> omega
  ·omega
 ·unfold apZ at hz
  split at hz
  ·split at hz
   ·exact b2.2 r z hz
   ·exact b1.2 r z hz
  ·exact h.b r z hz
theorem q86:∀ i,q1K ((tZ f J i).map fun e=>ce x J e r)=sg (fun i=>ce x J (i,(f J i).getD 0) r) i
 | 0=>rfl
 | i+1=>by
  rw [tZ_s,List.map_append,sg];cases h:f J i with
  | none =>
   rw [List.map_nil,List.append_nil,q86 i];have:ce x J (i,(none:Option Nat).getD 0) r=0:=by
    unfold ce;simp only [Option.getD_none,qcM]
    split
    ·split <;> split <;> rfl
    ·rfl
   omega
  | some v=>rw [List.map_singleton,q1E,q86 i]; rfl
theorem qlm (hr:r < n) (hx:x.length=n):sg (fun J=>sg (fun i=>ce x J (i,(f J i).getD 0) r) n) n=q3F (qar f n r) x:=by
 have h1:∀ J,J < n→sg (fun i=>ce x J (i,(f J i).getD 0) r) n=(if J≤r then q1U ((f J r).getD 0) (x.getD J 0) else 0)+if r=J then sg (fun i=>if r < i then q1U ((f r i).getD 0) (x.getD i 0) else 0) n else 0:=fun J hJ=>by
  have e1:sg (fun i=>ce x J (i,(f J i).getD 0) r) n=sg (fun i=>(if r=i then (if J≤i then q1U ((f J i).getD 0) (x.getD J 0) else 0) else 0)+if r=J∧J < i then q1U ((f J i).getD 0) (x.getD i 0) else 0) n:=q3e n fun i _=>by
   unfold ce;dsimp only
   by_cases hJi:J≤i
   ·rw [if_pos hJi,if_pos hJi]
   ·rw [if_neg hJi,if_neg hJi,if_neg (by omega:¬ (r=J∧J < i))]; split <;> rfl
  rw [e1,q9L,qbf,if_pos hr]
  congr 1
  by_cases hrJ:r=J
  ·subst hrJ;rw [if_pos rfl];exact q3e n fun i _=>by by_cases h:r < i <;> simp [h]
  ·rw [if_neg hrJ];exact qbe n fun i _=>if_neg fun q=>hrJ q.1
 rw [q3e n h1,q9L];have h2:=qbf (r:=r) (g:=fun _=>sg (fun i=>if r < i then q1U ((f r i).getD 0) (x.getD i 0) else 0) n) n;rw [if_pos hr] at h2;rw [h2,← q9L];unfold q3F;rw [show (qar f n r).length=n by simp [qar],qhR];refine q3e n fun j hj=>?_;have e:(qar f n r).getD j 0=(f (min r j) (max r j)).getD 0:=by
  unfold qar;rw [List.getD_eq_getElem?_getD,List.getElem?_map,List.getElem?_range hj]; rfl
 rw [e]
 by_cases h:j≤r
 ·rw [if_pos h,if_neg (by omega),Nat.min_eq_right h,Nat.max_eq_left h]; omega
 ·rw [if_neg h,if_pos (by omega),Nat.min_eq_left (by omega),Nat.max_eq_right (by omega)]; omega
end
end Go.Sp
namespace Go.Proofs.YtbcmhlhgljoolaaGreatDoor
open Go Go.E Go.Sp
abbrev qno (rows:Nat→List Int):Nat→List PV:=fun r=>(rows r).map fun V=>pV V
abbrev qnJ (n:Nat) (rows:Nat→List Int):Hp:=q6s 125 74 (some 4) 5000 10000 n (qno rows)
theorem q3g {rows:Nat→List Int} {k:Nat} {z:Int}:q3f (qno rows) k (pV z)=qno (q2T rows k z):=by
 funext j
 unfold q3f q2T qno
 by_cases h:j=k <;> simp [h]
theorem idV {l:List Int} {p:Nat→Prop}:IdL p (l.map fun V=>pV V):=IdL.of fun x hx=>by
 obtain ⟨z,_,rfl⟩:=List.mem_map.1 hx;unfold IdP; trivial
theorem q3S {n:Nat} {rows:Nat→List Int} (hn:n≤1000):WfH (qnJ n rows):=qix (fun _ _=>idV) (by omega) (by omega) (by omega)
section
variable {f:Nat→Nat→Option Nat} {x:List Nat} {n:Nat}
theorem q7V (h:TOk f n n) (hx:q1M x) (hxl:x.length=n) (hn:n≤20):ACt 107 [pT n n f,pF x] (lnR (q25 f x n n)):=by
 have hml:=q3d (f:=f) (R:=n) n;have hg:=fun j hj=>q4z (f:=f) (R:=n) (C:=n) (j:=j) hj;have hix:=fun j k hj h1 h2=>qbW (f:=f) (R:=n) (C:=n) (j:=j) (k:=k) hj h1 h2;have hos:=fun j=>qmN (f:=f) (R:=n) (j:=j);obtain ⟨o,ho⟩:∃ o,o=tO f n:=⟨_,rfl⟩;have h4:=h.m;unfold pT;rw [← ho] at hg hix hos;generalize (tM f n n).1=st at *;generalize (tM f n n).2.1=ix at *;generalize (tM f n n).2.2=vl at *;obtain ⟨m1,m2,m3⟩:=hml;unfold q5k;refine ac0 Tryz.func107 Tryz.ntmps107 [.tmp 4,.tmp 5] ?_;refine wk1 hxl ?_;refine q8o (qea (o:=16) (N:=5000) (R:=10000) (n:=n) (T1:=125) (T2:=74) (K:=some 4) (fun _ h=>h) ?_ (by omega) (by omega) (by omega) (by omega) (xs:=[(1,pF x),(2,.pt 2 0 0),(6,.ow 5000 none 0 n),(18,iv n),(19,iv 0)]) (kv:=[]) (kb:=[(2,some ⟨52,some 5,[.ag [iv n,iv n,pI st,pI ix,pF vl]],false⟩)]) (by simp [nmW]) ?_) ?_
 ·try simp -implicitDefEqProofs (disch:=omega) only [go_sem,Nat.reduceEqDiff,Nat.reduceAdd,↓reduceIte]
 ·try refine Zz ?_
  exact if_pos rfl
 refine q3E (fun q:Nat × (Nat→List Int)=>q.1≤n∧RI x n q.2 (fun r=>sg (fun J=>sg (fun i=>ce x J (i,(f J i).getD 0) r) n) q.1) (q.1*(2*n))) [1,2,6,18] [2] Lk Lk (fun q=>[(19,iv q.1)]) (fun _=>[]) (fun q=>qnJ n q.2) (fun q=>n-q.1) (0,fun _=>[]) ⟨Nat.zero_le _,fun _ _=>rfl,fun _=>Nat.zero_le _,fun _ z hz=>by cases hz⟩ ?_ ?_
 ·refine LeW [] rfl rfl ?_ ?_ (by simp [q7m,q53,win]) ?_
  ·repeat (first | exact q3H | exact q7q | exact q8i | exact q7p (by simp [nmW]) (by simp [nmW]) | refine q8j (by omega) ?_)
  ·exact q3S (by omega)
  ·try refine Zz ?_
   rfl
 ·rintro ⟨J,rows⟩ ⟨hJ,hI⟩;simp only at hJ hI ⊢
  by_cases hlt:J < n
  ·have hlt':(J:Int) < n:=by omega
   have g1:=hg J (by omega);have g2:=hg (J+1) (by omega);have oJ:=hos J;have ww:IntKind.i64.wrap ((J:Int)+1)=((J+1:Nat):Int):=by rw [i64_in (by omega) (by omega)]; omega
   have hZ:=fun k v=>q5e (f:=f) (j:=J) (i:=n) (k:=k) (x:=v);obtain ⟨L,hL⟩:∃ L,L=tZ f J n:=⟨_,rfl⟩;have hLn:L.length≤n:=by rw [hL]; unfold tZ; exact Nat.le_trans (List.length_filterMap_le _ _) (by simp)
   have hcs:=fun r=>q86 (f:=f) (x:=x) (J:=J) (r:=r) n;have hixJ:=hix J;rw [← hL] at oJ hZ hcs hixJ;clear hL;obtain ⟨y1,hx1⟩:∃ v,x[J]?=some v:=⟨_,List.getElem?_eq_getElem (by omega)⟩;obtain ⟨u1,u2⟩:=hx y1 (List.mem_of_getElem? hx1);refine wk1 (x2 hlt' g1) ?_;refine q3E (fun q:Nat × (Nat→List Int)=>q.1≤L.length∧RI x n q.2 (fun r=>sg (fun J=>sg (fun i=>ce x J (i,(f J i).getD 0) r) n) J+q1K ((L.take q.1).map fun e=>ce x J e r)) (J*(2*n)+2*q.1)) [1,2,6,7,18,19] [2] Lk Lk (fun q=>[(8,iv ((o J+q.1:Nat):Int))]) (fun _=>[]) (fun q=>qnJ n q.2) (fun q=>L.length-q.1) (0,rows) ⟨Nat.zero_le _,by simpa [q9C] using hI⟩ ?_ ?_
   ·refine LeW [] rfl rfl ?_ ?_ (by simp [q7m,q53,win]) ?_
    ·repeat (first | exact q3H | exact q7q | exact q8i | exact q7p (by simp [nmW]) (by simp [nmW]) | refine q8j (by omega) ?_)
    ·exact q3S (by omega)
    ·try simp -implicitDefEqProofs (disch:=omega) only [go_sem,Nat.reduceEqDiff,Nat.reduceAdd,↓reduceIte]
   ·rintro ⟨t,rows⟩ ⟨ht,hI⟩;simp only at ht hI ⊢
    by_cases hlt2:t < L.length
    ·obtain ⟨⟨i,v⟩,e1,e2,e3⟩:=hixJ (o J+t) (by omega) (by omega) (by omega);rw [Nat.add_sub_cancel_left] at e1;dsimp only at e2 e3;obtain ⟨hin,hfv⟩:=(hZ i v).1 (List.mem_of_getElem? e1);have hv1:=h.u J i v hlt hin hfv;have hv2:=h.v J i v hlt hin hfv;have hq:((o J+t:Nat):Int) < ((o (J+1):Nat):Int):=by omega
     have C1:=q2m hv1 (q0h hv2);have C2:=q2m u1 (q0h u2);obtain ⟨y2,hx2⟩:∃ v,x[i]?=some v:=⟨_,List.getElem?_eq_getElem (by omega)⟩;obtain ⟨w1,w2⟩:=hx y2 (List.mem_of_getElem? hx2);have C3:=q2m w1 (q0h w2);have M1:=q0w hv2 u2;have M2:=q0w hv2 w2;have C4:=qjb (q4v (q3J hv2) (q3J u2) M1.1) (q4S M1.1).2.2.2;have C5:=qjb (q4v (q3J hv2) (q3J w2) M2.1) (q4S M2.1).2.2.2;have hI2:=hI.step (J:=J) (e:=(i,v)) hx hv2;have hI3:RI x n (apZ x J (i,v) rows) (fun r=>sg (fun J=>sg (fun i=>ce x J (i,(f J i).getD 0) r) n) J+q1K ((L.take (t+1)).map fun e=>ce x J e r)) (J*(2*n)+2*(t+1)) :=
      ⟨fun r hr=>by rw [hI2.s r hr,q5d e1,List.map_append,List.map_singleton,q1E]; omega,fun r=>by have:=hI2.l r; omega,hI2.b⟩
     have hJn:J*(2*n)≤20*40:=Nat.mul_le_mul (by omega) (by omega);have hrl:=hI.l;clear hI hI2;have hr1:(List.range n)[i]?=some i:=List.getElem?_range hin;have hr2:(List.range n)[J]?=some J:=List.getElem?_range hlt;have hob:=(List.getElem?_eq_some_iff.1 e2).1;have wt:IntKind.i64.wrap (((o J+t:Nat):Int)+1)=((o J+(t+1):Nat):Int):=by rw [i64_in (by omega) (by omega)]; omega
     by_cases hlt3:i < J
     ·have q3:(i:Int) < J:=by omega
      refine wk1 (x6 g1 g2 ww hq e2 (x3 e3 q3 wt)) ?_;refine ⟨(t+1,rows),⟨hlt2,by rwa [show apZ x J (i,v) rows=rows from if_neg (by dsimp only; omega)] at hI3⟩,by simp only; omega,?_⟩;refine LeW [] rfl rfl ?_ ?_ (by simp [q7m,q53,win]) ?_
      ·repeat (first | exact q3H | exact q7q | exact q8i | exact q7p (by simp [nmW]) (by simp [nmW]) | refine q8j (by omega) ?_)
      ·exact q3S (by omega)
      ·try simp -implicitDefEqProofs (disch:=omega) only [go_sem,Nat.reduceEqDiff,Nat.reduceAdd,↓reduceIte]
     ·have q3:¬ (i:Int) < J:=by omega
      have hli:(rows i).length≤2000:=by have:=hrl i; omega
      refine wk1 (x6 g1 g2 ww hq e2 (x4 e3 q3 hr1 hx1)) ?_;refine q8o (q7B (r:=65) (k:=i) (x:=pV (q1U v y1)) (T1:=125) (T2:=74) (K:=some 4) (N:=5000) (R:=10000) (n:=n) (row:=qno rows) (fun _ h=>h) hin (fun j=>by rw [q3g]; exact clV) ?_ ?_ (fun j hj hne=>?_) (by omega) (by omega) (by omega) (by omega) (xs:=[(1,pF x),(2,.pt 2 0 0),(6,.ow 5000 none 0 n),(7,iv J),(8,iv ((o J+t:Nat):Int)),(9,iv i),(10,.pt 10 0 0),(18,iv n),(19,iv J),(69,bv (decide ((i:Int) > J)))]) (kv:=[]) (kb:=[(2,some ⟨52,some 5,[.ag [iv n,iv n,pI st,pI ix,pF vl]],false⟩),(10,some ⟨74,some 4,[dT (ofZ v)],false⟩)]) (by simp [nmW]) ?_) ?_
      ·try simp -implicitDefEqProofs (disch:=omega) only [go_sem,Nat.reduceEqDiff,Nat.reduceAdd,↓reduceIte]
      ·try simp -implicitDefEqProofs (disch:=omega) only [go_sem,Nat.reduceEqDiff,Nat.reduceAdd,↓reduceIte]
      ·try refine Zz ?_
       exact if_neg hne
      ·try simp -implicitDefEqProofs (disch:=omega) only [go_sem,Nat.reduceEqDiff,Nat.reduceAdd,↓reduceIte]
      rw [q3g]
      by_cases hgt:i > J
      ·have q4:(i:Int) > J:=by omega
       have hli2:(q2T rows i (q1U v y1) J).length≤2000:=by unfold q2T; rw [if_neg (by omega)]; have:=hrl J; omega
       refine wk1 (x4 q4 hr2 hx2 wt) ?_;refine ⟨(t+1,q2T (q2T rows i (q1U v y1)) J (q1U v y2)),⟨hlt2,by rwa [show apZ x J (i,v) rows=q2T (q2T rows i (q1U v y1)) J (q1U v y2) by unfold apZ; dsimp only; rw [if_pos (by omega),if_pos hgt,getD_some hx1,getD_some hx2]] at hI3⟩,by simp only; omega,?_⟩;have er:=q3g (rows:=q2T rows i (q1U v y1)) (k:=J) (z:=q1U v y2);simp only;unfold qnJ;rw [← er];refine q7B (r:=84) (fun _ h=>h) hlt (fun j=>by rw [q3g]; exact clV) ?_ ?_ (fun j hj hne=>?_) (by omega) (by omega) (by omega) (by omega) (by simp [nmW]) ?_
       ·try simp -implicitDefEqProofs (disch:=omega) only [go_sem,Nat.reduceEqDiff,Nat.reduceAdd,↓reduceIte]
       ·try simp -implicitDefEqProofs (disch:=omega) only [go_sem,Nat.reduceEqDiff,Nat.reduceAdd,↓reduceIte]
       ·try refine Zz ?_
        exact if_neg hne
       ·try simp -implicitDefEqProofs (disch:=omega) only [go_sem,Nat.reduceEqDiff,Nat.reduceAdd,↓reduceIte]
      ·have q4:¬ (i:Int) > J:=by omega
       refine wk1 (x2 q4 wt) ?_;refine ⟨(t+1,q2T rows i (q1U v y1)),⟨hlt2,by rwa [show apZ x J (i,v) rows=q2T rows i (q1U v y1) by unfold apZ; dsimp only; rw [if_pos (by omega),if_neg hgt,getD_some hx1]] at hI3⟩,by simp only; omega,?_⟩;refine LeW [] rfl rfl ?_ ?_ (by simp [q7m,q53,win]) ?_
       ·repeat (first | exact q3H | exact q7q | exact q8i | exact q7p (by simp [nmW]) (by simp [nmW]) | refine q8j (by omega) ?_)
       ·exact q3S (by omega)
       ·try simp -implicitDefEqProofs (disch:=omega) only [go_sem,Nat.reduceEqDiff,Nat.reduceAdd,↓reduceIte]
    ·obtain rfl:t=L.length:=by omega
     have hq:¬ ((o J+L.length:Nat):Int) < ((o (J+1):Nat):Int):=by omega
     rw [List.take_length] at hI;refine wk1 (x3 g2 ww hq) ?_;refine ⟨(J+1,rows),⟨hlt,fun r hr=>by rw [hI.s r hr,hcs r]; rfl,fun r=>by have:=hI.l r; simp only; rw [Nat.succ_mul]; omega,hI.b⟩,by simp only; omega,?_⟩;refine LeW [] rfl rfl ?_ ?_ (by simp [q7m,q53,win]) ?_
     ·repeat (first | exact q3H | exact q7q | exact q8i | exact q7p (by simp [nmW]) (by simp [nmW]) | refine q8j (by omega) ?_)
     ·exact q3S (by omega)
     ·try simp -implicitDefEqProofs (disch:=omega) only [go_sem,Nat.reduceEqDiff,Nat.reduceAdd,↓reduceIte]
  ·obtain rfl:J=n:=by omega
   have hlt':¬ (J:Int) < J:=by omega
   have hJn:J*(2*J)≤20*40:=Nat.mul_le_mul (by omega) (by omega);have hsum:∀ r,r < J→q1K (rows r)=q3F (qar f J r) x:=fun r hr=>(hI.s r hr).trans (qlm hr hxl);have hrl:=hI.l;have hdy:=fun r=>qgy (hI.b r) (by have:=hrl r; omega);have hb:=hI.b;have hal:=fun i=>show (q25 f x J i).length=i by simp [q25]
   have has:=fun i=>show q25 f x J (i+1)=q25 f x J i ++ [fR 0 (q3F (qar f J i) x)] by unfold q25; rw [List.range_succ,List.map_append]; rfl
   have ha0:q25 f x J 0=[]:=rfl;have hfu:∀ z ∈ q25 f x J J,z < 18446744073709551616:=fun z hz=>by
    obtain ⟨k,_,rfl⟩:=List.mem_map.1 hz;exact qdC
   have C7:=q3B hfu (by rw [hal]; omega);unfold lnR;have N1:Nz (bv (decide (∀ z ∈ q25 f x J J,q0V z))):=qoT;generalize decide (∀ z ∈ q25 f x J J,q0V z)=bb at *;generalize q25 f x J=A at *;clear hI hg hix;refine wk1 hlt' ?_;refine q3E (fun r=>r≤J) [87,88] [] Lk Lk (fun r:Nat=>[(89,iv r),(11,.ow 1001 none 0 r)]) (fun r=>[(1001,⟨30,none,(A r).map fun z:Nat=>uv z,false⟩)]) (fun _=>qnJ J rows) (fun r=>J-r) 0 (Nat.zero_le _) ?_ ?_
   ·refine LeW [(1001,none)] rfl rfl ?_ ?_ (by simp [q7m,q53,win]) ?_
    ·repeat (first | exact q3H | exact q7q | exact q8i | exact q7p (by simp [nmW]) (by simp [nmW]) | refine q8j (by omega) ?_)
    ·exact q3S (by omega)
    ·try refine Zz ?_
     rw [ha0];exact ⟨rfl,rfl⟩
   ·intro r hr
    by_cases hlt2:r < J
    ·have q2:(r:Int) < J:=by omega
     have hr1:(List.range J)[r]?=some r:=List.getElem?_range hlt2;have hd:=hdy r;have C1:=q7s (l:=rows r) (by have:=hrl r; omega) (fun z hz=>by have:=hb r z hz; unfold q0i; omega) hd;have C2:=q72 hd;have N2:=qoU hd;rw [hsum r hlt2] at C1 C2 N2;have es:=has r;have hll:=hal r;have hli:=hrl r;refine wk1 (x3 q2 hr1 hll) ?_;refine ⟨r+1,by omega,by omega,?_⟩;rw [es];refine LeW [(1001,some 98)] rfl rfl ?_ ?_ (by simp [q7m,q53,win]) ?_
     ·repeat (first | exact q3H | exact q7q | exact q8i | exact q7p (by simp [nmW]) (by simp [nmW]) | refine q8j (by omega) ?_)
     ·exact q3S (by omega)
     ·try refine Zz ?_
      omega
    ·obtain rfl:r=J:=by omega
     exact wk1 (x2 hlt' (hal r)) trivial
end
structure PtrOk (n:Nat) (cp:List Int) (m:Nat):Prop where
 c0:cp[0]?=some 0
 cn:cp[n]?=some (m:Int)
 mono:∀ i,i < n→∀ x y,cp[i]?=some x→cp[i+1]?=some y→x≤y
theorem PtrOk.le {n m:Nat} {cp:List Int} (h:PtrOk n cp m) (hl:cp.length=n+1):∀ d j,j+d=n→∀ x,cp[j]?=some x→x≤m
 | 0,j,hj,x,hx=>by
  obtain rfl:j=n:=by omega
  have:=Option.some.inj (hx.symm.trans h.cn); omega
 | d+1,j,hj,x,hx=>by
  obtain ⟨y,hy⟩:∃ y,cp[j+1]?=some y:=⟨_,List.getElem?_eq_getElem (by omega)⟩;have h1:=h.mono j (by omega) _ _ hx hy;have h2:=h.le hl d (j+1) (by omega) y hy;omega
theorem CoC.lt {n j:Nat} {col:List Int} (h:CoC n j col):∀ d p,p+d+1=col.length→∀ z,col[p]?=some z→z < n
 | 0,p,hp,z,hz=>h.l z (by rw [show col.length-1=p by omega]; exact hz)
 | d+1,p,hp,z,hz=>by
  obtain ⟨y,hy⟩:∃ y,col[p+1]?=some y:=⟨_,List.getElem?_eq_getElem (by omega)⟩;have h1:=h.m p z y hz hy;have h2:=h.lt d (p+1) (by omega) y hy;omega
theorem q4x {f:Fac} {i:Int}:∀ (k a:Nat),(∀ p,a≤p→p < a+k→f.ri[p]?≠some i)→q2d f i a k=0
 | 0,_,_=>rfl
 | k+1,a,h=>by
  unfold q2d;rw [if_neg (h a (Nat.le_refl _) Oq)];exact q4x k (a+1) fun p h1 h2=>h p Oq Oq
theorem qbL {f:Fac} {i:Int} (h:q1M f.vs):∀ (k a:Nat),q2d f i a k < 18446744073709551616∧q0V (q2d f i a k)
 | 0,_=>⟨by simp [q2d],by unfold q2d q0V; simp⟩
 | k+1,a=>by
  unfold q2d
  split
  ·exact qci h
  ·exact qbL h k (a+1)
theorem q5H {q:Nat}:q1U 0 q=0:=by
 unfold q1U;rw [q1I qfA,Int.zero_mul,q1x]
 rfl
theorem q7C {f:Fac} {j a b q:Nat} (h:Col f j a b) (hn:f.pm.length≤200) (hrv:f.ri.length=f.vs.length) :
  ∀ (c p:Nat) (rows:List (List Int)),a < p→p+c=b→f.pm.length≤rows.length→∀ (i:Nat) (r:List Int),rows[i]?=some r→∃ r',(qb1 f q p c rows)[i]?=some r'∧q1K r'=q1K r-q1U (q2d f i p c) q
 | 0,p,rows,_,_,_,i,r,hr=>⟨r,hr,by simp [q2d,q5H]⟩
 | c+1,p,rows,ha,hp,hl,i,r,hr=>by
  obtain ⟨i0,h1,h2,h3⟩:=h.row hn ha Oq;have hle:=h.le;obtain ⟨x,hv⟩:∃ x,f.vs[p]?=some x:=⟨_,List.getElem?_eq_getElem Oq⟩;obtain ⟨r0,hr0⟩:∃ r0,rows[i0]?=some r0:=⟨_,List.getElem?_eq_getElem Oq⟩;rw [q7D h1 hv hr0];have ih:=q7C (q:=q) h hn hrv c (p+1) (rows.set i0 (r0 ++ [-(q1U x q)])) Oq Oq (by simpa using hl) i
  by_cases hi:i=i0
  ·subst hi;obtain rfl:r=r0:=Option.some.inj (hr.symm.trans hr0);obtain ⟨r',h4,h5⟩:=ih _ (List.getElem?_set_self Oq);refine ⟨r',h4,?_⟩;have hnone:q2d f i (p+1) c=0:=q4x c (p+1) fun p' q1 q2 hc=>by
    have:=h.mono (p'-p) p i i Oq Oq h1 (by rw [show p+(p'-p)=p' by omega]; exact hc);rw [if_neg (by omega)] at this;omega
   have hsome:q2d f i p (c+1)=x:=by unfold q2d; rw [if_pos h1]; exact getD_some hv
   rw [h5,hnone,hsome,q1E,q5H];omega
  ·obtain ⟨r',h4,h5⟩:=ih r (by rw [List.getElem?_set_ne (fun e=>hi e.symm)]; exact hr);refine ⟨r',h4,?_⟩;have hne:q2d f i p (c+1)=q2d f i (p+1) c:=by
    rw [q2d,if_neg (by rw [h1]; intro e; have:=Option.some.inj e; omega)]
   rw [h5,hne]
def elF (f:Fac) (i j:Nat):Nat:=q2d f i (f.cp.getD j 0).toNat ((f.cp.getD (j+1) 0).toNat-(f.cp.getD j 0).toNat)
theorem q5s {f:Fac} {i j a b:Nat} (h:Col f j a b):elF f i j=q2d f i a (b-a):=by
 unfold elF;rw [getD_some h.ha,getD_some h.hb]; rfl
def qeM (f:Fac) (b ys:List Nat) (k:Nat):Nat→List Int
 | 0=>[ofZ (b.getD k 0)]
 | m+1=>qeM f b ys k m ++ [-(q1U (elF f k m) (ys.getD m 0))]
theorem q5o {f:Fac} {b ys zs:List Nat} {k:Nat}:∀ m,(∀ i,i < m→ys.getD i 0=zs.getD i 0)→qeM f b ys k m=qeM f b zs k m
 | 0,_=>rfl
 | m+1,h=>by unfold qeM; rw [q5o m fun i hi=>h i Oq,h m (by omega)]
open Classical in
theorem q59 {l:List Nat} (hu:∀ x ∈ l,x < 18446744073709551616) (hn:l.length≤1000000):ACt 83 [pF l] (bv (decide (∀ x ∈ l,q0V x))):=by
 obtain ⟨res,hres⟩:∃ res,res=decide (∀ x ∈ l,q0V x):=⟨_,rfl⟩;rw [← hres];refine ac0 Tryz.func83 Tryz.ntmps83 [.tmp 2] ?_;refine wk ?_;refine q0T (fun i=>i≤l.length∧∀ x ∈ l.take i,q0V x) [0] [] Lk Lk (fun i:Nat=>[(3,iv i)]) (fun _=>[]) (fun i=>l.length-i) 0 ⟨Nat.zero_le _,by simp⟩ ?_ ?_
 ·refine LeM [] rfl rfl ?_;refine Zz ?_
  rfl
 ·rintro i ⟨hi,hf⟩
  by_cases hil:i < l.length
  ·obtain ⟨x,hx⟩:∃ x,l[i]?=some x:=⟨_,List.getElem?_eq_getElem hil⟩;have hmx:=List.mem_of_getElem? hx;have cF:=q6T (hu x hmx)
   by_cases hfx:q0V x
   case neg =>
    rw [decide_eq_false hfx] at cF;refine wk1 hx ?_;exact (hres.trans (decide_eq_false fun h=>hfx (h x hmx))).symm
   rw [decide_eq_true hfx] at cF;refine wk1 hx ?_;refine ⟨i+1,⟨by omega,?_⟩,by omega,?_⟩
   ·rw [q5d hx];intro y hy
    rcases List.mem_append.1 hy with hy | hy
    ·exact hf y hy
    ·simp at hy; subst hy; exact hfx
   ·refine LeM [] rfl rfl ?_;refine Zz ?_
    rfl
  ·obtain rfl:i=l.length:=by omega
   rw [List.take_length] at hf;refine wk ?_;exact (hres.trans (decide_eq_true hf)).symm
open Classical in
noncomputable def q8G (e:Int) (n:Nat) (l:List Nat):Int:=if e≠0 then e else if l.length≠n then 2 else if ¬ ∀ x ∈ l,q0V x then 4 else 0
def qhI (B:Int) (l x:List Nat):Nat→List Int
 | 0=>[B]
 | m+1=>qhI B l x m ++ [-(q1U (l.getD m 0) (x.getD m 0))]
theorem clU {l:List Nat}:ClL (l.map fun z:Nat=>uv z):=fun x hx=>by
 obtain ⟨q,_,rfl⟩:=List.mem_map.1 hx
 trivial
theorem qnp {n c v:Nat} {f:Nat→Nat}:(((List.range n).map f).set c v)=(List.range n).map fun y=>if y=c then v else f y:=by
 apply List.ext_getElem?
 intro i;rw [List.getElem?_set];simp only [List.length_map,List.length_range,List.getElem?_map]
 by_cases hi:i < n
 ·rw [List.getElem?_range hi]
  by_cases hc:c=i
  ·subst hc; simp [hi]
  ·simp [hc,Ne.symm hc]
 ·rw [List.getElem?_eq_none (by simpa using hi)]
  by_cases hc:c=i <;> simp [hc]
  omega
def rwG (n:Nat) (g:Nat→Nat) (m:Nat):List Nat:=(List.range n).map fun j=>if j < m then g j else 0
theorem q3U {n m:Nat} {g:Nat→Nat}:(rwG n g m).length=n:=by simp [rwG]
theorem qjN {n m:Nat} {g:Nat→Nat}:(rwG n g m).set m (g m)=rwG n g (m+1):=by
 unfold rwG;rw [qnp];refine List.map_congr_left fun y _=>?_
 by_cases h:y=m
 ·subst h; rw [if_pos rfl,if_pos (by omega)]
 ·rw [if_neg h]
  by_cases h2:y < m
  ·rw [if_pos h2,if_pos (by omega)]
  ·rw [if_neg h2,if_neg (by omega)]
theorem qjO {n:Nat} {g:Nat→Nat}:List.replicate n 0=rwG n g 0:=by
 unfold rwG;simp [List.map_const']
def q56 (f:Fac) (n k:Nat):List (List Nat):=(List.range k).map fun i=>rwG n (elF f i) (i+1)
def trS (L:List (List Nat)) (n k:Nat):List (List Nat):=(List.range k).map fun i=>rwG n (fun j=>(L.getD j []).getD i 0) n
theorem qgN {f:Fac} {n k:Nat}:(q56 f n k).length=k:=by simp [q56]
theorem qiq {L:List (List Nat)} {n k:Nat}:(trS L n k).length=k:=by simp [trS]
noncomputable def loV (L:List (List Nat)) (b ys:List Nat) (k:Nat):Nat:=fQ 0 (q1K (qhI (ofZ (b.getD k 0)) ((L.getD k []).take k) (ys.take k) k)) (ofZ ((L.getD k []).getD k 0))
noncomputable def loF (L:List (List Nat)) (b:List Nat):Nat→Nat→List Nat→Option (List Nat)
 | 0,_,ys=>some ys
 | m+1,k,ys=>if q0V (loV L b ys k) then loF L b m (k+1) (ys.set k (loV L b ys k)) else none
noncomputable def upV (U:List (List Nat)) (b ys:List Nat) (n k:Nat):Nat:=fQ 0 (q1K (qhI (ofZ (b.getD k 0)) ((U.getD k []).drop (k+1)) (ys.drop (k+1)) (n-(k+1)))) (ofZ ((U.getD k []).getD k 0))
noncomputable def upF (U:List (List Nat)) (b:List Nat) (n:Nat):Nat→List Nat→Option (List Nat)
 | 0,ys=>some ys
 | k+1,ys=>if q0V (upV U b ys n k) then upF U b n k (ys.set k (upV U b ys n k)) else none
theorem q4p {l:List Nat} {k v:Nat} (h:q1M l) (h1:v < 18446744073709551616) (h2:q0V v):q1M (l.set k v):=fun x hx=>by
 rcases List.mem_or_eq_of_mem_set hx with h3 | rfl
 ·exact h x h3
 ·exact ⟨h1,h2⟩
theorem q3o {n:Nat}:q1M (List.replicate n 0):=fun x hx=>by
 rw [List.eq_of_mem_replicate hx];exact ⟨by omega,by unfold q0V; simp⟩
structure SqM (L:List (List Nat)) (n:Nat):Prop where
 len:L.length=n
 row:∀ r ∈ L,r.length=n∧q1M r
 dg:∀ k,k < n→ofZ ((L.getD k []).getD k 0)≠0
theorem q3V {n m i:Nat} {g:Nat→Nat} (hi:i < n):(rwG n g m)[i]?=some (if i < m then g i else 0):=by
 unfold rwG;rw [List.getElem?_map,List.getElem?_range hi]; rfl
theorem q69 {f:Fac} {n k:Nat} (hk:k < n):(q56 f n n)[k]?=some (rwG n (elF f k) (k+1)):=by
 unfold q56;rw [List.getElem?_map,List.getElem?_range hk]; rfl
theorem q7A {α:Type} {l:List α} {k i:Nat} {d:α} (hi:i < k):(l.take k).getD i d=l.getD i d:=by
 rw [List.getD_eq_getElem?_getD,List.getD_eq_getElem?_getD,List.getElem?_take,if_pos hi]
theorem qbq {f:Fac} {b ys:List Nat} {n k:Nat} (hk:k < n):∀ m,m≤k→qhI (ofZ (b.getD k 0)) ((rwG n (elF f k) (k+1)).take k) (ys.take k) m=qeM f b ys k m
 | 0,_=>rfl
 | m+1,hm=>by
  rw [qhI,qeM,qbq hk m (by omega),q7A (by omega),q7A (by omega),getD_some (q3V (by omega)),if_pos (by omega)]
theorem qju {f:Fac} {b ys:List Nat} {n k:Nat} (hk:k < n):loV (q56 f n n) b ys k=fQ 0 (q1K (qeM f b ys k k)) (ofZ (elF f k k)):=by
 unfold loV;rw [getD_some (q69 hk),qbq hk k (Nat.le_refl _),getD_some (q3V hk),if_pos (by omega)]
theorem qck {f:Fac} {b:List Nat} (ho:FacOk f):∀ (m k:Nat) (rows:List (List Int)) (ys:List Nat),k+m=f.pm.length→rows.length=f.pm.length→ys.length=f.pm.length →
  (∀ i,k≤i→i < f.pm.length→∃ r,rows[i]?=some r∧q1K r=q1K (qeM f b ys i k))→qeN f ((List.range' k m).map fun i:Nat=>(i:Int)) rows ys=loF (q56 f f.pm.length f.pm.length) b m k ys
 | 0,k,rows,ys,_,_,_,_=>by
  simp only [List.range'_zero,List.map_nil]
  rfl
 | m+1,k,rows,ys,hk,hr,hy,h=>by
  obtain ⟨a,e,hcol⟩:=ho.col k (by omega);have hlt:=hcol.lt;have hle:=hcol.le;obtain ⟨r,hr0,hsum⟩:=h k (Nat.le_refl _) (by omega);obtain ⟨x,V,d1,d2,d3⟩:=hcol.diag;have hel:elF f k k=x:=by
   rw [q5s hcol,show e-a=(e-(a+1))+1 by omega,q2d,if_pos hcol.first];exact getD_some d1
  rw [List.range'_succ,List.map_cons,q7Z hcol.ha hcol.hb d1 hr0,loF,qju (by omega),hel,← hsum];obtain ⟨y,hyv⟩:∃ y,y=fQ 0 (q1K r) (ofZ x):=⟨_,rfl⟩;rw [← hyv]
  by_cases hfin:q0V y
  case neg=>rw [if_neg hfin,if_neg hfin]
  rw [if_pos hfin,if_pos hfin];have hset:∀ i,i < k→ys.getD i 0=(ys.set k y).getD i 0:=fun i hi=>by
   rw [List.getD_eq_getElem?_getD,List.getD_eq_getElem?_getD,List.getElem?_set_ne (by omega)]
  have hsk:(ys.set k y).getD k 0=y:=getD_some (List.getElem?_set_self (by omega));refine qck ho m (k+1) _ _ (by omega) (by rw [q9E]; exact hr) (by simpa using hy) ?_;intro i hi1 hi2;obtain ⟨ri,h1,h2⟩:=h i (by omega) hi2;obtain ⟨r',h3,h4⟩:=q7C (q:=y) hcol ho.n ho.ril (e-(a+1)) (a+1) rows (by omega) (by omega) (by omega) i ri h1;refine ⟨r',h3,?_⟩;have hel2:elF f i k=q2d f i (a+1) (e-(a+1)):=by
   rw [q5s hcol,show e-a=(e-(a+1))+1 by omega,q2d,if_neg (by rw [hcol.first]; intro e; have:=Option.some.inj e; omega)]
  rw [h4,h2,qeM,q1E,hsk,hel2,← q5o k hset];omega
theorem qop {f:Fac} {b:List Nat} (ho:FacOk f) (hb:b.length=f.pm.length):qeN f (qaH b.length) (b.map fun x=>[ofZ x]) (List.replicate b.length 0)=loF (q56 f f.pm.length f.pm.length) b f.pm.length 0 (List.replicate f.pm.length 0):=by
 rw [hb,← qck (b:=b) ho f.pm.length 0 (b.map fun x=>[ofZ x]) (List.replicate f.pm.length 0) (by omega) (by simpa using hb) (by simp) ?_]
 ·unfold qaH; rw [List.range_eq_range']
 intro i _ hi;obtain ⟨x,hx⟩:∃ x,b[i]?=some x:=⟨_,List.getElem?_eq_getElem (by omega)⟩;refine ⟨[ofZ x],by rw [List.getElem?_map,hx]; rfl,?_⟩;rw [qeM,getD_some hx]
theorem qdV {f:Fac} (ho:FacOk f):SqM (q56 f f.pm.length f.pm.length) f.pm.length:=⟨qgN,fun r hr=>by
 obtain ⟨i,hi,rfl⟩:=List.mem_map.1 hr;refine ⟨q3U,fun x hx=>?_⟩;obtain ⟨j,hj,rfl⟩:=List.mem_map.1 hx
 split
 ·obtain ⟨a,b,hc⟩:=ho.col j (List.mem_range.1 hj);rw [q5s hc];exact qbL ho.vals _ _
 ·exact ⟨by omega,by unfold q0V; simp⟩,fun k hk=>by
 rw [getD_some (q69 hk),getD_some (q3V hk),if_pos (by omega)];obtain ⟨a,e,hcol⟩:=ho.col k hk;have hlt:=hcol.lt;obtain ⟨x,V,d1,d2,d3⟩:=hcol.diag;have hel:elF f k k=x:=by
  rw [q5s hcol,show e-a=(e-(a+1))+1 by omega,q2d,if_pos hcol.first];exact getD_some d1
 rw [hel,q1I d2];omega⟩
section
variable {x y:List Nat} {t:Nat}
end
section
variable {f:Nat→Nat→Option Nat} {x:List Nat} {R C:Nat}
open Classical in
noncomputable def qla (f:Nat→Nat→Option Nat) (R C:Nat) (x:List Nat):List Nat × Int :=
 if R≠C then ([],5) else if x.length≠R then ([],2) else if ¬ ∀ v ∈ x,q0V v then ([],4) else if ∀ v ∈ q25 f x R R,q0V v then (q25 f x R R,0) else ([],233)
abbrev erR (p:List Nat × Int):PV:=.tu [pF p.1,iv p.2]
theorem qa3 (h:TOk f R C) (hu:∀ v ∈ x,v < 18446744073709551616) (hl:x.length≤1000) (hR:R≤20):ACt 39 [pT R C f,pF x] (erR (qla f R C x)):=by
 have C1:=q9A h;have C2:=q3B hu (by omega);have hRC:=h.c;have key:R=C→x.length=R→(∀ v ∈ x,q0V v)→ACt 107 [pT R C f,pF x] (lnR (q25 f x R R)):=fun e1 e2 e3=>by subst e1; exact q7V h (fun v hv=>⟨hu v hv,e3 v hv⟩) e2 hR
 unfold erR qla;unfold pT q5k at *
 by_cases h1:R=C
 ·rw [if_neg (not_not_intro h1)];subst h1
  by_cases h2:x.length=R
  ·rw [if_neg (not_not_intro h2)]
   by_cases h3:∀ v ∈ x,q0V v
   ·rw [if_neg (not_not_intro h3)];have C3:=key rfl h2 h3;rw [decide_eq_true h3] at C2;unfold lnR at C3
    by_cases h4:∀ v ∈ q25 f x R R,q0V v
    ·rw [if_pos h4];rw [decide_eq_true h4] at C3;generalize q25 f x R R=A at *;refine ac0 Tryz.func39 Tryz.ntmps39 [.tmp 4,.tmp 5] ?_;exact wk1 h2 trivial
    ·rw [if_neg h4];rw [decide_eq_false h4] at C3;generalize q25 f x R R=A at *;refine ac0 Tryz.func39 Tryz.ntmps39 [.tmp 4,.tmp 5] ?_;exact wk1 h2 trivial
   ·rw [if_pos h3];rw [decide_eq_false h3] at C2;refine ac0 Tryz.func39 Tryz.ntmps39 [.tmp 4,.tmp 5] ?_;exact wk1 h2 trivial
  ·rw [if_pos h2];refine ac0 Tryz.func39 Tryz.ntmps39 [.tmp 4,.tmp 5] ?_;exact wk trivial
 ·rw [if_pos h1];refine ac0 Tryz.func39 Tryz.ntmps39 [.tmp 4,.tmp 5] ?_;exact wk trivial
theorem qbY {n i:Nat} (h:TOk f n n) (hi:i < n):q1M (qar f n i):=fun v hv=>by
 obtain ⟨j,hj,rfl⟩:=List.mem_map.1 hv;have hj:=List.mem_range.1 hj;have:=h.fin (j:=min i j) (i:=max i j) (by omega) (by omega);exact ⟨this.2,this.1⟩
open Classical in
theorem qaA {n:Nat} (h:TOk f n n) (hx:q1M x) (hxl:x.length=n) (hn:n≤20):ACt 40 [pT n n f,pF x] (erR (if ∀ v ∈ q25 f x n n,q0V v then (q25 f x n n,0) else ([],233))):=by
 have C1:=qbX h;have C2:=q59 (l:=x) (fun v hv=>(hx v hv).1) (by omega);rw [decide_eq_true fun v hv=>(hx v hv).2] at C2;have C3:=fun i j hi hj=>qnO (i:=i) (j:=j) h hi hj;obtain ⟨g,hg⟩:∃ g:Nat→Nat,g=fun k=>fR 0 (q3F (qar f n k) x):=⟨_,rfl⟩;have hgk:=fun k=>congrFun hg k;have hle:q25 f x n n=rwG n g n:=by
  unfold q25 rwG;rw [hg];exact List.map_congr_left fun k hk=>by rw [if_pos (List.mem_range.1 hk)]
 have hrl:=fun m=>q3U (n:=n) (g:=g) (m:=m);have hrs:=fun m=>qjN (n:=n) (g:=g) (m:=m);have hrg:=fun m i hi=>q3V (n:=n) (g:=g) (m:=m) (i:=i) hi;have hr0:=qjO (n:=n) (g:=g);rw [hle];unfold erR;generalize rwG n g=rw0 at *;unfold pT q5k at *;refine ac0 Tryz.func40 Tryz.ntmps40 [.tmp 4,.tmp 5] ?_;refine wk1 hxl ?_;refine q0T (fun i=>i≤n∧∀ k,k < i→q0V (g k)) [1,2] [2] Lk Lk (fun i:Nat=>[(8,iv i),(7,.ow 1001 none 0 n)]) (fun i=>[(1001,⟨30,none,(rw0 i).map fun z:Nat=>uv z,false⟩)]) (fun i=>n-i) 0 ⟨Nat.zero_le _,fun _ h=>by omega⟩ ?_ ?_
 ·refine LeM [(1001,some 31)] rfl rfl ?_;refine Zz ?_;exact ⟨rfl,hr0⟩
 ·rintro i ⟨hi,hgf⟩
  by_cases hlt:i < n
  ·have q1:(i:Int) < n:=by omega
   obtain ⟨gr,hgr⟩:∃ gr:Nat→Nat,gr=fun j=>(f (min i j) (max i j)).getD 0:=⟨_,rfl⟩;have hgrk:=fun k=>congrFun hgr k;have hre:qar f n i=rwG n gr n:=by
    unfold qar rwG;rw [hgr];exact List.map_congr_left fun k hk=>by rw [if_pos (List.mem_range.1 hk)]
   have grl:=fun m=>q3U (n:=n) (g:=gr) (m:=m);have grs:=fun m=>qjN (n:=n) (g:=gr) (m:=m);have gr0:=qjO (n:=n) (g:=gr);have hsf:=qbY h hlt;have es:=hgk i;rw [hre] at hsf es;have C4:=qia hsf hx (by rw [grl]; omega) (by rw [grl]; exact hxl);have N1:=nz_V (V:=q3F (rwG n gr n) x);have C5:=qj1 (A:=q3F (rwG n gr n) x);rw [← es] at C5;have hgl:g i < 18446744073709551616:=by rw [es]; exact qdC
   have C6:=q6T hgl;generalize rwG n gr=rw1 at *;have e1:=hrs i;have e3:(((rw0 i).map fun z:Nat=>uv z).set i (uv (g i:Nat)))[i]?=some (uv (g i:Nat)):=List.getElem?_set_self (by rw [List.length_map,hrl]; exact hlt);refine wk1 (x2 q1 hxl) ?_;refine q0T (fun j=>j≤n) [1,2,7,8] [2,1001] Lk Lk (fun j:Nat=>[(10,iv j),(9,.ow 1002 none 0 n)]) (fun j=>[(1002,⟨30,none,(rw1 j).map fun z:Nat=>uv z,false⟩)]) (fun j=>n-j) 0 (Nat.zero_le _) ?_ ?_
   ·refine LeM [(1002,some 40)] rfl rfl ?_;refine Zz ?_;exact ⟨rfl,gr0⟩
   ·intro j hj
    by_cases hlt2:j < n
    ·have q2:(j:Int) < n:=by omega
     have C7:=C3 (max i j) (min i j) (by omega) (by omega);have m1:max (i:Int) (j:Int)=((max i j:Nat):Int):=by omega
     have m2:min (i:Int) (j:Int)=((min i j:Nat):Int):=by omega
     rw [← hgrk j] at C7;have g1:=grs j;refine wk1 (x5 q2 hxl m1 m2 (grl j)) ?_;refine ⟨j+1,by omega,by omega,?_⟩;rw [← g1];refine LeM [] rfl rfl ?_;refine Zz ?_;omega
    ·obtain rfl:j=n:=by omega
     have q2:¬ (j:Int) < j:=by omega
     by_cases hf:q0V (g i)
     ·rw [decide_eq_true hf] at C6;refine wk1 (x5 q2 hxl (hrl i) e3 (grl j)) ?_;refine ⟨i+1,⟨by omega,fun k hk=>?_⟩,by omega,?_⟩
      ·rcases Nat.lt_succ_iff_lt_or_eq.1 hk with h | rfl
       ·exact hgf k h
       ·exact hf
      rw [← e1];refine LeM [] rfl rfl ?_;refine Zz ?_;omega
     ·rw [decide_eq_false hf] at C6;rw [if_neg fun h=>hf (by
       refine h (g i) (List.mem_of_getElem? (i:=i) ?_);rw [hrg j i hlt,if_pos hlt])]
      exact wk1 (x5 q2 hxl (hrl i) e3 (grl j)) trivial
  ·obtain rfl:i=n:=by omega
   have q1:¬ (i:Int) < i:=by omega
   rw [if_pos fun z hz=>by
    obtain ⟨k,hk⟩:=List.mem_iff_getElem?.1 hz;have hkl:k < i:=by have:=(List.getElem?_eq_some_iff.1 hk).1; rw [hrl] at this; exact this
    rw [hrg i k hkl,if_pos hkl] at hk;cases hk;exact hgf k hkl]
   exact wk1 (x3 q1 hxl (hrl i)) trivial
theorem qaB (h:TOk f R C) (hu:∀ v ∈ x,v < 18446744073709551616) (hl:x.length≤1000) (hR:R≤20):ACt 40 [pT R C f,pF x] (erR (qla f R C x)):=by
 have C1:=qbX h;have C2:=q59 hu (by omega);have hRC:=h.c;unfold qla
 by_cases h1:R=C
 ·subst h1;rw [if_neg (not_not_intro rfl)]
  by_cases h2:x.length=R
  ·rw [if_neg (not_not_intro h2)]
   by_cases h3:∀ v ∈ x,q0V v
   ·rw [if_neg (not_not_intro h3)];exact qaA h (fun v hv=>⟨hu v hv,h3 v hv⟩) h2 hR
   ·rw [if_pos h3];rw [decide_eq_false h3] at C2;unfold erR pT q5k at *;refine ac0 Tryz.func40 Tryz.ntmps40 [.tmp 4,.tmp 5] ?_;exact wk1 h2 trivial
  ·rw [if_pos h2];unfold erR pT q5k at *;refine ac0 Tryz.func40 Tryz.ntmps40 [.tmp 4,.tmp 5] ?_;exact wk trivial
 ·rw [if_pos h1];unfold erR pT q5k at *;refine ac0 Tryz.func40 Tryz.ntmps40 [.tmp 4,.tmp 5] ?_;exact wk trivial
end
open Classical in
theorem qaM {l:List Nat} (hu:∀ x ∈ l,x < 18446744073709551616) (hn:l.length≤1000000):ACt 46 [pF l] (iv (if ¬ ∀ x ∈ l,q0V x then 4 else 0)):=by
 obtain ⟨res,hres⟩:∃ res:Int,res=if ¬ ∀ x ∈ l,q0V x then 4 else 0:=⟨_,rfl⟩
 rw [← hres];refine ac0 Tryz.func46 Tryz.ntmps46 [.tmp 2] ?_;refine wk ?_;refine q0T (fun i=>i≤l.length∧∀ x ∈ l.take i,q0V x) [0,5,6] [] Lk Lk (fun i:Nat=>[(7,iv i)]) (fun _=>[]) (fun i=>l.length-i) 0 ⟨Nat.zero_le _,by simp⟩ ?_ ?_
 ·refine LeM [] rfl rfl ?_;refine Zz ?_
  rfl
 ·rintro i ⟨hi,hf⟩
  by_cases hil:i < l.length
  ·obtain ⟨x,hx⟩:∃ x,l[i]?=some x:=⟨_,List.getElem?_eq_getElem hil⟩;have hmx:=List.mem_of_getElem? hx;have cF:=q4M (hu x hmx)
   by_cases hfx:q0V x
   case neg =>
    rw [decide_eq_false hfx] at cF;refine wk1 hx ?_;exact (hres.trans (if_pos fun h=>hfx (h x hmx))).symm
   rw [decide_eq_true hfx] at cF;refine wk1 hx ?_;refine ⟨i+1,⟨by omega,?_⟩,by omega,?_⟩
   ·rw [q5d hx];intro y hy
    rcases List.mem_append.1 hy with hy | hy
    ·exact hf y hy
    ·simp at hy; subst hy; exact hfx
   ·refine LeM [] rfl rfl ?_;refine Zz ?_
    rfl
  ·obtain rfl:i=l.length:=by omega
   rw [List.take_length] at hf;refine wk ?_;exact (hres.trans (if_neg (not_not_intro hf))).symm
theorem qbk {pm cp ri:List Int} {vs l:List Nat} (hp:pm.length≤1000000) (hc:cp.length≤1000000) (hr:ri.length≤1000000) (hv:vs.length≤1000000) (hu:∀ x ∈ vs,x < 18446744073709551616) (hul:∀ x ∈ l,x < 18446744073709551616) (hl:l.length≤1000000) :
  ACt 50 [q4k (pm,cp,ri,vs),pF l] (iv (q8G (q6t (pm,cp,ri,vs)) pm.length l)):=by
 have cC:=q9l hp hc hr hv hu;have cF:=qaM hul hl;have cV:ACt 56 [pF l,iv pm.length] (iv (q8G 0 pm.length l)):=by
  unfold q8G;rw [if_neg (not_not_intro rfl)];refine ac0 Tryz.func56 Tryz.ntmps56 [.tmp 4] ?_
  by_cases h:l.length=pm.length
  ·have q:((l.length:Int) != (pm.length:Int))=false:=by simp; omega
   rw [if_neg (not_not_intro h)];generalize (if ¬ ∀ x ∈ l,q0V x then (4:Int) else 0)=z at *;exact wk1 q trivial
  ·have q:((l.length:Int) != (pm.length:Int))=true:=by simp; omega
   rw [if_pos h];exact wk1 q trivial
 generalize q6t (pm,cp,ri,vs)=e at *;unfold q4k at *;dsimp only at *
 by_cases h0:e=0
 ·subst h0;generalize q8G 0 pm.length l=z at *;refine ac0 Tryz.func50 Tryz.ntmps50 [.tmp 4] ?_;have q:((0:Int) != 0)=false:=rfl;exact wk1 q trivial
 ·have q:(e != 0)=true:=by simpa using h0
  have hs:q8G e pm.length l=e:=if_pos h0;rw [hs];refine ac0 Tryz.func50 Tryz.ntmps50 [.tmp 4] ?_;exact wk1 q trivial
theorem qn9 {e:Int} {n:Nat} {l:List Nat} (h:q8G e n l=0):e=0∧l.length=n∧∀ x ∈ l,q0V x:=by
 unfold q8G at h
 split at h
 ·exact absurd h (by assumption)
 ·split at h
  ·cases h
  ·split at h
   ·cases h
   ·rename_i h1 h2 h3;exact ⟨Decidable.not_not.1 h1,Decidable.not_not.1 h2,Classical.not_not.1 h3⟩
theorem q4K {l:List Nat} (hn:l.length≤1000000):ACt 23 [pF l,pF l] (bv true):=by
 have q:((l.length:Int) != (l.length:Int))=false:=by simp
 refine ac0 Tryz.func23 Tryz.ntmps23 [.tmp 4] ?_;refine wk1 q ?_;refine q0T (fun i=>i≤l.length) [0,1] [] Lk Lk (fun i:Nat=>[(5,iv i)]) (fun _=>[]) (fun i=>l.length-i) 0 (Nat.zero_le _) ?_ ?_
 ·refine LeM [] rfl rfl ?_;refine Zz ?_
  rfl
 ·intro i hi
  by_cases hil:i < l.length
  ·obtain ⟨x,hx⟩:∃ x,l[i]?=some x:=⟨_,List.getElem?_eq_getElem hil⟩;have q2:((x:Int) != (x:Int))=false:=by simp
   refine wk1 (x2 hx q2) ?_;refine ⟨i+1,by omega,by omega,?_⟩;refine LeM [] rfl rfl ?_;refine Zz ?_
   rfl
  ·exact wk trivial
end Go.Proofs.YtbcmhlhgljoolaaGreatDoor
namespace Go.E
open Go Go.RowKit
theorem LeO {J:Nat→Prop} {h:Hp} {a n:Nat} {T:TypeId} {xs:List PV} (hJ:∀ i,¬ J i) (hb:h a=some ⟨T,none,xs,false⟩) (hc:ClL xs):Le J (fun _=>.ow a none 0 n) h (fun _=>.ow 5000 none 0 n) (q08 h0 5000 ⟨T,none,xs,false⟩):=by
 refine q6o (fun i=>if i=5000 then some a else none) (fun i b' hb'=>?_) (fun i j k b c hi hj ti tj=>?_) (fun _=>.ow (if_pos rfl) q0X) fun i hi=>(hJ i hi).elim
 ·by_cases hi:i=5000
  ·subst hi;rw [q0X] at hb'; cases hb';unfold LeB;exact ⟨_,hb,rfl,rfl,⟨rfl,rfl⟩,q2E rfl hc⟩
  ·rw [q0L hi] at hb'; cases hb'
 ·split at ti
  ·split at tj
   ·rename_i e1 e2; rw [e1,e2]
   ·cases tj
  ·cases ti
end Go.E
namespace Go.Proofs.YtbcmhlhgljoolaaGreatDoor
open Go Go.E Go.Sp
theorem qaG {raw:List Nat} {k st:Int} {n:Nat} (hr:raw.length≤9223372036854775807) (hn:n≤1000000) (h1 : -1000000≤k) (h2:k≤1000000) (h3 : -9223372036854775808≤st) (h4:st≤9223372036854775807) :
  qma 31 [pF raw,iv k,iv n,iv st] h0 (.ow 5000 none 0 n) (q08 h0 5000 ⟨30,none,(qeK raw k (q3X st 4) n).map fun z:Nat=>uv z,false⟩):=by
 have hJ:∀ i,¬ (h0 i≠none):=fun i h=>h rfl;refine actm qpj Tryz.func31 rfl Tryz.ntmps31 (by kernel_rfl) ?_ ?_ ?_ ?_
 ·intro i b hb; cases hb
 ·intro i b hb
  by_cases hi:i=5000
  ·subst hi; exact ⟨by omega,by omega⟩
  ·rw [q0L hi] at hb; cases hb
 ·exact IdL.of fun x hx=>by
   simp at hx
   rcases hx with rfl | rfl | rfl | rfl <;> unfold IdP <;> trivial
 have hW:WfH h0:=⟨fun i b hb=>by cases hb⟩;refine wk ?_;refine q3E (fun i=>i≤n) [0,1,2,3] [] Lk Lk (fun i:Nat=>[(10,iv i),(9,.ow 11 none 0 i)]) (fun i=>[(11,⟨30,none,(qeK raw k (q3X st 4) i).map fun z:Nat=>uv z,false⟩)]) (fun _=>h0) (fun i=>n-i) 0 (Nat.zero_le _) ?_ ?_
 ·refine LeW [] rfl rfl ?_ ?_ (by simp [q7m,q53,win]) ?_
  ·repeat (first | exact q3H | exact q7q | exact q8i | exact q7p (by simp [nmW]) (by simp [nmW]) | refine q8j (by omega) ?_)
  ·exact hW
  ·try refine Zz ?_
   exact ⟨rfl,rfl⟩
 ·intro i hi
  by_cases hlt:i < n
  ·have C1:=@qbE;have C2:=@qhW;have C3:=@q5z;refine wk1 @q8r ?_;refine ⟨i+1,by omega,by omega,?_⟩;refine LeW [(11,some 26)] rfl rfl ?_ ?_ (by simp [q7m,q53,win]) ?_
   ·repeat (first | exact q3H | exact q7q | exact q8i | exact q7p (by simp [nmW]) (by simp [nmW]) | refine q8j (by omega) ?_)
   ·exact hW
   ·try refine Zz ?_
    exact ⟨by omega,by rw [qml]⟩
  ·obtain rfl:i=n:=by omega
   refine wk ?_;refine (rtM (rs:=[.tmp 8]) rfl rfl Lq ?_ (.inl rfl));refine LeO hJ ?_ clU
   try simp -implicitDefEqProofs (disch:=omega) only [go_sem,Nat.reduceEqDiff,Nat.reduceAdd,↓reduceIte]
theorem qd0 {D:Nat→Prop} {l:List Nat} {A:Option Addr} {n c:Nat} {w:World} (h:In (fSc q2S l) D (.slice A n c) w) (hb:n≤1000000000) (hf:Fr D w):Calls Tryz.prog 75 #[.slice A n c] w (Rt (fSc q2S l) D w):=by
 have hln:=h.sc_len;refine q0I Tryz.func75 rfl Tryz.ntmps75 (by kernel_rfl) ?_;refine Wz ?_;refine q0B fun K1 hK1=>?_;refine q0A fun K hK=>?_;refine Zz ?_;refine hK _ _ ?_; clear hK;cases A with
 | none =>
  have hl:l=[]:=by
   rcases Nat.eq_zero_or_pos l.length with h0 | h0
   ·exact List.eq_nil_of_length_eq_zero h0
   ·obtain ⟨ad,h1,_⟩:=h.sc_get (i:=0) h0; cases h1
  subst hl;refine Wt ?_;refine Wz ?_;refine q0N ?_
  try simp only [q0D,q0O]
  refine q1F rfl ⟨_,rfl,Kp.refl _ _,In.sc_nil⟩
 | some ad =>
  refine Wf (q0H (hK1 _ _ ?_));clear hK1;refine q0A fun K hK=>?_;refine Zz ?_;refine q3L fun w1 hx1 hb1 hs1=>?_;have hO:Own w1 w.heap.size 30 1 (some ⟨w.heap.size,0,none⟩) 0 0 []:=by
   have:=Own.made (w:=w1) (w':=w) (B:=w.heap.size) (sz:=1) (n:=0) (c:=0) hb1 (Nat.le_refl _) (by simp [maxLen]) rfl (Nat.le_refl _);simpa using this
  obtain ⟨_,_,_,e,hR1⟩:=h.ext hx1;cases e;refine q6i (xs:=[]) qpH rfl (by omega) hO hR1 (fun u hu=>by
   obtain ⟨d,_,rfl⟩:=List.mem_map.1 hu; rfl) (by omega) hx1.size fun A' c' w' ho hk hat=>?_
  rw [Nat.zero_add,List.nil_append] at ho;refine hK _ _ ?_; clear hK;refine q0N (q1F rfl ⟨.slice A' n c',by simp [upd],hO.under hx1 hk,qjm ho fun k hk=>hf k hk⟩)
theorem q76 {l:List Nat} (hn:l.length≤1000000):ACt 75 [pF l] (pF l):=q2D (r:=.fm (fSc q2S l)) (fun D w v h=>qnk (f:=q2S) (fun x=>⟨rfl,rfl⟩) (q6S h)) (qds qpe fun D w vs hT hF hR=>by
 obtain ⟨_,rfl,h3⟩:=qhN hR;obtain ⟨A,n,c,rfl,h6⟩:=q7J (f:=q2S) h3;have:=h6.sc_len;exact qd0 h6 (by omega) hF)
def upT (f:Fac) (ys:List Nat) (p:Nat):Nat→List Int
 | 0=>[]
 | c+1=>upT f ys p c ++ [-(q1U (f.vs.getD (p+c) 0) (ys.getD (f.ri.getD (p+c) 0).toNat 0))]
noncomputable def bwV (f:Fac) (l ys:List Nat) (k:Nat):Nat :=
 fQ 0 (q1K (ofZ (l.getD k 0) :: upT f ys ((f.cp.getD k 0).toNat+1) ((f.cp.getD (k+1) 0).toNat-((f.cp.getD k 0).toNat+1)))) (ofZ (f.vs.getD (f.cp.getD k 0).toNat 0))
noncomputable def bwS (f:Fac) (l:List Nat):Nat→List Nat→Option (List Nat)
 | 0,ys=>some ys
 | k+1,ys=>if q0V (bwV f l ys k) then bwS f l k (ys.set k (bwV f l ys k)) else none
def stZ (f:Fac) (ys:List Nat):Nat→Nat→Int
 | _,0=>0
 | p,c+1=>q1U (f.vs.getD p 0) (ys.getD (f.ri.getD p 0).toNat 0)+stZ f ys (p+1) c
theorem qnZ {f:Fac} {ys:List Nat}:∀ c p,stZ f ys p (c+1)=stZ f ys p c+q1U (f.vs.getD (p+c) 0) (ys.getD (f.ri.getD (p+c) 0).toNat 0)
 | 0,p=>by simp [stZ]
 | c+1,p=>by
  rw [stZ,qnZ c (p+1),show p+1+c=p+(c+1) by omega,stZ,Int.add_assoc]
theorem qbN {f:Fac} {ys:List Nat} {B:Int} {p:Nat}:∀ c,q1K (B :: upT f ys p c)=B-stZ f ys p c
 | 0=>by simp [upT,stZ,q1K]
 | c+1=>by
  rw [upT,← List.cons_append,q1E,qbN c,qnZ];omega
def rwZ (g:Nat→Nat) (ys:List Nat):Nat→Nat→Int
 | _,0=>0
 | r,m+1=>q1U (g r) (ys.getD r 0)+rwZ g ys (r+1) m
theorem qnl {g:Nat→Nat} {ys:List Nat}:∀ m r,rwZ g ys r (m+1)=rwZ g ys r m+q1U (g (r+m)) (ys.getD (r+m) 0)
 | 0,r=>by simp [rwZ]
 | m+1,r=>by
  rw [rwZ,qnl m (r+1),show r+1+m=r+(m+1) by omega,rwZ,Int.add_assoc]
theorem qbp {g:Nat→Nat} {l x ys:List Nat} {B:Int} {r:Nat} (hl:∀ i,l.getD i 0=g (r+i)) (hx:∀ i,x.getD i 0=ys.getD (r+i) 0):∀ m,q1K (qhI B l x m)=B-rwZ g ys r m
 | 0=>by simp [qhI,rwZ,q1K]
 | m+1=>by
  rw [qhI,q1E,qbp hl hx m,qnl,hl,hx];omega
theorem q6J {f:Fac} {j a b:Nat} {ys:List Nat} (h:Col f j a b) (hn:f.pm.length≤200) (hrv:f.ri.length=f.vs.length) :
  ∀ m r p,r+m=f.pm.length→a < p→p≤b→(∀ p',p≤p'→p' < b→∃ i:Nat,f.ri[p']?=some (i:Int)∧r≤i)→stZ f ys p (b-p)=rwZ (fun i=>q2d f i p (b-p)) ys r m
 | 0,r,p,hr,ha,hpb,hi=>by
  have hp:p=b:=by
   rcases Nat.lt_or_ge p b with h1 | h1
   ·obtain ⟨i,h2,h3⟩:=hi p (Nat.le_refl _) h1;obtain ⟨i',h4,_,h5⟩:=h.row hn ha h1;rw [h2] at h4;have:=Option.some.inj h4;omega
   ·omega
  rw [hp,Nat.sub_self]; rfl
 | m+1,r,p,hr,ha,hpb,hi=>by
  rw [rwZ]
  by_cases hp:p < b∧f.ri[p]?=some (r:Int)
  ·obtain ⟨hp1,hp2⟩:=hp;have hle:=h.le;obtain ⟨x,hv⟩:∃ x,f.vs[p]?=some x:=⟨_,List.getElem?_eq_getElem (by omega)⟩;have hlater:∀ p',p+1≤p'→p' < b→∃ i:Nat,f.ri[p']?=some (i:Int)∧r+1≤i:=fun p' q1 q2=>by
    obtain ⟨i,h1,_⟩:=hi p' (by omega) q2;have:=h.mono (p'-p) p r i (by omega) (by omega) hp2 (by rw [show p+(p'-p)=p' by omega]; exact h1);rw [if_neg (by omega)] at this;exact ⟨i,h1,by omega⟩
   have hc:b-p=(b-(p+1))+1:=by omega
   have e1:q2d f (r:Int) p (b-p)=x:=by rw [hc,q2d,if_pos hp2]; exact getD_some hv
   have e2:rwZ (fun i=>q2d f i p (b-p)) ys (r+1) m=rwZ (fun i=>q2d f i (p+1) (b-(p+1))) ys (r+1) m:=by
    have key:∀ m r',r+1≤r'→rwZ (fun i=>q2d f i p (b-p)) ys r' m=rwZ (fun i=>q2d f i (p+1) (b-(p+1))) ys r' m:=fun m=>by
     induction m with
     | zero=>intro _ _; rfl
     | succ m ih =>
      intro r' hr';rw [rwZ,rwZ,ih (r'+1) (by omega)]
      congr 2
      show q2d f (r':Int) p (b-p)=_
      rw [hc,q2d,if_neg (by rw [hp2]; intro e; have:=Option.some.inj e; omega)]
    exact key m (r+1) (Nat.le_refl _)
   rw [e1,e2,← q6J h hn hrv m (r+1) (p+1) (by omega) (by omega) (by omega) hlater,hc,stZ,getD_some hv,getD_some hp2]
   rfl
  ·have hge:∀ p',p≤p'→p' < b→∃ i:Nat,f.ri[p']?=some (i:Int)∧r+1≤i:=fun p' q1 q2=>by
    obtain ⟨i,h1,h2⟩:=hi p' q1 q2;refine ⟨i,h1,?_⟩
    rcases Nat.lt_or_ge r i with h3 | h3
    ·omega
    ·obtain rfl:i=r:=by omega
     by_cases hpp:p'=p
     ·subst hpp; exact absurd ⟨q2,h1⟩ hp
     ·obtain ⟨i0,h4,h5⟩:=hi p (Nat.le_refl _) (by omega);have:=h.mono (p'-p) p i0 i (by omega) (by omega) h4 (by rw [show p+(p'-p)=p' by omega]; exact h1);rw [if_neg (by omega)] at this;omega
   have e0:q2d f (r:Int) p (b-p)=0:=q4x _ _ fun p' q1 q2 e=>by
    obtain ⟨i,h1,h2⟩:=hge p' q1 (by omega);rw [h1] at e;have:=Option.some.inj e;omega
   rw [e0,q5H,Int.zero_add];exact q6J h hn hrv m (r+1) p (by omega) ha hpb hge
theorem qbm {g g':Nat→Nat} {ys:List Nat}:∀ m r,(∀ i,r≤i→i < r+m→g i=g' i)→rwZ g ys r m=rwZ g' ys r m
 | 0,_,_=>rfl
 | m+1,r,h=>by rw [rwZ,rwZ,h r (Nat.le_refl _) (by omega),qbm m (r+1) fun i q1 q2=>h i (by omega) (by omega)]
theorem qpm {f:Fac} {l ys:List Nat} {k n:Nat} (ho:FacOk f) (hn:n=f.pm.length) (hk:k < n):bwV f l ys k=upV (trS (q56 f n n) n n) l ys n k:=by
 obtain ⟨a,b,hc⟩:=ho.col k (by omega);have hlt:=hc.lt;obtain ⟨x,V,d1,d2,d3⟩:=hc.diag;have hel:elF f k k=x:=by
  rw [q5s hc,show b-a=(b-(a+1))+1 by omega,q2d,if_pos hc.first];exact getD_some d1
 have hU:(trS (q56 f n n) n n).getD k []=rwG n (fun j=>((q56 f n n).getD j []).getD k 0) n:=by
  refine getD_some ?_;unfold trS;rw [List.getElem?_map,List.getElem?_range hk]; rfl
 obtain ⟨g,hg⟩:∃ g:Nat→Nat,g=fun j=>if j < n then ((q56 f n n).getD j []).getD k 0 else 0:=⟨_,rfl⟩
 have hgd:∀ i,(rwG n (fun j=>((q56 f n n).getD j []).getD k 0) n).getD i 0=g i:=fun i=>by
  rw [hg]
  by_cases hi:i < n
  ·rw [getD_some (q3V hi)]
  ·rw [List.getD_eq_getElem?_getD,List.getElem?_eq_none (by rw [q3U]; omega)];simp only [if_neg hi]; rfl
 have hgk:∀ i,k≤i→i < n→g i=elF f i k:=fun i h1 h2=>by
  rw [hg];simp only [if_pos h2];rw [getD_some (q69 h2),getD_some (q3V hk),if_pos (by omega)]
 unfold bwV upV;rw [getD_some hc.ha,getD_some hc.hb,hU,hgd,hgk k (Nat.le_refl _) hk,hel];rw [show ((a:Int)).toNat=a by omega,show ((b:Int)).toNat=b by omega,getD_some d1,qbN];rw [qbp (g:=g) (ys:=ys) (r:=k+1) (fun i=>by rw [List.getD_eq_getElem?_getD,List.getElem?_drop,← List.getD_eq_getElem?_getD,hgd]) (fun i=>by rw [List.getD_eq_getElem?_getD,List.getElem?_drop,← List.getD_eq_getElem?_getD])];rw [q6J hc ho.n ho.ril (n-(k+1)) (k+1) (a+1) (by omega) (by omega) (by omega) fun p q1 q2=>by
  obtain ⟨i,h1,h2,_⟩:=hc.row ho.n (by omega) q2;exact ⟨i,h1,by omega⟩]
 rw [qbm (g:=g) (g':=fun i=>q2d f i (a+1) (b-(a+1))) _ _ fun i q1 q2=>by
  rw [hgk i (by omega) (by omega),q5s hc,show b-a=(b-(a+1))+1 by omega,q2d,if_neg (by rw [hc.first]; intro e; have:=Option.some.inj e; omega)]]
theorem qiQ {f:Fac} {l:List Nat} {n:Nat} (ho:FacOk f) (hn:n=f.pm.length):∀ (k:Nat) (ys:List Nat),k≤n→bwS f l k ys=upF (trS (q56 f n n) n n) l n k ys
 | 0,_,_=>rfl
 | k+1,ys,hk=>by rw [bwS,upF,qpm ho hn (by omega),qiQ ho hn k _ (by omega)]
theorem qmw {L:List (List Nat)} {n:Nat} (h:SqM L n):SqM (trS L n n) n:=⟨qiq,fun r hr=>by
 obtain ⟨i,hi,rfl⟩:=List.mem_map.1 hr;have hi:=List.mem_range.1 hi;refine ⟨q3U,fun x hx=>?_⟩;obtain ⟨j,hj,rfl⟩:=List.mem_map.1 hx;have hj:=List.mem_range.1 hj;rw [if_pos hj];have hl:=h.len;obtain ⟨r,hr⟩:∃ r,L[j]?=some r:=⟨_,List.getElem?_eq_getElem (by omega)⟩;obtain ⟨h1,h2⟩:=h.row r (List.mem_of_getElem? hr);obtain ⟨x,hx⟩:∃ x,r[i]?=some x:=⟨_,List.getElem?_eq_getElem (by omega)⟩
 show (L.getD j []).getD i 0 < 18446744073709551616∧q0V ((L.getD j []).getD i 0)
 rw [getD_some hr,getD_some hx];exact h2 x (List.mem_of_getElem? hx),fun k hk=>by
 have e:(trS L n n)[k]?=some (rwG n (fun j=>(L.getD j []).getD k 0) n):=by
  unfold trS;rw [List.getElem?_map,List.getElem?_range hk]; rfl
 rw [getD_some e,getD_some (q3V hk),if_pos hk];exact h.dg k hk⟩
theorem q3n {l:List Nat} (h:q1M l) (i:Nat):l.getD i 0 < 18446744073709551616∧q0V (l.getD i 0):=by
 rw [List.getD_eq_getElem?_getD];cases hx:l[i]? with
 | none=>exact ⟨by simp,by unfold q0V; simp⟩
 | some x=>exact h x (List.mem_of_getElem? hx)
theorem q7y {f:Fac} {ys:List Nat} {p:Nat}:∀ c,(upT f ys p c).length=c
 | 0=>rfl
 | c+1=>by rw [upT,List.length_append,q7y c]; rfl
theorem qgr {f:Fac} {ys:List Nat} {p:Nat} (hv:q1M f.vs) (hy:q1M ys):∀ c,∀ x ∈ upT f ys p c,bl x.natAbs≤67600
 | 0,x,hx=>by cases hx
 | c+1,x,hx=>by
  rw [upT] at hx
  rcases List.mem_append.1 hx with hx | hx
  ·exact qgr hv hy c x hx
  ·simp only [List.mem_singleton] at hx;subst hx;rw [Int.natAbs_neg];exact (q0w (q3n hv _).2 (q3n hy _).2).2
theorem RowsOk.up {f:Fac} {rows:List (List Int)} {r:List Int} {k:Nat} (h:RowsOk f 500 rows) (h1:r.length≤501) (h2:∀ x ∈ r,bl x.natAbs≤67600):RowsOk f 500 (rows.set k r) :=
 ⟨by rw [List.length_set]; exact h.len,fun r' hr'=>by
  rcases List.mem_or_eq_of_mem_set hr' with h3 | rfl
  ·exact h.row r' h3
  ·exact ⟨by omega,h2⟩⟩
theorem Col.climb {f:Fac} {j a b:Nat} (h:Col f j a b):∀ d,a+d < b→∃ i:Nat,f.ri[a+d]?=some (i:Int)∧j+d≤i
 | 0,_=>⟨j,h.first,Nat.le_refl _⟩
 | d+1,hd=>by
  obtain ⟨i,h1,h2⟩:=h.climb d (by omega);obtain ⟨y,z,h3,h4,h5⟩:=h.inc (a+(d+1)) (by omega) hd;rw [show a+(d+1)-1=a+d by omega,h1] at h3;cases h3;exact ⟨z.toNat,by rw [h4]; congr 1; omega,by omega⟩
theorem Col.short {f:Fac} {j a b:Nat} (h:Col f j a b) (hn:f.pm.length≤200):b≤a+201:=by
 rcases Nat.lt_or_ge b (a+202) with h1 | h1
 ·omega
 obtain ⟨i,h2,h3⟩:=h.climb (b-a-1) (by omega);obtain ⟨i',h4,_,h5⟩:=h.row hn (p:=a+(b-a-1)) (by omega) (by omega);rw [h2] at h4;have:=Option.some.inj h4;omega
theorem qe6 {f:Fac} {l ys:List Nat} {rows:List (List Int)} {k p c i x y:Nat} (hi:f.ri[p+c]?=some (i:Int)) (hx:f.vs[p+c]?=some x) (hy:ys[i]?=some y) :
  (rows.set k (ofZ (l.getD k 0) :: upT f ys p c)).set k ((ofZ (l.getD k 0) :: upT f ys p c) ++ [-(q1U x y)])=rows.set k (ofZ (l.getD k 0) :: upT f ys p (c+1)):=by
 rw [List.set_set,upT,getD_some hi,getD_some hx,show ((i:Int)).toNat=i by omega,getD_some hy]
 rfl
theorem q8e {D0 E:Nat→Prop} {f:Fac} {v:Value} {A:Option Addr} {n c:Nat} {l:List Nat} {w:World} (hT:q2a w) (h:In (fFac f) E v w) (ho:FacOk f) (hb:In (fSc q2S l) E (.slice A n c) w) (hl:q1M l) (hn:n=f.pm.length) (hf:Fr D0 w) :
  Calls Tryz.prog 138 #[v,.slice A n c] w (Rt (qpE (bwS f l n (List.replicate n 0))) D0 w):=by
 obtain ⟨A3,n3,c3,A4,n4,c4,A5,n5,c5,A6,n6,c6,rfl,h1,h2,h3,h4⟩:=q71 h;have l1:=h1.sc_len;have l2:=h2.sc_len;have l3:=h3.sc_len;have l4:=h4.sc_len;have lb:=hb.sc_len;have hnb:=ho.n;have hbeg:=fun {w':World} {D':Nat→Prop} (hx:Ext w w') (hd:∀ k,k < w.heap.size→D' k) (hf':Fr D' w')=>q9t (D:=D') (vals:=l.map ofZ) (hT.ext hx) ((hb.sub fun k hk _=>hd k hk).ext hx) (by simp) (by omega) (fun i x hi=>⟨(hl x (List.mem_of_getElem? hi)).1,ofZ x,by simp [hi],q0h (hl x (List.mem_of_getElem? hi)).2⟩) hf';obtain ⟨N,hN⟩:∃ N,N=w.heap.size:=⟨_,rfl⟩;have b2:=h2.db (w':=w);have b3:=h3.db (w':=w);have b4:=h4.db (w':=w);rw [← hN] at b2 b3 b4;refine q0I Tryz.func138 rfl Tryz.ntmps138 (by kernel_rfl) ?_;refine q0A fun K hK=>?_;refine Zz ?_;refine q00 ?_;intro g2 w2 hg2 hx2 hb2 hs2;refine hK _ _ ?_; clear hK K;have hx:Ext w w2:=hx2;replace b2:=b2.ext hx;replace b3:=b3.ext hx;replace b4:=b4.ext hx;clear hx2;refine q8k (fun e' w'=>∃ (N0 g gy:Nat) (L:List Nat) (ss:List (Option Addr × Nat × Nat)),e' 2=.pointer (some ⟨g2,0,none⟩)∧e' 1=.slice A n c∧e' 6=.slice (some ⟨g,0,none⟩) n n∧e' 7=.slice (some ⟨gy,0,none⟩) n n∧Ext w2 w'∧Sums w' (fun k=>k≠gy) L N0 g n (l.map fun x=>[ofZ x]) ss∧Own w' N 30 1 (some ⟨gy,0,none⟩) n n (List.replicate n (q2S 0))∧gy ∉ L∧g2 < N0∧N≤N0∧g2 < gy) ?_ ?_
 ·refine W_dA q0k (.one 0 (.one 2 (.one 3 (.alt (.one 1 (.one 5 (.one 4 (.one 6 .fin)))) (.one 4 (.one 1 (.one 5 (.one 6 .fin)))))))) (by kernel_rfl) fun KE wE hKE hxE=>?_;replace b2:=b2.ext hxE;replace b3:=b3.ext hxE;replace b4:=b4.ext hxE;replace hb2:=hb2.ext hxE;replace hx:=hx.trans hxE;simp only [q0s] at hKE;have hlt3:=hb2.lt;have hmm:(l.map ofZ).map (fun V=>[V])=l.map fun x=>[ofZ x]:=by rw [List.map_map]; rfl
  rw [hmm] at hbeg;have hrp:List.replicate n (Value.int .u64 0)=List.replicate n (q2S 0):=rfl;have hNE:=hx.size;rw [← hN] at hNE;simp -implicitDefEqProofs (disch:=omega) only [go_sem,Nat.reduceEqDiff,Nat.reduceAdd,↓reduceIte,qdx,qdy,qi1,q9V,qcH,List.toList_toArray];refine ⟨?_,?_⟩
  ·refine q0F qd2 (hbeg (D':=fun _=>True) hx (fun _ _=>trivial) (Fr.triv _)) ?_;rintro _ w14 ⟨rfl,hx14,L,ss,hS⟩; refine ⟨_,rfl,?_⟩;refine q5I (Nat.le_refl _) (by omega) (by unfold maxLen; omega) fun w17 hx17 hO17 hs17=>?_;have hs14:=hx14.size;refine hKE _ _ ⟨_,_,w14.heap.size,L,ss,Ue,Ue,Ue,Ue,(hxE.trans hx14).trans hx17,(hS.sub (D':=fun k=>k≠w14.heap.size) fun k hk _=>by omega).ext hx17,hO17.mono (by omega),fun hm=>?_,hlt3,hNE,by omega⟩;have:=hS.hi _ hm;omega
  ·refine q5I (Nat.le_refl _) (by omega) (by unfold maxLen; omega) fun w17 hx17 hO17 hs17=>?_;refine q0F qd2 (hbeg (D':=fun k=>k≠wE.heap.size) (hx.trans hx17) (fun k hk=>by omega) (fun k hk=>by omega)) ?_;rintro _ w14 ⟨rfl,hx14,L,ss,hS⟩; refine ⟨_,rfl,?_⟩;refine hKE _ _ ⟨_,_,wE.heap.size,L,ss,Ue,Ue,Ue,Ue,(hxE.trans hx17).trans hx14,hS,(hO17.mono (by omega)).ext hx14,fun hm=>?_,by omega,by omega,hlt3⟩;have:=hS.lo _ hm;omega
 ·rintro e0 w1 ⟨N0,g,gy,L,ss,k2,k1,k6,k7,hx1,hS,hO,hgL,hgN,hNN,hg3y⟩;replace b2:=b2.ext hx1;replace b3:=b3.ext hx1;replace b4:=b4.ext hx1;replace hb2:=hb2.ext hx1;replace hx:=hx.trans hx1;refine q0B fun K0 hK0=>?_;refine Wz2 k1 @i64_in ?_;refine q01 ?_;refine q09 (fun e2 w2=>∃ (m:Nat) (L:List Nat) (rows:List (List Int)) (ys:List Nat) (ss:List (Option Addr × Nat × Nat)),e2 8=.int .i64 ((m:Int)-1)∧m≤n∧Ext w w2∧Blk w2 g2 27 #[.slice A3 n3 c3,.slice A4 n4 c4,.slice A5 n5 c5,.slice A6 n6 c6]∧In (fSc q3k f.cp) (Db E N) (.slice A4 n4 c4) w2∧In (fSc q3k f.ri) (Db E N) (.slice A5 n5 c5) w2∧In (fSc q2S f.vs) (Db E N) (.slice A6 n6 c6) w2∧Sums w2 (fun k=>k≠gy) L N0 g n rows ss∧Own w2 N 30 1 (some ⟨gy,0,none⟩) n n (ys.map q2S)∧gy ∉ L∧RowsOk f 500 rows∧(∀ i,i < m→rows[i]?=some [ofZ (l.getD i 0)])∧ys.length=n∧q1M ys∧bwS f l m ys=bwS f l n (List.replicate n 0)) (fun e2 _=>(RowKit.intOf (e2 8)+1).toNat) ⟨n,L,_,_,ss,rfl,Nat.le_refl _,hx,hb2,b2,b3,b4,hS,by rw [List.map_replicate]; exact hO,hgL,⟨by simp; omega,fun r hr=>?_⟩,fun i hi=>?_,by simp,q3o,rfl⟩ ?_
  ·rw [List.mem_map] at hr;obtain ⟨y,hy,rfl⟩:=hr;exact ⟨by simp,fun x hx=>by simp at hx; subst hx; exact q7N (hl y hy).2⟩
  ·have hil:i < l.length:=by omega
   rw [List.getElem?_map,List.getD_eq_getElem?_getD,List.getElem?_eq_getElem hil]
   rfl
  clear hx hb2 b2 b3 b4 hS hO hgL;rintro e1 w5 ⟨m,L,rows,ys,ss,k8,hm,hx,hb2,b2,b3,b4,hS,hO,hgL,hR,hrw,hys,hfy,hbw⟩ hkk;have r2:e1 2=.pointer (some ⟨g2,0,none⟩):=(hkk 2 (by kernel_rfl)).trans Ue;have r6:e1 6=.slice (some ⟨g,0,none⟩) n n:=(hkk 6 (by kernel_rfl)).trans Ue;have r7:e1 7=.slice (some ⟨gy,0,none⟩) n n:=(hkk 7 (by kernel_rfl)).trans Ue;clear hkk
  by_cases hm0:m=0
  ·subst hm0;have hlt':¬ (0:Int)≤((0:Nat):Int)-1:=by omega
   refine q0B fun K1 hK1=>?_;refine Wz2 k8 hlt' ?_;refine Wf (q03 (hK0 _ _ ?_));rw [bwS] at hbw;rw [← hbw];refine Wz1 r7 ?_;refine q0N ?_
   try simp only [q0D,q0O]
   refine q8L rfl ⟨_,rfl,hx,⟨_,_,rfl,by simp only [q0E,Nat.reduceEqDiff,↓reduceIte]; exact qjm hO fun k hk=>hf k (by omega),by simp only [q0E,Nat.reduceEqDiff,↓reduceIte]; exact rfl⟩⟩
  ·obtain ⟨k,rfl⟩:∃ k,m=k+1:=⟨m-1,by omega⟩;replace k8:e1 8=.int .i64 (k:Int):=by rw [k8]; congr 1; omega
   have hlt':(0:Int)≤(k:Int):=by omega
   refine q0B fun K1 hK1=>?_;refine Wz2 k8 hlt' ?_;refine Wt (q0H (hK1 _ _ ?_));clear hK1;refine q0M fun K hK=>?_;obtain ⟨a,b,hcol⟩:=ho.col k (by omega);obtain ⟨dx,dV,d1,d2,d3⟩:=hcol.diag;have hcb:=hcol.hb;obtain ⟨k1,hk1⟩:∃ k1,k1=k+1:=⟨_,rfl⟩;rw [← hk1] at hcb;have hle:=hcol.le;have hlt:=hcol.lt;have hsh:=hcol.short ho.n;have hrib:=ho.rib;have hril:=ho.ril;obtain ⟨hdx,hdf⟩:=ho.vals dx (List.mem_of_getElem? d1);obtain ⟨u,hu⟩:∃ u,u=l.getD k 0:=⟨_,rfl⟩;obtain ⟨hu1,hu2⟩:=q3n hl k;have hrk:=hrw k (by omega);rw [← hu] at hu1 hu2 hrk;have hset0:rows.set k [ofZ u]=rows:=by
    refine List.ext_getElem? fun i=>?_;rw [List.getElem?_set]
    split
    ·rename_i e; subst e
     split
     ·exact hrk.symm
     ·rw [List.getElem?_eq_none (by omega)]
    ·rfl
   obtain ⟨ad2,rfl,i2,x2⟩:=b2.ixI hcol.ha;have e1':IntKind.i64.wrap ((a:Int)+1)=((a+1:Nat):Int):=by rw [i64_in (by omega) (by omega)]; omega
   have e2':IntKind.i64.wrap ((k:Int)+1)=(k1:Int):=by rw [i64_in (by omega) (by omega)]; omega
   refine q0B fun K2 hK2=>?_;refine q0A fun K hK=>?_;simp -implicitDefEqProofs (disch:=omega) only [go_sem,Nat.reduceEqDiff,Nat.reduceAdd,↓reduceIte,r2,hb2.c1,k8,i2,x2,e1'];refine hK _ _ ?_; clear hK K;refine q01 ?_;refine q09 (fun e2 w2=>∃ (p:Nat) (L:List Nat) (ss:List (Option Addr × Nat × Nat)),e2 9=.int .i64 p∧a+1≤p∧p≤b∧Ext w w2∧Blk w2 g2 27 #[.slice A3 n3 c3,.slice (some ad2) n4 c4,.slice A5 n5 c5,.slice A6 n6 c6]∧In (fSc q3k f.cp) (Db E N) (.slice (some ad2) n4 c4) w2∧In (fSc q3k f.ri) (Db E N) (.slice A5 n5 c5) w2∧In (fSc q2S f.vs) (Db E N) (.slice A6 n6 c6) w2∧Sums w2 (fun k=>k≠gy) L N0 g n (rows.set k (ofZ u :: upT f ys (a+1) (p-(a+1)))) ss∧Own w2 N 30 1 (some ⟨gy,0,none⟩) n n (ys.map q2S)∧gy ∉ L) (fun e2 _=>b-(RowKit.intOf (e2 9)).toNat) ⟨a+1,L,ss,rfl,Nat.le_refl _,hlt,hx,hb2,b2,b3,b4,by rw [Nat.sub_self,upT,hset0]; exact hS,hO,hgL⟩ ?_;clear hx hb2 b2 b3 b4 hS hO hgL x2 i2;rintro e3 w6 ⟨p,L,ss,k9,hp1,hp2,hx,hb2,b2,b3,b4,hS,hO,hgL⟩ hkk;have q2:e3 2=.pointer (some ⟨g2,0,none⟩):=(hkk 2 (by kernel_rfl)).trans Ue;have q6:e3 6=.slice (some ⟨g,0,none⟩) n n:=(hkk 6 (by kernel_rfl)).trans Ue;have q7:e3 7=.slice (some ⟨gy,0,none⟩) n n:=(hkk 7 (by kernel_rfl)).trans Ue;have q8:e3 8=.int .i64 k:=(hkk 8 (by kernel_rfl)).trans Ue;clear hkk r2 r6 r7;have hro:RowsOk f 500 (rows.set k (ofZ u :: upT f ys (a+1) (p-(a+1)))):=hR.up (by rw [List.length_cons,q7y]; omega) fun x hx=>by
    rcases List.mem_cons.1 hx with rfl | hx
    ·exact q7N hu2
    ·exact qgr ho.vals hfy _ x hx
   have hrl:=hR.len;have hrk2:(rows.set k (ofZ u :: upT f ys (a+1) (p-(a+1))))[k]?=some (ofZ u :: upT f ys (a+1) (p-(a+1))):=List.getElem?_set_self (by omega);have hgy:gy < w6.heap.size:=by
    rcases hO.form with ⟨h0,_⟩ | ⟨_,_,h0,_,hb,_⟩
    ·cases h0
    ·cases h0; exact hb.lt
   obtain ⟨_,hcc,i2,x2⟩:=b2.ixI hcb;cases hcc
   by_cases hlt2:p < b
   ·have hlt2':(p:Int) < b:=by omega
    refine q0B fun K5 hK5=>?_;refine q0A fun K hK=>?_;simp -implicitDefEqProofs (disch:=omega) only [go_sem,Nat.reduceEqDiff,Nat.reduceAdd,↓reduceIte,k9,q2,hb2.c1,q8,e2',i2,x2,hlt2'];refine hK _ _ ?_; clear hK K;refine Wt (q0H (hK5 _ _ ?_));clear hK5;refine q0M fun K6 hK6=>?_;obtain ⟨j0,hj1,hj2,hj3⟩:=hcol.row ho.n (by omega) hlt2;obtain ⟨xv,hxv⟩:∃ xv,f.vs[p]?=some xv:=⟨_,List.getElem?_eq_getElem (by omega)⟩;obtain ⟨hv1,hv2⟩:=ho.vals xv (List.mem_of_getElem? hxv);obtain ⟨yv,hyv⟩:∃ yv,ys[j0]?=some yv:=⟨_,List.getElem?_eq_getElem (by omega)⟩;obtain ⟨hy1,hy2⟩:=hfy yv (List.mem_of_getElem? hyv);obtain ⟨ad5,rfl,i5,x5⟩:=b3.ixI hj1;obtain ⟨ad4,rfl,i6,x6⟩:=b4.ixU hxv;have hyu:(ys.map q2S)[j0]?=some (.int .u64 (yv:Int)):=by rw [List.getElem?_map,hyv]; rfl
    have ij:(0:Int)≤(j0:Int)∧(j0:Int) < n:=by omega
    clear x2 x5 x6;obtain ⟨hmu,_⟩:=q0w hv2 hy2;refine q8l q0k (Kp (fun k=>k ∉ ([]:List Nat))) (fun _ _=>False) (Kp.pre _) [true,true,true,true,true,true,true,true,true,true,true,true,true,true,true,false] [false,false,false,false,false,false,false,false,false,false,false,false,false,false,false,false] [1,1,1,1,1,1,1,1,1,1,1,1,1,1,1,1] (by kernel_rfl) ?_
    apply Exists.intro
    refine ⟨fun wE hE KE hKE=>?_,fun wE hE KE hKE=>?_,fun wE hxE hr=>?_⟩
    ·skip
     replace hE:=Kp.all hE;replace hb2:=hb2.ext hE;replace b2:=b2.ext hE;replace b3:=b3.ext hE;replace b4:=b4.ext hE;replace hS:=hS.ext hE;replace hO:=hO.ext hE;refine Zz13 k9 q2 q6 q7 q8 hb2.c2 hb2.c3 i5 (inI b3 hj1) i6 (inU b4 hxv) ij (owG hO hyu) ?_;exact hKE
    ·exact hE.elim
    simp only [q1h,q1j,q1i];replace b2:=b2.ext hxE;replace b3:=b3.ext hxE;replace b4:=b4.ext hxE;replace hS:=hS.ext hxE;replace hO:=hO.ext hxE;replace hb2:=hb2.ext hxE;replace hx:=hx.trans hxE;clear hr;simp -implicitDefEqProofs (disch:=omega) only [go_sem,Nat.reduceEqDiff,Nat.reduceAdd,↓reduceIte,List.toList_toArray,k9,q2,q6,q7,q8,hb2.c2,hb2.c3,i5,(inI b3 hj1),i6,(inU b4 hxv),ij,(owG hO hyu)];have hw':=hxE.size;refine q0F qlF (q5B (hT.ext hx) hS hrk2 hv1 hy1 (q0h hv2) (q0h hy2) hmu (by rw [List.length_cons,q7y]; omega) (fun k hk=>by omega)) ?_;rintro _ w7 ⟨rfl,hk7,L',ss',hL1,hL2,hS7⟩; refine ⟨_,rfl,?_⟩;rw [hu,qe6 (by rw [show a+1+(p-(a+1))=p by omega]; exact hj1) (by rw [show a+1+(p-(a+1))=p by omega]; exact hxv) hyv,show p-(a+1)+1=p+1-(a+1) by omega,← hu] at hS7;have hlo:∀ j,j < N→j ∉ L:=fun j hj hm=>by have:=hS.lo j hm; omega
    replace b2:=b2.kpb hk7 hlo;replace b3:=b3.kpb hk7 hlo;replace b4:=b4.kpb hk7 hlo;replace hb2:=hb2.kp hk7 fun hm=>by have:=hS.lo _ hm; omega
    replace hx:=hx.under hk7 fun j hj=>hlo j (by omega);replace hO:=hO.kp hk7 fun a ha=>by cases ha; exact hgL
    have hgL7:gy ∉ L':=fun hm=>by
     rcases hL2 _ hm with h | h
     ·exact hgL h
     ·omega
    simp only [q0s,qkD];refine hK6 _ _ ?_; clear hK6;refine q0Q fun K9 hK9=>?_;refine Zz2 k9 @i64_in ?_;refine hK9 _ _ ?_; clear hK9 K9;exact ⟨⟨p+1,L',ss',rfl,by omega,by omega,hx,hb2,b2,b3,b4,hS7,hO,hgL7⟩,by simp only [q0E,↓reduceIte,RowKit.intOf,k9]; omega⟩
   ·have hlt2':¬ (p:Int) < b:=by omega
    refine q0B fun K5 hK5=>?_;refine q0A fun K hK=>?_;simp -implicitDefEqProofs (disch:=omega) only [go_sem,Nat.reduceEqDiff,Nat.reduceAdd,↓reduceIte,k9,q2,hb2.c1,q8,e2',i2,x2,hlt2'];refine hK _ _ ?_; clear hK K;refine Wf (q03 (hK2 _ _ ?_));obtain rfl:p=b:=by omega
    obtain ⟨S,hSS⟩:∃ S,S=q1K (ofZ u :: upT f ys (a+1) (p-(a+1))):=⟨_,rfl⟩;obtain ⟨q,hq⟩:∃ q,q=fQ 0 S dV:=⟨_,rfl⟩;have hqv:bwV f l ys k=q:=by
     unfold bwV;rw [← hk1,getD_some hcol.ha,getD_some hcb,← hu,show ((a:Int)).toNat=a by omega,show ((p:Int)).toNat=p by omega,← hSS,getD_some d1,q1I d2,hq]
    clear x2 i2;obtain ⟨_,hcc,i2,x2⟩:=b2.ixI hcol.ha;cases hcc;obtain ⟨ad4,rfl,i4,x4⟩:=b4.ixU d1;clear x2 x4;obtain ⟨s1,s2,s3⟩:=qbs hro (List.mem_of_getElem? hrk2) (by omega);obtain ⟨D,hDq⟩:∃ D:Nat→Prop,D=fun _=>True:=⟨_,rfl⟩;have hDl:∀ k,Dl D [] k:=fun k=>⟨by rw [hDq]; trivial,by simp⟩;have hD:Fr (Dl D []) w6:=fun k _=>hDl k;have ik:(0:Int)≤(k:Int)∧(k:Int) < n:=by omega
    have hqu:=fun {w:World} {v v':Value} (hT:q2a w) (h:In (fV S) (Dl D []) v w) (h':In (fV dV) (Dl D []) v' w) (hf:Fr (Dl D []) w)=>qha hT h h' (by omega) hf;rw [← hq] at hqu;refine q0B fun K3 hK3=>?_;refine q8l q0k (Kp (fun k=>k ∉ ([]:List Nat))) (fun _ _=>False) (Kp.pre _) [true,true,true,true,false,true,true,true,true,true,true,true,true,true,false,false,false,false] [false,false,false,false,false,false,false,false,false,false,false,false,false,false,false,false,false,false] [1,1,1,1,0,1,1,1,1,1,1,1,1,1,0,0,1,1] (by kernel_rfl) ?_
    apply Exists.intro
    refine ⟨fun wE hE KE hKE=>?_,fun wE hE KE hKE=>?_,fun wE hxE hr=>?_⟩
    ·skip
     replace hE:=Kp.all hE;replace hb2:=hb2.ext hE;replace b2:=b2.ext hE;replace b3:=b3.ext hE;replace b4:=b4.ext hE;replace hS:=hS.ext hE;replace hO:=hO.ext hE;refine Zz11 q2 q6 q7 q8 hb2.c1 hb2.c3 i2 (inI b2 hcol.ha) i4 (inU b4 d1) ik ?_;exact hKE
    ·exact hE.elim
    simp only [q1h,q1j,q1i];replace b2:=b2.ext hxE;replace b3:=b3.ext hxE;replace b4:=b4.ext hxE;replace hS:=hS.ext hxE;replace hO:=hO.ext hxE;replace hb2:=hb2.ext hxE;replace hD:=hD.kp hxE;replace hx:=hx.trans hxE;simp -implicitDefEqProofs (disch:=omega) only [go_sem,Nat.reduceEqDiff,Nat.reduceAdd,↓reduceIte,List.toList_toArray,q2,q6,q7,q8,hb2.c1,hb2.c3,i2,(inI b2 hcol.ha),i4,(inU b4 d1),ik];have hto:=q8w (hT.ext hx) (hS.sub (D':=Dl D []) fun k _ _=>hDl k) hrk2 (by omega) s2 s3 (fun k _=>hDl k) hD;rw [← hSS] at hto;refine Cr qlH (hto) fun v58 w58 hx58 h58=>?_;replace b2:=b2.ext hx58;replace b3:=b3.ext hx58;replace b4:=b4.ext hx58;replace hS:=hS.ext hx58;replace hO:=hO.ext hx58;replace hb2:=hb2.ext hx58;replace hD:=hD.kp hx58;replace hx:=hx.trans hx58;replace hr:=hr.trans (Kp.of_ext hx58);clear hx58;refine ⟨hr,?_⟩;refine Cr qaj (qdF (hT.ext hx) hdx d2 hD) fun v68 w68 hx68 h68=>?_;replace b2:=b2.ext hx68;replace b3:=b3.ext hx68;replace b4:=b4.ext hx68;replace hS:=hS.ext hx68;replace hO:=hO.ext hx68;replace h58:=h58.ext hx68;replace hb2:=hb2.ext hx68;replace hD:=hD.kp hx68;replace hx:=hx.trans hx68;replace hr:=hr.trans (Kp.of_ext hx68);clear hx68;refine ⟨hr,?_⟩;refine Ck qlI (hqu (hT.ext hx) h58 h68 hD) fun w69 hx69=>?_;replace b2:=b2.ext hx69;replace b3:=b3.ext hx69;replace b4:=b4.ext hx69;replace hS:=hS.ext hx69;replace hO:=hO.ext hx69;replace h58:=h58.ext hx69;replace h68:=h68.ext hx69;replace hb2:=hb2.ext hx69;replace hD:=hD.kp hx69;replace hx:=hx.trans hx69;replace hr:=hr.trans (Kp.of_ext hx69);clear hx69;refine ⟨hr,?_⟩;have hqlt:q < 18446744073709551616:=by rw [hq]; exact qae (by omega)
    have hyl:(ys.map q2S).length=n:=by rw [List.length_map]; exact hys
    refine q9F hO (by omega:k < n) qjB rfl rfl fun w5 hO5 hk5 hs5=>?_;replace hS:=hS.kpo hk5 (fun _ h=>h) hgL;replace b2:=b2.kpb hk5 fun k hk=>by omega
    replace b3:=b3.kpb hk5 fun k hk=>by omega
    replace b4:=b4.kpb hk5 fun k hk=>by omega
    replace hb2:=hb2.kpne hk5 (by omega);replace hx:=hx.under hk5 fun k hk=>by omega
    have cy:=hO5.cell_set (by omega);have hO6:Own w5 N 30 1 (some ⟨gy,0,none⟩) n n ((ys.set k q).map q2S):=by rw [List.map_set]; exact hO5
    clear hO hO5 hk5 hD;simp only [q0s];refine hK3 _ _ ?_; clear hK3;refine q0A fun K hK=>?_;refine Zz4 q7 q8 ik cy ?_;refine q0F qlG (q4V hqlt) ?_;rintro _ _ ⟨rfl,rfl⟩; refine ⟨_,rfl,?_⟩;rw [bwS,hqv] at hbw
    by_cases hfin:q0V q
    ·rw [if_pos hfin] at hbw;rw [decide_eq_true hfin];refine Zz ?_;refine hK _ _ ?_; clear hK;refine Wf (q0H (hK _ _ ?_));refine q0Q fun K9 hK9=>?_;refine Zz2 q8 @i64_in ?_;refine hK9 _ _ ?_; clear hK9 K9;exact ⟨⟨k,L,_,ys.set k q,ss,rfl,by omega,hx,hb2,b2,b3,b4,hS,hO6,hgL,hro,fun i hi=>by rw [List.getElem?_set_ne (by omega)]; exact hrw i (by omega),by rw [List.length_set]; exact hys,q4p hfy hqlt hfin,hbw⟩,by simp only [q0E,↓reduceIte,RowKit.intOf,k8]; omega⟩
    ·rw [if_neg hfin] at hbw;rw [decide_eq_false hfin];refine Zz ?_;refine hK _ _ ?_; clear hK;refine Wt ?_;refine Wz ?_;refine q0N ?_
     try simp only [q0D,q0O]
     refine q8L rfl ⟨_,rfl,hx,by rw [← hbw]; exact ⟨_,_,rfl,by simp only [q0E,Nat.reduceEqDiff,↓reduceIte]; exact In.sc_nil,by simp only [q0E,Nat.reduceEqDiff,↓reduceIte]; exact rfl⟩⟩
theorem qpl {f:List Int × List Int × List Int × List Nat} {l:List Nat} (ho:FacOk ⟨f.1,f.2.1,f.2.2.1,f.2.2.2⟩) (hl:q1M l) (hn:l.length=f.1.length) :
  ACt 138 [q4k f,pF l] (fwP (bwS ⟨f.1,f.2.1,f.2.2.1,f.2.2.2⟩ l l.length (List.replicate l.length 0))):=q2D (r:=.fm (qpE _)) (fun D w v h=>qhJ (q6S h)) (qds qiJ fun D w vs hT hF hR=>by
 obtain ⟨_,_,rfl,h3,h4⟩:=qaS hR;obtain ⟨A,n,c,rfl,h6⟩:=q7J (f:=q2S) h4;obtain rfl:n=l.length:=h6.sc_len.symm;exact q8e hT (qhK h3) ho h6 hl hn hF)
section
variable {F:Nat→Nat→Option Nat} {l:List Int} {cs:List Nat} {cols:List (List Nat)} {j n M:Nat} {p:LSt}
end
theorem qbJ {raw:List Nat} {k:Int} {st n:Nat}:q1M (qeK raw k st n):=fun x hx=>by
 unfold qeK at hx;obtain ⟨i,_,rfl⟩:=List.mem_map.1 hx;have:=qcG (k:=st) (q5z raw (k+i));exact ⟨this.2,this.1⟩
theorem qcY {L:List (List Nat)} {b:List Nat}:∀ (m k:Nat) (ys zs:List Nat),loF L b m k ys=some zs→zs.length=ys.length
 | 0,_,_,_,h=>by cases h; rfl
 | m+1,k,ys,zs,h=>by
  rw [loF] at h
  split at h
  ·rw [qcY m (k+1) _ zs h,List.length_set]
  ·cases h
theorem qbO {L:List (List Nat)} {b:List Nat} {n:Nat}:∀ (k:Nat) (ys zs:List Nat),upF L b n k ys=some zs→zs.length=ys.length
 | 0,_,_,h=>by cases h; rfl
 | k+1,ys,zs,h=>by
  rw [upF] at h
  split at h
  ·rw [qbO k _ zs h,List.length_set]
  ·cases h
def AR (f:FuncId) (al:List PV) (r:PV):Prop :=
 q0C Tryz.prog f=true∧∀ (D E:Nat→Prop) (w:World) (vs:List Value),q2a w→Fr E w→RdL w D al (fun _=>none) h0 vs→Calls Tryz.prog f vs.toArray w fun x w'=>∃ v,x=.returned v∧Ext w w'∧Rd w' E r (fun _=>none) h0 v
theorem AR.ac {f:FuncId} {al:List PV} {r:PV} (h:AR f al r):ACt f al r:=⟨h.1,fun D w vs hT hF hR=>h.2 D D w vs hT hF hR⟩
def qeF (x:PV):Prop:=∀ (w:World) (D D':Nat→Prop) (ρ:Nat→Option Nat) (h:Hp) (v:Value),Rd w D x ρ h v→Rd w D' x ρ h v
theorem qpT {v:Value}:qeF (.vl v):=fun w D D' ρ h y hr=>by unfold Rd at hr ⊢; exact hr
theorem df_ow {id off n:Nat} {k:Kd}:qeF (.ow id k off n):=fun w D D' ρ h y hr=>by unfold Rd at hr ⊢; exact hr
theorem df_L {l:List PV} (hl:∀ y ∈ l,qeF y) {w:World} {D D':Nat→Prop} {ρ:Nat→Option Nat} {h:Hp} {vs:List Value} (hr:RdL w D l ρ h vs):RdL w D' l ρ h vs:=by
 obtain ⟨h1,h2⟩:=RdL.iff.1 hr;exact RdL.iff.2 ⟨h1,fun t x v ht hv=>hl x (List.mem_of_getElem? ht) _ _ _ _ _ _ (h2 t x v ht hv)⟩
theorem qmJ {f:FuncId} {al l cl:List PV} {ids:List Nat} {hout:Hp} (hM:ACm Tryz.prog q2a f al h0 (.tu l) hout) (hl:∀ y ∈ l,qeF y) (hb:∀ i b,hout i=some b→∀ y ∈ b.xs,qeF y) (hc:q3K hout l=some (cl,ids)):AR f al (.tu cl):=by
 refine ⟨hM.ca,fun D E w vs hT hF hR=>?_⟩;have hlen:=hR.len;obtain ⟨D0,hD0⟩:∃ D0:Nat→Prop,D0=fun k=>D k∨w.heap.size≤k:=⟨_,rfl⟩;have hF0:Fr D0 w:=fun k hk=>by rw [hD0]; exact .inr hk
 have hdm:dm D0 (fun _=>none) h0=D0:=by
  funext k
  exact propext ⟨fun h=>h.1,fun h=>⟨h,fun i b hi=>by cases hi⟩⟩
 have S:Sat D0 ⟨w,fun k=>k < w.heap.size,fun _ _ _=>False,fun _ _=>False,fun _ h=>h,fun _ _ h=>h.elim⟩ (enP al) h0 (fun _=>none) (q48 vs) w:=by
  refine ⟨fun i j b c g hi=>(by cases hi),fun i b g hi=>(by cases hi),fun i b hi=>(by cases hi),fun t=>?_,Kp.refl _ _,hF0,fun _ _ _ h=>h.elim,fun _ _ h=>h.elim⟩;rw [hdm];obtain ⟨h1,h2⟩:=RdL.iff.1 (hR.sub (D':=D0) fun k _ hk=>by rw [hD0]; exact .inl hk);unfold enP q48;rw [List.getD_eq_getElem?_getD,List.getD_eq_getElem?_getD];cases ht:al[t]? with
  | none=>simp only [Option.getD_none]; unfold Rd; trivial
  | some x =>
   have hlt:=(List.getElem?_eq_some_iff.1 ht).1;have hv:=List.getElem?_eq_getElem (l:=vs) (show t < vs.length by omega);rw [hv];exact h2 t x _ ht hv
 refine (hM.run D0 ⟨w,fun k=>k < w.heap.size,fun _ _ _=>False,fun _ _=>False,fun _ h=>h,fun _ _ h=>h.elim⟩ _ w vs (fun w' hx=>q8y _ _ (hx.mono fun k hk _=>hk) hT) (fun _ _ h=>h.elim) hF0 (by omega) S).mono fun x w' ⟨v,ρ',hx,S',hr⟩=>?_;refine ⟨v,hx,S'.ext.mono fun k hk _=>hk,?_⟩;have S2:Sat E ⟨w,fun k=>k < w.heap.size,fun _ _ _=>False,fun _ _=>False,fun _ h=>h,fun _ _ h=>h.elim⟩ nos hout ρ' (fun _=>v) w':=by
  refine ⟨S'.inj,fun i b g hi hg=>?_,S'.vir,fun t=>by unfold nos Rd; trivial,S'.ext,hF,S'.imp,S'.pin⟩;obtain ⟨⟨h1,h2⟩,cs,h3,h4,h5⟩:=S'.own i b g hi hg;refine ⟨⟨h1,hF g (Nat.le_of_not_lt h1)⟩,cs,h3,h4,fun hs=>?_⟩;obtain ⟨us,h6,h7,h8⟩:=h5 hs;exact ⟨us,h6,df_L (hb i b hi) h7,h8⟩
 unfold Rd at hr ⊢;obtain ⟨us,hv,hr⟩:=hr;refine ⟨us,hv,?_⟩;refine (q6b S2 hc (df_L hl hr)).sub fun k _ hq=>?_
 rcases hq with hq | ⟨i,hi,hg⟩
 ·exact hq.1
 ·obtain ⟨b,hb'⟩:=q6d hc i hi;exact (S2.own i b k hb' hg).1.2
def gaS (l:List Nat) (o:List Int) (n:Nat):List Nat:=rwG n (fun k=>l.getD (o.getD k 0).toNat 0) n
def scS (x:List Nat) (o:List Int) (n:Nat):Nat→List Nat
 | 0=>List.replicate n 0
 | k+1=>(scS x o n k).set (o.getD k 0).toNat (x.getD k 0)
theorem q6M {x:List Nat} {o:List Int} {n:Nat}:∀ k,(scS x o n k).length=n
 | 0=>List.length_replicate
 | k+1=>by rw [scS,List.length_set,q6M k]
theorem qkU {l:List Nat} {o:List Int} {n:Nat}:(gaS l o n).length=n:=q3U
theorem qkV {l:List Nat} {o:List Int} {n:Nat} (hl:q1M l):q1M (gaS l o n):=fun x hx=>by
 unfold gaS rwG at hx;obtain ⟨j,_,rfl⟩:=List.mem_map.1 hx
 split
 ·exact q3n hl _
 ·exact ⟨by omega,by unfold q0V; simp⟩
section
variable {l:List Nat} {o:List Int} {n:Nat}
theorem qaL (hl:l.length=n) (ho:o.length=n) (hn:n≤1000000) (hb:∀ x ∈ o,0≤x∧x < n):ACt 58 [pF l,pI o] (pF (gaS l o n)):=by
 unfold gaS;have hgl:∀ m,(rwG n (fun k=>l.getD (o.getD k 0).toNat 0) m).length=n:=fun _=>q3U;generalize hg:(fun k=>l.getD (o.getD k 0).toNat 0)=g at *;refine ac0 Tryz.func58 Tryz.ntmps58 [.tmp 4] ?_;refine wk1 hl ?_;refine q0T (fun k=>k≤n) [0,11,12] [] Lk Lk (fun k:Nat=>[(13,iv k),(5,.ow 1001 none 0 n)]) (fun k=>[(1001,⟨30,none,(rwG n g k).map fun z:Nat=>uv z,false⟩)]) (fun k=>n-k) 0 (Nat.zero_le _) ?_ ?_
 ·rw [← qjO];refine LeM [(1001,some 10)] rfl rfl ?_;refine Zz ?_;simp
 ·intro k hk
  by_cases hlt:k < n
  ·obtain ⟨x,hx⟩:∃ x,o[k]?=some x:=⟨_,List.getElem?_eq_getElem (by omega)⟩;obtain ⟨h1,h2⟩:=hb x (List.mem_of_getElem? hx);obtain ⟨x,rfl⟩:∃ y:Nat,x=y:=⟨x.toNat,by omega⟩;obtain ⟨u,hu⟩:∃ u,l[x]?=some u:=⟨_,List.getElem?_eq_getElem (by omega)⟩;have hs:=qjN (n:=n) (g:=g) (m:=k);have hgk:g k=u:=by rw [← hg]; simp only [getD_some hx,Int.toNat_natCast,getD_some hu]
   rw [hgk] at hs;refine wk1 (x3 hx hu (hgl k)) ?_;refine ⟨k+1,by omega,by omega,?_⟩;refine LeM [] rfl rfl ?_;refine Zz ?_;rw [← hs];exact ⟨by omega,rfl⟩
  ·obtain rfl:k=n:=by omega
   have hgk:=hgl k;exact wk1 ho trivial
theorem qoQ {b:Bk}:∀ i b',q08 h0 5000 b i=some b'→win i:=fun i b' hb=>by
 by_cases hi:i=5000
 ·subst hi; exact ⟨by omega,by omega⟩
 ·rw [q0L hi] at hb; cases hb
theorem q8K (hl:l.length=n) (ho:o.length=n) (hn:n≤1000000) (hb:∀ x ∈ o,0≤x∧x < n):qma 65 [pF l,pI o] h0 (.ow 5000 none 0 n) (q08 h0 5000 ⟨30,none,(scS l o n n).map fun z:Nat=>uv z,false⟩):=by
 have hJ:∀ i,¬ (h0 i≠none):=fun i h=>h rfl;refine actm qpf Tryz.func65 rfl Tryz.ntmps65 (by kernel_rfl) ?_ ?_ ?_ ?_
 ·intro i b hb; cases hb
 ·exact qoQ
 ·exact IdL.of fun x hx=>by
   simp at hx
   rcases hx with rfl | rfl <;> unfold IdP <;> trivial
 have hW:WfH h0:=⟨fun i b hb=>by cases hb⟩;refine wk1 hl ?_;refine q3E (fun k=>k≤n) [0,11,12] [] Lk Lk (fun k:Nat=>[(13,iv k),(5,.ow 1001 none 0 n)]) (fun k=>[(1001,⟨30,none,(scS l o n k).map fun z:Nat=>uv z,false⟩)]) (fun _=>h0) (fun k=>n-k) 0 (Nat.zero_le _) ?_ ?_
 ·refine LeW [(1001,some 10)] rfl rfl ?_ ?_ (by simp [q7m,q53,win]) ?_
  ·repeat (first | exact q3H | exact q7q | exact q8i | exact q7p (by simp [nmW]) (by simp [nmW]) | refine q8j (by omega) ?_)
  ·exact hW
  ·rw [scS]
   try refine Zz ?_
   simp
 ·intro k hk
  by_cases hlt:k < n
  ·obtain ⟨x,hx⟩:∃ x,o[k]?=some x:=⟨_,List.getElem?_eq_getElem (by omega)⟩;obtain ⟨h1,h2⟩:=hb x (List.mem_of_getElem? hx);obtain ⟨x,rfl⟩:∃ y:Nat,x=y:=⟨x.toNat,by omega⟩;obtain ⟨u,hu⟩:∃ u,l[k]?=some u:=⟨_,List.getElem?_eq_getElem (by omega)⟩;have hs:scS l o n (k+1)=(scS l o n k).set x u:=by rw [scS,getD_some hx,Int.toNat_natCast,getD_some hu]
   have hsl:=q6M (x:=l) (o:=o) (n:=n) k;refine wk1 (x3 hx hu hsl) ?_;refine ⟨k+1,by omega,by omega,?_⟩;refine LeW [] rfl rfl ?_ ?_ (by simp [q7m,q53,win]) ?_
   ·repeat (first | exact q3H | exact q7q | exact q8i | exact q7p (by simp [nmW]) (by simp [nmW]) | refine q8j (by omega) ?_)
   ·exact hW
   ·try refine Zz ?_
    exact ⟨by omega,hs.symm⟩
  ·obtain rfl:k=n:=by omega
   refine wk1 ho ?_;refine (rtM (rs:=[.tmp 4]) rfl rfl Lq ?_ (.inl rfl));refine LeO hJ ?_ clU
   try simp -implicitDefEqProofs (disch:=omega) only [go_sem,Nat.reduceEqDiff,Nat.reduceAdd,↓reduceIte]
end
end Go.Proofs.YtbcmhlhgljoolaaGreatDoor
namespace Go.E
open Go Go.RowKit
theorem LeT {J:Nat→Prop} {h:Hp} {a n:Nat} {T:TypeId} {xs:List PV} {e:Value} (hJ:∀ i,¬ J i) (hb:h a=some ⟨T,none,xs,false⟩) (hc:ClL xs):Le J (fun _=>.tu [.ow a none 0 n,.vl e]) h (fun _=>.tu [.ow 5000 none 0 n,.vl e]) (q08 h0 5000 ⟨T,none,xs,false⟩):=by
 refine q6o (fun i=>if i=5000 then some a else none) (fun i b' hb'=>?_) (fun i j k b c hi hj ti tj=>?_) (fun _=>.tu rfl fun i x y hx hy=>?_) fun i hi=>(hJ i hi).elim
 ·by_cases hi:i=5000
  ·subst hi;rw [q0X] at hb'; cases hb';unfold LeB;exact ⟨_,hb,rfl,rfl,⟨rfl,rfl⟩,q2E rfl hc⟩
  ·rw [q0L hi] at hb'; cases hb'
 ·split at ti
  ·split at tj
   ·rename_i e1 e2; rw [e1,e2]
   ·cases tj
  ·cases ti
 ·rcases i with _ | _ | i
  ·cases hx; cases hy; exact .ow (if_pos rfl) q0X
  ·cases hx; cases hy; exact .cl trivial
  ·simp at hx
theorem LeTn {J:Nat→Prop} {h:Hp} {T:TypeId} {e:Value} (hJ:∀ i,¬ J i):Le J (fun _=>.tu [.vl (.slice none 0 0),.vl e]) h (fun _=>.tu [.ow 5000 none 0 0,.vl e]) (q08 h0 5000 ⟨T,none,[],false⟩):=by
 refine q6o (fun _=>none) (fun i b' hb'=>?_) (fun i j k b c hi hj ti tj=>by cases ti) (fun _=>.tu rfl fun i x y hx hy=>?_) fun i hi=>(hJ i hi).elim
 ·by_cases hi:i=5000
  ·subst hi;rw [q0X] at hb'; cases hb'
   rfl
  ·rw [q0L hi] at hb'; cases hb'
 ·rcases i with _ | _ | i
  ·cases hx; cases hy; exact .nilow rfl q0X rfl
  ·cases hx; cases hy; exact .cl trivial
  ·simp at hx
end Go.E
namespace Go.Proofs.YtbcmhlhgljoolaaGreatDoor
open Go Go.E Go.Sp
theorem qhb {L:List (List Nat)} {b ys:List Nat} {n k:Nat} (hL:SqM L n) (hk:k < n):loV L b ys k < 18446744073709551616∧upV L b ys n k < 18446744073709551616:=⟨qae (hL.dg k hk),qae (hL.dg k hk)⟩
theorem q9Z {L:List (List Nat)} {b:List Nat} {n:Nat} (hL:SqM L n):∀ (m k:Nat) (ys zs:List Nat),k+m=n→q1M ys→loF L b m k ys=some zs→q1M zs
 | 0,_,_,_,_,hf,h=>by cases h; exact hf
 | m+1,k,ys,zs,hk,hf,h=>by
  rw [loF] at h
  split at h
  ·rename_i hv;exact q9Z hL m (k+1) _ zs (by omega) (q4p hf (qhb hL (by omega)).1 hv) h
  ·cases h
noncomputable def dfE (F:List Int × List Int × List Int × List Nat) (l:List Nat):List Nat × Int :=
 if q8G (q6t F) F.1.length l≠0 then ([],q8G (q6t F) F.1.length l) else
  match loF (q56 ⟨F.1,F.2.1,F.2.2.1,F.2.2.2⟩ F.1.length F.1.length) (gaS l F.1 F.1.length) F.1.length 0 (List.replicate F.1.length 0) with
  | none=>([],233)
  | some y=>match upF (trS (q56 ⟨F.1,F.2.1,F.2.2.1,F.2.2.2⟩ F.1.length F.1.length) F.1.length F.1.length) y F.1.length F.1.length (List.replicate F.1.length 0) with
   | none=>([],233)
   | some z=>(scS z F.1 F.1.length F.1.length,0)
theorem qn8 {n:Nat} {l:List Nat} (h1:l.length=n) (h2:∀ x ∈ l,q0V x):q8G 0 n l=0:=by
 unfold q8G;rw [if_neg (by omega),if_neg (by omega),if_neg (not_not_intro h2)]
section
variable {pm cp ri:List Int} {vs l:List Nat}
theorem qoP:IdL win [q4k (pm,cp,ri,vs),pF l]:=IdL.of fun x hx=>by
 simp at hx
 rcases hx with rfl | rfl
 ·unfold q4k IdP IdL IdL IdL IdL IdL;unfold IdP;exact ⟨trivial,trivial,trivial,trivial,trivial⟩
 ·unfold IdP; trivial
theorem qbl (hp:pm.length≤1000000) (hc:cp.length≤1000000) (hr:ri.length≤1000000) (hv:vs.length≤1000000) (hu:∀ x ∈ vs,x < 18446744073709551616) (hul:∀ x ∈ l,x < 18446744073709551616) (hl:l.length≤1000000) :
  qma 76 [q4k (pm,cp,ri,vs),pF l] h0 (.tu [.ow 5000 none 0 (dfE (pm,cp,ri,vs) l).1.length,iv (dfE (pm,cp,ri,vs) l).2]) (q08 h0 5000 ⟨30,none,(dfE (pm,cp,ri,vs) l).1.map fun z:Nat=>uv z,false⟩):=by
 have hJ:∀ i,¬ (h0 i≠none):=fun i h=>h rfl;have cR:=qbk hp hc hr hv hu hul hl;refine actm qpd Tryz.func76 rfl Tryz.ntmps76 (by kernel_rfl) ?_ ?_ ?_ ?_
 ·intro i b hb; cases hb
 ·exact qoQ
 ·exact qoP
 unfold dfE;dsimp only
 by_cases hz0:q8G (q6t (pm,cp,ri,vs)) pm.length l=0
 case neg =>
  rw [if_pos hz0];generalize q8G (q6t (pm,cp,ri,vs)) pm.length l=e at *;have q:(e != 0)=true:=by simpa using hz0
  unfold q4k at *;dsimp only at *;refine wk1 q ?_;refine (rtM (rs:=[.tmp 4,.tmp 5]) rfl rfl Lq ?_ (.inl rfl));exact LeTn hJ
 rw [if_neg (not_not_intro hz0)];rw [hz0] at cR;obtain ⟨h1,h2,h3⟩:=qn9 hz0;have ho:=q9d h1 hr hu;have hn:=ho.n;dsimp only at hn;have hsq:=qdV ho;have hfl:q1M l:=fun x hx=>⟨hul x hx,h3 x hx⟩;have hpb:∀ x ∈ pm,0≤x∧x < pm.length:=fun x hx=>ho.perm.1 x hx;have cG:=qaL (l:=l) (o:=pm) (n:=pm.length) h2 rfl hp hpb;have hgl:=qkU (l:=l) (o:=pm) (n:=pm.length);have hgf:=qkV (o:=pm) (n:=pm.length) hfl;generalize gaS l pm pm.length=g at *;have cA:=qqV (n:=l.length) (by omega);have cW:=qoq (f:=(pm,cp,ri,vs)) (ps:=qaH l.length) (l:=g) ho hgf hgl (fun x hx=>by unfold qaH at hx; simp at hx; omega) (by rw [q8s]; omega);have e:=qop (b:=g) ho hgl;rw [show qaH g.length=qaH l.length by rw [hgl,h2]] at e;dsimp only at e cW;rw [e] at cW;clear e;have hlf:∀ y,loF (q56 ⟨pm,cp,ri,vs⟩ pm.length pm.length) g pm.length 0 (List.replicate pm.length 0)=some y→y.length=pm.length∧q1M y:=fun y hy=>⟨by rw [qcY _ _ _ _ hy,List.length_replicate],q9Z hsq _ _ _ y (Nat.zero_add _) q3o hy⟩;have hJn:∀ i,¬ (h0 i≠none):=hJ;generalize loF (q56 ⟨pm,cp,ri,vs⟩ pm.length pm.length) g pm.length 0 (List.replicate pm.length 0)=R1 at *;cases R1 with
 | none =>
  rw [show fwP none=.tu [pF [],iv 233] from rfl] at cW;dsimp only;unfold q4k at *;dsimp only at *;refine wk ?_;refine (rtM (rs:=[.tmp 4,.tmp 5]) rfl rfl Lq ?_ (.inl rfl));exact LeTn hJ
 | some y =>
  rw [show fwP (some y)=.tu [pF y,iv 0] from rfl] at cW;obtain ⟨hy1,hy2⟩:=hlf y rfl;have cB:=qpl (f:=(pm,cp,ri,vs)) ho hy2 hy1;dsimp only at cB ⊢;rw [hy1,qiQ ho rfl _ _ (Nat.le_refl _)] at cB;dsimp only at cB;have hzl:∀ z,upF (trS (q56 ⟨pm,cp,ri,vs⟩ pm.length pm.length) pm.length pm.length) y pm.length pm.length (List.replicate pm.length 0)=some z→z.length=pm.length:=fun z hz=>by rw [qbO _ _ _ hz,List.length_replicate]
  generalize upF (trS (q56 ⟨pm,cp,ri,vs⟩ pm.length pm.length) pm.length pm.length) y pm.length pm.length (List.replicate pm.length 0)=R2 at *;cases R2 with
  | none =>
   rw [show fwP none=.tu [pF [],iv 233] from rfl] at cB;dsimp only;unfold q4k at *;dsimp only at *;refine wk ?_;refine (rtM (rs:=[.tmp 4,.tmp 5]) rfl rfl Lq ?_ (.inl rfl));exact LeTn hJ
  | some z =>
   rw [show fwP (some z)=.tu [pF z,iv 0] from rfl] at cB;have cS:=q8K (l:=z) (o:=pm) (hzl z rfl) rfl hp hpb;have hsl:=q6M (x:=z) (o:=pm) (n:=pm.length) pm.length;dsimp only;rw [hsl];generalize scS z pm pm.length pm.length=x at *;unfold q4k at *;dsimp only at *;refine wk ?_;refine A_sj fun K hK=>?_;refine Zz ?_;refine jm cS ?_ (fun i hi=>(hi trivial).elim) ?_
   ·change Wn _ _
    repeat (first | exact q3H | exact q7q | exact q8i | exact q7p (by simp [nmW]) (by simp [nmW]) | refine q8j (by omega) ?_)
   try refine Zz ?_
   refine hK _ _ ?_; clear hK K;refine wk ?_;refine (rtM (rs:=[.tmp 4,.tmp 5]) rfl rfl Lq ?_ (.inl rfl));refine LeT hJ ?_ clU
   try simp -implicitDefEqProofs (disch:=omega) only [go_sem,Nat.reduceEqDiff,Nat.reduceAdd,↓reduceIte]
theorem qhg {f:FuncId} {al:List PV} {xs:List Nat} {e:Int} (h:qma f al h0 (.tu [.ow 5000 none 0 xs.length,iv e]) (q08 h0 5000 ⟨30,none,xs.map fun z:Nat=>uv z,false⟩)):AR f al (.tu [pF xs,iv e]):=by
 refine qmJ (ids:=[5000]) h (fun y hy=>?_) (fun i b hb y hy=>?_) ?_
 ·simp at hy
  rcases hy with rfl | rfl
  ·exact df_ow
  ·exact qpT
 ·by_cases hi:i=5000
  ·subst hi;rw [q0X] at hb; cases hb;obtain ⟨z,_,rfl⟩:=List.mem_map.1 hy;exact qpT
  ·rw [q0L hi] at hb; cases hb
 ·have h1:q3p (q08 h0 5000 ⟨30,none,xs.map fun z:Nat=>uv z,false⟩) (.ow 5000 none 0 xs.length)=some (pF xs,[5000]):=by
   unfold q3p;dsimp only;rw [q0X,Option.bind_some,if_pos ⟨rfl,rfl,fun x hx=>clU x hx⟩,List.drop_zero,List.take_of_length_le (by rw [List.length_map]; exact Nat.le_refl _)]
  have h2:q3p (q08 h0 5000 ⟨30,none,xs.map fun z:Nat=>uv z,false⟩) (iv e)=some (iv e,[]):=by
   unfold q3p;dsimp only;exact if_pos trivial
  unfold q3K q3K q3K clo;simp only [h1,h2]
  rfl
end
end Go.Proofs.YtbcmhlhgljoolaaGreatDoor
namespace Go.Sp
open Go Go.E Go.Proofs.YtbcmhlhgljoolaaGreatDoor
theorem qcI {f:Nat} (hf:q0V f) (h:f < 18446744073709551616):ofZ (q5m f) = -ofZ f∧q0V (q5m f)∧q5m f < 18446744073709551616:=by
 have key:q5m f / 4503599627370496 % 2048=f / 4503599627370496 % 2048∧q5m f % 4503599627370496=f % 4503599627370496∧q5m f < 18446744073709551616∧decide (9223372036854775808≤q5m f)=!decide (9223372036854775808≤f):=by
  unfold q5m
  split
  ·refine ⟨by omega,by omega,by omega,?_⟩;rw [decide_eq_true (by omega),decide_eq_false (by omega)]; rfl
  ·refine ⟨by omega,by omega,by omega,?_⟩;rw [decide_eq_false (by omega),decide_eq_true (by omega)]; rfl
 obtain ⟨h1,h2,h3,h4⟩:=key;have sg:∀ (b:Bool) (m:Nat),sgn (!b) m = -sgn b m:=fun b m=>by cases b <;> simp [sgn]
 refine ⟨?_,?_,h3⟩
 ·unfold ofZ ofF;rw [h1,h2,h4]
  split
  ·rfl
  ·split
   ·simp only [Option.getD_some,sg,Int.neg_mul]
   ·simp only [Option.getD_some,sg,Int.neg_mul]
 ·unfold q0V at hf ⊢;rw [h1]; exact hf
theorem qcZ {x y:List Nat} {t i:Nat}:∀ v ∈ lnF x t y i,v < 18446744073709551616:=fun v hv=>by
 obtain ⟨k,_,rfl⟩:=List.mem_map.1 hv;exact qdC
theorem qnP {f:Nat→Nat→Option Nat} {x:List Nat} {n i:Nat}:∀ v ∈ q25 f x n i,v < 18446744073709551616:=fun v hv=>by
 obtain ⟨k,_,rfl⟩:=List.mem_map.1 hv;exact qdC
theorem q9B {f:Nat→Nat→Option Nat} {x:List Nat} {n i:Nat}:(q25 f x n i).length=i:=by simp [q25]
theorem q8t {L:List (List Nat)} {b:List Nat} {n:Nat} (hL:SqM L n):∀ (k:Nat) (ys zs:List Nat),k≤n→q1M ys→upF L b n k ys=some zs→q1M zs
 | 0,_,_,_,hf,h=>by cases h; exact hf
 | k+1,ys,zs,hk,hf,h=>by
  rw [upF] at h
  split at h
  ·rename_i hv;exact q8t hL k _ zs (by omega) (q4p hf (qhb hL (by omega)).2 hv) h
  ·cases h
theorem qbj {ix:List Int} {vl:List Nat} {n:Nat} (hv:q1M vl):∀ k,q1M (scS vl ix n k)
 | 0=>q3o
 | k+1=>by
  obtain ⟨h1,h2⟩:=q3n hv k;exact q4p (qbj hv k) h1 h2
theorem qdU {F:List Int × List Int × List Int × List Nat} {l:List Nat} (hr:F.2.2.1.length≤1000000) (hu:∀ x ∈ F.2.2.2,x < 18446744073709551616) (h:(dfE F l).2=0):(dfE F l).1.length=F.1.length∧q1M (dfE F l).1:=by
 unfold dfE at h ⊢
 split at h
 ·rename_i h1;exact (h1 h).elim
 ·rename_i h1;rw [if_neg h1];have hz:q8G (q6t F) F.1.length l=0:=by simpa using h1
  have hsq:=qdV (q9d (pm:=F.1) (cp:=F.2.1) (ri:=F.2.2.1) (vs:=F.2.2.2) (qn9 hz).1 hr hu)
  split at h
  ·cases h
  ·rename_i y hy
   split at h
   ·cases h
   ·rename_i z hzz;simp only [hy,hzz];exact ⟨q6M _,qbj (q8t (qmw hsq) _ _ z (Nat.le_refl _) q3o hzz) _⟩
abbrev GSt:=Int × List Nat × List Nat × List Nat × Int
def gEr (e:Int):GSt:=(e,[],[],[],0)
section
open Classical
noncomputable def gS5 (n:Nat) (z:List Nat) (be:Nat) (p x r:List Nat) (tau:Int):GSt:=if ∀ v ∈ lnF z be p n,q0V v then (0,x,r,lnF z be p n,tau) else gEr 233
noncomputable def gS4 (n:Nat) (F:List Int × List Int × List Int × List Nat) (p x r:List Nat) (rho:Int):GSt :=
 if (dfE F r).2≠0 then gEr (dfE F r).2 else if q0V (fQ 0 (q3F r (dfE F r).1) rho) then gS5 n (dfE F r).1 (fQ 0 (q3F r (dfE F r).1) rho) p x r (q3F r (dfE F r).1) else gEr 233
noncomputable def gS3 (n:Nat) (F:List Int × List Int × List Int × List Nat) (x r p q:List Nat) (rho:Int) (al:Nat):GSt :=
 if ∀ v ∈ lnF x al p n,q0V v then (if ∀ v ∈ lnF r (q5m al) q n,q0V v then gS4 n F p (lnF x al p n) (lnF r (q5m al) q n) rho else gEr 233) else gEr 233
noncomputable def gS2 (n:Nat) (F:List Int × List Int × List Int × List Nat) (x r p q:List Nat) (rho:Int):GSt :=
 if q3F p q≤0 then gEr 360 else if q0V (fQ 0 rho (q3F p q)) then gS3 n F x r p q rho (fQ 0 rho (q3F p q)) else gEr 233
noncomputable def gS (n:Nat) (f:Nat→Nat→Option Nat) (F:List Int × List Int × List Int × List Nat) (x r p:List Nat) (rho:Int):GSt :=
 if rho≤0 then gEr 360 else if ∀ v ∈ q25 f p n n,q0V v then gS2 n F x r p (q25 f p n n) rho else gEr 233
noncomputable def grL (n:Nat) (f:Nat→Nat→Option Nat) (F:List Int × List Int × List Int × List Nat):Nat→List Nat→List Nat→List Nat→Int→List Nat→List Nat × List Nat × Int
 | 0,x,_,_,_,l=>(x,l,0)
 | k+1,x,r,p,rho,l=>if q3T r n=0 then (x,l,0) else if (gS n f F x r p rho).1≠0 then ([],[],(gS n f F x r p rho).1) else
  grL n f F k (gS n f F x r p rho).2.1 (gS n f F x r p rho).2.2.1 (gS n f F x r p rho).2.2.2.1 (gS n f F x r p rho).2.2.2.2 (l ++ [q3T (gS n f F x r p rho).2.2.1 n])
noncomputable def grR (R C:Nat) (F:List Int × List Int × List Int × List Nat) (b:List Nat) (steps:Int):Int :=
 if R≠C then 5 else if q6t F≠0 then q6t F else if F.1.length≠R then 5 else if b.length≠R then 2 else if ¬ ∀ v ∈ b,q0V v then 4 else if steps < 0∨64 < steps then 350 else 0
noncomputable def grS (R C:Nat) (f:Nat→Nat→Option Nat) (F:List Int × List Int × List Int × List Nat) (b:List Nat) (steps:Int):List Nat × List Nat × Int :=
 if grR R C F b steps≠0 then ([],[],grR R C F b steps) else if (dfE F b).2≠0 then ([],[],(dfE F b).2) else
  grL R f F steps.toNat (List.replicate R 0) b (dfE F b).1 (q3F b (dfE F b).1) [q3T b R]
end
section
variable {n:Nat} {f:Nat→Nat→Option Nat} {F:List Int × List Int × List Int × List Nat} {x r p:List Nat} {rho:Int}
theorem gS_ok (hn:n≤1000) (hF:F.1.length=n) (hr:F.2.2.1.length≤1000000) (hu:∀ x ∈ F.2.2.2,x < 18446744073709551616) (h:(gS n f F x r p rho).1=0) :
  (q1M (gS n f F x r p rho).2.1∧(gS n f F x r p rho).2.1.length=n)∧(q1M (gS n f F x r p rho).2.2.1∧(gS n f F x r p rho).2.2.1.length=n)∧(q1M (gS n f F x r p rho).2.2.2.1∧(gS n f F x r p rho).2.2.2.1.length=n)∧q0i (gS n f F x r p rho).2.2.2.2:=by
 unfold gS at h ⊢
 split at h
 ·simp [gEr] at h
 rename_i h1;rw [if_neg h1]
 split at h
 rotate_left
 ·simp [gEr] at h
 rename_i h2;rw [if_pos h2];unfold gS2 at h ⊢
 split at h
 ·simp [gEr] at h
 rename_i h3;rw [if_neg h3]
 split at h
 rotate_left
 ·simp [gEr] at h
 rename_i h4;rw [if_pos h4];unfold gS3 at h ⊢
 split at h
 rotate_left
 ·simp [gEr] at h
 rename_i h5;rw [if_pos h5]
 split at h
 rotate_left
 ·simp [gEr] at h
 rename_i h6;rw [if_pos h6];have a1:=q4J (x:=x) (t:=fQ 0 rho (q3F p (q25 f p n n))) (y:=p) (i:=n);have a2:=q4J (x:=r) (t:=q5m (fQ 0 rho (q3F p (q25 f p n n)))) (y:=q25 f p n n) (i:=n);have a3:q1M (lnF x (fQ 0 rho (q3F p (q25 f p n n))) p n):=fun v hv=>⟨qcZ v hv,h5 v hv⟩;have a4:q1M (lnF r (q5m (fQ 0 rho (q3F p (q25 f p n n)))) (q25 f p n n) n):=fun v hv=>⟨qcZ v hv,h6 v hv⟩;generalize lnF x (fQ 0 rho (q3F p (q25 f p n n))) p n=x1 at *;generalize lnF r (q5m (fQ 0 rho (q3F p (q25 f p n n)))) (q25 f p n n) n=r1 at *;unfold gS4 at h ⊢
 split at h
 ·rename_i h7;exact (h7 h).elim
 rename_i h7;rw [if_neg h7]
 split at h
 rotate_left
 ·simp [gEr] at h
 rename_i h8;rw [if_pos h8];obtain ⟨b1,b2⟩:=qdU (l:=r1) hr hu (by simpa using h7);unfold gS5 at h ⊢
 split at h
 rotate_left
 ·simp [gEr] at h
 rename_i h9;rw [if_pos h9];exact ⟨⟨a3,a1⟩,⟨a4,a2⟩,⟨fun v hv=>⟨qcZ v hv,h9 v hv⟩,q4J⟩,q67 a4 b2 (by omega)⟩
end
end Go.Sp
namespace Go.E
open Go Go.RowKit
theorem LeS {J:Nat→Prop} {h:Hp} {T:TypeId} {K:Kd} {l m lr:List PV} {x:PV} (hq:h 5000=some ⟨T,K,[.ag l],false⟩) (hm:LeV some h (q08 h0 5000 ⟨T,K,[.ag m],false⟩) (.ag l) (.ag m)) (hx:LeV some h (q08 h0 5000 ⟨T,K,[.ag m],false⟩) (mkR lr) x):Le J (fun _=>mkR lr) h (fun _=>x) (q08 h0 5000 ⟨T,K,[.ag m],false⟩):=by
 refine q6o some (fun i b hb=>?_) (fun i j k b c _ _ ti tj=>by cases ti; cases tj; rfl) (fun _=>hx) fun _ _ _ _=>rfl
 by_cases hi:i=5000
 ·subst hi;rw [q0X] at hb; cases hb;unfold LeB;exact ⟨_,hq,rfl,rfl,⟨rfl,rfl⟩,by rw [q8m]; exact hm⟩
 ·rw [q0L hi] at hb; cases hb
end Go.E
namespace Go.Proofs.YtbcmhlhgljoolaaGreatDoor
open Go Go.E Go.Sp
section
variable {n:Nat} {f:Nat→Nat→Option Nat} {F:List Int × List Int × List Int × List Nat} {x r p:List Nat} {rho:Int}
def stL (n:Nat) (f:Nat→Nat→Option Nat) (F:List Int × List Int × List Int × List Nat) (x r p:List Nat) (rho:Int):List PV:=[iv n,iv n,pI (tM f n n).1,pI (tM f n n).2.1,pF (tM f n n).2.2,pI F.1,pI F.2.1,pI F.2.2.1,pF F.2.2.2,pF x,pF r,.un,pF p,bv false,bv (decide (od rho < 0)),.fm (fL (od rho)),iv (dyE rho)]
def qn1:List PV:=[.un,.un,.un,.un,.un,.un,.un,.un,.un,.un,.un,.un,.un,.un,.un,.un,.un]
abbrev stH (l:List PV):Hp:=q08 h0 5000 ⟨115,some 17,[.ag l],false⟩
theorem qod {a0 a1 a2 a3 a4 a5 a6 a7 a8 a9 a10 a11 a12 a13 a14 a15 a16:PV}:ldU (some 17) (some 5) 0 (.ag [a0,a1,a2,a3,a4,a5,a6,a7,a8,a9,a10,a11,a12,a13,a14,a15,a16])=some (.ag [a0,a1,a2,a3,a4]):=by simp [ldU]
theorem qoe {a0 a1 a2 a3 a4 a5 a6 a7 a8 a9 a10 a11 a12 a13 a14 a15 a16:PV}:ldU (some 17) (some 4) 5 (.ag [a0,a1,a2,a3,a4,a5,a6,a7,a8,a9,a10,a11,a12,a13,a14,a15,a16])=some (.ag [a5,a6,a7,a8]):=by simp [ldU]
theorem qoc {a0 a1 a2 a3 a4 a5 a6 a7 a8 a9 a10 a11 a12 a13 a14 a15 a16:PV}:ldU (some 17) (some 4) 13 (.ag [a0,a1,a2,a3,a4,a5,a6,a7,a8,a9,a10,a11,a12,a13,a14,a15,a16])=some (.ag [a13,a14,a15,a16]):=by simp [ldU]
theorem qn3 {a0 a1 a2 a3 a4 a5 a6 a7 a8 a9 a10 a11 a12 a13 a14 a15 a16 b0 b1 b2 b3:PV}:stU (some 17) (some 4) 13 (.ag [a0,a1,a2,a3,a4,a5,a6,a7,a8,a9,a10,a11,a12,a13,a14,a15,a16]) (.ag [b0,b1,b2,b3])=some (.ag [a0,a1,a2,a3,a4,a5,a6,a7,a8,a9,a10,a11,a12,b0,b1,b2,b3]):=by simp [stU]
attribute [go_sem] qod qoe qoc qn3
theorem ag17:q0g Tryz.prog 115=some (some 17):=by kernel_rfl
attribute [go_sem] ag17
theorem qn2 {l m:List PV} (hl:IdL win l):∀ i b,stH l i=some b→win i∧b.st=false∧IdL win b.xs∧∃ b',stH m i=some b'∧b'.k=b.k∧b.xs.length≤b'.xs.length:=fun i b hb=>by
 unfold stH at hb
 by_cases hi:i=5000
 ·subst hi;rw [q0X] at hb; cases hb;exact ⟨⟨by omega,by omega⟩,rfl,IdL.of fun x hx=>by simp at hx; subst hx; unfold IdP; exact hl,_,q0X,rfl,Nat.le_refl _⟩
 ·rw [q0L hi] at hb; cases hb
theorem qjA {m:List PV}:∀ i b,stH m i=some b→win i:=fun i b hb=>by
 unfold stH at hb
 by_cases hi:i=5000
 ·subst hi; exact ⟨by omega,by omega⟩
 ·rw [q0L hi] at hb; cases hb
theorem q8E {q:Nat→Prop}:IdL q (stL n f F x r p rho):=by
 unfold stL;simp [IdL,IdP]
theorem qgj {J:Nat→Prop} {h:Hp} {T:TypeId} {K:Kd} {l:List PV} {v:Value} (hq:h 5000=some ⟨T,K,[.ag l],false⟩) (hl:l.length=17):Le J (fun _=>mkR [.vl v]) h (fun _=>.vl v) (q08 h0 5000 ⟨T,K,[.ag qn1],false⟩):=LeS hq (.ag hl fun i x y _ hy=>by
 have:y ∈ qn1:=List.mem_of_getElem? hy;simp [qn1] at this;subst this; exact .un) (.cl trivial)
noncomputable def stN (n:Nat) (f:Nat→Nat→Option Nat) (F:List Int × List Int × List Int × List Nat) (g:GSt):List PV:=if g.1=0 then stL n f F g.2.1 g.2.2.1 g.2.2.2.1 g.2.2.2.2 else qn1
theorem q6K {e:Int} (h:e≠0):stN n f F (gEr e)=qn1:=if_neg h
theorem qnX (hm : TOk f n n) (hn : n ≤ 20) (hp : F.1.length ≤ 1000000) (hc : F.2.1.length ≤ 1000000) (hr : F.2.2.1.length ≤ 1000000) (hv : F.2.2.2.length ≤ 1000000) (hu : ∀ x ∈ F.2.2.2, x < 18446744073709551616) (hF : F.1.length = n)
    (hx : q1M x ∧ x.length = n) (hrr : q1M r ∧ r.length = n) (hpp : q1M p ∧ p.length = n) (hrho : q0i rho) :
    qma 80 [.pt 5000 0 0] (stH (stL n f F x r p rho)) (iv (gS n f F x r p rho).1) (stH (stN n f F (gS n f F x r p rho))) := by
  obtain ⟨hx1, hx2⟩ := hx
  obtain ⟨hr1, hr2⟩ := hrr
  obtain ⟨hp1, hp2⟩ := hpp
  refine actm qpc Tryz.func80 rfl Tryz.ntmps80 (by kernel_rfl) ?_ ?_ ?_ ?_
  · exact qn2 q8E
  · exact qjA
  · exact IdL.of fun x hx => by
      simp at hx; subst hx; unfold IdP; exact ⟨by omega, by omega⟩
  have C1 := q2U hrho
  have C2 := q7V hm hp1 hp2 hn
  have hq2 := q9B (f := f) (x := p) (n := n) (i := n)
  have hqu := qnP (f := f) (x := p) (n := n) (i := n)
  unfold gS
  generalize q25 f p n n = q at *
  unfold stL pT q5k lnR at *
  by_cases a1 : rho ≤ 0
  · have q1 : rho.sign ≤ 0 := by rcases Int.lt_or_eq_of_le a1 with h | rfl; · rw [Int.sign_eq_neg_one_of_neg h]; decide
                                 · decide
    rw [if_pos a1]
    rw [q6K (by decide)]
    unfold gEr
    refine wk1 q1 ?_
    refine (rtM (rs := [.tmp 2]) rfl rfl Lq ?_ (.inl rfl))
    exact qgj rfl rfl
  have q1 : ¬ rho.sign ≤ 0 := by rw [Int.sign_eq_one_of_pos (by omega)]; decide
  rw [if_neg a1]
  by_cases a2 : ∀ v ∈ q, q0V v
  rotate_left
  · rw [if_neg a2, q6K (by decide)]
    rw [decide_eq_false a2] at C2
    unfold gEr
    refine wk1 q1 ?_
    refine (rtM (rs := [.tmp 2]) rfl rfl Lq ?_ (.inl rfl))
    exact qgj rfl rfl
  rw [if_pos a2]
  rw [decide_eq_true a2] at C2
  have hqf : q1M q := fun v hv => ⟨hqu v hv, a2 v hv⟩
  have C3 := q5M hp1 hqf (by omega) (by omega)
  have hsd := q67 hp1 hqf (by omega)
  unfold gS2
  generalize q3F p q = sg at *
  have C4 := q2U hsd
  by_cases a3 : sg ≤ 0
  · have q3 : sg.sign ≤ 0 := by rcases Int.lt_or_eq_of_le a3 with h | rfl; · rw [Int.sign_eq_neg_one_of_neg h]; decide
                                · decide
    rw [if_pos a3, q6K (by decide)]
    unfold gEr
    refine wk1 (x2 q1 q3) ?_
    refine (rtM (rs := [.tmp 2]) rfl rfl Lq ?_ (.inl rfl))
    exact qgj rfl rfl
  have q3 : ¬ sg.sign ≤ 0 := by rw [Int.sign_eq_one_of_pos (by omega)]; decide
  rw [if_neg a3]
  have C5 := q83 hrho hsd (by omega)
  have hal := qae (mode := 0) (a := rho) (b := sg) (by omega)
  generalize fQ 0 rho sg = al at *
  have C6 := q4M hal
  by_cases a4 : q0V al
  rotate_left
  · rw [if_neg a4, q6K (by decide)]
    rw [decide_eq_false a4] at C6
    unfold gEr
    refine wk1 (x2 q1 q3) ?_
    refine (rtM (rs := [.tmp 2]) rfl rfl Lq ?_ (.inl rfl))
    exact qgj rfl rfl
  rw [if_pos a4]
  rw [decide_eq_true a4] at C6
  obtain ⟨n1, n2, n3⟩ := qcI a4 hal
  have C7 := q2m hal (q0h a4)
  have C8 := qbD (q3J a4)
  have C9 := q62 rfl hx1 hp1 a4 (by omega) (by omega)
  have C10 := q62 n1.symm hr1 hqf n2 (by omega) (by omega)
  rw [hx2] at C9
  rw [hr2] at C10
  unfold gS3
  have hxu := qcZ (x := x) (t := al) (y := p) (i := n)
  have hru := qcZ (x := r) (t := q5m al) (y := q) (i := n)
  have hxl := q4J (x := x) (t := al) (y := p) (i := n)
  have hrl := q4J (x := r) (t := q5m al) (y := q) (i := n)
  unfold lnR at C9 C10
  generalize lnF x al p n = x1 at *
  generalize lnF r (q5m al) q n = r1 at *
  by_cases a5 : ∀ v ∈ x1, q0V v
  rotate_left
  · rw [if_neg a5, q6K (by decide)]
    rw [decide_eq_false a5] at C9
    unfold gEr
    refine wk1 (x2 q1 q3) ?_
    refine (rtM (rs := [.tmp 2]) rfl rfl Lq ?_ (.inl rfl))
    exact qgj rfl rfl
  rw [if_pos a5]
  rw [decide_eq_true a5] at C9
  by_cases a6 : ∀ v ∈ r1, q0V v
  rotate_left
  · rw [if_neg a6, q6K (by decide)]
    rw [decide_eq_false a6] at C10
    unfold gEr
    refine wk1 (x2 q1 q3) ?_
    refine (rtM (rs := [.tmp 2]) rfl rfl Lq ?_ (.inl rfl))
    exact qgj rfl rfl
  rw [if_pos a6]
  rw [decide_eq_true a6] at C10
  have hr1f : q1M r1 := fun v hv => ⟨hru v hv, a6 v hv⟩
  have hul : ∀ v ∈ r1, v < 18446744073709551616 := hru
  have C11 := (qhg (qbl hp hc hr hv hu hul (by omega))).ac
  have hdf := @qdU F r1 hr hu
  unfold gS4
  rw [show (F.1, F.2.1, F.2.2.1, F.2.2.2) = F from rfl] at C11
  generalize dfE F r1 = D at *
  obtain ⟨z, e⟩ := D
  dsimp only at C11 hdf ⊢
  unfold q4k at C11
  by_cases a7 : e = 0
  rotate_left
  · rw [if_pos a7]
    have q7 : (e != 0) = true := by simpa using a7
    rw [q6K a7]
    unfold gEr
    refine wk1 (x3 q1 q3 q7) ?_
    refine (rtM (rs := [.tmp 2]) rfl rfl Lq ?_ (.inl rfl))
    exact qgj rfl rfl
  subst a7
  rw [if_neg (not_not_intro rfl)]
  obtain ⟨hz1, hz2⟩ := hdf rfl
  have C12 := q5M hr1f hz2 (by omega) (by omega)
  have htd := q67 hr1f hz2 (by omega)
  generalize q3F r1 z = ta at *
  have C13 := q83 htd hrho (by omega)
  have hbe := qae (mode := 0) (a := ta) (b := rho) (by omega)
  generalize fQ 0 ta rho = be at *
  have C14 := q4M hbe
  by_cases a8 : q0V be
  rotate_left
  · rw [if_neg a8, q6K (by decide)]
    rw [decide_eq_false a8] at C14
    unfold gEr
    refine wk1 (x2 q1 q3) ?_
    refine (rtM (rs := [.tmp 2]) rfl rfl Lq ?_ (.inl rfl))
    exact qgj rfl rfl
  rw [if_pos a8]
  rw [decide_eq_true a8] at C14
  have C15 := q2m hbe (q0h a8)
  have C16 := q62 rfl hz2 hp1 a8 (by omega) (by omega)
  rw [show z.length = n by omega] at C16
  unfold gS5
  unfold lnR at C16
  generalize lnF z be p n = p1 at *
  by_cases a9 : ∀ v ∈ p1, q0V v
  rotate_left
  · rw [if_neg a9, q6K (by decide)]
    rw [decide_eq_false a9] at C16
    unfold gEr
    refine wk1 (x2 q1 q3) ?_
    refine (rtM (rs := [.tmp 2]) rfl rfl Lq ?_ (.inl rfl))
    exact qgj rfl rfl
  rw [if_pos a9]
  rw [decide_eq_true a9] at C16
  unfold stN
  rw [if_pos rfl]
  unfold stL
  refine wk1 (x2 q1 q3) ?_
  refine (rtM (rs := [.tmp 2]) rfl rfl Lq ?_ (.inl rfl))
  refine LeS rfl ?_ ?_
  · try simp -implicitDefEqProofs (disch := omega) only [go_sem, Nat.reduceEqDiff, Nat.reduceAdd, ↓reduceIte]
  · try simp -implicitDefEqProofs (disch := omega) only [go_sem, Nat.reduceEqDiff, Nat.reduceAdd, ↓reduceIte]
end
section
variable {R C:Nat} {f:Nat→Nat→Option Nat} {F:List Int × List Int × List Int × List Nat} {b:List Nat} {steps:Int}
theorem qc7 (hm:TOk f R C) (hp:F.1.length≤1000000) (hc:F.2.1.length≤1000000) (hr:F.2.2.1.length≤1000000) (hv:F.2.2.2.length≤1000000) (hu:∀ x ∈ F.2.2.2,x < 18446744073709551616) (hb:∀ v ∈ b,v < 18446744073709551616) (hbl:b.length≤1000000):ACt 74 [pT R C f,q4k F,pF b,iv steps] (iv (grR R C F b steps)):=by
 have C1:=q9A hm;have C2:=q9l hp hc hr hv hu;have C3:=q3B hb hbl;rw [show (F.1,F.2.1,F.2.2.1,F.2.2.2)=F from rfl] at C2;unfold grR;unfold pT q5k q4k at *;generalize q6t F=e at *
 by_cases h1:R=C
 rotate_left
 ·rw [if_pos h1];refine ac0 Tryz.func74 Tryz.ntmps74 [.tmp 8] ?_;exact wk trivial
 subst h1;rw [if_neg (not_not_intro rfl)]
 by_cases h2:e=0
 rotate_left
 ·rw [if_pos h2];have q2:(e != 0)=true:=by simpa using h2
  refine ac0 Tryz.func74 Tryz.ntmps74 [.tmp 8] ?_;exact wk1 q2 trivial
 subst h2;rw [if_neg (not_not_intro rfl)]
 by_cases h3:F.1.length=R
 rotate_left
 ·rw [if_pos h3];have q3:((F.1.length:Int) != (R:Int))=true:=by simp; omega
  refine ac0 Tryz.func74 Tryz.ntmps74 [.tmp 8] ?_;exact wk1 q3 trivial
 rw [if_neg (not_not_intro h3)];have q3:((F.1.length:Int) != (R:Int))=false:=by simp; omega
 by_cases h4:b.length=R
 rotate_left
 ·rw [if_pos h4];have q4:((b.length:Int) != (R:Int))=true:=by simp; omega
  refine ac0 Tryz.func74 Tryz.ntmps74 [.tmp 8] ?_;exact wk1 (x2 q3 q4) trivial
 rw [if_neg (not_not_intro h4)];have q4:((b.length:Int) != (R:Int))=false:=by simp; omega
 by_cases h5:∀ v ∈ b,q0V v
 rotate_left
 ·rw [if_pos h5];rw [decide_eq_false h5] at C3;refine ac0 Tryz.func74 Tryz.ntmps74 [.tmp 8] ?_;exact wk1 (x2 q3 q4) trivial
 rw [if_neg (not_not_intro h5)];rw [decide_eq_true h5] at C3
 by_cases h6:steps < 0
 ·rw [if_pos (.inl h6)];refine ac0 Tryz.func74 Tryz.ntmps74 [.tmp 8] ?_;exact wk1 (x3 q3 q4 h6) trivial
 by_cases h7:64 < steps
 ·rw [if_pos (.inr h7)];refine ac0 Tryz.func74 Tryz.ntmps74 [.tmp 8] ?_;exact wk1 (x4 q3 q4 h6 h7) trivial
 rw [if_neg (by omega)];refine ac0 Tryz.func74 Tryz.ntmps74 [.tmp 8] ?_;exact wk1 (x4 q3 q4 h6 h7) trivial
end
end Go.Proofs.YtbcmhlhgljoolaaGreatDoor
namespace Go.E
open Go Go.RowKit
theorem flS_5 {off:Nat} {a b c d e:PV} {cs:List PV}:flS (some (off,5)) (.ag [a,b,c,d,e]) cs=q8J cs off [a,b,c,d,e]:=by
 rw [q5C (by simp)];simp [flS]
attribute [go_sem] flS_5
theorem LeN {J:Nat→Prop} {s:Nat→PV} {h:Hp} {o:Nat} {T:TypeId} {K:Kd} {l m:List PV} (hJ:∀ i,¬ J i) (ho:h o=some ⟨T,K,[.ag l],false⟩) {xs kv:List (Nat × PV)} {kb:List (Nat × Option Bk)} (hn:nmW o o (kb.map (·.1)))
  (hm:LeV (tnU 5000 o) h (q1q (q08 h0 5000 ⟨T,K,[.ag m],false⟩) (hpM [] kb)) (.ag l) (.ag m))
  (hh:q7i (tnU 5000 o) h (q1q (q08 h0 5000 ⟨T,K,[.ag m],false⟩) (hpM [] kb)) s xs∧q7i (tnU 5000 o) h (q1q (q08 h0 5000 ⟨T,K,[.ag m],false⟩) (hpM [] kb)) s kv∧qbA (tnU 5000 o) h (q1q (q08 h0 5000 ⟨T,K,[.ag m],false⟩) (hpM [] kb)) kb):Le J s h (stM xs kv) (q1q (q08 h0 5000 ⟨T,K,[.ag m],false⟩) (hpM [] kb)):=by
 obtain ⟨h1,h2,h4⟩:=hh;have w5:win 5000:=⟨by omega,by omega⟩;have key:∀ i b,q1q (q08 h0 5000 ⟨T,K,[.ag m],false⟩) (hpM [] kb) i=some b→i=5000∨(i < 5000∧i≠o∧LeB (tnU 5000 o) h (q1q (q08 h0 5000 ⟨T,K,[.ag m],false⟩) (hpM [] kb)) i b):=fun i b hb=>by
  by_cases hi:win i
  ·rw [q1G hi] at hb
   by_cases e:i=5000
   ·exact .inl e
   ·rw [q0L e] at hb; cases hb
  ·rw [q1c hi] at hb;have q:=q52 h4 i b hb;have:=q6W hn i q.2;exact .inr ⟨this.1,this.2.1,q.1⟩
 refine q6o (tnU 5000 o) (fun i b hb=>?_) (fun i j k' b c hi hj ti tj=>?_) (fun t=>q5x h2 h1 t) fun i hi=>(hJ i hi).elim
 ·rcases key i b hb with rfl | ⟨_,_,q⟩
  ·rw [q1G w5,q0X] at hb; cases hb;unfold LeB;rw [show tnU 5000 o 5000=some o from if_pos rfl];exact ⟨_,ho,rfl,rfl,⟨rfl,rfl⟩,by rw [q8m]; exact hm⟩
  ·exact q
 ·rcases key i b hi with rfl | ⟨a1,a2,_⟩ <;> rcases key j c hj with rfl | ⟨b1,b2,_⟩
  ·rfl
  ·rw [show tnU 5000 o 5000=some o from if_pos rfl] at ti;unfold tnU at tj;rw [if_neg (by omega)] at tj; cases ti; cases tj; exact (b2 rfl).elim
  ·rw [show tnU 5000 o 5000=some o from if_pos rfl] at tj;unfold tnU at ti;rw [if_neg (by omega)] at ti; cases ti; cases tj; exact (a2 rfl).elim
  ·unfold tnU at ti tj;rw [if_neg (by omega)] at ti tj; cases ti; cases tj; rfl
end Go.E
namespace Go.Proofs.YtbcmhlhgljoolaaGreatDoor
open Go Go.E Go.Sp
structure GI where
 k:Nat
 x:List Nat
 r:List Nat
 p:List Nat
 rho:Int
 l:List Nat
theorem qnY {l:List PV} (hl:∀ q,IdL q l):WfH (stH l):=⟨fun i b hb=>by
 unfold stH at hb
 by_cases hi:i=5000
 ·subst hi;rw [q0X] at hb; cases hb;exact ⟨rfl,IdL.of fun x hx=>by simp at hx; subst hx; unfold IdP; exact hl _⟩
 ·rw [q0L hi] at hb; cases hb⟩
abbrev grP (q:List Nat × List Nat × Int):PV:=.tu [pF q.1,pF q.2.1,iv q.2.2]
section
variable {R C:Nat} {f:Nat→Nat→Option Nat} {F:List Int × List Int × List Int × List Nat} {b:List Nat} {steps:Int}
theorem qfR (hm:TOk f R C) (hR:R≤20) (hp:F.1.length≤1000000) (hc:F.2.1.length≤1000000) (hr:F.2.2.1.length≤1000000) (hv:F.2.2.2.length≤1000000) (hu:∀ x ∈ F.2.2.2,x < 18446744073709551616) (hb:∀ v ∈ b,v < 18446744073709551616) (hbl:b.length≤1000000):ACt 26 [pT R C f,q4k F,pF b,iv steps] (grP (grS R C f F b steps)):=by
 have C1:=qc7 (steps:=steps) hm hp hc hr hv hu hb hbl;have C2:=(qhg (qbl hp hc hr hv hu hb hbl)).ac;rw [show (F.1,F.2.1,F.2.2.1,F.2.2.2)=F from rfl] at C2;have hdf:=@qdU F b hr hu;unfold grP grS;obtain ⟨e,he⟩:∃ e,e=grR R C F b steps:=⟨_,rfl⟩;rw [← he] at C1 ⊢;have h64:e=0→R=C∧F.1.length=R∧b.length=R∧(∀ v ∈ b,q0V v)∧0≤steps∧steps≤64:=fun h=>by
  rw [h] at he;unfold grR at he
  repeat' (split at he <;> try (first | omega | (exfalso; omega)))
  rename_i a1 a2 a3 a4 a5 a6;exact ⟨by omega,by omega,by omega,by simpa using a5,by omega,by omega⟩
 clear he;have C3:=q76 (l:=b) hbl
 by_cases h1:e=0
 rotate_left
 ·rw [if_pos h1];have q1:(e != 0)=true:=by simpa using h1
  unfold pT q5k q4k at *;refine ac0 Tryz.func26 Tryz.ntmps26 [.tmp 8,.tmp 9,.tmp 10] ?_;exact wk1 q1 trivial
 subst h1;rw [if_neg (not_not_intro rfl)];obtain ⟨rfl,g1,g2,g3,g4,g5⟩:=h64 rfl;have hbf:q1M b:=fun v hv=>⟨hb v hv,g3 v hv⟩;generalize dfE F b=D at *;obtain ⟨z,e⟩:=D;dsimp only at C2 hdf ⊢;have stp:=fun (x r p:List Nat) (rho:Int)=>@qnX R f F x r p rho hm hR hp hc hr hv hu g1;have sok:=fun (x r p:List Nat) (rho:Int)=>@gS_ok R f F x r p rho (by omega) g1 hr hu;unfold pT q5k q4k at *
 by_cases h2:e=0
 rotate_left
 ·rw [if_pos h2];have q2:(e != 0)=true:=by simpa using h2
  refine ac0 Tryz.func26 Tryz.ntmps26 [.tmp 8,.tmp 9,.tmp 10] ?_;exact wk1 q2 trivial
 subst h2;rw [if_neg (not_not_intro rfl)];obtain ⟨z1,z2⟩:=hdf rfl;have C4:=q76 (l:=z) (by omega);have C5:=q5M hbf z2 (by omega) (by omega);have hrd:=q67 hbf z2 (by omega);have C6:=q94 hbf (by omega);rw [g2] at C6;obtain ⟨N,rfl⟩:∃ N:Nat,steps=N:=⟨steps.toNat,by omega⟩;rw [Int.toNat_natCast];obtain ⟨Res,hRes⟩:∃ Res,Res=grL R f F N (List.replicate R 0) b z (q3F b z) [q3T b R]:=⟨_,rfl⟩;rw [← hRes];generalize q3F b z=rho at *;refine ac0 Tryz.func26 Tryz.ntmps26 [.tmp 8,.tmp 9,.tmp 10] ?_;refine wk ?_;refine q8o (LeN (o:=32) (xs:=[(3,iv N),(12,.pt 5000 0 0),(14,.ow 73 none 0 1),(74,iv N),(75,iv 0)]) (kv:=[]) (kb:=[(73,some ⟨30,none,[uv (q3T b R:Nat)],false⟩)]) (m:=stL R f F (List.replicate R 0) b z rho) (fun _ h=>h) rfl (by simp [nmW]) ?_ ?_) ?_
 ·unfold stL
  try refine Zz ?_
  refine qi3 (T:=30) (l:=(List.replicate R 0).map fun z:Nat=>uv z) ?_ clU (fun i hi=>?_) ?_
  ·try refine Zz ?_
   rw [List.map_replicate,g2]
   rfl
  ·unfold tnU at hi
   split at hi
   ·cases hi
   ·cases hi
    rfl
  ·rw [List.drop_zero]; exact List.take_of_length_le (by simp; omega)
 ·try simp -implicitDefEqProofs (disch:=omega) only [go_sem,Nat.reduceEqDiff,Nat.reduceAdd,↓reduceIte]
 refine q3E (fun i:GI=>i.k≤N∧(q1M i.x∧i.x.length=R)∧(q1M i.r∧i.r.length=R)∧(q1M i.p∧i.p.length=R)∧q0i i.rho∧i.l.length=i.k+1∧i.l[i.k]?=some (q3T i.r R)∧grL R f F (N-i.k) i.x i.r i.p i.rho i.l=Res) [3,12,74] [] Lk Lk (fun i:GI=>[(75,iv i.k),(14,.ow 1001 none 0 (i.k+1))]) (fun i=>[(1001,⟨30,none,i.l.map fun z:Nat=>uv z,false⟩)]) (fun i=>stH (stL R f F i.x i.r i.p i.rho)) (fun i=>N-i.k) ⟨0,List.replicate R 0,b,z,rho,[q3T b R]⟩ ⟨Nat.zero_le _,⟨q3o,by simp⟩,⟨hbf,g2⟩,⟨z2,by dsimp only; omega⟩,hrd,rfl,rfl,hRes.symm⟩ ?_ ?_
 ·refine LeW [(1001,some 73)] rfl rfl ?_ ?_ (by simp [q7m,q53,win]) ?_
  ·exact q3H
  ·exact qnY fun q=>q8E
  ·try refine Zz ?_
   rfl
 ·rintro ⟨k,x,r,p,rho,l⟩ ⟨i1,i2,i3,i4,i5,i6,i7,i8⟩;dsimp only at i1 i2 i3 i4 i5 i6 i7 i8 ⊢
  by_cases hlt:k < N
  rotate_left
  ·obtain rfl:k=N:=by omega
   rw [Nat.sub_self,grL] at i8;rw [← i8];have q:¬ (k:Int) < k:=by omega
   unfold stL stH;exact wk1 (x2 q i6) trivial
  have q:(k:Int) < N:=by omega
  rw [show N-k=N-(k+1)+1 by omega,grL] at i8;have hsz:=q8F i3.1 R (by omega);have C7:=q65 (f:=q3T r R) (by omega);have qk:(((q61 (q3T r R):Nat):Int) == 0)=decide (q3T r R=0):=by
   rw [Bool.eq_iff_iff,beq_iff_eq,decide_eq_true_iff];have:=qc6 (f:=q3T r R) (by omega);unfold q6n at this;omega
  have w1:((k+1:Nat):Int)-1=k:=by omega
  unfold stL stH
  by_cases hz0:q3T r R=0
  ·rw [if_pos hz0] at i8;rw [← i8];rw [decide_eq_true hz0] at qk;exact wk1 (x5 q i6 i7 qk w1) trivial
  rw [if_neg hz0] at i8;rw [decide_eq_false hz0] at qk;have stp:=stp x r p rho i2 i3 i4 i5;have sok:=sok x r p rho;rw [show stH (stL R f F x r p rho)=q08 h0 5000 ⟨115,some 17,[.ag (stL R f F x r p rho)],false⟩ from rfl] at stp;unfold stL at stp;generalize gS R f F x r p rho=g at *;obtain ⟨e,x',r',p',rho'⟩:=g;dsimp only at stp sok i8;refine wk1 (x5 q i6 i7 qk w1) ?_;refine A_sj fun K hK=>?_;refine Zz ?_;refine jmF stp ?_ ?_
  ·repeat (first | exact q3H | exact q7q | exact q8i | exact q7p (by simp [nmW]) (by simp [nmW]) | refine q8j (by omega) ?_)
  try refine Zz ?_
  refine hK _ _ ?_; clear hK K
  by_cases h2:e=0
  rotate_left
  ·rw [if_pos h2] at i8;rw [← i8];have q2:(e != 0)=true:=by simpa using h2
   exact wk1 q2 trivial
  subst h2;rw [if_neg (not_not_intro rfl)] at i8;obtain ⟨j2,j3,j4,j5⟩:=sok rfl;have C8:=q94 j3.1 (by omega);rw [j3.2] at C8;rw [show stN R f F (0,x',r',p',rho')=stL R f F x' r' p' rho' from if_pos rfl];unfold stL;refine wk ?_;refine ⟨⟨k+1,x',r',p',rho',l ++ [q3T r' R]⟩,⟨by dsimp only; omega,j2,j3,j4,j5,by simp [i6],?_,i8⟩,by dsimp only; omega,?_⟩
  ·dsimp only;rw [List.getElem?_append_right (by omega),i6,Nat.sub_self]; rfl
  refine LeW [(1001,some 97)] rfl rfl ?_ ?_ (by simp [q7m,q53,win]) ?_
  ·repeat (first | exact q3H | exact q7q | exact q8i | exact q7p (by simp [nmW]) (by simp [nmW]) | refine q8j (by omega) ?_)
  ·exact qnY fun q=>q8E
  ·try refine Zz ?_
   exact ⟨by omega,i6⟩
end
section
variable {n k:Nat} {f:Nat→Nat→Option Nat} {F:List Int × List Int × List Int × List Nat} {x r p x' r' p' l:List Nat} {rho rho' e:Int}
theorem grL_z (h:q3T r n=0):grL n f F (k+1) x r p rho l=(x,l,0):=by rw [grL,if_pos h]
theorem grL_s (h:q3T r n≠0) (hg:gS n f F x r p rho=(0,x',r',p',rho')):grL n f F (k+1) x r p rho l=grL n f F k x' r' p' rho' (l ++ [q3T r' n]):=by
 rw [grL,if_neg h,hg];exact if_neg (not_not_intro rfl)
end
section
variable {R C:Nat} {f:Nat→Nat→Option Nat} {F:List Int × List Int × List Int × List Nat} {b:List Nat} {steps:Int}
end
theorem qhi {h:Hp}:clo h .un=some (.un,[]):=by
 unfold clo q3p;exact if_pos trivial
section
variable {f:Nat→Nat→Option Nat} {n:Nat}
end
theorem q2s {T id n:Nat} {h h':Hp} {l:List PV} (h1:h id=some ⟨T,none,l,false⟩) (hc:ClL l) (h2:h' id=none) (hn:l.length=n):LeV (q53 []) h h' (.ow id none 0 n) (.sl none l):=qi3 (T:=T) (l:=l) h1 hc (fun i hi=>by
 have hi:some i=some id:=hi;cases hi;exact h2) (by rw [List.drop_zero]; exact List.take_of_length_le (by omega))
theorem qf4:flz 0=0:=by unfold flz; rw [Int.zero_mul]; rfl
theorem qfC {u x:Int} (hu:u.natAbs≤9) (hx:x.natAbs≤9):q1U (flz u) (flz x)=u*x*(2:Int) ^ 65536:=by
 unfold q1U;rw [q1I (q97 Oq),q1I (q97 Oq),qfE rfl]
 ·rfl
 ·have:(u*x).natAbs≤81:=by rw [Int.natAbs_mul]; exact Nat.mul_le_mul hu hx
  have h:=q0Y (n:=(u*x).natAbs) (k:=7) (Nat.lt_of_le_of_lt this Oq);omega
theorem q2k {u x:Int} {K:Nat} (hK:K=65536) (hu:u.natAbs≤9) (hx:x.natAbs≤9):q1U (flz u) (flz x)=u*x*(2:Int) ^ K:=by rw [hK]; exact qfC hu hx
theorem q6G (V:Int):q1K [V]=V:=by have:=q1E [] V; rw [List.nil_append,q9C] at this; omega
section
variable {f:Fac} {z:Nat→Int}
end
end Go.Proofs.YtbcmhlhgljoolaaGreatDoor
namespace Go.Sp
open Go Go.E
theorem qnd {z:Int} {K:Nat}:decide (z*(2:Int) ^ K < 0)=decide (z < 0):=by
 have hp:=q0c K;rw [decide_eq_decide]
 constructor
 ·intro h
  rcases Int.lt_or_le z 0 with h1 | h1
  ·exact h1
  ·have:=Int.mul_nonneg h1 (Int.le_of_lt hp); omega
 ·intro h; exact Int.mul_neg_of_neg_of_pos h hp
theorem rF_K {z y:Int} {neg:Bool} (K:Nat) (hz:z≠0) (hy:y≠0):rF 0 neg (z*(2:Int) ^ K).natAbs (y*(2:Int) ^ K).natAbs=rF 0 neg z.natAbs y.natAbs:=by
 rw [q0R,q0R];exact q4i Oq Oq (q0S K)
theorem fQ_K {z y:Int} (K:Nat) (hz:z≠0) (hy:y≠0):fQ 0 (z*(2:Int) ^ K) (y*(2:Int) ^ K)=rF 0 (decide (z < 0) != decide (y < 0)) z.natAbs y.natAbs:=by
 have hp:=q0c K;unfold fQ;rw [if_neg (Int.mul_ne_zero hz (Int.ne_of_gt hp)),qnd,qnd,rF_K K hz hy]
end Go.Sp
namespace Go.Proofs.YtbcmhlhgljoolaaGreatDoor
open Go Go.E Go.Sp
end Go.Proofs.YtbcmhlhgljoolaaGreatDoor
namespace Go.Sp
open Go Go.E Go.Proofs.YtbcmhlhgljoolaaGreatDoor
theorem flz8:flz 8=4620693217682128896:=by
 have h1:flz 8=fQ 0 (8*(2:Int) ^ 65536) (1*(2:Int) ^ 65536):=by
  have:=q9e (x:=8) (y:=1) (by omega) (by omega);rw [Int.mul_one] at this;exact this.symm
 rw [h1,fQ_K 65536 (by omega) (by omega)]
 show rF 0 false 8 1=4620693217682128896
 kernel_rfl
theorem q4F {z:Int} {K:Nat} (hK:K=65536) (h:z.natAbs≤9):ofZ (flz z)=z*(2:Int) ^ K:=by rw [hK]; exact q1I (q97 (by omega))
theorem qh9 {z:Int} {K:Nat} (hK:K=65536):fR 0 (z*(2:Int) ^ K)=flz z:=by rw [hK]; rfl
theorem qdD {x y:Int} {K:Nat} (hK:K=65536) (hy:y≠0) (hx:x.natAbs≤9):fQ 0 (x*y*(2:Int) ^ K) (y*(2:Int) ^ K)=flz x:=by rw [hK]; exact q9e hy (by omega)
theorem qad:q0V 0:=by unfold q0V; simp
theorem qez:ofZ 0=0:=by have:=q4F (z:=0) rfl (by omega); rw [qf4,Int.zero_mul] at this; exact this
theorem q9g {a b:Nat}:q3F [a] [b]=q1U a b:=by
 unfold q3F prL;simp only [List.length_cons,List.length_nil,Nat.zero_add,List.range_succ,List.range_zero,List.nil_append,List.map_cons,List.map_nil,List.getD_cons_zero];exact q6G _
theorem qjv {a b t:Nat}:lnF [a] t [b] 1=[fR 0 (ofZ a+q1U t b)]:=rfl
theorem qhj {c:Nat} (hc:q0V c) (h0:0 < ofZ c):q6t ([0],[0,1],[0],[c])=0:=by
 have p1:qgh [0] ([0]:List Int).length:=⟨rfl,fun x hx=>by simp at hx; subst hx; exact ⟨by omega,by simp⟩,by simp⟩;have p2:FStr ([0]:List Int).length [0,1] [0]:=⟨rfl,rfl,fun j hj=>by
  obtain rfl:j=0:=by simp at hj; omega
  refine ⟨0,1,rfl,rfl,by omega,by simp,⟨rfl,fun z hz=>?_,fun i x y hx hy=>?_⟩⟩
  ·cases hz; simp
  ·cases hy⟩
 have p3:FDg ([0]:List Int).length [0,1] [c]:=fun j hj a x ha hx=>by
  obtain rfl:j=0:=by simp at hj; omega
  simp at ha;obtain rfl:a=0:=by omega
  cases hx; exact h0
 unfold q6t;dsimp only;rw [if_neg (by simp),if_neg (not_not_intro p1),if_neg (by simp),if_neg (not_not_intro p2),if_pos ⟨fun x hx=>by simp at hx; subst hx; exact hc,p3⟩]
theorem qpU {c b y z:Nat} (hc:q0V c) (h0:0 < ofZ c) (hb:q0V b) (hy:fQ 0 (ofZ b) (ofZ c)=y) (hz:fQ 0 (ofZ y) (ofZ c)=z) (h1:q0V y) (h2:q0V z):dfE ([0],[0,1],[0],[c]) [b]=([z],0):=by
 unfold dfE;have hs:q8G (q6t ([0],[0,1],[0],[c])) ([0]:List Int).length [b]=0:=by
  rw [qhj hc h0];exact qn8 rfl fun x hx=>by simp at hx; subst hx; exact hb
 dsimp only;rw [if_neg (not_not_intro hs)];have e1:gaS [b] [0] 1=[b]:=rfl;have e2:q56 ⟨[0],[0,1],[0],[c]⟩ 1 1=[[c]]:=rfl;have e3:trS [[c]] 1 1=[[c]]:=rfl;rw [show ([0]:List Int).length=1 from rfl,e1,e2,e3];have v1:loV [[c]] [b] (List.replicate 1 0) 0=y:=by
  unfold loV;rw [← hy]
  congr 1
  exact q6G _
 have e4:loF [[c]] [b] 1 0 (List.replicate 1 0)=some [y]:=by
  rw [loF,v1,if_pos h1]; rfl
 have v2:upV [[c]] [y] (List.replicate 1 0) 1 0=z:=by
  unfold upV;rw [← hz]
  congr 1
  exact q6G _
 have e5:upF [[c]] [y] 1 1 (List.replicate 1 0)=some [z]:=by
  rw [upF,v2,if_pos h2]; rfl
 simp only [e4,e5]
 rfl
section
variable {c1 c2 c4 c8 K:Nat}
theorem qqC (hK:K=65536) (h2:c2=flz 2) (h4:c4=flz 4) (h8:c8=flz 8):grS 1 1 (fun _ _=>some c4) ([0],[0,1],[0],[c2]) [c8] 3=([c2],[c8,0],0):=by
 have f2:q0V c2:=by rw [h2]; exact q4L (by omega)
 have f4:q0V c4:=by rw [h4]; exact q4L (by omega)
 have f8:q0V c8:=by rw [h8]; exact q4L (by omega)
 have z2:ofZ c2=2*(2:Int) ^ K:=by rw [h2]; exact q4F hK (by omega)
 have z4:ofZ c4=4*(2:Int) ^ K:=by rw [h4]; exact q4F hK (by omega)
 have z8:ofZ c8=8*(2:Int) ^ K:=by rw [h8]; exact q4F hK (by omega)
 have hp:=q0c K;have d2:0 < ofZ c2:=by rw [z2]; omega
 have n8:c8 < 9223372036854775808∧c8≠0:=by rw [h8,flz8]; omega
 have m82:q1U c8 c2=16*(2:Int) ^ K:=by rw [h8,h2]; exact q2k hK (by omega) (by omega)
 have m28:q1U c2 c8=16*(2:Int) ^ K:=by rw [h8,h2]; exact q2k hK (by omega) (by omega)
 have m42:q1U c4 c2=8*(2:Int) ^ K:=by rw [h4,h2]; exact q2k hK (by omega) (by omega)
 have D8:dfE ([0],[0,1],[0],[c2]) [c8]=([c2],0):=qpU f2 d2 f8 (y:=c4) (z:=c2) (by
  rw [z8,z2,h4];exact qdD (x:=4) (y:=2) hK (by omega) (by omega)) (by
  rw [z4,z2,h2];exact qdD (x:=2) (y:=2) hK (by omega) (by omega)) f4 f2
 have q0:∀ {b:Int},fQ 0 0 b=0:=fun {b}=>if_pos rfl;have D0:dfE ([0],[0,1],[0],[c2]) [0]=([0],0):=qpU f2 d2 qad (y:=0) (z:=0) (by rw [qez]; exact q0) (by rw [qez]; exact q0) qad qad;obtain ⟨c1,h1⟩:∃ c,c=flz 1:=⟨_,rfl⟩;have f1:q0V c1:=by rw [h1]; exact q4L (by omega)
 have l1:c1 < 18446744073709551616:=by rw [h1]; exact qcl (by omega)
 have m12:q1U c1 c2=2*(2:Int) ^ K:=by rw [h1,h2]; exact q2k hK (by omega) (by omega)
 have mn:q1U (q5m c1) c8 = -8*(2:Int) ^ K:=by
  have e:ofZ (q5m c1)=ofZ (flz (-1)):=by
   rw [(qcI f1 l1).1,h1,q4F hK (by omega),q4F hK (by omega)]; omega
  have:q1U (q5m c1) c8=q1U (flz (-1)) c8:=by unfold q1U; rw [e]
  rw [this,h8];exact q2k hK (by omega) (by omega)
 have one:∀ {a:Nat},q0V a→∀ v ∈ [a],q0V v:=fun h v hv=>by simp at hv; subst hv; exact h
 have A:q25 (fun _ _=>some c4) [c2] 1 1=[c8]:=by
  have e:q25 (fun _ _=>some c4) [c2] 1 1=[fR 0 (q3F [c4] [c2])]:=rfl;rw [e,q9g,m42,qh9 hK,h8]
 have X:lnF [0] c1 [c2] 1=[c2]:=by
  rw [qjv,qez,m12,Int.zero_add,qh9 hK,h2]
 have Rr:lnF [c8] (q5m c1) [c8] 1=[0]:=by
  rw [qjv,z8,mn,show (8:Int)*(2:Int) ^ K + -8*(2:Int) ^ K=0 by omega]
  rfl
 have P:lnF [0] 0 [c2] 1=[0]:=by
  rw [qjv,qez,qcM]
  rfl
 have G:gS 1 (fun _ _=>some c4) ([0],[0,1],[0],[c2]) [0] [c8] [c2] (16*(2:Int) ^ K)=(0,[c2],[0],[0],0):=by
  unfold gS;rw [if_neg (by omega),A,if_pos (one f8)];unfold gS2;rw [q9g,m28,if_neg (by omega)];have:fQ 0 (16*(2:Int) ^ K) (16*(2:Int) ^ K)=c1:=by rw [h1]; exact qdD (x:=1) (y:=16) hK (by omega) (by omega)
  rw [this,if_pos f1];unfold gS3;rw [X,Rr,if_pos (one f2),if_pos (one qad)];unfold gS4;rw [D0];dsimp only;rw [if_neg (not_not_intro rfl),q9g,qcM,q0,if_pos qad];unfold gS5;rw [P,if_pos (one qad)]
 have s8:q3T [c8] 1=c8:=by
  have e:q3T [c8] 1=max 0 (q6n c8):=rfl;rw [e];unfold q6n;omega
 have s0:q3T [0] 1=0:=rfl;unfold grS;have R:grR 1 1 ([0],[0,1],[0],[c2]) [c8] 3=0:=by
  unfold grR;rw [if_neg (by omega),qhj f2 d2,if_neg (by omega),if_neg (by simp),if_neg (by simp),if_neg (not_not_intro (one f8)),if_neg (by omega)]
 rw [R,if_neg (not_not_intro rfl),D8];dsimp only;rw [if_neg (not_not_intro rfl),q9g,m82,s8];rw [show (3:Int).toNat=2+1 from rfl,show List.replicate 1 0=[0] from rfl,grL_s (by rw [s8]; exact n8.2) G,grL_z s0,s0]
 rfl
end
end Go.Sp
namespace Go.E
open Go Go.RowKit
section
variable {P:Program} {Tb:World→Prop} {J:Nat→Prop} {n:Nat} {Q:SQ} {s:Nat→PV} {h:Hp}
theorem qeC {ops:Array Oper} {K:Env→World→Prop}:∀ (k:Nat) (l:List Oper) (e:Env) (w:World),WL P ops (fun e w=>WL P ops K (l.drop k) e w) (l.take k) e w→WL P ops K l e w
 | 0,_,_,_,h=>h
 | k+1,[],_,_,h=>h
 | k+1,o :: l,e,w,h=>q4O (fun v w' h=>qeC k l _ _ h) h
theorem qmE {id:Nat} {l:List Oper} (k:Nat) (hw:∀ K:(Nat→PV)→Hp→Prop,(∀ s h,Q .normal s h→K s h)→AL P Tb l (fun s1 h1 acc=>∃ s' h',Le J s1 h1 s' h'∧AL P Tb l (fun s h _=>K s h) (l.drop k) s' h' acc) (l.take k) s h []):AW P Tb J n (.region id l.toArray false) Q s h:=fun D0 w0 ρ e w hT hF S=>by
 have h1:=hw _ fun _ _ h=>h;refine q4s (qeC k _ _ _ ?_);refine qgq (K':=fun e' w'=>WL P l.toArray (fun e' w'=>∃ s' h' ρ',Sat D0 w0 s' h' ρ' e' w'∧Q .normal s' h') (l.drop k) e' w') hT.1 hF _ s h [] ρ e w (fun s h acc ρ e w S hq=>?_) h1 S;obtain ⟨s',h',hl,hq⟩:=hq;obtain ⟨ρ',S'⟩:=hl D0 w0 ρ e w hT.2 S;exact qgq hT.1 hF _ s' h' acc ρ' e w (fun s h _ ρ e w S hq=>⟨s,h,ρ,S,hq⟩) hq S'
end
end Go.E
namespace Go.Proofs.YtbcmhlhgljoolaaGreatDoor
open Go Go.E Go.Sp
theorem qdk:ACt 28 [] (bv true):=by
 obtain ⟨c2,h2⟩:∃ c,c=flz 2:=⟨_,rfl⟩;obtain ⟨c4,h4⟩:∃ c,c=flz 4:=⟨_,rfl⟩;obtain ⟨c8,h8⟩:∃ c,c=flz 8:=⟨_,rfl⟩;have hI:∀ z:Int,z.natAbs≤9→ACt 34 [iv z,iv 0] (uv (flz z:Nat)):=fun z hz=>q5j (z:=z) (mode:=0) (by omega) (by omega) (qcS (by have:=q0Y (n:=z.natAbs) (k:=4) (by omega); omega));have C1:=hI 2 (by omega);have C2:=hI 4 (by omega);have C3:=hI 8 (by omega);have hu:∀ z:Int,z.natAbs≤9→flz z < 18446744073709551616∧q0V (flz z):=fun z hz=>⟨qcl (by omega),q4L (by omega)⟩;have u2:=hu 2 (by omega);have u4:=hu 4 (by omega);have u8:=hu 8 (by omega);have hg:=qqC (K:=65536) rfl h2 h4 h8;rw [← h2] at C1 u2;rw [← h4] at C2 u4;rw [← h8] at C3 u8;clear hI hu h2 h4 h8;have hm:TOk (fun _ _=>some c4) 1 1:=⟨by omega,by omega,by omega,fun j i x _ _ h=>by cases h; exact u4.1,fun j i x _ _ h=>by cases h; exact u4.2⟩;have C4:=qfR (f:=fun _ _=>some c4) (F:=([0],[0,1],[0],[c2])) (b:=[c8]) (steps:=3) hm (by omega) (by simp) (by simp) (by simp) (by simp) (fun x hx=>by simp at hx; subst hx; exact u2.1) (fun x hx=>by simp at hx; subst hx; exact u8.1) (by simp);rw [hg] at C4;have hC4:ACt 26 [.ag [iv 1,iv 1,.sl none [iv 0,iv 1],.sl none [iv 0],.sl none [uv c4]],.ag [.sl none [iv 0],.sl none [iv 0,iv 1],.sl none [iv 0],.sl none [uv c2]],.sl none [uv c8],iv 3] (.tu [.sl none [uv c2],.sl none [uv c8,uv 0],iv 0]):=C4;clear C4;have C5:ACt 23 [.sl none [uv c2],.sl none [uv c2]] (bv true):=q4K (l:=[c2]) (by simp);have C6:ACt 23 [.sl none [uv c8,uv 0],.sl none [uv c8,uv 0]] (bv true):=q4K (l:=[c8,0]) (by simp);have N1:Nz (bv true):=qoT;refine ac0 Tryz.func28 Tryz.ntmps28 [.tmp 0] ?_;refine wk ?_;refine q7l fun K0 hK0=>?_;refine qmE 4 fun K hK=>?_;rw [List.take_succ_cons,List.take_succ_cons,List.take_succ_cons,List.take_succ_cons,List.take_zero,List.drop_succ_cons,List.drop_succ_cons,List.drop_succ_cons,List.drop_succ_cons,List.drop_zero]
 try refine Zz ?_
 refine ⟨_,_,LeM [] rfl rfl (xs:=[(1,uv (c2:Nat)),(3,uv (c8:Nat)),(24,.ag [iv 1,iv 1,.sl none [iv 0,iv 1],.sl none [iv 0],.sl none [uv (c4:Nat)]]),(25,.ag [.sl none [iv 0],.sl none [iv 0,iv 1],.sl none [iv 0],.sl none [uv (c2:Nat)]]),(27,.sl none [uv (c8:Nat)])]) (kv:=[]) (bs:=[]) (kb:=[]) ?_,?_⟩
 ·try refine Zz ?_
  refine ⟨⟨q2s rfl (clI (l:=[0,1])) rfl rfl,q2s rfl (clI (l:=[0])) rfl rfl,q2s rfl (clU (l:=[c4])) rfl rfl⟩,⟨q2s rfl (clI (l:=[0])) rfl rfl,q2s rfl (clI (l:=[0,1])) rfl rfl,q2s rfl (clI (l:=[0])) rfl rfl,q2s rfl (clU (l:=[c2])) rfl rfl⟩,q2s rfl (clU (l:=[c8])) rfl rfl⟩
 try refine Zz ?_
 refine q3D hC4 ?_
 try refine Zz ?_
 refine hK _ _ ?_;refine hK0 _ _ ?_;clear hK hK0 K K0;exact wk trivial
section
variable {n:Nat} {f:Nat→Nat→Option Nat} {F:List Int × List Int × List Int × List Nat} {x r p:List Nat} {rho:Int}
end
section
variable {raw other:List Nat} {n st steps:Int} {w:Bool}
end
theorem ql9 {R C:Nat} {f:Nat→Nat→Option Nat} {x:List Nat} (h:TOk f R C) (hu:∀ v ∈ x,v < 18446744073709551616) (hl:x.length≤1000) (hR:R≤20):∃ (y:List Nat) (e:Int),y.length≤1000000∧ACt 39 [pT R C f,pF x] (.tu [pF y,iv e])∧ACt 40 [pT R C f,pF x] (.tu [pF y,iv e]):=by
 refine ⟨(qla f R C x).1,(qla f R C x).2,?_,qa3 h hu hl hR,qaB h hu hl hR⟩;unfold qla
 repeat' split
 all_goals first | exact Nat.zero_le _ | (dsimp only; rw [q9B]; omega)
section
variable {raw:List Nat} {r c st long:Int} {value:Nat}
theorem q47 (hr:raw.length≤9223372036854775807) (h1 : -9223372036854775808≤r) (h2:r≤9223372036854775807) (h3 : -9223372036854775808≤c) (h4:c≤9223372036854775807) (h5 : -9223372036854775808≤st) (h6:st≤9223372036854775807) (h7 : -9223372036854775808≤long) (h8:long≤9223372036854775807) (hv:value < 18446744073709551616) :
  ACt 10 [pF raw,iv r,iv c,iv st,iv long,uv value] (bv true):=by
 have cA:=qdk;have cR:=q7Q (a:=r) (n:=5) h1 h2 (by omega) (by omega);have cC:=q7Q (a:=c) (n:=5) h3 h4 (by omega) (by omega);have hR:q3X r 5 < 5:=by unfold q3X; omega
 have hC:q3X c 5 < 5:=by unfold q3X; omega
 generalize q3X r 5=R at *;generalize q3X c 5=C at *;have hCR:C*R≤5*5:=Nat.mul_le_mul (by omega) (by omega);have hRR:R*R≤5*5:=Nat.mul_le_mul (by omega) (by omega);have cG:=q5O (raw:=raw) (st:=st) (R:=R) (C:=C) hr (by omega) (by omega) h5 h6;have hG:=qoo (raw:=raw) (R:=R) (C:=C) (st:=q3X st 4) (by omega) (by omega) (by omega);have cQ:=q5O (raw:=raw) (st:=st) (R:=R) (C:=R) hr (by omega) (by omega) h5 h6;have hQ:=qoo (raw:=raw) (R:=R) (C:=R) (st:=q3X st 4) (by omega) (by omega) (by omega);generalize gF raw R (q3X st 4)=g at *;have cV:=fun m (hm:m≤10)=>qaG (raw:=raw) (k:=20) (st:=st) (n:=m) hr (by omega) (by omega) (by omega) h5 h6;have hb:=fun m=>qbJ (raw:=raw) (k:=20) (st:=q3X st 4) (n:=m);have hbl:=fun m=>q8r (raw:=raw) (k:=20) (st:=q3X st 4) (n:=m);generalize qeK raw 20 (q3X st 4)=b at *;have ap:=fun (C:Nat) (x:List Nat) (h:TOk g R C) hu hl=>ql9 (x:=x) h hu hl (by omega);have cM:=fun (m:Nat) (hm:0 < m) (hm2:m≤9223372036854775807)=>q7Q (a:=long) (n:=m) h7 h8 hm hm2;unfold pT q5k at *;refine ac0 Tryz.func10 Tryz.ntmps10 [.tmp 12] ?_;refine wk ?_;refine qm9 fun K hK=>?_;have fin:∀ (C:Nat) (s:Nat→PV) (h:Hp),TOk g R C→C≤5→Le (fun _=>False) s h (stM [(0,pF raw),(3,iv st),(4,iv long),(5,uv (value:Nat)),(13,.pt 13 0 0)] []) (hpM [(13,⟨52,some 5,[.ag [iv R,iv C,pI (tM g R C).1,pI (tM g R C).2.1,pF (tM g R C).2.2]],false⟩)] [])→K s h:=by
  clear cG hG cQ hQ cR cC hCR hRR;intro C s h hm hC hl;refine hK _ _ (q8o hl ?_); clear hK K hl;have cV:=cV C (by omega);have hb:=hb C;have hbl:=hbl C;generalize b C=b at *;have ap:=fun (x:List Nat)=>ap C x hm;refine A_sj fun K hK=>?_;refine Zz ?_;refine jmF cV ?_ ?_
  ·repeat (first | exact q3H | exact q7q | exact q8i | exact q7p (by simp [nmW]) (by simp [nmW]) | refine q8j (by omega) ?_)
  try refine Zz ?_
  refine hK _ _ ?_; clear hK K;refine wk ?_;refine qm9 fun K hK=>?_;have fin2:∀ (X:List Nat) (s:Nat→PV) (h:Hp),(∀ v ∈ X,v < 18446744073709551616)→X.length≤10→Le (fun _=>False) s h (stM [(4,iv long),(5,uv (value:Nat)),(13,.pt 13 0 0),(14,.ow 1001 none 0 X.length)] []) (hpM [(13,⟨52,some 5,[.ag [iv R,iv C,pI (tM g R C).1,pI (tM g R C).2.1,pF (tM g R C).2.2]],false⟩),(1001,⟨30,none,X.map fun z:Nat=>uv z,false⟩)] [])→K s h:=by
   clear cV hb hbl;intro X s h hX hXl hl;refine hK _ _ (q8o hl ?_); clear hK K hl;refine wk ?_;refine qm9 fun K hK=>?_;have fin3:∀ (X:List Nat) (s:Nat→PV) (h:Hp),(∀ v ∈ X,v < 18446744073709551616)→X.length≤10→Le (fun _=>False) s h (stM [(13,.pt 13 0 0),(14,pF X)] []) (hpM [(13,⟨52,some 5,[.ag [iv R,iv C,pI (tM g R C).1,pI (tM g R C).2.1,pF (tM g R C).2.2]],false⟩)] [])→K s h:=by
    intro X s h hX hXl hl;refine hK _ _ (q8o hl ?_); clear hK K hl;obtain ⟨y,e,hl1,C1,C2⟩:=ap X hX (by omega);have C3:=q4K hl1;clear ap;exact wk trivial
   by_cases q1:(X.length:Int) > 0
   ·cases q2:(long.tmod 5 == 0)
    ·refine wk1 (x2 q1 q2) ?_;refine fin3 X _ _ hX (by omega) (LeM [] rfl rfl ?_)
     try refine Zz ?_
     exact q2s (T:=30) rfl clU rfl (by rw [List.length_map])
    ·have cM:=cM X.length (by omega) (by omega);have hml:=q8R (a:=long) (n:=X.length) (by omega);generalize q3X long X.length=j at *;refine wk1 (x2 q1 q2) ?_;refine fin3 (X.set j value) _ _ (fun v hv=>?_) (by rw [List.length_set]; omega) (LeM [] rfl rfl ?_)
     ·rcases List.mem_or_eq_of_mem_set hv with h | rfl
      ·exact hX v h
      ·assumption
     try refine Zz ?_
     exact q2s (T:=30) (by rw [List.map_set]; rfl) clU rfl (by rw [List.length_map,List.length_set])
   ·refine wk1 q1 ?_;refine fin3 X _ _ hX (by omega) (LeM [] rfl rfl ?_)
    try refine Zz ?_
    exact q2s (T:=30) rfl clU rfl (by rw [List.length_map])
  cases q1:(long.tmod 7 == 0)
  ·refine wk1 q1 ?_;refine fin2 b _ _ (fun v hv=>(hb v hv).1) (by omega) (LeM [(1001,some 5000)] rfl rfl ?_)
   try refine Zz ?_
   exact hbl.symm
  ·refine wk1 (x2 q1 hbl) ?_;refine fin2 (b ++ [4607182418800017408]) _ _ (fun v hv=>?_) (by simp; omega) (LeM [(1001,some 46)] rfl rfl ?_)
   ·rcases List.mem_append.1 hv with h | h
    ·exact (hb v h).1
    ·simp at h; omega
   try refine Zz ?_
   have e:(b ++ [4607182418800017408]).map (fun z:Nat=>uv z)=b.map (fun z:Nat=>uv z) ++ [.vl (.int .u64 4607182418800017408)]:=by rw [List.map_append]; rfl
   exact ⟨hbl.symm,q2E e.symm (by first | exact clU | exact e ▸ clU)⟩
 by_cases q1:r.tmod 3 > 0
 ·refine wk1 q1 ?_;refine fin _ _ _ hQ (by omega) (LeM [] rfl rfl ?_)
  try simp -implicitDefEqProofs (disch:=omega) only [go_sem,Nat.reduceEqDiff,Nat.reduceAdd,↓reduceIte]
 ·refine wk1 q1 ?_;refine fin _ _ _ hG (by omega) (LeM [] rfl rfl ?_)
  try simp -implicitDefEqProofs (disch:=omega) only [go_sem,Nat.reduceEqDiff,Nat.reduceAdd,↓reduceIte]
end
end Go.Proofs.YtbcmhlhgljoolaaGreatDoor
