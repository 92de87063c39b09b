/- SolveGeneral. 5/6. -/
import Derived.Test.YtjfjjmfhfbapeaaGreatDoorPg4
set_option linter.unusedSimpArgs false
set_option linter.unusedVariables false
set_option maxRecDepth 20000
set_option maxHeartbeats 2000000
set_option linter.defProp false
namespace Go.E
open Go Go.RowKit
def hx_of {hin hout:Hp} {a:Nat} (hB:BOk hin win) (hs:SSh (q7R hin a) hout) (ha:hout a=none):∀ i b,hin i=some b→win i∧b.st=false∧IdL win b.xs∧(hout i=none∨∃ b',hout i=some b'∧b'.k=b.k∧b.xs.length≤b'.xs.length):=fun i b hb=>by
 obtain ⟨h1,h2,h3⟩:=hB.b i b hb;refine ⟨h1,h2,IdL_mono (fun j hj=>?_) _ h3,?_⟩
 ·obtain ⟨c,hc⟩:=Option.ne_none_iff_exists'.1 hj;exact (hB.b j c hc).1
 ·by_cases hi:i=a
  ·subst hi; exact .inl ha
  ·obtain ⟨b',q1,_,q2,_,q3⟩:=hs i b (by unfold q7R; rw [if_neg hi]; exact hb);exact .inr ⟨b',q1,q2,by omega⟩
def qn6 {h:Hp}:SSh h (q7Q h):=fun i b hb=>⟨⟨b.T,b.k,b.xs.map fun _=>.un,false⟩,by unfold q7Q; rw [hb,Option.map_some],rfl,rfl,rfl,by simp⟩
end Go.E
namespace Go.Proofs.YtjfjjmfhfbapeaaGreatDoor
open Go Go.E Go.Sp
def In_z0 {V:Int} (hV:V=0) (D:Nat→Prop) (w:World):In (fV V) D (.agg ⟨[.bool false,.bool false,.slice none 0 0,.int .i64 0]⟩) w:=by
 subst hV;refine (q2s (ρ:=fun _=>none) (h:=h0)).1 ⟨?_,by simp [q0b,q1C]⟩;unfold Rd;refine ⟨_,rfl,?_⟩;unfold RdL RdL RdL RdL RdL Rd;rw [q1x,show dyE 0=0 from rfl];refine ⟨_,_,rfl,rfl,_,_,rfl,rfl,_,_,rfl,?_,_,_,rfl,rfl,rfl⟩;exact ⟨none,0,0,rfl,U32.nil⟩
def qtC {τ:Nat→Option Nat} {h h':Hp} {V:Int} (hV:V=0):LeV τ h h' (.ag [bv false,bv false,q05,iv 0]) (pV V) :=
 .agv (l:=[.bool false,.bool false,.slice none 0 0,.int .i64 0]) (In_z0 hV)
def qnb {τ:Nat→Option Nat} {h h':Hp} {n:Nat} {P:Nat→PV} {l:List PV} (hl:l.length=n):LeL τ h h' l (rwP n P 0):=⟨by rw [hl,qcm],fun i x y _ hy=>by
 unfold rwP at hy;rw [List.getElem?_map] at hy;cases hc:(List.range n)[i]? with
 | none=>rw [hc] at hy; cases hy
 | some c=>rw [hc,Option.map_some,if_neg (by omega)] at hy; cases hy; exact .un⟩
def rwG_z {n m:Nat} {g:Nat→Nat} (h:g m=0):rwG n g m=rwG n g (m+1):=by
 unfold rwG;refine List.map_congr_left fun y _=>?_
 by_cases h2:y < m
 ·rw [if_pos h2,if_pos (by omega)]
 ·rw [if_neg h2]
  by_cases h3:y=m
  ·subst h3; rw [if_pos (by omega),h]
  ·rw [if_neg (by omega)]
def qpd {n i:Nat} {g:Nat→Nat} (hi:i < n):(rwG n g n)[i]?=some (g i):=by
 unfold rwG;rw [List.getElem?_map,List.getElem?_range hi,Option.map_some,if_pos hi]
def qaA {S:LuS} {k:Nat} {z:Nat→Int} {d:Int} {m:Nat} (h:loS S k z d m=none):∀ m',m≤m'→loS S k z d m'=none
 | 0,hc=>by
  obtain rfl:m=0:=by omega
  exact h
 | c+1,hc=>by
  by_cases e:m=c+1
  ·subst e; exact h
  ·rw [loS,qaA h c (by omega)]; rfl
def abZ_0:abZ 0=0:=by
 unfold abZ;rw [(q5L (f:=0) (by unfold q0Q; simp)).2 rfl]; rfl
def qjD {v:Nat→Nat}:∀ i,0≤mxZ v i
 | 0=>Int.le_refl _
 | i+1=>by
  have:=qjD (v:=v) i;unfold mxZ
  split
  ·unfold abZ; omega
  ·exact this
def mxZ_z {v:Nat→Nat} {i:Nat} (h:v i=0):mxZ v (i+1)=mxZ v i:=by
 have:=qjD (v:=v) i;rw [mxZ,h,abZ_0,if_neg (by omega)]
def qjE {v:Nat→Nat}:∀ i,(∀ c,c < i→q0Q (v c))→bl (mxZ v i).natAbs≤67600
 | 0,_=>by unfold mxZ; simp [q1C]
 | i+1,h=>by
  unfold mxZ
  split
  ·unfold abZ; rw [Int.natAbs_natCast]; exact q2w (h i (by omega))
  ·exact qjE i fun c hc=>h c Oq
section
variable {v:Nat→Nat} {S:LuS} {mi:List Int} {num den:Nat} {w:Int}
def qej:∀ i:Nat,-1≤bsP v S mi num den w i∧bsP v S mi num den w i < i
 | 0=>by unfold bsP; omega
 | i+1=>by
  have:=qej i;unfold bsP
  split
  ·omega
  ·split <;> omega
def qek:∀ i:Nat,0≤bsP v S mi num den w i→(bsP v S mi num den w i).toNat ∉ S.rows∧¬ (v (bsP v S mi num den w i).toNat=0∨v (bsP v S mi num den w i).toNat=9223372036854775808)
 | 0,h=>by unfold bsP at h; omega
 | i+1,h=>by
  unfold bsP at h ⊢
  split
  ·rename_i h1; rw [if_pos h1] at h; exact qek i h
  ·rename_i h1;rw [if_neg h1] at h
   split
   ·rename_i h2;rw [Int.toNat_natCast];exact ⟨fun q=>h1 (.inl q),fun q=>h1 (.inr (.inl q))⟩
   ·rename_i h2;rw [if_neg h2] at h;exact qek i h
end
section
variable {F:Nat→Nat→Option Nat} {S:LuS} {n j k num den:Nat}
def q9X {m:Nat} (h:upS F S j k m=none):∀ m',m≤m'→upS F S j k m'=none
 | 0,hc=>by
  obtain rfl:m=0:=by omega
  exact h
 | c+1,hc=>by
  by_cases e:m=c+1
  ·subst e; exact h
  ·rw [upS,q9X h c (by omega)]; rfl
noncomputable def qr1 (F:Nat→Nat→Option Nat) (mi:List Int) (n:Nat) (S:LuS) (j k num den:Nat):Hp:=if (q5g F mi n S j k num den).1=0 then q0i n (q5g F mi n S j k num den).2 5002 else q7Q (q7R (q0i n S 5001) 5001)
def qhi (h:TOk F n n) (hn:n≤100) (hl:q5V S.l) (hu:q5V S.u) (hr:∀ x ∈ S.rows,x < n) (hk:S.rows.length=k) (hkn:k < n) (hj:j < n) (hnum:num≤1000) (hden:den≤1000) :
  ACxt 115 [.pt 5000 0 0,pT n n F,iv j,iv k,iv num,iv den] (q0i n S 5001) (iv (q5g F (tM F n n).2.1 n S j k num den).1) (qr1 F (tM F n n).2.1 n S j k num den):=by
 have hM:=q1d (f:=F) (R:=n) n;have cT:∀ {q:LuS} {i:Nat} {m:Nat},q5V q.l→q5V q.u→i < n→m≤n→_:=fun {q i m} h1 h2 h3 h4=>qgU (S:=q) (i:=i) (j:=j) (k:=k) (m:=m) h hn h1 h2 h3 hj hkn h4;have hF:∀ i,i < n→q0Q ((F j i).getD 0):=fun i hi=>(h.fin hj hi).1;have hnn:n*n≤100*100:=Nat.mul_le_mul hn hn;have hpl:pT n n F=q5e n n (tM F n n).1 (tM F n n).2.1 (tM F n n).2.2:=rfl;simp only [hpl] at cT;rw [hpl];clear hpl;unfold q5e at cT ⊢;have hT:=Hid.mk @cT;clear cT;generalize (tM F n n).1=ms at *;generalize (tM F n n).2.1=mi at *;generalize (tM F n n).2.2=mv at *;have hcO:∀ e r,q5g F mi n S j k num den=(e,r)→qr1 F mi n S j k num den=if e=0 then q0i n r 5002 else q7Q (q7R (q0i n S 5001) 5001):=fun e r hq=>by unfold qr1; rw [hq]
 obtain ⟨⟨e,r⟩,hres⟩:∃ q,q=q5g F mi n S j k num den:=⟨_,rfl⟩;rw [hcO e r hres.symm,← hres];clear hcO;have hno:(if e=0 then q0i n r 5002 else q7Q (q7R (q0i n S 5001) 5001):Hp) 5001=none:=by
  split
  ·unfold q0i; rw [q0A (by omega),q0A (by omega),q5p (by omega)]
  ·unfold q7Q q7R; rw [if_pos rfl]; rfl
 have hno2:q0i n S 5001 5002=none:=by unfold q0i; rw [q0A (by omega),q0A (by omega),q5p (by omega)]
 refine actx qj8 Tryz.func115 rfl Tryz.ntmps115 (by kernel_rfl) ?_ ?_ ?_ ?_
 ·refine hx_of (a:=5001) (q02 (r:=5001) hn Oq Oq) ?_ hno
  split
  ·exact q5D Oq Oq Oq Oq
  ·exact qn6
 ·intro i b hb
  split at hb
  ·exact ((q02 hn Oq Oq).b i b hb).1
  ·unfold q7Q q7R at hb;obtain ⟨c,hc,_⟩:=Option.map_eq_some_iff.1 hb
   split at hc
   ·cases hc
   ·exact ((q02 hn Oq Oq).b i c hc).1
 ·refine IdL.of fun x hx=>?_;simp at hx
  rcases hx with rfl | rfl | rfl | rfl | rfl | rfl <;> unfold IdP
  ·exact ⟨by omega,by omega⟩
  ·unfold IdL IdL IdL IdL IdL IdL;unfold IdP;exact ⟨trivial,trivial,trivial,trivial,trivial,trivial⟩
  all_goals trivial
 simp only;have hJ:∀ i,(q0i n S 5001 i≠none∧(if e=0 then q0i n r 5002 else q7Q (q7R (q0i n S 5001) 5001):Hp) i≠none)→i≠5002:=fun i hi=>by rintro rfl; exact hi.1 hno2
 have hbad:∀ (hw:Hp) (h:Hp) (l:List PV) (v:Value),Wn h hw→SSh (q7R (q0i n S 5001) 5001) hw→mkR l=.vl v→∀ J,Le J (fun _=>mkR l) h (fun _=>.vl v) (q7Q (q7R (q0i n S 5001) 5001)):=fun hw h l v h1 h2 h3 J=>LeUnk h1 (fun i b hb=>by
  unfold q7R at hb
  split at hb
  ·cases hb
  ·exact ((q02 hn Oq Oq).b i b hb).1) h2 h3
 generalize hHo:(if e=0 then q0i n r 5002 else q7Q (q7R (q0i n S 5001) 5001):Hp)=Ho at *;have hHe:e≠0→Ho=q7Q (q7R (q0i n S 5001) 5001):=fun h=>by rw [← hHo,if_neg h]
 have hH0:e=0→Ho=q0i n r 5002:=fun h=>by rw [← hHo,if_pos h]
 clear hHo hno;unfold q5g at hres;refine wk ?_;refine q00 (fun q:Nat × LuS=>q.1≤k∧upS F S j k q.1=some q.2∧q5V q.2.l∧q5V q.2.u∧q.2.rows=S.rows) [0,2,3,4,5,7,13] [7] Lk Lk (fun q=>[(14,iv q.1)]) (fun _=>[]) (fun q=>q0i n q.2 5001) (fun q=>k-q.1) (0,S) ⟨Nat.zero_le _,rfl,hl,hu,rfl⟩ ?_ ?_
 ·refine LeW [] rfl rfl ?_ ?_ (by simp [q1N,q0z,win]) ?_
  ·exact Ow
  ·exact q1F (q02 hn Oq Oq)
  ·try refine Zz ?_
   rfl
 ·rintro ⟨m,q⟩ ⟨hm,hq,ql,qu,qr⟩;simp only at hm hq ql qu qr ⊢
  by_cases hlt:m < k
  ·obtain ⟨i,hi⟩:∃ i,q.rows[m]?=some i:=⟨_,List.getElem?_eq_getElem (by rw [qr]; omega)⟩;have hql:q.rows.length=k:=by rw [qr]; exact hk
   have hin:=hr i (by rw [← qr]; exact List.mem_of_getElem? hi);unfold q0i q2c;refine wk ?_;have cS:=hT.o (m:=m) ql qu hin Oq;have N1:=qjA (V:=luZ F q.l q.u i j k m);have rm:(List.range n)[m]?=some m:=List.getElem?_range Oq;have rk:(List.range n)[k]?=some k:=List.getElem?_range hkn;have cR:=@q8f (luZ F q.l q.u i j k m);have cG:=qaX (V:=luZ F q.l q.u i j k m);obtain ⟨z,hz⟩:∃ z,z=luZ F q.l q.u i j k m:=⟨_,rfl⟩;have hvl:fR 0 z < 18446744073709551616:=q7z;have hqs:upS F S j k (m+1)=if q0Q (fR 0 z) then some { q with u:=q3S q.u m k (fR 0 z),iU:=qa3 q.iU m k (decide (z≠0)) } else none:=by rw [upS,hq,Option.bind_some,show S.rows.getD m 0=i by rw [← qr]; exact getD_some hi,← hz]
   rw [← hz] at cS N1 cR cG;have cF:=q1w hvl;generalize fR 0 z=v at *;have hset:((List.range n).map fun c=>PV.vl (.int .u64 (q.u m c:Nat))).set k (uv v)=(rU n q.u m).set k (uv v):=rfl;have hget:((rU n q.u m).set k (uv (v:Nat)))[k]?=some (uv (v:Nat)):=List.getElem?_set_self (by simp; omega);have qz:(z.sign != 0)=decide (z≠0):=by
    by_cases h0:z=0
    ·subst h0; rfl
    ·rw [decide_eq_true h0]; simpa using h0
   have eq1:∀ b,q0O (q0O (q0i n q 5001) (m+30000) ⟨43,none,(rU n q.u m).set k (uv (v:Nat)),false⟩) (m+40000) ⟨4,none,(rB n q.iU m).set k (bv b),false⟩=q0i n { q with u:=q3S q.u m k v,iU:=qa3 q.iU m k b } 5001:=fun b=>by
    rw [q98 (by omega) (by omega),q3M (i:=5001) (by omega),q3M (i:=5000) (by omega),qpK hn (by omega),qik (S:={ q with u:=q3S q.u m k v }) hn (by omega)]
   refine A_sd [(2,15),(3,15),(7,15),(10,15),(14,15)] q24 (by kernel_rfl) fun K hK=>?_;refine Zz3 hi rm rk ?_;refine q3h cS N1 ?_
   try refine Zz ?_
   refine hK _ _ ?_; clear hK K
   by_cases hf:q0Q v
   ·rw [decide_eq_true hf] at cF;rw [if_pos hf] at hqs;refine wk1 (x5 hi rm rk qz hget) ?_;refine ⟨(m+1,{ q with u:=q3S q.u m k v,iU:=qa3 q.iU m k (decide (z≠0)) }),⟨by simp only; omega,hqs,ql,fun x y=>?_,qr⟩,by simp only; omega,?_⟩
    ·simp only [q3S]
     split
     ·exact ⟨hf,hvl⟩
     ·exact qu x y
    ·simp only;refine LeW [] rfl rfl ?_ ?_ (by simp [q1N,q0z,win]) ?_
     ·refine q9O (q55 (q55 (qsq Oq (qsq Oq q3Q)))) (eq1 _)
     ·exact q1F (q02 hn Oq Oq)
     ·try refine Zz ?_
      omega
   ·rw [decide_eq_false hf] at cF;rw [if_neg hf] at hqs;rw [q9X hqs k (by omega)] at hres;cases hres;rw [hHe (by decide)];refine wk1 (x5 hi rm rk qz hget) ?_;refine (rtM (rs:=[.tmp 12]) rfl rfl Lq ?_ (.inl rfl));exact hbad _ _ _ _ (q9O (q55 (q55 (qsq Oq (qsq Oq q3Q)))) (eq1 _)) (q5D Oq Oq Oq Oq) rfl _
  ·obtain rfl:k=m:=by omega
   rw [hq] at hres;simp only at hres;unfold colG at hres;clear hm hq hlt;have hql:q.rows.length=k:=by rw [qr]; exact hk
   have hRl:=fun i=>q4C (n:=n) (g:=rsV F q j k) (m:=i);have hsl:=fun i=>qcm (n:=n) (g:=fun c=>if c ∈ q.rows then .un else pV (rsZ F q j k c)) (m:=i);have hVu:∀ c,rsV F q j k c=if c ∈ q.rows then 0 else fR 0 (rsZ F q j k c):=fun c=>rfl
   have hvl:∀ c,rsV F q j k c < 18446744073709551616:=fun c=>by rw [hVu]; split <;> first | omega | exact q7z
   have hzE:∀ c,rsZ F q j k c=luZ F q.l q.u c j k k:=fun c=>rfl;have hsP:∀ c,c ∉ q.rows→(if c ∈ q.rows then PV.un else pV (rsZ F q j k c))=pV (rsZ F q j k c):=fun c hc=>if_neg hc;have hsU:∀ c,c ∈ q.rows→(if c ∈ q.rows then PV.un else pV (rsZ F q j k c))=.un:=fun c hc=>if_pos hc;have hsC:∀ c,Cld (if c ∈ q.rows then PV.un else pV (rsZ F q j k c)):=fun c=>by split <;> trivial
   generalize hVg:rsV F q j k=V at *;generalize hZg:rsZ F q j k=Z at *;generalize hPg:(fun c=>if c ∈ q.rows then PV.un else pV (Z c))=P at *;have hP1:∀ c,c ∉ q.rows→P c=pV (Z c):=fun c hc=>by rw [← hPg]; exact if_neg hc
   have hP2:∀ c,c ∈ q.rows→P c=.un:=fun c hc=>by rw [← hPg]; exact if_pos hc
   have hP3:∀ c,Cld (P c):=fun c=>by rw [← hPg]; exact hsC c
   clear hPg hsP hsU hsC;refine wk ?_;refine q00 (fun i=>i≤n∧∀ c,c < i→q0Q (V c)) [0,2,3,4,5,7,13,18] [7] Lk Lk (fun i:Nat=>[(19,iv i),(16,.ow 1001 (some 4) 0 n),(17,.ow 1002 none 0 n)]) (fun i=>[(18,⟨56,some 4,[pV (mxZ V i)],false⟩),(1001,⟨56,some 4,rwP n P i,false⟩),(1002,⟨43,none,(rwG n V i).map fun z:Nat=>uv z,false⟩)]) (fun _=>q0i n q 5001) (fun i=>n-i) 0 ⟨Nat.zero_le _,by omega⟩ ?_ ?_
   ·refine LeW [(1001,some 82),(1002,some 84)] rfl rfl ?_ ?_ (by simp [q1N,q0z,win]) ?_
    ·exact Ow
    ·exact q1F (q02 hn Oq Oq)
    ·try refine Zz ?_
     exact ⟨rfl,qtC rfl,qnb (by simp),qcn⟩
   ·rintro i ⟨hi,hfin⟩;have hwl:=hRl i;have hsl1:=hsl i
    by_cases hlt:i < n
    ·have cP:=q4E (S:=q) (n:=n) (i:=i) (by rw [hql]; omega)
     by_cases hmem:i ∈ q.rows
     ·rw [decide_eq_true hmem] at cP;have N2:Nz (bv true):=nz_v;have hV0:V i=0:=by rw [hVu]; exact if_pos hmem
      refine wk ?_;refine ⟨i+1,⟨by omega,fun c hc=>?_⟩,by omega,?_⟩
      ·by_cases h1:c < i
       ·exact hfin c h1
       ·rw [show c=i by omega,hV0]; unfold q0Q; simp
      ·rw [← rwG_z hV0,← rwP_u (hP2 i hmem),mxZ_z hV0];refine LeW [] rfl rfl ?_ ?_ (by simp [q1N,q0z,win]) ?_
       ·exact Ow
       ·exact q1F (q02 hn Oq Oq)
       ·try refine Zz ?_
        exact ⟨rfl,q0R rfl (q1o hP3)⟩
     ·rw [decide_eq_false hmem] at cP;have N2:Nz (bv false):=nz_v;have hVi:V i=fR 0 (Z i):=by rw [hVu]; exact if_neg hmem
      have cS:=hT.o (i:=i) (m:=k) ql qu hlt Oq;rw [← hzE] at cS;have N3:=qjA (V:=Z i);have cR:=@q8f (Z i);have hPi:=hP1 i hmem;have hs1:((rwP n P i).set i (pV (Z i)))[i]?=some (pV (Z i)):=List.getElem?_set_self (by rw [hsl1]; omega);have hs2:(((rwG n V i).map fun z:Nat=>uv z).set i (uv (V i:Nat)))[i]?=some (uv (V i:Nat)):=List.getElem?_set_self (by rw [List.length_map,hwl]; omega);have hs3:rwP n P (i+1)=(rwP n P i).set i (pV (Z i)):=by rw [← rwP_s,hPi]
      have hs4:((rwG n V (i+1)).map fun z:Nat=>uv z)=((rwG n V i).map fun z:Nat=>uv z).set i (uv (V i:Nat)):=by rw [← qfw,List.map_set]
      rw [← hVi] at cR;have cF:=q1w (hvl i)
      by_cases hf:q0Q (V i)
      ·rw [decide_eq_true hf] at cF;have cO:=q2e (hvl i) (q04 hf);have cA:ACt 49 [pV (ofZ (V i))] (pV (abZ (V i))):=q9E;have cL:=q9U (A:=mxZ V i) (B:=abZ (V i));have hfin2:∀ c,c < i+1→q0Q (V c):=fun c hc=>by
        by_cases h1:c < i
        ·exact hfin c h1
        ·rw [show c=i by omega]; exact hf
       by_cases hlw:mxZ V i < abZ (V i)
       ·rw [decide_eq_true hlw] at cL;have hm:mxZ V (i+1)=abZ (V i):=if_pos hlw;refine wk1 (x4 hs1 hs2 hwl hsl1) ?_;refine ⟨i+1,⟨by omega,hfin2⟩,by omega,?_⟩;rw [hs3,hs4,hm];refine LeW [] rfl rfl ?_ ?_ (by simp [q1N,q0z,win]) ?_
        ·exact Ow
        ·exact q1F (q02 hn Oq Oq)
        ·try refine Zz ?_
         exact ⟨rfl,q0R rfl (q7J (q1o hP3) trivial),q0R rfl (q7J clU trivial)⟩
       ·rw [decide_eq_false hlw] at cL;have hm:mxZ V (i+1)=mxZ V i:=if_neg hlw;refine wk1 (x4 hs1 hs2 hwl hsl1) ?_;refine ⟨i+1,⟨by omega,hfin2⟩,by omega,?_⟩;rw [hs3,hs4,hm];refine LeW [] rfl rfl ?_ ?_ (by simp [q1N,q0z,win]) ?_
        ·exact Ow
        ·exact q1F (q02 hn Oq Oq)
        ·try refine Zz ?_
         exact ⟨rfl,q0R rfl (q7J (q1o hP3) trivial),q0R rfl (q7J clU trivial)⟩
      ·rw [decide_eq_false hf] at cF;rw [if_neg fun h=>hf (h i hlt)] at hres;cases hres;rw [hHe (by decide)];refine wk1 (x4 hs1 hs2 hwl hsl1) ?_;refine (rtM (rs:=[.tmp 12]) rfl rfl Lq ?_ (.inl rfl));refine hbad (q0i n q 5001) _ _ _ ?_ (q5D Oq Oq Oq Oq) rfl _;exact Ow
    ·obtain rfl:n=i:=by omega
     rw [if_pos hfin] at hres;have hWb:=qjE n hfin;obtain ⟨W,hW⟩:∃ W,W=mxZ V n:=⟨_,rfl⟩;rw [← hW] at hWb hres ⊢;have cI1:=q34 (z:=num) Oq Oq (qjP Oq);have cI2:=q34 (z:=den) Oq Oq (qjP Oq);have cM1:=q8g (mulI (z:=num) (W:=W) Oq hWb);have hrg:=fun i=>qej (v:=V) (S:=q) (mi:=mi) (num:=num) (den:=den) (w:=W) i;have hbs:=fun i=>show bsP V q mi num den W (i+1)=if i ∈ q.rows∨(V i=0∨V i=9223372036854775808)∨(den:Int)*abZ (V i) < num*W then bsP V q mi num den W i else if bsP V q mi num den W i < 0∨q4s mi i < q4s mi (bsP V q mi num den W i).toNat then (i:Int) else bsP V q mi num den W i from rfl
     have hbok:=qek (v:=V) (S:=q) (mi:=mi) (num:=num) (den:=den) (w:=W) n;have hb0:bsP V q mi num den W 0 = -1:=rfl;generalize bsP V q mi num den W=b at *;have hsl1:=hsl n;have hwl:=hRl n;refine wk ?_;refine q00 (fun i=>i≤n) [0,2,3,4,5,7,13,16,17,18] [7,18,1001,1002] Lk Lk (fun i:Nat=>[(21,iv i),(20,iv (b i))]) (fun _=>[]) (fun _=>q0i n q 5001) (fun i=>n-i) 0 (Nat.zero_le _) ?_ ?_
     ·refine LeW [] rfl rfl ?_ ?_ (by simp [q1N,q0z,win]) ?_
      ·exact Ow
      ·exact q1F (q02 hn Oq Oq)
      ·try refine Zz ?_
       exact ⟨⟨rfl,by rw [hb0]⟩,q0R rfl (q1o hP3)⟩
     ·intro i hi
      by_cases hlt:i < n
      ·have cP:=q4E (S:=q) (n:=n) (i:=i) (by rw [hql]; omega);have hbi:=hrg i;have hsi:=hbs i;have hvg:(rwG n V n)[i]?=some (V i):=qpd hlt;have cZ:=@q5j (V i);have cO:=q2e (hvl i) (q04 (hfin i hlt));have cA:ACt 49 [pV (ofZ (V i))] (pV (abZ (V i))):=q9E;have hab:bl (abZ (V i)).natAbs≤67600:=by unfold abZ; rw [Int.natAbs_natCast]; exact q2w (hfin i hlt)
       have cM2:=q8g (mulI (z:=den) (W:=abZ (V i)) Oq hab);have cL:=q9U (A:=(den:Int)*abZ (V i)) (B:=(num:Int)*W);have N9:∀ b:Bool,Nz (bv b):=fun b=>nz_v;have hskip:(i ∈ q.rows∨(V i=0∨V i=9223372036854775808)∨(den:Int)*abZ (V i) < num*W)→b (i+1)=b i:=fun h=>by rw [hsi,if_pos h]
       have htake:¬ (i ∈ q.rows∨(V i=0∨V i=9223372036854775808)∨(den:Int)*abZ (V i) < num*W)→b (i+1)=if b i < 0∨q4s mi i < q4s mi (b i).toNat then (i:Int) else b i:=fun h=>by rw [hsi,if_neg h]
       clear hsi hbs
       by_cases hmem:i ∈ q.rows
       ·rw [decide_eq_true hmem] at cP;have N2:=N9 true;have hbn:=hskip (.inl hmem);generalize b i=bi at *;refine wk ?_;refine ⟨i+1,by omega,by omega,?_⟩;rw [hbn];refine LeW [] rfl rfl ?_ ?_ (by simp [q1N,q0z,win]) ?_
        ·exact Ow
        ·exact q1F (q02 hn Oq Oq)
        ·try refine Zz ?_
         exact ⟨rfl,q0R rfl (q1o hP3)⟩
       rw [decide_eq_false hmem] at cP;have N2:=N9 false
       by_cases hz:V i=0∨V i=9223372036854775808
       ·rw [decide_eq_true hz] at cZ;have hbn:=hskip (.inr (.inl hz));generalize b i=bi at *;refine wk1 hvg ?_;refine ⟨i+1,by omega,by omega,?_⟩;rw [hbn];refine LeW [] rfl rfl ?_ ?_ (by simp [q1N,q0z,win]) ?_
        ·exact Ow
        ·exact q1F (q02 hn Oq Oq)
        ·try refine Zz ?_
         exact ⟨rfl,q0R rfl (q1o hP3)⟩
       rw [decide_eq_false hz] at cZ
       by_cases hle:(den:Int)*abZ (V i) < num*W
       ·rw [decide_eq_true hle] at cL;have hbn:=hskip (.inr (.inr hle));generalize b i=bi at *;refine wk1 hvg ?_;refine ⟨i+1,by omega,by omega,?_⟩;rw [hbn];refine LeW [] rfl rfl ?_ ?_ (by simp [q1N,q0z,win]) ?_
        ·exact Ow
        ·exact q1F (q02 hn Oq Oq)
        ·try refine Zz ?_
         exact ⟨rfl,q0R rfl (q1o hP3)⟩
       rw [decide_eq_false hle] at cL;have hbn:=htake fun h=>h.elim hmem fun h=>h.elim hz hle;have cC1:=qaZ (ms:=ms) (mi:=mi) (mv:=mv) (n:=n) (i:=i) Oq;have cC2:=fun c:Nat=>qaZ (ms:=ms) (mi:=mi) (mv:=mv) (n:=n) (i:=c) Oq;unfold q5e at cC1 cC2;have hcb:∀ c,q4s mi c≤1000000:=fun c=>Nat.le_trans (List.length_filter_le _ _) Oq;generalize b i=bi at *
       by_cases hneg:bi < 0
       ·rw [if_pos (.inl hneg)] at hbn;refine wk1 (x2 hvg hneg) ?_;refine ⟨i+1,by omega,by omega,?_⟩;rw [hbn];refine LeW [] rfl rfl ?_ ?_ (by simp [q1N,q0z,win]) ?_
        ·exact Ow
        ·exact q1F (q02 hn Oq Oq)
        ·try refine Zz ?_
         exact ⟨rfl,q0R rfl (q1o hP3)⟩
       obtain ⟨c,rfl⟩:∃ c:Nat,bi=c:=⟨bi.toNat,by omega⟩;rw [Int.toNat_natCast] at hbn;have cC3:=cC2 c;have h1:=hcb i;have h2:=hcb c
       by_cases hcnt:q4s mi i < q4s mi c
       ·rw [if_pos (.inr hcnt)] at hbn;have hcnt':(q4s mi i:Int) < q4s mi c:=by omega
        refine wk1 (x3 hvg hneg hcnt') ?_;refine ⟨i+1,by omega,by omega,?_⟩;rw [hbn];refine LeW [] rfl rfl ?_ ?_ (by simp [q1N,q0z,win]) ?_
        ·exact Ow
        ·exact q1F (q02 hn Oq Oq)
        ·try refine Zz ?_
         exact ⟨rfl,q0R rfl (q1o hP3)⟩
       ·rw [if_neg fun h=>h.elim hneg hcnt] at hbn;have hcnt':¬ (q4s mi i:Int) < q4s mi c:=by omega
        refine wk1 (x3 hvg hneg hcnt') ?_;refine ⟨i+1,by omega,by omega,?_⟩;rw [hbn];refine LeW [] rfl rfl ?_ ?_ (by simp [q1N,q0z,win]) ?_
        ·exact Ow
        ·exact q1F (q02 hn Oq Oq)
        ·try refine Zz ?_
         exact ⟨rfl,q0R rfl (q1o hP3)⟩
      ·obtain rfl:n=i:=by omega
       clear hi hlt hbs cI1 cI2 cM1
       by_cases hneg:b n < 0
       ·rw [if_pos hneg] at hres;cases hres;rw [hHe (by decide)];refine wk1 hneg ?_;refine (rtM (rs:=[.tmp 12]) rfl rfl Lq ?_ (.inl rfl));refine hbad (q0i n q 5001) _ _ _ ?_ (q5D Oq Oq Oq Oq) rfl _;exact Ow
       rw [if_neg hneg] at hres;obtain ⟨hpm,hpz⟩:=hbok Oq;have hpn:=(hrg n).2;clear hrg hbok hb0;generalize b n=bn at *;obtain ⟨p,rfl⟩:∃ p:Nat,bn=p:=⟨bn.toNat,by omega⟩;rw [Int.toNat_natCast] at hres hpm hpz;have hpn:p < n:=by omega
       have hvp:=qpd (g:=V) hpn;have rk:(List.range n)[k]?=some k:=List.getElem?_range hkn;refine wk1 (x3 hneg hvp rk) ?_;obtain ⟨Sp,hSp⟩:∃ Sp,Sp=pvS q k V p:=⟨_,rfl⟩;rw [← hSp] at hres;have hSr:Sp.rows=q.rows ++ [p]:=by rw [hSp]; rfl
       have hSl:Sp.l=q.l:=by rw [hSp]; rfl
       have eqT:q0O (q0O (stT n q) (k+30000) ⟨43,none,(rU n q.u k).set k (uv (V p:Nat)),false⟩) (k+40000) ⟨4,none,(rB n q.iU k).set k (bv true),false⟩=stT n Sp:=by
        rw [qpK hn hkn,qik (S:={ q with u:=q3S q.u k k (V p) }) hn hkn,hSp]
        rfl
       have hSrl:Sp.rows.length=k+1:=by rw [hSr,List.length_append,hql]; rfl
       refine q1a (q97 (S:=Sp) (o:=191) (r:=5002) hn (by omega) (by omega) hJ (fun i h6 hw=>?_) ?_ ?_ (.inl (by omega)) (xs:=[(0,.pt 5000 0 0),(3,iv k),(13,iv n),(16,.ow 1001 (some 4) 0 n),(17,.ow 1002 none 0 n),(20,iv p),(23,iv 0)]) (kv:=[]) (bs:=[(1001,⟨56,some 4,rwP n P n,false⟩),(1002,⟨43,none,(rwG n V n).map fun z:Nat=>uv z,false⟩)]) (kb:=[]) (by simp [nmW]) ?_) ?_
       ·rw [← eqT]
        by_cases h1:i=k+40000
        ·subst h1; rw [q0J,q0J]
        by_cases h2:i=k+30000
        ·subst h2; rw [q0A h1,q0J,q0A h1,q0J]
        rw [q0A h1,q0A h2,q0A h1,q0A h2,q0A (by omega),q0A (by omega),q0A (by omega),q0A (by omega),q0T hw];unfold q0i;rw [q0A (by omega),q0A (by omega)]
       ·try refine Zz ?_
        rw [hSr,List.length_append]; rfl
       ·try refine Zz ?_
        unfold rwB;rw [hSr,List.map_append]; rfl
       ·try refine Zz ?_
        repeat' (with_reducible apply And.intro)
        all_goals first | exact q0R rfl (q1o hP3) | exact q0R rfl clU | rfl | omega
       refine q00 (fun x:Nat × LuS=>x.1≤n∧loS Sp k Z (ofZ (V p)) x.1=some x.2∧q5V x.2.l∧x.2.rows=Sp.rows) [0,3,13,16,17,20] [1001,1002] Lk Lk (fun x=>[(23,iv x.1)]) (fun _=>[]) (fun x=>q0i n x.2 5002) (fun x=>n-x.1) (0,Sp) ⟨Nat.zero_le _,rfl,by rw [hSl]; exact ql,rfl⟩ ?_ ?_
       ·refine LeW [] rfl rfl ?_ ?_ (by simp [q1N,q0z,win]) ?_
        ·exact Ow
        ·exact q1F (q02 hn Oq Oq)
        ·try refine Zz ?_
         exact ⟨rfl,q0R rfl (q1o hP3)⟩
       ·rintro ⟨i,t⟩ ⟨hi,ht,htl,htr⟩;simp only at hi ht htl htr ⊢;have htrl:t.rows.length=k+1:=by rw [htr]; exact hSrl
        by_cases hlt:i < n
        ·have cP:=q4E (S:=t) (n:=n) (i:=i) Oq;have hts:loS Sp k Z (ofZ (V p)) (i+1)=if i ∈ Sp.rows then some t else if q0Q (qfR 0 (Z i) (ofZ (V p))) then some { t with l:=q3S t.l i k (qfR 0 (Z i) (ofZ (V p))),iL:=qa3 t.iL i k (decide (Z i≠0)) } else none:=by rw [loS,ht,Option.bind_some]
         have N9:∀ b:Bool,Nz (bv b):=fun b=>nz_v
         by_cases hmem:i ∈ t.rows
         ·rw [decide_eq_true hmem] at cP;have N2:=N9 true;rw [if_pos (htr ▸ hmem)] at hts;refine wk ?_;refine ⟨(i+1,t),⟨by simp only; omega,hts,htl,htr⟩,by simp only; omega,?_⟩;simp only;refine LeW [] rfl rfl ?_ ?_ (by simp [q1N,q0z,win]) ?_
          ·exact Ow
          ·exact q1F (q02 hn Oq Oq)
          ·try refine Zz ?_
           exact ⟨rfl,q0R rfl (q1o hP3)⟩
         ·rw [decide_eq_false hmem] at cP;have N2:=N9 false;rw [if_neg (htr ▸ hmem)] at hts;have hmq:i ∉ q.rows:=fun h=>hmem (by rw [htr,hSr]; exact List.mem_append_left _ h);have hgs:(rwP n P n)[i]?=some (pV (Z i)):=by rw [qkv hlt (Nat.le_refl _),hP1 i hmq]
          have ri:(List.range n)[i]?=some i:=List.getElem?_range hlt;have cO:=q2e (hvl p) (q04 (hfin p hpn));have cQ:=qby (qgC (A:=Z i) (B:=ofZ (V p)) (mode:=0));have hvl2:qfR 0 (Z i) (ofZ (V p)) < 18446744073709551616:=qdG;have cG:=qaX (V:=Z i);have cF:=q1w hvl2;have qz:((Z i).sign != 0)=decide (Z i≠0):=by
           by_cases h0:Z i=0
           ·rw [h0]; rfl
           ·rw [decide_eq_true h0]; simpa using h0
          generalize qfR 0 (Z i) (ofZ (V p))=v at *;have hget:((rU n t.l i).set k (uv (v:Nat)))[k]?=some (uv (v:Nat)):=List.getElem?_set_self (by simp; omega);have eq1:∀ b,q0O (q0O (q0i n t 5002) (i+10000) ⟨43,none,(rU n t.l i).set k (uv (v:Nat)),false⟩) (i+20000) ⟨4,none,(rB n t.iL i).set k (bv b),false⟩=q0i n { t with l:=q3S t.l i k v,iL:=qa3 t.iL i k b } 5002:=fun b=>by
           rw [q98 (by omega) (by omega),q3M (i:=5002) (by omega),q3M (i:=5000) (by omega),stT_l hn hlt,qpM (S:={ t with l:=q3S t.l i k v }) hn hlt]
          by_cases hf:q0Q v
          ·rw [decide_eq_true hf] at cF;rw [if_pos hf] at hts;refine wk1 (x6 hgs hvp ri rk qz hget) ?_;refine ⟨(i+1,{ t with l:=q3S t.l i k v,iL:=qa3 t.iL i k (decide (Z i≠0)) }),⟨by simp only; omega,hts,fun x y=>?_,htr⟩,by simp only; omega,?_⟩
           ·simp only [q3S]
            split
            ·exact ⟨hf,hvl2⟩
            ·exact htl x y
           ·simp only;refine LeW [] rfl rfl ?_ ?_ (by simp [q1N,q0z,win]) ?_
            ·refine q9O (q55 (q55 q3Q)) (eq1 _)
            ·exact q1F (q02 hn Oq Oq)
            ·try refine Zz ?_
             exact ⟨rfl,q0R rfl (q1o hP3)⟩
          ·rw [decide_eq_false hf] at cF;rw [if_neg hf] at hts;rw [qaA hts n (by omega)] at hres;cases hres;rw [hHe (by decide)];refine wk1 (x6 hgs hvp ri rk qz hget) ?_;refine (rtM (rs:=[.tmp 12]) rfl rfl Lq ?_ (.inl rfl));exact hbad _ _ _ _ (q9O (q55 (q55 q3Q)) (eq1 _)) (q5D Oq Oq Oq Oq) rfl _
        ·obtain rfl:n=i:=by omega
         rw [ht] at hres;cases hres;rw [hH0 rfl];refine wk ?_;refine (rtM (rs:=[.tmp 12]) rfl rfl Lq ?_ (.inl rfl));exact LeF q3Q (fun i b hb=>((q02 hn Oq Oq).b i b hb).1) (q1F (q02 hn Oq Oq)) (.cl trivial)
end
end Go.Proofs.YtjfjjmfhfbapeaaGreatDoor
namespace Go.E
open Go Go.RowKit
section
variable {J:Nat→Prop} {s:Nat→PV} {h hw hw':Hp} {T1 T2:TypeId} {K:Kd} {N R n:Nat}
mutual
def qnd {p q:Nat→Prop}:∀ x:PV,IdP p x→IdP q x→IdP (fun i=>p i∧q i) x
 | .ow _ _ _ _,h1,h2=>by unfold IdP at *; exact ⟨h1,h2⟩
 | .pt _ _ _,h1,h2=>by unfold IdP at *; exact ⟨h1,h2⟩
 | .ag l,h1,h2=>by unfold IdP at *; exact IdL_and l h1 h2
 | .tu l,h1,h2=>by unfold IdP at *; exact IdL_and l h1 h2
 | .un,_,_=>by unfold IdP; trivial
 | .vl _,_,_=>by unfold IdP; trivial
 | .fm _,_,_=>by unfold IdP; trivial
 | .sl _ _,_,_=>by unfold IdP; trivial
 | .qt _ _,_,_=>by unfold IdP; trivial
def IdL_and {p q:Nat→Prop}:∀ l:List PV,IdL p l→IdL q l→IdL (fun i=>p i∧q i) l
 | [],_,_=>by unfold IdL; trivial
 | x :: l,h1,h2=>by unfold IdL at *; exact ⟨qnd x h1.1 h2.1,IdL_and l h1.2 h2.2⟩
end
def q6V {τ:Nat→Option Nat} {h h':Hp} {row:Nat→List PV} (m:Nat→Nat) (h0:h N=some ⟨T1,none,(List.range n).map fun j=>.ow (j+R) K 0 (m j),false⟩) (hr:∀ j,j < n→h (j+R)=some ⟨T2,K,row j,false⟩∧ClL (row j)∧(row j).length=m j) (ht:∀ i j,τ i=some j→j=N∨(R≤j∧j < R+n)→h' i=none):LeV τ h h' (.ow N none 0 n) (.sl none ((List.range n).map fun j=>.sl K (row j))):=by
 have e:∀ {α:Type} {l:List α} {k:Nat},l.length=k→(l.drop 0).take k=l:=fun {α l k} hl=>by rw [List.drop_zero]; exact List.take_of_length_le (by omega)
 have e1:=e (l:=(List.range n).map fun j=>PV.sl K (row j)) (k:=n) (by simp);rw [← e1];refine .fzg h0 rfl rfl (by simp) (fun c x y hx hy=>?_) (fun y hy=>?_) fun i hi=>ht i N hi (.inl rfl)
 ·have hc:c < n:=by have:=(List.getElem?_eq_some_iff.1 hy).1; simpa using this
  rw [List.getElem?_map,List.getElem?_range hc,Option.map_some] at hx hy;cases hx; cases hy;obtain ⟨q1,q2,q3⟩:=hr c hc;exact qai q1 q2 (fun i hi=>ht i _ hi (.inr ⟨by omega,by omega⟩)) (e q3)
 ·obtain ⟨z,_,rfl⟩:=List.mem_map.1 hy; trivial
def HId (q:Nat→Prop) (h:Hp):Prop:=∀ i b,h i=some b→IdL q b.xs
def qtn {q:Nat→Prop}:HId q h0:=fun _ _ h=>by cases h
def qbm {q:Nat→Prop} {row:Nat→List PV} {B:Hp} (hB:HId q B) (hrow:∀ j,j < n→ClL (row j)) (hq:∀ j,j < n→q (j+R)):HId q (q1Y T1 T2 K N R n row B):=fun i b hb=>by
 rcases q0j hb with ⟨rfl,rfl⟩ | ⟨h0,h1,h2,rfl⟩ | ⟨h1,h2,h3⟩
 ·refine IdL.of fun x hx=>?_;obtain ⟨z,hz,rfl⟩:=List.mem_map.1 hx;unfold IdP;exact hq z (List.mem_range.1 hz)
 ·exact IdL.of fun x hx=>q51 (hrow (i-R) Oq x hx)
 ·exact hB i b h3
def q3w [NL] {o r:Nat} {l:List PV} {xs kv:List (Nat × PV)} {bs:List (Nat × Bk)} {kb:List (Nat × Option Bk)} (hJ:∀ i,¬ J i) (hcl:ClL l) (f:Nat→Nat) (ho:h o=some ⟨T1,none,((List.range n).map fun j=>.ow (j+R) K 0 (f j)) ++ [.ow r K 0 (f n)],false⟩) (hr:h r=some ⟨T2,K,l,false⟩)
  (hq:∀ i,win i→i≠N→h i=hw i) (e0:hw' N=some ⟨T1,none,(List.range (n+1)).map fun j=>.ow (j+R) K 0 (f j),false⟩) (e1:hw' (n+R)=some ⟨T2,K,l,false⟩) (e2:∀ i,i≠N→i≠n+R→hw' i=hw i) (e3:∀ j,j < n→hw' (j+R)≠none) (hB:BOk hw win) (hI:HId (fun j=>j≠N) hw) (hnr:hw (n+R)=none)
  (h5:o < 5000) (h6:r < 5000) (h7:o≠r) (hN:5000≤N) (hNR:N < R) (hR:R+n < 1000000) (hn:nmW o r (bs.map (·.1) ++ kb.map (·.1)))
  (hh:q4e (tp N (n+R) o r) h (q0m hw' (hpM bs kb)) s xs∧q4e (tp N (n+R) o r) h (q0m hw' (hpM bs kb)) s kv∧qbl (tp N (n+R) o r) h (q0m hw' (hpM bs kb)) bs∧q8W (tp N (n+R) o r) h (q0m hw' (hpM bs kb)) kb):Le J s h (stM xs kv) (q0m hw' (hpM bs kb)):=by
 have tN:tp N (n+R) o r N=some o:=if_pos rfl;have tK:tp N (n+R) o r (n+R)=some r:=by unfold tp; rw [if_neg (by omega),if_pos rfl]
 have tI:∀ i,i≠N→i≠n+R→tp N (n+R) o r i=some i:=fun i a b=>by unfold tp; rw [if_neg a,if_neg b]
 have hl:=fun i hi=>q4H hn i hi;have hex:∀ i,win i→hw' i≠none→∃ b,q0m hw' (hpM bs kb) i=some b:=fun i hi hb=>by
  rw [q0T hi]; exact Option.ne_none_iff_exists'.1 hb
 refine LeT (tp N (n+R) o r) (fun i q=>(hJ i q).elim) (fun i hi hw=>?_) (fun i b hw1 hb=>?_) (fun i j k' hi hj ti tj=>?_) hh
 ·have:=(hl i hi).1; unfold win at hw; omega
 ·by_cases i1:i=N
  ·subst i1;rw [e0] at hb; cases hb;unfold LeB;rw [tN];refine ⟨_,ho,rfl,rfl,⟨rfl,rfl⟩,by simp,fun c u v hx hy=>?_⟩;have hc:c < n+1:=by have:=(List.getElem?_eq_some_iff.1 hy).1; simpa using this
   rw [List.getElem?_map,List.getElem?_range hc,Option.map_some] at hy;cases hy
   by_cases hck:c=n
   ·subst hck;rw [List.getElem?_append_right (by simp)] at hx;simp at hx;subst hx;obtain ⟨b,hbb⟩:=hex (c+R) ⟨by omega,by omega⟩ (by rw [e1]; exact Option.some_ne_none _);exact .ow tK hbb
   ·rw [List.getElem?_append_left (by simp; omega),List.getElem?_map,List.getElem?_range (by omega),Option.map_some] at hx;cases hx;obtain ⟨b,hbb⟩:=hex (c+R) ⟨by omega,by omega⟩ (e3 c Oq);exact .ow (tI _ Oq Oq) hbb
  ·by_cases i2:i=n+R
   ·subst i2;rw [e1] at hb; cases hb;unfold LeB;rw [tK];exact ⟨_,hr,rfl,rfl,⟨rfl,rfl⟩,q0R rfl hcl⟩
   ·rw [e2 i i1 i2] at hb;obtain ⟨q1,q2,q3⟩:=hB.b i b hb;unfold LeB;rw [tI i i1 i2];refine ⟨b,(hq i hw1 i1).trans hb,rfl,rfl,⟨q2,q2⟩,LeL_self (fun j hj=>?_) _ (IdL_and _ q3 (hI i b hb))⟩;obtain ⟨hj,hjN⟩:=hj;obtain ⟨c,hc⟩:=Option.ne_none_iff_exists'.1 hj;have hjR:j≠n+R:=by rintro rfl; exact hj hnr
    exact ⟨tI j hjN hjR,hex j (hB.b j c hc).1 (by rw [e2 j hjN hjR]; exact hj)⟩
 ·have a:∀ i,(win i∧hw' i≠none∨i ∈ bs.map (·.1) ++ kb.map (·.1))→i≠r∧i≠o∧(i < 5000→i≠N∧i≠n+R):=fun i hi=>by
   rcases hi with ⟨q,hi⟩ | hi
   ·unfold win at q; omega
   ·have:=hl i hi; omega
  have a1:=a i hi;have a2:=a j hj;unfold tp at ti tj
  split at ti <;> (try split at ti) <;> split at tj <;> (try split at tj) <;> cases ti <;> cases tj <;> first | omega | rfl | (exfalso; omega)
end
end Go.E
namespace Go.Proofs.YtjfjjmfhfbapeaaGreatDoor
open Go Go.E Go.Sp
def fLt (S:LuS) (j i:Nat):Option Nat:=if j < i∧S.iL (S.rows.getD i 0) j=true then some (S.l (S.rows.getD i 0) j) else none
def fUt (S:LuS) (j i:Nat):Option Nat:=if i≤j∧S.iU i j=true then some (S.u i j) else none
def qq2 (S:LuS) (cols:List Int) (n:Nat):LUt:=⟨S.rows.map fun z:Nat=>(z:Int),cols,(tM (fLt S) n n).1,(tM (fLt S) n n).2.1,(tM (fLt S) n n).2.2,(tM (fUt S) n n).1,(tM (fUt S) n n).2.1,(tM (fUt S) n n).2.2⟩
section
variable {S:LuS} {n:Nat} {cols:List Int}
def qcV {F:Nat→Nat→Option Nat} {j:Nat} {p:List Int × List Nat}:∀ i,(∀ c,c < i→F j c=none)→tC F j p i=p
 | 0,_=>rfl
 | i+1,h=>by rw [qbA (h i (by omega)),qcV i fun c hc=>h c (by omega)]
def qcU {F:Nat→Nat→Option Nat} {j:Nat} {p:List Int × List Nat} {a:Nat} (h:∀ c,a≤c→F j c=none):∀ i,a≤i→tC F j p i=tC F j p a
 | 0,hi=>by
  obtain rfl:a=0:=by omega
  rfl
 | i+1,hi=>by
  by_cases e:a=i+1
  ·subst e; rfl
  ·rw [qbA (h i (by omega)),qcU h i (by omega)]
def qbc (hn:n≤100) (hc:cols.length=n) (hr:S.rows.length=n) (hrl:∀ x ∈ S.rows,x < n):ACt 116 [pSt n S,pI cols] (pLU (qq2 S cols n)):=by
 have hnn:n*n≤100*100:=Nat.mul_le_mul hn hn;have hLl:=fun k=>q1d (f:=fLt S) (R:=n) k;have hUl:=fun k=>q1d (f:=fUt S) (R:=n) k;have hL1:∀ k,(tM (fLt S) n (k+1)).1=(tM (fLt S) n k).1 ++ [((tC (fLt S) k (tM (fLt S) n k).2 n).1.length:Int)]:=fun k=>rfl;have hL2:∀ k,(tM (fLt S) n (k+1)).2=tC (fLt S) k (tM (fLt S) n k).2 n:=fun k=>rfl;have hU1:∀ k,(tM (fUt S) n (k+1)).1=(tM (fUt S) n k).1 ++ [((tC (fUt S) k (tM (fUt S) n k).2 n).1.length:Int)]:=fun k=>rfl;have hU2:∀ k,(tM (fUt S) n (k+1)).2=tC (fUt S) k (tM (fUt S) n k).2 n:=fun k=>rfl;have hL0:tM (fLt S) n 0=([0],[],[]):=rfl;have hU0:tM (fUt S) n 0=([0],[],[]):=rfl;unfold qq2 pLU;dsimp only;have hcm:(S.rows.map fun z:Nat=>iv z)=(S.rows.map fun z:Nat=>(z:Int)).map fun z=>iv z:=by rw [List.map_map]; rfl
 have hrl2:(S.rows.map fun z:Nat=>(z:Int)).length=n:=by rw [List.length_map,hr]
 generalize hro:(S.rows.map fun z:Nat=>(z:Int))=ro at *;refine ac0 Tryz.func116 Tryz.ntmps116 [.cell 4 26] ?_;refine wk1 (x2 hr hc) ?_;refine q0B (fun k=>k≤n) [2,4,5,6] [2,4] Lk Lk (fun k:Nat=>[(7,iv k)]) (fun k=>[(6,⟨26,some 8,[.ag [.ow 1001 none 0 n,.ow 1002 none 0 n,.ow 1003 none 0 (tM (fLt S) n k).1.length,.ow 1004 none 0 (tM (fLt S) n k).2.1.length,.ow 1005 none 0 (tM (fLt S) n k).2.2.length,.ow 1006 none 0 (tM (fUt S) n k).1.length,.ow 1007 none 0 (tM (fUt S) n k).2.1.length,.ow 1008 none 0 (tM (fUt S) n k).2.2.length]],false⟩),(1001,⟨3,none,ro.map fun z=>iv z,false⟩),(1002,⟨3,none,cols.map fun z=>iv z,false⟩),(1003,⟨3,none,(tM (fLt S) n k).1.map fun z=>iv z,false⟩),(1004,⟨3,none,(tM (fLt S) n k).2.1.map fun z=>iv z,false⟩),(1005,⟨43,none,(tM (fLt S) n k).2.2.map fun z:Nat=>uv z,false⟩),(1006,⟨3,none,(tM (fUt S) n k).1.map fun z=>iv z,false⟩),(1007,⟨3,none,(tM (fUt S) n k).2.1.map fun z=>iv z,false⟩),(1008,⟨43,none,(tM (fUt S) n k).2.2.map fun z:Nat=>uv z,false⟩)]) (fun k=>n-k) 0 (Nat.zero_le _) ?_ ?_
 ·refine LeM [(1001,some 15),(1002,some 18),(1003,some 19),(1004,none),(1005,none),(1006,some 20),(1007,none),(1008,none)] rfl rfl ?_;refine Zz ?_
  repeat' (with_reducible apply And.intro)
  all_goals first | rfl | exact q0R hcm clI | exact q0R rfl clI
 ·intro k hk;have hkn:k*n≤100*100:=Nat.mul_le_mul Oq hn;have hLk:=hLl k;have hUk:=hUl k
  by_cases hlt:k < n
  ·have hL1k:=hL1 k;have hL2k:=hL2 k;have hU1k:=hU1 k;have hU2k:=hU2 k;have rk:(List.range n)[k]?=some k:=List.getElem?_range hlt;generalize (tM (fLt S) n k).1=ls at *;generalize (tM (fLt S) n k).2=lp at *;generalize (tM (fUt S) n k).1=us at *;generalize (tM (fUt S) n k).2=up at *;have hskip:tC (fLt S) k lp (k+1)=lp:=qcV (k+1) fun c hc=>if_neg fun h=>by omega
   have hstop:tC (fUt S) k up n=tC (fUt S) k up (k+1):=qcU (a:=k+1) (fun c hc=>if_neg fun h=>by omega) n Oq;refine wk ?_;refine q0B (fun p=>k+1≤p∧p≤n) [2,4,5,6,7] [2,4,1001,1002,1003,1006,1007,1008] Lk Lk (fun p:Nat=>[(8,iv p)]) (fun p=>[(6,⟨26,some 8,[.ag [.ow 1001 none 0 n,.ow 1002 none 0 n,.ow 1003 none 0 ls.length,.ow 1004 none 0 (tC (fLt S) k lp p).1.length,.ow 1005 none 0 (tC (fLt S) k lp p).2.length,.ow 1006 none 0 us.length,.ow 1007 none 0 up.1.length,.ow 1008 none 0 up.2.length]],false⟩),(1004,⟨3,none,(tC (fLt S) k lp p).1.map fun z=>iv z,false⟩),(1005,⟨43,none,(tC (fLt S) k lp p).2.map fun z:Nat=>uv z,false⟩)]) (fun p=>n-p) (k+1) ⟨Nat.le_refl _,hlt⟩ ?_ ?_
   ·rw [hskip];refine LeM [] rfl rfl ?_;refine Zz ?_
    rfl
   ·rintro p ⟨hp1,hp2⟩;have hq:=q76 (f:=fLt S) (j:=k) hLk.2.1 p
    by_cases hpl:p < n
    ·obtain ⟨r,hrp⟩:∃ r,S.rows[p]?=some r:=⟨_,List.getElem?_eq_getElem Oq⟩;have hrn:=hrl r (List.mem_of_getElem? hrp);have rr:(List.range n)[r]?=some r:=List.getElem?_range hrn;have hgr:S.rows.getD p 0=r:=getD_some hrp;cases qb:S.iL r k with
     | true =>
      have hF:fLt S k p=some (S.l r k):=by unfold fLt; rw [hgr,if_pos ⟨by omega,qb⟩]
      have eg:=qcW (p:=lp) hF;refine wk1 (x4 hrp rr rk qb) ?_;refine ⟨p+1,⟨by omega,by omega⟩,by omega,?_⟩;rw [eg];refine LeM [(1004,some 50),(1005,some 67)] rfl rfl ?_;refine Zz ?_
      rfl
     | false =>
      have hF:fLt S k p=none:=by unfold fLt; rw [hgr,if_neg fun h=>by rw [qb] at h; cases h.2]
      have eg:=qbA (p:=lp) hF;refine wk1 (x4 hrp rr rk qb) ?_;refine ⟨p+1,⟨by omega,by omega⟩,by omega,?_⟩;rw [eg];refine LeM [] rfl rfl ?_;refine Zz ?_
      rfl
    ·obtain rfl:n=p:=by omega
     clear hskip hq;refine wk ?_;refine q0B (fun m=>m≤k+1) [2,4,5,6,7] [2,4,1001,1002,1003,1004,1005,1006] Lk Lk (fun m:Nat=>[(9,iv m)]) (fun m=>[(6,⟨26,some 8,[.ag [.ow 1001 none 0 n,.ow 1002 none 0 n,.ow 1003 none 0 ls.length,.ow 1004 none 0 (tC (fLt S) k lp n).1.length,.ow 1005 none 0 (tC (fLt S) k lp n).2.length,.ow 1006 none 0 us.length,.ow 1007 none 0 (tC (fUt S) k up m).1.length,.ow 1008 none 0 (tC (fUt S) k up m).2.length]],false⟩),(1007,⟨3,none,(tC (fUt S) k up m).1.map fun z=>iv z,false⟩),(1008,⟨43,none,(tC (fUt S) k up m).2.map fun z:Nat=>uv z,false⟩)]) (fun m=>k+1-m) 0 (Nat.zero_le _) ?_ ?_
     ·refine LeM [] rfl rfl ?_;refine Zz ?_;exact ⟨rfl,⟨rfl,rfl⟩,rfl,rfl⟩
     ·intro m hm;have hq:=q76 (f:=fUt S) (j:=k) hUk.2.1 m
      by_cases hml:m < k+1
      ·have hml':(m:Int)≤k:=by omega
       have rm:(List.range n)[m]?=some m:=List.getElem?_range Oq;cases qb:S.iU m k with
       | true =>
        have hF:fUt S k m=some (S.u m k):=if_pos ⟨by omega,qb⟩;have eg:=qcW (p:=up) hF;refine wk1 (x4 hml' rm rk qb) ?_;refine ⟨m+1,by omega,by omega,?_⟩;rw [eg];refine LeM [(1007,some 86),(1008,some 99)] rfl rfl ?_;refine Zz ?_
        rfl
       | false =>
        have hF:fUt S k m=none:=if_neg fun h=>by rw [qb] at h; cases h.2
        have eg:=qbA (p:=up) hF;refine wk1 (x4 hml' rm rk qb) ?_;refine ⟨m+1,by omega,by omega,?_⟩;rw [eg];refine LeM [] rfl rfl ?_;refine Zz ?_
        rfl
      ·obtain rfl:m=k+1:=by omega
       have hml':¬ ((k+1:Nat):Int)≤k:=by omega
       refine wk1 hml' ?_;refine ⟨k+1,by omega,by omega,?_⟩;rw [hL1k,hL2k,hU1k,hU2k,hstop];refine LeM [(1003,some 107),(1006,some 115)] rfl rfl ?_;refine Zz ?_
       rfl
  ·obtain rfl:n=k:=by omega
   exact wk trivial
end
end Go.Proofs.YtjfjjmfhfbapeaaGreatDoor
namespace Go.E
open Go Go.RowKit
section
variable {T1 T2:TypeId} {K:Kd} {N R n:Nat} {row:Nat→List PV} {B B':Hp}
def q2I {i:Nat} (h1:i≠N) (h2:i≠n+R):q1Y T1 T2 K N R (n+1) row B i=q1Y T1 T2 K N R n row B i:=by
 unfold q1Y;rw [if_neg h1,if_neg h1]
 by_cases h:R≤i∧i < R+n
 ·rw [if_pos h,if_pos (by omega)]
 ·rw [if_neg h,if_neg (by omega)]
def q1c {i:Nat} (h:B i=B' i):q1Y T1 T2 K N R n row B i=q1Y T1 T2 K N R n row B' i:=by
 unfold q1Y; rw [h]
def q6Y {j:Nat} (hj:j < n):q1Y T1 T2 K N R n row B (j+R)≠none:=by
 unfold q1Y
 split
 ·exact Option.some_ne_none _
 ·rw [if_pos (by omega)]; exact Option.some_ne_none _
end
end Go.E
namespace Go.Proofs.YtjfjjmfhfbapeaaGreatDoor
open Go Go.E Go.Sp
section
open Classical
def qgV:LuS:=⟨[],fun _ _=>0,fun _ _=>false,fun _ _=>0,fun _ _=>false⟩
variable (F:Nat→Nat→Option Nat) (mi:List Int) (n:Nat) (cols:List Int) (num den:Nat)
noncomputable def q2z:Nat→Int × Nat × LuS
 | 0=>(0,0,qgV)
 | k+1=>if (q2z k).1=0 then ((q5g F mi n (q2z k).2.2 (lfN cols k) k num den).1,if (q5g F mi n (q2z k).2.2 (lfN cols k) k num den).1=9 then k else 0,(q5g F mi n (q2z k).2.2 (lfN cols k) k num den).2) else q2z k
noncomputable def qoF:LUt:=if (q2z F mi n cols num den n).1=0 then qq2 (q2z F mi n cols num den n).2.2 cols n else ⟨[],[],[],[],[],[],[],[]⟩
noncomputable def facP:PV:=.tu [pLU (qoF F mi n cols num den),iv (if (q2z F mi n cols num den n).1=0 then n else (q2z F mi n cols num den n).2.1:Nat),iv (q2z F mi n cols num den n).1]
end
section
variable {F:Nat→Nat→Option Nat} {mi:List Int} {n:Nat} {cols:List Int} {num den:Nat} {S r:LuS} {j k:Nat}
def q6p {g:Nat→Nat→Nat} {r c v:Nat} (h:q5V g) (h1:q0Q v) (h2:v < 18446744073709551616):q5V (q3S g r c v):=fun x y=>by
 unfold q3S
 split
 ·exact ⟨h1,h2⟩
 ·exact h x y
def qiW:∀ (m:Nat) (q:LuS),q5V S.l→q5V S.u→upS F S j k m=some q→q5V q.l∧q5V q.u∧q.rows=S.rows
 | 0,q,h1,h2,h=>by unfold upS at h; cases h; exact ⟨h1,h2,rfl⟩
 | m+1,q,h1,h2,h=>by
  unfold upS at h;obtain ⟨t,ht,h⟩:=Option.bind_eq_some_iff.1 h;obtain ⟨q1,q2,q3⟩:=qiW m t h1 h2 ht
  split at h
  ·cases h; exact ⟨q1,q6p q2 (by assumption) q7z,q3⟩
  ·cases h
def qjK {z:Nat→Int} {d:Int}:∀ (m:Nat) (q:LuS),q5V S.l→loS S k z d m=some q→q5V q.l∧q.u=S.u∧q.rows=S.rows
 | 0,q,h1,h=>by unfold loS at h; cases h; exact ⟨h1,rfl,rfl⟩
 | m+1,q,h1,h=>by
  unfold loS at h;obtain ⟨t,ht,h⟩:=Option.bind_eq_some_iff.1 h;obtain ⟨q1,q2,q3⟩:=qjK m t h1 ht
  split at h
  ·cases h; exact ⟨q1,q2,q3⟩
  ·split at h
   ·cases h; exact ⟨q6p q1 (by assumption) qdG,q2,q3⟩
   ·cases h
structure LuG (n k:Nat) (S:LuS):Prop where
 l:q5V S.l
 u:q5V S.u
 r:∀ x ∈ S.rows,x < n
 len:S.rows.length=k
def qm2 (h:LuG n k S) (he:q5g F mi n S j k num den=(0,r)):LuG n (k+1) r:=by
 unfold q5g at he
 split at he
 ·cases he
 ·rename_i q hq;obtain ⟨q1,q2,q3⟩:=qiW k q h.l h.u hq;unfold colG at he
  split at he
  ·rename_i hfin
   split at he
   ·cases he
   ·rename_i hneg
    split at he
    ·cases he
    ·rename_i t ht;obtain ⟨p,hp⟩:∃ p,p=(bsP (rsV F q j k) q mi num den (mxZ (rsV F q j k) n) n).toNat:=⟨_,rfl⟩;have hpn:p < n:=by have:=(qej (v:=rsV F q j k) (S:=q) (mi:=mi) (num:=num) (den:=den) (w:=mxZ (rsV F q j k) n) n).2; omega
     rw [← hp] at ht;have hvl:rsV F q j k p < 18446744073709551616:=by
      unfold rsV
      split
      ·omega
      ·exact q7z
     obtain ⟨t1,t2,t3⟩:=qjK (S:=pvS q k (rsV F q j k) p) n t q1 ht;cases he;refine ⟨t1,?_,?_,?_⟩
     ·rw [t2]; exact q6p q2 (hfin p hpn) hvl
     ·rw [t3];intro x hx
      rcases List.mem_append.1 hx with hx | hx
      ·exact h.r x (by rw [← q3]; exact hx)
      ·simp at hx; subst hx; exact hpn
     ·rw [t3]
      show (q.rows ++ [p]).length=k+1
      rw [List.length_append,q3,h.len]; rfl
  ·cases he
def q8z:∀ k,(q2z F mi n cols num den k).1=0→LuG n k (q2z F mi n cols num den k).2.2
 | 0,_=>⟨fun _ _=>⟨by unfold q0Q; simp [q2z,qgV],by simp [q2z,qgV]⟩,fun _ _=>⟨by unfold q0Q; simp [q2z,qgV],by simp [q2z,qgV]⟩,fun x hx=>by simp [q2z,qgV] at hx,rfl⟩
 | k+1,h=>by
  unfold q2z at h ⊢
  split at h
  ·rename_i h0;rw [if_pos h0];have ih:=q8z k h0;exact qm2 ih (Prod.ext h rfl)
  ·rename_i h0; exact absurd h h0
def qaP {k:Nat} (h:(q2z F mi n cols num den k).1≠0):∀ k',k≤k'→q2z F mi n cols num den k'=q2z F mi n cols num den k
 | 0,hk=>by
  obtain rfl:k=0:=by omega
  rfl
 | k'+1,hk=>by
  by_cases e:k=k'+1
  ·subst e; rfl
  ·have ih:=qaP h k' Oq;rw [q2z,ih,if_neg h]
def qr0:(q5g F mi n S j k num den).1=0∨(q5g F mi n S j k num den).1=233∨(q5g F mi n S j k num den).1=9:=by
 unfold q5g
 split
 ·exact .inr (.inl rfl)
 ·unfold colG
  split
  ·split
   ·exact .inr (.inr rfl)
   ·split
    ·exact .inr (.inl rfl)
    ·exact .inl rfl
  ·exact .inr (.inl rfl)
def q2S (n a b c d:Nat):Hp:=q1Y 24 43 none 6000 10000 a (rU n fun _ _=>0) (q1Y 137 4 none 6001 20000 b (rB n fun _ _=>false) (q1Y 24 43 none 6002 30000 c (rU n fun _ _=>0) (q1Y 137 4 none 6003 40000 d (rB n fun _ _=>false) h0)))
def qpI:q2S n n n n n=stT n qgV:=rfl
variable {a b c d:Nat}
def q3z (ha:a≤100) (hb:b≤100) (hc:c≤100) (hd:d≤100):BOk (q2S n a b c d) win:=by
 unfold q2S;have w:∀ R j m:Nat,5000≤R→R≤40000→m≤100→j < m→win (j+R):=fun R j m h1 h2 h3 h4=>⟨by omega,by omega⟩;exact q1b (q1b (q1b (q1b BOk.h0 (fun _ _=>qbv) Oq ⟨⟨by omega,by omega⟩,fun j hj=>w _ j _ Oq Oq hd hj⟩) (fun _ _=>q6F) Oq ⟨⟨by omega,by omega⟩,fun j hj=>w _ j _ Oq Oq hc hj⟩) (fun _ _=>qbv) Oq ⟨⟨by omega,by omega⟩,fun j hj=>w _ j _ Oq Oq hb hj⟩) (fun _ _=>q6F) Oq ⟨⟨by omega,by omega⟩,fun j hj=>w _ j _ Oq Oq ha hj⟩
def q62 {q:Nat→Prop} (hq:∀ i,10000≤i→q i):HId q (q2S n a b c d):=by
 unfold q2S;exact qbm (qbm (qbm (qbm qtn (fun _ _=>qbv) fun j _=>hq _ Oq) (fun _ _=>q6F) fun j _=>hq _ Oq) (fun _ _=>qbv) fun j _=>hq _ Oq) (fun _ _=>q6F) fun j _=>hq _ Oq
def qk8 {i:Nat} (hi:i < 6000):q2S n a b c d i=none:=by
 unfold q2S;rw [q0I (by omega) (by omega),q0I (by omega) (by omega),q0I (by omega) (by omega),q0I (by omega) (by omega)]
 rfl
def qc6 (ha:a≤100) (hb:b≤100) (hc:c≤100):q2S n a b c d 6000=some ⟨24,none,(List.range a).map fun j=>.ow (j+10000) none 0 n,false⟩:=by
 unfold q2S; rw [q14]; simp
def qc5 (ha:a≤100) (hb:b≤100) (hc:c≤100):q2S n a b c d 6001=some ⟨137,none,(List.range b).map fun j=>.ow (j+20000) none 0 n,false⟩:=by
 unfold q2S; rw [q0I (by omega) (by omega),q14]; simp
def qc4 (ha:a≤100) (hb:b≤100) (hc:c≤100):q2S n a b c d 6002=some ⟨24,none,(List.range c).map fun j=>.ow (j+30000) none 0 n,false⟩:=by
 unfold q2S; rw [q0I (by omega) (by omega),q0I (by omega) (by omega),q14]; simp
def qc3 (ha:a≤100) (hb:b≤100) (hc:c≤100):q2S n a b c d 6003=some ⟨137,none,(List.range d).map fun j=>.ow (j+40000) none 0 n,false⟩:=by
 unfold q2S; rw [q0I (by omega) (by omega),q0I (by omega) (by omega),q0I (by omega) (by omega),q14]; simp
def qgB {j:Nat}:List.replicate n (PV.vl (.int .u64 0))=rU n (fun _ _=>0) j:=by
 unfold rU;rw [List.map_const',List.length_range]; rfl
def qpt {j:Nat}:List.replicate n (PV.vl (.bool false))=rB n (fun _ _=>false) j:=by
 unfold rB;rw [List.map_const',List.length_range]
def tnS (o i:Nat):Option Nat:=if i=5000 then some o else if i=5001 then none else some i
def qof {o i:Nat} (h:i < 5000):tnS o i=some i:=by unfold tnS; rw [if_neg (by omega),if_neg (by omega)]
def q5m {o i:Nat} (h:6000≤i):tnS o i=some i:=by unfold tnS; rw [if_neg (by omega),if_neg (by omega)]
def qog {o:Nat}:tnS o 5000=some o:=rfl
def qkU {o:Nat}:tnS o 5001=none:=rfl
attribute [go_sem ↓] qof qog qkU
def qfk {J:Nat→Prop} {s:Nat→PV} {h:Hp} {xs kv:List (Nat × PV)} {bs:List (Nat × Bk)} {kb:List (Nat × Option Bk)} {o:Nat} (hn:n≤100) (hS:S.rows=[]) (hJ:∀ i,¬ J i) (hq:∀ i,6000≤i→win i→h i=stT n S i) (h0:h o=some ⟨136,some 5,[.ag [q05,.ow 6000 none 0 n,.ow 6001 none 0 n,.ow 6002 none 0 n,.ow 6003 none 0 n]],false⟩) (ho:o < 5000) (hl:nmW o o (bs.map (·.1) ++ kb.map (·.1)))
  (hh:q4e (tnS o) h (q0m (q0i n S 5001) (hpM bs kb)) s xs∧q4e (tnS o) h (q0m (q0i n S 5001) (hpM bs kb)) s kv∧qbl (tnS o) h (q0m (q0i n S 5001) (hpM bs kb)) bs∧q8W (tnS o) h (q0m (q0i n S 5001) (hpM bs kb)) kb):Le J s h (stM xs kv) (q0m (q0i n S 5001) (hpM bs kb)):=by
 have hl:=fun i hi=>q4H hl i hi;have hex:∀ i,win i→∀ b,q0i n S 5001 i=some b→∃ b,q0m (q0i n S 5001) (hpM bs kb) i=some b:=fun i hi b hb=>⟨b,by rw [q0T hi]; exact hb⟩;refine LeT (tnS o) (fun i q=>(hJ i q).elim) (fun i hi hw=>?_) (fun i b hw hb=>?_) (fun i j k' hi hj ti tj=>?_) hh
 ·have:=(hl i hi).1; unfold win at hw; omega
 ·have hb2:=hb;unfold q0i q0O at hb
  split at hb
  ·rename_i e; subst e; cases hb;unfold LeB;rw [qkU,hS]
   rfl
  ·rename_i e
   split at hb
   ·rename_i e2; subst e2; cases hb;unfold LeB;rw [qog];refine ⟨_,h0,rfl,rfl,⟨rfl,rfl⟩,?_⟩;unfold q2c;simp only;rw [q9R];obtain ⟨q1,q2,q3,q4⟩:=qkd (S:=S) hn;have hx:∀ i,6000≤i→win i→stT n S i≠none→∃ b,q0m (q0i n S 5001) (hpM bs kb) i=some b:=fun i hi hw hq=>by
     obtain ⟨b,hb⟩:=Option.ne_none_iff_exists'.1 hq;exact hex i hw b (by unfold q0i; rw [q0A (by omega),q0A (by omega)]; exact hb)
    rw [qfG,q2j,q2j,q2j,q2j,q2j,qjl,q3C,q3C,q3C,q3C,qkU,q5m (by omega),q5m (by omega),q5m (by omega),q5m (by omega),hS];exact ⟨⟨rfl,⟨_,by rw [q0T ⟨by omega,by omega⟩]; exact q0J,rfl⟩,rfl,rfl⟩,⟨rfl,hx _ (by omega) ⟨by omega,by omega⟩ q1,rfl,rfl,rfl⟩,⟨rfl,hx _ (by omega) ⟨by omega,by omega⟩ q2,rfl,rfl,rfl⟩,⟨rfl,hx _ (by omega) ⟨by omega,by omega⟩ q3,rfl,rfl,rfl⟩,⟨rfl,hx _ (by omega) ⟨by omega,by omega⟩ q4,rfl,rfl,rfl⟩,trivial⟩
   ·obtain ⟨q1,q2,q3⟩:=(q7b hn).b i b hb;have hi6:=q96 hb;unfold LeB;rw [q5m hi6];refine ⟨b,(hq i hi6 hw).trans hb,rfl,rfl,⟨q2,q2⟩,LeL_self (fun j hj=>?_) _ q3⟩;obtain ⟨c,hc⟩:=Option.ne_none_iff_exists'.1 hj;have hj6:=q96 hc;exact ⟨q5m hj6,hex j ((q7b hn).b j c hc).1 c (by unfold q0i; rw [q0A (by omega),q0A (by omega)]; exact hc)⟩
 ·have a:∀ i,(win i∧q0i n S 5001 i≠none∨i ∈ bs.map (·.1) ++ kb.map (·.1))→i≠o:=fun i hi=>by
   rcases hi with ⟨q,hi⟩ | hi
   ·unfold win at q; omega
   ·exact (hl i hi).2.1
  have a1:=a i hi;have a2:=a j hj;unfold tnS at ti tj
  split at ti <;> (try split at ti) <;> split at tj <;> (try split at tj) <;> cases ti <;> cases tj <;> first | omega | rfl | exact (a1 rfl).elim | exact (a2 rfl).elim
def qkf {τ:Nat→Option Nat} {h h':Hp} (hn:n≤100) (hq:Wn h (q0i n S 5001)) (ht:∀ i j,τ i=some j→5000 < j→win j→h' i=none):LeV τ h h' (.ow 5001 none 0 S.rows.length) (pRw S.rows)∧LeV τ h h' (.ow 6000 none 0 n) (tU n S.l)∧LeV τ h h' (.ow 6001 none 0 n) (tB n S.iL)∧LeV τ h h' (.ow 6002 none 0 n) (tU n S.u)∧LeV τ h h' (.ow 6003 none 0 n) (tB n S.iU):=by
 have hT:∀ i,6000≤i→win i→h i=stT n S i:=fun i h1 h2=>by
  rw [hq i h2];unfold q0i;rw [q0A (by omega),q0A (by omega)]
 have w:∀ R j:Nat,5000≤R→R≤40000→j < n→win (j+R):=fun R j h1 h2 h3=>⟨by omega,by omega⟩;refine ⟨qai (T:=3) (l:=S.rows.map fun z:Nat=>iv z) ((hq 5001 ⟨by omega,by omega⟩).trans q0J) clRw (fun i hi=>ht i _ hi (by omega) ⟨by omega,by omega⟩) (by rw [List.drop_zero]; exact List.take_of_length_le (by simp)),?_,?_,?_,?_⟩
 ·exact q6V (fun _=>n) ((hT _ (by omega) ⟨by omega,by omega⟩).trans (qij hn)) (fun j hj=>⟨(hT _ (by omega) (w _ j (by omega) (by omega) hj)).trans (qif hn hj),q6F,by simp⟩) fun i j hi hj=>ht i j hi (by omega) ⟨by omega,by omega⟩
 ·exact q6V (fun _=>n) ((hT _ (by omega) ⟨by omega,by omega⟩).trans (qii hn)) (fun j hj=>⟨(hT _ (by omega) (w _ j (by omega) (by omega) hj)).trans (qie hn hj),qbv,by simp⟩) fun i j hi hj=>ht i j hi (by omega) ⟨by omega,by omega⟩
 ·exact q6V (fun _=>n) ((hT _ (by omega) ⟨by omega,by omega⟩).trans (qih hn)) (fun j hj=>⟨(hT _ (by omega) (w _ j (by omega) (by omega) hj)).trans (qid hn hj),q6F,by simp⟩) fun i j hi hj=>ht i j hi (by omega) ⟨by omega,by omega⟩
 ·exact q6V (fun _=>n) ((hT _ (by omega) ⟨by omega,by omega⟩).trans (qig hn)) (fun j hj=>⟨(hT _ (by omega) (w _ j (by omega) (by omega) hj)).trans (qic hn hj),qbv,by simp⟩) fun i j hi hj=>ht i j hi (by omega) ⟨by omega,by omega⟩
def tnW (i:Nat):Option Nat:=if 5000≤i∧i < 1000000 then none else some i
def qod {i:Nat} (h:i < 5000):tnW i=some i:=if_neg Oq
def qcM {i:Nat} (h1:5000≤i) (h2:i < 1000000):tnW i=none:=if_pos ⟨h1,h2⟩
attribute [go_sem ↓] qod qcM
def qk7 {i:Nat} {x:Bk} (hb:q2S n 0 0 0 0 i=some x):x.xs=[]:=by
 unfold q2S at hb
 rcases q0j hb with ⟨rfl,rfl⟩ | ⟨_,h1,h2,_⟩ | ⟨_,_,hb⟩
 ·rfl
 ·omega
 rcases q0j hb with ⟨rfl,rfl⟩ | ⟨_,h1,h2,_⟩ | ⟨_,_,hb⟩
 ·rfl
 ·omega
 rcases q0j hb with ⟨rfl,rfl⟩ | ⟨_,h1,h2,_⟩ | ⟨_,_,hb⟩
 ·rfl
 ·omega
 rcases q0j hb with ⟨rfl,rfl⟩ | ⟨_,h1,h2,_⟩ | ⟨_,_,hb⟩
 ·rfl
 ·omega
 ·cases hb
def qlk {H:Hp}:WfH (q7Q H):=⟨fun i b hb=>by
 unfold q7Q at hb;obtain ⟨c,_,rfl⟩:=Option.map_eq_some_iff.1 hb;exact ⟨rfl,IdL.of fun x hx=>by
  obtain ⟨_,_,rfl⟩:=List.mem_map.1 hx;unfold IdP; trivial⟩⟩
attribute [go_sem ↓] qk8 qc6 qc5 qc4 qc3
end
section
variable {F:Nat→Nat→Option Nat} {n:Nat} {cols:List Int} {num den:Nat}
def qgW (h:TOk F n n) (hn:n≤100) (hp:q2C cols n) (hnd:num≤den) (hd1:1≤den) (hd:den≤1000):ACt 54 [pT n n F,pI cols,iv num,iv den] (facP F (tM F n n).2.1 n cols num den):=by
 have hll:cols.length=n:=by have:=hp.1; omega
 have hlf:∀ i,i < n→∃ x:Nat,cols[i]?=some (x:Int)∧lfN cols i=x∧x < n:=fun i hi=>by
  obtain ⟨x,hx⟩:∃ x,cols[i]?=some x:=⟨_,List.getElem?_eq_getElem Oq⟩;have:=hp.2.1 x (List.mem_of_getElem? hx);obtain ⟨y,rfl⟩:∃ y:Nat,x=y:=⟨x.toNat,by omega⟩;exact ⟨y,hx,qlZ hx,by omega⟩
 have cS:=qax h hp;have cC:=fun {S:LuS} {k j:Nat} (h1:LuG n k S) (h2:k < n) (h3:j < n)=>qhi (F:=F) (S:=S) (num:=num) (den:=den) h hn h1.l h1.u h1.r h1.len h2 h3 Oq hd;have hC:=Hid.mk @cC;clear cC;have hpl:pT n n F=q5e n n (tM F n n).1 (tM F n n).2.1 (tM F n n).2.2:=rfl;rw [hpl] at cS ⊢;simp only [hpl] at hC;clear hpl;unfold q5e at cS hC ⊢;generalize (tM F n n).1=ms at *;generalize (tM F n n).2.1=mi at *;generalize (tM F n n).2.2=mv at *;have hG:=fun k=>q8z (F:=F) (mi:=mi) (n:=n) (cols:=cols) (num:=num) (den:=den) k;have hE:=fun k=>@qaP F mi n cols num den k;have hs:=fun k=>show q2z F mi n cols num den (k+1)=if (q2z F mi n cols num den k).1=0 then ((q5g F mi n (q2z F mi n cols num den k).2.2 (lfN cols k) k num den).1,if (q5g F mi n (q2z F mi n cols num den k).2.2 (lfN cols k) k num den).1=9 then k else 0,(q5g F mi n (q2z F mi n cols num den k).2.2 (lfN cols k) k num den).2) else q2z F mi n cols num den k from rfl
 have h0:q2z F mi n cols num den 0=(0,0,qgV):=rfl;unfold facP qoF;generalize q2z F mi n cols num den=C at *;have q1:¬ (num:Int) < 0:=by omega
 have q2:¬ (num:Int) > den:=by omega
 have q3:¬ (den:Int) < 1:=by omega
 have q4:¬ (den:Int) > 1000:=by omega
 refine ac0 Tryz.func54 Tryz.ntmps54 [.cell 8 26,.tmp 9,.tmp 10] ?_;refine wk1 (x4 q1 q2 q3 q4) ?_;refine q1a (LeT (hw:=q2S n 0 0 0 0) tnW (fun _ h=>h.elim) (fun i hi hw=>?_) (fun i b hw hb=>?_) (fun i j x hi hj ti tj=>?_) (xs:=[(1,pI cols),(2,iv num),(3,iv den),(4,.pt 4 0 0),(8,.pt 8 0 0),(9,iv 0),(10,iv 0),(12,iv n),(13,.pt 13 0 0),(14,iv 0)]) (kv:=[]) (bs:=[(4,⟨37,some 5,[.ag [iv n,iv n,pI ms,pI mi,pF mv]],false⟩),(8,⟨26,some 8,[.ag [q05,q05,q05,q05,q05,q05,q05,q05]],false⟩),(13,⟨136,some 5,[.ag [q05,.ow 6000 none 0 0,.ow 6001 none 0 0,.ow 6002 none 0 0,.ow 6003 none 0 0]],false⟩)]) (kb:=[]) ?_) ?_
 ·simp at hi;unfold win at hw;omega
 ·unfold LeB;rw [qcM hw.1 hw.2];exact qk7 hb
 ·unfold tnW at ti tj
  split at ti <;> split at tj <;> cases ti <;> cases tj <;> rfl
 ·try simp -implicitDefEqProofs (disch:=omega) only [go_sem,Nat.reduceEqDiff,Nat.reduceAdd,↓reduceIte]
 refine q00 (fun t=>t≤n) [1,2,3,4,8,9,10,12,13] [4,8] Lk Lk (fun t:Nat=>[(14,iv t)]) (fun t=>[(13,⟨136,some 5,[.ag [q05,.ow 6000 none 0 t,.ow 6001 none 0 t,.ow 6002 none 0 t,.ow 6003 none 0 t]],false⟩)]) (fun t=>q2S n t t t t) (fun t=>n-t) 0 (Nat.zero_le _) ?_ ?_
 ·refine LeW [] rfl rfl ?_ ?_ (by simp [q1N,q0z,win]) ?_
  ·exact Ow
  ·exact q1F (q3z Oq Oq Oq Oq)
  ·try refine Zz ?_
   rfl
 ·intro t ht
  by_cases hlt:t < n
  ·have hlt':(t:Int) < n:=by omega
   have hHn:=Hid.mk hn;clear hn;refine wk1 hlt' ?_;have hn:=hHn.o;refine A_sd [(1,3),(1,4)] q24 (by kernel_rfl) fun K hK=>?_;refine Zz1 @List.length_range ?_;refine hK _ _ ?_; clear hK K;refine q1a (q3w (T1:=24) (T2:=43) (K:=none) (N:=6000) (R:=10000) (n:=t) (o:=52) (r:=50) (l:=(rU n fun _ _=>0) t) (hw:=q2S n t t t t) (hw':=q2S n (t+1) t t t) (fun _ h=>h) q6F (fun _=>n) ?_ ?_ (fun i h1 h2=>?_) (qc6 Oq Oq Oq) ?_ (fun i h1 h2=>q2I h1 h2) (fun j hj=>by
    unfold q2S;exact q6Y (by omega)) (q3z (by omega) (by omega) (by omega) (by omega)) (q62 fun i hi=>by omega) ?_ (by omega) (by omega) (by omega) (by omega) (by omega) (by omega) (xs:=[(1,pI cols),(2,iv num),(3,iv den),(4,.pt 4 0 0),(8,.pt 8 0 0),(9,iv 0),(10,iv 0),(12,iv n),(13,.pt 13 0 0),(14,iv t)]) (kv:=[]) (bs:=[(4,⟨37,some 5,[.ag [iv n,iv n,pI ms,pI mi,pF mv]],false⟩),(8,⟨26,some 8,[.ag [q05,q05,q05,q05,q05,q05,q05,q05]],false⟩),(13,⟨136,some 5,[.ag [q05,.ow 6000 none 0 (t+1),.ow 6001 none 0 t,.ow 6002 none 0 t,.ow 6003 none 0 t]],false⟩)]) (kb:=[]) (by simp [nmW]) ?_) ?_
   ·try simp -implicitDefEqProofs (disch:=omega) only [go_sem,Nat.reduceEqDiff,Nat.reduceAdd,↓reduceIte]
   ·try refine Zz ?_
    rw [qgB (j:=t)]
   ·obtain ⟨w1,w2⟩:=h1
    repeat rw [q0A (by omega)]
    rw [q0T ⟨w1,w2⟩]
   ·unfold q2S;rw [q1H (by omega) (by omega)]
   ·unfold q2S;rw [q0I (by omega) (by omega),q0I (by omega) (by omega),q0I (by omega) (by omega),q0I (by omega) (by omega)]
    rfl
   ·try simp -implicitDefEqProofs (disch:=omega) only [go_sem,Nat.reduceEqDiff,Nat.reduceAdd,↓reduceIte]
   refine A_sd [(1,3),(1,4)] q24 (by kernel_rfl) fun K hK=>?_;refine Zz1 @List.length_range ?_;refine hK _ _ ?_; clear hK K;refine q1a (q3w (T1:=137) (T2:=4) (K:=none) (N:=6001) (R:=20000) (n:=t) (o:=59) (r:=57) (l:=(rB n fun _ _=>false) t) (hw:=q2S n (t+1) t t t) (hw':=q2S n (t+1) (t+1) t t) (fun _ h=>h) qbv (fun _=>n) ?_ ?_ (fun i h1 h2=>?_) (qc5 Oq Oq Oq) ?_ (fun i h1 h2=>q1c (q2I h1 h2)) (fun j hj=>by
    unfold q2S;rw [q0I (by omega) (by omega)];exact q6Y (by omega)) (q3z (by omega) (by omega) (by omega) (by omega)) (q62 fun i hi=>by omega) ?_ (by omega) (by omega) (by omega) (by omega) (by omega) (by omega) (xs:=[(1,pI cols),(2,iv num),(3,iv den),(4,.pt 4 0 0),(8,.pt 8 0 0),(9,iv 0),(10,iv 0),(12,iv n),(13,.pt 13 0 0),(14,iv t)]) (kv:=[]) (bs:=[(4,⟨37,some 5,[.ag [iv n,iv n,pI ms,pI mi,pF mv]],false⟩),(8,⟨26,some 8,[.ag [q05,q05,q05,q05,q05,q05,q05,q05]],false⟩),(13,⟨136,some 5,[.ag [q05,.ow 6000 none 0 (t+1),.ow 6001 none 0 (t+1),.ow 6002 none 0 t,.ow 6003 none 0 t]],false⟩)]) (kb:=[]) (by simp [nmW]) ?_) ?_
   ·try simp -implicitDefEqProofs (disch:=omega) only [go_sem,Nat.reduceEqDiff,Nat.reduceAdd,↓reduceIte]
   ·try refine Zz ?_
    rw [qpt (j:=t)]
   ·obtain ⟨w1,w2⟩:=h1
    repeat rw [q0A (by omega)]
    rw [q0T ⟨w1,w2⟩]
   ·unfold q2S;rw [q0I (by omega) (by omega),q1H (by omega) (by omega)]
   ·unfold q2S;rw [q0I (by omega) (by omega),q0I (by omega) (by omega),q0I (by omega) (by omega),q0I (by omega) (by omega)]
    rfl
   ·try simp -implicitDefEqProofs (disch:=omega) only [go_sem,Nat.reduceEqDiff,Nat.reduceAdd,↓reduceIte]
   refine A_sd [(1,3),(1,4)] q24 (by kernel_rfl) fun K hK=>?_;refine Zz1 @List.length_range ?_;refine hK _ _ ?_; clear hK K;refine q1a (q3w (T1:=24) (T2:=43) (K:=none) (N:=6002) (R:=30000) (n:=t) (o:=66) (r:=64) (l:=(rU n fun _ _=>0) t) (hw:=q2S n (t+1) (t+1) t t) (hw':=q2S n (t+1) (t+1) (t+1) t) (fun _ h=>h) q6F (fun _=>n) ?_ ?_ (fun i h1 h2=>?_) (qc4 Oq Oq Oq) ?_ (fun i h1 h2=>q1c (q1c (q2I h1 h2))) (fun j hj=>by
    unfold q2S;rw [q0I (by omega) (by omega)];rw [q0I (by omega) (by omega)];exact q6Y (by omega)) (q3z (by omega) (by omega) (by omega) (by omega)) (q62 fun i hi=>by omega) ?_ (by omega) (by omega) (by omega) (by omega) (by omega) (by omega) (xs:=[(1,pI cols),(2,iv num),(3,iv den),(4,.pt 4 0 0),(8,.pt 8 0 0),(9,iv 0),(10,iv 0),(12,iv n),(13,.pt 13 0 0),(14,iv t)]) (kv:=[]) (bs:=[(4,⟨37,some 5,[.ag [iv n,iv n,pI ms,pI mi,pF mv]],false⟩),(8,⟨26,some 8,[.ag [q05,q05,q05,q05,q05,q05,q05,q05]],false⟩),(13,⟨136,some 5,[.ag [q05,.ow 6000 none 0 (t+1),.ow 6001 none 0 (t+1),.ow 6002 none 0 (t+1),.ow 6003 none 0 t]],false⟩)]) (kb:=[]) (by simp [nmW]) ?_) ?_
   ·try simp -implicitDefEqProofs (disch:=omega) only [go_sem,Nat.reduceEqDiff,Nat.reduceAdd,↓reduceIte]
   ·try refine Zz ?_
    rw [qgB (j:=t)]
   ·obtain ⟨w1,w2⟩:=h1
    repeat rw [q0A (by omega)]
    rw [q0T ⟨w1,w2⟩]
   ·unfold q2S;rw [q0I (by omega) (by omega),q0I (by omega) (by omega),q1H (by omega) (by omega)]
   ·unfold q2S;rw [q0I (by omega) (by omega),q0I (by omega) (by omega),q0I (by omega) (by omega),q0I (by omega) (by omega)]
    rfl
   ·try simp -implicitDefEqProofs (disch:=omega) only [go_sem,Nat.reduceEqDiff,Nat.reduceAdd,↓reduceIte]
   refine A_ld [(1,3),(1,4)] q24 (by kernel_rfl) fun K9 hK9=>?_;refine Zz1 @List.length_range ?_;refine hK9 _ _ ?_; clear hK9 K9
   repeat (first | refine i_n ?_ | refine q_n ?_)
   refine q1a (q3w (T1:=137) (T2:=4) (K:=none) (N:=6003) (R:=40000) (n:=t) (o:=73) (r:=71) (l:=(rB n fun _ _=>false) t) (hw:=q2S n (t+1) (t+1) (t+1) t) (hw':=q2S n (t+1) (t+1) (t+1) (t+1)) (fun _ h=>h) qbv (fun _=>n) ?_ ?_ (fun i h1 h2=>?_) (qc3 Oq Oq Oq) ?_ (fun i h1 h2=>q1c (q1c (q1c (q2I h1 h2)))) (fun j hj=>by
    unfold q2S;rw [q0I (by omega) (by omega)];rw [q0I (by omega) (by omega)];rw [q0I (by omega) (by omega)];exact q6Y (by omega)) (q3z (by omega) (by omega) (by omega) (by omega)) (q62 fun i hi=>by omega) ?_ (by omega) (by omega) (by omega) (by omega) (by omega) (by omega) (xs:=[(1,pI cols),(2,iv num),(3,iv den),(4,.pt 4 0 0),(8,.pt 8 0 0),(9,iv 0),(10,iv 0),(12,iv n),(13,.pt 13 0 0),(14,iv t)]) (kv:=[]) (bs:=[(4,⟨37,some 5,[.ag [iv n,iv n,pI ms,pI mi,pF mv]],false⟩),(8,⟨26,some 8,[.ag [q05,q05,q05,q05,q05,q05,q05,q05]],false⟩),(13,⟨136,some 5,[.ag [q05,.ow 6000 none 0 (t+1),.ow 6001 none 0 (t+1),.ow 6002 none 0 (t+1),.ow 6003 none 0 (t+1)]],false⟩)]) (kb:=[]) (by simp [nmW]) ?_) ?_
   ·try simp -implicitDefEqProofs (disch:=omega) only [go_sem,Nat.reduceEqDiff,Nat.reduceAdd,↓reduceIte]
   ·try refine Zz ?_
    rw [qpt (j:=t)]
   ·obtain ⟨w1,w2⟩:=h1
    repeat rw [q0A (by omega)]
    rw [q0T ⟨w1,w2⟩]
   ·unfold q2S;rw [q0I (by omega) (by omega),q0I (by omega) (by omega),q0I (by omega) (by omega),q1H (by omega) (by omega)]
   ·unfold q2S;rw [q0I (by omega) (by omega),q0I (by omega) (by omega),q0I (by omega) (by omega),q0I (by omega) (by omega)]
    rfl
   ·try simp -implicitDefEqProofs (disch:=omega) only [go_sem,Nat.reduceEqDiff,Nat.reduceAdd,↓reduceIte]
   refine wk ?_;refine ⟨t+1,by omega,by omega,?_⟩;refine LeW [] rfl rfl ?_ ?_ (by simp [q1N,q0z,win]) ?_
   ·exact Ow
   ·exact q1F (q3z Oq Oq Oq Oq)
   ·try refine Zz ?_
    rfl
  ·obtain rfl:n=t:=by omega
   have hlt':¬ (n:Int) < n:=by omega
   refine wk1 hlt' ?_;refine q1a (qfk (S:=qgV) (o:=13) hn rfl (fun _ h=>h) (fun i h6 hw=>?_) ?_ (by omega) (xs:=[(1,pI cols),(2,iv num),(3,iv den),(4,.pt 4 0 0),(8,.pt 8 0 0),(9,iv 0),(10,iv 0),(12,iv n),(13,.pt 5000 0 0),(15,iv 0)]) (kv:=[]) (bs:=[(4,⟨37,some 5,[.ag [iv n,iv n,pI ms,pI mi,pF mv]],false⟩),(8,⟨26,some 8,[.ag [q05,q05,q05,q05,q05,q05,q05,q05]],false⟩)]) (kb:=[]) (by simp [nmW]) ?_) ?_
   ·rw [q0T hw,qpI]
   ·try simp -implicitDefEqProofs (disch:=omega) only [go_sem,Nat.reduceEqDiff,Nat.reduceAdd,↓reduceIte]
   ·try simp -implicitDefEqProofs (disch:=omega) only [go_sem,Nat.reduceEqDiff,Nat.reduceAdd,↓reduceIte]
   refine q00 (fun k=>k≤n∧(C k).1=0) [1,2,3,4,8,9,10,12,13] [4,8] Lk Lk (fun k:Nat=>[(15,iv k)]) (fun _=>[]) (fun k=>q0i n (C k).2.2 5001) (fun k=>n-k) 0 ⟨Nat.zero_le _,by rw [h0]⟩ ?_ ?_
   ·rw [h0];refine LeW [] rfl rfl ?_ ?_ (by simp [q1N,q0z,win]) ?_
    ·exact Ow
    ·exact q1F (q02 hn Oq Oq)
    ·try refine Zz ?_
     rfl
   ·rintro k ⟨hk,hk0⟩;have hGk:=hG k hk0
    by_cases hkn:k < n
    ·have hkn':(k:Int) < n:=by omega
     obtain ⟨x,hx,hx2,hx3⟩:=hlf k hkn;have hsk:=hs k;rw [if_pos hk0,hx2] at hsk;have hEk:=hE (k+1);have cX:=hC.o hGk hkn hx3;have hce:=qr0 (F:=F) (mi:=mi) (n:=n) (S:=(C k).2.2) (j:=x) (k:=k) (num:=num) (den:=den);obtain ⟨e,he⟩:∃ e,e=(q5g F mi n (C k).2.2 x k num den).1:=⟨_,rfl⟩;have hcO:qr1 F mi n (C k).2.2 x k num den=if e=0 then q0i n (q5g F mi n (C k).2.2 x k num den).2 5002 else q7Q (q7R (q0i n (C k).2.2 5001) 5001):=by rw [he]; rfl
     generalize qr1 F mi n (C k).2.2 x k num den=O at *;rw [← he] at hce hsk cX;generalize (q5g F mi n (C k).2.2 x k num den).2=r at *;generalize (C k).2.2=S at *;have hgo:∀ i,qb4 (q0i n S 5001) O i→i=5001:=fun i ⟨h1,h2,h3⟩=>by
      refine Classical.byContradiction fun hi=>h2 ?_;have hS:i≠5000∧stT n S i=none→q0i n S 5001 i=none:=fun h=>by unfold q0i; rw [q0A hi,q0A h.1]; exact h.2
      rw [hcO] at h3
      split at h3
      ·obtain ⟨q1,q2,q3⟩:=qke h3;exact hS ⟨q2,qpL q3⟩
      ·unfold q7Q q7R at h3;rw [if_neg hi] at h3;exact Option.map_eq_none_iff.1 h3
     have hO5:∃ b,O 5000=some b:=by
      rw [hcO]
      split
      ·exact ⟨_,by unfold q0i; rw [q0A (by omega),q0J]⟩
      ·exact ⟨_,by unfold q7Q q7R q0i; rw [if_neg (by omega),q0A (by omega),q0J]; rfl⟩
     have hwO:WfH O:=by
      rw [hcO]
      split
      ·exact q1F (q02 hn Oq Oq)
      ·exact qlk
     refine wk1 hkn' ?_;refine A_jW [(1,pI cols),(2,iv num),(3,iv den),(4,.pt 4 0 0),(8,.pt 8 0 0),(9,iv 0),(10,iv 0),(12,iv n),(13,.pt 5000 0 0),(15,iv k),(16,iv e)] [(4,⟨37,some 5,[.ag [iv n,iv n,pI ms,pI mi,pF mv]],false⟩),(8,⟨26,some 8,[.ag [q05,q05,q05,q05,q05,q05,q05,q05]],false⟩)] O ?_ fun K0 fin=>?_
     rotate_left
     ·refine q6L q24 (.one 1 (.one 2 (.one 3 (.one 5 (.one 6 (.one 7 (.alt (.one 0 (.one 4 (.one 8 (.one 9 .fin)))) (.one 4 (.one 0 (.one 8 (.one 9 .fin))))))))))) (by kernel_rfl) fun K9 hK9=>?_;refine Zz1 hx ?_;refine ⟨?_,?_⟩
      ·refine jx cX q3Q (fun _ h=>h.elim) (qiP (a:=5001) hgo ?_ ?_) ?_
       ·repeat (refine qag ?_ (by first | (unfold IdP; first | trivial | omega) | simp [IdP,IdL]))
        exact fun t=>by unfold stV IdP; trivial
       ·repeat (refine qam ?_ rfl (by simp [IdL,IdP]))
        exact qiO (qfK (by simp [IdL,IdP]) (by simp))
       ·try refine Zz ?_
        refine hK9 _ _ (fin _ _ ?_);refine LeW [] rfl rfl ?_ ?_ (by simp [q1N,q0z,win]) ?_
        ·exact Ow
        ·exact hwO
        ·try refine Zz ?_
         exact hO5
      ·refine jx cX q3Q (fun _ h=>h.elim) (qiP (a:=5001) hgo ?_ ?_) ?_
       ·repeat (refine qag ?_ (by first | (unfold IdP; first | trivial | omega) | simp [IdP,IdL]))
        exact fun t=>by unfold stV IdP; trivial
       ·repeat (refine qam ?_ rfl (by simp [IdL,IdP]))
        exact qiO (qfK (by simp [IdL,IdP]) (by simp))
       ·try refine Zz ?_
        refine hK9 _ _ (fin _ _ ?_);refine LeW [] rfl rfl ?_ ?_ (by simp [q1N,q0z,win]) ?_
        ·exact Ow
        ·exact hwO
        ·try refine Zz ?_
         exact hO5
     ·have herr:e≠0→C n=(e,if e=9 then k else 0,r):=fun h=>by rw [hEk (by rw [hsk]; exact h) n (by omega),hsk]
      by_cases e0:e=0
      ·subst e0;rw [if_pos rfl] at hcO;subst hcO;have hskr:(C (k+1)).2.2=r:=by rw [hsk]
       have hGr:=hG (k+1) (by rw [hsk]);rw [hskr] at hGr;refine q1a (q97 (S:=r) (o:=5002) (r:=5001) hn (by omega) (by omega) (fun _ h=>h.elim) (fun i h6 hw=>?_) ?_ ?_ (.inr (by omega)) (xs:=[(1,pI cols),(2,iv num),(3,iv den),(4,.pt 4 0 0),(8,.pt 8 0 0),(9,iv 0),(10,iv 0),(12,iv n),(13,.pt 5000 0 0),(15,iv k),(16,iv 0)]) (kv:=[]) (bs:=[(4,⟨37,some 5,[.ag [iv n,iv n,pI ms,pI mi,pF mv]],false⟩),(8,⟨26,some 8,[.ag [q05,q05,q05,q05,q05,q05,q05,q05]],false⟩)]) (kb:=[]) (by simp [nmW]) ?_) ?_
       ·rw [q0T hw];unfold q0i;rw [q0A (by omega),q0A (by omega)]
       ·rw [q0T ⟨by omega,by omega⟩];unfold q0i;rw [q0A (by omega),q0J]
       ·rw [q0T ⟨by omega,by omega⟩];unfold q0i;rw [q0J]
       ·try simp -implicitDefEqProofs (disch:=omega) only [go_sem,Nat.reduceEqDiff,Nat.reduceAdd,↓reduceIte]
       have b1:((0:Int) == 9)=false:=rfl;have b2:((0:Int) != 0)=false:=rfl;refine wk1 (x2 b1 b2) ?_;refine ⟨k+1,⟨by omega,by rw [hsk]⟩,by omega,?_⟩;rw [hskr];refine LeW [] rfl rfl ?_ ?_ (by simp [q1N,q0z,win]) ?_
       ·exact Ow
       ·exact q1F (q02 hn Oq Oq)
       ·try refine Zz ?_
        first | rfl | exact Int.natCast_succ k | (push_cast; rfl) | simp
      ·have hne:=herr e0;rw [hne];simp only;rw [if_neg e0,if_neg e0];unfold pLU;dsimp only
       by_cases e9:e=9
       ·have b1:(e == 9)=true:=by simpa using e9
        rw [if_pos e9];exact wk1 b1 trivial
       ·have b1:(e == 9)=false:=by simpa using e9
        have b2:(e != 0)=true:=by simpa using e0
        rw [if_neg e9,show ((0:Nat):Int)=0 from rfl];exact wk1 (x2 b1 b2) trivial
    ·obtain rfl:n=k:=by omega
     have hkn':¬ (n:Int) < n:=by omega
     have cL:=qbc (S:=(C n).2.2) (cols:=cols) hn hll hGk.len hGk.r;rw [if_pos hk0,if_pos hk0,hk0];generalize (C n).2.2=S at *;generalize qq2 S cols n=lu at *;unfold pLU at cL ⊢;refine wk1 hkn' ?_;refine q1a (LeT (hw:=Go.E.h0) (tnU 1013 5000) (fun _ h=>h.elim) (fun i hi hw=>?_) (fun i b hw hb=>?_) (fun i j x hi hj ti tj=>?_) (xs:=[(1,pI cols),(8,.pt 8 0 0),(12,iv n),(13,.pt 1013 0 0)]) (kv:=[]) (bs:=[(8,⟨26,some 8,[.ag [q05,q05,q05,q05,q05,q05,q05,q05]],false⟩),(1013,⟨136,some 5,[pSt n S],false⟩)]) (kb:=[]) ?_) ?_
     ·simp at hi;unfold win at hw;omega
     ·cases hb
     ·have a:∀ i,(win i∧(Go.E.h0:Hp) i≠none∨i ∈ List.map (·.1) [(8,⟨26,some 8,[.ag [q05,q05,q05,q05,q05,q05,q05,q05]],false⟩),(1013,(⟨136,some 5,[pSt n S],false⟩:Bk))] ++ [])→i≠5000:=fun i hi=>by
       rcases hi with ⟨_,hi⟩ | hi
       ·exact absurd rfl hi
       ·simp at hi; omega
      have a1:=a i hi;have a2:=a j hj;unfold tnU at ti tj
      split at ti <;> split at tj <;> cases ti <;> cases tj <;> first | omega | rfl | exact (a1 rfl).elim | exact (a2 rfl).elim
     ·try refine Zz ?_
      exact qkf hn q3Q fun i j hi hj hw=>by
       unfold tnU at hi
       split at hi
       ·cases hi; omega
       ·cases hi; rw [q0T hw]; rfl
     exact wk trivial
end
end Go.Proofs.YtjfjjmfhfbapeaaGreatDoor
namespace Go.Sp
open Go.E
end Go.Sp
namespace Go.Proofs.YtjfjjmfhfbapeaaGreatDoor
open Go Go.E Go.Sp
section
variable {l:List Nat} {f:FuncId}
def pe_fn {s:Nat→PV}:pe s (.func f)=.vl (.func (.func f) #[] #[]):=rfl
attribute [go_sem] pe_fn
end

end Go.Proofs.YtjfjjmfhfbapeaaGreatDoor
namespace Go.Sp
open Go.E Go.Proofs.YtjfjjmfhfbapeaaGreatDoor
def qdl {l:List Nat} {i:Nat} (h:q2X l):l.getD i 0 < 18446744073709551616∧q0Q (l.getD i 0):=q8u h
def q9r {f:Nat} (h:q0Q f):q0b (ofZ f):=by
 have:=q2w h;unfold q0b;omega
end Go.Sp
namespace Go.Proofs.YtjfjjmfhfbapeaaGreatDoor
open Go Go.E Go.Sp
def qqP {V:Int} (ho:q0b V):Nz (dT V):=fun w D B v hB h=>(q2s.2 (q9j (qjA w D B v hB (q8e (q2s.1 ⟨h,ho⟩))))).1
section
variable {x y:List Nat} {t:Nat}
end
end Go.Proofs.YtjfjjmfhfbapeaaGreatDoor
namespace Go.E
open Go Go.RowKit
section
variable {J:Nat→Prop} {s:Nat→PV} {h:Hp} {T1 T2:TypeId} {K:Kd} {N R n:Nat} {row:Nat→List PV}
def qcP (T1 T2:TypeId) (K:Kd) (N R n:Nat) (row:Nat→List PV):Hp:=fun i =>
 if i=N then some ⟨T1,none,(List.range n).map fun j=>.ow (j+R) K 0 (row j).length,false⟩
 else if R≤i∧i < R+n then some ⟨T2,K,row (i-R),false⟩ else none
def qov:qcP T1 T2 K N R n row N=some ⟨T1,none,(List.range n).map fun j=>.ow (j+R) K 0 (row j).length,false⟩:=if_pos rfl
def qi2 {j:Nat} (hN:N < R) (hj:j < n):qcP T1 T2 K N R n row (j+R)=some ⟨T2,K,row j,false⟩:=by
 unfold qcP;rw [if_neg (by omega),if_pos (by omega),Nat.add_sub_cancel]
attribute [go_sem ↓] qov qi2
def q72 {i:Nat} {b:Bk} (hb:qcP T1 T2 K N R n row i=some b):(i=N∧b=⟨T1,none,(List.range n).map fun j=>.ow (j+R) K 0 (row j).length,false⟩)∨(R≤i∧i < R+n∧b=⟨T2,K,row (i-R),false⟩):=by
 unfold qcP at hb
 split at hb
 ·cases hb; exact .inl ⟨‹_›,rfl⟩
 ·split at hb
  ·rename_i hi; cases hb; exact .inr ⟨hi.1,hi.2,rfl⟩
  ·cases hb
def tnG (N R n o:Nat):Nat→Option Nat:=fun i=>if i=N then some o else if R≤i∧i < R+n then none else some i
def qoh {o i:Nat} (h1:i < N) (h2:i < R):tnG N R n o i=some i:=by
 unfold tnG;rw [if_neg (by omega),if_neg (by omega)]
attribute [go_sem ↓] qoh
def qfh {o:Nat} (hJ:∀ i,¬ J i) (ho:h o=some ⟨T1,none,List.replicate n (.vl (.slice none 0 0)),false⟩) (h5:o < 5000) (hN:5000≤N) (hNR:N < R) (hR:R+n≤1000000) {xs kv:List (Nat × PV)} {kb:List (Nat × Option Bk)} (hn:nmW o o (kb.map (·.1)))
  (hh:q4e (tnG N R n o) h (q0m (qcP T1 T2 K N R n fun _=>[]) (hpM [] kb)) s xs∧q4e (tnG N R n o) h (q0m (qcP T1 T2 K N R n fun _=>[]) (hpM [] kb)) s kv∧q8W (tnG N R n o) h (q0m (qcP T1 T2 K N R n fun _=>[]) (hpM [] kb)) kb):Le J s h (stM xs kv) (q0m (qcP T1 T2 K N R n fun _=>[]) (hpM [] kb)):=by
 obtain ⟨h1,h2,h4⟩:=hh;have tN:tnG N R n o N=some o:=if_pos rfl;have tR:∀ i,R≤i→i < R+n→tnG N R n o i=none:=fun i a b=>by unfold tnG; rw [if_neg (by omega),if_pos ⟨a,b⟩]
 have tI:∀ i,i < 5000→tnG N R n o i=some i:=fun i a=>by unfold tnG; rw [if_neg (by omega),if_neg (by omega)]
 have key:∀ i b,q0m (qcP T1 T2 K N R n fun _=>[]) (hpM [] kb) i=some b→i=N∨(R≤i∧i < R+n)∨(i < 5000∧i≠o):=fun i b hb=>by
  by_cases hi:win i
  ·rw [q0T hi] at hb
   rcases q72 hb with ⟨e,_⟩ | ⟨q1,q2,_⟩
   ·exact .inl e
   ·exact .inr (.inl ⟨q1,q2⟩)
  ·rw [q1f hi] at hb;have:=q4H hn i (qaj h4 i b hb).2;exact .inr (.inr ⟨this.1,this.2.1⟩)
 refine q4d (tnG N R n o) (fun i b hb=>?_) (fun i j k' b c hi hj ti tj=>?_) (fun t=>q6K h2 h1 t) fun i hi=>(hJ i hi).elim
 ·by_cases hi:win i
  ·rw [q0T hi] at hb
   rcases q72 hb with ⟨rfl,rfl⟩ | ⟨q1,q2,rfl⟩
   ·unfold LeB;rw [tN];refine ⟨_,ho,rfl,rfl,⟨rfl,rfl⟩,?_⟩;rw [qlB];refine ⟨by simp,fun c x y hx hy=>?_⟩;have hc:c < n:=by have:=(List.getElem?_eq_some_iff.1 hy).1; simpa using this
    rw [List.getElem?_map,List.getElem?_range hc,Option.map_some] at hx hy;cases hx; cases hy;exact .nilow (tR _ (by omega) (by omega)) (by rw [q0T ⟨by omega,by omega⟩]; exact qi2 hNR hc) rfl
   ·unfold LeB;rw [tR i q1 q2]
  ·rw [q1f hi] at hb;exact (qaj h4 i b hb).1
 ·rcases key i b hi with rfl | ⟨a1,a2⟩ | ⟨a1,a2⟩ <;> rcases key j c hj with rfl | ⟨b1,b2⟩ | ⟨b1,b2⟩
  ·rfl
  ·rw [tR _ b1 b2] at tj; cases tj
  ·rw [tN] at ti; rw [tI _ b1] at tj; cases ti; cases tj; exact (b2 rfl).elim
  ·rw [tR _ a1 a2] at ti; cases ti
  ·rw [tR _ a1 a2] at ti; cases ti
  ·rw [tR _ a1 a2] at ti; cases ti
  ·rw [tI _ a1] at ti; rw [tN] at tj; cases ti; cases tj; exact (a2 rfl).elim
  ·rw [tR _ b1 b2] at tj; cases tj
  ·rw [tI _ a1] at ti; rw [tI _ b1] at tj; cases ti; cases tj; rfl
end
end Go.E
namespace Go.Sp
open Go.E Go.Proofs.YtjfjjmfhfbapeaaGreatDoor
def sg (g:Nat→Int):Nat→Int
 | 0=>0
 | n+1=>sg g n+g n
def q32 {g h:Nat→Int}:∀ n,(∀ i,i < n→g i=h i)→sg g n=sg h n
 | 0,_=>rfl
 | n+1,e=>by rw [sg,sg,q32 n fun i hi=>e i (by omega),e n (by omega)]
section
variable {f:Nat→Nat→Option Nat} {x:List Nat} {n J r:Nat} {rows:Nat→List Int}
def q3v (rows:Nat→List Int) (k:Nat) (z:Int):Nat→List Int:=fun j=>if j=k then rows k ++ [z] else rows j
def qbx {k:Nat} {z:Int}:q0v (q3v rows k z r)=q0v (rows r)+if r=k then z else 0:=by
 unfold q3v
 by_cases h:r=k
 ·subst h; rw [if_pos rfl,if_pos rfl,q2b]
 ·rw [if_neg h,if_neg h]; omega
def qfV {k m:Nat} {z:Int} (hl:∀ r,(rows r).length≤m) (hb:∀ r,∀ z ∈ rows r,bl z.natAbs≤67600) (hz:bl z.natAbs≤67600):(∀ r,(q3v rows k z r).length≤m+1)∧∀ r,∀ y ∈ q3v rows k z r,bl y.natAbs≤67600:=by
 unfold q3v;refine ⟨fun r=>?_,fun r y hy=>?_⟩
 ·have h1:=hl r; have h2:=hl k
  split
  ·simp; omega
  ·omega
 ·split at hy
  ·rcases List.mem_append.1 hy with hy | hy
   ·exact hb k y hy
   ·simp at hy; subst hy; exact hz
  ·exact hb r y hy
end
end Go.Sp
namespace Go.Proofs.YtjfjjmfhfbapeaaGreatDoor
open Go Go.E Go.Sp
def q3c {l:List Nat} {k v:Nat} (h:q2X l) (h1:v < 18446744073709551616) (h2:q0Q v):q2X (l.set k v):=fun x hx=>by
 rcases List.mem_or_eq_of_mem_set hx with h3 | rfl
 ·exact h x h3
 ·exact ⟨h1,h2⟩
def qeI {l:List Nat} {k:Nat} (h:q2X l):q2X (l.take k):=fun x hx=>h x (List.mem_of_mem_take hx)
def q7x {l:List Nat} {k:Nat} (h:q2X l):q2X (l.drop k):=fun x hx=>h x (List.mem_of_mem_drop hx)
def qgQ {u x:Int} (hu:u.natAbs≤9) (hx:x.natAbs≤9):q2D (flz u) (flz x)=u*x*(2:Int) ^ 65536:=by
 unfold q2D;rw [q0e (q4V Oq),q0e (q4V Oq),qgS rfl]
 ·rfl
 ·have:(u*x).natAbs≤81:=by rw [Int.natAbs_mul]; exact Nat.mul_le_mul hu hx
  have h:=q0N (n:=(u*x).natAbs) (k:=7) (Nat.lt_of_le_of_lt this Oq);omega
def q4g (V:Int):q0v [V]=V:=by have:=q2b [] V; rw [List.nil_append,q6Z] at this; omega
section
variable {f:Fac} {z:Nat→Int}
end
def loZ (D:Nat→Nat→Nat) (ys:List Nat) (k:Nat):Int:=ofZ (ys.getD k 0)-sg (fun c=>q2D (D k c) (ys.getD c 0)) k
def upZ (D:Nat→Nat→Nat) (ys:List Nat) (n k:Nat):Int:=ofZ (ys.getD k 0)-sg (fun i=>q2D (D k (k+1+i)) (ys.getD (k+1+i) 0)) (n-(k+1))
noncomputable def geL (D:Nat→Nat→Nat):Nat→Nat→List Nat→Option (List Nat)
 | 0,_,ys=>some ys
 | m+1,k,ys=>if q0Q (fR 0 (loZ D ys k)) then geL D m (k+1) (ys.set k (fR 0 (loZ D ys k))) else none
noncomputable def geU (D:Nat→Nat→Nat) (n:Nat):Nat→List Nat→Option (List Nat)
 | 0,ys=>some ys
 | k+1,ys=>if q0Q (fQ 0 (upZ D ys n k) (ofZ (D k k))) then geU D n k (ys.set k (fQ 0 (upZ D ys n k) (ofZ (D k k)))) else none
def qdm {D:Nat→Nat→Nat} {n:Nat}:∀ (m k:Nat) (ys zs:List Nat),ys.length=n→q2X ys→geL D m k ys=some zs→zs.length=n∧q2X zs
 | 0,k,ys,zs,h1,h2,h=>by unfold geL at h; cases h; exact ⟨h1,h2⟩
 | m+1,k,ys,zs,h1,h2,h=>by
  unfold geL at h
  split at h
  ·exact qdm m _ _ zs (by simpa using h1) (q3c h2 q7z (by assumption)) h
  ·cases h
def q30 (x:Int) (l:List Int):q0v (x :: l)=x+q0v l:=by
 have:∀ (l:List Int) (a:Int),l.foldl (·+·) a=a+l.foldl (·+·) 0:=fun l=>by
  induction l with
  | nil=>intro a; simp
  | cons y l ih=>intro a; simp only [List.foldl_cons]; rw [ih (a+y),ih (0+y)]; omega
 unfold q0v;rw [List.foldl_cons,this]; omega
def qcq {B:Int} {l x:List Nat}:∀ m,q0v (q7g B l x m)=B-sg (fun i=>q2D (l.getD i 0) (x.getD i 0)) m
 | 0=>by rw [q7g,q4g]; unfold sg; omega
 | m+1=>by rw [q7g,q2b,qcq m,show sg (fun i=>q2D (l.getD i 0) (x.getD i 0)) (m+1)=sg (fun i=>q2D (l.getD i 0) (x.getD i 0)) m+q2D (l.getD m 0) (x.getD m 0) from rfl]; omega
def ctE (L:List (Nat × Nat)) (r:Nat) (y:Nat):Int:=q0v (L.map fun e=>if e.1=r then q2D e.2 y else 0)
def ctV (L:List (Nat × Nat)) (r:Nat):Nat:=((L.find? fun e=>e.1 == r).map (·.2)).getD 0
def qqV {y:Nat}:q2D 0 y=0:=by
 unfold q2D;rw [q0e q9s,Int.zero_mul,q2V]; rfl
def qrW {L:List (Nat × Nat)} {r y:Nat} (h:∀ e ∈ L,e.1≠r):ctE L r y=0:=by
 unfold ctE
 induction L with
 | nil=>rfl
 | cons e L ih =>
  rw [List.map_cons,q30,if_neg (h e List.mem_cons_self),ih fun e he=>h e (List.mem_cons_of_mem _ he)]; rfl
def qrX {L:List (Nat × Nat)} {r y:Nat} (h:(L.map (·.1)).Nodup):ctE L r y=q2D (ctV L r) y:=by
 induction L with
 | nil=>unfold ctE ctV; simp [q6Z,qqV]
 | cons e L ih =>
  rw [List.map_cons,List.nodup_cons] at h
  by_cases he:e.1=r
  ·have h1:ctE L r y=0:=qrW fun e' he' hr=>h.1 (by rw [he,← hr]; exact List.mem_map_of_mem he');have h2:ctV (e :: L) r=e.2:=by unfold ctV; rw [List.find?_cons,show (e.1 == r)=true by simpa using he]; rfl
   rw [h2];unfold ctE at h1 ⊢;rw [List.map_cons,q30,if_pos he,h1]; omega
  ·have h2:ctV (e :: L) r=ctV L r:=by unfold ctV; rw [List.find?_cons,show (e.1 == r)=false by simpa using he]
   rw [h2,← ih h.2];unfold ctE;rw [List.map_cons,q30,if_neg he]; omega
structure ColS (n:Nat) (st ix:List Int) (vs:List Nat) (E:Nat→List (Nat × Nat)):Prop where
 len:ix.length≤1000000
 col:∀ k,k < n→∃ a:Nat,st[k]?=some (a:Int)∧st[k+1]?=some ((a+(E k).length:Nat):Int)∧a+(E k).length≤ix.length∧∀ (t:Nat) (e:Nat × Nat),(E k)[t]?=some e→ix[a+t]?=some (e.1:Int)∧vs[a+t]?=some e.2∧e.1 < n∧q0Q e.2∧e.2 < 18446744073709551616
 nd:∀ k,k < n→((E k).map (·.1)).Nodup
 sz:∀ k,k < n→(E k).length≤n
def dnH (n a c:Nat) (gl gu:Nat→Nat→Nat):Hp:=q1Y 24 43 none 6000 10000 a (rU n gl) (q1Y 24 43 none 6002 30000 c (rU n gu) h0)
def dnD (t:Nat):Nat→Nat→Nat:=fun i j=>if i=j∧i < t then 4607182418800017408 else 0
def enS (g:Nat→Nat→Nat) (k:Nat):List (Nat × Nat)→Nat→Nat→Nat
 | []=>g
 | e :: l=>enS (q3S g e.1 k e.2) k l
def dnT (g:Nat→Nat→Nat) (E:Nat→List (Nat × Nat)):Nat→Nat→Nat→Nat
 | 0=>g
 | k+1=>enS (dnT g E k) k (E k)
def q9A {k:Nat} {e:Nat × Nat}:∀ (l:List (Nat × Nat)) (g:Nat→Nat→Nat),enS g k (l ++ [e])=q3S (enS g k l) e.1 k e.2
 | [],_=>rfl
 | _ :: l,_=>q9A l _
def dnD_0 {n:Nat} {t:Nat}:rU n (dnD t) t=rU n (fun _ _=>0) t:=by
 unfold rU dnD;refine List.map_congr_left fun c _=>?_;rw [if_neg (by omega)]
def dnD_s {t:Nat}:q3S (dnD t) t t 4607182418800017408=dnD (t+1):=by
 funext i j
 unfold q3S dnD
 by_cases h:i=t∧j=t
 ·rw [if_pos h,if_pos (by omega)]
 ·rw [if_neg h]
  by_cases h2:i=j∧i < t
  ·rw [if_pos h2,if_pos (by omega)]
  ·rw [if_neg h2,if_neg (by omega)]
section
variable {n a c:Nat} {gl gu:Nat→Nat→Nat}
def q3A (ha:a≤100) (hc:c≤100):BOk (dnH n a c gl gu) win:=by
 unfold dnH;have w:∀ R j m:Nat,5000≤R→R≤40000→m≤100→j < m→win (j+R):=fun R j m h1 h2 h3 h4=>⟨by omega,by omega⟩;exact q1b (q1b BOk.h0 (fun _ _=>q6F) Oq ⟨⟨by omega,by omega⟩,fun j hj=>w _ j _ Oq Oq hc hj⟩) (fun _ _=>q6F) Oq ⟨⟨by omega,by omega⟩,fun j hj=>w _ j _ Oq Oq ha hj⟩
def qjX {q:Nat→Prop} (hq:∀ i,10000≤i→q i):HId q (dnH n a c gl gu):=by
 unfold dnH;exact qbm (qbm qtn (fun _ _=>q6F) fun j _=>hq _ Oq) (fun _ _=>q6F) fun j _=>hq _ Oq
def qrM {i:Nat} (hi:i < 6000):dnH n a c gl gu i=none:=by
 unfold dnH;rw [q0I (by omega) (by omega),q0I (by omega) (by omega)]
 rfl
def qjW:dnH n a c gl gu 6000=some ⟨24,none,(List.range a).map fun j=>.ow (j+10000) none 0 n,false⟩:=by
 unfold dnH; rw [q14]; simp
def q1g (ha:a≤100):dnH n a c gl gu 6002=some ⟨24,none,(List.range c).map fun j=>.ow (j+30000) none 0 n,false⟩:=by
 unfold dnH; rw [q0I (by omega) (by omega),q14]; simp
def qeZ {j:Nat} (hj:j < a):dnH n a c gl gu (j+10000)=some ⟨43,none,rU n gl j,false⟩:=by
 unfold dnH; rw [q1H (by omega) hj]
def qaV {j:Nat} (ha:a≤100) (hj:j < c):dnH n a c gl gu (j+30000)=some ⟨43,none,rU n gu j,false⟩:=by
 unfold dnH; rw [q0I (by omega) (by omega),q1H (by omega) hj]
def qrN {r m v:Nat} (hr:r < a):q0O (dnH n a c gl gu) (r+10000) ⟨43,none,(rU n gl r).set m (.vl (.int .u64 (v:Nat))),false⟩=dnH n a c (q3S gl r m v) gu:=by
 unfold dnH;rw [q2l (by omega) hr (by simp),q9g]
def dnH_u {r m v:Nat} (ha:a≤100) (hr:r < c):q0O (dnH n a c gl gu) (r+30000) ⟨43,none,(rU n gu r).set m (.vl (.int .u64 (v:Nat))),false⟩=dnH n a c gl (q3S gu r m v):=by
 unfold dnH;rw [q2R (by omega) (by omega),q2l (by omega) hr (by simp),q9g]
def qrL {i:Nat} {x:Bk} (hb:dnH n 0 0 gl gu i=some x):x.xs=[]:=by
 unfold dnH at hb
 rcases q0j hb with ⟨rfl,rfl⟩ | ⟨_,h1,h2,_⟩ | ⟨_,_,hb⟩
 ·rfl
 ·omega
 rcases q0j hb with ⟨rfl,rfl⟩ | ⟨_,h1,h2,_⟩ | ⟨_,_,hb⟩
 ·rfl
 ·omega
 ·cases hb
def qrP:q5h (dnH n n n gl gu) n 10000 none (fun _=>n)=some ((List.range n).map fun j=>.sl none (rU n gl j),(List.range n).map (·+10000)):=by
 unfold dnH;rw [q50 (by omega),cO,if_pos fun j _=>q6F]
 congr 2
 refine List.map_congr_left fun j _=>?_
 congr 1
 exact q83
def qrO (hn:n≤100):q5h (dnH n n n gl gu) n 30000 none (fun _=>n)=some ((List.range n).map fun j=>.sl none (rU n gu j),(List.range n).map (·+30000)):=by
 unfold dnH;rw [q4W (by omega) (by omega),q50 (by omega),cO,if_pos fun j _=>q6F]
 congr 2
 refine List.map_congr_left fun j _=>?_
 congr 1
 exact q83
attribute [go_sem ↓] qrM qjW qeZ qaV
def qhf {f:LUt} {EL EU:Nat→List (Nat × Nat)} (hr:f.rows.length=n) (hn:n≤100) (hL:ColS n f.ls f.li f.lv EL) (hU:ColS n f.us f.ui f.uv EU):ACt 69 [pLU f] (.tu [tU n (dnT (dnD n) EL n),tU n (dnT (fun _ _=>0) EU n)]):=by
 obtain ⟨ro,co,ls,li,lv,us,ui,vu⟩:=f;unfold pLU;dsimp only at *;refine ac0 Tryz.func69 Tryz.ntmps69 [.tmp 2,.tmp 3] ?_;refine wk1 hr ?_;refine q1a (LeT (hw:=dnH n 0 0 (dnD 0) fun _ _=>0) tnW (fun _ h=>h.elim) (fun i hi hw=>?_) (fun i b hw hb=>?_) (fun i j x hi hj ti tj=>?_) (xs:=[(1,.pt 1 0 0),(4,iv n),(5,.ow 6000 none 0 0),(6,.ow 6002 none 0 0),(7,iv 0)]) (kv:=[]) (bs:=[(1,⟨26,some 8,[.ag [pI ro,pI co,pI ls,pI li,pF lv,pI us,pI ui,pF vu]],false⟩)]) (kb:=[]) ?_) ?_
 ·simp at hi;unfold win at hw;omega
 ·unfold LeB;rw [qcM hw.1 hw.2];exact qrL hb
 ·unfold tnW at ti tj
  split at ti <;> split at tj <;> cases ti <;> cases tj <;> rfl
 ·try refine Zz ?_
  exact ⟨_,q1g Oq,rfl⟩
 refine q00 (fun t=>t≤n) [1,4] [1] Lk Lk (fun t:Nat=>[(5,.ow 6000 none 0 t),(6,.ow 6002 none 0 t),(7,iv t)]) (fun _=>[]) (fun t=>dnH n t t (dnD t) fun _ _=>0) (fun t=>n-t) 0 (Nat.zero_le _) ?_ ?_
 ·refine LeW [] rfl rfl ?_ ?_ (by simp [q1N,q0z,win]) ?_
  ·exact Ow
  ·exact q1F (q3A Oq Oq)
  ·try refine Zz ?_
   exact ⟨⟨_,q1g Oq⟩,rfl⟩
 ·intro t ht
  by_cases hlt:t < n
  ·have hlt':(t:Int) < n:=by omega
   have rt:(List.range t ++ [t])[t]?=some t:=by simp
   have hset:((rU n (dnD t) t).set t (uv (4607182418800017408:Nat)))=(rU n (dnD t) t).set t (PV.vl (.int .u64 (4607182418800017408:Nat))):=rfl;refine wk1 hlt' ?_;refine q1a (q3w (T1:=24) (T2:=43) (K:=none) (N:=6000) (R:=10000) (n:=t) (o:=23) (r:=21) (l:=(rU n (dnD t)) t) (hw:=dnH n t t (dnD t) fun _ _=>0) (hw':=dnH n (t+1) t (dnD t) fun _ _=>0) (fun _ h=>h) q6F (fun _=>n) ?_ ?_ (fun i h1 h2=>?_) qjW (qeZ Oq) (fun i h1 h2=>q2I h1 h2) (fun j hj=>by
    rw [qeZ (by omega)];exact Option.some_ne_none _) (q3A (by omega) (by omega)) (qjX fun i hi=>by omega) ?_ (by omega) (by omega) (by omega) (by omega) (by omega) (by omega) (xs:=[(1,.pt 1 0 0),(4,iv n),(5,.ow 6000 none 0 (t+1)),(6,.ow 6002 none 0 t),(7,iv t)]) (kv:=[]) (bs:=[(1,⟨26,some 8,[.ag [pI ro,pI co,pI ls,pI li,pF lv,pI us,pI ui,pF vu]],false⟩)]) (kb:=[]) (by simp [nmW]) ?_) ?_
   ·try simp -implicitDefEqProofs (disch:=omega) only [go_sem,Nat.reduceEqDiff,Nat.reduceAdd,↓reduceIte]
   ·try refine Zz ?_
    rw [dnD_0,qgB (j:=t)]
   ·obtain ⟨w1,w2⟩:=h1
    repeat rw [q0A (by omega)]
    rw [q0T ⟨w1,w2⟩]
   ·unfold dnH;rw [q0I (by omega) (by omega),q0I (by omega) (by omega)]
    rfl
   ·try refine Zz ?_
    exact ⟨_,q1g Oq⟩
   have h2o:dnH n (t+1) t (dnD t) (fun _ _=>0) 6002=some ⟨24,none,(List.range t).map fun j=>.ow (j+30000) none 0 n,false⟩:=q1g Oq;refine wk1 h2o ?_;clear h2o;refine q1a (q3w (T1:=24) (T2:=43) (K:=none) (N:=6002) (R:=30000) (n:=t) (o:=28) (r:=26) (l:=(rU n fun _ _=>0) t) (hw:=dnH n (t+1) t (dnD t) fun _ _=>0) (hw':=dnH n (t+1) (t+1) (dnD t) fun _ _=>0) (fun _ h=>h) q6F (fun _=>n) ?_ ?_ (fun i h1 h2=>?_) (q1g Oq) (qaV Oq Oq) (fun i h1 h2=>q1c (q2I h1 h2)) (fun j hj=>by
    rw [qaV (by omega) (by omega)];exact Option.some_ne_none _) (q3A (by omega) (by omega)) (qjX fun i hi=>by omega) ?_ (by omega) (by omega) (by omega) (by omega) (by omega) (by omega) (xs:=[(1,.pt 1 0 0),(4,iv n),(5,.ow 6000 none 0 (t+1)),(6,.ow 6002 none 0 (t+1)),(7,iv t)]) (kv:=[]) (bs:=[(1,⟨26,some 8,[.ag [pI ro,pI co,pI ls,pI li,pF lv,pI us,pI ui,pF vu]],false⟩)]) (kb:=[]) (by simp [nmW]) ?_) ?_
   ·try simp -implicitDefEqProofs (disch:=omega) only [go_sem,Nat.reduceEqDiff,Nat.reduceAdd,↓reduceIte]
   ·try refine Zz ?_
    rw [qgB (j:=t)]
   ·obtain ⟨w1,w2⟩:=h1
    repeat rw [q0A (by omega)]
    rw [q0T ⟨w1,w2⟩]
   ·unfold dnH;rw [q0I (by omega) (by omega),q0I (by omega) (by omega)]
    rfl
   ·try refine Zz ?_
    exact ⟨_,q1g Oq⟩
   refine wk1 rt ?_;refine ⟨t+1,by omega,by omega,?_⟩;refine LeW [] rfl rfl ?_ ?_ (by simp [q1N,q0z,win]) ?_
   ·exact q9O (q55 q3Q) ((qrN (by omega)).trans (by rw [dnD_s]))
   ·exact q1F (q3A Oq Oq)
   ·try refine Zz ?_
    exact ⟨⟨_,q1g Oq⟩,rfl⟩
  ·obtain rfl:n=t:=by omega
   have hlt':¬ (n:Int) < n:=by omega
   refine wk1 hlt' ?_;obtain ⟨g0,hg0⟩:∃ g,g=dnD n:=⟨_,rfl⟩;rw [← hg0];clear hg0 ht;refine q00 (fun k=>k≤n) [1,4,5,6] [1] Lk Lk (fun k:Nat=>[(8,iv k)]) (fun _=>[]) (fun k=>dnH n n n (dnT g0 EL k) (dnT (fun _ _=>0) EU k)) (fun k=>n-k) 0 (Nat.zero_le _) ?_ ?_
   ·refine LeW [] rfl rfl ?_ ?_ (by simp [q1N,q0z,win]) ?_
    ·exact Ow
    ·exact q1F (q3A Oq Oq)
    ·try refine Zz ?_
     exact ⟨rfl,_,q1g Oq⟩
   ·intro k hk
    by_cases hkn:k < n
    ·have hkn':(k:Int) < n:=by omega
     have rk:(List.range n)[k]?=some k:=List.getElem?_range hkn;have wj:(k:Int)+1=((k+1:Nat):Int):=rfl;obtain ⟨a,l1,l2,l3,l4⟩:=hL.col k hkn;obtain ⟨c,u1,u2,u3,u4⟩:=hU.col k hkn;have hlb:=hL.len;have hub:=hU.len;have dL:dnT g0 EL (k+1)=enS (dnT g0 EL k) k (EL k):=rfl;have dU:dnT (fun _ _=>0) EU (k+1)=enS (dnT (fun _ _=>0) EU k) k (EU k):=rfl;generalize dnT g0 EL k=gl at *;generalize dnT (fun _ _=>0) EU k=gu at *;generalize EL k=el at *;generalize EU k=eu at *;refine wk1 (x2 hkn' l1) ?_;refine q00 (fun t=>t≤el.length) [1,4,5,6,8] [1] Lk Lk (fun t:Nat=>[(9,iv (a+t:Nat))]) (fun _=>[]) (fun t=>dnH n n n (enS gl k (el.take t)) gu) (fun t=>el.length-t) 0 (Nat.zero_le _) ?_ ?_
     ·refine LeW [] rfl rfl ?_ ?_ (by simp [q1N,q0z,win]) ?_
      ·exact Ow
      ·exact q1F (q3A Oq Oq)
      ·try refine Zz ?_
       exact ⟨_,q1g Oq⟩
     ·intro t ht
      by_cases hlt:t < el.length
      ·obtain ⟨e,he⟩:∃ e,el[t]?=some e:=⟨_,List.getElem?_eq_getElem hlt⟩;obtain ⟨y1,y2,y3,y4,y5⟩:=l4 t e he;have hlt':((a+t:Nat):Int) < ((a+el.length:Nat):Int):=by omega
       have re:(List.range n)[e.1]?=some e.1:=List.getElem?_range y3;obtain ⟨p,hp⟩:∃ p,p=a+t:=⟨_,rfl⟩;rw [← hp] at y1 y2 hlt' ⊢;refine wk1 (x6 wj l2 hlt' y1 y2 re) ?_;refine ⟨t+1,by omega,by omega,?_⟩;rw [List.take_add_one,he,Option.toList_some,q9A];refine LeW [] rfl rfl ?_ ?_ (by simp [q1N,q0z,win]) ?_
       ·exact q9O (q55 q3Q) (qrN y3)
       ·exact q1F (q3A Oq Oq)
       ·try refine Zz ?_
        exact ⟨by omega,_,q1g Oq⟩
      ·obtain rfl:t=el.length:=by omega
       obtain ⟨b,hb⟩:∃ b,b=a+el.length:=⟨_,rfl⟩;have hlt':¬ (b:Int) < b:=by omega
       rw [List.take_length];rw [← hb] at l2 ⊢;refine wk1 (x4 wj l2 hlt' u1) ?_;refine q00 (fun t=>t≤eu.length) [1,4,5,6,8] [1] Lk Lk (fun t:Nat=>[(10,iv (c+t:Nat))]) (fun _=>[]) (fun t=>dnH n n n (enS gl k el) (enS gu k (eu.take t))) (fun t=>eu.length-t) 0 (Nat.zero_le _) ?_ ?_
       ·refine LeW [] rfl rfl ?_ ?_ (by simp [q1N,q0z,win]) ?_
        ·exact Ow
        ·exact q1F (q3A Oq Oq)
        ·try refine Zz ?_
         exact ⟨_,q1g Oq⟩
       ·intro t ht;have ho2:=q1g (n:=n) (a:=n) (c:=n) (gl:=enS gl k el) (gu:=enS gu k (eu.take t)) Oq
        by_cases hlt:t < eu.length
        ·obtain ⟨e,he⟩:∃ e,eu[t]?=some e:=⟨_,List.getElem?_eq_getElem hlt⟩;obtain ⟨y1,y2,y3,y4,y5⟩:=u4 t e he;have hlt':((c+t:Nat):Int) < ((c+eu.length:Nat):Int):=by omega
         have re:(List.range n)[e.1]?=some e.1:=List.getElem?_range y3;have hr2:=qaV (n:=n) (a:=n) (c:=n) (gl:=enS gl k el) (gu:=enS gu k (eu.take t)) (j:=e.1) Oq y3;obtain ⟨p,hp⟩:∃ p,p=c+t:=⟨_,rfl⟩;rw [← hp] at y1 y2 hlt' ⊢;refine wk1 (x6 wj u2 hlt' y1 y2 (x3 re ho2 hr2)) ?_;refine ⟨t+1,by omega,by omega,?_⟩;rw [List.take_add_one,he,Option.toList_some,q9A];refine LeW [] rfl rfl ?_ ?_ (by simp [q1N,q0z,win]) ?_
         ·exact q9O (q55 q3Q) (dnH_u Oq y3)
         ·exact q1F (q3A Oq Oq)
         ·try refine Zz ?_
          exact ⟨by omega,_,q1g Oq⟩
        ·obtain rfl:t=eu.length:=by omega
         obtain ⟨d,hd⟩:∃ d,d=c+eu.length:=⟨_,rfl⟩;have hlt':¬ (d:Int) < d:=by omega
         rw [List.take_length] at ho2 ⊢;rw [← hd] at u2 ⊢;refine wk1 (x3 wj u2 hlt') ?_;refine ⟨k+1,by omega,by omega,?_⟩;rw [dL,dU];refine LeW [] rfl rfl ?_ ?_ (by simp [q1N,q0z,win]) ?_
         ·exact Ow
         ·exact q1F (q3A Oq Oq)
         ·try refine Zz ?_
          exact ⟨_,q1g Oq⟩
    ·obtain rfl:n=k:=by omega
     have hlt':¬ (n:Int) < n:=by omega
     generalize dnT g0 EL n=gl at *;generalize dnT (fun _ _=>0) EU n=gu at *;have ho2:=q1g (n:=n) (a:=n) (c:=n) (gl:=gl) (gu:=gu) Oq;have hc2:=qrO (gl:=gl) (gu:=gu) hn;have hc0:=qrP (n:=n) (gl:=gl) (gu:=gu);exact wk1 (x4 hlt' hc0 ho2 hc2) trivial
end
def q6u (st ix:List Int) (vs:List Nat) (k:Nat):List (Nat × Nat):=(List.range ((st.getD (k+1) 0).toNat-(st.getD k 0).toNat)).map fun t=>((ix.getD ((st.getD k 0).toNat+t) 0).toNat,vs.getD ((st.getD k 0).toNat+t) 0)
def q7K {l:List Int} (h:q7T l):∀ (d i:Nat) (x y:Int),l[i]?=some x→l[i+d+1]?=some y→x < y
 | 0,i,x,y,hx,hy=>h i x y hx hy
 | d+1,i,x,y,hx,hy=>by
  obtain ⟨z,hz⟩:∃ z,l[i+d+1]?=some z:=⟨_,List.getElem?_eq_getElem (by have:=(List.getElem?_eq_some_iff.1 hy).1; omega)⟩;have h1:=q7K h d i x z hx hz;have h2:=h (i+d+1) z y hz hy;omega
def q7L {l:List Int} (h:q7T l) {lo:Int} (h0:∀ z,l[0]?=some z→lo≤z):∀ (t:Nat) (z:Int),l[t]?=some z→lo+t≤z
 | 0,z,hz=>by have:=h0 z hz; omega
 | t+1,z,hz=>by
  obtain ⟨y,hy⟩:∃ y,l[t]?=some y:=⟨_,List.getElem?_eq_getElem (by have:=(List.getElem?_eq_some_iff.1 hz).1; omega)⟩;have h1:=q7L h h0 t y hy;have h2:=h t y z hy hz;omega
def qnh {l:List Int} (h:q7T l) {t:Nat} {z y:Int} (hz:l[t]?=some z) (hy:l[l.length-1]?=some y):z≤y:=by
 have ht:=(List.getElem?_eq_some_iff.1 hz).1
 by_cases e:t=l.length-1
 ·rw [e,hy] at hz; cases hz; exact Int.le_refl _
 ·exact Int.le_of_lt (q7K h (l.length-1-t-1) t z y hz (by rw [← hy]; congr 1; omega))
section
variable {n:Nat} {st ix:List Int} {vs:List Nat} {G:Nat→List Int→Prop}
def q3F {ix:List Int} {a b t:Nat} (ht:a+t < b):((ix.take b).drop a)[t]?=ix[a+t]?:=by
 rw [List.getElem?_drop,List.getElem?_take,if_pos ht]
def q6t {a b k:Nat} (h1:st[k]?=some (a:Int)) (h2:st[k+1]?=some (b:Int)):q6u st ix vs k=(List.range (b-a)).map fun t=>((ix.getD (a+t) 0).toNat,vs.getD (a+t) 0):=by
 unfold q6u;rw [getD_some h1,getD_some h2,Int.toNat_natCast,Int.toNat_natCast]
def qe9 (h:CmpOk n st ix G) (hl:ix.length=vs.length) (hf:∀ x ∈ vs,q0Q x) (hu:∀ x ∈ vs,x < 18446744073709551616) (hix:ix.length≤1000000) (hG:∀ k l,k < n→q7T l→G k l→(∀ z,l[0]?=some z→0≤z)∧∀ z,l[l.length-1]?=some z→z < n):ColS n st ix vs (q6u st ix vs):=by
 refine ⟨hix,fun k hk=>?_,fun k hk=>?_,fun k hk=>?_⟩
 all_goals
  obtain ⟨a,b,h1,h2,h3,h4,h5,h6⟩:=h.col k hk;obtain ⟨g1,g2⟩:=hG k _ hk h5 h6;rw [q6t h1 h2];have hll:((ix.take b).drop a).length=b-a:=by rw [List.length_drop,List.length_take]; omega
  have hb:∀ t,t < b-a→∃ z:Nat,ix[a+t]?=some (z:Int)∧t≤z∧z < n:=fun t ht=>by
   obtain ⟨z,hz⟩:∃ z,ix[a+t]?=some z:=⟨_,List.getElem?_eq_getElem Oq⟩;have hz2:=(q3F (ix:=ix) (a:=a) (b:=b) (t:=t) Oq).trans hz;have q1:=q7L h5 g1 t z hz2;obtain ⟨y,hy⟩:∃ y,((ix.take b).drop a)[((ix.take b).drop a).length-1]?=some y:=⟨_,List.getElem?_eq_getElem Oq⟩;have q2:=qnh h5 hz2 hy;have q3:=g2 y hy;exact ⟨z.toNat,by rw [Int.toNat_of_nonneg (by omega)]; exact hz,by omega,by omega⟩
 ·refine ⟨a,h1,?_,?_,fun t e he=>?_⟩
  ·rw [h2,List.length_map,List.length_range]; congr 1; omega
  ·rw [List.length_map,List.length_range]; omega
  ·have ht:t < b-a:=by have:=(List.getElem?_eq_some_iff.1 he).1; simpa using this
   rw [List.getElem?_map,List.getElem?_range ht,Option.map_some] at he;cases he;obtain ⟨z,z1,z2,z3⟩:=hb t ht;obtain ⟨v,hv⟩:∃ v,vs[a+t]?=some v:=⟨_,List.getElem?_eq_getElem Oq⟩;simp only [getD_some z1,getD_some hv,Int.toNat_natCast];exact ⟨z1,hv,z3,hf v (List.mem_of_getElem? hv),hu v (List.mem_of_getElem? hv)⟩
 ·rw [List.map_map];unfold List.Nodup;rw [List.pairwise_iff_getElem];intro i j hi hj hij;simp at hi hj;obtain ⟨z,z1,_⟩:=hb i hi;obtain ⟨y,y1,_⟩:=hb j hj;simp only [List.getElem_map,List.getElem_range,Function.comp_apply,getD_some z1,getD_some y1,Int.toNat_natCast];have:=q7K h5 (j-i-1) i z y ((q3F (by omega)).trans z1) ((q3F (by omega)).trans (by rw [← y1]; congr 1; omega));omega
 ·rw [List.length_map,List.length_range]
  by_cases e:b-a=0
  ·omega
  ·obtain ⟨z,z1,z2,z3⟩:=hb (b-a-1) Oq;omega
end
def qe4 {L:List (Nat × Nat)} {t:Nat} {e:Nat × Nat} (h:(L.map (·.1)).Nodup) (he:L[t]?=some e):ctV L e.1=e.2:=by
 induction L generalizing t with
 | nil=>simp at he
 | cons d L ih =>
  rw [List.map_cons,List.nodup_cons] at h;cases t with
  | zero =>
   rw [List.getElem?_cons_zero] at he;cases he;unfold ctV;rw [List.find?_cons,show (e.1 == e.1)=true by simp]; rfl
  | succ t =>
   rw [List.getElem?_cons_succ] at he;have hne:d.1≠e.1:=fun q=>h.1 (by rw [q]; exact List.mem_map_of_mem (List.mem_of_getElem? he));unfold ctV;rw [List.find?_cons,show (d.1 == e.1)=false by simpa using hne];exact ih h.2 he
def qeU {k:Nat}:∀ (l:List (Nat × Nat)) (g:Nat→Nat→Nat) (i j:Nat),(l.map (·.1)).Nodup→enS g k l i j=if j=k then ((l.find? fun e=>e.1 == i).map (·.2)).getD (g i j) else g i j
 | [],g,i,j,_=>by unfold enS; simp
 | e :: l,g,i,j,h=>by
  rw [List.map_cons,List.nodup_cons] at h;rw [enS,qeU l _ i j h.2]
  by_cases hj:j=k
  ·rw [if_pos hj,if_pos hj,List.find?_cons]
   by_cases he:e.1=i
   ·have h0:(l.find? fun e=>e.1 == i)=none:=List.find?_eq_none.2 fun d hd hq=>h.1 (by rw [he,← (by simpa using hq:d.1=i)]; exact List.mem_map_of_mem hd);rw [h0,show (e.1 == i)=true by simpa using he];simp [q3S,hj,he]
   ·rw [show (e.1 == i)=false by simpa using he];simp only [q3S];rw [if_neg fun q=>he q.1.symm]
  ·rw [if_neg hj,if_neg hj];unfold q3S;rw [if_neg fun q=>hj q.2]
def q9C {g:Nat→Nat→Nat} {E:Nat→List (Nat × Nat)}:∀ (m i j:Nat),(∀ k,k < m→((E k).map (·.1)).Nodup)→dnT g E m i j=if j < m then (((E j).find? fun e=>e.1 == i).map (·.2)).getD (g i j) else g i j
 | 0,i,j,_=>by rw [dnT,if_neg (by omega)]
 | m+1,i,j,h=>by
  rw [dnT,qeU _ _ _ _ (h m (by omega)),q9C m i j fun k hk=>h k (by omega)]
  by_cases hj:j=m
  ·subst hj;rw [if_pos rfl,if_neg (by omega),if_pos (by omega)]
  ·rw [if_neg hj]
   by_cases h2:j < m
   ·rw [if_pos h2,if_pos (by omega)]
   ·rw [if_neg h2,if_neg (by omega)]
def dnL_v {n:Nat} {E:Nat→List (Nat × Nat)} (h:∀ k,k < n→((E k).map (·.1)).Nodup) {i j:Nat} (hj:j < n) (hij:j < i):dnT (dnD n) E n i j=ctV (E j) i:=by
 rw [q9C n i j h,if_pos hj];unfold ctV dnD;rw [if_neg (by omega)]
def dnU_v {n:Nat} {E:Nat→List (Nat × Nat)} (h:∀ k,k < n→((E k).map (·.1)).Nodup) {i j:Nat} (hj:j < n):dnT (fun _ _=>0) E n i j=ctV (E j) i:=by
 rw [q9C n i j h,if_pos hj]
 rfl
def qe5 {n:Nat} {st ix:List Int} {vs:List Nat} {E:Nat→List (Nat × Nat)} (h:ColS n st ix vs E) {i j:Nat} (hj:j < n):ctV (E j) i < 18446744073709551616∧q0Q (ctV (E j) i):=by
 unfold ctV;cases hf:(E j).find? fun e=>e.1 == i with
 | none=>exact ⟨by simp,by unfold q0Q; simp⟩
 | some e =>
  obtain ⟨t,ht⟩:=List.mem_iff_getElem?.1 (List.mem_of_find?_eq_some hf);obtain ⟨a,_,_,_,h4⟩:=h.col j hj;obtain ⟨_,_,_,h5,h6⟩:=h4 t e ht;exact ⟨h6,h5⟩
structure LUok (f:LUt) (n:Nat):Prop where
 b:LUb f
 rl:f.rows.length=n
 n2:n≤200
 rp:q2C f.rows n
 cp:q2C f.cols n
 sl:f.ls.length=n+1
 su:f.us.length=n+1
 L:ColS n f.ls f.li f.lv (q6u f.ls f.li f.lv)
 U:ColS n f.us f.ui f.uv (q6u f.us f.ui f.uv)
 gt:∀ k,k < n→∀ e ∈ q6u f.ls f.li f.lv k,k < e.1
 le:∀ k,k < n→∀ e ∈ q6u f.us f.ui f.uv k,e.1≤k
 dg:∀ k,k < n→∃ m x,q6u f.us f.ui f.uv k=m ++ [(k,x)]∧ofZ x≠0∧∀ e ∈ m,e.1 < k
def qfI {f:LUt} (hb:LUb f) (h:q7S f=0):LUok f f.rows.length:=by
 unfold q7S at h
 split at h
 ·cases h
 split at h
 ·cases h
 rename_i hn hp
 split at h
 ·cases h
 rename_i hls
 split at h
 ·cases h
 rename_i hst
 split at h
 ·rename_i hf;obtain ⟨f1,f2,f3⟩:=hf;have hp:=Classical.not_not.1 hp;obtain ⟨s1,s2,s3,s4⟩:=Classical.not_not.1 hls;have hst:=Classical.not_not.1 hst;obtain ⟨c1,c2⟩:=hst;have L:=qe9 (vs:=f.lv) c1 s3 f1 hb.hl hb.li fun k l hk ha hg=>⟨fun z hz=>by have:=hg.1 z hz; omega,hg.2⟩;have U:=qe9 (vs:=f.uv) c2 s4 f2 hb.hu hb.ui fun k l hk ha hg=>⟨hg.1,fun z hz=>by have:=hg.2.symm.trans hz; cases this; omega⟩;have hgt:∀ k,k < f.rows.length→∀ e ∈ q6u f.ls f.li f.lv k,k < e.1:=fun k hk e he=>by
   obtain ⟨a,b,h1,h2,h3,h4,h5,h6⟩:=c1.col k hk;rw [q6t h1 h2] at he;obtain ⟨t,ht,rfl⟩:=List.mem_map.1 he;have ht:=List.mem_range.1 ht;obtain ⟨z,hz⟩:∃ z,f.li[a+t]?=some z:=⟨_,List.getElem?_eq_getElem Oq⟩;have:=q7L h5 (lo:=(k:Int)+1) (fun z hz=>by have:=h6.1 z hz; omega) t z ((q3F Oq).trans hz);simp only [getD_some hz];omega
  have hU:∀ k,k < f.rows.length→∃ m x,q6u f.us f.ui f.uv k=m ++ [(k,x)]∧ofZ x≠0∧∀ e ∈ m,e.1 < k:=fun k hk=>by
   obtain ⟨a,b,h1,h2,h3,h4,h5,h6⟩:=c2.col k hk;have hll:((f.ui.take b).drop a).length=b-a:=by rw [List.length_drop,List.length_take]; omega
   have hlast:=h6.2;have hab:a < b:=by
    rcases Nat.lt_or_ge a b with q | q
    ·exact q
    ·rw [List.getElem?_eq_none (by omega)] at hlast; cases hlast
   rw [hll,q3F (by omega)] at hlast;obtain ⟨x,hx⟩:∃ x,f.uv[b-1]?=some x:=⟨_,List.getElem?_eq_getElem Oq⟩;rw [show a+(b-a-1)=b-1 by omega] at hlast;refine ⟨(List.range (b-a-1)).map fun t=>((f.ui.getD (a+t) 0).toNat,f.uv.getD (a+t) 0),x,?_,f3 k hk (b-1) x (by rw [h2]; congr 1; omega) hx,fun e he=>?_⟩
   ·rw [q6t h1 h2,show b-a=(b-a-1)+1 by omega,List.range_succ,List.map_append,List.map_singleton,show a+(b-a-1)=b-1 by omega,getD_some hlast,getD_some hx,Int.toNat_natCast]
    rfl
   ·obtain ⟨t,ht,rfl⟩:=List.mem_map.1 he;have ht:=List.mem_range.1 ht;obtain ⟨z,hz⟩:∃ z,f.ui[a+t]?=some z:=⟨_,List.getElem?_eq_getElem Oq⟩;have hz2:=(q3F (ix:=f.ui) (a:=a) (b:=b) (t:=t) Oq).trans hz;have q1:=q7L h5 h6.1 t z hz2;have q2:=q7K h5 (b-a-1-t-1) t z k hz2 ((q3F (by omega)).trans (by rw [← hlast]; congr 1; omega));simp only [getD_some hz];omega
  refine ⟨hb,rfl,by omega,hp.1,hp.2,s1,s2,L,U,hgt,fun k hk e he=>?_,hU⟩;obtain ⟨m,x,m1,m2,m3⟩:=hU k hk;rw [m1] at he
  rcases List.mem_append.1 he with he | he
  ·exact Nat.le_of_lt (m3 e he)
  ·rw [List.mem_singleton.1 he]; exact Nat.le_refl _
 ·cases h
abbrev q8d (rows:Nat→List Int):Nat→List PV:=fun r=>(rows r).map fun V=>pV V
section
variable {f:Nat→Nat→Option Nat} {x:List Nat} {n:Nat}
end
end Go.Proofs.YtjfjjmfhfbapeaaGreatDoor
namespace Go.E
open Go Go.RowKit
section
variable {T1 T2:TypeId} {K:Kd} {N R n:Nat} {row:Nat→List PV}
def qou:qcP T1 T2 K N R n row=q1Y T1 T2 K N R n row h0:=rfl
def q6W (T1 T2:TypeId) (K:Kd) (N R n:Nat) (row:Nat→List PV) (k z:Nat) (l:List PV):Hp:=fun i=>if i=k+R then none else if i=z then some ⟨T2,K,l,false⟩ else if i=N then some ⟨T1,none,((List.range n).map fun j=>.ow (j+R) K 0 (row j).length).set k (.ow z K 0 l.length),false⟩ else q1Y T1 T2 K N R n row h0 i
def q4z {k z i:Nat} {l:List PV} {b:Bk} (hb:q6W T1 T2 K N R n row k z l i=some b):i≠k+R∧((i=z∧b=⟨T2,K,l,false⟩)∨(i≠z∧i=N∧b=⟨T1,none,((List.range n).map fun j=>.ow (j+R) K 0 (row j).length).set k (.ow z K 0 l.length),false⟩)∨(i≠z∧i≠N∧R≤i∧i < R+n∧b=⟨T2,K,row (i-R),false⟩)):=by
 unfold q6W at hb
 split at hb
 ·cases hb
 ·refine ⟨by assumption,?_⟩
  split at hb
  ·rename_i hi; cases hb; exact .inl ⟨hi,rfl⟩
  ·rename_i hz
   split at hb
   ·rename_i hi; cases hb; exact .inr (.inl ⟨hz,hi,rfl⟩)
   ·rename_i hN
    rcases q0j hb with ⟨e,_⟩ | ⟨_,q1,q2,q3⟩ | ⟨_,_,q⟩
    ·exact absurd e hN
    ·exact .inr (.inr ⟨hz,hN,q1,q2,q3⟩)
    ·cases q
end
end Go.E
namespace Go.Proofs.YtjfjjmfhfbapeaaGreatDoor
open Go Go.E Go.Sp
abbrev q7O (n:Nat) (rows:Nat→List Int):Hp:=q1Y 64 56 (some 4) 5000 10000 n (q8d rows) h0
def q0p {n:Nat} {rows:Nat→List Int} (hn:n≤1000):BOk (q7O n rows) win:=q1b BOk.h0 (fun _ _=>clV) Oq ⟨⟨by omega,by omega⟩,fun j hj=>⟨by omega,by omega⟩⟩
def wfB {H:Hp} (h:BOk H win):WfH H:=⟨fun i b hb=>⟨(h.b i b hb).2.1,IdL_mono (fun j hj=>by
 obtain ⟨c,hc⟩:=Option.ne_none_iff_exists'.1 hj;exact ⟨(h.b j c hc).1,hj⟩) _ (h.b i b hb).2.2⟩⟩
section
variable {b:List Nat} {n:Nat} {rows:Nat→List Int}
def bgR (b:List Nat) (k:Nat):Nat→List Int:=fun j=>if j < k then [ofZ (b.getD j 0)] else []
def qes (hb:q2X b) (hn:b.length≤500):qiU 60 [pF b] h0 (.ow 5000 none 0 b.length) (q7O b.length (bgR b b.length)):=by
 obtain ⟨n,hbn⟩:∃ n,n=b.length:=⟨_,rfl⟩;rw [← hbn];refine qjh qhl Tryz.func60 rfl Tryz.ntmps60 (by kernel_rfl) ?_ ?_ ?_ ?_
 ·intro i b hb; cases hb
 ·exact fun i b hb=>((q0p Oq).b i b hb).1
 ·exact IdL.of fun x hx=>by simp at hx; subst hx; unfold IdP; trivial
 refine wk ?_;refine q1a (qfh (o:=8) (N:=5000) (R:=10000) (n:=n) (T1:=64) (T2:=56) (K:=some 4) (fun _ h=>h rfl) ?_ (by omega) (by omega) (by omega) (by omega) (xs:=[(0,pF b),(3,.ow 5000 none 0 n),(9,pF b),(10,iv n),(11,iv 0)]) (kv:=[]) (kb:=[]) (by simp [nmW]) ?_) ?_
 ·try refine Zz ?_
  rw [hbn]
 ·try refine Zz ?_
  rw [hbn];exact ⟨⟨rfl,rfl⟩,rfl⟩
 rw [qou];refine q00 (fun k:Nat=>k≤n) [0,3,9,10] [] Lk Lk (fun k:Nat=>[(11,iv k)]) (fun _=>[]) (fun k=>q7O n (bgR b k)) (fun k=>n-k) 0 (Nat.zero_le _) ?_ ?_
 ·refine LeW [] rfl rfl ?_ ?_ (by simp [q1N,q0z,win]) ?_
  ·exact Ow
  ·exact wfB (q0p Oq)
  ·try refine Zz ?_
   rfl
 ·intro k hk
  by_cases hlt:k < n
  ·have hlt':(k:Int) < n:=by omega
   obtain ⟨x,hx⟩:∃ x,b[k]?=some x:=⟨_,List.getElem?_eq_getElem Oq⟩;obtain ⟨u1,u2⟩:=hb x (List.mem_of_getElem? hx);have C1:=qgI (q6B u1 (q04 u2)) (q9r u2);have er:q7P (q8d (bgR b k)) k [pV (ofZ x)]=q8d (bgR b (k+1)):=by
    funext j
    unfold q7P q8d bgR
    by_cases h:j=k
    ·subst h; rw [if_pos rfl,if_pos (by omega),getD_some hx]; rfl
    ·rw [if_neg h]
     by_cases h2:j < k
     ·rw [if_pos h2,if_pos (by omega)]
     ·rw [if_neg h2,if_neg (by omega)]
   refine wk1 (x2 hlt' hx) ?_;refine ⟨k+1,by omega,by omega,?_⟩;unfold q7O;rw [← er];refine q6X (r:=20) (k:=k) (row:=q8d (bgR b k)) (fun _ h=>h rfl) hlt (by intro x hx; simp at hx; subst hx; trivial) ?_ ?_ (fun i h1 h2 h3 h4=>?_) (fun _ _=>clV) BOk.h0 (.inl (by omega)) (by omega) (by omega) (by omega) (by simp [nmW]) ?_
   ·try simp -implicitDefEqProofs (disch:=omega) only [go_sem,Nat.reduceEqDiff,Nat.reduceAdd,↓reduceIte]
   ·try simp -implicitDefEqProofs (disch:=omega) only [go_sem,Nat.reduceEqDiff,Nat.reduceAdd,↓reduceIte]
   ·rw [q0A h2,q0A h4,q0T h1]
   ·try refine Zz ?_
    rfl
  ·have hlt':¬ (k:Int) < n:=by omega
   obtain rfl:n=k:=by omega
   refine wk1 hlt' ?_;refine (rtM (rs:=[.tmp 2]) rfl rfl Lq ?_ (.inl rfl));exact LeF q3Q (fun i b hb=>((q0p Oq).b i b hb).1) (wfB (q0p Oq)) (.ow rfl q14)
def qk1 {k z:Nat} {l:List PV} (hn:n≤1000) (hk:k < n) (hcl:ClL l) (hz:900000≤z∧z < 1000000):BOk (q6W 64 56 (some 4) 5000 10000 n (q8d rows) k z l) win:=⟨fun i b hb=>by
 obtain ⟨h0,h1⟩:=q4z hb
 rcases h1 with ⟨rfl,rfl⟩ | ⟨_,rfl,rfl⟩ | ⟨q0,q1,q2,q3,rfl⟩
 ·exact ⟨⟨by omega,by omega⟩,rfl,IdL.of fun x hx=>q51 (hcl x hx)⟩
 ·refine ⟨⟨by omega,by omega⟩,rfl,IdL.of fun x hx=>?_⟩;obtain ⟨c,hc⟩:=List.mem_iff_getElem?.1 hx;rw [List.getElem?_set] at hc
  split at hc
  ·split at hc
   ·cases hc;unfold IdP q6W;rw [if_neg (by omega),if_pos rfl];exact Option.some_ne_none _
   ·cases hc
  ·rename_i hkc;rw [List.getElem?_map] at hc
   rcases Nat.lt_or_ge c n with hcn | hcn
   ·rw [List.getElem?_range hcn] at hc;cases hc;unfold IdP q6W;rw [if_neg (by omega),if_neg (by omega),if_neg (by omega),q1H (by omega) hcn];exact Option.some_ne_none _
   ·rw [List.getElem?_eq_none (by simpa using hcn)] at hc; cases hc
 ·exact ⟨⟨by omega,by omega⟩,rfl,IdL.of fun x hx=>q51 (clV x hx)⟩⟩
def q5o {k:Nat} {a c:Nat} (hn:n≤1000) (hk:k < n) (hl:(rows k).length≤2000) (ha:q0Q a∧a < 18446744073709551616) (hc:q0Q c∧c < 18446744073709551616) :
  ACxt 65 [.ow 5000 none 0 n,iv k,uv a,uv c] (q7O n rows) (.tu []) (q6W 64 56 (some 4) 5000 10000 n (q8d rows) k 900000 ((rows k ++ [-(q2D a c)]).map fun V=>pV V)):=by
 refine actx qmg Tryz.func65 rfl Tryz.ntmps65 (by kernel_rfl) ?_ ?_ ?_ ?_
 ·intro i b hb;obtain ⟨h1,h2,h3⟩:=(q0p hn).b i b hb;refine ⟨h1,h2,IdL_mono (fun j hj=>?_) _ h3,?_⟩
  ·obtain ⟨c,hc⟩:=Option.ne_none_iff_exists'.1 hj;exact ((q0p hn).b j c hc).1
  ·unfold q6W
   by_cases hi:i=k+10000
   ·exact .inl (if_pos hi)
   ·refine .inr ?_;rw [if_neg hi]
    rcases q0j hb with ⟨rfl,rfl⟩ | ⟨q0,q1,q2,rfl⟩ | ⟨_,_,q⟩
    ·rw [if_neg (by omega),if_pos rfl];exact ⟨_,rfl,rfl,by simp⟩
    ·rw [if_neg (by omega),if_neg q0];exact ⟨_,hb,rfl,Nat.le_refl _⟩
    ·cases q
 ·exact fun i b hb=>((qk1 hn hk clV ⟨by omega,by omega⟩).b i b hb).1
 ·exact IdL.of fun x hx=>by
   simp at hx
   rcases hx with rfl | rfl | rfl | rfl <;> unfold IdP
   ·exact ⟨by omega,by omega⟩
   all_goals trivial
 have C1:=q6B ha.2 (q04 ha.1);have C2:=q6B hc.2 (q04 hc.1);have M:=q1q ha.1 hc.1;have C3:=qcD (q9r ha.1) (q9r hc.1) M.1;have hmd:=(q5O M.1).2.2.2;have C4:=qgI (qcC hmd) (by unfold q0b at *; rw [Int.natAbs_neg]; exact hmd);have rk:(List.range n)[k]?=some k:=List.getElem?_range hk;refine wk1 rk ?_;refine rtM (rs:=[]) rfl rfl Lq ?_ (.inr rfl);have tI:∀ i,i≠900000→tnU 900000 21 i=some i:=fun i h=>if_neg h;have eZ:∀ i,i≠900000→i≠k+10000→i≠5000→q6W 64 56 (some 4) 5000 10000 n (q8d rows) k 900000 ((rows k ++ [-(q2D a c)]).map fun V=>pV V) i=q7O n rows i:=fun i h1 h2 h3=>by unfold q6W; rw [if_neg h2,if_neg h1,if_neg h3]
 refine q4d (tnU 900000 21) (fun i b hb=>?_) (fun i j x b d hi hj ti tj=>?_) (fun _=>.tu rfl fun i x y hx _=>by simp at hx) fun i hi h5 h6=>tI i ?_
 ·obtain ⟨h0,h1⟩:=q4z hb;unfold LeB
  rcases h1 with ⟨rfl,rfl⟩ | ⟨_,rfl,rfl⟩ | ⟨q0,q1,q2,q3,rfl⟩
  ·rw [show tnU 900000 21 900000=some 21 from if_pos rfl];refine ⟨_,rfl,rfl,rfl,⟨rfl,rfl⟩,q0R ?_ clV⟩;rw [List.map_append]; rfl
  ·rw [tI 5000 (by omega)];refine ⟨_,rfl,rfl,rfl,⟨rfl,rfl⟩,by simp,fun p u v hu hv=>?_⟩;rw [List.getElem?_set] at hu hv
   by_cases hkp:k=p
   ·subst hkp;rw [if_pos rfl,if_pos (by simpa using hk)] at hu hv;cases hu; cases hv;rw [List.length_map,List.length_append];exact .ow (if_pos rfl) (by unfold q6W; rw [if_neg (by omega),if_pos rfl])
   ·rw [if_neg hkp] at hu hv;rw [List.getElem?_map] at hu hv
    rcases Nat.lt_or_ge p n with hpn | hpn
    ·rw [List.getElem?_range hpn] at hu hv;cases hu; cases hv
     show LeV _ _ _ (.ow (p+10000) (some 4) 0 (rows p).length) (.ow (p+10000) (some 4) 0 ((rows p).map fun V=>pV V).length)
     rw [List.length_map];exact .ow (tI _ (by omega)) (by rw [eZ _ (by omega) (by omega) (by omega)]; exact q1H (by omega) hpn)
    ·rw [List.getElem?_eq_none (by simpa using hpn)] at hu; cases hu
  ·rw [tI i q0];refine ⟨_,?_,rfl,rfl,⟨rfl,rfl⟩,q0R rfl clV⟩;rw [q0A q1,q0A (by omega),q0A h0,q0A (by omega),← eZ i q0 h0 q1];exact hb
 ·have a1:∀ i b,q6W 64 56 (some 4) 5000 10000 n (q8d rows) k 900000 ((rows k ++ [-(q2D a c)]).map fun V=>pV V) i=some b→i≠21:=fun i b hb=>by
   obtain ⟨_,h1⟩:=q4z hb
   rcases h1 with ⟨rfl,_⟩ | ⟨_,rfl,_⟩ | ⟨_,_,q,_⟩ <;> omega
  have b1:=a1 i b hi;have b2:=a1 j d hj;unfold tnU at ti tj
  split at ti <;> split at tj <;> cases ti <;> cases tj <;> first | omega | rfl | exact (b1 rfl).elim | exact (b2 rfl).elim
 ·rintro rfl;refine hi.1 ?_;unfold q7O;rw [q0I (by omega) (by omega)]; rfl
end
def psG (g:Nat→Int):List (Nat × Nat)→(Nat→List Int)→Nat→List Int
 | [],rows=>rows
 | e :: L,rows=>psG g L (q3v rows e.1 (-(g e.2)))
def ctG (g:Nat→Int) (L:List (Nat × Nat)) (r:Nat):Int:=q0v (L.map fun e=>if e.1=r then g e.2 else 0)
def qdK {g:Nat→Int}:∀ (A B:List (Nat × Nat)) (rows:Nat→List Int),psG g (A ++ B) rows=psG g B (psG g A rows)
 | [],_,_=>rfl
 | e :: A,B,rows=>by rw [List.cons_append,psG,psG,qdK A B]
def qqD {g:Nat→Int} {t:Nat} {L:List (Nat × Nat)} {e:Nat × Nat} {rows:Nat→List Int} (he:L[t]?=some e):psG g (L.take (t+1)) rows=q3v (psG g (L.take t) rows) e.1 (-(g e.2)):=by
 rw [q2H he,qdK]; rfl
def q8h {g:Nat→Int} {r:Nat}:∀ (L:List (Nat × Nat)) (rows:Nat→List Int),q0v (psG g L rows r)=q0v (rows r)-ctG g L r
 | [],rows=>by unfold psG ctG; rw [List.map_nil,q6Z]; omega
 | e :: L,rows=>by
  rw [psG,q8h L,qbx];have:ctG g (e :: L) r=(if e.1=r then g e.2 else 0)+ctG g L r:=by unfold ctG; rw [List.map_cons,q30]
  rw [this]
  by_cases h:r=e.1
  ·rw [if_pos h,if_pos h.symm]; omega
  ·rw [if_neg h,if_neg fun q=>h q.symm]; omega
def qiu {g:Nat→Int}:∀ (L:List (Nat × Nat)) (rows:Nat→List Int) (m:Nat),(∀ e ∈ L,bl (g e.2).natAbs≤67600)→(∀ r,(rows r).length≤m)→(∀ r,∀ z ∈ rows r,bl z.natAbs≤67600)→(∀ r,(psG g L rows r).length≤m+L.length)∧∀ r,∀ z ∈ psG g L rows r,bl z.natAbs≤67600
 | [],rows,m,_,h1,h2=>⟨h1,h2⟩
 | e :: L,rows,m,he,h1,h2=>by
  have hz:bl (-(g e.2)).natAbs≤67600:=by rw [Int.natAbs_neg]; exact he e List.mem_cons_self
  have b1:=qfV (k:=e.1) h1 h2 hz;have b2:=qiu L _ (m+1) (fun d hd=>he d (List.mem_cons_of_mem _ hd)) b1.1 b1.2;rw [psG];exact ⟨fun r=>by have:=b2.1 r; rw [List.length_cons]; omega,b2.2⟩
abbrev psE (y:Nat):=psG fun v=>q2D v y
structure RB (rows:Nat→List Int) (m:Nat):Prop where
 l:∀ r,(rows r).length≤m
 b:∀ r,∀ z ∈ rows r,bl z.natAbs≤67600
def RB.pg {rows:Nat→List Int} {m:Nat} {g:Nat→Int} {L:List (Nat × Nat)} (h:RB rows m) (hL:∀ e ∈ L,bl (g e.2).natAbs≤67600):RB (psG g L rows) (m+L.length):=by
 obtain ⟨h1,h2⟩:=qiu L rows m hL h.l h.b;exact ⟨h1,h2⟩
def RB.ps {rows:Nat→List Int} {m y:Nat} {L:List (Nat × Nat)} (h:RB rows m) (hy:q0Q y) (hL:∀ e ∈ L,q0Q e.2):RB (psE y L rows) (m+L.length):=h.pg fun e he=>(q1q (hL e he) hy).2
def RB.mono {rows:Nat→List Int} {m m':Nat} (h:RB rows m) (hm:m≤m'):RB rows m':=⟨fun r=>Nat.le_trans (h.l r) hm,h.b⟩
def RB.bg {b:List Nat} {k:Nat} (hb:q2X b):RB (bgR b k) 1:=⟨fun r=>by unfold bgR; split <;> simp,fun r z hz=>by
 unfold bgR at hz
 split at hz
 ·simp at hz; subst hz; exact Nat.le_trans (q2w (qdl hb).2) (by omega)
 ·cases hz⟩
def q9c {g:Nat→Int}:∀ m,sg g (m+1)=g 0+sg (fun i=>g (i+1)) m
 | 0=>by rw [sg,sg,sg]; omega
 | m+1=>by rw [sg,q9c m,show sg (fun i=>g (i+1)) (m+1)=sg (fun i=>g (i+1)) m+g (m+1) from rfl]; omega
section
variable {D:Nat→Nat→Nat} {E:Nat→List (Nat × Nat)} {n k:Nat} {ys:List Nat} {rows:Nat→List Int}
def RLo (D:Nat→Nat→Nat) (n k:Nat) (ys:List Nat) (rows:Nat→List Int):Prop:=∀ r,k≤r→r < n→q0v (rows r)=ofZ (ys.getD r 0)-sg (fun c=>q2D (D r c) (ys.getD c 0)) k
def RUp (D:Nat→Nat→Nat) (n k:Nat) (ys:List Nat) (rows:Nat→List Int):Prop:=∀ r,r < k→q0v (rows r)=ofZ (ys.getD r 0)-sg (fun i=>q2D (D r (k+i)) (ys.getD (k+i) 0)) (n-k)
def qjb {b:List Nat} {r:Nat} (hr:r < b.length):q0v (bgR b b.length r)=ofZ (b.getD r 0):=by
 unfold bgR;rw [if_pos hr,q4g]
def RLo.bg (hn:ys.length=n):RLo D n 0 ys (bgR ys n):=fun r _ hr=>by
 subst hn;rw [qjb hr,sg]; omega
def RUp.bg (hn:ys.length=n):RUp D n n ys (bgR ys n):=fun r hr=>by
 subst hn;rw [qjb hr,Nat.sub_self,sg]; omega
def qb6 {i v:Nat} (h:i≠k):(ys.set k v).getD i 0=ys.getD i 0:=by
 rw [List.getD_eq_getElem?_getD,List.getD_eq_getElem?_getD,List.getElem?_set,if_neg fun q=>h q.symm]
def qgn {v:Nat} (h:k < ys.length):(ys.set k v).getD k 0=v:=by
 rw [List.getD_eq_getElem?_getD,List.getElem?_set_self h]; rfl
def RLo.s {v:Nat} (h:RLo D n k ys rows) (hl:k < ys.length) (hE:((E k).map (·.1)).Nodup) (hD:∀ r,D r k=ctV (E k) r):RLo D n (k+1) (ys.set k v) (psE v (E k) rows):=fun r h1 h2=>by
 have e:sg (fun c=>q2D (D r c) ((ys.set k v).getD c 0)) k=sg (fun c=>q2D (D r c) (ys.getD c 0)) k:=q32 k fun i hi=>by rw [qb6 (by omega)]
 rw [q8h,h r (by omega) h2,show ctG (fun x=>q2D x v) (E k) r=q2D (ctV (E k) r) v from qrX hE,← hD,qb6 (by omega),sg,qgn hl,e];omega
def RUp.s {v x:Nat} {m:List (Nat × Nat)} (h:RUp D n (k+1) ys rows) (hk:k < n) (hl:k < ys.length) (hE:((E k).map (·.1)).Nodup) (hm:E k=m ++ [(k,x)]) (hD:∀ r,D r k=ctV (E k) r):RUp D n k (ys.set k v) (psE v m rows):=fun r h1=>by
 have e1:ctV (E k) r=ctV m r:=by
  rw [hm];unfold ctV;rw [List.find?_append];cases m.find? fun e=>e.1 == r with
  | some e=>rfl
  | none=>rw [List.find?_cons,show (k == r)=false by simp; omega]; rfl
 have e2:(m.map (·.1)).Nodup:=by
  rw [hm,List.map_append] at hE;exact (List.nodup_append.1 hE).1
 rw [q8h,h r (by omega),show ctG (fun x=>q2D x v) m r=q2D (ctV m r) v from qrX e2,← e1,← hD,qb6 (by omega),show n-k=(n-(k+1))+1 by omega,q9c];have:sg (fun i=>q2D (D r (k+(i+1))) ((ys.set k v).getD (k+(i+1)) 0)) (n-(k+1))=sg (fun i=>q2D (D r (k+1+i)) (ys.getD (k+1+i) 0)) (n-(k+1)):=q32 _ fun i _=>by rw [qb6 (by omega),show k+(i+1)=k+1+i by omega]
 rw [this];simp only [Nat.add_zero];rw [qgn hl];omega
def RLo.v (h:RLo D n k ys rows) (hk:k < n):q0v (rows k)=loZ D ys k:=h k (Nat.le_refl _) hk
def RUp.v (h:RUp D n (k+1) ys rows):q0v (rows k)=upZ D ys n k:=h k Oq
end
def yLo (n:Nat) (ys:List Nat) (k:Nat):List Nat:=rwG n (fun i=>ys.getD i 0) k
def yUp (n:Nat) (ys:List Nat) (k:Nat):List Nat:=(List.range n).map fun j=>if k≤j then ys.getD j 0 else 0
section
variable {n k v:Nat} {ys:List Nat}
def qkD:(yLo n ys k).length=n:=q4C
def qkB:(yUp n ys k).length=n:=by unfold yUp; simp
def qoV:yLo n ys 0=List.replicate n 0:=qcn.symm
def yUp_n:yUp n ys n=List.replicate n 0:=by
 unfold yUp;refine List.ext_getElem? fun i=>?_;rw [List.getElem?_map,List.getElem?_replicate]
 by_cases h:i < n
 ·rw [List.getElem?_range h,if_pos h,Option.map_some,if_neg (by omega)]
 ·rw [List.getElem?_eq_none (by simpa using h),if_neg h]; rfl
def yLo_s (hl:ys.length=n) (hk:k < n):(yLo n ys k).set k v=yLo n (ys.set k v) (k+1):=by
 unfold yLo rwG;dsimp only;refine List.ext_getElem? fun i=>?_;rw [List.getElem?_set,List.getElem?_map,List.getElem?_map,List.length_map,List.length_range]
 by_cases h:i < n
 ·rw [List.getElem?_range h,Option.map_some,Option.map_some]
  by_cases h2:k=i
  ·subst h2;rw [if_pos rfl,if_pos h,if_pos (by omega),qgn (by omega)]
  ·rw [if_neg h2,qb6 (by omega)]
   by_cases h3:i < k
   ·rw [if_pos h3,if_pos (by omega)]
   ·rw [if_neg h3,if_neg (by omega)]
 ·rw [List.getElem?_eq_none (by simpa using h),if_neg (by omega)]; rfl
def yUp_s (hl:ys.length=n) (hk:k < n):(yUp n ys (k+1)).set k v=yUp n (ys.set k v) k:=by
 unfold yUp;refine List.ext_getElem? fun i=>?_;rw [List.getElem?_set,List.getElem?_map,List.getElem?_map,List.length_map,List.length_range]
 by_cases h:i < n
 ·rw [List.getElem?_range h,Option.map_some,Option.map_some]
  by_cases h2:k=i
  ·subst h2;rw [if_pos rfl,if_pos h,if_pos (by omega),qgn (by omega)]
  ·rw [if_neg h2,qb6 (by omega)]
   by_cases h3:k≤i
   ·rw [if_pos h3,if_pos (by omega)]
   ·rw [if_neg h3,if_neg (by omega)]
 ·rw [List.getElem?_eq_none (by simpa using h),if_neg (by omega)]; rfl
def yLo_n (hl:ys.length=n):yLo n ys n=ys:=by
 unfold yLo rwG;dsimp only;refine List.ext_getElem? fun i=>?_;rw [List.getElem?_map]
 by_cases h:i < n
 ·rw [List.getElem?_range h,Option.map_some,if_pos h,List.getD_eq_getElem?_getD,List.getElem?_eq_getElem (by omega)]; rfl
 ·rw [List.getElem?_eq_none (by simpa using h),List.getElem?_eq_none (by omega)]; rfl
def yUp_0 (hl:ys.length=n):yUp n ys 0=ys:=by
 unfold yUp;refine List.ext_getElem? fun i=>?_;rw [List.getElem?_map]
 by_cases h:i < n
 ·rw [List.getElem?_range h,Option.map_some,if_pos (Nat.zero_le _),List.getD_eq_getElem?_getD,List.getElem?_eq_getElem (by omega)]; rfl
 ·rw [List.getElem?_eq_none (by simpa using h),List.getElem?_eq_none (by omega)]; rfl
end

open Classical in
def qbG {l:List Nat} (hu:∀ x ∈ l,x < 18446744073709551616) (hn:l.length≤1000000):ACt 120 [pF l] (iv (if ¬ ∀ x ∈ l,q0Q x then 4 else 0)):=by
 obtain ⟨res,hres⟩:∃ res:Int,res=if ¬ ∀ x ∈ l,q0Q x then 4 else 0:=⟨_,rfl⟩
 rw [← hres];refine ac0 Tryz.func120 Tryz.ntmps120 [.tmp 2] ?_;refine wk ?_;refine q0B (fun i=>i≤l.length∧∀ x ∈ l.take i,q0Q x) [0,5,6] [] Lk Lk (fun i:Nat=>[(7,iv i)]) (fun _=>[]) (fun i=>l.length-i) 0 ⟨Nat.zero_le _,by simp⟩ ?_ ?_
 ·refine LeM [] rfl rfl ?_;refine Zz ?_
  rfl
 ·rintro i ⟨hi,hf⟩
  by_cases hil:i < l.length
  ·obtain ⟨x,hx⟩:∃ x,l[i]?=some x:=⟨_,List.getElem?_eq_getElem hil⟩;have hmx:=List.mem_of_getElem? hx;have cF:=q4J (hu x hmx)
   by_cases hfx:q0Q x
   case neg =>
    rw [decide_eq_false hfx] at cF;refine wk1 hx ?_;exact (hres.trans (if_pos fun h=>hfx (h x hmx))).symm
   rw [decide_eq_true hfx] at cF;refine wk1 hx ?_;refine ⟨i+1,⟨by omega,?_⟩,by omega,?_⟩
   ·rw [q2H hx];intro y hy
    rcases List.mem_append.1 hy with hy | hy
    ·exact hf y hy
    ·simp at hy; subst hy; exact hfx
   ·refine LeM [] rfl rfl ?_;refine Zz ?_
    rfl
  ·obtain rfl:i=l.length:=by omega
   rw [List.take_length] at hf;refine wk ?_;exact (hres.trans (if_neg (not_not_intro hf))).symm
def qp2 {e:Int} {n:Nat} {l:List Nat} (h:qbD e n l=0):e=0∧l.length=n∧∀ x ∈ l,q0Q x:=by
 unfold qbD at h
 split at h
 ·exact absurd h (by assumption)
 ·split at h
  ·cases h
  ·split at h
   ·cases h
   ·rename_i h1 h2 h3;exact ⟨Decidable.not_not.1 h1,Decidable.not_not.1 h2,Classical.not_not.1 h3⟩
def qbX {l:List Nat} (hn:l.length≤1000000):ACt 16 [pF l,pF l] (bv true):=by
 have q:((l.length:Int) != (l.length:Int))=false:=by simp
 refine ac0 Tryz.func16 Tryz.ntmps16 [.tmp 4] ?_;refine wk1 q ?_;refine q0B (fun i=>i≤l.length) [0,1] [] Lk Lk (fun i:Nat=>[(5,iv i)]) (fun _=>[]) (fun i=>l.length-i) 0 (Nat.zero_le _) ?_ ?_
 ·refine LeM [] rfl rfl ?_;refine Zz ?_
  rfl
 ·intro i hi
  by_cases hil:i < l.length
  ·obtain ⟨x,hx⟩:∃ x,l[i]?=some x:=⟨_,List.getElem?_eq_getElem hil⟩;have q2:((x:Int) != (x:Int))=false:=by simp
   refine wk1 (x2 hx q2) ?_;refine ⟨i+1,by omega,by omega,?_⟩;refine LeM [] rfl rfl ?_;refine Zz ?_
   rfl
  ·exact wk trivial
def qav {raw:List Nat} {k st:Int} {n:Nat} (hr:raw.length≤9223372036854775807) (hn:n≤1000000) (h1 : -1000000≤k) (h2:k≤1000000) (h3 : -9223372036854775808≤st) (h4:st≤9223372036854775807) :
  qiU 45 [pF raw,iv k,iv n,iv st] h0 (.ow 5000 none 0 n) (q0O h0 5000 ⟨43,none,(q80 raw k (q1V st 4) n).map fun z:Nat=>uv z,false⟩):=by
 have hJ:∀ i,¬ (h0 i≠none):=fun i h=>h rfl;refine qjh qrq Tryz.func45 rfl Tryz.ntmps45 (by kernel_rfl) ?_ ?_ ?_ ?_
 ·intro i b hb; cases hb
 ·intro i b hb
  by_cases hi:i=5000
  ·subst hi; exact ⟨by omega,by omega⟩
  ·rw [q0A hi] at hb; cases hb
 ·exact IdL.of fun x hx=>by
   simp at hx
   rcases hx with rfl | rfl | rfl | rfl <;> unfold IdP <;> trivial
 have hW:WfH h0:=⟨fun i b hb=>by cases hb⟩;refine wk ?_;refine q00 (fun i=>i≤n) [0,1,2,3] [] Lk Lk (fun i:Nat=>[(10,iv i),(9,.ow 11 none 0 i)]) (fun i=>[(11,⟨43,none,(q80 raw k (q1V st 4) i).map fun z:Nat=>uv z,false⟩)]) (fun _=>h0) (fun i=>n-i) 0 (Nat.zero_le _) ?_ ?_
 ·refine LeW [] rfl rfl ?_ ?_ (by simp [q1N,q0z,win]) ?_
  ·exact Ow
  ·exact hW
  ·try refine Zz ?_
   exact ⟨rfl,rfl⟩
 ·intro i hi
  by_cases hlt:i < n
  ·have C1:=@q6O;have C2:=@qjB;have C3:=@q28;refine wk1 @q6Q ?_;refine ⟨i+1,by omega,by omega,?_⟩;refine LeW [(11,some 26)] rfl rfl ?_ ?_ (by simp [q1N,q0z,win]) ?_
   ·exact Ow
   ·exact hW
   ·try refine Zz ?_
    exact ⟨by omega,by rw [qo1]⟩
  ·obtain rfl:i=n:=by omega
   refine wk ?_;refine (rtM (rs:=[.tmp 8]) rfl rfl Lq ?_ (.inl rfl));refine LeO hJ ?_ clU
   try simp -implicitDefEqProofs (disch:=omega) only [go_sem,Nat.reduceEqDiff,Nat.reduceAdd,↓reduceIte]
def qbC (raw:List Nat) (n:Nat) (st:Nat) (spoil:Int):List Nat :=
 if q1V spoil 9=0 then q80 raw 30 st n ++ [4607182418800017408] else if q1V spoil 9=1∧0 < n then (q80 raw 30 st n).set (q1V spoil n) (q3t raw 1) else q80 raw 30 st n
def qkj {raw:List Nat} {st spoil:Int} {n:Nat} (hr:raw.length≤9223372036854775807) (hn:n≤1000) (h3 : -9223372036854775808≤st) (h4:st≤9223372036854775807) (h5 : -9223372036854775808≤spoil) (h6:spoil≤9223372036854775807) :
  ACt 13 [pF raw,iv n,iv st,iv spoil] (pF (qbC raw n (q1V st 4) spoil)):=by
 have cV:=qav (k:=30) (st:=st) (n:=n) hr Oq Oq Oq h3 h4;have cM:=q5M (a:=spoil) (n:=9) h5 h6 Oq Oq;have hl:=q6Q (raw:=raw) (k:=30) (st:=q1V st 4) (n:=n);unfold qbC;generalize q80 raw 30 (q1V st 4) n=l at *;obtain ⟨q,hq⟩:∃ q,q=q1V spoil 9:=⟨_,rfl⟩;rw [← hq] at cM ⊢;refine ac0 Tryz.func13 Tryz.ntmps13 [.tmp 8] ?_;refine wk ?_;refine qoP fun K hK=>?_;refine Zz ?_;refine jmF cV ?_ ?_
 ·exact Ow
 try refine Zz ?_
 refine hK _ _ ?_; clear hK K;refine q1a (LeM [(1001,some 5000)] rfl rfl (xs:=[(0,pF raw),(1,iv n),(3,iv spoil),(9,.ow 1001 none 0 n)]) (kv:=[]) (bs:=[(1001,⟨43,none,l.map fun z:Nat=>uv z,false⟩)]) (kb:=[]) ?_) ?_
 ·try simp -implicitDefEqProofs (disch:=omega) only [go_sem,Nat.reduceEqDiff,Nat.reduceAdd,↓reduceIte]
 by_cases h0:q=0
 ·rw [if_pos h0];have q1:((q:Int) == 0)=true:=by simp [h0]
  refine wk1 q1 ?_;rw [List.map_append]
  rfl
 rw [if_neg h0];have q1:((q:Int) == 0)=false:=by simpa using h0
 by_cases h1:q=1
 ·have q2:((q:Int) == 1)=true:=by simp; omega
  by_cases hn0:0 < n
  ·have q3:(n:Int) > 0:=by omega
   have cM2:=q5M (a:=spoil) (n:=n) h5 h6 hn0 Oq;have cW:=q6O (raw:=raw) (k:=1) hr Oq Oq;have hm:q1V spoil n < n:=q5N hn0;rw [if_pos ⟨h1,hn0⟩];generalize q1V spoil n=m at *;have hcl:ClL ((l.map fun z:Nat=>uv z).set m (uv (q3t raw 1:Nat))):=by
    have:=clU (l:=l.set m (q3t raw 1))
    rwa [List.map_set] at this
   refine wk1 (x4 q1 q2 q3 hcl) ?_;rw [List.map_set];exact List.take_of_length_le (by simp; omega)
  ·have q3:¬ (n:Int) > 0:=by omega
   rw [if_neg fun h=>hn0 h.2];refine wk1 (x3 q1 q2 q3) ?_
   trivial
 ·have q2:((q:Int) == 1)=false:=by simp; omega
  rw [if_neg fun h=>h1 h.1];refine wk1 (x2 q1 q2) ?_
  trivial


def qgm {l:List Nat} (h:q2X l) (i:Nat):l.getD i 0 < 18446744073709551616∧q0Q (l.getD i 0):=by
 rw [List.getD_eq_getElem?_getD];cases hx:l[i]? with
 | none=>exact ⟨by simp,by unfold q0Q; simp⟩
 | some x=>exact h x (List.mem_of_getElem? hx)

section
variable {F:Nat→Nat→Option Nat} {l:List Int} {cs:List Nat} {cols:List (List Nat)} {j n M:Nat} {p:LSt}
end
def qcH {raw:List Nat} {k:Int} {st n:Nat}:q2X (q80 raw k st n):=fun x hx=>by
 unfold q80 at hx;obtain ⟨i,_,rfl⟩:=List.mem_map.1 hx;have:=qdO (k:=st) (q28 raw (k+i));exact ⟨this.2,this.1⟩
def qfm {raw:List Nat} {n st:Nat} {sp:Int}:(∀ x ∈ qbC raw n st sp,x < 18446744073709551616)∧(qbC raw n st sp).length≤n+1:=by
 have hb:q2X (q80 raw 30 st n):=qcH;have hl:(q80 raw 30 st n).length=n:=q6Q;unfold qbC
 split
 ·refine ⟨fun x hx=>?_,by simp; omega⟩
  rcases List.mem_append.1 hx with hx | hx
  ·exact (hb x hx).1
  ·simp at hx; omega
 split
 ·refine ⟨fun x hx=>?_,by rw [List.length_set]; omega⟩
  rcases List.mem_or_eq_of_mem_set hx with hx | rfl
  ·exact (hb x hx).1
  ·exact q28 raw 1
 ·exact ⟨fun x hx=>(hb x hx).1,by omega⟩

def gaS (l:List Nat) (o:List Int) (n:Nat):List Nat:=rwG n (fun k=>l.getD (o.getD k 0).toNat 0) n
def scS (x:List Nat) (o:List Int) (n:Nat):Nat→List Nat
 | 0=>List.replicate n 0
 | k+1=>(scS x o n k).set (o.getD k 0).toNat (x.getD k 0)
def q4B {x:List Nat} {o:List Int} {n:Nat}:∀ k,(scS x o n k).length=n
 | 0=>List.length_replicate
 | k+1=>by rw [scS,List.length_set,q4B k]
def qdn {l:List Nat} {o:List Int} {n:Nat}:(gaS l o n).length=n:=q4C
def qdo {l:List Nat} {o:List Int} {n:Nat} (hl:q2X l):q2X (gaS l o n):=fun x hx=>by
 unfold gaS rwG at hx;obtain ⟨j,_,rfl⟩:=List.mem_map.1 hx
 split
 ·exact qgm hl _
 ·exact ⟨by omega,by unfold q0Q; simp⟩
section
variable {l:List Nat} {o:List Int} {n:Nat}
def qbF (hl:l.length=n) (ho:o.length=n) (hn:n≤1000000) (hb:∀ x ∈ o,0≤x∧x < n):ACt 59 [pF l,pI o] (pF (gaS l o n)):=by
 unfold gaS;have hgl:∀ m,(rwG n (fun k=>l.getD (o.getD k 0).toNat 0) m).length=n:=fun _=>q4C;generalize hg:(fun k=>l.getD (o.getD k 0).toNat 0)=g at *;refine ac0 Tryz.func59 Tryz.ntmps59 [.tmp 4] ?_;refine wk1 hl ?_;refine q0B (fun k=>k≤n) [0,11,12] [] Lk Lk (fun k:Nat=>[(13,iv k),(5,.ow 1001 none 0 n)]) (fun k=>[(1001,⟨43,none,(rwG n g k).map fun z:Nat=>uv z,false⟩)]) (fun k=>n-k) 0 (Nat.zero_le _) ?_ ?_
 ·rw [← qcn];refine LeM [(1001,some 10)] rfl rfl ?_;refine Zz ?_;simp
 ·intro k hk
  by_cases hlt:k < n
  ·obtain ⟨x,hx⟩:∃ x,o[k]?=some x:=⟨_,List.getElem?_eq_getElem Oq⟩;obtain ⟨h1,h2⟩:=hb x (List.mem_of_getElem? hx);obtain ⟨x,rfl⟩:∃ y:Nat,x=y:=⟨x.toNat,by omega⟩;obtain ⟨u,hu⟩:∃ u,l[x]?=some u:=⟨_,List.getElem?_eq_getElem Oq⟩;have hs:=qfw (n:=n) (g:=g) (m:=k);have hgk:g k=u:=by rw [← hg]; simp only [getD_some hx,Int.toNat_natCast,getD_some hu]
   rw [hgk] at hs;refine wk1 (x3 hx hu (hgl k)) ?_;refine ⟨k+1,by omega,by omega,?_⟩;refine LeM [] rfl rfl ?_;refine Zz ?_;rw [← hs];exact ⟨by omega,rfl⟩
  ·obtain rfl:k=n:=by omega
   have hgk:=hgl k;exact wk1 ho trivial
def qnp (hl:l.length=n) (ho:o.length=n) (hn:n≤1000000) (hb:∀ x ∈ o,0≤x∧x < n):ACt 70 [pF l,pI o] (pF (gaS l o n)):=by
 unfold gaS;have hgl:∀ m,(rwG n (fun k=>l.getD (o.getD k 0).toNat 0) m).length=n:=fun _=>q4C;generalize hg:(fun k=>l.getD (o.getD k 0).toNat 0)=g at *;refine ac0 Tryz.func70 Tryz.ntmps70 [.tmp 4] ?_;refine wk1 ho ?_;refine q0B (fun k=>k≤n) [0,1] [] Lk Lk (fun k:Nat=>[(6,iv k),(5,.ow 1001 none 0 n)]) (fun k=>[(1001,⟨43,none,(rwG n g k).map fun z:Nat=>uv z,false⟩)]) (fun k=>n-k) 0 (Nat.zero_le _) ?_ ?_
 ·rw [← qcn];refine LeM [(1001,some 9)] rfl rfl ?_;refine Zz ?_;simp
 ·intro k hk
  by_cases hlt:k < n
  ·obtain ⟨x,hx⟩:∃ x,o[k]?=some x:=⟨_,List.getElem?_eq_getElem Oq⟩;obtain ⟨h1,h2⟩:=hb x (List.mem_of_getElem? hx);obtain ⟨x,rfl⟩:∃ y:Nat,x=y:=⟨x.toNat,by omega⟩;obtain ⟨u,hu⟩:∃ u,l[x]?=some u:=⟨_,List.getElem?_eq_getElem Oq⟩;have hs:=qfw (n:=n) (g:=g) (m:=k);have hgk:g k=u:=by rw [← hg]; simp only [getD_some hx,Int.toNat_natCast,getD_some hu]
   rw [hgk] at hs;refine wk1 (x4 ho hx hu (hgl k)) ?_;refine ⟨k+1,by omega,by omega,?_⟩;refine LeM [] rfl rfl ?_;refine Zz ?_;rw [← hs];exact ⟨by omega,rfl⟩
  ·obtain rfl:k=n:=by omega
   have hgk:=hgl k;exact wk1 ho trivial
def q8c (hl:l.length=n) (ho:o.length=n) (hn:n≤1000000) (hb:∀ x ∈ o,0≤x∧x < n):qiU 66 [pF l,pI o] h0 (.ow 5000 none 0 n) (q0O h0 5000 ⟨43,none,(scS l o n n).map fun z:Nat=>uv z,false⟩):=by
 have hJ:∀ i,¬ (h0 i≠none):=fun i h=>h rfl;refine qjh qrk Tryz.func66 rfl Tryz.ntmps66 (by kernel_rfl) ?_ ?_ ?_ ?_
 ·intro i b hb; cases hb
 ·exact qbP
 ·exact IdL.of fun x hx=>by
   simp at hx
   rcases hx with rfl | rfl <;> unfold IdP <;> trivial
 have hW:WfH h0:=⟨fun i b hb=>by cases hb⟩;refine wk1 hl ?_;refine q00 (fun k=>k≤n) [0,11,12] [] Lk Lk (fun k:Nat=>[(13,iv k),(5,.ow 1001 none 0 n)]) (fun k=>[(1001,⟨43,none,(scS l o n k).map fun z:Nat=>uv z,false⟩)]) (fun _=>h0) (fun k=>n-k) 0 (Nat.zero_le _) ?_ ?_
 ·refine LeW [(1001,some 10)] rfl rfl ?_ ?_ (by simp [q1N,q0z,win]) ?_
  ·exact Ow
  ·exact hW
  ·rw [scS]
   try refine Zz ?_
   simp
 ·intro k hk
  by_cases hlt:k < n
  ·obtain ⟨x,hx⟩:∃ x,o[k]?=some x:=⟨_,List.getElem?_eq_getElem Oq⟩;obtain ⟨h1,h2⟩:=hb x (List.mem_of_getElem? hx);obtain ⟨x,rfl⟩:∃ y:Nat,x=y:=⟨x.toNat,by omega⟩;obtain ⟨u,hu⟩:∃ u,l[k]?=some u:=⟨_,List.getElem?_eq_getElem Oq⟩;have hs:scS l o n (k+1)=(scS l o n k).set x u:=by rw [scS,getD_some hx,Int.toNat_natCast,getD_some hu]
   have hsl:=q4B (x:=l) (o:=o) (n:=n) k;refine wk1 (x3 hx hu hsl) ?_;refine ⟨k+1,by omega,by omega,?_⟩;refine LeW [] rfl rfl ?_ ?_ (by simp [q1N,q0z,win]) ?_
   ·exact Ow
   ·exact hW
   ·try refine Zz ?_
    exact ⟨by omega,hs.symm⟩
  ·obtain rfl:k=n:=by omega
   refine wk1 ho ?_;refine (rtM (rs:=[.tmp 4]) rfl rfl Lq ?_ (.inl rfl));refine LeO hJ ?_ clU
   try simp -implicitDefEqProofs (disch:=omega) only [go_sem,Nat.reduceEqDiff,Nat.reduceAdd,↓reduceIte]
def q8X (hl:l.length=n) (ho:o.length=n) (hn:n≤1000000) (hb:∀ x ∈ o,0≤x∧x < n):qiU 74 [pF l,pI o] h0 (.ow 5000 none 0 n) (q0O h0 5000 ⟨43,none,(scS l o n n).map fun z:Nat=>uv z,false⟩):=by
 have hJ:∀ i,¬ (h0 i≠none):=fun i h=>h rfl;refine qjh qri Tryz.func74 rfl Tryz.ntmps74 (by kernel_rfl) ?_ ?_ ?_ ?_
 ·intro i b hb; cases hb
 ·exact qbP
 ·exact IdL.of fun x hx=>by
   simp at hx
   rcases hx with rfl | rfl <;> unfold IdP <;> trivial
 have hW:WfH h0:=⟨fun i b hb=>by cases hb⟩;refine wk1 ho ?_;refine q00 (fun k=>k≤n) [0,1] [] Lk Lk (fun k:Nat=>[(6,iv k),(5,.ow 1001 none 0 n)]) (fun k=>[(1001,⟨43,none,(scS l o n k).map fun z:Nat=>uv z,false⟩)]) (fun _=>h0) (fun k=>n-k) 0 (Nat.zero_le _) ?_ ?_
 ·refine LeW [(1001,some 9)] rfl rfl ?_ ?_ (by simp [q1N,q0z,win]) ?_
  ·exact Ow
  ·exact hW
  ·rw [scS]
   try refine Zz ?_
   simp
 ·intro k hk
  by_cases hlt:k < n
  ·obtain ⟨x,hx⟩:∃ x,o[k]?=some x:=⟨_,List.getElem?_eq_getElem Oq⟩;obtain ⟨h1,h2⟩:=hb x (List.mem_of_getElem? hx);obtain ⟨x,rfl⟩:∃ y:Nat,x=y:=⟨x.toNat,by omega⟩;obtain ⟨u,hu⟩:∃ u,l[k]?=some u:=⟨_,List.getElem?_eq_getElem Oq⟩;have hs:scS l o n (k+1)=(scS l o n k).set x u:=by rw [scS,getD_some hx,Int.toNat_natCast,getD_some hu]
   have hsl:=q4B (x:=l) (o:=o) (n:=n) k;refine wk1 (x4 ho hx hu hsl) ?_;refine ⟨k+1,by omega,by omega,?_⟩;refine LeW [] rfl rfl ?_ ?_ (by simp [q1N,q0z,win]) ?_
   ·exact Ow
   ·exact hW
   ·try refine Zz ?_
    exact ⟨by omega,hs.symm⟩
  ·obtain rfl:k=n:=by omega
   refine wk1 ho ?_;refine (rtM (rs:=[.tmp 4]) rfl rfl Lq ?_ (.inl rfl));refine LeO hJ ?_ clU
   try simp -implicitDefEqProofs (disch:=omega) only [go_sem,Nat.reduceEqDiff,Nat.reduceAdd,↓reduceIte]
end
section
variable {n k z:Nat} {rows:Nat→List Int} {l:List PV}
def q71 {j:Nat} (h:qb4 (q7O n rows) (q6W 64 56 (some 4) 5000 10000 n (q8d rows) k z l) j):j=k+10000:=by
 obtain ⟨_,h2,h3⟩:=h;unfold q6W at h3
 split at h3
 ·assumption
 ·split at h3
  ·cases h3
  ·split at h3
   ·cases h3
   ·exact (h2 h3).elim
def q90 (hn:n≤1000) (hk:k < n) (hl:(rows k).length≤1000) (hb:∀ z ∈ rows k,bl z.natAbs≤67600):ACt 62 [.sl none ((List.range n).map fun j=>.sl (some 4) ((rows j).map fun V=>pV V)),iv k] (dT (q0v (rows k))):=by
 have hd:=q77 hb Oq;have C1:=qcA (l:=rows k) hl (fun z hz=>by have:=hb z hz; unfold q0b; omega) hd;have rk:(List.range n)[k]?=some k:=List.getElem?_range hk;refine ac0 Tryz.func62 Tryz.ntmps62 [.cell 4 56] ?_;exact wk1 rk trivial
def qeT {z:Int}:q7P (q8d rows) k ((rows k ++ [z]).map fun V=>pV V)=q8d (q3v rows k z):=by
 funext j
 unfold q7P q8d q3v
 by_cases h:j=k
 ·subst h; rw [if_pos rfl,if_pos rfl]
 ·rw [if_neg h,if_neg h]
end
def qkS {st ix:List Int} {vs b:List Nat} {n:Nat} {E:Nat→List (Nat × Nat)} (hC:ColS n st ix vs E) (hbn:b.length=n) (hb:q2X b) (hn:n≤30) :
  ACt 58 [pI st,pI ix,pF vs,pF b] (fwP (geL (fun i c=>ctV (E c) i) n 0 b)):=by
 obtain ⟨D,hD⟩:∃ D:Nat→Nat→Nat,D=fun i c=>ctV (E c) i:=⟨_,rfl⟩;have hDv:=fun r k=>congrFun (congrFun hD r) k;rw [← hD];clear hD;obtain ⟨R,hR⟩:∃ R,R=geL D n 0 b:=⟨_,rfl⟩;rw [← hR];have cB:=qes hb Oq;rw [hbn] at cB;have hnn:n*n≤30*30:=Nat.mul_le_mul hn hn;refine ac0 Tryz.func58 Tryz.ntmps58 [.tmp 8,.tmp 9] ?_;refine wk ?_;refine A_jW [(0,pI st),(1,pI ix),(2,pF vs),(3,pF b),(10,.ow 5000 none 0 n),(11,.ow 18 none 0 n)] [(18,⟨43,none,(yLo n b 0).map fun z:Nat=>uv z,false⟩)] (q7O n (bgR b n)) ?_ fun K0 fin=>?_
 rotate_left
 ·refine q6L q24 (.one 0 (.one 2 (.one 3 (.alt (.one 1 (.one 5 (.one 4 (.one 6 .fin)))) (.one 4 (.one 1 (.one 5 (.one 6 .fin)))))))) (by kernel_rfl) fun K9 hK9=>?_;refine Zz1 hbn ?_;refine ⟨?_,?_⟩
  ·refine jmF cB ?_ ?_
   ·exact Ow
   ·try refine Zz ?_
    refine hK9 _ _ (fin _ _ ?_);refine LeW [] rfl rfl ?_ ?_ (by simp [q1N,q0z,win]) ?_
    ·exact Ow
    ·exact wfB (q0p Oq)
    ·try refine Zz ?_
     exact qoV.symm
  ·refine jmF cB ?_ ?_
   ·exact Ow
   ·try refine Zz ?_
    refine hK9 _ _ (fin _ _ ?_);refine LeW [] rfl rfl ?_ ?_ (by simp [q1N,q0z,win]) ?_
    ·exact Ow
    ·exact wfB (q0p Oq)
    ·try refine Zz ?_
     exact qoV.symm
 refine wk1 hbn ?_;refine q00 (fun q:Nat × List Nat × (Nat→List Int)=>q.1≤n∧q.2.1.length=n∧q2X q.2.1∧RLo D n q.1 q.2.1 q.2.2∧RB q.2.2 (q.1*n+1)∧geL D (n-q.1) q.1 q.2.1=R) [0,1,2,10,20] [] Lk Lk (fun q=>[(21,iv q.1),(11,.ow 1001 none 0 n)]) (fun q=>[(1001,⟨43,none,(yLo n q.2.1 q.1).map fun z:Nat=>uv z,false⟩)]) (fun q=>q7O n q.2.2) (fun q=>n-q.1) (0,b,bgR b n) ⟨Nat.zero_le _,hbn,hb,RLo.bg hbn,by rw [Nat.zero_mul]; exact RB.bg hb,hR.symm⟩ ?_ ?_
 ·refine LeW [(1001,some 18)] rfl rfl ?_ ?_ (by simp [q1N,q0z,win]) ?_
  ·exact Ow
  ·exact wfB (q0p Oq)
  ·try refine Zz ?_
   rfl
 ·rintro ⟨k,ys,rows⟩ ⟨hk,hy,hfy,hlo,hrb,hv⟩;simp only at hk hy hfy hlo hrb hv ⊢;have hkn:k*n≤30*30:=Nat.mul_le_mul Oq hn
  by_cases hlt:k < n
  ·have hlt':(k:Int) < n:=by omega
   obtain ⟨a,a1,a2,a3,a4⟩:=hC.col k hlt;have hnd:=hC.nd k hlt;have hsz:=hC.sz k hlt;have hcl:=hC.len;obtain ⟨L,hL⟩:∃ L,L=E k:=⟨_,rfl⟩;rw [← hL] at a2 a3 a4 hnd hsz;have cT:=q90 (rows:=rows) (k:=k) Oq hlt (by have:=hrb.l k; omega) (hrb.b k);have hd:=q77 (hrb.b k) (by have:=hrb.l k; omega);have cR:=qeN hd;have nd:=qqP hd;rw [hlo.v hlt] at cT cR nd;rw [show n-k=(n-(k+1))+1 by omega,geL] at hv;have hqlt:fR 0 (loZ D ys k) < 18446744073709551616:=q7z;have hls:=fun v=>hlo.s (E:=E) (v:=v) Oq (by rwa [← hL]) (fun r=>hDv r k);rw [← hL] at hls;generalize loZ D ys k=S at *;generalize fR 0 S=v at *;have cF:=q4J hqlt;have hyl:=qkD (n:=n) (ys:=ys) (k:=k);have hys:=yLo_s (v:=v) hy hlt;have hset:((yLo n ys k).map fun z:Nat=>uv z).set k (uv (v:Nat))=(yLo n (ys.set k v) (k+1)).map fun z:Nat=>uv z:=by rw [← hys,List.map_set]
   have hset2:(((yLo n ys k).map fun z:Nat=>uv z).set k (uv (v:Nat)))[k]?=some (uv (v:Nat)):=List.getElem?_set_self (by rw [List.length_map,hyl]; exact hlt)
   by_cases hfx:q0Q v
   ·rw [decide_eq_true hfx] at cF;rw [if_pos hfx] at hv;refine wk1 (x4 hlt' hyl hset2 a1) ?_;rw [hset] at hset2 ⊢;have hLf:∀ e ∈ L,q0Q e.2∧e.2 < 18446744073709551616:=fun e he=>by
     obtain ⟨t,ht⟩:=List.mem_iff_getElem?.1 he;obtain ⟨_,_,_,q4,q5⟩:=a4 t e ht;exact ⟨q4,q5⟩
    have hBL:=fun t=>hrb.ps (L:=L.take t) hfx fun e he=>(hLf e (List.mem_of_mem_take he)).1;refine q00 (fun t:Nat=>t≤L.length) [0,1,2,10,11,12,20,21] [1001] Lk Lk (fun t=>[(13,iv ((a+t:Nat):Int))]) (fun _=>[]) (fun t=>q7O n (psE v (L.take t) rows)) (fun t=>L.length-t) 0 (Nat.zero_le _) ?_ ?_
    ·refine LeW [] rfl rfl ?_ ?_ (by simp [q1N,q0z,win]) ?_
     ·exact Ow
     ·exact wfB (q0p Oq)
     ·try simp -implicitDefEqProofs (disch:=omega) only [go_sem,Nat.reduceEqDiff,Nat.reduceAdd,↓reduceIte]
    ·intro t ht;have wkk:IntKind.i64.wrap ((k:Int)+1)=((k+1:Nat):Int):=by rw [i64_in (by omega) (by omega)]; omega
     by_cases hlt2:t < L.length
     ·obtain ⟨⟨i,w⟩,e1⟩:∃ e,L[t]?=some e:=⟨_,List.getElem?_eq_getElem hlt2⟩;obtain ⟨b1,b2,b3,b4,b5⟩:=a4 t (i,w) e1;dsimp only at b1 b2 b3 b4 b5;have hq:((a+t:Nat):Int) < ((a+L.length:Nat):Int):=by omega
      have wt:IntKind.i64.wrap (((a+t:Nat):Int)+1)=((a+(t+1):Nat):Int):=by rw [i64_in (by omega) (by omega)]; omega
      have hps:psE v (L.take (t+1)) rows=q3v (psE v (L.take t) rows) i (-(q2D w v)):=qqD e1;have hli:(psE v (L.take t) rows i).length≤2000:=by have:=(hBL t).l i; rw [List.length_take] at this; omega
      have cX:=q5o (rows:=psE v (L.take t) rows) (k:=i) (n:=n) (a:=w) (c:=v) Oq b3 hli ⟨b4,b5⟩ ⟨hfx,hqlt⟩;generalize psE v (L.take t) rows=rs at *;have hgn:=fun j=>q71 (j:=j) (n:=n) (rows:=rs) (k:=i) (z:=900000) (l:=(rs i ++ [-(q2D w v)]).map fun V=>pV V);refine wk1 (x3 hq a2 wkk) ?_;refine q6L q24 (.one 0 (.one 1 (.one 2 (.one 3 (.one 5 (.one 6 (.one 7 (.one 9 (.one 10 (.one 11 (.alt (.one 4 (.alt (.one 8 (.one 12 (.one 13 .fin))) (.one 12 (.one 8 (.one 13 .fin))))) (.alt (.one 8 (.alt (.one 4 (.one 12 (.one 13 .fin))) (.one 12 (.one 4 (.one 13 .fin))))) (.one 12 (.alt (.one 4 (.one 8 (.one 13 .fin))) (.one 8 (.one 4 (.one 13 .fin))))))))))))))))) (by kernel_rfl) fun K9 hK9=>?_;refine Zz3 b1 b2 hset2 ?_;have fin:∀ (s:Nat→PV) (h:Hp),Le (fun _=>False) s h (stM [(0,pI st),(1,pI ix),(2,pF vs),(10,.ow 5000 none 0 n),(11,.ow 1001 none 0 n),(12,iv k),(13,iv ((a+t:Nat):Int)),(20,iv n),(21,iv k)] []) (q0m (q7O n (q3v rs i (-(q2D w v)))) (hpM [(1001,⟨43,none,(yLo n (ys.set k v) (k+1)).map fun z:Nat=>uv z,false⟩)] []))→K9 s h:=fun s h hl=>by
       refine hK9 _ _ (q1a hl ?_);clear hK9 hl K9;refine wk1 wt ?_;refine ⟨t+1,by omega,by omega,?_⟩;rw [hps];refine LeW [] rfl rfl ?_ ?_ (by simp [q1N,q0z,win]) ?_
       ·exact Ow
       ·exact wfB (q0p Oq)
       ·try simp -implicitDefEqProofs (disch:=omega) only [go_sem,Nat.reduceEqDiff,Nat.reduceAdd,↓reduceIte]
      clear hK9
      repeat' (with_reducible apply And.intro)
      all_goals
       refine jx cX q3Q (fun _ h=>h.elim) (qiP (a:=i+10000) hgn ?_ ?_) ?_
       ·repeat (refine qag ?_ (by first | (unfold IdP; first | trivial | omega) | simp [IdP,IdL]))
        first | exact (fun t=>by unfold stV IdP; trivial) | exact qfE (by simp [IdL,IdP]; omega) (by simp [IdL,IdP]) | exact qfE (by simp [IdL,IdP]) (by simp [IdL,IdP])
       ·repeat (refine qam ?_ rfl (by first | exact qed clU | simp [IdL,IdP]))
        exact qiO (qfK (fun p hp b hb=>by simp at hp; subst hp; cases hb; exact ⟨rfl,qed clU⟩) (by simp))
       ·try refine Zz ?_
        refine fin _ _ ?_;unfold q7O;rw [← qeT];refine q6X (r:=900000) (k:=i) (row:=q8d rs) (fun _ h=>h) b3 clV ?_ ?_ (fun i h1 h2 h3 h4=>?_) (fun _ _=>clV) BOk.h0 (.inr ⟨by omega,by omega⟩) (by omega) (by omega) (by omega) (by simp [nmW]) ?_
        ·rw [q0T ⟨by omega,by omega⟩];unfold q6W;rw [if_neg (by omega),if_neg (by omega),if_pos rfl]
        ·rw [q0T ⟨by omega,by omega⟩];unfold q6W;rw [if_neg (by omega),if_pos rfl]
        ·rw [q0T h1];unfold q6W;rw [if_neg h3,if_neg h4,if_neg h2]
        ·try simp -implicitDefEqProofs (disch:=omega) only [go_sem,Nat.reduceEqDiff,Nat.reduceAdd,↓reduceIte]
     ·obtain rfl:t=L.length:=by omega
      have hq:¬ ((a+L.length:Nat):Int) < ((a+L.length:Nat):Int):=by omega
      have hB2:=hBL L.length;rw [List.take_length] at hB2 ⊢;refine wk1 (x3 hq a2 wkk) ?_;refine ⟨(k+1,ys.set k v,psE v L rows),⟨hlt,by simp only; rw [List.length_set]; exact hy,q3c hfy hqlt hfx,hls v,hB2.mono (by rw [Nat.succ_mul]; omega),hv⟩,by simp only; omega,?_⟩;simp only;refine LeW [] rfl rfl ?_ ?_ (by simp [q1N,q0z,win]) ?_
      ·exact Ow
      ·exact wfB (q0p Oq)
      ·try simp -implicitDefEqProofs (disch:=omega) only [go_sem,Nat.reduceEqDiff,Nat.reduceAdd,↓reduceIte]
   ·rw [decide_eq_false hfx] at cF;rw [if_neg hfx] at hv;subst hv;unfold fwP;exact wk1 (x3 hlt' hyl hset2) trivial
  ·obtain rfl:n=k:=by omega
   have hlt':¬ (n:Int) < n:=by omega
   rw [Nat.sub_self,geL] at hv;subst hv;have e:=yLo_n hy;unfold fwP;exact wk1 (x3 hlt' e hy) trivial
end Go.Proofs.YtjfjjmfhfbapeaaGreatDoor
namespace Go.E
open Go Go.RowKit
def LeE {J:Nat→Prop} {h:Hp} {a n:Nat} {T:TypeId} {xs:List PV} {e:Value} (hJ:∀ i,¬ J i) (hb:h a=some ⟨T,none,xs,false⟩) (hc:ClL xs):Le J (fun _=>.tu [.ow a none 0 n,.vl e]) h (fun _=>.tu [.ow 5000 none 0 n,.vl e]) (q0O h0 5000 ⟨T,none,xs,false⟩):=by
 refine q4d (fun i=>if i=5000 then some a else none) (fun i b' hb'=>?_) (fun i j k b c hi hj ti tj=>?_) (fun _=>.tu rfl fun i x y hx hy=>?_) fun i hi=>(hJ i hi).elim
 ·by_cases hi:i=5000
  ·subst hi;rw [q0J] at hb'; cases hb';unfold LeB;exact ⟨_,hb,rfl,rfl,⟨rfl,rfl⟩,q0R rfl hc⟩
  ·rw [q0A hi] at hb'; cases hb'
 ·split at ti
  ·split at tj
   ·rename_i e1 e2; rw [e1,e2]
   ·cases tj
  ·cases ti
 ·rcases i with _ | _ | i
  ·cases hx; cases hy; exact .ow (if_pos rfl) q0J
  ·cases hx; cases hy; exact .cl trivial
  ·simp at hx
def LeEn {J:Nat→Prop} {h:Hp} {T:TypeId} {e:Value} (hJ:∀ i,¬ J i):Le J (fun _=>.tu [.vl (.slice none 0 0),.vl e]) h (fun _=>.tu [.ow 5000 none 0 0,.vl e]) (q0O h0 5000 ⟨T,none,[],false⟩):=by
 refine q4d (fun _=>none) (fun i b' hb'=>?_) (fun i j k b c hi hj ti tj=>by cases ti) (fun _=>.tu rfl fun i x y hx hy=>?_) fun i hi=>(hJ i hi).elim
 ·by_cases hi:i=5000
  ·subst hi;rw [q0J] at hb'; cases hb'
   rfl
  ·rw [q0A hi] at hb'; cases hb'
 ·rcases i with _ | _ | i
  ·cases hx; cases hy; exact .nilow rfl q0J rfl
  ·cases hx; cases hy; exact .cl trivial
  ·simp at hx
end Go.E
namespace Go.Proofs.YtjfjjmfhfbapeaaGreatDoor
open Go Go.E Go.Sp
def cLo (f:LUt) (i c:Nat):Nat:=ctV (q6u f.ls f.li f.lv c) i
def cUp (f:LUt) (i c:Nat):Nat:=ctV (q6u f.us f.ui f.uv c) i
open Classical in
noncomputable def lgE (f:LUt) (l:List Nat):List Nat × Int :=
 if qbD (q7S f) f.rows.length l≠0 then ([],qbD (q7S f) f.rows.length l) else
  match geL (cLo f) f.rows.length 0 (gaS l f.rows f.rows.length) with
  | none=>([],233)
  | some y=>match geU (cUp f) f.rows.length f.rows.length y with
   | none=>([],233)
   | some z=>(scS z f.cols f.rows.length f.rows.length,0)
def q8V (n:Nat) (g:Nat→Nat→Nat) (k:Nat):List Nat:=(List.range n).map (g k)
def qpy {n:Nat} {g:Nat→Nat→Nat} {k:Nat}:rU n g k=(q8V n g k).map fun z:Nat=>uv z:=by
 unfold rU q8V;rw [List.map_map]
 rfl
def q4k {n:Nat} {g:Nat→Nat→Nat} {k c:Nat} (hc:c < n):(q8V n g k)[c]?=some (g k c):=by
 unfold q8V;rw [List.getElem?_map,List.getElem?_range hc]; rfl
def q68 {n:Nat} {g:Nat→Nat→Nat} {k:Nat}:(q8V n g k).length=n:=by unfold q8V; simp
def rst_L {g:Nat→Nat→Nat} {D:Nat→Nat→Nat} {n k:Nat} {ys:List Nat} (hk:k < n) (hy:ys.length=n) (h:∀ c,c < k→g k c=D k c):q0v (q7g (ofZ (ys.getD k 0)) ((q8V n g k).take k) (ys.take k) k)=loZ D ys k:=by
 rw [qcq];unfold loZ
 congr 1
 refine q32 k fun i hi=>?_;have h1:((q8V n g k).take k)[i]?=some (g k i):=by rw [List.getElem?_take,if_pos hi]; exact q4k (by omega)
 obtain ⟨y,hy2⟩:∃ y,ys[i]?=some y:=⟨_,List.getElem?_eq_getElem Oq⟩;have h2:(ys.take k)[i]?=some y:=by rw [List.getElem?_take,if_pos hi]; exact hy2
 rw [getD_some h1,getD_some h2,getD_some hy2,h i hi]
def rst_U {g:Nat→Nat→Nat} {D:Nat→Nat→Nat} {n k:Nat} {ys:List Nat} (hk:k < n) (hy:ys.length=n) (h:∀ c,c < n→g k c=D k c):q0v (q7g (ofZ (ys.getD k 0)) ((q8V n g k).drop (k+1)) (ys.drop (k+1)) (n-(k+1)))=upZ D ys n k:=by
 rw [qcq];unfold upZ
 congr 1
 refine q32 (n-(k+1)) fun i hi=>?_;have h1:((q8V n g k).drop (k+1))[i]?=some (g k (k+1+i)):=by rw [List.getElem?_drop]; exact q4k (by omega)
 obtain ⟨y,hy2⟩:∃ y,ys[k+1+i]?=some y:=⟨_,List.getElem?_eq_getElem Oq⟩;have h2:(ys.drop (k+1))[i]?=some y:=by rw [List.getElem?_drop]; exact hy2
 rw [getD_some h1,getD_some h2,getD_some hy2,h _ (by omega)]
def qbz {l:List Nat} {o:List Int} {n:Nat} (hl:l.length=n) (ho:o.length=n) (hn:n≤1000000) (hb:∀ x ∈ o,0≤x∧x < n):qiU 70 [pF l,pI o] h0 (.ow 5000 none 0 n) (q0O h0 5000 ⟨43,none,(gaS l o n).map fun z:Nat=>uv z,false⟩):=by
 have hJ:∀ i,¬ (h0 i≠none):=fun i h=>h rfl;unfold gaS;have hgl:∀ m,(rwG n (fun k=>l.getD (o.getD k 0).toNat 0) m).length=n:=fun _=>q4C;generalize hg:(fun k=>l.getD (o.getD k 0).toNat 0)=g at *;refine qjh qrj Tryz.func70 rfl Tryz.ntmps70 (by kernel_rfl) ?_ ?_ ?_ ?_
 ·intro i b hb; cases hb
 ·exact qbP
 ·exact IdL.of fun x hx=>by
   simp at hx
   rcases hx with rfl | rfl <;> unfold IdP <;> trivial
 have hW:WfH h0:=⟨fun i b hb=>by cases hb⟩;refine wk1 ho ?_;refine q00 (fun k=>k≤n) [0,1] [] Lk Lk (fun k:Nat=>[(6,iv k),(5,.ow 1001 none 0 n)]) (fun k=>[(1001,⟨43,none,(rwG n g k).map fun z:Nat=>uv z,false⟩)]) (fun _=>h0) (fun k=>n-k) 0 (Nat.zero_le _) ?_ ?_
 ·rw [← qcn];refine LeW [(1001,some 9)] rfl rfl ?_ ?_ (by simp [q1N,q0z,win]) ?_
  ·exact Ow
  ·exact hW
  ·try refine Zz ?_
   simp
 ·intro k hk
  by_cases hlt:k < n
  ·obtain ⟨x,hx⟩:∃ x,o[k]?=some x:=⟨_,List.getElem?_eq_getElem Oq⟩;obtain ⟨h1,h2⟩:=hb x (List.mem_of_getElem? hx);obtain ⟨x,rfl⟩:∃ y:Nat,x=y:=⟨x.toNat,by omega⟩;obtain ⟨u,hu⟩:∃ u,l[x]?=some u:=⟨_,List.getElem?_eq_getElem Oq⟩;have hs:=qfw (n:=n) (g:=g) (m:=k);have hgk:g k=u:=by rw [← hg]; simp only [getD_some hx,Int.toNat_natCast,getD_some hu]
   rw [hgk] at hs;refine wk1 (x4 ho hx hu (hgl k)) ?_;refine ⟨k+1,by omega,by omega,?_⟩;refine LeW [] rfl rfl ?_ ?_ (by simp [q1N,q0z,win]) ?_
   ·exact Ow
   ·exact hW
   ·try refine Zz ?_
    rw [← hs];exact ⟨by omega,rfl⟩
  ·obtain rfl:k=n:=by omega
   have hgk:=hgl k;refine wk1 ho ?_;refine (rtM (rs:=[.tmp 4]) rfl rfl Lq ?_ (.inl rfl));refine LeO hJ ?_ clU
   try simp -implicitDefEqProofs (disch:=omega) only [go_sem,Nat.reduceEqDiff,Nat.reduceAdd,↓reduceIte]
def qq0 {f:LUt} {l:List Nat}:IdL win [pLU f,pF l]:=IdL.of fun x hx=>by
 simp at hx
 rcases hx with rfl | rfl
 ·unfold pLU IdP;unfold IdL IdL IdL IdL IdL IdL IdL IdL IdL;unfold IdP;exact ⟨trivial,trivial,trivial,trivial,trivial,trivial,trivial,trivial,trivial⟩
 ·unfold IdP; trivial
def qjz {f:LUt} {l:List Nat} (hb:LUb f) (hn:f.rows.length≤100) (hul:∀ x ∈ l,x < 18446744073709551616) (hl:l.length≤1000000) :
  qiU 15 [pLU f,pF l] h0 (.tu [.ow 5000 none 0 (lgE f l).1.length,iv (lgE f l).2]) (q0O h0 5000 ⟨43,none,(lgE f l).1.map fun z:Nat=>uv z,false⟩):=by
 have hJ:∀ i,¬ (h0 i≠none):=fun i h=>h rfl;have cK:=qkA hb;have cS:=qfW (e:=q7S f) (n:=f.rows.length) hul hl;refine qjh qru Tryz.func15 rfl Tryz.ntmps15 (by kernel_rfl) ?_ ?_ ?_ ?_
 ·intro i b hb; cases hb
 ·exact qbP
 ·exact qq0
 unfold lgE
 by_cases hz0:qbD (q7S f) f.rows.length l=0
 case neg =>
  rw [if_pos hz0];generalize qbD (q7S f) f.rows.length l=e at *;generalize q7S f=e2 at *;have q:(e != 0)=true:=by simpa using hz0
  unfold pLU at *;dsimp only at *;refine wk1 q ?_;refine (rtM (rs:=[.tmp 4,.tmp 5]) rfl rfl Lq ?_ (.inl rfl));exact LeEn hJ
 rw [if_neg (not_not_intro hz0)];rw [hz0] at cS;obtain ⟨h1,h2,h3⟩:=qp2 hz0;rw [h1] at cK cS;have hf:=qfI hb h1;have hfl:q2X l:=fun x hx=>⟨hul x hx,h3 x hx⟩;have hrb:∀ x ∈ f.rows,0≤x∧x < f.rows.length:=fun x hx=>hf.rp.2.1 x hx;have hcb:∀ x ∈ f.cols,0≤x∧x < f.rows.length:=fun x hx=>hf.cp.2.1 x hx;have hcl:f.cols.length=f.rows.length:=by have:=hf.cp.1; omega
 have cG:=qbz (l:=l) (o:=f.rows) (n:=f.rows.length) h2 rfl Oq hrb;have hgl:=qdn (l:=l) (o:=f.rows) (n:=f.rows.length);have hgf:=qdo (o:=f.rows) (n:=f.rows.length) hfl;generalize gaS l f.rows f.rows.length=g at *;have cD:=qhf (f:=f) rfl hn hf.L hf.U;have vL:∀ {i j:Nat},i < f.rows.length→j < i→dnT (dnD f.rows.length) (q6u f.ls f.li f.lv) f.rows.length i j=cLo f i j:=fun hi hj=>dnL_v hf.L.nd Oq hj;have vU:∀ {i j:Nat},j < f.rows.length→dnT (fun _ _=>0) (q6u f.us f.ui f.uv) f.rows.length i j=cUp f i j:=fun hj=>dnU_v hf.U.nd hj;have fL:∀ {i j:Nat},j < f.rows.length→cLo f i j < 18446744073709551616∧q0Q (cLo f i j):=fun hj=>qe5 hf.L hj;have fU:∀ {i j:Nat},j < f.rows.length→cUp f i j < 18446744073709551616∧q0Q (cUp f i j):=fun hj=>qe5 hf.U hj;have dU:∀ k,k < f.rows.length→ofZ (cUp f k k)≠0:=fun k hk=>by
  obtain ⟨m,x,m1,m2,m3⟩:=hf.dg k hk;have:=qe4 (t:=m.length) (e:=(k,x)) (hf.U.nd k hk) (by rw [m1]; simp);unfold cUp;rw [this];exact m2
 obtain ⟨gl,hgl2⟩:∃ q,q=dnT (dnD f.rows.length) (q6u f.ls f.li f.lv) f.rows.length:=⟨_,rfl⟩;obtain ⟨gu,hgu2⟩:∃ q,q=dnT (fun _ _=>0) (q6u f.us f.ui f.uv) f.rows.length:=⟨_,rfl⟩;rw [← hgl2,← hgu2] at cD;simp only [← hgl2] at vL;simp only [← hgu2] at vU;clear hgl2 hgu2 hf;generalize cLo f=DL at *;generalize cUp f=DU at *;generalize hnn:f.rows.length=n at *;unfold pLU at *;obtain ⟨F,hF⟩:∃ F:List Nat→List Nat × Int,F=fun y=>(match geU DU n n y with
   | none=>([],233)
   | some z=>(scS z f.cols n n,(0:Int))):=⟨_,rfl⟩
 obtain ⟨res,hres⟩:∃ q,q=(match geL DL n 0 g with
  | none=>([],233)
  | some y=>F y):=⟨_,rfl⟩
 have hres':=hres;rw [hF] at hres';rw [← hres'];clear hres';refine wk1 hnn ?_;refine qoP fun K hK=>?_;refine Zz1 hnn ?_;refine jm cG ?_ (fun i hi=>(hi trivial).elim) ?_
 ·change Wn _ _;exact Ow
 try refine Zz ?_
 refine hK _ _ ?_; clear hK K;clear cG;have hW:WfH h0:=⟨fun i b hb=>by cases hb⟩;refine wk ?_;refine q1a (LeT (hw:=h0) (fun i=>if i=1001 then some 5000 else if i=5000 then none else some i) (fun i hi=>(hJ i hi).elim) (fun i hi hw=>?_) (fun i b hw hb=>?_) (fun i j x hi hj ti tj=>?_) (xs:=[(2,.pt 2 0 0),(6,iv n),(8,tU n gl),(9,tU n gu),(10,.ow 1001 none 0 n),(11,iv 0)]) (kv:=[]) (bs:=[(2,⟨26,some 8,[.ag [pI f.rows,pI f.cols,pI f.ls,pI f.li,pF f.lv,pI f.us,pI f.ui,pF f.uv]],false⟩),(1001,⟨43,none,g.map fun z:Nat=>uv z,false⟩)]) (kb:=[]) ?_) ?_
 ·simp at hi;unfold win at hw;omega
 ·cases hb
 ·have a1:∀ i,(win i∧(h0:Hp) i≠none∨i ∈ List.map (·.1) [(2,(⟨26,some 8,[.ag [pI f.rows,pI f.cols,pI f.ls,pI f.li,pF f.lv,pI f.us,pI f.ui,pF f.uv]],false⟩:Bk)),(1001,⟨43,none,g.map fun z:Nat=>uv z,false⟩)] ++ [])→i=2∨i=1001:=fun i hi=>by
   rcases hi with ⟨_,hi⟩ | hi
   ·exact absurd rfl hi
   ·simpa using hi
  rcases a1 i hi with rfl | rfl <;> rcases a1 j hj with rfl | rfl <;> simp at ti tj <;> omega
 ·try simp -implicitDefEqProofs (disch:=omega) only [go_sem,Nat.reduceEqDiff,Nat.reduceAdd,↓reduceIte]
 refine q00 (fun q:Nat × List Nat=>q.1≤n∧q.2.length=n∧q2X q.2∧(match geL DL (n-q.1) q.1 q.2 with | none=>([],233) | some y=>F y)=res) [2,6,8,9] [2] Lk Lk (fun q=>[(11,iv q.1),(10,.ow 1001 none 0 n)]) (fun q=>[(1001,⟨43,none,q.2.map fun z:Nat=>uv z,false⟩)]) (fun _=>h0) (fun q=>n-q.1) (0,g) ⟨Nat.zero_le _,hgl,hgf,hres.symm⟩ ?_ ?_
 ·refine LeW [] rfl rfl ?_ ?_ (by simp [q1N,q0z,win]) ?_
  ·exact Ow
  ·exact hW
  ·try refine Zz ?_
   rfl
 ·rintro ⟨k,ys⟩ ⟨hk,hy,hfy,hv⟩;simp only at hk hy hfy hv ⊢
  by_cases hlt:k < n
  ·have hlt':(k:Int) < n:=by omega
   obtain ⟨u,hu⟩:∃ u,ys[k]?=some u:=⟨_,List.getElem?_eq_getElem Oq⟩;obtain ⟨u1,u2⟩:=hfy u (List.mem_of_getElem? hu);have rk:(List.range n)[k]?=some k:=List.getElem?_range hlt;have hrf:q2X ((q8V n gl k).take k):=fun x hx=>by
    obtain ⟨c,hc⟩:=List.mem_iff_getElem?.1 hx;have hck:c < k:=by have:=(List.getElem?_eq_some_iff.1 hc).1; rw [List.length_take] at this; omega
    rw [List.getElem?_take,if_pos hck,q4k (by omega)] at hc;cases hc;rw [vL hlt hck];exact fL Oq
   have hrl:((q8V n gl k).take k).length=k:=by rw [List.length_take,q68]; omega
   have hS:=rst_L (g:=gl) (D:=DL) (n:=n) (k:=k) (ys:=ys) hlt hy fun c hc=>vL hlt hc;rw [getD_some hu] at hS;rw [show n-k=(n-(k+1))+1 by omega,geL] at hv;have cR:=q9T (B:=ofZ u) (l:=(q8V n gl k).take k) (x:=ys.take k) (q2w u2) hrf (qeI hfy) (by rw [hrl,List.length_take]; omega) (by omega);rw [hrl,hS] at cR;generalize loZ DL ys k=S at *;unfold pF at cR;rw [List.map_take,List.map_take,← qpy] at cR;have cZ:=qjA (V:=S);have cO1:=q2e u1 (q04 u2);have cQ:=@q8f S;have hqlt:fR 0 S < 18446744073709551616:=q7z;generalize fR 0 S=v at *;have cF:=q1w hqlt;have es1:slP (some 1) none (some (iv (k:Int))) (.sl none (rU n gl k))=some (.sl none ((rU n gl k).take k)):=by
    simp [slP,q8J,ksz];omega
   have es2:slP (some 1) none (some (iv (k:Int))) (.ow 1001 none 0 n)=some (.ow 1001 none 0 k):=by
    simp [slP,q8J,ksz];omega
   have hset:((ys.map fun z:Nat=>uv z).set k (uv (v:Nat)))[k]?=some (uv (v:Nat)):=List.getElem?_set_self (by rw [List.length_map]; omega)
   by_cases hfx:q0Q v
   ·rw [decide_eq_true hfx] at cF;rw [if_pos hfx] at hv;refine wk1 (x6 hlt' hu rk es1 es2 (x2 hy hset)) ?_;refine ⟨(k+1,ys.set k v),⟨by simp only; omega,by simp only; rw [List.length_set]; exact hy,q3c hfy hqlt hfx,hv⟩,by simp only; omega,?_⟩;simp only;refine LeW [] rfl rfl ?_ ?_ (by simp [q1N,q0z,win]) ?_
    ·exact Ow
    ·exact hW
    ·try refine Zz ?_
     rfl
   ·rw [decide_eq_false hfx] at cF;rw [if_neg hfx] at hv;subst hv;refine wk1 (x6 hlt' hu rk es1 es2 (x2 hy hset)) ?_;refine (rtM (rs:=[.tmp 4,.tmp 5]) rfl rfl Lq ?_ (.inl rfl));exact LeEn hJ
  ·obtain rfl:n=k:=by omega
   have hlt':¬ (n:Int) < n:=by omega
   rw [Nat.sub_self,geL] at hv;simp only [hF] at hv;clear hF hres;refine wk1 hlt' ?_;refine q00 (fun q:Nat × List Nat=>q.1≤n∧q.2.length=n∧q2X q.2∧(match geU DU n q.1 q.2 with | none=>([],233) | some z=>(scS z f.cols n n,(0:Int)))=res) [2,6,8,9] [2] Lk Lk (fun q=>[(12,iv ((q.1:Int)-1)),(10,.ow 1001 none 0 n)]) (fun q=>[(1001,⟨43,none,q.2.map fun z:Nat=>uv z,false⟩)]) (fun _=>h0) (fun q=>q.1) (n,ys) ⟨Nat.le_refl _,hy,hfy,hv⟩ ?_ ?_
   ·refine LeW [] rfl rfl ?_ ?_ (by simp [q1N,q0z,win]) ?_
    ·exact Ow
    ·exact hW
    ·try simp -implicitDefEqProofs (disch:=omega) only [go_sem,Nat.reduceEqDiff,Nat.reduceAdd,↓reduceIte]
   ·clear hv hy hfy;rintro ⟨k,ys⟩ ⟨hk,hy,hfy,hv⟩;simp only at hk hy hfy hv ⊢
    by_cases hlt:k=0
    ·subst hlt;rw [geU] at hv;simp only at hv;subst hv;have cS2:=q8X (l:=ys) (o:=f.cols) hy hcl Oq hcb;have hsl:=q4B (x:=ys) (o:=f.cols) (n:=n) n;dsimp only;rw [hsl];generalize scS ys f.cols n n=x at *;refine wk ?_;refine q1a (LeT (hw:=h0) (fun i=>if i=1001 then none else some i) (fun i hi=>(hJ i hi).elim) (fun i hi hw=>?_) (fun i b hw hb=>?_) (fun i j x hi hj ti tj=>?_) (xs:=[(2,.pt 2 0 0),(10,pF ys)]) (kv:=[]) (bs:=[(2,⟨26,some 8,[.ag [pI f.rows,pI f.cols,pI f.ls,pI f.li,pF f.lv,pI f.us,pI f.ui,pF f.uv]],false⟩)]) (kb:=[]) ?_) ?_
     ·simp at hi;unfold win at hw;omega
     ·cases hb
     ·split at ti <;> split at tj <;> cases ti <;> cases tj <;> rfl
     ·try refine Zz ?_
      try exact qai rfl clU (fun i hi=>by split at hi <;> cases hi; omega) (by rw [List.drop_zero]; exact List.take_of_length_le (by rw [List.length_map]; omega))
     refine qoP fun K hK=>?_;refine Zz ?_;refine jm cS2 ?_ (fun i hi=>(hi trivial).elim) ?_
     ·change Wn _ _;exact Ow
     try refine Zz ?_
     refine hK _ _ ?_; clear hK K;refine wk ?_;refine (rtM (rs:=[.tmp 4,.tmp 5]) rfl rfl Lq ?_ (.inl rfl));refine LeE hJ ?_ clU
     try simp -implicitDefEqProofs (disch:=omega) only [go_sem,Nat.reduceEqDiff,Nat.reduceAdd,↓reduceIte]
    ·obtain ⟨k,rfl⟩:∃ k',k=k'+1:=⟨k-1,by omega⟩;have hkn:k < n:=by omega
     obtain ⟨u,hu⟩:∃ u,ys[k]?=some u:=⟨_,List.getElem?_eq_getElem Oq⟩;obtain ⟨u1,u2⟩:=hfy u (List.mem_of_getElem? hu);have rk:(List.range n)[k]?=some k:=List.getElem?_range hkn;have hrf:q2X (q8V n gu k):=fun x hx=>by
      obtain ⟨c,hc⟩:=List.mem_iff_getElem?.1 hx;have hck:c < n:=by have:=(List.getElem?_eq_some_iff.1 hc).1; rwa [q68] at this
      rw [q4k hck] at hc;cases hc;rw [vU hck];exact fU hck
     have hrl:((q8V n gu k).drop (k+1)).length=n-(k+1):=by rw [List.length_drop,q68]
     have hS:=rst_U (g:=gu) (D:=DU) (n:=n) (k:=k) (ys:=ys) hkn hy fun c hc=>vU hc;rw [getD_some hu] at hS;rw [geU] at hv;have cR:=q9T (B:=ofZ u) (l:=(q8V n gu k).drop (k+1)) (x:=ys.drop (k+1)) (q2w u2) (q7x hrf) (q7x hfy) (by rw [hrl,List.length_drop]; omega) (by omega);rw [hrl,hS] at cR;have hdz:=dU k hkn;have hkk:=vU (i:=k) (j:=k) hkn;obtain ⟨d1,d2⟩:=fU (i:=k) (j:=k) hkn;rw [← hkk] at hdz d1 d2 hv;generalize upZ DU ys n k=S at *;unfold pF at cR;rw [List.map_drop,List.map_drop,← qpy] at cR;have cZ:=qjA (V:=S);have cO1:=q2e u1 (q04 u2);have cO2:=q2e d1 (q04 d2);have cQ:=qby (qdC (A:=S) (mode:=0) hdz);have hqlt:fQ 0 S (ofZ (gu k k)) < 18446744073709551616:=qh1 hdz;generalize fQ 0 S (ofZ (gu k k))=v at *;have cF:=q1w hqlt;have ek:((k+1:Nat):Int)-1=(k:Int):=by omega
     have wj:(k:Int)+1=((k+1:Nat):Int):=rfl;have ww:IntKind.i64.wrap ((k+1:Nat):Int)=((k+1:Nat):Int):=i64_in Oq Oq;have es1:slP (some 1) (some (iv ((k+1:Nat):Int))) none (.sl none (rU n gu k))=some (.sl none ((rU n gu k).drop (k+1))):=by
      simp [slP,q8J,ksz];rw [if_pos (by omega),Option.bind_some,if_pos (by omega),List.take_of_length_le (by simp [rU])]
     have es2:slP (some 1) (some (iv ((k+1:Nat):Int))) none (.ow 1001 none 0 n)=some (.ow 1001 none (k+1) (n-(k+1))):=by
      simp [slP,q8J,ksz];rw [if_pos (by omega),Option.bind_some,if_pos (by omega)]
     have htk:((ys.map fun z:Nat=>uv z).drop (k+1)).take (n-(k+1))=(ys.map fun z:Nat=>uv z).drop (k+1):=List.take_of_length_le (by rw [List.length_drop,List.length_map]; omega);have hset:((ys.map fun z:Nat=>uv z).set k (uv (v:Nat)))[k]?=some (uv (v:Nat)):=List.getElem?_set_self (by rw [List.length_map]; omega)
     by_cases hfx:q0Q v
     ·rw [decide_eq_true hfx] at cF;rw [if_pos hfx] at hv;refine wk1 (x6 ek wj ww htk hu (x4 rk es1 es2 hset)) ?_;refine ⟨(k,ys.set k v),⟨by simp only; omega,by simp only; rw [List.length_set]; exact hy,q3c hfy hqlt hfx,hv⟩,by simp only; omega,?_⟩;simp only;refine LeW [] rfl rfl ?_ ?_ (by simp [q1N,q0z,win]) ?_
      ·exact Ow
      ·exact hW
      ·try simp -implicitDefEqProofs (disch:=omega) only [go_sem,Nat.reduceEqDiff,Nat.reduceAdd,↓reduceIte]
     ·rw [decide_eq_false hfx] at cF;rw [if_neg hfx] at hv;subst hv;refine wk1 (x6 ek wj ww htk hu (x4 rk es1 es2 hset)) ?_;refine (rtM (rs:=[.tmp 4,.tmp 5]) rfl rfl Lq ?_ (.inl rfl));exact LeEn hJ
def qfv {l:List Nat} {n:Nat} (hu:∀ x ∈ l,x < 18446744073709551616) (hl:l.length≤1000000) (hn:n≤1000000):ACt 57 [pF l,iv n] (iv (qbD 0 n l)):=by
 have cF:=qbG hu hl;unfold qbD;rw [if_neg (not_not_intro rfl)];refine ac0 Tryz.func57 Tryz.ntmps57 [.tmp 4] ?_
 by_cases h:l.length=n
 ·have q:((l.length:Int) != (n:Int))=false:=by simp; omega
  rw [if_neg (not_not_intro h)];generalize (if ¬ ∀ x ∈ l,q0Q x then (4:Int) else 0)=z at *;exact wk1 q trivial
 ·have q:((l.length:Int) != (n:Int))=true:=by simp; omega
  rw [if_pos h];exact wk1 q trivial
noncomputable def lgF (DU:Nat→Nat→Nat) (n:Nat) (o:List Int) (K:Nat) (ys:List Nat):List Nat × Int:=match geU DU n K ys with
 | none=>([],233)
 | some z=>(scS z o n n,0)
def lgF_s {DU:Nat→Nat→Nat} {n:Nat} {o:List Int} {k:Nat} {ys:List Nat}:lgF DU n o (k+1) ys=if q0Q (fQ 0 (upZ DU ys n k) (ofZ (DU k k))) then lgF DU n o k (ys.set k (fQ 0 (upZ DU ys n k) (ofZ (DU k k)))) else ([],233):=by
 unfold lgF;rw [geU]
 by_cases h:q0Q (fQ 0 (upZ DU ys n k) (ofZ (DU k k)))
 ·rw [if_pos h,if_pos h]
 ·rw [if_neg h,if_neg h]
def lgF_0 {DU:Nat→Nat→Nat} {n:Nat} {o:List Int} {ys:List Nat}:lgF DU n o 0 ys=(scS ys o n n,0):=rfl
def qku {f:LUt} {l:List Nat} (hb:LUb f) (hn:f.rows.length≤30) (hul:∀ x ∈ l,x < 18446744073709551616) (hl:l.length≤1000000) :
  ACt 14 [pLU f,pF l] (.tu [pF (lgE f l).1,iv (lgE f l).2]):=by
 have cK:=ql4 hb;have cV:=qfv (n:=f.rows.length) hul hl Oq;unfold lgE
 by_cases hc:q7S f=0
 case neg =>
  have hs:qbD (q7S f) f.rows.length l=q7S f:=if_pos hc;rw [hs,if_pos hc];generalize q7S f=e at *;have q1:(e == 0)=false:=by simpa using hc
  have q2:(e != 0)=true:=by simpa using hc
  unfold pLU at *;dsimp only;refine ac0 Tryz.func14 Tryz.ntmps14 [.tmp 4,.tmp 5] ?_;exact wk1 (x2 q1 q2) trivial
 rw [hc]
 by_cases hz0:qbD 0 f.rows.length l=0
 case neg =>
  rw [if_pos hz0];rw [hc] at cK;generalize qbD 0 f.rows.length l=e at *;have q2:(e != 0)=true:=by simpa using hz0
  unfold pLU at *;dsimp only;refine ac0 Tryz.func14 Tryz.ntmps14 [.tmp 4,.tmp 5] ?_;exact wk1 q2 trivial
 rw [if_neg (not_not_intro hz0)];rw [hc] at cK;rw [hz0] at cV;obtain ⟨_,h2,h3⟩:=qp2 hz0;have hf:=qfI hb hc;have hfl:q2X l:=fun x hx=>⟨hul x hx,h3 x hx⟩;have hrb:∀ x ∈ f.rows,0≤x∧x < f.rows.length:=fun x hx=>hf.rp.2.1 x hx;have hcb:∀ x ∈ f.cols,0≤x∧x < f.rows.length:=fun x hx=>hf.cp.2.1 x hx;have hcl:f.cols.length=f.rows.length:=by have:=hf.cp.1; omega
 have cG:=qbF (l:=l) (o:=f.rows) (n:=f.rows.length) h2 rfl Oq hrb;have hgl:=qdn (l:=l) (o:=f.rows) (n:=f.rows.length);have hgf:=qdo (o:=f.rows) (n:=f.rows.length) hfl;generalize gaS l f.rows f.rows.length=g at *;have cU:=qkS hf.L hgl hgf hn;have hlr:∀ y,geL (cLo f) f.rows.length 0 g=some y→y.length=f.rows.length∧q2X y:=fun y hy=>qdm _ _ g y hgl hgf hy;have ec:cLo f=fun i c=>ctV (q6u f.ls f.li f.lv c) i:=rfl;rw [← ec] at cU;clear ec;generalize geL (cLo f) f.rows.length 0 g=R1 at *;cases R1 with
 | none =>
  unfold fwP at cU;unfold pLU at *;dsimp only;refine ac0 Tryz.func14 Tryz.ntmps14 [.tmp 4,.tmp 5] ?_;exact wk trivial
 | some b =>
  obtain ⟨hbn,hbf⟩:=hlr b rfl;unfold fwP at cU;have hDv:=fun r k=>show cUp f r k=ctV (q6u f.us f.ui f.uv k) r from rfl;have hC:=hf.U;have hdg:=hf.dg;clear hf hlr;change ACt _ _ (.tu [pF (lgF (cUp f) f.rows.length f.cols f.rows.length b).1,iv (lgF (cUp f) f.rows.length f.cols f.rows.length b).2]);have h00:=fun ys=>lgF_0 (DU:=cUp f) (n:=f.rows.length) (o:=f.cols) (ys:=ys);have hss:=fun k ys=>lgF_s (DU:=cUp f) (n:=f.rows.length) (o:=f.cols) (k:=k) (ys:=ys);generalize lgF (cUp f) f.rows.length f.cols=W at *;generalize cUp f=D at *;generalize q6u f.us f.ui f.uv=E at *;generalize hnn:f.rows.length=n at *;obtain ⟨res,hres⟩:∃ r,r=W n b:=⟨_,rfl⟩;rw [← hres];have cB:=qes hbf Oq;rw [hbn] at cB;have hnn2:n*n≤30*30:=Nat.mul_le_mul hn hn;unfold pLU at *;refine ac0 Tryz.func14 Tryz.ntmps14 [.tmp 4,.tmp 5] ?_;refine wk1 hnn ?_;refine A_jW [(2,.pt 2 0 0),(7,pF b),(8,.ow 5000 none 0 n),(9,.ow 46 none 0 n)] [(2,⟨26,some 8,[.ag [pI f.rows,pI f.cols,pI f.ls,pI f.li,pF f.lv,pI f.us,pI f.ui,pF f.uv]],false⟩),(46,⟨43,none,(yUp n b n).map fun z:Nat=>uv z,false⟩)] (q7O n (bgR b n)) ?_ fun K0 fin=>?_
  rotate_left
  ·refine q6L q24 (.one 0 (.one 2 (.one 3 (.alt (.one 1 (.one 5 (.one 4 (.one 6 .fin)))) (.one 4 (.one 1 (.one 5 (.one 6 .fin)))))))) (by kernel_rfl) fun K9 hK9=>?_;refine Zz1 hbn ?_;refine ⟨?_,?_⟩
   all_goals
    refine jmF cB ?_ ?_
    ·exact Ow
    ·try refine Zz ?_
     refine hK9 _ _ (fin _ _ ?_);refine LeW [] rfl rfl ?_ ?_ (by simp [q1N,q0z,win]) ?_
     ·exact Ow
     ·exact wfB (q0p Oq)
     ·try refine Zz ?_
      exact yUp_n.symm
  refine wk1 hbn ?_;refine q00 (fun q:Nat × List Nat × (Nat→List Int)=>q.1≤n∧q.2.1.length=n∧q2X q.2.1∧RUp D n q.1 q.2.1 q.2.2∧RB q.2.2 ((n-q.1)*n+1)∧W q.1 q.2.1=res) [2,8] [2] Lk Lk (fun q=>[(10,iv ((q.1:Int)-1)),(9,.ow 1001 none 0 n)]) (fun q=>[(1001,⟨43,none,(yUp n q.2.1 q.1).map fun z:Nat=>uv z,false⟩)]) (fun q=>q7O n q.2.2) (fun q=>q.1) (n,b,bgR b n) ⟨Nat.le_refl _,hbn,hbf,RUp.bg hbn,by rw [Nat.sub_self,Nat.zero_mul]; exact RB.bg hbf,hres.symm⟩ ?_ ?_
  ·refine LeW [(1001,some 46)] rfl rfl ?_ ?_ (by simp [q1N,q0z,win]) ?_
   ·exact Ow
   ·exact wfB (q0p Oq)
   ·try simp -implicitDefEqProofs (disch:=omega) only [go_sem,Nat.reduceEqDiff,Nat.reduceAdd,↓reduceIte]
  ·rintro ⟨K,ys,rows⟩ ⟨hk,hy,hfy,hlo,hrb,hv⟩;simp only at hk hy hfy hlo hrb hv ⊢
   by_cases hK0:K=0
   ·subst hK0;rw [h00] at hv;subst hv;have e:=yUp_0 hy;have cS:=q8c (l:=ys) (o:=f.cols) hy hcl Oq hcb;have hsl:=q4B (x:=ys) (o:=f.cols) (n:=n) n;dsimp only;generalize scS ys f.cols n n=zs at *;rw [e];refine wk ?_;refine q1a (LeT (hw:=h0) (fun i=>if i=1001 then none else some i) (fun i hi=>hi.elim) (fun i hi hw=>?_) (fun i b hw hb=>?_) (fun i j x hi hj ti tj=>?_) (xs:=[(2,.pt 2 0 0),(9,pF ys)]) (kv:=[]) (bs:=[(2,⟨26,some 8,[.ag [pI f.rows,pI f.cols,pI f.ls,pI f.li,pF f.lv,pI f.us,pI f.ui,pF f.uv]],false⟩)]) (kb:=[]) ?_) ?_
    ·simp at hi;unfold win at hw;omega
    ·cases hb
    ·split at ti <;> split at tj <;> cases ti <;> cases tj <;> rfl
    ·try refine Zz ?_
     exact qai rfl clU (fun i hi=>by split at hi <;> cases hi; omega) (by rw [List.drop_zero]; exact List.take_of_length_le (by rw [List.length_map]; omega))
    refine qoP fun K hK=>?_;refine Zz ?_;refine jmF cS ?_ ?_
    ·exact Ow
    try refine Zz ?_
    refine hK _ _ ?_; clear hK K;exact wk1 hsl trivial
   ·obtain ⟨k,rfl⟩:∃ k,K=k+1:=⟨K-1,by omega⟩;have hlt:k < n:=by omega
    have ek:((k+1:Nat):Int)-1=(k:Int):=by omega
    have wj:(k:Int)+1=((k+1:Nat):Int):=rfl;have ww:IntKind.i64.wrap ((k+1:Nat):Int)=((k+1:Nat):Int):=i64_in Oq Oq;have hkn:(n-(k+1))*n≤30*30:=Nat.mul_le_mul Oq hn;obtain ⟨a,a1,a2,a3,a4⟩:=hC.col k hlt;obtain ⟨L,x,hL,hx0,hL1⟩:=hdg k hlt;have hnd:=hC.nd k hlt;have hsz:=hC.sz k hlt;have hcl2:=hC.len;have hUs:=fun v=>hlo.s (E:=E) (v:=v) (x:=x) (m:=L) hlt Oq hnd hL (fun r=>hDv r k);have hxx:D k k=x:=by rw [hDv]; exact qe4 (t:=L.length) (e:=(k,x)) hnd (by rw [hL]; simp)
    rw [hL,List.length_append,List.length_singleton] at a2 a3 hsz;rw [hL] at a4 hnd;obtain ⟨_,x1,_,x2,x3⟩:=a4 L.length (k,x) (by simp);dsimp only at x1 x2 x3;have cT:=q90 (rows:=rows) (k:=k) Oq hlt (by have:=hrb.l k; omega) (hrb.b k);have hd:=q77 (hrb.b k) (by have:=hrb.l k; omega);have nd:=qqP hd;rw [hlo.v] at cT nd hd;rw [hss,hxx] at hv;have hqlt:fQ 0 (upZ D ys n k) (ofZ x) < 18446744073709551616:=qh1 hx0;have cO:=q6B x3 (q04 x2);have cQ:=qeO hd (q9r x2) hx0;generalize upZ D ys n k=S at *;generalize fQ 0 S (ofZ x)=v at *;have cF:=q4J hqlt;have hyl:=qkB (n:=n) (ys:=ys) (k:=k+1);have hys:=yUp_s (v:=v) hy hlt;have hset:((yUp n ys (k+1)).map fun z:Nat=>uv z).set k (uv (v:Nat))=(yUp n (ys.set k v) k).map fun z:Nat=>uv z:=by rw [← hys,List.map_set]
    have hset2:(((yUp n ys (k+1)).map fun z:Nat=>uv z).set k (uv (v:Nat)))[k]?=some (uv (v:Nat)):=List.getElem?_set_self (by rw [List.length_map,hyl]; exact hlt);have wl:IntKind.i64.wrap (((a+(L.length+1):Nat):Int)-1)=((a+L.length:Nat):Int):=by rw [i64_in (by omega) (by omega)]; omega
    by_cases hfx:q0Q v
    ·rw [decide_eq_true hfx] at cF;rw [if_pos hfx] at hv;refine wk1 (x6 ek wj ww a1 a2 (x4 wl hyl x1 hset2)) ?_;rw [hset] at hset2 ⊢;have hLf:∀ e ∈ L,q0Q e.2∧e.2 < 18446744073709551616:=fun e he=>by
      obtain ⟨t,ht⟩:=List.mem_iff_getElem?.1 he;obtain ⟨_,_,_,q4,q5⟩:=a4 t e (by rw [List.getElem?_append_left (List.getElem?_eq_some_iff.1 ht).1]; exact ht);exact ⟨q4,q5⟩
     have hBL:=fun t=>hrb.ps (L:=L.take t) hfx fun e he=>(hLf e (List.mem_of_mem_take he)).1;refine q00 (fun t:Nat=>t≤L.length) [2,8,9,10,11] [2,1001] Lk Lk (fun t=>[(12,iv ((a+t:Nat):Int))]) (fun _=>[]) (fun t=>q7O n (psE v (L.take t) rows)) (fun t=>L.length-t) 0 (Nat.zero_le _) ?_ ?_
     ·refine LeW [] rfl rfl ?_ ?_ (by simp [q1N,q0z,win]) ?_
      ·exact Ow
      ·exact wfB (q0p Oq)
      ·try simp -implicitDefEqProofs (disch:=omega) only [go_sem,Nat.reduceEqDiff,Nat.reduceAdd,↓reduceIte]
     ·intro t ht
      by_cases hlt2:t < L.length
      ·obtain ⟨⟨i,w⟩,e1⟩:∃ e,L[t]?=some e:=⟨_,List.getElem?_eq_getElem hlt2⟩;obtain ⟨b1,b2,b3,b4,b5⟩:=a4 t (i,w) (by rw [List.getElem?_append_left hlt2]; exact e1);dsimp only at b1 b2 b3 b4 b5;have hq:((a+t:Nat):Int) < ((a+L.length:Nat):Int):=by omega
       have wt:IntKind.i64.wrap (((a+t:Nat):Int)+1)=((a+(t+1):Nat):Int):=by rw [i64_in (by omega) (by omega)]; omega
       have hps:psE v (L.take (t+1)) rows=q3v (psE v (L.take t) rows) i (-(q2D w v)):=qqD e1;have hli:(psE v (L.take t) rows i).length≤2000:=by have:=(hBL t).l i; rw [List.length_take] at this; omega
       have cX:=q5o (rows:=psE v (L.take t) rows) (k:=i) (n:=n) (a:=w) (c:=v) Oq b3 hli ⟨b4,b5⟩ ⟨hfx,hqlt⟩;generalize psE v (L.take t) rows=rs at *;have hgn:=fun j=>q71 (j:=j) (n:=n) (rows:=rs) (k:=i) (z:=900000) (l:=(rs i ++ [-(q2D w v)]).map fun V=>pV V);refine wk1 hq ?_;refine q6L q24 (.one 0 (.one 1 (.one 3 (.one 6 (.one 8 (.one 11 (.one 12 (.one 13 (.alt (.one 2 (.one 4 (.alt (.one 5 (.alt (.one 7 (.one 9 (.alt (.one 10 (.one 14 (.one 15 .fin))) (.one 14 (.one 10 (.one 15 .fin)))))) (.one 14 (.one 7 (.one 9 (.one 10 (.one 15 .fin))))))) (.alt (.one 7 (.one 9 (.alt (.one 5 (.alt (.one 10 (.one 14 (.one 15 .fin))) (.one 14 (.one 10 (.one 15 .fin))))) (.alt (.one 10 (.alt (.one 5 (.one 14 (.one 15 .fin))) (.one 14 (.one 5 (.one 15 .fin))))) (.one 14 (.alt (.one 5 (.one 10 (.one 15 .fin))) (.one 10 (.one 5 (.one 15 .fin))))))))) (.one 14 (.alt (.one 5 (.one 7 (.one 9 (.one 10 (.one 15 .fin))))) (.one 7 (.one 9 (.alt (.one 5 (.one 10 (.one 15 .fin))) (.one 10 (.one 5 (.one 15 .fin)))))))))))) (.alt (.one 7 (.one 9 (.alt (.one 2 (.one 4 (.alt (.one 5 (.alt (.one 10 (.one 14 (.one 15 .fin))) (.one 14 (.one 10 (.one 15 .fin))))) (.alt (.one 10 (.alt (.one 5 (.one 14 (.one 15 .fin))) (.one 14 (.one 5 (.one 15 .fin))))) (.one 14 (.alt (.one 5 (.one 10 (.one 15 .fin))) (.one 10 (.one 5 (.one 15 .fin))))))))) (.alt (.one 10 (.alt (.one 2 (.one 4 (.alt (.one 5 (.one 14 (.one 15 .fin))) (.one 14 (.one 5 (.one 15 .fin)))))) (.one 14 (.one 2 (.one 4 (.one 5 (.one 15 .fin))))))) (.one 14 (.alt (.one 2 (.one 4 (.alt (.one 5 (.one 10 (.one 15 .fin))) (.one 10 (.one 5 (.one 15 .fin)))))) (.one 10 (.one 2 (.one 4 (.one 5 (.one 15 .fin))))))))))) (.one 14 (.alt (.one 2 (.one 4 (.alt (.one 5 (.one 7 (.one 9 (.one 10 (.one 15 .fin))))) (.one 7 (.one 9 (.alt (.one 5 (.one 10 (.one 15 .fin))) (.one 10 (.one 5 (.one 15 .fin))))))))) (.one 7 (.one 9 (.alt (.one 2 (.one 4 (.alt (.one 5 (.one 10 (.one 15 .fin))) (.one 10 (.one 5 (.one 15 .fin)))))) (.one 10 (.one 2 (.one 4 (.one 5 (.one 15 .fin)))))))))))))))))))) (by kernel_rfl) fun K9 hK9=>?_
       refine Zz3 b1 b2 hset2 ?_;have fin:∀ (s:Nat→PV) (h:Hp),Le (fun _=>False) s h (stM [(2,.pt 2 0 0),(8,.ow 5000 none 0 n),(9,.ow 1001 none 0 n),(10,iv k),(11,iv ((a+L.length:Nat):Int)),(12,iv ((a+t:Nat):Int))] []) (q0m (q7O n (q3v rs i (-(q2D w v)))) (hpM [(2,⟨26,some 8,[.ag [pI f.rows,pI f.cols,pI f.ls,pI f.li,pF f.lv,pI f.us,pI f.ui,pF f.uv]],false⟩),(1001,⟨43,none,(yUp n (ys.set k v) k).map fun z:Nat=>uv z,false⟩)] []))→K9 s h:=fun s h hl=>by
        refine hK9 _ _ (q1a hl ?_);clear hK9 hl K9;refine wk1 wt ?_;refine ⟨t+1,by omega,by omega,?_⟩;rw [hps];refine LeW [] rfl rfl ?_ ?_ (by simp [q1N,q0z,win]) ?_
        ·exact Ow
        ·exact wfB (q0p Oq)
        ·try simp -implicitDefEqProofs (disch:=omega) only [go_sem,Nat.reduceEqDiff,Nat.reduceAdd,↓reduceIte]
       clear hK9
       repeat' (with_reducible apply And.intro)
       all_goals
        refine jx cX q3Q (fun _ h=>h.elim) (qiP (a:=i+10000) hgn ?_ ?_) ?_
        ·repeat (refine qag ?_ (by first | (unfold IdP; first | trivial | omega) | simp [IdP,IdL]))
         first | exact (fun t=>by unfold stV IdP; trivial) | exact qfE (by simp [IdL,IdP]; omega) (by simp [IdL,IdP]) | exact qfE (by simp [IdL,IdP]) (by simp [IdL,IdP])
        ·repeat (refine qam ?_ rfl (by first | exact qed clU | simp [IdL,IdP]))
         exact qiO (qfK (fun p hp b hb=>by
          simp at hp
          rcases hp with rfl | rfl <;> cases hb
          ·exact ⟨rfl,by simp [IdL,IdP]⟩
          ·exact ⟨rfl,qed clU⟩) (by simp))
        ·try refine Zz ?_
         refine fin _ _ ?_;unfold q7O;rw [← qeT];refine q6X (r:=900000) (k:=i) (row:=q8d rs) (fun _ h=>h) b3 clV ?_ ?_ (fun i h1 h2 h3 h4=>?_) (fun _ _=>clV) BOk.h0 (.inr ⟨by omega,by omega⟩) (by omega) (by omega) (by omega) (by simp [nmW]) ?_
         ·rw [q0T ⟨by omega,by omega⟩];unfold q6W;rw [if_neg (by omega),if_neg (by omega),if_pos rfl]
         ·rw [q0T ⟨by omega,by omega⟩];unfold q6W;rw [if_neg (by omega),if_pos rfl]
         ·rw [q0T h1];unfold q6W;rw [if_neg h3,if_neg h4,if_neg h2]
         ·try simp -implicitDefEqProofs (disch:=omega) only [go_sem,Nat.reduceEqDiff,Nat.reduceAdd,↓reduceIte]
      ·obtain rfl:t=L.length:=by omega
       have hq:¬ ((a+L.length:Nat):Int) < ((a+L.length:Nat):Int):=by omega
       have hB2:=hBL L.length;rw [List.take_length] at hB2 ⊢;refine wk1 hq ?_;refine ⟨(k,ys.set k v,psE v L rows),⟨by simp only; omega,by simp only; rw [List.length_set]; exact hy,q3c hfy hqlt hfx,hUs v,hB2.mono (by rw [show n-k=(n-(k+1))+1 by omega,Nat.succ_mul]; omega),hv⟩,by simp only; omega,?_⟩;simp only;refine LeW [] rfl rfl ?_ ?_ (by simp [q1N,q0z,win]) ?_
       ·exact Ow
       ·exact wfB (q0p Oq)
       ·try simp -implicitDefEqProofs (disch:=omega) only [go_sem,Nat.reduceEqDiff,Nat.reduceAdd,↓reduceIte]
    ·rw [decide_eq_false hfx] at cF;rw [if_neg hfx] at hv;subst hv;exact wk1 (x6 ek wj ww a1 a2 (x4 wl hyl x1 hset2)) trivial
def rgL (G:Nat→Nat→Option Nat) (i:Nat):Nat→List Int
 | 0=>[qqM]
 | k+1=>if k=i then rgL G i k else rgL G i k ++ [((ofZ ((G k i).getD 0)).natAbs:Int),((ofZ ((G i k).getD 0)).natAbs:Int)]
def rgF (G:Nat→Nat→Option Nat) (n j i:Nat):Option Nat:=if i=j then some (fR 2 (q0v (rgL G i n))) else G j i
def qcu {G:Nat→Nat→Option Nat} {n i:Nat} (h:TOk G n n) (hi:i < n):∀ k,k≤n→(rgL G i k).length≤2*k+1∧∀ x ∈ rgL G i k,bl x.natAbs≤67600
 | 0,_=>⟨Nat.le_refl _,fun x hx=>by unfold rgL at hx; simp at hx; subst hx; exact q8j.2⟩
 | k+1,hk=>by
  obtain ⟨h1,h2⟩:=qcu h hi k Oq;unfold rgL
  split
  ·exact ⟨by omega,h2⟩
  ·refine ⟨by simp; omega,fun x hx=>?_⟩
   rcases List.mem_append.1 hx with hx | hx
   ·exact h2 x hx
   ·simp at hx
    rcases hx with rfl | rfl <;> rw [Int.natAbs_natCast]
    ·exact q2w (h.fin Oq Oq).1
    ·exact q2w (h.fin Oq Oq).1
def qbK {raw:List Nat} {st:Int} {n:Nat} (hr:raw.length≤9223372036854775807) (hn:n≤100) (h3 : -9223372036854775808≤st) (h4:st≤9223372036854775807) :
  ACt 55 [pF raw,iv n,iv st] (pT n n (rgF (gF raw n (q1V (q1V st 3:Nat) 4)) n)):=by
 have hs3:q1V st 3 < 3:=by unfold q1V; omega
 have hnn:n*n≤100*100:=Nat.mul_le_mul hn hn;have cM:=q5M (a:=st) (n:=3) h3 h4 Oq Oq;have cG:=q8v (raw:=raw) (st:=(q1V st 3:Nat)) (R:=n) (C:=n) hr Oq Oq Oq Oq;have hG:=qqb (raw:=raw) (R:=n) (C:=n) (st:=q1V (q1V st 3:Nat) 4) Oq Oq Oq;generalize gF raw n (q1V (q1V st 3:Nat) 4)=G at *;have cA:∀ {i j:Nat},i < n→j < n→_:=fun {i j} hi hj=>qi5 (i:=i) (j:=j) hG hi hj;have cS:∀ {i j:Nat},i < n→j < n→_:=fun {i j} hi hj=>qaw (i:=i) (j:=j) hG hi hj;generalize hFn:rgF G n=F;have hpt:pT n n F=pM n n (tM F n n):=rfl;have hpG:pT n n G=q5e n n (tM G n n).1 (tM G n n).2.1 (tM G n n).2.2:=rfl;rw [hpG] at cG;simp only [hpG] at cA cS;rw [hpt];clear hpG hpt;unfold q5e at cG cA cS;generalize (tM G n n).1=gs at *;generalize (tM G n n).2.1=gi at *;generalize (tM G n n).2.2=gv at *;have c1:=q34 (z:=1) Oq Oq q8j.1;refine ac0 Tryz.func55 Tryz.ntmps55 [.cell 6 37] ?_;refine wk ?_;refine q0B (fun j=>j≤n) [1,6,7,8] [6,7] Lk Lk (fun j:Nat=>[(9,iv j)]) (fun j=>[(8,⟨37,some 5,[.ag [iv n,iv n,.ow 1001 none 0 (tM F n j).1.length,.ow 1002 none 0 (tM F n j).2.1.length,.ow 1003 none 0 (tM F n j).2.2.length]],false⟩),(1001,⟨3,none,(tM F n j).1.map fun z=>iv z,false⟩),(1002,⟨3,none,(tM F n j).2.1.map fun z=>iv z,false⟩),(1003,⟨43,none,(tM F n j).2.2.map fun z:Nat=>uv z,false⟩)]) (fun j=>n-j) 0 (Nat.zero_le _) ?_ ?_
 ·refine LeM [(1001,some 21),(1002,none),(1003,none)] rfl rfl ?_;refine Zz ?_;exact ⟨rfl,⟨rfl,rfl,rfl⟩,rfl,rfl,rfl⟩
 ·intro j hj;have hg:=q1d (f:=F) (R:=n) j;have hjn:j*n≤100*100:=Nat.mul_le_mul Oq hn;refine wk ?_
  by_cases hlt:j < n
  ·have hlt':(j:Int) < n:=by omega
   refine wk1 hlt' ?_;have hM1:(tM F n (j+1)).1=(tM F n j).1 ++ [((tC F j (tM F n j).2 n).1.length:Int)]:=rfl;have hM2:(tM F n (j+1)).2=tC F j (tM F n j).2 n:=rfl;generalize (tM F n j).1=ms at *;generalize (tM F n j).2=mp at *;refine q0B (fun i=>i≤n) [1,6,7,8,9] [6,7,1001] Lk Lk (fun i:Nat=>[(10,iv i)]) (fun i=>[(8,⟨37,some 5,[.ag [iv n,iv n,.ow 1001 none 0 ms.length,.ow 1002 none 0 (tC F j mp i).1.length,.ow 1003 none 0 (tC F j mp i).2.length]],false⟩),(1002,⟨3,none,(tC F j mp i).1.map fun z=>iv z,false⟩),(1003,⟨43,none,(tC F j mp i).2.map fun z:Nat=>uv z,false⟩)]) (fun i=>n-i) 0 (Nat.zero_le _) ?_ ?_
   ·refine LeM [] rfl rfl ?_;refine Zz ?_;exact ⟨rfl,⟨rfl,rfl⟩,rfl,rfl⟩
   ·intro i hi;have hq:=q76 (f:=F) (j:=j) hg.2.1 i;refine wk ?_
    by_cases hlt2:i < n
    ·have hlt2':(i:Int) < n:=by omega
     refine wk1 hlt2' ?_
     by_cases hij:i=j
     ·have e1:((i:Int) == (j:Int))=true:=by simp; omega
      have hF:F j i=some (fR 2 (q0v (rgL G i n))):=by rw [← hFn]; unfold rgF; rw [if_pos hij]
      obtain ⟨z,hz⟩:∃ z,z=fR 2 (q0v (rgL G i n)):=⟨_,rfl⟩;rw [← hz] at hF;have eg:=qcW (p:=mp) hF;refine wk1 e1 ?_;refine q0B (fun k=>k≤n) [1,6,7,8,9,10] [6,7,8,1001,1002,1003] Lk Lk (fun k:Nat=>[(12,iv k),(11,.ow 1004 (some 4) 0 (rgL G i k).length)]) (fun k=>[(1004,⟨56,some 4,(rgL G i k).map fun V=>pV V,false⟩)]) (fun k=>n-k) 0 (Nat.zero_le _) ?_ ?_
      ·refine LeM [(1004,some 37)] rfl rfl ?_;refine Zz ?_;exact ⟨⟨rfl,rfl⟩,q0R rfl clV⟩
      ·intro k hk;obtain ⟨d1,d2⟩:=qcu hG hlt2 k hk;refine wk ?_
       by_cases hlk:k < n
       ·have hlk':(k:Int) < n:=by omega
        refine wk1 hlk' ?_
        by_cases hki:k=i
        ·have e2:((k:Int) != (i:Int))=false:=by simp; omega
         have es:rgL G i (k+1)=rgL G i k:=by rw [rgL,if_pos hki]
         refine wk1 e2 ?_;refine ⟨k+1,by omega,by omega,?_⟩;rw [es];refine LeM [] rfl rfl ?_;refine Zz ?_;exact ⟨by omega,q0R rfl clV⟩
        ·have e2:((k:Int) != (i:Int))=true:=by simp; omega
         obtain ⟨u,hu⟩:∃ u,u=(G k i).getD 0:=⟨_,rfl⟩;obtain ⟨v,hv⟩:∃ u,u=(G i k).getD 0:=⟨_,rfl⟩;obtain ⟨f1,f2⟩:=hG.fin (j:=k) (i:=i) hlk hlt2;obtain ⟨g1,g2⟩:=hG.fin (j:=i) (i:=k) hlt2 hlk;have cE:=cA hlt2 hlk;have cE2:=cA hlk hlt2;rw [← hu] at f1 f2 cE;rw [← hv] at g1 g2 cE2;have cO:=q2e f2 (q04 f1);have cO2:=q2e g2 (q04 g1);have es:rgL G i (k+1)=rgL G i k ++ [((ofZ u).natAbs:Int),((ofZ v).natAbs:Int)]:=by rw [rgL,if_neg hki,hu,hv]
         have C1:=@q9E;refine wk1 e2 ?_;refine ⟨k+1,by omega,by omega,?_⟩;rw [es];refine LeM [(1004,some 60)] rfl rfl ?_;refine Zz ?_;exact ⟨by omega,q0R (by simp) clV⟩
       ·have hlk':¬ (k:Int) < n:=by omega
        obtain rfl:k=n:=by omega
        have hsd:=q77 d2 Oq;have C2:=q9D (l:=rgL G i k) Oq hsd;have C3:=qjA (V:=q0v (rgL G i k));have C4:=q5K (V:=q0v (rgL G i k)) (mode:=2);rw [← hz] at C4;refine wk1 hlk' ?_;refine ⟨i+1,by omega,by omega,?_⟩;rw [eg];refine LeM [(1002,some 65),(1003,some 73)] rfl rfl ?_;refine Zz ?_;omega
     ·have e1:((i:Int) == (j:Int))=false:=by simp; omega
      have hF:F j i=G j i:=by rw [← hFn]; unfold rgF; rw [if_neg hij]
      have C5:=(cS hlt2 hlt);refine wk1 e1 ?_;have cE:=cA hlt2 hlt;cases hx:G j i with
      | none =>
       rw [hx] at hF;have eg:=qbA (p:=mp) hF;have ei:(none:Option Nat).isSome=false:=rfl;refine wk1 ei ?_;refine ⟨i+1,by omega,by omega,?_⟩;rw [eg];refine LeM [] rfl rfl ?_;refine Zz ?_;omega
      | some z =>
       rw [hx] at hF cE;rw [Option.getD_some] at cE;have eg:=qcW (p:=mp) hF;have ei:(some z).isSome=true:=rfl;refine wk1 ei ?_;refine ⟨i+1,by omega,by omega,?_⟩;rw [eg];refine LeM [(1002,some 83),(1003,some 92)] rfl rfl ?_;refine Zz ?_;omega
    ·have hlt2':¬ (i:Int) < n:=by omega
     obtain rfl:i=n:=by omega
     refine wk1 hlt2' ?_;refine ⟨j+1,by omega,by omega,?_⟩;rw [hM1,hM2];refine LeM [(1001,some 100)] rfl rfl ?_;refine Zz ?_;omega
  ·have hlt':¬ (j:Int) < n:=by omega
   obtain rfl:j=n:=by omega
   exact wk1 hlt' trivial
def qcv {raw:List Nat} {R k i:Nat} (hk:k < 3):∀ m,∀ x ∈ rgL (gF raw R k) i m,bl x.natAbs≤66000
 | 0,x,hx=>by unfold rgL at hx; simp at hx; subst hx; exact qlP
 | m+1,x,hx=>by
  unfold rgL at hx
  split at hx
  ·exact qcv hk m x hx
  ·rcases List.mem_append.1 hx with hx | hx
   ·exact qcv hk m x hx
   ·simp at hx
    rcases hx with rfl | rfl
    all_goals
     rw [Int.natAbs_natCast];exact gF_bl hk
def qpj {raw:List Nat} {n k:Nat} (hn:n≤100) (hk:k < 3):TOk (rgF (gF raw n k) n) n n:=by
 have hnn:n*n≤100*100:=Nat.mul_le_mul hn hn;have hG:=qqb (raw:=raw) (R:=n) (C:=n) (st:=k) Oq Oq Oq;have key:∀ i,i < n→q0Q (fR 2 (q0v (rgL (gF raw n k) i n))):=fun i hi=>by
  have hl:=(qcu hG hi n (Nat.le_refl _)).1;have h1:=q5B (K:=66000) (qcv (raw:=raw) (R:=n) (i:=i) hk n) (i:=(rgL (gF raw n k) i n).length) Oq;rw [List.take_length] at h1;obtain ⟨c,hc⟩:∃ c,c=900:=⟨_,rfl⟩;obtain ⟨K,hK⟩:∃ K,K=65536:=⟨_,rfl⟩;refine qqt hK hc (Nat.lt_of_lt_of_le (q21 _) ?_);rw [← Nat.pow_add];exact Nat.pow_le_pow_right Oq Oq
 refine ⟨hG.r,hG.c,hG.m,fun j i x hj hi h=>?_,fun j i x hj hi h=>?_⟩
 ·unfold rgF at h
  split at h
  ·have h:=Option.some.inj h; rw [← h]; exact q7z
  ·exact hG.u j i x hj hi h
 ·unfold rgF at h
  split at h
  ·have h:=Option.some.inj h; rw [← h]; exact key i hi
  ·exact hG.v j i x hj hi h
def qqs {F:Nat→Nat→Option Nat} {mi:List Int} {n:Nat} {cols:List Int} {num den:Nat} (hn:n≤100) (hc:cols.length≤1000000):LUb (qoF F mi n cols num den)∧(qoF F mi n cols num den).rows.length≤n:=by
 have hnn:n*n≤100*100:=Nat.mul_le_mul hn hn;unfold qoF
 by_cases h:(q2z F mi n cols num den n).1=0
 ·rw [if_pos h];have hG:=q8z (F:=F) (mi:=mi) (n:=n) (cols:=cols) (num:=num) (den:=den) n h;generalize (q2z F mi n cols num den n).2.2=S at *;have k1:∀ j i x,fLt S j i=some x→q0Q x∧x < 18446744073709551616:=fun j i x hx=>by
   unfold fLt at hx
   split at hx
   ·cases hx; exact hG.l _ _
   ·cases hx
  have k2:∀ j i x,fUt S j i=some x→q0Q x∧x < 18446744073709551616:=fun j i x hx=>by
   unfold fUt at hx
   split at hx
   ·cases hx; exact hG.u _ _
   ·cases hx
  have h1:TOk (fLt S) n n:=⟨by omega,by omega,by omega,fun j i x _ _ hx=>(k1 j i x hx).2,fun j i x _ _ hx=>(k1 j i x hx).1⟩;have h2:TOk (fUt S) n n:=⟨by omega,by omega,by omega,fun j i x _ _ hx=>(k2 j i x hx).2,fun j i x _ _ hx=>(k2 j i x hx).1⟩;have l1:=q1d (f:=fLt S) (R:=n) n;have l2:=q1d (f:=fUt S) (R:=n) n;have hrl:=hG.len;unfold qq2;refine ⟨⟨?_,hc,?_,?_,?_,?_,?_,?_,h1.vl.2.2.2,h2.vl.2.2.2⟩,?_⟩ <;> dsimp only <;> (try rw [List.length_map]) <;> omega
 ·rw [if_neg h];exact ⟨⟨by simp,by simp,by simp,by simp,by simp,by simp,by simp,by simp,by simp,by simp⟩,Nat.zero_le _⟩
end Go.Proofs.YtjfjjmfhfbapeaaGreatDoor
namespace Go.Sp
open Go Go.E
def qp7 {z:Int} {K:Nat}:decide (z*(2:Int) ^ K < 0)=decide (z < 0):=by
 have hp:=q0U K;rw [decide_eq_decide]
 constructor
 ·intro h
  rcases Int.lt_or_le z 0 with h1 | h1
  ·exact h1
  ·have:=Int.mul_nonneg h1 (Int.le_of_lt hp); omega
 ·intro h; exact Int.mul_neg_of_neg_of_pos h hp
def rF_K {z y:Int} {neg:Bool} (K:Nat) (hz:z≠0) (hy:y≠0):rF 0 neg (z*(2:Int) ^ K).natAbs (y*(2:Int) ^ K).natAbs=rF 0 neg z.natAbs y.natAbs:=by
 rw [q0K,q0K];exact q4l Oq Oq (q0G K)
def fQ_K {z y:Int} (K:Nat) (hz:z≠0) (hy:y≠0):fQ 0 (z*(2:Int) ^ K) (y*(2:Int) ^ K)=rF 0 (decide (z < 0) != decide (y < 0)) z.natAbs y.natAbs:=by
 have hp:=q0U K;unfold fQ;rw [if_neg (Int.mul_ne_zero hz (Int.ne_of_gt hp)),qp7,qp7,rF_K K hz hy]
def qlo:flz 1=4607182418800017408:=by
 have h1:flz 1=fQ 0 (1*(2:Int) ^ 65536) (1*(2:Int) ^ 65536):=by
  have:=qaQ (x:=1) (y:=1) Oq Oq;rw [Int.one_mul] at this;exact this.symm
 rw [h1,fQ_K 65536 Oq (by omega)]
 show rF 0 false 1 1=4607182418800017408
 kernel_rfl
def quo32 (K:Nat):fQ 0 (3*(2:Int) ^ K) (2*(2:Int) ^ K)=4609434218613702656:=by
 rw [fQ_K K Oq (by omega)]
 show rF 0 false 3 2=4609434218613702656
 kernel_rfl
end Go.Sp
namespace Go.Proofs.YtjfjjmfhfbapeaaGreatDoor
open Go Go.E Go.Sp
def qbu:Fac:=⟨[0,1],[0,2,3],[0,1,1],[flz 2,flz 1,flz 2]⟩
def qds {z:Int} (h1:0 < z) (h2:z.natAbs≤9) {a:Nat} {l:List Nat} (hl:l[a]?=some (flz z)):∃ (x:Nat) (V:Int),l[a]?=some x∧ofF x=some V∧0 < V:=⟨_,_,hl,q4V Oq,Int.mul_pos h1 (q0U _)⟩
def qmO:FacOk qbu:=by
 refine ⟨⟨fun x hx=>?_,by decide⟩,by decide,by simp [qbu],by simp [qbu],by simp [qbu],rfl,by simp [qbu],fun j hj=>?_,fun x hx=>?_⟩
 ·have hx':x ∈ ([0,1]:List Int):=hx;have hl:(qbu.pm.length:Int)=2:=rfl;rw [hl];simp at hx'; omega
 ·have hj':j < 2:=hj
  rcases (by omega:j=0∨j=1) with rfl | rfl
  ·refine ⟨0,2,rfl,rfl,by omega,by decide,rfl,⟨1,rfl,by decide⟩,fun i h1 h2=>?_,qds (z:=2) Oq Oq rfl⟩;obtain rfl:i=1:=by omega
   exact ⟨0,1,rfl,rfl,by omega⟩
  ·exact ⟨2,3,rfl,rfl,by omega,by decide,rfl,⟨1,rfl,by decide⟩,fun i h1 h2=>by omega,qds (z:=2) Oq Oq rfl⟩
 ·have hx':x ∈ [flz 2,flz 1,flz 2]:=hx;simp only [List.mem_cons,List.not_mem_nil,or_false] at hx';have hh:∀ z:Int,z.natAbs≤9→x=flz z→x < 18446744073709551616∧q0Q x:=fun z hz h=>by rw [h]; exact ⟨qdt Oq,q6n Oq⟩
  exact hx'.elim (hh 2 Oq) fun h=>h.elim (hh 1 Oq) (hh 2 Oq)
def qeM {K:Nat} (hK:K=65536):qaG qbu [((0:Nat):Int),((1:Nat):Int)] [[(8:Int)*(2:Int) ^ K],[(7:Int)*(2:Int) ^ K]] [0,0]=some [flz 4,4609434218613702656]:=by
 have h2:ofZ (flz 2)=2*(2:Int) ^ K:=by rw [hK]; exact q0e (q4V Oq)
 have hm:q2D (flz 1) (flz 4)=1*4*(2:Int) ^ K:=by rw [hK]; exact qgQ Oq Oq
 rw [q5U (a:=0) (b:=2) (x:=flz 2) (r:=[(8:Int)*(2:Int) ^ K]) rfl rfl rfl rfl];have e1:fQ 0 (q0v [(8:Int)*(2:Int) ^ K]) (ofZ (flz 2))=flz 4:=by
  rw [q4g,h2];have:=qaQ (x:=4) (y:=2) Oq Oq;rw [← hK] at this;exact this
 rw [e1,if_pos (q6n Oq)];have e2:qfj qbu (flz 4) (0+1) (2-(0+1)) [[(8:Int)*(2:Int) ^ K],[(7:Int)*(2:Int) ^ K]]=[[(8:Int)*(2:Int) ^ K],[(7:Int)*(2:Int) ^ K,-(1*4*(2:Int) ^ K)]]:=by
  have:=q78 (f:=qbu) (q:=flz 4) (p:=1) (c:=0) (i:=1) (x:=flz 1) (rows:=[[(8:Int)*(2:Int) ^ K],[(7:Int)*(2:Int) ^ K]]) (r:=[(7:Int)*(2:Int) ^ K]) rfl rfl rfl;rw [hm] at this;exact this
 rw [e2,q5U (a:=2) (b:=3) (x:=flz 2) (r:=[(7:Int)*(2:Int) ^ K,-(1*4*(2:Int) ^ K)]) rfl rfl rfl rfl];have e3:q0v [(7:Int)*(2:Int) ^ K,-(1*4*(2:Int) ^ K)]=3*(2:Int) ^ K:=by
  have h1:=q2b [(7:Int)*(2:Int) ^ K] (-(1*4*(2:Int) ^ K));rw [q4g] at h1;have h2:([(7:Int)*(2:Int) ^ K] ++ [-(1*4*(2:Int) ^ K)])=[(7:Int)*(2:Int) ^ K,-(1*4*(2:Int) ^ K)]:=rfl;rw [h2] at h1;rw [h1]; omega
 rw [e3,h2,quo32,if_pos (by decide)]
 rfl
def qh0:qaG qbu (q82 2) ([flz 8,flz 7].map fun x=>[ofZ x]) (List.replicate 2 0)=some [flz 4,4609434218613702656]:=by
 have h8:ofZ (flz 8)=8*(2:Int) ^ 65536:=q0e (q4V Oq);have h7:ofZ (flz 7)=7*(2:Int) ^ 65536:=q0e (q4V Oq);have hu:q82 2=[((0:Nat):Int),((1:Nat):Int)]:=rfl;have hr:List.replicate 2 0=[0,0]:=rfl;rw [List.map_cons,List.map_cons,List.map_nil,h8,h7,hu,hr];exact qeM rfl
def qhY {x:Nat} {l:List Int} (hl:∀ z ∈ l,z.natAbs≤9) (h:x ∈ l.map flz):x < 18446744073709551616∧q0Q x:=by
 obtain ⟨z,hz,rfl⟩:=List.mem_map.1 h;have:=hl z hz;exact ⟨qdt Oq,q6n Oq⟩
def q6m {D:Nat→Prop} {z:Int} {w:World} (hT:q2E w) (hz:z.natAbs≤9) (hf:Fr D w):Calls Tryz.prog 22 #[.int .i64 z,.int .i64 0] w fun x w'=>x=.returned (.int .u64 (flz z:Nat))∧Ext w w' :=
 acK (q5u (z:=z) (mode:=0) Oq Oq (q8l (by have:=q0N (n:=z.natAbs) (k:=4) (by omega); omega))) hT hf (RdL.two q42 q42)
def q7n {α:Type} {f:α→Value} {xs:List α} {D:Nat→Prop} {w:World} {g E k:Nat} (hb:Blk w g E ⟨xs.map f⟩) (hk:k=xs.length) (hd:D g):In (fSc f xs) D (.slice (some ⟨g,0,none⟩) k k) w:=by
 subst hk;refine ⟨some ⟨g,0,none⟩,xs.length,xs.length,rfl,Nat.le_refl _,by simp,fun _=>⟨⟨g,0,none⟩,rfl,hd,fun j u hu=>?_⟩⟩;rw [q08,Nat.zero_add,hb.cell];simpa using hu
def qhq {w:World} (hT:q2E w):Calls Tryz.prog 17 #[] w fun e w'=>e=.returned (.bool true)∧Ext w w':=by
 have hx:Ext w w:=Kp.refl _ _;have hf:Fr (fun _=>True) w:=Fr.triv _;obtain ⟨c2,hc2⟩:∃ c,c=flz 2:=⟨_,rfl⟩;obtain ⟨c4,hc4⟩:∃ c,c=flz 4:=⟨_,rfl⟩;obtain ⟨c8,hc8⟩:∃ c,c=flz 8:=⟨_,rfl⟩;obtain ⟨c7,hc7⟩:∃ c,c=flz 7:=⟨_,rfl⟩;have f2:=fun {w:World} (hT:q2E w)=>q6m (D:=fun _=>True) (z:=2) hT Oq (Fr.triv _);have f4:=fun {w:World} (hT:q2E w)=>q6m (D:=fun _=>True) (z:=4) hT Oq (Fr.triv _);have f8:=fun {w:World} (hT:q2E w)=>q6m (D:=fun _=>True) (z:=8) hT Oq (Fr.triv _);have f7:=fun {w:World} (hT:q2E w)=>q6m (D:=fun _=>True) (z:=7) hT Oq (Fr.triv _);rw [← hc2] at f2;rw [← hc4] at f4;rw [← hc8] at f8;rw [← hc7] at f7;refine q13 Tryz.func17 rfl Tryz.ntmps17 (by kernel_rfl) ?_;refine Wz ?_;refine q0S fun K hK=>?_;refine Zz ?_;refine Ck qeg (f2 (hT.ext hx)) fun w8 hx8=>?_;replace hx:=hx.trans hx8;clear hx8;refine Ck qeg (f4 (hT.ext hx)) fun w9 hx9=>?_;replace hx:=hx.trans hx9;clear hx9;refine Ck qeg (f8 (hT.ext hx)) fun w10 hx10=>?_;replace hx:=hx.trans hx10;clear hx10;refine Ck qeg (f7 (hT.ext hx)) fun w11 hx11=>?_;replace hx:=hx.trans hx11;clear hx11;refine hK _ _ ?_; clear hK;refine q0S fun K hK=>?_;refine Zz ?_;refine q52 fun w12 hx12 hb12 hs12=>?_;replace hx:=hx.trans hx12;have h12:In (fSc q2y [0,1]) (fun _=>True) _ w12:=q7n (k:=2) hb12 rfl trivial;refine q52 fun w13 hx13 hb13 hs13=>?_;replace h12:=h12.ext hx13;replace hx:=hx.trans hx13;have h13:In (fSc q2y [0,2,3]) (fun _=>True) _ w13:=q7n (k:=3) hb13 rfl trivial;refine q52 fun w14 hx14 hb14 hs14=>?_;replace h12:=h12.ext hx14;replace h13:=h13.ext hx14;replace hx:=hx.trans hx14;have h14:In (fSc q2y [0,1,1]) (fun _=>True) _ w14:=q7n (k:=3) hb14 rfl trivial;refine q52 fun w17 hx17 hb17 hs17=>?_;replace h12:=h12.ext hx17;replace h13:=h13.ext hx17;replace h14:=h14.ext hx17;replace hx:=hx.trans hx17;have h17:In (fSc q3Y [c2,4607182418800017408,c2]) (fun _=>True) _ w17:=q7n (k:=3) hb17 rfl trivial;have hf5:In (qqw ⟨[0,1],[0,2,3],[0,1,1],[c2,4607182418800017408,c2]⟩) (fun _=>True) (.agg #[_,_,_,_]) w17:=⟨_,_,_,_,rfl,h12,h13,h14,h17⟩
 have hfd:(⟨[0,1],[0,2,3],[0,1,1],[c2,4607182418800017408,c2]⟩:Fac)=qbu:=by unfold qbu; rw [qlo,hc2]
 rw [hfd] at hf5;replace hf5:=hf5.db (w':=w17);clear h12 h13 h14 h17 hfd hb12 hb13 hb14 hb17;refine Zz ?_;have hs0:=hx.size;refine qjf ?_;intro g w5 hg5 hx5 hb5 hs5;replace hf5:=hf5.ext hx5;replace hx:=hx.trans hx5;refine q7a hb5 qpW rfl rfl fun w6 hk6 hb6=>?_;replace hf5:=hf5.kpb hk6 fun k hk=>by omega
 replace hx:=hx.under hk6 fun k hk=>by have:=hx.size; omega
 refine hK _ _ ?_; clear hK;have h0:(0:Int)=0:=rfl;refine q0S fun K hK=>?_;refine Zz1 hb6.l4 ?_;refine q52 fun w23 hx23 hb23 hs23=>?_;replace hf5:=hf5.ext hx23;replace hb6:=hb6.ext hx23;replace hx:=hx.trans hx23;have h23:In (fSc q3Y [flz 8,flz 7]) (fun _=>True) _ w23:=q7n (k:=2) (by rw [← hc8,← hc7]; exact hb23) rfl trivial;have hfin:q2X [flz 8,flz 7]:=fun x hx=>qhY (l:=[8,7]) (fun z hz=>by simp at hz; omega) hx;have hlow:=qd0 (hT.ext hx) hf5.all qmO h23 hfin rfl (Fr.triv _);rw [show qaG ⟨[0,1],[0,2,3],[0,1,1],[flz 2,flz 1,flz 2]⟩ (q82 2) ([flz 8,flz 7].map fun x=>[ofZ x]) (List.replicate 2 0)=_ from qh0] at hlow;refine Cr qrh hlow fun v24 w24 hx24 h24=>?_;replace hf5:=hf5.ext hx24;replace h23:=h23.ext hx24;replace hb6:=hb6.ext hx24;replace hx:=hx.trans hx24;obtain ⟨a24,b24,rfl,h25,h26⟩:=h24;have h26':b24=.int .i64 0:=h26;subst h26';obtain ⟨A25,n25,c25,rfl,h25'⟩:=id h25;have hl25:=In.sc_len h25;obtain rfl:n25=2:=hl25.symm;rw [← hc4] at h25;replace h25:In (fSc q3Y [c4,4609434218613702656]) (fun _=>True) (.slice A25 2 c25) w24:=h25;obtain ⟨ad,rfl,i0,x0⟩:=h25.ixU (i:=0) rfl;obtain ⟨_,hcc,i1,x1⟩:=h25.ixU (i:=1) rfl;cases hcc;have i0':(0:Int)≤0∧(0:Int) < (2:Nat):=by omega
 have i1':(0:Int)≤1∧(1:Int) < (2:Nat):=by omega
 have x0':w24.cell? ad=some (.int .u64 c4):=x0;have x1':w24.cell? ⟨ad.block,ad.off+1,none⟩=some (.int .u64 (4609434218613702656:Nat)):=x1;have q1:((0:Int) == 0)=true:=rfl;have q2:(((2:Nat):Int) == 2)=true:=rfl;have q3:((c4:Int) == c4)=true:=by simp
 have q4:(((4609434218613702656:Nat):Int) == 4609434218613702656)=true:=rfl;have q5:(1:Int).toNat=1:=rfl;refine Zz ?_;refine hK _ _ ?_; clear hK;refine q0S fun K hK=>?_;simp -implicitDefEqProofs (disch:=omega) only [go_sem,Nat.reduceEqDiff,Nat.reduceAdd,↓reduceIte,q1,q2,q3,q4,i0',i1',x0',x1',q5,Int.toNat_zero];refine hK _ _ ?_; clear hK K;refine q57 ?_
 try simp only [q1u,q5f]
 refine qnv rfl ⟨by simp only [q2F,Nat.reduceEqDiff,↓reduceIte],hx⟩
def qhr:ACt 17 [] (bv true):=ac_c qrs fun D w vs hT hF hR=>by
 unfold RdL at hR;subst hR;exact qhq hT
def qlY {f:LUt} {l:List Nat}:(lgE f l).1.length≤f.rows.length:=by
 unfold lgE
 split
 ·exact Nat.zero_le _
 ·split
  ·exact Nat.zero_le _
  ·split
   ·exact Nat.zero_le _
   ·exact Nat.le_of_eq (q4B _)
def qfX {f:LUt} {l:List Nat} (hb:LUb f) (hn:f.rows.length≤100) (hul:∀ x ∈ l,x < 18446744073709551616) (hl:l.length≤1000000):ACt 15 [pLU f,pF l] (.tu [pF (lgE f l).1,iv (lgE f l).2]):=by
 refine qiV (ids:=[5000]) (qjz hb hn hul hl) ?_;generalize (lgE f l).1=xs;generalize (lgE f l).2=e;have h1:q3P (q0O h0 5000 ⟨43,none,xs.map fun z:Nat=>uv z,false⟩) (.ow 5000 none 0 xs.length)=some (pF xs,[5000]):=by
  unfold q3P;dsimp only;rw [q0J,Option.bind_some,if_pos ⟨rfl,rfl,fun x hx=>clU x hx⟩,List.drop_zero,List.take_of_length_le (by rw [List.length_map]; exact Nat.le_refl _)]
 have h2:q3P (q0O h0 5000 ⟨43,none,xs.map fun z:Nat=>uv z,false⟩) (iv e)=some (iv e,[]):=by
  unfold q3P;dsimp only;exact if_pos trivial
 unfold q23 q23 q23 clo;simp only [h1,h2]
 rfl
def q5E {raw:List Nat} {n st kd sp:Int} (hr:raw.length≤9223372036854775807) (h1 : -9223372036854775808≤n) (h2:n≤9223372036854775807) (h3 : -9223372036854775808≤st) (h4:st≤9223372036854775807) (h5 : -9223372036854775808≤kd) (h6:kd≤9223372036854775807) (h7 : -9223372036854775808≤sp) (h8:sp≤9223372036854775807) :
  ACt 3 [pF raw,iv n,iv st,iv kd,iv sp] (bv true):=by
 have hN:q1V n 6 < 6:=by unfold q1V; omega
 have hk:q1V (q1V st 3:Nat) 4 < 3:=by unfold q1V; omega
 have cM:=q5M (a:=n) (n:=6) h1 h2 Oq Oq;have cA:=qhr;generalize q1V n 6=N at *;have cR:=qbK (raw:=raw) (st:=st) (n:=N) hr Oq h3 h4;have hF:=qpj (raw:=raw) (n:=N) (k:=q1V (q1V st 3:Nat) 4) Oq hk;generalize rgF (gF raw N (q1V (q1V st 3:Nat) 4)) N=F at *;have cO:=qgM (raw:=raw) (N:=N) hr Oq;have hpm:=qgN raw N;have hll:=q6e raw N;have cL:=qgW (num:=1) (den:=2) hF (by omega) (cols:=q4F raw N) ⟨by rw [hll],fun x hx=>by have:=hpm.1 x hx; omega,hpm.2⟩ (by omega) (by omega) (by omega);have hb:=qqs (F:=F) (mi:=(tM F N N).2.1) (n:=N) (cols:=q4F raw N) (num:=1) (den:=2) Oq Oq;unfold facP at cL;generalize qoF F (tM F N N).2.1 N (q4F raw N) 1 2=f at *;obtain ⟨hb,hbr⟩:=hb;have cS:=qkj (raw:=raw) (st:=kd) (spoil:=sp) (n:=f.rows.length) hr Oq h5 h6 h7 h8;obtain ⟨hbu,hbl⟩:=qfm (raw:=raw) (n:=f.rows.length) (st:=q1V kd 4) (sp:=sp);generalize qbC raw f.rows.length (q1V kd 4) sp=b at *;have c1:=qku (l:=b) hb Oq hbu Oq;have c2:=qfX (l:=b) hb Oq hbu Oq;have hxl:=qlY (f:=f) (l:=b);generalize (lgE f b).1=xs at *;generalize (lgE f b).2=e at *;have c3:=qbX (l:=xs) Oq;have r1:(e == e)=true:=by simp
 have cG:ACt 12 [pF raw,iv n,iv st] (pLU f):=by
  unfold pLU pT q5e at *;refine ac0 Tryz.func12 Tryz.ntmps12 [.cell 6 26] ?_;exact wk trivial
 unfold pLU at *;refine ac0 Tryz.func3 Tryz.ntmps3 [.tmp 10] ?_;exact wk1 r1 trivial
end Go.Proofs.YtjfjjmfhfbapeaaGreatDoor
