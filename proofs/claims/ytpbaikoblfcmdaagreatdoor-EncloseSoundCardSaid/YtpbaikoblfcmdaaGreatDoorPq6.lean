/- EncloseSound. 6/7. -/
import Derived.Test.YtpbaikoblfcmdaaGreatDoorPq5
open Int renaming mul_assoc->zI,pow_add->zJ,natAbs_natCast->zP,zero_mul->zY,sign_eq_neg_one_of_neg->uX,mul_pos->z7,sign_eq_one_of_pos->z9,le_refl->yB,ne_of_gt->yF
open List renaming getElem?_eq_getElem->zA,map_append->zC,getElem?_map->zD,getD_eq_getElem?_getD->zE,getElem?_range->zF,take_of_length_le->zG,mem_of_getElem?->zH,take_succ_cons->zK,drop_succ_cons->zL,length_map->zM,mem_map->zN,getElem_mem->zQ,getElem?_append_left->zR,mem_range->zU,getElem?_eq_none->zV,range_succ->zW,length_append->zZ,drop_zero->uY,getElem?_append_right->uZ,getElem?_eq_some_iff->z6,take_length->z8,length_singleton->yA,take->yI
open Nat renaming zero_le->zB,mul_le_mul->zO,le_refl->u6,zero_mul->zX,pow_le_pow_right->yC,succ_mul->u7,sub_self->yE,le_trans->yG
open Option renaming map_some->zS,bind_some->yH
set_option linter.unusedSimpArgs false
set_option linter.unusedVariables false
set_option maxRecDepth 20000
set_option maxHeartbeats 2000000
set_option linter.defProp false
namespace Go.Proofs.YtpbaikoblfcmdaaGreatDoor
open Go Go.E Go.Sp
noncomputable def ivL (g:LUt) (n:Nat):Nat->Nat->List Nat->List Nat × Int
 | 0,_,acc=>(acc,0)
 | k+1,j,acc=>if (lgE g (unN n j)).2≠0 then ([],(lgE g (unN n j)).2) else ivL g n k (j+1) (acc ++ (lgE g (unN n j)).1)
noncomputable def ivA (g:LUt):Nat × List Nat × Int:=if q6Y g≠0 then (0,[],q6Y g) else
 (if (ivL g g.rows.length g.rows.length 0 []).2=0 then g.rows.length else 0,(ivL g g.rows.length g.rows.length 0 []).1,(ivL g g.rows.length g.rows.length 0 []).2)
section
variable {g:LUt} {n:Nat}
def qmn (hb:LUb g) (hn:n=g.rows.length):∀ k j acc,k+j=n->acc.length=j*n->q03 acc->((ivL g n k j acc).2=0->(ivL g n k j acc).1.length=n*n)/\q03 (ivL g n k j acc).1/\((ivL g n k j acc).2≠0->(ivL g n k j acc).1=[])
 | 0,j,acc,h1,h2,h3=>by
  obtain rfl:j=n:=by omega
  exact ⟨λ_=>h2,h3,λh=>absurd rfl h⟩
 | k+1,j,acc,h1,h2,h3=>by
  rw [ivL]
  by_cases h:(lgE g (unN n j)).2=0
  ·rw [if_neg (not_not_intro h)];obtain ⟨_,_,_,k1,k2⟩:=q6o hb qoQ h;refine qmn hb hn k (j+1) _ (by omega) (by rw [zZ,h2,k1,<- hn,u7]) λx hx=>?_
   rcases List.mem_append.1 hx with hx | hx
   ·exact h3 x hx
   ·exact k2 x hx
  ·rw [if_pos h];exact ⟨λq=>absurd q h,λx hx=>(by cases hx),λ_=>rfl⟩
def qwP (hb:LUb g):((ivA g).2.2=0->(ivA g).1=g.rows.length/\(ivA g).2.1.length=g.rows.length*g.rows.length)/\q03 (ivA g).2.1/\((ivA g).2.2≠0->(ivA g).2.1=[]/\(ivA g).1=0):=by
 unfold ivA
 by_cases h:q6Y g=0
 ·rw [if_neg (not_not_intro h)];obtain ⟨h1,h2,h3⟩:=qmn hb rfl g.rows.length 0 [] (by omega) (by simp) (λx hx=>by cases hx);dsimp only;exact ⟨λq=>⟨if_pos q,h1 q⟩,h2,λq=>⟨h3 q,if_neg q⟩⟩
 ·rw [if_pos h];exact ⟨λq=>absurd q h,λx hx=>(by cases hx),λ_=>⟨rfl,rfl⟩⟩
def qiL (hb:LUb g) (hn:g.rows.length<=20):qdi 133 [pLU g] h0 (.tu [.ag [iv (ivA g).1,iv (ivA g).1,.ow 5000 none 0 (ivA g).2.1.length],iv (ivA g).2.2]) (q0Q h0 5000 ⟨33,none,(ivA g).2.1.map λz:Nat=>uv z,false⟩):=by
 have hJ:∀ i,¬ (h0 i≠none):=λi h=>h rfl;have hJe:(λi=>(h0:Hp) i≠none)=λ_=>False:=funext λi=>eq_false (hJ i);have C2:=q9d hb;obtain ⟨res,hres⟩:∃ res,res=ivA g:=⟨_,rfl⟩;rw [<- hres];unfold ivA at hres;have C3:=λ(n j:Nat) (hn:n<=1000000)=>q7A (f:=g) (l:=unN n j) hb (by omega) qoQ (by rw [qeL]; omega);have hE:=λ(n j:Nat) (q:(lgE g (unN n j)).2=0)=>q6o hb qoQ q;have hst:∀ n k j acc,ivL g n (k+1) j acc=if (lgE g (unN n j)).2≠0 then ([],(lgE g (unN n j)).2) else ivL g n k (j+1) (acc ++ (lgE g (unN n j)).1):=λ_ _ _ _=>rfl
 have hs0:∀ n j acc,ivL g n 0 j acc=(acc,0):=λ_ _ _=>rfl;unfold pLU at C2 C3 ⊢;generalize q6Y g=e at *;refine qdo qnZ Tryz.func133 rfl Tryz.ntmps133 (by kernel_rfl) ?_ ?_ ?_ ?_
 ·intro i b hb; cases hb
 ·intro i b hb
  by_cases hi:i=5000
  ·subst hi; exact ⟨by omega,by omega⟩
  ·rw [q0A hi] at hb; cases hb
 ·exact IdL.of λx hx=>by
   simp at hx;subst hx;unfold IdP;exact IdL.of λx hx=>by
    simp at hx
    rcases hx with rfl | rfl | rfl | rfl | rfl | rfl | rfl | rfl <;> unfold IdP <;> trivial
 have hW:WfH h0:=⟨λi b hb=>by cases hb⟩;rw [hJe]
 by_cases h1:e=0
 rotate_left
 ·rw [if_pos h1] at hres;subst hres;have q2:(e != 0)=true:=by simpa using h1
  clear C3;refine wk1 q2 ?_;refine (rtM (rs:=[.cell 2 31,.tmp 3]) rfl rfl Lq ?_ (.inl rfl));exact LePn hJ
 subst h1;rw [if_neg (show ¬ (0:Int)≠0 by decide)] at hres;obtain ⟨n,hnn⟩:∃ n,n=g.rows.length:=⟨_,rfl⟩;rw [<- hnn] at hres hn;have q0:((g.rows.length:Nat):Int)=n:=by omega
 replace C3:=λj=>C3 n j Oq;replace hE:=λj=>hE n j;replace hst:=hst n;replace hs0:=hs0 n;refine wk1 q0 ?_;refine q0P (λq:Nat × List Nat=>q.1<=n/\q.2.length=q.1*n/\ivL g n (n-q.1) q.1 q.2=ivL g n n 0 []) [1,2,5,6] [1,2] Lk Lk (λq=>[(7,iv q.1)]) (λq=>[(6,⟨31,some 3,[.ag [iv n,iv n,.ow 1001 none 0 q.2.length]],false⟩),(1001,⟨33,none,q.2.map λz:Nat=>uv z,false⟩)]) (λ_=>h0) (λq=>n-q.1) (0,[]) ⟨zB _,by simp,rfl⟩ ?_ ?_
 ·refine LeW [(1001,none)] rfl rfl ?_ ?_ (by simp [q0j,q0b,win]) ?_
  ·exact Ow
  ·exact hW
  ·try refine Zz ?_
   first | done | rfl | exact ⟨rfl,rfl⟩
 ·rintro ⟨j,acc⟩ ⟨hj,hal,hiv⟩;simp only at hj hal hiv ⊢;have hjn:j*n<=20*20:=zO Oq hn
  by_cases hlt:j < n
  ·have q3:(j:Int) < n:=by omega
   rw [show n-j=(n-(j+1))+1 by omega,hst] at hiv;have c3:=C3 j;have hEj:=hE j;have hun:=unN_v (n:=n) (j:=j);have ul:=qeL (n:=n) (j:=j);generalize unN n j=U at *;generalize (lgE g U).1=l at *;generalize (lgE g U).2=e at *;clear C3 hE hst hs0;refine wk1 (x3 q3 hun ul) ?_;refine q1D (LeW [] rfl rfl (hw:=h0) (xs:=[(1,.pt 1 0 0),(2,.pt 2 0 0),(5,iv n),(6,.pt 6 0 0),(7,iv j),(8,pF U)]) (kv:=[]) (bs:=[(1,⟨99,some 8,[.ag [pI g.rows,pI g.cols,pI g.ls,pI g.li,pF g.lv,pI g.us,pI g.ui,pF g.uv]],false⟩),(2,⟨31,some 3,[.ag [iv 0,iv 0,q02]],false⟩),(6,⟨31,some 3,[.ag [iv n,iv n,.ow 1001 none 0 acc.length]],false⟩),(1001,⟨33,none,acc.map λz:Nat=>uv z,false⟩)]) (kb:=[]) ?_ hW (by simp [q0j,q0b,win]) ?_) ?_
   ·exact Ow
   ·try refine Zz ?_
    refine qni (T:=33) (l:=U.map λz:Nat=>uv z) ?_ clU ?_ (by rw [zM,ul])
    ·try simp -implicitDefEqProofs (disch:=omega) only [go_sem,Nat.reduceEqDiff,Nat.reduceAdd,↓reduceIte]
    ·try simp -implicitDefEqProofs (disch:=omega) only [go_sem,Nat.reduceEqDiff,Nat.reduceAdd,↓reduceIte]
   by_cases h4:e=0
   rotate_left
   ·have q4:(e != 0)=true:=by simpa using h4
    rw [if_pos h4] at hiv;rw [<- hiv] at hres;dsimp only at hres;rw [if_neg h4] at hres;subst hres;refine wk1 q4 ?_;refine (rtM (rs:=[.cell 2 31,.tmp 3]) rfl rfl Lq ?_ (.inl rfl));exact LePn hJ
   obtain ⟨_,_,_,k1,k2⟩:=hEj h4;subst h4;rw [if_neg (show ¬ (0:Int)≠0 by decide)] at hiv;refine wk ?_;refine ⟨(j+1,acc ++ l),⟨by simp only; omega,by simp only; rw [zZ,hal,k1,<- hnn,u7],hiv⟩,by simp only; omega,?_⟩;simp only;refine LeW [(1001,some 49)] rfl rfl ?_ ?_ (by simp [q0j,q0b,win]) ?_
   ·exact Ow
   ·exact hW
   ·try refine Zz ?_
    exact ⟨by omega,q0F (by rw [zC]) clU⟩
  ·obtain rfl:j=n:=by omega
   have q3:¬ (j:Int) < j:=by omega
   rw [yE,hs0] at hiv;rw [<- hiv,if_pos rfl] at hres;subst hres;refine wk1 q3 ?_;refine (rtM (rs:=[.cell 2 31,.tmp 3]) rfl rfl Lq ?_ (.inl rfl));refine LePt hJ ?_ clU
   try simp -implicitDefEqProofs (disch:=omega) only [go_sem,Nat.reduceEqDiff,Nat.reduceAdd,↓reduceIte]
end
section
variable {R C:Nat} {F:Nat->Nat->Option Nat} {f:LUt}
end
abbrev rfV (q:List (Nat × Nat) × List Nat × Int):PV:=.tu [pP q.1,pF q.2.1,iv q.2.2]
section
variable {R C:Nat} {F:Nat->Nat->Option Nat} {f:LUt} {b:List Nat} {dbl:Bool} {steps:Int}
def qhr {T id n:Nat} {k:Kd} {h h':Hp} {l:List PV} (h1:h id=some ⟨T,k,l,false⟩) (hc:ClL l) (h2:h' id=none) (hn:l.length=n):LeV (q0b []) h h' (.ow id k 0 n) (.sl k l):=q6P (T:=T) (l:=l) h1 hc (λi hi=>by
 have hi:some i=some id:=hi;cases hi;exact h2) (by rw [uY]; exact zG (by omega))
end
section
variable {F:Nat->Nat->Option Nat} {R:Nat}
end
def qeF {raw:List Nat} {k st:Int} {n:Nat} (hr:raw.length<=9223372036854775807) (hn:n<=1000000) (h1 : -1000000<=k) (h2:k<=1000000) (h3 : -9223372036854775808<=st) (h4:st<=9223372036854775807) :
  ACt 48 [pF raw,iv k,iv n,iv st] (pF (q4y raw k (q0d st 4) n)):=by
 have hl:=q3B (raw:=raw) (k:=k) (st:=q0d st 4) (n:=n);refine qbA (ids:=[5000]) (qcn hr hn h1 h2 h3 h4) ?_;generalize q4y raw k (q0d st 4) n=xs at *;subst hl;have h1:q2W (q0Q h0 5000 ⟨33,none,xs.map λz:Nat=>uv z,false⟩) (.ow 5000 none 0 xs.length)=some (pF xs,[5000]):=by
  unfold q2W;dsimp only;rw [q0L,yH,if_pos ⟨rfl,rfl,λx hx=>clU x hx⟩,uY,zG (by rw [zM]; exact u6 _)]
 unfold q26 q26 clo;simp only [h1]
 rfl
noncomputable def ckT (raw:List Nat) (N:Nat) (st:Int) (rg:Bool):Nat->Nat->Option Nat:=if rg then rgF (gF raw N (q0d (q0d st 3:Nat) 4)) N else gF raw N (q0d st 4)
section
variable {raw p:List Nat} {s i N:Nat} {st sp n:Int} {rg wild:Bool}
def qxm (hN:N<=100):TOk (ckT raw N st rg) N N:=by
 unfold ckT;cases rg
 ·rw [if_neg (by decide)];exact qqX Oq Oq (by have:=zO hN hN; omega)
 ·rw [if_pos rfl];exact qvJ hN (by unfold q0d; omega)
end
def qjV {f m e:Nat} (h1:f / 4503599627370496 % 2048=e) (h2:e≠0) (h3:e≠2047) (h4:f < 9223372036854775808) (h5:4503599627370496+f % 4503599627370496=m):ofZ f=(m:Int)*(2:Int) ^ (64461+e):=by
 refine q01 ?_;unfold ofF;rw [h1,if_neg h3,if_neg h2,decide_eq_false (by omega),h5]
 rfl
def fR_u {z K s:Nat} (hK:K=65536) (hs:s<=K) (hz:0 < z):fR 0 ((z:Int)*(2:Int) ^ (K-s))=rF 0 false z (2 ^ s):=by
 have hp:=q0K (K-s);have hpos:0 < (z:Int)*(2:Int) ^ (K-s):=z7 Oq hp;unfold fR;rw [if_neg (by omega),decide_eq_false (by omega),q0G,zP,<- hK,show (2:Nat) ^ K=2 ^ s*2 ^ (K-s) by rw [<- Nat.pow_add]; congr 1; omega];exact q3s hz (q0E _) (q0E _)
section
variable {K:Nat}
end
end Go.Proofs.YtpbaikoblfcmdaaGreatDoor
namespace Go.E
open Go Go.RowKit
section
variable {P:Program} {Tb:World->Prop}
variable {d:Option Nat} {ty t:TypeId} {pos:String} {af:Array Edge} {g:Option (Nat × Bool)} {s:Nat->PV} {h:Hp} {K:PV->Hp->FP->Prop} {ops r:List Oper} {KL:(Nat->PV)->Hp->List FP->Prop} {acc:List FP} {dd:Nat}
def qy9 [NL] {a b c f}:ao P Tb (some dd) (.buildSlice t 4 #[(0,a),(1,b),(2,c),(3,f)]) s h K=nnK (h dd) dd (@oK _ (elK P t) ⟨λe=>@cK (4*ksz e.2.1<=16777216) ⟨vK (pe s a) λx=>vK (pe s b) λy=>vK (pe s c) λz=>vK (pe s f) λu=>q1m e.2.1 x (q1m e.2.1 y (q1m e.2.1 z (q1m e.2.1 u (K (.ow dd e.2.1 0 4) (q0Q h dd ⟨e.1,e.2.1,[x,y,z,u],false⟩) ([],[dd])))))⟩⟩):=by
 have:=qhe (P:=P) (Tb:=Tb) (s:=s) (h:=h) (K:=K) (t:=t) (dd:=dd) (len:=4) (ps:=[(0,a),(1,b),(2,c),(3,f)]) rfl;simpa [oK,cK,q9H,q9G,vK] using this
attribute [go_sem ↓] qy9
end
end Go.E
namespace Go.Proofs.YtpbaikoblfcmdaaGreatDoor
open Go Go.E Go.Sp
def nzL {w:World} {D B:Nat->Prop} (hB:∀ g,B g->∃ cs T,Blk w g T cs/\∀ u ∈ cs.toList,q5A u=true):∀ (l:List PV) (vs:List Value),(∀ x ∈ l,Nz x)->RdL w D l (λ_=>none) h0 vs->RdL w (λk=>D k/\¬ B k) l (λ_=>none) h0 vs
 | [],vs,_,h=>by unfold RdL at h ⊢; exact h
 | x :: l,vs,hl,h=>by
  unfold RdL at h ⊢;obtain ⟨a,b,rfl,h1,h2⟩:=h;exact ⟨a,b,rfl,hl x List.mem_cons_self w D B a hB h1,nzL hB l b (λy hy=>hl y (List.mem_cons_of_mem _ hy)) h2⟩
def nz_tu {l:List PV} (hl:∀ x ∈ l,Nz x):Nz (.tu l):=λw D B v hB h=>by
 unfold Rd at h ⊢;obtain ⟨vs,rfl,h1⟩:=h;exact ⟨vs,rfl,nzL hB l vs hl h1⟩
def qwu:qa4 Tryz.prog 58=true:=by kernel_rfl
def eq_iv {k m:IntKind} {a b c d:Int}:bnP Tryz.prog .eql 58 (.ag [.vl (.int k a),.vl (.int m b)]) (.ag [.vl (.int k c),.vl (.int m d)])=some (.vl (.bool (a == c && b == d))):=qyK qwu
attribute [go_sem] eq_iv
def qvp {x y K:Nat} {V:Int} (hK:K=65536) (hx:q0I x) (hy:q0I y) (h:ofZ x*ofZ y=V*(2:Int) ^ K):q1P x y=V:=Int.eq_of_mul_eq_mul_right (yF (q0K K)) ((qfa hK hx hy).1.trans h)
section
variable {K:Nat} {f1 f4 fq:Nat}
end
section
variable {V W n:Int} {x:Nat}
end
section
attribute [local instance] lNL
end
section
variable {raw other:List Nat} {n st sp:Int} {rg wild zero:Bool}
end
def qwJ {a b c d:PV}:ldU (some 4) (some 3) 0 (.ag [a,b,c,d])=some (.ag [a,b,c]):=by simp [ldU]
def flS_3 {off:Nat} {a b c:PV} {cs:List PV}:flS (some (off,3)) (.ag [a,b,c]) cs=q96 cs off [a,b,c]:=by
 rw [q43 (by simp)];simp [flS]
attribute [go_sem] qwJ flS_3
section
variable {l:List Nat}
def qki {x:Nat} (hx:x < 18446744073709551616):ACt 187 [uv x] (bv (!decide (q0I x))):=by
 have C1:=qa3 hx;refine ac0 Tryz.func187 Tryz.ntmps187 [.tmp 2] ?_;exact wk trivial
def qgx (hu:∀ x ∈ l,x < 18446744073709551616) (hn:l.length<=1000000):ACt 101 [pF l] (bv (decide (∀ x ∈ l,q0I x))):=by
 have C1:=q2u (f:=187) (λx hx=>qki hx) hu hn;generalize decide (∀ x ∈ l,q0I x)=b at *;refine ac0 Tryz.func101 Tryz.ntmps101 [.tmp 2] ?_;exact wk1 @Bool.not_not trivial
def q9K {l:List Int} (hn:l.length<=1000000):ACt 188 [pVs l] (pV (grZ l)):=by
 have C1:=q2C qiT dy0;have N1:=q1T (V:=0);refine ac0 Tryz.func188 Tryz.ntmps188 [.cell 2 48] ?_;refine wk ?_;refine q0B (λi=>i<=l.length) [2,3,9,10] [2] Lk Lk (λi:Nat=>[(11,iv i)]) (λi=>[(3,⟨48,some 4,[pV (grZ (l.take i))],false⟩)]) (λi=>l.length-i) 0 (zB _) ?_ ?_
 ·refine LeM [] rfl rfl ?_;refine Zz ?_;exact ⟨rfl,rfl⟩
 ·intro i hi
  by_cases hlt:i < l.length
  ·obtain ⟨x,hx⟩:∃ x,l[i]?=some x:=⟨_,zA hlt⟩;have C2:=qlZ qnV λho=>qny (A:=x) (B:=grZ (l.take i)) ho.1 ho.2;have es:=qwU hx;generalize grZ (l.take i)=G at *
   by_cases h:G < x
   ·rw [quq h] at C2;rw [show max G x=x by omega] at es;refine wk1 hx ?_;refine ⟨i+1,by omega,by omega,?_⟩;rw [es];refine LeM [] rfl rfl ?_;refine Zz ?_
    first | done | omega | exact ⟨by omega,rfl⟩
   ·have q:=qup h;rw [show max G x=G by omega] at es;generalize (x-G).sign=s at *;refine wk1 hx ?_;refine ⟨i+1,by omega,by omega,?_⟩;rw [es];refine LeM [] rfl rfl ?_;refine Zz ?_
    first | done | omega | exact ⟨by omega,rfl⟩
  ·obtain rfl:i=l.length:=by omega
   rw [z8];exact wk trivial
end
section
variable {F:Nat->Nat->Option Nat} {n i:Nat} {b z v:List Nat} {r:Nat->Int}
def vtL (n:Nat) (v:List Nat) (r:Nat->Int) (i k:Nat):List Int:=(List.range k).map λk=>prZ (ofZ (v.getD (k*n+i) 0)) (r k)
def qt5 {k:Nat}:vtL n v r i (k+1)=vtL n v r i k ++ [prZ (ofZ (v.getD (k*n+i) 0)) (r k)]:=by unfold vtL; rw [zW,zC]; rfl
def q9k {k:Nat}:(vtL n v r i k).length=k:=by unfold vtL; simp
def qeC:q1M (vtL n v r i n)=vsX n v r i:=qb0 n
def qqz (hn:n<=20) (hl:v.length=n*n) (hv:q03 v) (hi:i < n) (hr:∀ k,k < n->mlk 2148 (r k)/\bl (r k).natAbs<=67596):ACt 190 [pPn n n v,iv i,pVs ((List.range n).map r)] (pV (vsX n v r i)):=by
 have hpi:=λj hj=>qv5 (i:=i) (j:=j) (show n<=64 by omega) (show n<=64 by omega) hl hi hj;have hT:=λk hk=>q84 (n:=n) hv (i:=i) (hr k hk);have hd:q0U (vsX n v r i):=by
  have:=(q62 (i:=i) Oq hv hr).2.2;unfold q0U; omega
 have hts:=qeC (n:=n) (v:=v) (r:=r) (i:=i);have htb:∀ y ∈ vtL n v r i n,q0U y:=λy hy=>by
  unfold vtL at hy;obtain ⟨k,hk,rfl⟩:=zN.1 hy;have:=(hT k (zU.1 hk)).2.1;unfold q0U; omega
 have CS:=q2C (q7B (l:=vtL n v r i n) (by rw [q9k]; omega) htb (by rw [hts]; exact hd)) (by rw [hts]; exact hd);rw [hts] at CS;have h0:vtL n v r i 0=[]:=rfl;have hs:=λk=>qt5 (n:=n) (v:=v) (r:=r) (i:=i) (k:=k);have hll:=λk=>q9k (n:=n) (v:=v) (r:=r) (i:=i) (k:=k);have hrg:=λk (hk:k < n)=>show (((List.range n).map r).map λV=>pV V)[k]?=some (pV (r k)) by rw [zD,zD,zF hk]; rfl
 have hrl:(((List.range n).map r).map λV=>pV V).length=n:=by simp
 have NS:=q1T (V:=vsX n v r i);unfold pVs;generalize ((List.range n).map r).map (λV=>pV V)=W at *;generalize vsX n v r i=S at *;unfold pPn;refine ac0 Tryz.func190 Tryz.ntmps190 [.cell 6 48] ?_;refine wk ?_;refine q0B (λk=>k<=n) [1,2,3,6,10] [3,6] Lk Lk (λk:Nat=>[(11,iv k),(7,.ow 1001 (some 4) 0 k)]) (λk=>[(1001,⟨48,some 4,(vtL n v r i k).map λV=>pV V,false⟩)]) (λk=>n-k) 0 (zB _) ?_ ?_
 ·rw [h0];refine LeM [(1001,none)] rfl rfl ?_;refine Zz ?_
  first | done | rfl | exact ⟨rfl,rfl⟩
 ·intro k hk;have lk:=hll k
  by_cases hlt:k < n
  ·have q:(k:Int) < n:=by omega
   obtain ⟨w1,w2,y,hy⟩:=hpi k hlt;obtain ⟨y1,y2⟩:=hv y (zH hy);have M:=hT k hlt;have es:=hs k;rw [getD_some hy] at M es;have C1:=q2C (q4t y1 (q0T y2)) (q2c y2);have N1:=q1T (V:=ofZ y);have N2:=q1T (V:=r k);have C2:=q2C (qlZ qcV λho=>q7D ho.1 ho.2 M.1) (q3t M.1).2.2.2;have gk:=hrg k hlt;generalize vtL n v r i k=T at *;generalize prZ (ofZ y) (r k)=P at *;generalize k*n=kn at *;refine wk1 (x6 q w1 w2 hy gk (x2 hrl lk)) ?_;refine ⟨k+1,by omega,by omega,?_⟩;rw [es];refine LeM [(1001,some 32)] rfl rfl ?_;refine Zz ?_;exact ⟨by omega,q0F (by rw [zC]; rfl) clV⟩
  ·obtain rfl:k=n:=by omega
   have q:¬ (k:Int) < k:=by omega
   exact wk1 (x2 q lk) trivial
def qpI (hzl:z.length=n) {r J:Nat} {rows:Nat->List Int} (hr:r < n) (h:RsI F (z.map λy=>(y,0)) b n J rows) (hJ:J=n):q1M (rows r)=vrX F n b z r:=by
 subst hJ;rw [h r hr];unfold vrX
 congr 1
 refine q5J J λj hj=>?_;have e:(z.map λy=>(y,0)).getD j (0,0)=(z.getD j 0,0):=by
  rw [zE,zD,zE];cases z[j]? <;> rfl
 rw [e]
 show q1P ((F j r).getD 0) (z.getD j 0)+q1P ((F j r).getD 0) 0=q1P ((F j r).getD 0) (z.getD j 0)
 rw [qf9,Int.add_zero]
def qrA (h:TOk F n n) (hn:n<=20) (hz:q03 z) (hzl:z.length=n) (hb:q03 b) (hbl:b.length=n):ACt 189 [pT n n F,pF z,pF b] (pVs ((List.range n).map (vrX F n b z))):=by
 have hml:=q1e (f:=F) (R:=n) n;have hg:=λj hj=>q3W (f:=F) (R:=n) (C:=n) (j:=j) hj;have hix:=λj k hj h1 h2=>qcq (f:=F) (R:=n) (C:=n) (j:=j) (k:=k) hj h1 h2;have hos:=λj=>qls (f:=F) (R:=n) (j:=j);obtain ⟨o,ho⟩:∃ o,o=tO F n:=⟨_,rfl⟩;have hRC:=h.m;have hfin:rwP n (λr=>pV (vrX F n b z r)) n=((List.range n).map (vrX F n b z)).map λV=>pV V:=by
  unfold rwP;rw [List.map_map];exact List.map_congr_left λi hi=>by rw [if_pos (zU.1 hi)]; rfl
 have hpr:=λr J rows hr (hI:RsI F (z.map λy=>(y,0)) b n J rows) hJ=>qpI (r:=r) (J:=J) (rows:=rows) hzl hr hI hJ;have hZb:=λi hi=>q51 (b:=b) (z:=z) h hb hz (i:=i) hi;unfold pVs;rw [<- hfin];unfold pT;rw [<- ho] at hg hix hos;generalize (tM F n n).1=st at *;generalize (tM F n n).2.1=ix at *;generalize (tM F n n).2.2=vl at *;obtain ⟨m1,m2,m3⟩:=hml;unfold q2F;refine ac0 Tryz.func189 Tryz.ntmps189 [.tmp 6] ?_;refine wk ?_;refine q1D (qbN (o:=18) (N:=5000) (R:=10000) (n:=n) (T1:=39) (T2:=48) (K:=some 4) (λ_ h=>h) ?_ (by omega) (by omega) (by omega) (by omega) (xs:=[(1,pF z),(2,pF b),(3,.pt 3 0 0),(7,.ow 5000 none 0 n),(19,pF b),(20,iv n),(21,iv 0)]) (kv:=[]) (kb:=[(3,some ⟨27,some 5,[.ag [iv n,iv n,pI st,pI ix,pF vl]],false⟩)]) (by simp [nmW]) ?_) ?_
 ·try simp -implicitDefEqProofs (disch:=omega) only [go_sem,Nat.reduceEqDiff,Nat.reduceAdd,↓reduceIte]
 ·try refine Zz ?_
  exact ⟨if_pos rfl,by omega⟩
 rw [qlq];refine q0P (λk:Nat=>k<=n) [1,2,3,7,19,20] [3] Lk Lk (λk:Nat=>[(21,iv k)]) (λ_=>[]) (λk=>q7O n (bgR b k)) (λk=>n-k) 0 (zB _) ?_ ?_
 ·refine LeW [] rfl rfl ?_ ?_ (by simp [q0j,q0b,win]) ?_
  ·exact Ow
  ·exact wfB (q1L Oq)
  ·try refine Zz ?_
   rfl
 ·intro k hk
  by_cases hlt:k < n
  ·have hlt':(k:Int) < n:=by omega
   obtain ⟨y,hy⟩:∃ y,b[k]?=some y:=⟨_,zA Oq⟩;obtain ⟨u1,u2⟩:=hb y (zH hy);have C1:=q2C (q4t u1 (q0T u2)) (q2c u2);have er:q8S (qew (bgR b k)) k [pV (ofZ y)]=qew (bgR b (k+1)):=by
    funext j
    unfold q8S qew bgR
    by_cases h:j=k
    ·subst h; rw [if_pos rfl,if_pos (by omega),getD_some hy]; rfl
    ·rw [if_neg h]
     by_cases h2:j < k
     ·rw [if_pos h2,if_pos (by omega)]
     ·rw [if_neg h2,if_neg (by omega)]
   refine wk1 (x2 hlt' hy) ?_;refine ⟨k+1,by omega,by omega,?_⟩;unfold q7O;rw [<- er];refine q7N (r:=30) (k:=k) (row:=qew (bgR b k)) (λ_ h=>h) hlt (by intro x hx; simp at hx; subst hx; trivial) ?_ ?_ (λi h1 h2 h3 h4=>?_) (λ_ _=>clV) BOk.h0 (.inl (by omega)) (by omega) (by omega) (by omega) (by simp [nmW]) ?_
   ·try simp -implicitDefEqProofs (disch:=omega) only [go_sem,Nat.reduceEqDiff,Nat.reduceAdd,↓reduceIte]
   ·try simp -implicitDefEqProofs (disch:=omega) only [go_sem,Nat.reduceEqDiff,Nat.reduceAdd,↓reduceIte]
   ·rw [q0A h2,q0A h4,q0W h1]
   ·try refine Zz ?_
    rfl
  ·have hlt':¬ (k:Int) < n:=by omega
   obtain rfl:n=k:=by omega
   refine wk1 hlt' ?_;refine q0P (λq:Nat × (Nat->List Int)=>q.1<=n/\RsI F (z.map λy=>(y,0)) b n q.1 q.2/\RB q.2 (1+q.1*n)) [1,3,7,34] [3] Lk Lk (λq=>[(35,iv q.1)]) (λ_=>[]) (λq=>q7O n q.2) (λq=>n-q.1) (0,bgR b n) ⟨zB _,RsI.bg hbl,by rw [zX]; exact RB.bg hb⟩ ?_ ?_
   ·refine LeW [] rfl rfl ?_ ?_ (by simp [q0j,q0b,win]) ?_
    ·exact Ow
    ·exact wfB (q1L Oq)
    ·try refine Zz ?_
     rfl
   ·clear hlt hlt' hk;rintro ⟨J,rows⟩ ⟨hJ,hI,hB⟩;simp only at hJ hI hB ⊢;have hJR:J*n<=20*20:=zO Oq hn
    by_cases hlt:J < n
    ·have hlt':(J:Int) < n:=by omega
     have g1:=hg J Oq;have g2:=hg (J+1) Oq;have oJ:=hos J;have ww:IntKind.i64.wrap ((J:Int)+1)=((J+1:Nat):Int):=by rw [i64_in (by omega) (by omega)]; omega
     have hZ:=λk v=>q58 (f:=F) (j:=J) (i:=n) (k:=k) (x:=v);have hIs:=hI.s;obtain ⟨L,hL⟩:∃ L,L=tZ F J n:=⟨_,rfl⟩;have hLn:L.length<=n:=by rw [hL]; unfold tZ; exact yG (List.length_filterMap_le _ _) (by simp)
     have hixJ:=hix J;rw [<- hL] at oJ hZ hixJ hIs;clear hL;obtain ⟨p,hp⟩:∃ p,z[J]?=some p:=⟨_,zA Oq⟩;obtain ⟨p1,p2⟩:=hz p (zH hp);have hgp:(z.map λy=>(y,0)).getD J (0,0)=(p,0):=by rw [zE,zD,hp]; rfl
     rw [hgp] at hIs;have hm0:∀ v,q7e v (p,0)=q1P v p:=λv=>by
      show q1P v p+q1P v 0=q1P v p
      rw [qf9,Int.add_zero]
     have hLv:∀ e ∈ L,(e.2 < 18446744073709551616/\q0I e.2)/\e.1 < n:=λe he=>by
      obtain ⟨q1,q2⟩:=(hZ e.1 e.2).1 he;exact ⟨⟨h.u J e.1 e.2 hlt q1 q2,h.v J e.1 e.2 hlt q1 q2⟩,q1⟩
     have hBL:=λt=>hB.pg (g:=λv=>q7e v (p,0)) (L:=L.take t) λe he=>(qfc (hLv e (List.mem_of_mem_take he)).1.2 p2 (by simp [q0I])).2;have C0:=q2C (q4t p1 (q0T p2)) (q2c p2);have N0:=q1T (V:=ofZ p);refine wk1 (x2 hlt' g1) ?_;refine q0P (λt:Nat=>t<=L.length) [1,3,7,10,34,35] [3] Lk Lk (λt=>[(11,iv ((o J+t:Nat):Int))]) (λ_=>[]) (λt=>q7O n (psG (λv=>q7e v (p,0)) (L.take t) rows)) (λt=>L.length-t) 0 (zB _) ?_ ?_
     ·refine LeW [] rfl rfl ?_ ?_ (by simp [q0j,q0b,win]) ?_
      ·exact Ow
      ·exact wfB (q1L Oq)
      ·try simp -implicitDefEqProofs (disch:=omega) only [go_sem,Nat.reduceEqDiff,Nat.reduceAdd,↓reduceIte]
     ·intro t ht
      by_cases hlt2:t < L.length
      ·obtain ⟨⟨i,v⟩,e1,e2,e3⟩:=hixJ (o J+t) Oq Oq Oq;rw [Nat.add_sub_cancel_left] at e1;dsimp only at e2 e3;obtain ⟨⟨v1,v2⟩,hin⟩:=hLv (i,v) (zH e1);dsimp only at v1 v2 hin;have hq:((o J+t:Nat):Int) < ((o (J+1):Nat):Int):=by omega
       have C1:=q2C (q4t v1 (q0T v2)) (q2c v2);have N1:=q1T (V:=ofZ v);have M:=q0m v2 p2;have C2:=qlZ qcV λho=>q7D ho.1 ho.2 M.1;have hmd:=(q3t M.1).2.2.2;have C3:=q2C (q9f hmd) (by unfold q0U at *; rw [Int.natAbs_neg]; exact hmd);have hr1:(List.range n)[i]?=some i:=zF hin;have hob:=(z6.1 e2).1;have wt:IntKind.i64.wrap (((o J+t:Nat):Int)+1)=((o J+(t+1):Nat):Int):=by rw [i64_in (by omega) (by omega)]; omega
       have hps:psG (λv=>q7e v (p,0)) (L.take (t+1)) rows=q4x (psG (λv=>q7e v (p,0)) (L.take t) rows) i (-(q1P v p)):=by rw [<- hm0]; exact psG_s e1
       have hli:(psG (λv=>q7e v (p,0)) (L.take t) rows i).length<=2000:=by have:=(hBL t).l i; rw [List.length_take] at this; omega
       generalize psG (λv=>q7e v (p,0)) (L.take t) rows=rs at *;refine wk1 (x6 g1 g2 ww hq e2 (x4 e3 hr1 hp wt)) ?_;refine ⟨t+1,by omega,by omega,?_⟩;rw [hps];unfold q7O;rw [<- qgu];refine q7N (r:=78) (k:=i) (row:=qew rs) (λ_ h=>h) hin clV ?_ ?_ (λi h1 h2 h3 h4=>?_) (λ_ _=>clV) BOk.h0 (.inl (by omega)) (by omega) (by omega) (by omega) (by simp [nmW]) ?_
       ·try simp -implicitDefEqProofs (disch:=omega) only [go_sem,Nat.reduceEqDiff,Nat.reduceAdd,↓reduceIte]
       ·try refine Zz ?_
        rw [zC]
        rfl
       ·rw [q0A h2,q0A h4,q0A h3,q0A (by obtain ⟨w1,w2⟩:=h1; omega),q0W h1]
       ·try simp -implicitDefEqProofs (disch:=omega) only [go_sem,Nat.reduceEqDiff,Nat.reduceAdd,↓reduceIte]
      ·obtain rfl:t=L.length:=by omega
       have hq:¬ ((o J+L.length:Nat):Int) < ((o (J+1):Nat):Int):=by omega
       have hB2:=hBL L.length;rw [z8] at hB2 ⊢;refine wk1 (x3 g2 ww hq) ?_;refine ⟨(J+1,psG (λv=>q7e v (p,0)) L rows),⟨hlt,hIs,hB2.mono (by rw [u7]; omega)⟩,by simp only; omega,?_⟩;simp only;refine LeW [] rfl rfl ?_ ?_ (by simp [q0j,q0b,win]) ?_
       ·exact Ow
       ·exact wfB (q1L Oq)
       ·try simp -implicitDefEqProofs (disch:=omega) only [go_sem,Nat.reduceEqDiff,Nat.reduceAdd,↓reduceIte]
    ·obtain rfl:J=n:=by omega
     have hlt':¬ (J:Int) < J:=by omega
     have hsum:∀ r,r < J->q1M (rows r)=vrX F J b z r:=λr hr=>hpr r J rows hr hI rfl;have hrl:=hB.l;have hbb:=hB.b;have hwl:=λm=>q7X (n:=J) (g:=λr=>pV (vrX F J b z r)) (m:=m);have hws:=λm=>qpD (n:=J) (g:=λr=>pV (vrX F J b z r)) (m:=m);have hwc:=λm=>q1i (n:=J) (g:=λr=>pV (vrX F J b z r)) (m:=m) λc=>trivial;clear hfin hg hix hos hI hpr;refine wk1 hlt' ?_;refine q0P (λr=>r<=J) [84,85] [] Lk Lk (λr:Nat=>[(86,iv r),(13,.ow 1001 (some 4) 0 J)]) (λr=>[(1001,⟨48,some 4,rwP J (λr=>pV (vrX F J b z r)) r,false⟩)]) (λ_=>q7O J rows) (λr=>J-r) 0 (zB _) ?_ ?_
     ·refine LeW [(1001,some 83)] rfl rfl ?_ ?_ (by simp [q0j,q0b,win]) ?_
      ·exact Ow
      ·exact wfB (q1L Oq)
      ·try refine Zz ?_
       exact ⟨rfl,qaw (by simp)⟩
     ·intro r hr
      by_cases hlt2:r < J
      ·have q2:(r:Int) < J:=by omega
       have hr1:(List.range J)[r]?=some r:=zF hlt2;have hd:q0U (vrX F J b z r):=by have:=(hZb r hlt2).2; unfold q0U; omega
       have hs2:=hsum r hlt2;have C2:=q2C (q7B (l:=rows r) (by have:=hrl r; omega) (λz hz=>by have:=hbb r z hz; unfold q0U; omega) (by rw [hs2]; exact hd)) (by rw [hs2]; exact hd);rw [hs2] at C2;have N2:=q1T (V:=vrX F J b z r);have hli:=hrl r;have e1:=hws r;have e2:=hwl r;have e3:=hwc r;generalize rwP J (λr=>pV (vrX F J b z r)) r=W at *;refine wk1 (x3 q2 hr1 e2) ?_;refine ⟨r+1,by omega,by omega,?_⟩;rw [<- e1];refine LeW [] rfl rfl ?_ ?_ (by simp [q0j,q0b,win]) ?_
       ·exact Ow
       ·exact wfB (q1L Oq)
       ·try refine Zz ?_
        exact ⟨by omega,q0F rfl (q4n e3 trivial)⟩
      ·obtain rfl:r=J:=by omega
       have q2:¬ (r:Int) < r:=by omega
       refine wk1 (x3 q2 (hwl r) (hwc r)) ?_;exact zG (Nat.le_of_eq (hwl r))
end
abbrev pBx (n:Nat) (v z:List Nat):PV:=.ag [iv n,iv n,pF v,pF z]
def qnc {A B V:Int} (h:mkV (A*B) (-131072)=some V):ACt 163 [pV A,pV B] (pV V):=q2C (qlZ qcV λho=>q7D ho.1 ho.2 h) (q3t h).2.2.2
def qzF {A B:Int} (h:q0U (A+B)):ACt 178 [pV A,pV B] (pV (A+B)):=q2C (qlZ qnU λho=>q9h ho.1 ho.2 h) h
def qzE {A B:Int} (h:q0U (A-B)):ACt 176 [pV A,pV B] (pV (A-B)):=q2C (qlZ qnW λho=>qnx ho.1 ho.2 h) h
section
variable {F:Nat->Nat->Option Nat} {n:Nat} {b z v:List Nat}
def qta {i:Nat}:((List.range (i+1)).map (vdX n v (vrX F n b z)))=(List.range i).map (vdX n v (vrX F n b z)) ++ [vdX n v (vrX F n b z) i]:=qvH
def qt8 {i:Nat}:vfL F n v b z (i+1)=vfL F n v b z i ++ [vIv (z.getD i 0) (vfN F n v b z i) (vfG F n v)]:=by unfold vfL; rw [zW,zC]; rfl
def q9l {i:Nat}:(vfL F n v b z i).length=i:=by unfold vfL; simp
def qrX {l:List (Nat × Nat)}:ClL (l.map λp=>PV.ag [uv p.1,uv p.2]):=λx hx=>by
 obtain ⟨c,_,rfl⟩:=zN.1 hx;intro y hy;simp at hy
 rcases hy with rfl | rfl <;> trivial
def qqx (h:TOk F n n) (hn:n<=20) (hl:v.length=n*n) (hv:q03 v) (hb:q03 b) (hbl:b.length=n) (hz:q03 z) (hzl:z.length=n):ACt 102 [pT n n F,pF b,pBx n v z] (.tu [pP (vfO F n v b z).1,bv (vfO F n v b z).2]):=by
 have C1:=qgy h hn hl hv;have C2:=q2C qdx (by have:=q4g; unfold q0U; omega);have C3:=q9K (l:=btL n v F) (by unfold btL; rw [q5i]; omega);have hG:=qbF h hv;have dG:q0U (vfG F n v):=by unfold q0U; omega
 have C4:ACt 176 [pV q2T,pV (grZ (btL n v F))] (pV (vfG F n v)):=qzE dG;have C5:=qnd qnT λho=>q3i (V:=vfG F n v) ho;have C6:=qrA h hn hz hzl hb hbl;have hr:=λk (hk:k < n)=>q51 h hb hz (b:=b) (z:=z) hk;have C7:=λi (hi:i < n)=>qqz (r:=vrX F n b z) (i:=i) hn hl hv hi hr;have hds:=λi=>q62 (v:=v) (r:=vrX F n b z) (i:=i) Oq hv hr;have C8:=λi=>q2C (qnd qhX λho=>qeA (A:=vsX n v (vrX F n b z) i) ho) (qnC (by have:=(hds i).2.2; unfold q0U; omega));have C9:=q9K (l:=vfD F n v b z) (by unfold vfD; rw [q5i]; omega);have hNs:=λi (hi:i < n)=>qld h hv hb hz (i:=i) hi;have hdD:=λi=>qta (F:=F) (n:=n) (b:=b) (z:=z) (v:=v) (i:=i);have hLs:=λi=>qt8 (F:=F) (n:=n) (b:=b) (z:=z) (v:=v) (i:=i);have hLl:=λi=>q9l (F:=F) (n:=n) (b:=b) (z:=z) (v:=v) (i:=i);have hL0:vfL F n v b z 0=[]:=rfl;have hvn:=λi=>show vfN F n v b z i=prZ (vdX n v (vrX F n b z) i) (vfG F n v)+prZ (btZ n v F i) (grZ (vfD F n v b z)) from rfl;have hDe:vfD F n v b z=(List.range n).map (vdX n v (vrX F n b z)):=rfl;have hBg:=λi (hi:i < n)=>show ((btL n v F).map λV=>pV V)[i]?=some (pV (btZ n v F i)) by unfold btL; rw [zD,q44 hi]; rfl
 have hBl:((btL n v F).map λV=>pV V).length=n:=by unfold btL; simp
 have hDg:=λi (hi:i < n)=>show ((vfD F n v b z).map λV=>pV V)[i]?=some (pV (vdX n v (vrX F n b z) i)) by rw [hDe,zD,q44 hi]; rfl
 have hDl:((vfD F n v b z).map λV=>pV V).length=n:=by rw [hDe]; simp
 have hG0:vfG F n v=q2T-grZ (btL n v F):=rfl;have e8:∀ i,((vsX n v (vrX F n b z) i).natAbs:Int)=vdX n v (vrX F n b z) i:=λ_=>rfl;simp only [e8] at C8;have hNr:(List.range n).map (vrX F n b z)=(List.range n).map (vrX F n b z):=rfl;unfold vfO;unfold pPn at C1 C7;unfold pBx at *;unfold pT q2F at *;generalize (tM F n n).1=ms at *;generalize (tM F n n).2.1=mi at *;generalize (tM F n n).2.2=mv at *;have NG:=q1T (V:=vfG F n v);have N1:=q1T (V:=q2T);have NB:=q1T (V:=grZ (btL n v F));clear hr hG hds hNr e8
 by_cases h1:q2T<=grZ (btL n v F)
 ·rw [if_pos h1];have q:(vfG F n v).sign<=0:=by
   rw [hG0]
   rcases Int.lt_or_eq_of_le h1 with h1 | h1
   ·rw [uX (by omega)]; omega
   ·rw [show q2T-grZ (btL n v F)=0 by omega]; decide
  generalize (vfG F n v).sign=s at *;generalize vfG F n v=G at *;generalize btL n v F=B at *;refine ac0 Tryz.func102 Tryz.ntmps102 [.tmp 6,.tmp 7] ?_;exact wk trivial
 rw [if_neg h1];dsimp only;have hGp:0 < vfG F n v:=by omega
 rw [z9 hGp] at C5;have CQ:=λN=>ac_2x (x:=iv 2) qnS λho=>qkb (mode:=2) (a:=N) (b:=vfG F n v) Oq ho.1 ho.2 Oq;generalize vfG F n v=G at *;rw [hDe] at hNs hvn C9 hDg hDl;generalize grZ ((List.range n).map (vdX n v (vrX F n b z)))=M at *;have NM:=q1T (V:=M);refine ac0 Tryz.func102 Tryz.ntmps102 [.tmp 6,.tmp 7] ?_;refine wk ?_;refine q0B (λi=>i<=n) [1,3,5,8,9,10,34,35] [3,5,9] Lk Lk (λi:Nat=>[(36,iv i),(11,.ow 1001 (some 4) 0 i)]) (λi=>[(1001,⟨48,some 4,((List.range i).map (vdX n v (vrX F n b z))).map λV=>pV V,false⟩)]) (λi=>n-i) 0 (zB _) ?_ ?_
 ·refine LeM [(1001,none)] rfl rfl ?_;refine Zz ?_
  first | done | rfl | exact ⟨rfl,rfl⟩
 ·intro i hi;have li:(((List.range i).map (vdX n v (vrX F n b z))).map λV=>pV V).length=i:=by simp
  by_cases hlt:i < n
  ·have q:(i:Int) < n:=by omega
   have c7:=C7 i hlt;have c8:=C8 i;have N2:=q1T (V:=vsX n v (vrX F n b z) i);have N3:=q1T (V:=vdX n v (vrX F n b z) i);have es:=hdD i;generalize vsX n v (vrX F n b z) i=S at *;generalize vdX n v (vrX F n b z) i=d at *;refine wk1 (x2 q li) ?_;refine ⟨i+1,by omega,by omega,?_⟩;rw [es];refine LeM [(1001,some 47)] rfl rfl ?_;refine Zz ?_;exact ⟨by omega,q0F (by rw [zC]; rfl) clV⟩
  ·obtain rfl:i=n:=by omega
   have q:¬ (i:Int) < i:=by omega
   have tk:yI i (((List.range i).map (vdX i v (vrX F i b z))).map λV=>pV V)=((List.range i).map (vdX i v (vrX F i b z))).map λV=>pV V:=zG (by simp);refine wk1 (x3 q li tk) ?_;refine q0B (λj=>j<=i) [5,8,9,11,13,52,53] [5,9,13,1001] Lk Lk (λj:Nat=>[(54,iv j),(14,.ow 1002 (some 2) 0 j)]) (λj=>[(1002,⟨58,some 2,(vfL F i v b z j).map λp=>.ag [uv p.1,uv p.2],false⟩)]) (λj=>i-j) 0 (zB _) ?_ ?_
   ·rw [hL0];refine LeM [(1002,none)] rfl rfl ?_;refine Zz ?_
    first | done | rfl | exact ⟨rfl,rfl⟩ | exact ⟨rfl,q0F rfl clV⟩ | exact ⟨⟨rfl,rfl⟩,q0F rfl clV⟩
   ·intro j hj;have lj:=hLl j
    by_cases hlt:j < i
    ·have q:(j:Int) < i:=by omega
     have gd:=hDg j hlt;have gb:=hBg j hlt;have es:=hLs j;obtain ⟨m1,m2,m3,m4⟩:=hNs j hlt;have nn:=hvn j;obtain ⟨w,hw⟩:∃ w,z[j]?=some w:=⟨_,zA Oq⟩;obtain ⟨w1,w2⟩:=hz w (zH hw);rw [getD_some hw] at es;generalize vdX i v (vrX F i b z) j=d at *;generalize btZ i v F j=u at *;generalize vfN F i v b z j=N at *;have c1:=qnc m1;have c2:=qnc m2;have dN:q0U N:=by unfold q0U; omega
     have c3:=qzF (A:=prZ d G) (B:=prZ u M) (by rw [<- nn]; exact dN);rw [<- nn] at c3;have c4:=CQ N;have r1:=qa1 (mode:=2) (a:=N) (b:=G) Oq;have r2:=qgn (mode:=2) (a:=N) (b:=G) Oq;unfold vIv at es;generalize fQ 2 N G=R at *;have c5:=qqq (mode:=1) (.inr (.inl rfl)) ⟨w1,w2⟩ r1 r2;have c6:=qgr (mode:=2) (.inr (.inr rfl)) ⟨w1,w2⟩ r1 r2;generalize q9t 1 w R=a1 at *;generalize q4v 2 w R=a2 at *;have N2:=q1T (V:=d);have N3:=q1T (V:=u);have N4:=q1T (V:=N);have N5:=q1T (V:=prZ d G);have N6:=q1T (V:=prZ u M);refine wk1 (x6 q gd gb hw hDl (x2 hBl lj)) ?_;refine ⟨j+1,by omega,by omega,?_⟩;rw [es];refine LeM [(1002,some 83)] rfl rfl ?_;refine Zz ?_
     first | exact ⟨by omega,q0F (by rw [zC]; rfl) qrX⟩ | exact ⟨by omega,q0F (by rw [zC]; rfl) qrX,q0F rfl clV⟩
    ·obtain rfl:j=i:=by omega
     have q:¬ (j:Int) < j:=by omega
     have hcl:(∀ a:Nat × Nat,a ∈ vfL F j v b z j->Cld (PV.ag [uv a.1,uv a.2]))=True:=eq_true λa _=>by
      intro y hy;simp at hy
      rcases hy with rfl | rfl <;> trivial
     exact wk1 (x3 q lj hcl) trivial
def q6p (h:TOk F n n) (hn:n<=20) (hl:v.length=n*n) (hv:q03 v) (hb:q03 b) (hbl:b.length=n) (hz:q03 z) (hzl:z.length=n):ACt 27 [pT n n F,pF b,pBx n v z] (.tu [pP (vfO F n v b z).1,bv (vfO F n v b z).2,iv 0]):=by
 have hm2:n*n<=20*20:=zO hn hn;have hch:chP n n v=0:=by unfold chP; rw [if_neg (not_not_intro hl),if_pos λx hx=>(hv x hx).2]
 have C1:=qrD (r:=n) (c:=n) (v:=v) h Oq Oq Oq λx hx=>(hv x hx).1;have hbt:btC n n n n v=0:=by
  unfold btC;rw [if_neg (not_not_intro rfl),if_neg (not_not_intro hch),if_neg (by omega)]
 rw [hbt] at C1;have C2:=qqx h hn hl hv hb hbl hz hzl;have C3:=qgx (l:=b) (λx hx=>(hb x hx).1) Oq;have C4:=qgx (l:=z) (λx hx=>(hz x hx).1) Oq;rw [decide_eq_true λx hx=>(hb x hx).2] at C3;rw [decide_eq_true λx hx=>(hz x hx).2] at C4;have q1:((b.length:Int) != (n:Int))=false:=by simp; omega
 have q2:((z.length:Int) != (n:Int))=false:=by simp; omega
 generalize vfO F n v b z=o at *;unfold pPn at C1;unfold pBx at *;unfold pT q2F at *;generalize (tM F n n).1=ms at *;generalize (tM F n n).2.1=mi at *;generalize (tM F n n).2.2=mv at *;refine ac0 Tryz.func27 Tryz.ntmps27 [.tmp 6,.tmp 7,.tmp 8] ?_;exact wk1 (x2 q1 q2) trivial
end
def mkV_2 {A:Int} (ho:q0U (2*A)):mkV (od A) (dyE A+1)=some (2*A):=by
 have a1:=q6C (V:=A);rw [q3M (V:=2*A) (by omega) ?_,q1b ho];have h0:=q1t (V:=A) (E:=dyE A) a1 (yB _);rw [Int.sub_self,show (0:Int).toNat=0 from rfl,Int.pow_zero,Int.mul_one] at h0;rw [show (dyE A+1+65536).toNat=(dyE A+65536).toNat+1 by omega,Int.pow_succ,<- zI,h0,Int.mul_comm]
def qsY:q09 Tryz.prog 272=some (some 2):=by kernel_rfl
attribute [go_sem] qsY
def quO {T:TypeId} {m i j:Nat} {xs l:List PV} {x:PV} {K:Bk->Prop} (hx:xs[i]?=some (.ag l)) (hj:j < l.length):q95 (some ⟨T,some m,xs,false⟩) (some none) (some 1) i j x K=q1m none x (K ⟨T,some m,xs.set i (.ag (l.set j x)),false⟩):=by
 unfold q95 q1m;refine propext ⟨?_,?_⟩
 ·rintro ⟨b,k',u,u',h1,h2,_,_,h5,h6,h7,h8⟩;cases h1; cases h2;rw [hx] at h6;cases h6;unfold stU at h7;rw [if_neg (by simp)] at h7;simp only at h7;rw [if_pos hj] at h7;cases h7; exact ⟨h5,h8⟩
 ·rintro ⟨h2,h3⟩;exact ⟨_,none,.ag l,.ag (l.set j x),rfl,rfl,rfl,rfl,h2,hx,by unfold stU; rw [if_neg (by simp)]; simp [hj],h3⟩
section
variable {R C:Nat} {F:Nat->Nat->Option Nat} {f:LUt} {b:List Nat} {sg:Bool} {steps:Int}
def qiJ {s:Nat} (h:s < 9223372036854775808):decide (s=0\/s=9223372036854775808)=decide (s=0):=by
 by_cases h0:s=0
 ·rw [decide_eq_true h0,decide_eq_true (.inl h0)]
 ·rw [decide_eq_false h0,decide_eq_false (by omega)]
def qiM (hm:TOk F R C) (hb:LUb f) (hn:f.rows.length<=20) (hu:∀ v ∈ b,v < 18446744073709551616) (hl:b.length<=1000000) (hs1 : -9223372036854775808<=steps) (hs2:steps<=9223372036854775807):ACt 246 [pT R C F,pLU f,pF b,iv steps,bv sg] (rfV (rfS C F f b (!sg) R steps)):=by
 have cK1:=q9s hm;have cK2:=q9d hb;have rfS0:=qjD (R:=R) (C:=C) (f:=f) (steps:=steps);have cG:=q7A (l:=b) hb Oq hu hl;have hG:=q6o (l:=b) hb hu;have cGr:=λ(l:List Nat) (h1:q03 l) (h2:l.length<=1000000)=>q7A (l:=l) hb Oq (λx hx=>(h1 x hx).1) h2;have hGr:=λ(l:List Nat) (h1:q03 l)=>q6o (l:=l) hb (λx hx=>(h1 x hx).1);have hmr:=hm.r;have hmc:=hm.c;unfold rfV rfS
 by_cases hz:rfR R C f steps=0
 case neg =>
  rw [if_pos hz];dsimp only;clear cG hG cGr hGr rfS0;unfold rfR at hz ⊢;unfold pT q2F at *;generalize q6Y f=e at *;unfold pLU at *
  by_cases h1:e=0
  ·rw [if_neg (not_not_intro h1)] at hz ⊢;subst h1
   by_cases h2:R=f.rows.length
   ·have q2:((R:Int) != (f.rows.length:Int))=false:=by simp; omega
    by_cases h3:C=f.rows.length
    ·have q3:((C:Int) != (f.rows.length:Int))=false:=by simp; omega
     rw [if_neg (by omega)] at hz ⊢
     by_cases h4:steps < 0
     ·rw [if_pos (.inl h4)];refine ac0 Tryz.func246 Tryz.ntmps246 [.tmp 10,.tmp 11,.tmp 12] ?_;exact wk1 (x3 q2 q3 h4) trivial
     ·by_cases h5:steps > 64
      ·rw [if_pos (.inr h5)];refine ac0 Tryz.func246 Tryz.ntmps246 [.tmp 10,.tmp 11,.tmp 12] ?_;exact wk1 (x4 q2 q3 h4 h5) trivial
      ·rw [if_neg (by omega)] at hz;exact absurd rfl hz
    ·have q3:((C:Int) != (f.rows.length:Int))=true:=by simp; omega
     rw [if_pos (.inr h3)];refine ac0 Tryz.func246 Tryz.ntmps246 [.tmp 10,.tmp 11,.tmp 12] ?_;exact wk1 (x2 q2 q3) trivial
   ·have q2:((R:Int) != (f.rows.length:Int))=true:=by simp; omega
    rw [if_pos (.inl h2)];refine ac0 Tryz.func246 Tryz.ntmps246 [.tmp 10,.tmp 11,.tmp 12] ?_;exact wk1 q2 trivial
  ·rw [if_pos h1];have q:(e != 0)=true:=by simpa using h1
   refine ac0 Tryz.func246 Tryz.ntmps246 [.tmp 10,.tmp 11,.tmp 12] ?_;exact wk1 q trivial
 rw [if_neg (not_not_intro hz)];obtain ⟨hck,hR,hC,s0,s1⟩:=rfS0 hz;rw [hck] at cK2;obtain rfl:C=R:=by omega
 have q2:((C:Int) != (f.rows.length:Int))=false:=by simp; omega
 have q4:¬ steps < 0:=by omega
 have q5:¬ steps > 64:=by omega
 by_cases hg:(lgE f b).2=0
 case neg =>
  rw [if_pos hg];generalize (lgE f b).2=e at *;generalize (lgE f b).1=xs at *;have q:(e != 0)=true:=by simpa using hg
  unfold pT q2F pLU at *;dsimp only;refine ac0 Tryz.func246 Tryz.ntmps246 [.tmp 10,.tmp 11,.tmp 12] ?_;exact wk1 (x4 q2 q4 q5 q) trivial
 rw [if_neg (not_not_intro hg)];obtain ⟨_,hbn,hbf,hxn,hxf⟩:=hG hg;rw [hg] at cG;have cD:=λ(x:List (Nat × Nat)) (h1:qtG x) (h2:x.length=C)=>qtV (f:=F) (x:=x) (b:=b) hm Oq Oq h1 h2 hbf Oq;generalize (lgE f b).1=x0 at *;have hxl:x0.length=C:=by omega
 have cP:=qdt (l:=x0) Oq;clear hG hg rfS0;have hpl:pT C C F=q2F C C (tM F C C).1 (tM F C C).2.1 (tM F C C).2.2:=rfl;rw [hpl] at cK1 ⊢;simp only [hpl] at cD;clear hpl;unfold q2F at *;generalize (tM F C C).1=ms at *;generalize (tM F C C).2.1=mi at *;generalize (tM F C C).2.2=mv at *;have hrfL:=λk x r l=>show rfL C F f b (!sg) (k+1) x r l=(
  if q1n r C=0 then (x,l,0) else
  if (lgE f r).2≠0 then ([],[],(lgE f r).2) else
  if ¬ ∀ p ∈ chL (!sg) x (lgE f r).1 C,q0I p.1 then ([],[],233) else
  if ¬ ∀ v ∈ rdL F (chL (!sg) x (lgE f r).1 C) b C C,q0I v then ([],[],233) else
  if ofZ (q1n r C) < 2*ofZ (q1n (rdL F (chL (!sg) x (lgE f r).1 C) b C C) C) then (x,l,0) else
  rfL C F f b (!sg) k (chL (!sg) x (lgE f r).1 C) (rdL F (chL (!sg) x (lgE f r).1 C) b C C) (l ++ [q1n (rdL F (chL (!sg) x (lgE f r).1 C) b C C) C])) from rfl
 have hrf0:=λx r l=>show rfL C F f b (!sg) 0 x r l=(x,l,0) from rfl;have hdl:=λx=>qaD (f:=F) (x:=x) (b:=b) (C:=C) (i:=C);have hdu:=λx=>qpS (f:=F) (x:=x) (b:=b) (C:=C) (i:=C);generalize rfL C F f b (!sg)=RL at *;generalize hdg:(λx=>rdL F x b C C)=RD at *;have hRD:=λx=>show rdL F x b C C=RD x from congrFun hdg x;simp only [hRD] at hrfL hdl hdu cD ⊢;clear hRD hdg;unfold pLU at *;generalize hlg:lgE f=LG at *;have hX1:=qp2 hxf;have hX2:(x0.map λv=>(v,0)).length=C:=by rw [zM]; exact hxl
 generalize (x0.map λv=>(v,0))=X at *;have c2:=cD X hX1 hX2;have hDl0:=hdl X;have hDu:=hdu X;generalize RD X=r0 at *;have C1:=@q0w
 by_cases hf0:∀ v ∈ r0,q0I v
 case neg =>
  rw [if_pos hf0];rw [if_neg hf0] at c2;clear cD;refine ac0 Tryz.func246 Tryz.ntmps246 [.tmp 10,.tmp 11,.tmp 12] ?_;exact wk1 (x3 q2 q4 q5) trivial
 rw [if_neg (not_not_intro hf0)];rw [if_pos hf0] at c2;have hr0:q03 r0:=λv hv=>⟨hDu v hv,hf0 v hv⟩;have c3:=q6z hr0 Oq;rw [hDl0] at c3;obtain ⟨N,hN⟩:∃ N:Nat,steps=N:=⟨steps.toNat,by omega⟩;subst hN;rw [Int.toNat_natCast];obtain ⟨res,hres⟩:∃ r,r=RL N X r0 [q1n r0 C]:=⟨_,rfl⟩;rw [<- hres];refine ac0 Tryz.func246 Tryz.ntmps246 [.tmp 10,.tmp 11,.tmp 12] ?_;refine wk1 (x3 q2 q4 q5) ?_;refine q0B (λq:Nat × List (Nat × Nat) × List Nat × List Nat=>q.1<=N/\q.2.1.length=C/\qtG q.2.1/\q.2.2.1.length=C/\q03 q.2.2.1/\q.2.2.2.length<=q.1/\RL (N-q.1) q.2.1 q.2.2.1 (q.2.2.2 ++ [q1n q.2.2.1 C])=res) [2,3,4,5,6] [5,6] Lk Lk (λq=>[(21,iv q.1),(17,pP q.2.1),(18,pF q.2.2.1),(20,.ow 1002 none 0 (q.2.2.2.length+1))]) (λq=>[(1002,⟨33,none,(q.2.2.2 ++ [q1n q.2.2.1 C]).map λz:Nat=>uv z,false⟩)]) (λq=>N-q.1) (0,X,r0,[]) ⟨zB _,hX2,hX1,hDl0,hr0,zB _,hres.symm⟩ ?_ ?_
 ·refine LeM [(1002,some 81)] rfl rfl ?_;refine Zz ?_
  rfl
 ·clear hr0 hX1 hX2 hres hf0 c2 c3 cP hDu hDl0 cK1 cK2 cG hxf hck;rintro ⟨k,x,r,l⟩ ⟨hk,hx1,hx2,hr1,hr2,hl1,hv⟩;simp only at hk hx1 hx2 hr1 hr2 hl1 hv ⊢;have z1:=qbX hr2;have c3:=q6z hr2 Oq;rw [hr1] at z1 c3;have hll:(l ++ [q1n r C]).length=l.length+1:=by simp
  have c4:=q4Z (x:=q1n r C);rw [qiJ z1.1] at c4
  by_cases hlt:k < N
  ·have hlt':(k:Int) < N:=by omega
   rw [show N-k=(N-(k+1))+1 by omega,hrfL] at hv
   by_cases h0:q1n r C=0
   ·rw [if_pos h0] at hv;subst hv;rw [decide_eq_true h0] at c4;exact wk1 (x2 hlt' hll) trivial
   rw [if_neg h0] at hv;rw [decide_eq_false h0] at c4;have c5:=cGr r hr2 Oq;have h5:=hGr r hr2
   by_cases he:(LG r).2=0
   case neg =>
    rw [if_pos he] at hv;subst hv;generalize (LG r).2=e at *;generalize (LG r).1=ds at *;have q:(e != 0)=true:=by simpa using he
    exact wk1 (x3 hlt' hll q) trivial
   rw [if_neg (not_not_intro he)] at hv;obtain ⟨_,_,_,d1,d2⟩:=h5 he;rw [he] at c5;generalize (LG r).1=d at *;have d1:d.length=C:=by omega
   clear h5 he;have g0:=rwQ_0 (n:=C) (g:=λj=>chV (!sg) (x.getD j (0,0)) (d.getD j 0));have gn:=rwQ_n (n:=C) (dbl:=!sg) (x:=x) (d:=d);have gl:=λm=>qpC (n:=C) (g:=λj=>chV (!sg) (x.getD j (0,0)) (d.getD j 0)) (m:=m);have gs:=λm=>rwQ_s (n:=C) (g:=λj=>chV (!sg) (x.getD j (0,0)) (d.getD j 0)) (m:=m);have hY2:=qah (dbl:=!sg) (x:=x) (d:=d) (n:=C);have hY1:=qhV (dbl:=!sg) (x:=x) (d:=d) (n:=C);have hYm:=λj (hj:j < C)=>show chV (!sg) (x.getD j (0,0)) (d.getD j 0) ∈ chL (!sg) x d C from List.mem_map_of_mem (zU.2 hj);have hYx:(∀ j,j < C->q0I (chV (!sg) (x.getD j (0,0)) (d.getD j 0)).1)->∀ p ∈ chL (!sg) x d C,q0I p.1:=λh p hp=>by
    obtain ⟨j,hj,rfl⟩:=zN.1 hp;exact h j (zU.1 hj)
   generalize rwQ C (λj=>chV (!sg) (x.getD j (0,0)) (d.getD j 0))=G at *;refine wk1 (x3 hlt' hll hx1) ?_;refine q0B (λi=>i<=C/\∀ j,j < i->q0I (chV (!sg) (x.getD j (0,0)) (d.getD j 0)).1) [2,3,4,5,6,17,18,20,21,22] [5,6,1002] Lk Lk (λi=>[(25,iv i),(24,.ow 1003 (some 2) 0 C)]) (λi=>[(1003,⟨272,some 2,(G i).map λp:Nat × Nat=>.ag [uv p.1,uv p.2],false⟩)]) (λi=>C-i) 0 ⟨zB _,λ_ h=>by omega⟩ ?_ ?_
   ·refine LeM [(1003,some 104)] rfl rfl ?_;refine Zz ?_;exact ⟨rfl,q0F (by rw [<- g0,List.map_replicate]; rfl) qtI⟩
   ·rintro i ⟨hi,hgf⟩
    by_cases hlt2:i < C
    ·have hli:(i:Int) < C:=by omega
     obtain ⟨p,hp⟩:∃ p,x[i]?=some p:=⟨_,zA Oq⟩;obtain ⟨v,hdv⟩:∃ v,d[i]?=some v:=⟨_,zA Oq⟩;obtain ⟨⟨p1,p2⟩,p3,p4⟩:=hx2 p (zH hp);obtain ⟨v1,v2⟩:=d2 v (zH hdv);have o1:=q0w p1 (q0T p2);have o2:=q0w p3 (q0T p4);have o3:=q0w v1 (q0T v2);have hT:=qxp p2 p4 v2;have a1:=q4k (A:=ofZ p.1) (B:=ofZ p.2) (by have:=pZ_bl p2 p4; unfold pZ at this; unfold q0U; omega);have a2:=q4k (A:=ofZ p.1+ofZ p.2) (B:=ofZ v) (by unfold chT at hT; unfold q0U; omega);rw [show ofZ p.1+ofZ p.2+ofZ v=chT p v from rfl] at a2;have c6:=q46 (A:=chT p v);have hgp:x.getD i (0,0)=p:=by rw [zE,hp]; rfl
     have hgs:=gs i;have hgm:=hYm i hlt2;rw [hgp,getD_some hdv] at hgs hgm;have hcv:chV (!sg) p v=(fR 0 (chT p v),if (!sg)=true then fR 0 (chT p v-ofZ (fR 0 (chT p v))) else 0):=rfl;have hqlt:fR 0 (chT p v) < 18446744073709551616:=q4E;generalize chT p v=T at *;generalize fR 0 T=y at *;have c7:=q14 hqlt;have hget:(((G i).map λp:Nat × Nat=>PV.ag [uv p.1,uv p.2]).set i (.ag [uv y,.vl (.int .u64 0)]))[i]?=some (.ag [uv y,.vl (.int .u64 0)]):=List.getElem?_set_self (by rw [zM,gl]; exact hlt2)
     by_cases hfy:q0I y
     ·rw [decide_eq_true hfy] at c7;have o4:=q0w hqlt (q0T hfy);have s1:=qhI (A:=T) (B:=ofZ y) (by have:=q9V (a:=T) (b:=ofZ y) (k:=67602) hT (by have:=q13 hfy; omega); unfold q0U; omega);have c8:=q46 (A:=T-ofZ y);have hnx:∀ j,j < i+1->q0I (chV (!sg) (x.getD j (0,0)) (d.getD j 0)).1:=λj hj=>by
       rcases Nat.lt_succ_iff_lt_or_eq.1 hj with h | rfl
       ·exact hgf j h
       ·rw [hgp,getD_some hdv,hcv]; exact hfy
      have hset:((G i).map λp:Nat × Nat=>PV.ag [uv p.1,uv p.2]).set i (.ag [uv (chV (!sg) p v).1,uv (chV (!sg) p v).2])=(G (i+1)).map λp:Nat × Nat=>PV.ag [uv p.1,uv p.2]:=by rw [<- hgs,List.map_set]
      rw [hcv] at hset;generalize fR 0 (T-ofZ y)=w at *;clear hYx hYm hgm hgs gs hcv;cases sg
      ·have hsto:=λ(x:PV) (K:Bk->Prop)=>quO (T:=272) (m:=2) (j:=1) (x:=x) (K:=K) hget (by simp);refine wk1 (x6 hli hx1 hp hdv (gl i) (x2 hget hsto)) ?_;refine ⟨i+1,⟨by omega,hnx⟩,by omega,?_⟩;rw [if_pos (by decide)] at hset;refine LeM [] rfl rfl ?_;refine Zz ?_;exact ⟨by omega,q0F (by rw [List.set_set]; exact hset) qtI⟩
      ·refine wk1 (x6 hli hx1 hp hdv (gl i) hget) ?_;refine ⟨i+1,⟨by omega,hnx⟩,by omega,?_⟩;refine LeM [] rfl rfl ?_;refine Zz ?_;rw [if_neg (by decide)] at hset;exact ⟨by omega,q0F hset qtI⟩
     ·rw [decide_eq_false hfy] at c7;rw [if_pos λh=>hfy (by have:=h _ hgm; rwa [hcv] at this)] at hv;subst hv;exact wk1 (x6 hli hx1 hp hdv (gl i) hget) trivial
    ·obtain rfl:i=C:=by omega
     have hli:¬ (i:Int) < i:=by omega
     have hYf:=hYx hgf;rw [if_neg (not_not_intro hYf)] at hv;have hY1:=hY1 hYf;rw [gn];generalize chL (!sg) x d i=Y at *;clear hYx hYf hYm gs g0 gn hgf;have c8:=cD Y hY1 hY2;have e1:=hdl Y;have e2:=hdu Y;refine wk1 (x2 hli hx1) ?_;refine q1D (LeM [] rfl rfl (xs:=[(2,pF b),(3,iv N),(4,bv sg),(5,.pt 5 0 0),(6,.pt 6 0 0),(17,pP x),(18,pF r),(20,.ow 1002 none 0 (l.length+1)),(21,iv k),(24,pP Y)]) (kv:=[]) (bs:=[(5,⟨27,some 5,[.ag [iv i,iv i,pI ms,pI mi,pF mv]],false⟩),(6,⟨99,some 8,[.ag [pI f.rows,pI f.cols,pI f.ls,pI f.li,pF f.lv,pI f.us,pI f.ui,pF f.uv]],false⟩),(1002,⟨33,none,(l ++ [q1n r i]).map λz:Nat=>uv z,false⟩)]) (kb:=[]) ?_) ?_
     ·try refine Zz ?_
      exact qhr (T:=272) rfl qtI rfl (by rw [zM]; omega)
     generalize RD Y=S at *
     by_cases hfs:∀ v ∈ S,q0I v
     case neg =>
      rw [if_pos hfs] at hv;subst hv;rw [if_neg hfs] at c8;exact wk trivial
     rw [if_neg (not_not_intro hfs)] at hv;rw [if_pos hfs] at c8;have hSf:q03 S:=λv hv=>⟨e2 v hv,hfs v hv⟩;have c9:=q6z hSf Oq;have z2:=qbX hSf;rw [e1] at c9 z2;have o1:=q0w (x:=q1n r i) Oq (q0T z1.2);have o2:=q0w (x:=q1n S i) Oq (q0T z2.2);have sc:=qix (V:=ofZ (q1n S i)) (j:=1) Oq Oq (mkV_2 (by have:=bl_2 (q13 z2.2); unfold q0U; omega));have lc:=q5G (A:=ofZ (q1n r i)) (B:=2*ofZ (q1n S i))
     by_cases hsm:ofZ (q1n r i) < 2*ofZ (q1n S i)
     ·rw [if_pos hsm] at hv;subst hv;rw [decide_eq_true hsm] at lc;exact wk1 hll trivial
     ·rw [if_neg hsm] at hv;rw [decide_eq_false hsm] at lc;refine wk1 hll ?_;refine ⟨(k+1,Y,S,l ++ [q1n r i]),⟨by simp only; omega,hY2,hY1,e1,hSf,by simp only; rw [hll]; omega,hv⟩,by simp only; omega,?_⟩;simp only;refine LeM [(1002,some 181)] rfl rfl ?_;refine Zz ?_;omega
  ·obtain rfl:k=N:=by omega
   have hlt':¬ (k:Int) < k:=by omega
   rw [yE,hrf0] at hv;subst hv;exact wk1 (x2 hlt' hll) trivial
end
section
variable {R C:Nat} {F:Nat->Nat->Option Nat} {f:LUt} {b x:List Nat} {steps:Int}
abbrev rfH (q:List (Nat × Nat) × List Nat × Int):PV:=.tu [pF (q.1.map (·.1)),pF q.2.1,iv q.2.2]
def qez {C:Nat} {F:Nat->Nat->Option Nat} {f:LUt} {b:List Nat} {dbl:Bool}:∀ (k:Nat) (x:List (Nat × Nat)) (r l:List Nat),x.length<=C->(rfL C F f b dbl k x r l).1.length<=C/\(rfL C F f b dbl k x r l).2.1.length<=l.length+k
 | 0,x,r,l,h=>⟨h,u6 _⟩
 | k+1,x,r,l,h=>by
  rw [rfL]
  split
  ·exact ⟨h,by dsimp only; omega⟩
  split
  ·exact ⟨zB _,zB _⟩
  split
  ·exact ⟨zB _,zB _⟩
  split
  ·exact ⟨zB _,zB _⟩
  split
  ·exact ⟨h,by dsimp only; omega⟩
  ·have:=qez (F:=F) (f:=f) (b:=b) (dbl:=dbl) k (chL dbl x (lgE f r).1 C) (rdL F (chL dbl x (lgE f r).1 C) b C C) (l ++ [q1n (rdL F (chL dbl x (lgE f r).1 C) b C C) C]) (Nat.le_of_eq qah);rw [zZ,yA] at this;exact ⟨this.1,by omega⟩
def qpN {dbl:Bool} (hb:LUb f) (hu:∀ v ∈ b,v < 18446744073709551616) (hC:C<=200):(rfS C F f b dbl R steps).1.length<=200/\(rfS C F f b dbl R steps).2.1.length<=200:=by
 unfold rfS
 by_cases h1:rfR R C f steps≠0
 ·rw [if_pos h1]; exact ⟨zB _,zB _⟩
 rw [if_neg h1];obtain ⟨q1,q2,q3,q4,q5⟩:=qjD (Classical.not_not.1 h1)
 by_cases h2:(lgE f b).2≠0
 ·rw [if_pos h2]; exact ⟨zB _,zB _⟩
 rw [if_neg h2];obtain ⟨_,_,_,p1,_⟩:=q6o hb hu (Classical.not_not.1 h2)
 split
 ·exact ⟨zB _,zB _⟩
 ·have:=qez (C:=C) (F:=F) (f:=f) (b:=b) (dbl:=dbl) steps.toNat ((lgE f b).1.map λv=>(v,0)) (rdL F ((lgE f b).1.map λv=>(v,0)) b C C) [q1n (rdL F ((lgE f b).1.map λv=>(v,0)) b C C) C] (by rw [zM]; omega);rw [yA] at this;exact ⟨by omega,by omega⟩
def qci (hm:TOk F R C) (hb:LUb f) (hn:f.rows.length<=20) (hu:∀ v ∈ b,v < 18446744073709551616) (hl:b.length<=1000000) (hs1 : -9223372036854775808<=steps) (hs2:steps<=9223372036854775807):ACt 159 [pT R C F,pLU f,pF b,iv steps] (rfH (rfS C F f b false R steps)):=by
 have c1:ACt _ _ (rfV (rfS C F f b false R steps)):=qiM (sg:=true) (steps:=steps) hm hb hn hu hl hs1 hs2;have hl2:=(qpN (R:=R) (C:=C) (F:=F) (steps:=steps) (dbl:=false) hb hu hm.c).1;unfold rfH rfV at *;generalize (rfS C F f b false R steps).1=x at *;generalize (rfS C F f b false R steps).2.1=l at *;generalize (rfS C F f b false R steps).2.2=e at *;unfold pT q2F pLU at *;have nn:Nz (iv e):=qdL;refine ac0 Tryz.func159 Tryz.ntmps159 [.tmp 8,.tmp 9,.tmp 10] ?_;refine wk ?_;refine q0B (λi=>i<=x.length) [11,12,13] [] Lk Lk (λi:Nat=>[(15,iv i),(14,.ow 1001 none 0 i)]) (λi=>[(1001,⟨33,none,((x.take i).map (·.1)).map λz:Nat=>uv z,false⟩)]) (λi=>x.length-i) 0 (zB _) ?_ ?_
 ·refine LeM [(1001,none)] rfl rfl ?_;refine Zz ?_
  rfl
 ·intro i hi;have htl:(x.take i).length=i:=by rw [List.length_take]; omega
  by_cases hlt:i < x.length
  ·obtain ⟨p,hp⟩:∃ p,x[i]?=some p:=⟨_,zA hlt⟩;have e:((x.take (i+1)).map (·.1)).map (λz:Nat=>uv z)=((x.take i).map (·.1)).map (λz:Nat=>uv z) ++ [uv p.1]:=by rw [q1p hp,zC,zC]; rfl
   refine wk1 (x2 hp htl) ?_;refine ⟨i+1,by omega,by omega,?_⟩;rw [e];refine LeM [(1001,some 38)] rfl rfl ?_;refine Zz ?_;exact ⟨by omega,q0F rfl (by rw [<- e]; exact clU)⟩
  ·obtain rfl:i=x.length:=by omega
   rw [z8];refine wk ?_;exact zG (by simp)
end

section
variable {raw:List Nat} {n st steps:Int} {w:Bool}
end
section
variable {a:Nat} {V:Int}
end
section
variable {C:Nat} {F:Nat->Nat->Option Nat} {f:LUt} {b:List Nat}
end
section
variable {raw:List Nat} {n st:Int} {w:Bool}
end
def qwI {a b c d e f g h:PV}:ldU (some 8) (some 4) 0 (.ag [a,b,c,d,e,f,g,h])=some (.ag [a,b,c,d]):=by simp [ldU]
def qwH {a b c d e f g h:PV}:ldU (some 8) (some 4) 4 (.ag [a,b,c,d,e,f,g,h])=some (.ag [e,f,g,h]):=by simp [ldU]
def quW {a b c d e f g h p q r s:PV}:stU (some 8) (some 4) 0 (.ag [a,b,c,d,e,f,g,h]) (.ag [p,q,r,s])=some (.ag [p,q,r,s,e,f,g,h]):=by simp [stU]
def quV {a b c d e f g h p q r s:PV}:stU (some 8) (some 4) 4 (.ag [a,b,c,d,e,f,g,h]) (.ag [p,q,r,s])=some (.ag [a,b,c,d,p,q,r,s]):=by simp [stU]
attribute [go_sem] qwI qwH quW quV
def qhm {f:FuncId} {A B:Int} {r:PV} (hA:q0U A) (hB:q0U B) (h:ACt f [pV A,pV B] r):ACt f [dT A,dT B] r:=q4w (p:=True) h.1 (λD w vs hR=>by
 obtain ⟨a,b,rfl,h1,h2⟩:=qvV hR;refine ⟨?_,trivial⟩;unfold RdL;exact ⟨_,_,rfl,qaB (q2d.1 ⟨h1,hA⟩),RdL.one (qaB (q2d.1 ⟨h2,hB⟩))⟩) λ_=>h
section
variable {a c:Int × Int} {u v j k p q:Nat}
end
def q5F {A B V:Int} (hA:q0U A) (hB:q0U B) (h:mkV (A*B) (-131072)=some V):ACt 47 [dT A,dT B] (dT V):=qxR (qhm hA hB (q2m h))
section
variable {a c:Int × Int} {j k p q:Nat}
end
def proI (p:Nat × Nat):Prop:=q0I p.1/\q0I p.2/\ofZ p.1<=ofZ p.2
instance (p:Nat × Nat):Decidable (proI p):=by unfold proI; infer_instance
def nnI (p:Nat × Nat):Prop:=(p.1 < 18446744073709551616/\q08 p.1≠3)/\p.2 < 18446744073709551616/\q08 p.2≠3
section
variable {l:List (Nat × Nat)} {p q:Nat × Nat}
end
structure KwT where
 n:Nat
 v:List Nat
 a:Nat->Nat->Nat × Nat
 b:List (Nat × Nat)
 z:List Nat
 x:List (Nat × Nat)
section
variable (K:KwT)
end
section
variable {K:KwT}
end
section
variable {K:KwT}
end
section
variable {F:Nat->Nat->Option Nat} {n:Nat} {b z v:List Nat}
def vpL (F:Nat->Nat->Option Nat) (b z:List Nat) (i k:Nat):List Int:=ofZ (b.getD i 0) :: (List.range k).map λj => -(q1P ((F j i).getD 0) (z.getD j 0))
def qt6 {i k:Nat}:vpL F b z i (k+1)=vpL F b z i k ++ [-(q1P ((F k i).getD 0) (z.getD k 0))]:=by unfold vpL; rw [zW,zC]; rfl
def qoM {i k:Nat}:(vpL F b z i k).length=k+1:=by unfold vpL; simp
def qeE {i:Nat}:∀ k,q1M (vpL F b z i k)=ofZ (b.getD i 0)-sg (λj=>q1P ((F j i).getD 0) (z.getD j 0)) k
 | 0=>by show q1M [ofZ (b.getD i 0)]=_; rw [q22,sg]; omega
 | k+1=>by rw [qt6,q0l,qeE k,sg]; omega
def vrL_s {i:Nat}:((List.range (i+1)).map (vrX F n b z))=(List.range i).map (vrX F n b z) ++ [vrX F n b z i]:=qvH
def qch (h:TOk F n n) (hn:n<=20) (hl:v.length=n*n) (hv:q03 v) (hb:q03 b) (hbl:b.length=n) (hz:q03 z) (hzl:z.length=n):ACt 160 [pT n n F,pF b,pBx n v z] (.tu [.un,bv (vfO F n v b z).2,iv 0]):=by
 have hm2:n*n<=20*20:=zO hn hn;have hch:chP n n v=0:=by unfold chP; rw [if_neg (not_not_intro hl),if_pos λx hx=>(hv x hx).2]
 have C1:=qiO (r:=n) (c:=n) (v:=v) h hn hn Oq Oq Oq λx hx=>(hv x hx).1;have hbt:btA n n F n n v=(btL n v F,0):=by
  unfold btA btC;rw [if_neg (not_not_intro rfl),if_neg (not_not_intro hch),if_neg (show ¬ (n≠n\/n≠n) by omega),if_neg (show ¬ (0:Int)≠0 by decide)]
 rw [hbt] at C1;dsimp only at C1;have C2:=qdu;have C3:=q8X (l:=btL n v F) (by unfold btL; rw [q5i]; omega);have hG:=qbF h hv;have dG:q0U (vfG F n v):=by unfold q0U; omega
 have C4:ACt 127 [pV q2T,pV (grZ (btL n v F))] (pV (vfG F n v)):=qhI dG;have C5:=q4I (V:=vfG F n v);have D3:=q2z (l:=b) (λx hx=>(hb x hx).1) Oq;have D4:=q2z (l:=z) (λx hx=>(hz x hx).1) Oq;rw [decide_eq_true λx hx=>(hb x hx).2] at D3;rw [decide_eq_true λx hx=>(hz x hx).2] at D4;have q1:((b.length:Int) != (n:Int))=false:=by simp; omega
 have q2:((z.length:Int) != (n:Int))=false:=by simp; omega
 have hr:=λk (hk:k < n)=>q51 h hb hz (b:=b) (z:=z) hk;have hds:=λi=>q62 (v:=v) (r:=vrX F n b z) (i:=i) Oq hv hr;have cA:∀ {i j:Nat},i < n->j < n->_:=λ{i j} hi hj=>q6a (i:=i) (j:=j) h hi hj;have hfi:∀ {i j:Nat},i < n->j < n->_:=λ{i j} hi hj=>h.fin (j:=j) (i:=i) hj hi;have cV:=λi j hi hj=>q8W (i:=i) (j:=j) (show n<=64 by omega) (show n<=64 by omega) hl hv hi hj;have C9:=q8X (l:=vfD F n v b z) (by unfold vfD; rw [q5i]; omega);have hNs:=λi (hi:i < n)=>qld h hv hb hz (i:=i) hi;have hdD:=λi=>qta (F:=F) (n:=n) (b:=b) (z:=z) (v:=v) (i:=i);have hrs:=λi=>vrL_s (F:=F) (n:=n) (b:=b) (z:=z) (i:=i);have hLs:=λi=>qt8 (F:=F) (n:=n) (b:=b) (z:=z) (v:=v) (i:=i);have hLl:=λi=>q9l (F:=F) (n:=n) (b:=b) (z:=z) (v:=v) (i:=i);have hL0:vfL F n v b z 0=[]:=rfl;have hvn:=λi=>show vfN F n v b z i=prZ (vdX n v (vrX F n b z) i) (vfG F n v)+prZ (btZ n v F i) (grZ (vfD F n v b z)) from rfl;have hDe:vfD F n v b z=(List.range n).map (vdX n v (vrX F n b z)):=rfl;have hBg:=λi (hi:i < n)=>show ((btL n v F).map λV=>pV V)[i]?=some (pV (btZ n v F i)) by unfold btL; rw [zD,q44 hi]; rfl
 have hBl:((btL n v F).map λV=>pV V).length=n:=by unfold btL; simp
 have hDg:=λi (hi:i < n)=>show (((List.range n).map (vdX n v (vrX F n b z))).map λV=>pV V)[i]?=some (pV (vdX n v (vrX F n b z) i)) by rw [zD,q44 hi]; rfl
 have hRg:=λi (hi:i < n)=>show (((List.range n).map (vrX F n b z)).map λV=>pV V)[i]?=some (pV (vrX F n b z i)) by rw [zD,q44 hi]; rfl
 have hDl:(((List.range n).map (vdX n v (vrX F n b z))).map λV=>pV V).length=n:=by simp
 have hRl:(((List.range n).map (vrX F n b z)).map λV=>pV V).length=n:=by simp
 have hG0:vfG F n v=q2T-grZ (btL n v F):=rfl;rw [hDe] at C9;have hvp:=λi k=>qt6 (F:=F) (b:=b) (z:=z) (i:=i) (k:=k);have hvl:=λi k=>qoM (F:=F) (b:=b) (z:=z) (i:=i) (k:=k);have hv0:=λi=>show vpL F b z i 0=[ofZ (b.getD i 0)] from rfl;have hvs:=λi=>show q1M (vpL F b z i n)=vrX F n b z i from qeE n;have hT:=λi k (hk:k < n)=>(⟨(q84 (n:=n) hv (i:=i) (hr k hk)).1,(q84 (n:=n) hv (i:=i) (hr k hk)).2.1⟩:_/\_);have hrb:=λk (hk:k < n)=>(hr k hk).2;have hdb:=λi=>(hds i).2.2;clear hr hds hG;have hts:=λi=>qeC (n:=n) (v:=v) (r:=vrX F n b z) (i:=i);have ht0:=λi=>show vtL n v (vrX F n b z) i 0=[] from rfl;have hss:=λi k=>qt5 (n:=n) (v:=v) (r:=vrX F n b z) (i:=i) (k:=k);have htl:=λi k=>q9k (n:=n) (v:=v) (r:=vrX F n b z) (i:=i) (k:=k);unfold vfO;unfold pPn at C1 cV;unfold pBx at *;unfold pT q2F at *;generalize (tM F n n).1=ms at *;generalize (tM F n n).2.1=mi at *;generalize (tM F n n).2.2=mv at *;have NG:=q1T (V:=vfG F n v);have N1:=q1T (V:=q2T);have NB:=q1T (V:=grZ (btL n v F))
 by_cases h1:q2T<=grZ (btL n v F)
 ·rw [if_pos h1];have q:(vfG F n v).sign<=0:=by
   rw [hG0]
   rcases Int.lt_or_eq_of_le h1 with h1 | h1
   ·rw [uX (by omega)]; omega
   ·rw [show q2T-grZ (btL n v F)=0 by omega]; decide
  generalize (vfG F n v).sign=s at *;generalize vfG F n v=G at *;generalize btL n v F=B at *;refine ac0 Tryz.func160 Tryz.ntmps160 [.tmp 6,.tmp 7,.tmp 8] ?_;exact wk1 (x2 q1 q2) trivial
 rw [if_neg h1];dsimp only;have hGp:0 < vfG F n v:=by omega
 rw [z9 hGp] at C5;have CQ:=λN=>qaE (A:=N) (B:=vfG F n v) (mode:=2) Oq;generalize vfG F n v=G at *;rw [hDe] at hNs hvn;generalize grZ ((List.range n).map (vdX n v (vrX F n b z)))=M at *;have NM:=q1T (V:=M);refine ac0 Tryz.func160 Tryz.ntmps160 [.tmp 6,.tmp 7,.tmp 8] ?_;refine wk1 (x2 q1 q2) ?_;refine q0B (λi=>i<=n) [1,3,5,9,11,12,14] [3,5,12] Lk Lk (λi:Nat=>[(15,iv i),(13,.ow 1001 (some 4) 0 i)]) (λi=>[(1001,⟨48,some 4,((List.range i).map (vrX F n b z)).map λV=>pV V,false⟩)]) (λi=>n-i) 0 (zB _) ?_ ?_
 ·refine LeM [(1001,none)] rfl rfl ?_;refine Zz ?_
  repeat' (first | rfl | exact q0F rfl clV | apply And.intro)
 ·intro i hi;have li:(((List.range i).map (vrX F n b z)).map λV=>pV V).length=i:=by simp
  by_cases hlt:i < n
  ·have q:(i:Int) < n:=by omega
   have p0:=hv0 i;have ps:=hvp i;have pl:=hvl i;have psum:=hvs i;have es:=hrs i;have hri:=hrb i hlt;have cAi:=λj hj=>cA (i:=i) (j:=j) hlt hj;have hfii:=λj hj=>hfi (i:=i) (j:=j) hlt hj;obtain ⟨y,hy⟩:∃ y,b[i]?=some y:=⟨_,zA Oq⟩;obtain ⟨u1,u2⟩:=hb y (zH hy);rw [getD_some hy] at p0;have c1:=q0w u1 (q0T u2);have N2:=q1T (V:=ofZ y);generalize vpL F b z i=T at *;generalize vrX F n b z i=r at *;refine wk1 (x2 q hy) ?_;refine q0B (λk=>k<=n) [1,3,5,9,11,12,13,14,15] [3,5,12,1001] Lk Lk (λk:Nat=>[(17,iv k),(16,.ow 1002 (some 4) 0 (k+1))]) (λk=>[(1002,⟨48,some 4,(T k).map λV=>pV V,false⟩)]) (λk=>n-k) 0 (zB _) ?_ ?_
   ·rw [p0];refine LeM [(1002,some 74)] rfl rfl ?_;refine Zz ?_
    repeat' (first | rfl | exact q0F rfl clV | apply And.intro)
   ·intro k hk;have lk:=pl k
    by_cases hlt2:k < n
    ·have l2:(k:Int) < n:=by omega
     have c2:=cAi k hlt2;obtain ⟨x1,xu⟩:=hfii k hlt2;have e2:=ps k;obtain ⟨w,hw⟩:∃ w,z[k]?=some w:=⟨_,zA Oq⟩;obtain ⟨w1,w2⟩:=hz w (zH hw);rw [getD_some hw] at e2;generalize (F k i).getD 0=x at *;have MM:=q0m x1 w2;have c3:=q1o xu w1 (q0T x1) (q0T w2) MM.1;have c4:=q4j (V:=q1P x w);have N3:=q1T (V := -(q1P x w));have N4:=q1T (V:=q1P x w);refine wk1 (x3 l2 lk hw) ?_;refine ⟨k+1,by omega,by omega,?_⟩;rw [e2];refine LeM [(1002,some 93)] rfl rfl ?_;refine Zz ?_
     repeat' (first | omega | rfl | exact q0F rfl clV | exact q0F (by rw [zC]; rfl) clV | exact q0F (by rw [zC]; rfl) qrX | apply And.intro)
    ·obtain rfl:k=n:=by omega
     have l2:¬ (k:Int) < k:=by omega
     have c5:=q3e (l:=T k) (by omega) (by rw [psum]; unfold q0U; omega);rw [psum] at c5;have N5:=q1T (V:=r);refine wk1 (x3 l2 lk li) ?_;refine ⟨i+1,by omega,by omega,?_⟩;rw [es];refine LeM [(1001,some 98)] rfl rfl ?_;refine Zz ?_
     repeat' (first | omega | rfl | exact q0F rfl clV | exact q0F (by rw [zC]; rfl) clV | exact q0F (by rw [zC]; rfl) qrX | apply And.intro)
  ·obtain rfl:i=n:=by omega
   have q:¬ (i:Int) < i:=by omega
   clear cA hfi;refine wk1 q ?_;refine q0B (λj=>j<=i) [3,5,9,11,12,13] [3,5,12,1001] Lk Lk (λj:Nat=>[(18,iv j),(14,.ow 1003 (some 4) 0 j)]) (λj=>[(1003,⟨48,some 4,((List.range j).map (vdX i v (vrX F i b z))).map λV=>pV V,false⟩)]) (λj=>i-j) 0 (zB _) ?_ ?_
   ·refine LeM [(1003,none)] rfl rfl ?_;refine Zz ?_
    repeat' (first | rfl | exact q0F rfl clV | apply And.intro)
   ·intro j hj;have lj:(((List.range j).map (vdX i v (vrX F i b z))).map λV=>pV V).length=j:=by simp
    by_cases hlt:j < i
    ·have q:(j:Int) < i:=by omega
     have p0:=ht0 j;have ps:=hss j;have pl:=htl j;have psum:=hts j;have es:=hdD j;have hdj:=hdb j;have cVj:=λk hk=>cV j k hlt hk;have hTj:=λk hk=>hT j k hk;have hde:=show vdX i v (vrX F i b z) j=((vsX i v (vrX F i b z) j).natAbs:Int) from rfl;generalize vtL i v (vrX F i b z) j=T at *;generalize vsX i v (vrX F i b z) j=S at *;generalize vdX i v (vrX F i b z) j=d at *;refine wk1 q ?_;refine q0B (λk=>k<=i) [3,5,9,11,12,13,14,18] [3,5,12,1001,1003] Lk Lk (λk:Nat=>[(20,iv k),(19,.ow 1004 (some 4) 0 k)]) (λk=>[(1004,⟨48,some 4,(T k).map λV=>pV V,false⟩)]) (λk=>i-k) 0 (zB _) ?_ ?_
     ·rw [p0];refine LeM [(1004,none)] rfl rfl ?_;refine Zz ?_
      repeat' (first | rfl | exact q0F rfl clV | apply And.intro)
     ·intro k hk;have lk:=pl k
      by_cases hlt2:k < i
      ·have l2:(k:Int) < i:=by omega
       have c2:=cVj k hlt2;have e2:=ps k;have MM:=hTj k hlt2;have gk:=hRg k hlt2;generalize ofZ (v.getD (k*i+j) 0)=y at *;generalize vrX F i b z k=r at *;have c3:=q2m MM.1;have N3:=q1T (V:=y);have N4:=q1T (V:=r);have N5:=q1T (V:=prZ y r);refine wk1 (x4 l2 lk gk hRl) ?_;refine ⟨k+1,by omega,by omega,?_⟩;rw [e2];refine LeM [(1004,some 121)] rfl rfl ?_;refine Zz ?_
       repeat' (first | omega | rfl | exact q0F rfl clV | exact q0F (by rw [zC]; rfl) clV | exact q0F (by rw [zC]; rfl) qrX | apply And.intro)
      ·obtain rfl:k=i:=by omega
       have l2:¬ (k:Int) < k:=by omega
       have c5:=q3e (l:=T k) (by omega) (by rw [psum]; unfold q0U; omega);rw [psum] at c5;have c6:=q6F (V:=S);rw [<- hde] at c6;have N5:=q1T (V:=S);have N6:=q1T (V:=d);refine wk1 (x3 l2 lk lj) ?_;refine ⟨j+1,by omega,by omega,?_⟩;rw [es];refine LeM [(1003,some 127)] rfl rfl ?_;refine Zz ?_
       repeat' (first | omega | rfl | exact q0F rfl clV | exact q0F (by rw [zC]; rfl) clV | exact q0F (by rw [zC]; rfl) qrX | apply And.intro)
    ·obtain rfl:j=i:=by omega
     have q:¬ (j:Int) < j:=by omega
     clear cV hT;have tk:yI j (((List.range j).map (vdX j v (vrX F j b z))).map λV=>pV V)=((List.range j).map (vdX j v (vrX F j b z))).map λV=>pV V:=zG (by simp);refine wk1 q ?_;refine q0B (λi=>i<=j) [5,9,11,12,14] [5,12,1003] Lk Lk (λi:Nat=>[(22,iv i),(21,.ow 1005 (some 2) 0 i)]) (λi=>[(1005,⟨58,some 2,(vfL F j v b z i).map λp=>.ag [uv p.1,uv p.2],false⟩)]) (λi=>j-i) 0 (zB _) ?_ ?_
     ·rw [hL0];refine LeM [(1005,none)] rfl rfl ?_;refine Zz ?_
      repeat' (first | rfl | exact q0F rfl clV | apply And.intro)
     ·intro i hi;have li:=hLl i
      by_cases hlt:i < j
      ·have q:(i:Int) < j:=by omega
       have gd:=hDg i hlt;have gb:=hBg i hlt;have es:=hLs i;obtain ⟨m1,m2,m3,m4⟩:=hNs i hlt;have nn:=hvn i;obtain ⟨w,hw⟩:∃ w,z[i]?=some w:=⟨_,zA Oq⟩;obtain ⟨w1,w2⟩:=hz w (zH hw);rw [getD_some hw] at es;generalize vdX j v (vrX F j b z) i=d at *;generalize btZ j v F i=u at *;generalize vfN F j v b z i=N at *;have c1:=q2m m1;have c2:=q2m m2;have dN:q0U N:=by unfold q0U; omega
       have c3:=q4k (A:=prZ d G) (B:=prZ u M) (by rw [<- nn]; exact dN);rw [<- nn] at c3;have c4:=CQ N;have r1:=qa1 (mode:=2) (a:=N) (b:=G) Oq;have r2:=qgn (mode:=2) (a:=N) (b:=G) Oq;unfold vIv at es;generalize fQ 2 N G=R at *;have c5:=qpU (mode:=1) (.inr (.inl rfl)) ⟨w1,w2⟩ r1 r2;have c6:=qfO (mode:=2) (.inr (.inr rfl)) ⟨w1,w2⟩ r1 r2;generalize q9t 1 w R=a1 at *;generalize q4v 2 w R=a2 at *;have N2:=q1T (V:=d);have N3:=q1T (V:=u);have N4:=q1T (V:=N);have N5:=q1T (V:=prZ d G);have N6:=q1T (V:=prZ u M);refine wk1 (x6 q gd gb hw hDl (x3 hBl li tk)) ?_;refine ⟨i+1,by omega,by omega,?_⟩;rw [es];refine LeM [(1005,some 167)] rfl rfl ?_;refine Zz ?_
       repeat' (first | omega | rfl | exact q0F rfl clV | exact q0F (by rw [zC]; rfl) clV | exact q0F (by rw [zC]; rfl) qrX | apply And.intro)
      ·obtain rfl:i=j:=by omega
       have q:¬ (i:Int) < i:=by omega
       have hcl:(∀ a:Nat × Nat,a ∈ vfL F i v b z i->Cld (PV.ag [uv a.1,uv a.2]))=True:=eq_true λa _=>by
        intro y hy;simp at hy
        rcases hy with rfl | rfl <;> trivial
       exact wk1 (x3 q li hcl) trivial
end
section
variable {K:KwT}
def qcj {x:Nat} (hu:x < 18446744073709551616/\q0I x):ACt 55 [uv x] (dT (ofZ x)):=qxR (q0w hu.1 (q0T hu.2))
end
def ctM {x K:Nat} {den:Int} (hK:K=65536) (hx:q0I x) (h2:bl den.natAbs<=50000):mkV (ofZ x*(den*(2:Int) ^ K)) (-131072)=some (ofZ x*den)/\q0U (ofZ x*den):=by
 have h:=q13 hx;have hd:q0U (ofZ x*den):=by
  unfold q0U;have:=q11 (ofZ x).natAbs den.natAbs;rw [Int.natAbs_mul];omega
 subst hK;exact ⟨qdN (by rw [zI]) hd,hd⟩
def qae {p:Nat × Nat} {num den:Int} {K:Nat} (hK:K=65536) (hp:nnI p) (h1:bl num.natAbs<=50000) (h2:bl den.natAbs<=50000) (h:inIv K p num den):ACt 29 [.ag [uv p.1,uv p.2],bT num,bT den] (bv true):=by
 have c1:=q5a hK (show bl num.natAbs<=65536 by omega);have c2:=q5a hK (show bl den.natAbs<=65536 by omega);have hdy:∀ z:Int,bl z.natAbs<=50000->q0U (z*(2:Int) ^ K):=λz hz=>by
  unfold q0U;rw [q0G]
  by_cases h0:z.natAbs=0
  ·rw [h0,zX,q07]; omega
  ·rw [q0z h0]; omega
 have d1:=hdy num h1;have d2:=hdy den h2;obtain ⟨u,v⟩:=p;unfold inIv at h;dsimp only at h hp ⊢;unfold nnI at hp;dsimp only at hp;obtain ⟨hl,hr⟩:=h;clear hdy
 by_cases l:u=18442240474082181120 <;> by_cases r:v=9218868437227405312
 ·have q1:((u:Int) == 18442240474082181120)=true:=by simp; omega
  have q2:((v:Int) == 9218868437227405312)=true:=by simp; omega
  clear hl hr;generalize num*(2:Int) ^ K=V at *;generalize den*(2:Int) ^ K=D at *;unfold bT at *;unfold dT at *;refine ac0 Tryz.func29 Tryz.ntmps29 [.tmp 6] ?_;exact wk1 (x2 q1 q2) trivial
 ·have q1:((u:Int) == 18442240474082181120)=true:=by simp; omega
  have q2:((v:Int) == 9218868437227405312)=false:=by simp; omega
  obtain ⟨rf,rv⟩:=hr.resolve_left r;clear hl hr;have b1:=qcj ⟨hp.2.1,rf⟩;have b2:=q5F (q2c rf) d2 (ctM hK rf h2).1;have b3:=qhm (ctM hK rf h2).2 d1 (q5R (A:=ofZ v*den) (B:=num*(2:Int) ^ K));rw [decide_eq_false (by omega)] at b3;generalize ofZ v*den=H at *;generalize ofZ v=x2' at *;generalize num*(2:Int) ^ K=V at *;generalize den*(2:Int) ^ K=D at *;unfold bT at *;unfold dT at *;refine ac0 Tryz.func29 Tryz.ntmps29 [.tmp 6] ?_;exact wk1 (x2 q1 q2) trivial
 ·have q1:((u:Int) == 18442240474082181120)=false:=by simp; omega
  have q2:((v:Int) == 9218868437227405312)=true:=by simp; omega
  obtain ⟨lf,lv⟩:=hl.resolve_left l;clear hl hr;have a1:=qcj ⟨hp.1.1,lf⟩;have a2:=q5F (q2c lf) d2 (ctM hK lf h2).1;have a3:=qhm d1 (ctM hK lf h2).2 (q5R (A:=num*(2:Int) ^ K) (B:=ofZ u*den));rw [decide_eq_false (by omega)] at a3;generalize ofZ u*den=L at *;generalize ofZ u=x1 at *;generalize num*(2:Int) ^ K=V at *;generalize den*(2:Int) ^ K=D at *;unfold bT at *;unfold dT at *;refine ac0 Tryz.func29 Tryz.ntmps29 [.tmp 6] ?_;exact wk1 (x2 q1 q2) trivial
 ·have q1:((u:Int) == 18442240474082181120)=false:=by simp; omega
  have q2:((v:Int) == 9218868437227405312)=false:=by simp; omega
  obtain ⟨lf,lv⟩:=hl.resolve_left l;obtain ⟨rf,rv⟩:=hr.resolve_left r;clear hl hr;have a1:=qcj ⟨hp.1.1,lf⟩;have a2:=q5F (q2c lf) d2 (ctM hK lf h2).1;have a3:=qhm d1 (ctM hK lf h2).2 (q5R (A:=num*(2:Int) ^ K) (B:=ofZ u*den));rw [decide_eq_false (by omega)] at a3;have b1:=qcj ⟨hp.2.1,rf⟩;have b2:=q5F (q2c rf) d2 (ctM hK rf h2).1;have b3:=qhm (ctM hK rf h2).2 d1 (q5R (A:=ofZ v*den) (B:=num*(2:Int) ^ K));rw [decide_eq_false (by omega)] at b3;generalize ofZ u*den=L at *;generalize ofZ u=x1 at *;generalize ofZ v*den=H at *;generalize ofZ v=x2' at *;generalize num*(2:Int) ^ K=V at *;generalize den*(2:Int) ^ K=D at *;unfold bT at *;unfold dT at *;refine ac0 Tryz.func29 Tryz.ntmps29 [.tmp 6] ?_;exact wk1 (x2 q1 q2) trivial
def ltR (V:Nat->Nat->Int) (i:Nat) (l:Int):Nat->Int
 | 0=>l
 | j+1=>if V i j=0 then ltR V i l j else min (ltR V i l j) (dyE (V i j))
def ltA (V:Nat->Nat->Int) (c:Nat):Nat->Int
 | 0=>0
 | i+1=>ltR V i (ltA V c i) c
section
variable {V:Nat->Nat->Int} {c i j:Nat} {l:Int}
def qbl:∀ j,ltR V i l j<=l
 | 0=>yB _
 | j+1=>by
  have:=qbl j;rw [ltR]
  split <;> omega
def qmh:∀ {j k:Nat},k < j->V i k≠0->ltR V i l j<=dyE (V i k)
 | 0,_,h,_=>by omega
 | j+1,k,h,h0=>by
  rw [ltR]
  by_cases e:k=j
  ·subst e;rw [if_neg h0];omega
  ·have:=qmh (show k < j by omega) h0
   split <;> omega
def qpx:∀ i,ltA V c i<=0
 | 0=>yB _
 | i+1=>Int.le_trans (qbl c) (qpx i)
def qmi {k:Nat} (hk:k < c):∀ {m i:Nat},i < m->V i k≠0->ltA V c m<=dyE (V i k)
 | 0,_,h,_=>by omega
 | m+1,i,h,h0=>by
  rw [ltA]
  by_cases e:i=m
  ·subst e; exact qmh hk h0
  ·exact Int.le_trans (qbl c) (qmi hk (show i < m by omega) h0)
def qft {b:Int} (hl:b<=l) (hV:∀ k,k < c->V i k≠0->b<=dyE (V i k)):∀ j,j<=c->b<=ltR V i l j
 | 0,_=>hl
 | j+1,hj=>by
  have:=qft hl hV j Oq;rw [ltR]
  split
  ·exact this
  ·have:=hV j Oq (by assumption);omega
def qbm {b:Int} (hb:b<=0) {n:Nat} (hV:∀ i k,i < n->k < c->V i k≠0->b<=dyE (V i k)):∀ m,m<=n->b<=ltA V c m
 | 0,_=>hb
 | m+1,hm=>qft (qbm hb hV m Oq) (λk hk=>hV m k Oq hk) c (u6 _)
end
def ac_p1 {f:FuncId} {A:Int} {r:PV} (hA:q0U A) (h:ACt f [pV A] r):ACt f [dT A] r:=q4w (p:=True) h.1 (λD w vs hR=>by
 obtain ⟨a,rfl,h1⟩:=qpR hR;refine ⟨?_,trivial⟩;exact RdL.one (qaB (q2d.1 ⟨h1,hA⟩))) λ_=>h
def qvt {V:Int} {m:Nat} (ho:q0U (V*(2:Int) ^ m)):mkV (od V) (dyE V+m)=some (V*(2:Int) ^ m):=by
 have a1:=q6C (V:=V);rw [q3M (V:=V*(2:Int) ^ m) (by omega) ?_,q1b ho];have h0:=q1t (V:=V) (E:=dyE V) a1 (yB _);rw [Int.sub_self,show (0:Int).toNat=0 from rfl,Int.pow_zero,Int.mul_one] at h0;rw [show (dyE V+m+65536).toNat=(dyE V+65536).toNat+m by omega,zJ,<- zI,h0]
def qmy {a b c d:PV}:fdP Tryz.prog 48 2 (.ag [a,b,c,d])=some d:=by kernel_rfl
abbrev pDt (n c:Nat) (V:Nat->Nat->Int):PV:=.sl none ((List.range n).map λi=>.sl (some 4) ((List.range c).map λj=>dT (V i j)))
def qaR {n c K m:Nat} {V Z:Nat->Nat->Int} (hK:K=65536) (hn:n<=20) (hc:c<=21) (hm:ltA V c n = -(m:Int)) (hm2:m<=60000) (hV:∀ i j,i < n->j < c->q0U (V i j)) (hZ:∀ i j,i < n->j < c->V i j*(2:Int) ^ m=Z i j*(2:Int) ^ K/\q0U (V i j*(2:Int) ^ m)) (hE:∀ i j,i < n->j < c -> -60000<=dyE (V i j)/\dyE (V i j)<=60000) (hL:∀ i,i<=n -> -60000<=ltA V c i) (hLr:∀ i j,i < n->j<=c -> -60000<=ltR V i (ltA V c i) j/\ltR V i (ltA V c i) j<=0) :
  ACt 103 [pDt n c V] (.sl none ((List.range n).map λi=>.sl (some 2) (q3H c Z i))):=by
 have cSg:=λi j (hi:i < n) (hj:j < c)=>ac_p1 (hV i j hi hj) (q4I (V:=V i j));have cNm:=λi j (hi:i < n) (hj:j < c)=>q0h (hV i j hi hj);have cSc:=λi j (hi:i < n) (hj:j < c)=>q8a (hV i j hi hj) (j:=(m:Int)) Oq Oq (qvt (hZ i j hi hj).2);have cFl:=λi j (hi:i < n) (hj:j < c)=>qeX hK (hZ i j hi hj).2 (hZ i j hi hj).1;have hrl:((List.range n).map λi=>PV.sl (some 4) ((List.range c).map λj=>dT (V i j))).length=n:=by simp
 have hcl:∀ i,((List.range c).map λj=>dT (V i j)).length=c:=λi=>by simp
 have hrg:=λi (hi:i < n)=>show ((List.range n).map λi=>PV.sl (some 4) ((List.range c).map λj=>dT (V i j)))[i]?=some (.sl (some 4) ((List.range c).map λj=>dT (V i j))) by rw [zD,zF hi]; rfl
 have hcg:=λi j (hj:j < c)=>show ((List.range c).map λj=>dT (V i j))[j]?=some (dT (V i j)) by rw [zD,zF hj]; rfl
 have hA0:ltA V c 0=0:=rfl;have hAs:=λi=>show ltA V c (i+1)=ltR V i (ltA V c i) c from rfl;have hR0:=λi l=>show ltR V i l 0=l from rfl;have hRs:=λi l j=>show ltR V i l (j+1)=if V i j=0 then ltR V i l j else min (ltR V i l j) (dyE (V i j)) from rfl
 unfold pDt;generalize (List.range n).map (λi=>PV.sl (some 4) ((List.range c).map λj=>dT (V i j)))=M at *;refine ac0 Tryz.func103 Tryz.ntmps103 [.tmp 2] ?_;refine wk ?_;refine q0B (λi=>i<=n) [0] [] Lk Lk (λi:Nat=>[(4,iv i),(3,iv (ltA V c i))]) (λ_=>[]) (λi=>n-i) 0 (zB _) ?_ ?_
 ·rw [hA0];refine LeM [] rfl rfl ?_;refine Zz ?_
  first | rfl | exact ⟨rfl,rfl⟩
 ·intro i hi
  by_cases hlt:i < n
  ·have q:(i:Int) < n:=by omega
   have gi:=hrg i hlt;have gl:=hcl i;refine wk1 (x2 q hrl) ?_;refine q0B (λj=>j<=c) [0,4] [] Lk Lk (λj:Nat=>[(5,iv j),(3,iv (ltR V i (ltA V c i) j))]) (λ_=>[]) (λj=>c-j) 0 (zB _) ?_ ?_
   ·rw [hR0];refine LeM [] rfl rfl ?_;refine Zz ?_
    first | rfl | exact ⟨rfl,rfl⟩
   ·intro j hj
    by_cases hlj:j < c
    ·have q2:(j:Int) < c:=by omega
     have gj:=hcg i j hlj;have c1:=cSg i j hlt hlj;have c2:=cNm i j hlt hlj;have rs:=hRs i (ltA V c i) j;generalize ltR V i (ltA V c i) j=l0 at *
     by_cases h0:V i j=0
     ·have s0:(V i j).sign=0:=by rw [h0]; rfl
      rw [s0] at c1;rw [if_pos h0] at rs;refine wk1 (x5 q2 gi hrl gl gj) ?_;refine ⟨j+1,by omega,by omega,?_⟩;rw [rs];refine LeM [] rfl rfl ?_;refine Zz ?_;omega
     ·have s0:((V i j).sign != 0)=true:=by simp [Int.sign_eq_zero_iff_zero,h0]
      rw [if_neg h0] at rs;generalize (V i j).sign=sg at *;refine wk1 (x6 q2 gi hrl gl gj s0) ?_;refine qhy λK hK=>?_;simp -implicitDefEqProofs (disch:=omega) only [go_sem,Nat.reduceEqDiff,Nat.reduceAdd,↓reduceIte,i64_in,Bool.not_true,Bool.not_false,List.length_range,Nat.zero_add,Int.reduceLT,Int.reduceEq,zP,Bool.true_and,Bool.false_and,Bool.and_true,Bool.and_false,qct,qcu,qcx,qcy,qcv,qcw,q49,q4a,q4b,q4c,q47,q48,q2,gi,hrl,gl,gj,s0,@qmy];refine q0R c2 ?_
      try simp -implicitDefEqProofs (disch:=omega) only [go_sem,Nat.reduceEqDiff,Nat.reduceAdd,↓reduceIte,@qmy]
      refine hK _ _ ?_; clear hK K;refine wk ?_;refine ⟨j+1,by omega,by omega,?_⟩;rw [rs];refine LeM [] rfl rfl ?_;refine Zz ?_;omega
    ·obtain rfl:j=c:=by omega
     have q2:¬ (j:Int) < j:=by omega
     refine wk1 (x4 q2 gi hrl gl) ?_;refine ⟨i+1,by omega,by omega,?_⟩;rw [hAs];refine LeM [] rfl rfl ?_;refine Zz ?_
     first | omega | exact ⟨by omega,rfl⟩
  ·obtain rfl:i=n:=by omega
   have q:¬ (i:Int) < i:=by omega
   rw [hm];have wng:IntKind.i64.wrap (0 - -(m:Int))=(m:Int):=by rw [i64_in (by omega) (by omega)]; omega
   clear cSg cNm hL hLr hE hA0 hAs hR0 hRs hm;refine wk1 (x2 q hrl) ?_;refine q1D (LeT (hw:=tXB c 0 Z) tnW (λ_ h=>h.elim) (λi hi hw=>?_) (λi b hw hb=>?_) (λi j x hi hj ti tj=>?_) (xs:=[(0,.sl none M),(3,iv (-(m:Int))),(6,.ow 5000 none 0 0),(7,iv 0)]) (kv:=[]) (bs:=[]) (kb:=[]) ?_) ?_
   ·simp at hi
   ·unfold LeB;rw [q55 hw.1 hw.2]
    rcases q0k hb with ⟨rfl,rfl⟩ | ⟨_,h1,h2,_⟩ | ⟨_,_,hb⟩
    ·rfl
    ·omega
    ·cases hb
   ·unfold tnW at ti tj
    split at ti <;> split at tj <;> cases ti <;> cases tj <;> rfl
   ·try simp -implicitDefEqProofs (disch:=omega) only [go_sem,Nat.reduceEqDiff,Nat.reduceAdd,↓reduceIte]
   refine q0P (λt=>t<=i) [0,3] [] Lk Lk (λt:Nat=>[(6,.ow 5000 none 0 t),(7,iv t)]) (λ_=>[]) (λt=>tXB c t Z) (λt=>i-t) 0 (zB _) ?_ ?_
   ·refine LeW [] rfl rfl ?_ ?_ (by simp [q0j,q0b,win]) ?_
    ·exact Ow
    ·exact wfB (q66 Oq)
    ·try refine Zz ?_
     rfl
   ·intro t ht
    by_cases hlt:t < i
    ·have hlt':(t:Int) < i:=by omega
     have gi:=hrg t hlt;have gl:=hcl t;refine wk1 (x2 hlt' hrl) ?_;refine q0P (λe=>e<=c) [0,3,6,7] [] Lk Lk (λe:Nat=>[(8,.ow 1001 (some 2) 0 e),(9,iv e)]) (λe=>[(1001,⟨46,some 2,(List.range e).map λe=>bT (Z t e),false⟩)]) (λ_=>tXB c t Z) (λe=>c-e) 0 (zB _) ?_ ?_
     ·refine LeW [(1001,none)] rfl rfl ?_ ?_ (by simp [q0j,q0b,win]) ?_
      ·exact Ow
      ·exact wfB (q66 Oq)
      ·try refine Zz ?_
       exact ⟨rfl,rfl⟩
     ·intro e he
      by_cases hen:e < c
      ·have hen':(e:Int) < c:=by omega
       have gj:=hcg t e hen;have d2:=cSc t e hlt hen;have d3:=cFl t e hlt hen;generalize V t e*(2:Int) ^ m=W at *;generalize V t e=V0 at *;unfold dT at gj d2 d3;clear cSc cFl;refine wk1 (x6 hen' gi hrl gl gj wng) ?_;refine ⟨e+1,by omega,by omega,?_⟩;refine LeW [(1001,some 79)] rfl rfl ?_ ?_ (by simp [q0j,q0b,win]) ?_
       ·exact Ow
       ·exact wfB (q66 Oq)
       ·try refine Zz ?_
        exact ⟨by omega,q0F (by rw [zC]; rfl) qxk⟩
      ·obtain rfl:c=e:=by omega
       have hcc:¬ (c:Int) < c:=by omega
       refine wk1 (x4 hcc gi hrl gl) ?_;refine ⟨t+1,by omega,by omega,?_⟩;refine q2N (T1:=64) (T2:=46) (K:=some 2) (N:=5000) (R:=10000) (n:=t) (o:=83) (r:=1001) (l:=q3H c Z t) (hw:=tXB c t Z) (hw':=tXB c (t+1) Z) (λ_ h=>h.elim) clB (λj=>(q3H c Z j).length) ?_ ?_ (λi h1 h2=>?_) q1R (q1H (by omega) (by omega)) (λi h1 h2=>q1I h1 h2) (λj hj=>q2i (by omega)) (q66 (by omega)) (q60 qdh (λ_ _=>clB) λj hj=>by omega) ?_ (by omega) (by omega) (by omega) (by omega) (by omega) (by omega) (by simp [nmW]) ?_
       ·try refine Zz ?_
        rw [q5M]
       ·try refine Zz ?_
        rfl
       ·obtain ⟨w1,w2⟩:=h1
        repeat rw [q0A (by omega)]
        rw [q0W ⟨w1,w2⟩]
       ·exact q0O Oq (.inr Oq)
       ·try refine Zz ?_
        omega
    ·obtain rfl:i=t:=by omega
     have hnn:¬ (i:Int) < i:=by omega
     have hcB:(∀ j,j < i->ClL (q3H c Z j))=True:=eq_true λ_ _=>clB;have tk:yI i ((List.range i).map λj=>PV.sl (some 2) (q3H c Z j))=(List.range i).map λj=>PV.sl (some 2) (q3H c Z j):=zG (by simp);exact wk1 (x4 hnn hrl hcB tk) trivial
set_option exponentiation.threshold 600
open Go.Dt
def qop {n:Nat} {M:Nat->Nat->Int} {b:Nat->Int} (h0:det n (λr c=>(M r c:Rat))≠0) {i:Nat} (hi:i < n) :
  mv n (λr c=>(M r c:Rat)) (λk=>((slX n M b k:Int):Rat) / (((dtE n λr c=>(M r c:Rat)).num.natAbs:Int):Rat)) i=((b i:Int):Rat):=by
 obtain ⟨y,hy⟩:∃ x,∀ i,i < n->mv n (λr c=>(M r c:Rat)) x i=((b i:Int):Rat):=by
  rcases (q9M (n:=n) (A:=λr c=>(M r c:Rat))).2 with h | h
  ·exact h.2.1 _
  ·exact (h0 h.1).elim
 have hn:=q7v (n:=n) (M:=M);have key:∀ k,k < n->((slX n M b k:Int):Rat)=y k*(((dtE n λr c=>(M r c:Rat)).num.natAbs:Int):Rat):=λk hk=>by
  have h1:=qnK hk hy;have h2:=q7v (n:=n) (M:=q8T M k b);have h3:det n (λr c=>(q8T M k b r c:Rat))=det n (cw (λr c=>(M r c:Rat)) k λi=>((b i:Int):Rat)):=q2t n λr c _ _=>by
   unfold q8T cw;dsimp only
   split <;> rfl
  rw [h3,h1] at h2;unfold slX;generalize (dtE n λr c=>(q8T M k b r c:Rat)).num=u at *;generalize (dtE n λr c=>(M r c:Rat)).num=d at *;rw [<- hn] at h2
  split
  ·rename_i hd;rw [show (d.natAbs:Int) = -d by omega,Rat.intCast_neg,Rat.intCast_neg,h2]; grind
  ·rename_i hd;rw [show (d.natAbs:Int)=d by omega,h2]
 have hD:(((dtE n λr c=>(M r c:Rat)).num.natAbs:Int):Rat)≠0:=by
  intro h;have h:(((dtE n λr c=>(M r c:Rat)).num.natAbs:Int))=0:=by exact_mod_cast h
  have h4:(dtE n λr c=>(M r c:Rat)).num=0:=by omega
  rw [h4] at hn;exact h0 (hn.symm.trans rfl)
 generalize (((dtE n λr c=>(M r c:Rat)).num.natAbs:Int):Rat)=D at *;have e:mv n (λr c=>(M r c:Rat)) (λk=>((slX n M b k:Int):Rat) / D) i=mv n (λr c=>(M r c:Rat)) y i:=by
  unfold mv;refine q0X n λc hc=>?_;dsimp only;rw [key c hc]
  congr 1
  rw [Rat.div_def,Rat.mul_assoc,Rat.mul_inv_cancel _ hD,Rat.mul_one]
 rw [e,hy i hi]
def qti {V m:Int} {t K:Nat} (hK:K=65536) (h:V=m*(2:Int) ^ t) (h0:m≠0):od V=od m/\dyE V=(tz m.natAbs:Int)+(t:Int)-(K:Int):=by
 have h1:V=od m*(2:Int) ^ (tz m.natAbs+t):=by rw [h,zJ,<- zI,q1F]
 have h2:=qf4 (q8o h0) h1;have hV:V≠0:=by rw [h]; exact Int.mul_ne_zero h0 (yF (q0K t))
 refine ⟨h2.1,?_⟩;unfold dyE;rw [if_neg hV,h2.2];omega
def snV (F:Nat->Nat->Option Nat) (n:Nat) (b:List Nat) (i j:Nat):Int:=if j < n then ofZ ((F j i).getD 0) else ofZ (b.getD i 0)
def snM (F:Nat->Nat->Option Nat) (n:Nat) (b:List Nat):Nat:=(-(ltA (snV F n b) (n+1) n)).toNat
def snZ (F:Nat->Nat->Option Nat) (n:Nat) (b:List Nat) (i j:Nat):Int:=od (snV F n b i j)*(2:Int) ^ (dyE (snV F n b i j)+(snM F n b:Int)).toNat
def qtP (B:Nat) (F:Nat->Nat->Option Nat) (n:Nat) (b:List Nat):Prop:=∀ i j,i < n->j < n+1->∃ m:Int,snV F n b i j=m*(2:Int) ^ tUn/\m.natAbs < 2 ^ B
section
variable {F:Nat->Nat->Option Nat} {n K B:Nat} {b:List Nat}
def qol (hF:∀ j i,j < n->i < n->gok (2 ^ B) ((F j i).getD 0)) (hb:∀ x ∈ b,gok (2 ^ B) x) (hbl:b.length=n):qtP B F n b:=λi j hi hj=>by
 unfold snV
 split
 ·rename_i h;exact (hF j i h hi).2.2
 ·rw [zE,zA (by omega)];exact (hb _ (zQ _)).2.2
def qmP (hK:K=65536) (h:qtP B F n b):ltA (snV F n b) (n+1) n = -((snM F n b:Nat):Int)/\snM F n b<=56/\tUn+56=K:=by
 have hU:tUn+56=K:=by rw [hK]; rfl
 have h1:=qpx (V:=snV F n b) (c:=n+1) n;have h2:=qbm (V:=snV F n b) (c:=n+1) (b := -56) Oq (n:=n) (λi k hi hk h0=>by
  obtain ⟨m,hm,_⟩:=h i k hi hk;have hm0:m≠0:=λe=>h0 (by rw [hm,e,zY]);have:=(qti hK hm hm0).2;omega) n (u6 _)
 unfold snM;omega
def qeg (hK:K=65536) (hB:B<=400) (h:qtP B F n b) {i j:Nat} (hi:i < n) (hj:j < n+1):snV F n b i j*(2:Int) ^ snM F n b=snZ F n b i j*(2:Int) ^ K/\(snZ F n b i j).natAbs < 2 ^ B/\q0U (snV F n b i j*(2:Int) ^ snM F n b)/\q0U (snV F n b i j) /\ -56<=dyE (snV F n b i j)/\dyE (snV F n b i j)<=400:=by
 obtain ⟨h1,h2,h3⟩:=qmP hK h;obtain ⟨m,hm,hb⟩:=h i j hi hj;have key:snV F n b i j*(2:Int) ^ snM F n b=snZ F n b i j*(2:Int) ^ K/\(snZ F n b i j).natAbs < 2 ^ B /\ -56<=dyE (snV F n b i j)/\dyE (snV F n b i j)<=400:=by
  by_cases h0:m=0
  ·have hv:snV F n b i j=0:=by rw [hm,h0,zY]
   unfold snZ;rw [hv,q15,zY,zY,zY];exact ⟨rfl,by rw [Int.natAbs_zero]; exact Nat.two_pow_pos B,by unfold dyE; simp,by unfold dyE; simp⟩
  ·have hv:snV F n b i j≠0:=by rw [hm]; exact Int.mul_ne_zero h0 (yF (q0K _))
   obtain ⟨e1,e2⟩:=qti hK hm h0;have h4:=qmi (V:=snV F n b) (c:=n+1) (k:=j) hj (m:=n) hi hv;have h5:=q9W h0;have h6:bl m.natAbs<=B:=q0N hb;unfold snZ;rw [e1];generalize snM F n b=M at *;generalize dyE (snV F n b i j)=E at *;obtain ⟨t,ht⟩:∃ t,t=(E+(M:Int)).toNat:=⟨_,rfl⟩;rw [<- ht];have h7:=q1F m;have h8:=q5m m;generalize tz m.natAbs=z at *;refine ⟨?_,?_,by omega,by omega⟩
   ·rw [hm,<- h7,zI,zI,zI,<- zJ,<- zJ,<- zJ,h7]
    congr 2
    omega
   ·rw [q0G];refine Nat.lt_of_le_of_lt (Nat.mul_le_mul_left _ (yC Oq (show t<=z by omega))) ?_;rw [h8]; exact hb
 obtain ⟨k1,k2,k3,k4⟩:=key;have hz:bl (snZ F n b i j).natAbs<=B:=q0N k2;refine ⟨k1,k2,?_,?_,k3,k4⟩
 ·rw [k1];unfold q0U;rw [q0G]
  by_cases h0:(snZ F n b i j).natAbs=0
  ·rw [h0,zX,q07]; omega
  ·rw [q0z h0]; omega
 ·unfold q0U;rw [hm,q0G]
  by_cases h0:m.natAbs=0
  ·rw [h0,zX,q07]; omega
  ·rw [q0z h0];have:=q0N hb;omega
def qef (hK:K=65536) (hB:B<=400) (h:qtP B F n b) {i j:Nat} (hi:i < n) (hj:j < n+1):((snZ F n b i j:Int):Rat)=(((2:Nat) ^ snM F n b:Nat):Rat)*rK K (snV F n b i j):=by
 have h1:=(qeg hK hB h hi hj).1;have h2:((snV F n b i j*(2:Int) ^ snM F n b:Int):Rat)=((snZ F n b i j*(2:Int) ^ K:Int):Rat):=by rw [h1]
 rw [Rat.intCast_mul,Rat.intCast_mul] at h2;have hp:(((2:Int) ^ K:Int):Rat)≠0:=by
  have:=pKp K;intro e; rw [e] at this; exact absurd this (by decide)
 have e3:(((2:Nat) ^ snM F n b:Nat):Rat)=(((2:Int) ^ snM F n b:Int):Rat):=by push_cast; rfl
 rw [e3];unfold rK;generalize (((2:Int) ^ K:Int):Rat)=P at *;generalize (((2:Int) ^ snM F n b:Int):Rat)=Q at *;rw [Rat.div_def,<- Rat.mul_assoc,Rat.mul_comm Q,h2,Rat.mul_assoc,Rat.mul_inv_cancel _ hp,Rat.mul_one]
def qvo {n:Nat} {A B:Mx} {c:Rat} {x:Nat->Rat} {i:Nat} (hi:i < n) (h:∀ r k,r < n->k < n->A r k=c*B r k):mv n A x i=c*mv n B x i:=by
 unfold mv;rw [<- qbW];refine q0X n λk hk=>?_;rw [h i k hi hk,Rat.mul_assoc]
def qjG (m:Nat):(((2:Nat) ^ m:Nat):Rat)≠0:=by
 have h:(0:Nat) < 2 ^ m:=Nat.two_pow_pos m;intro e;have e:((2:Nat) ^ m:Nat)=0:=by exact_mod_cast e
 omega
def qu7 (hK:K=65536) (hB:B<=400) (h:qtP B F n b) (hr:det n (mA K F)≠0):(dtE n λr c=>(snZ F n b r c:Rat)).num≠0/\∀ i,i < n->mv n (mA K F) (λk=>((slX n (snZ F n b) (λi=>snZ F n b i n) k:Int):Rat) / (((dtE n λr c=>(snZ F n b r c:Rat)).num.natAbs:Int):Rat)) i=mB K b i:=by
 have hs:=qjG (snM F n b);have e1:∀ r c,r < n->c < n->((snZ F n b r c:Int):Rat)=(((2:Nat) ^ snM F n b:Nat):Rat)*mA K F r c:=λr c hr hc=>by
  rw [qef hK hB h hr (by omega)];unfold snV mA;rw [if_pos hc]
 have e2:∀ r,r < n->((snZ F n b r n:Int):Rat)=(((2:Nat) ^ snM F n b:Nat):Rat)*mB K b r:=λr hr=>by
  rw [qef hK hB h hr (by omega)];unfold snV mB;rw [if_neg (by omega)]
 generalize (((2:Nat) ^ snM F n b:Nat):Rat)=c at *;have hd:det n (λr c=>(snZ F n b r c:Rat))≠0:=by
  rw [q2t n (B:=λi j=>c*mA K F i j) λi j hi hj=>e1 i j hi hj,qa9];intro e
  rcases Rat.mul_eq_zero.1 e with e | e
  ·exact qp4 n (λ_ _=>hs) e
  ·exact hr e
 refine ⟨λe=>hd ?_,λi hi=>?_⟩
 ·rw [<- q7v,e]; rfl
 ·have h1:=qop (b:=λi=>snZ F n b i n) hd hi;rw [qvo (B:=mA K F) (c:=c) hi e1,e2 i hi] at h1;have h2:=congrArg (λt=>c⁻¹*t) h1;simp only [<- Rat.mul_assoc,Rat.inv_mul_cancel c hs,Rat.one_mul] at h2;exact h2
def qxS {M:Nat->Nat->Int} (hn:n<=4) (hM:∀ r c,r < n->c < n->(M r c).natAbs < 2 ^ 120):bl (dtE n λr c=>(M r c:Rat)).num.natAbs<=500:=by
 have h3:fcN (2 ^ 120) n < 2 ^ 500:=by
  have hn4:n=0\/n=1\/n=2\/n=3\/n=4:=by omega
  rcases hn4 with rfl | rfl | rfl | rfl | rfl <;> decide
 generalize (2:Nat) ^ 120=P at *;have h1:=qhH (m:=P) n (A:=λr c=>(M r c:Rat)) λi j hi hj=>by
  rw [qar,Rat.intCast_natCast];exact Rat.natCast_le_natCast.2 (Nat.le_of_lt (hM i j hi hj))
 rw [<- q7v,qar,Rat.intCast_natCast] at h1;have h2:(dtE n λr c=>(M r c:Rat)).num.natAbs<=fcN P n:=Rat.natCast_le_natCast.1 h1;exact q0N (Nat.lt_of_le_of_lt h2 h3)
def qu9 {M:Nat->Nat->Int} {b:Nat->Int} {j:Nat} (hn:n<=4) (hM:∀ r c,r < n->c < n->(M r c).natAbs < 2 ^ 120) (hb:∀ r,r < n->(b r).natAbs < 2 ^ 120):bl (slX n M b j).natAbs<=500:=by
 have h:=qxS (M:=q8T M j b) hn λr c hr hc=>by
  unfold q8T
  split
  ·exact hb r hr
  ·exact hM r c hr hc
 unfold slX
 split
 ·rw [Int.natAbs_neg]; exact h
 ·exact h
end
def qdj (c:Nat) (V:Nat->Nat->Int) (r:Nat):List PV:=(List.range c).map λj=>dT (V r j)
def q72 {c r:Nat} {V:Nat->Nat->Int}:(qdj c V r).length=c:=by unfold qdj; simp
def clRD {c r:Nat} {V:Nat->Nat->Int}:ClL (qdj c V r):=λx hx=>by
 obtain ⟨z,_,rfl⟩:=zN.1 hx;intro y hy;simp at hy
 rcases hy with rfl | rfl | rfl | rfl <;> trivial
def clDx {l:List Nat} {f:Nat->Int}:ClL (l.map λe=>dT (f e)):=λx hx=>by
 obtain ⟨z,_,rfl⟩:=zN.1 hx;intro y hy;simp at hy
 rcases hy with rfl | rfl | rfl | rfl <;> trivial
def qxj {l:List Nat} {X:Nat->List PV}:ClL (l.map λe=>PV.sl (some 2) (X e)):=λx hx=>by
 obtain ⟨c,_,rfl⟩:=zN.1 hx
 trivial
abbrev tXD (c t:Nat) (V:Nat->Nat->Int):Hp:=q1W 39 48 (some 4) 5000 10000 t (qdj c V) h0
def qbO {c t:Nat} {V:Nat->Nat->Int} (ht:t<=1000):BOk (tXD c t V) win:=q1V BOk.h0 (λ_ _=>clRD) Oq ⟨⟨by omega,by omega⟩,λj hj=>⟨by omega,by omega⟩⟩
def qvG {c r:Nat} {V:Nat->Nat->Int}:((List.range c).map λj=>dT (V r j)) ++ [dT (V r c)]=qdj (c+1) V r:=by unfold qdj; rw [zW,zC]; rfl
def q9v {F:Nat->Nat->Option Nat} {n K B:Nat} {b:List Nat} (hK:K=65536) (h:TOk F n n) (hn:n<=5) (hb:q03 b) (hbl:b.length=n) (hB:B<=100) (hS:qtP B F n b) (h0:(dtE n λr c=>(snZ F n b r c:Rat)).num≠0) :
  ACt 28 [pT n n F,pF b] (.tu [pZB n (slX n (snZ F n b) λi=>snZ F n b i n),bT ((dtE n λr c=>(snZ F n b r c:Rat)).num.natAbs:Nat),bv true]):=by
 have cA:=λr c (hr:r < n) (hc:c < n)=>q6a (i:=r) (j:=c) h hr hc;have cO:=λr c (hr:r < n) (hc:c < n)=>qcj (x:=(F c r).getD 0) ⟨(h.fin hc hr).2,(h.fin hc hr).1⟩;have cOb:=λr (hr:r < n)=>qcj (x:=b.getD r 0) (hb _ (by rw [zE,zA (by omega)]; exact zQ _));have hgb:=λr (hr:r < n)=>show (b.map λz:Nat=>uv z)[r]?=some (uv (b.getD r 0:Nat)) by rw [zD,zA (by omega),zE,zA (by omega)]; rfl
 obtain ⟨m1,m2,m3⟩:=qmP hK hS;have hz:=λi j hi hj=>qeg (i:=i) (j:=j) hK Oq hS hi hj;have cI:=qaR (n:=n) (c:=n+1) (K:=K) (m:=snM F n b) (V:=snV F n b) (Z:=snZ F n b) hK Oq Oq m1 Oq (λi j hi hj=>(hz i j hi hj).2.2.2.1) (λi j hi hj=>⟨(hz i j hi hj).1,(hz i j hi hj).2.2.1⟩) (λi j hi hj=>by have:=(hz i j hi hj).2.2.2.2; omega) (λi hi=>by
   have:=qbm (V:=snV F n b) (c:=n+1) (b := -60000) Oq (n:=i) (λi k hi' hk _=>by have:=(hz i k Oq hk).2.2.2.2.1; omega) i (u6 _);exact this) (λi j hi hj=>by
   have h1:=qbm (V:=snV F n b) (c:=n+1) (b := -60000) Oq (n:=i) (λi k hi' hk _=>by have:=(hz i k Oq hk).2.2.2.2.1; omega) i (u6 _);have h2:=qpx (V:=snV F n b) (c:=n+1) i;have h3:=qbl (V:=snV F n b) (i:=i) (l:=ltA (snV F n b) (n+1) i) j;have h4:=qft (V:=snV F n b) (i:=i) (l:=ltA (snV F n b) (n+1) i) (c:=n+1) (b := -60000) h1 (λk hk _=>by have:=(hz i k hi hk).2.2.2.2.1; omega) j hj;omega)
 have hp:(2:Nat) ^ B<=2 ^ 100:=yC Oq hB;have cS:=qee (n:=n) (M:=snZ F n b) (b:=λi=>snZ F n b i n) hn (λr c hr hc=>q0N (Nat.lt_of_lt_of_le (hz r c hr Oq).2.1 hp)) (λr hr=>q0N (Nat.lt_of_lt_of_le (hz r n hr Oq).2.1 hp)) h0;have c1:=q35 (a:=1) Oq Oq;have hvF:∀ r c,r < n->c < n->ofZ ((F c r).getD 0)=snV F n b r c:=λr c hr hc=>by unfold snV; rw [if_pos hc]
 have hvb:∀ r,r < n->ofZ (b.getD r 0)=snV F n b r n:=λr hr=>by unfold snV; rw [if_neg (by omega)]
 have hD0:n=0->(dtE n λr c=>(snZ F n b r c:Rat)).num.natAbs=1:=λh=>by subst h; rfl
 clear m1 m2 m3 hz hp h0 hS hb;generalize (dtE n λr c=>(snZ F n b r c:Rat)).num.natAbs=D at *;generalize slX n (snZ F n b) (λi=>snZ F n b i n)=X at *;generalize snV F n b=V at *;generalize snZ F n b=Z at *;unfold pT q2F at *;generalize (tM F n n).1=ms at *;generalize (tM F n n).2.1=mi at *;generalize (tM F n n).2.2=mv at *;refine ac0 Tryz.func28 Tryz.ntmps28 [.tmp 4,.cell 5 46,.tmp 6] ?_;refine wk ?_;refine q1D (LeT (hw:=tXD (n+1) 0 V) tnW (λ_ h=>h.elim) (λi hi hw=>?_) (λi b hw hb=>?_) (λi j x hi hj ti tj=>?_) (xs:=[(1,pF b),(2,.pt 2 0 0),(4,q02),(5,.pt 5 0 0),(6,bv false),(7,.ow 5000 none 0 0),(8,iv 0)]) (kv:=[]) (bs:=[(2,⟨27,some 5,[.ag [iv n,iv n,pI ms,pI mi,pF mv]],false⟩),(5,⟨46,some 2,[.ag [bv false,q02]],false⟩)]) (kb:=[]) ?_) ?_
 ·simp at hi;unfold win at hw;omega
 ·unfold LeB;rw [q55 hw.1 hw.2]
  rcases q0k hb with ⟨rfl,rfl⟩ | ⟨_,h1,h2,_⟩ | ⟨_,_,hb⟩
  ·rfl
  ·omega
  ·cases hb
 ·unfold tnW at ti tj
  split at ti <;> split at tj <;> cases ti <;> cases tj <;> rfl
 ·try simp -implicitDefEqProofs (disch:=omega) only [go_sem,Nat.reduceEqDiff,Nat.reduceAdd,↓reduceIte]
 refine q0P (λt=>t<=n) [1,2,4,5,6] [2,5] Lk Lk (λt:Nat=>[(7,.ow 5000 none 0 t),(8,iv t)]) (λ_=>[]) (λt=>tXD (n+1) t V) (λt=>n-t) 0 (zB _) ?_ ?_
 ·refine LeW [] rfl rfl ?_ ?_ (by simp [q0j,q0b,win]) ?_
  ·exact Ow
  ·exact wfB (qbO Oq)
  ·try refine Zz ?_
   rfl
 ·intro t ht
  by_cases hlt:t < n
  ·have hlt':(t:Int) < n:=by omega
   refine wk1 hlt' ?_;refine q0P (λc=>c<=n) [1,2,4,5,6,7,8] [2,5] Lk Lk (λc:Nat=>[(9,.ow 1001 (some 4) 0 c),(10,iv c)]) (λc=>[(1001,⟨48,some 4,(List.range c).map λe=>dT (V t e),false⟩)]) (λ_=>tXD (n+1) t V) (λc=>n-c) 0 (zB _) ?_ ?_
   ·refine LeW [(1001,none)] rfl rfl ?_ ?_ (by simp [q0j,q0b,win]) ?_
    ·exact Ow
    ·exact wfB (qbO Oq)
    ·try refine Zz ?_
     exact ⟨rfl,rfl⟩
   ·intro c hc
    by_cases hcn:c < n
    ·have hcn':(c:Int) < n:=by omega
     have d1:=cA t c hlt hcn;have d2:=cO t c hlt hcn;rw [hvF t c hlt hcn] at d2;generalize (F c t).getD 0=x at *;refine wk1 hcn' ?_;refine ⟨c+1,by omega,by omega,?_⟩;refine LeW [(1001,some 34)] rfl rfl ?_ ?_ (by simp [q0j,q0b,win]) ?_
     ·exact Ow
     ·exact wfB (qbO Oq)
     ·try refine Zz ?_
      exact ⟨by omega,q0F (by rw [zC]; rfl) clDx⟩
    ·obtain rfl:n=c:=by omega
     have hcn':¬ (n:Int) < n:=by omega
     have d2:=cOb t hlt;have gb:=hgb t hlt;rw [hvb t hlt] at d2;generalize b.getD t 0=x at *;refine wk1 (x2 hcn' gb) ?_;refine ⟨t+1,by omega,by omega,?_⟩;refine q2N (T1:=39) (T2:=48) (K:=some 4) (N:=5000) (R:=10000) (n:=t) (o:=45) (r:=43) (l:=qdj (n+1) V t) (hw:=tXD (n+1) t V) (hw':=tXD (n+1) (t+1) V) (λ_ h=>h.elim) clRD (λj=>(qdj (n+1) V j).length) ?_ ?_ (λi h1 h2=>?_) q1R (q1H (by omega) (by omega)) (λi h1 h2=>q1I h1 h2) (λj hj=>q2i (by omega)) (qbO (by omega)) (q60 qdh (λ_ _=>clRD) λj hj=>by omega) ?_ (by omega) (by omega) (by omega) (by omega) (by omega) (by omega) (by simp [nmW]) ?_
     ·try refine Zz ?_
      rw [q72]
     ·try refine Zz ?_
      rw [qvG]
     ·obtain ⟨w1,w2⟩:=h1
      repeat rw [q0A (by omega)]
      rw [q0W ⟨w1,w2⟩]
     ·exact q0O Oq (.inr Oq)
     ·try refine Zz ?_
      omega
  ·obtain rfl:n=t:=by omega
   have hnn:¬ (n:Int) < n:=by omega
   refine wk1 hnn ?_;refine q1D (LeM [] rfl rfl (xs:=[(2,.pt 2 0 0),(4,q02),(5,.pt 5 0 0),(6,bv false),(7,.sl none ((List.range n).map λi=>.sl (some 4) (qdj (n+1) V i)))]) (kv:=[]) (bs:=[(2,⟨27,some 5,[.ag [iv n,iv n,pI ms,pI mi,pF mv]],false⟩),(5,⟨46,some 2,[.ag [bv false,q02]],false⟩)]) (kb:=[]) ?_) ?_
   ·try refine Zz ?_
    refine q56 (N:=5000) (R:=10000) (T1:=39) (T2:=48) (row:=qdj (n+1) V) (λ_=>n+1) ?_ (λj hj=>⟨?_,clRD,q72⟩) λi j hi hj=>?_
    ·try simp -implicitDefEqProofs (disch:=omega) only [go_sem,Nat.reduceEqDiff,Nat.reduceAdd,↓reduceIte,@q72]
    ·try simp -implicitDefEqProofs (disch:=omega) only [go_sem,Nat.reduceEqDiff,Nat.reduceAdd,↓reduceIte]
    ·obtain rfl:i=j:=by
      have hi:(some i:Option Nat)=some j:=hi;cases hi; rfl
     have a:i≠2:=by omega
     have b:i≠5:=by omega
     try refine Zz ?_
     rw [if_neg a,if_neg b]
   have cI:ACt 103 [.sl none ((List.range n).map λi=>.sl (some 4) (qdj (n+1) V i))] (.sl none ((List.range n).map λi=>PV.sl (some 2) (q3H (n+1) Z i))):=cI;have hwl:((List.range n).map λi=>PV.sl (some 2) (q3H (n+1) Z i)).length=n:=by simp
   have hwg:=λi (hi:i < n)=>show ((List.range n).map λi=>PV.sl (some 2) (q3H (n+1) Z i))[i]?=some (.sl (some 2) (q3H (n+1) Z i)) by rw [zD,zF hi]; rfl
   have hrs:=λi=>show slP (some 2) none (some (iv (n:Int))) (.sl (some 2) (q3H (n+1) Z i))=some (.sl (some 2) (q3H n Z i)) by
    have e:(q3H (n+1) Z i).take n=q3H n Z i:=by unfold q3H; rw [<- List.map_take,List.take_range,Nat.min_eq_left (Nat.le_succ n)]
    simp [slP,qak,ksz,q5M,e]
   have hrg:=λi=>show (q3H (n+1) Z i)[n]?=some (bT (Z i n)) by unfold q3H; rw [zD,zF (Nat.lt_succ_self n)]; rfl
   generalize hM:(List.range n).map (λi=>PV.sl (some 2) (q3H (n+1) Z i))=M at *;have hrb:=λi=>show q3H n Z i=(List.range n).map λc=>bT (Z i c) from rfl;generalize q3H (n+1) Z=P at *;generalize hQ:q3H n Z=Q at *;clear hQ;generalize qdj (n+1) V=RD at *;clear cA cO cOb hgb hvF hvb;refine wk ?_;refine q0B (λt=>t<=n) [2,4,5,6,11] [2,5] Lk Lk (λt:Nat=>[(12,.ow 1001 none 0 t),(13,.ow 1002 (some 2) 0 t),(14,iv t)]) (λt=>[(1001,⟨64,none,(List.range t).map λe=>PV.sl (some 2) (Q e),false⟩),(1002,⟨46,some 2,(List.range t).map λe=>bT (Z e n),false⟩)]) (λt=>n-t) 0 (zB _) ?_ ?_
   ·refine LeM [(1001,none),(1002,none)] rfl rfl ?_;refine Zz ?_;exact ⟨rfl,rfl,rfl⟩
   ·intro t ht
    by_cases hlt:t < n
    ·have hlt':(t:Int) < n:=by omega
     have g1:=hwg t hlt;have g2:=hrs t;have g3:=hrg t;refine wk1 (x5 hlt' hwl g1 g2 g3) ?_;refine ⟨t+1,by omega,by omega,?_⟩;refine LeM [(1001,some 63),(1002,some 74)] rfl rfl ?_;refine Zz ?_;exact ⟨by omega,q0F (by rw [zC]; rfl) qxj,q0F (by rw [zC]; rfl) qxk⟩
    ·obtain rfl:n=t:=by omega
     have hlt':¬ (n:Int) < n:=by omega
     by_cases hn0:n=0
     ·have q:((n:Int) == 0)=true:=by simp; omega
      have hD1:=hD0 hn0;refine wk1 (x3 hlt' hwl q) ?_;subst hD1;exact ⟨by rw [hn0]; rfl,rfl⟩
     ·have q:((n:Int) == 0)=false:=by simp; omega
      have cS:ACt 105 [.sl none ((List.range n).map λe=>PV.sl (some 2) (Q e)),pZB n λi=>Z i n] (.tu [pZB n X,bT (D:Nat),bv true]):=by
       have e:(λe=>PV.sl (some 2) (Q e))=λr=>PV.sl (some 2) ((List.range n).map λc=>bT (Z r c)):=funext λe=>by rw [hrb e]
       rw [e]; exact cS
      refine wk1 (x3 hlt' hwl q) ?_;refine q1D (LeM [] rfl rfl (xs:=[(5,.pt 5 0 0),(12,.sl none ((List.range n).map λe=>PV.sl (some 2) (Q e))),(13,pZB n λi=>Z i n)]) (kv:=[]) (bs:=[(5,⟨46,some 2,[.ag [bv false,q02]],false⟩)]) (kb:=[]) ?_) ?_
      ·try refine Zz ?_
       exact ⟨qhr (T:=64) rfl qxj rfl (by simp),qhr (T:=46) rfl qxk rfl (by simp)⟩
      generalize (List.range n).map (λe=>PV.sl (some 2) (Q e))=M1 at *;clear hrs hrg hwg hrb;unfold bT at *;exact wk trivial
section
variable {C:Nat} {F:Nat->Nat->Option Nat} {f:LUt} {b:List Nat}
def qdg (l:List Nat):Prop:=(∀ v ∈ l,v < 9223372036854775808/\q0I v)/\∀ (k u v:Nat),l[k]?=some u->l[k+1]?=some v->2*ofZ v<=ofZ u
def qdg.snoc {l:List Nat} {a v:Nat} (h:qdg (l ++ [a])) (hv:v < 9223372036854775808/\q0I v) (h2:2*ofZ v<=ofZ a):qdg (l ++ [a] ++ [v]):=by
 refine ⟨λx hx=>?_,λk u w hu hw=>?_⟩
 ·rcases List.mem_append.1 hx with hx | hx
  ·exact h.1 x hx
  ·simp at hx; subst hx; exact hv
 ·by_cases hk:k+1 < (l ++ [a]).length
  ·rw [zR (by omega)] at hu;rw [zR hk] at hw;exact h.2 k u w hu hw
  ·have hk2:=(z6.1 hw).1;simp at hk hk2;obtain rfl:k=l.length:=by omega
   rw [zR (by simp),uZ (u6 _),yE] at hu;rw [uZ (by simp),show l.length+1-(l ++ [a]).length=0 by simp] at hw;cases hu; cases hw; exact h2
def RefG (C:Nat) (F:Nat->Nat->Option Nat) (b:List Nat) (q:List (Nat × Nat) × List Nat × Int):Prop:=q.2.2=0->q.1.length=C/\(∀ p ∈ q.1,(p.1 < 18446744073709551616/\q0I p.1)/\p.2=0)/\q03 (rdL F q.1 b C C)/\qdg q.2.1/\∃ l,q.2.1=l ++ [q1n (rdL F q.1 b C C) C]
def chL_0 {x:List (Nat × Nat)} {d:List Nat} {n:Nat}:∀ p ∈ chL false x d n,p.2=0:=λp hp=>by
 obtain ⟨j,_,rfl⟩:=zN.1 hp
 rfl
def qvK:∀ (k:Nat) (x:List (Nat × Nat)) (r l:List Nat),r=rdL F x b C C->x.length=C->(∀ p ∈ x,(p.1 < 18446744073709551616/\q0I p.1)/\p.2=0)->q03 r->qdg (l ++ [q1n r C])->RefG C F b (rfL C F f b false k x r (l ++ [q1n r C]))
 | 0,x,r,l,hr,h1,h2,h3,h4=>λ_=>⟨h1,h2,hr ▸ h3,h4,l,by rw [hr]; rfl⟩
 | k+1,x,r,l,hr,h1,h2,h3,h4=>by
  rw [rfL]
  by_cases c1:q1n r C=0
  ·rw [if_pos c1]; exact λ_=>⟨h1,h2,hr ▸ h3,h4,l,by rw [hr]⟩
  rw [if_neg c1]
  by_cases c2:(lgE f r).2≠0
  ·rw [if_pos c2]; exact λh=>(c2 h).elim
  rw [if_neg c2]
  by_cases c3:¬ ∀ p ∈ chL false x (lgE f r).1 C,q0I p.1
  ·rw [if_pos c3]; exact λh=>by cases h
  rw [if_neg c3]
  by_cases c4:¬ ∀ v ∈ rdL F (chL false x (lgE f r).1 C) b C C,q0I v
  ·rw [if_pos c4]; exact λh=>by cases h
  rw [if_neg c4]
  by_cases c5:ofZ (q1n r C) < 2*ofZ (q1n (rdL F (chL false x (lgE f r).1 C) b C C) C)
  ·rw [if_pos c5]; exact λ_=>⟨h1,h2,hr ▸ h3,h4,l,by rw [hr]⟩
  rw [if_neg c5];have hfin:q03 (rdL F (chL false x (lgE f r).1 C) b C C):=λv hv=>⟨qpS v hv,Classical.not_not.1 c4 v hv⟩;have hsz:=qbX hfin;rw [qaD] at hsz;refine qvK k _ _ (l ++ [q1n r C]) rfl qah (λp hp=>⟨⟨(qhV (Classical.not_not.1 c3) p hp).1.1,Classical.not_not.1 c3 p hp⟩,chL_0 p hp⟩) hfin (h4.snoc hsz Oq)
def rfS_G {R:Nat} {steps:Int} (hb:LUb f) (hu:∀ v ∈ b,v < 18446744073709551616):RefG C F b (rfS C F f b false R steps):=by
 unfold rfS
 by_cases c1:rfR R C f steps≠0
 ·rw [if_pos c1]; exact λh=>(c1 h).elim
 rw [if_neg c1];obtain ⟨_,_,hC,_,_⟩:=qjD (Classical.not_not.1 c1)
 by_cases c2:(lgE f b).2≠0
 ·rw [if_pos c2]; exact λh=>(c2 h).elim
 rw [if_neg c2];obtain ⟨_,_,_,e1,e2⟩:=q6o hb hu (Classical.not_not.1 c2)
 by_cases c3:¬ ∀ v ∈ rdL F ((lgE f b).1.map λv=>(v,0)) b C C,q0I v
 ·rw [if_pos c3]; exact λh=>by cases h
 rw [if_neg c3];have hfin:q03 (rdL F ((lgE f b).1.map λv=>(v,0)) b C C):=λv hv=>⟨qpS v hv,Classical.not_not.1 c3 v hv⟩;have hsz:=qbX hfin;rw [qaD] at hsz;have hH:qdg ([] ++ [q1n (rdL F ((lgE f b).1.map λv=>(v,0)) b C C) C]):=⟨λx hx=>by simp at hx; subst hx; exact hsz,λk u v hu hv=>by simp at hv⟩;exact qvK _ _ _ [] rfl (by rw [zM]; omega) (λp hp=>by
  obtain ⟨v,hv,rfl⟩:=zN.1 hp;exact ⟨e2 v hv,rfl⟩) hfin hH
end
abbrev pBo (m:Nat) (v z:List Nat):PV:=.ag [iv m,iv m,.ow 5000 none 0 v.length,pF z]
section
variable {F:Nat->Nat->Option Nat} {n m:Nat} {b z v:List Nat}
def BxOk (F:Nat->Nat->Option Nat) (n m:Nat) (v z:List Nat):Prop:=(m=n/\v.length=n*n/\q03 v/\z.length=n/\q03 z/\¬ q2T<=grZ (btL n v F))\/(m=0/\v=[]/\z=[])
def LeBn {J:Nat->Prop} {h:Hp} (hJ:∀ i,¬ J i) {k:Int}:Le J (λ_=>.tu [q02,.ag [iv 0,iv 0,q02,q02],iv k]) h (λ_=>.tu [.un,pBo 0 [] [],.un]) (q0Q h0 5000 ⟨33,none,([]:List Nat).map λz:Nat=>uv z,false⟩) :=
 b5n hJ λ_=>.tu rfl λi x y hx hy=>by
  rcases i with _ | _ | _ | i
  ·cases hx; cases hy; exact .un
  ·cases hx; cases hy;exact .ag rfl λi x y hx hy=>by
    rcases i with _ | _ | _ | _ | i
    ·cases hx; cases hy; exact .cl trivial
    ·cases hx; cases hy; exact .cl trivial
    ·cases hx; cases hy; exact .nilow rfl q0L rfl
    ·cases hx; cases hy; exact .nilsl
    ·simp at hx
  ·cases hx; cases hy; exact .un
  ·simp at hx
def qtW (h:TOk F n n) (hn:n<=20) (hb:q03 b) (hbl:b.length=n):∃ m v z,BxOk F n m v z/\qdi 59 [pT n n F,pF b] h0 (.tu [.un,pBo m v z,.un]) (q0Q h0 5000 ⟨33,none,v.map λz:Nat=>uv z,false⟩):=by
 have hJ:∀ i,¬ (h0 i≠none):=λi h=>h rfl;have hJe:(λi=>(h0:Hp) i≠none)=λ_=>False:=funext λi=>eq_false (hJ i);have C1:=q9s h;have D3:=q2z (l:=b) (λx hx=>(hb x hx).1) Oq;rw [decide_eq_true λx hx=>(hb x hx).2] at D3;have cL:=qj3 (num:=1) (den:=1) h Oq (cols:=q86 n) (qeI n) Oq Oq Oq;have hLL:LUb (qmz F (tM F n n).2.1 n (q86 n) 1 1)/\(qmz F (tM F n n).2.1 n (q86 n) 1 1).rows.length<=n:=qwa (by omega) (by rw [q7I]; omega);unfold facP at cL;obtain ⟨e0,he0⟩:∃ e0,e0=(q3P F (tM F n n).2.1 n (q86 n) 1 1 n).1:=⟨_,rfl⟩;rw [<- he0] at cL;clear he0;obtain ⟨k0,hk0⟩:∃ k0:Nat,k0=(if e0=0 then n else (q3P F (tM F n n).2.1 n (q86 n) 1 1 n).2.1:Nat):=⟨_,rfl⟩;rw [<- hk0] at cL;clear hk0;generalize qmz F (tM F n n).2.1 n (q86 n) 1 1=f at *;obtain ⟨hLb,hLr⟩:=hLL;have cV:=qiL hLb Oq;have hI:=qwP (g:=f) hLb;have cR:=qci (steps:=2) h hLb Oq (λx hx=>(hb x hx).1) Oq Oq Oq;have hG:=rfS_G (C:=n) (F:=F) (f:=f) (b:=b) (R:=n) (steps:=2) hLb λx hx=>(hb x hx).1;unfold rfH at cR;obtain ⟨x,hx⟩:∃ x,x=(rfS n F f b false n 2).1.map (·.1):=⟨_,rfl⟩;have hxo:(rfS n F f b false n 2).2.2=0->x.length=n/\q03 x:=λq=>by
  obtain ⟨g1,g2,_⟩:=hG q;refine ⟨by rw [hx,zM]; exact g1,λy hy=>?_⟩;rw [hx] at hy;obtain ⟨p,hp,rfl⟩:=zN.1 hy;exact (g2 p hp).1
 rw [<- hx] at cR;have hnr:(rfS n F f b false n 2).2.2=0->n=f.rows.length:=λq=>by
  unfold rfS at q
  by_cases c1:rfR n n f 2≠0
  ·rw [if_pos c1] at q; exact (c1 q).elim
  ·exact (qjD (Classical.not_not.1 c1)).2.1
 clear hx hG;generalize (rfS n F f b false n 2).2.1=sz at *;generalize (rfS n F f b false n 2).2.2=e3 at *;have hI1:=hI.1;have hI2:=hI.2.1;clear hI;generalize (ivA f).1=M at *;generalize (ivA f).2.1=W at *;generalize (ivA f).2.2=e2 at *;have hres:∃ m v z,BxOk F n m v z/\((e0=0/\e2=0/\e3=0/\(vfO F n W b x).2=true)->m=n/\v=W/\z=x)/\(¬ (e0=0/\e2=0/\e3=0/\(vfO F n W b x).2=true)->m=0/\v=[]/\z=[]):=by
  by_cases c:e0=0/\e2=0/\e3=0/\(vfO F n W b x).2=true
  ·obtain ⟨c0,c2,c3,c4⟩:=c;obtain ⟨x1,x2⟩:=hxo c3;obtain ⟨w1,w2⟩:=hI1 c2;refine ⟨n,W,x,.inl ⟨rfl,by rw [w2,<- hnr c3],hI2,x1,x2,λq=>?_⟩,λ_=>⟨rfl,rfl,rfl⟩,λq=>(q ⟨c0,c2,c3,c4⟩).elim⟩;unfold vfO at c4;rw [if_pos q] at c4;cases c4
  ·exact ⟨0,[],[],.inr ⟨rfl,rfl,rfl⟩,λq=>(c q).elim,λ_=>⟨rfl,rfl,rfl⟩⟩
 obtain ⟨m,v,z,hok,hp,hq⟩:=hres;refine ⟨m,v,z,hok,?_⟩;have cW:e2=0->e3=0->M=n/\ACt 160 [pT n n F,pF b,pBx n W x] (.tu [.un,bv (vfO F n W b x).2,iv 0]):=λc2 c3=>by
  obtain ⟨x1,x2⟩:=hxo c3;obtain ⟨w1,w2⟩:=hI1 c2;have hn3:=hnr c3;exact ⟨by omega,qch h hn (by rw [w2,<- hn3]) hI2 hb hbl x2 x1⟩
 clear hok hI1 hxo hnr;have q1:((b.length:Int) != (n:Int))=false:=by simp; omega
 have q0:((n:Int) != (n:Int))=false:=by simp
 generalize (vfO F n W b x).2=ok at *;have NB:Nz (.tu [.un,bv ok,iv 0]):=nz_tu λx hx=>by
  simp at hx
  rcases hx with rfl | rfl | rfl
  ·exact λw D B v hB h=>by unfold Rd; trivial
  ·exact qdL
  ·exact qdL
 unfold pLU at cL cV cR;unfold pBx at cW;unfold pT q2F at *;generalize (tM F n n).1=ms at *;generalize (tM F n n).2.1=mi at *;generalize (tM F n n).2.2=mv at *;refine qdo qxu Tryz.func59 rfl Tryz.ntmps59 (by kernel_rfl) ?_ ?_ ?_ ?_
 ·intro i b hb; cases hb
 ·intro i b hb
  by_cases hi:i=5000
  ·subst hi; exact ⟨by omega,by omega⟩
  ·rw [q0A hi] at hb; cases hb
 ·exact IdL.of λx hx=>by
   simp at hx
   rcases hx with rfl | rfl
   ·unfold IdP;exact IdL.of λx hx=>by
     simp at hx
     rcases hx with rfl | rfl | rfl | rfl | rfl <;> unfold IdP <;> trivial
   ·unfold IdP; trivial
 have hW:WfH h0:=⟨λi b hb=>by cases hb⟩;rw [hJe];refine wk1 (x2 q0 q1) ?_;refine q0P (λi=>i<=n) [1,2,4,5,6,8] [2,5] Lk Lk (λi:Nat=>[(10,iv i),(9,.ow 1001 none 0 i)]) (λi=>[(1001,⟨3,none,(q86 i).map λz=>iv z,false⟩)]) (λ_=>h0) (λi=>n-i) 0 (zB _) ?_ ?_
 ·refine LeW [(1001,none)] rfl rfl ?_ ?_ (by simp [q0j,q0b,win]) ?_
  ·exact Ow
  ·exact hW
  ·try refine Zz ?_
   first | done | rfl | exact ⟨rfl,rfl⟩
 ·intro i hi;have l1:=q7I i;have l2:=qeH i
  by_cases hlt:i < n
  ·have q:(i:Int) < n:=by omega
   refine wk1 (x2 q l1) ?_;refine ⟨i+1,by omega,by omega,?_⟩;rw [l2];refine LeW [(1001,some 58)] rfl rfl ?_ ?_ (by simp [q0j,q0b,win]) ?_
   ·exact Ow
   ·exact hW
   ·try refine Zz ?_
    omega
  ·obtain rfl:i=n:=by omega
   have q:¬ (i:Int) < i:=by omega
   refine wk1 q ?_;refine q1D (LeW [] rfl rfl (hw:=h0) (xs:=[(1,pF b),(2,.pt 2 0 0),(4,q02),(5,.pt 5 0 0),(6,iv 0),(8,iv i),(9,pI (q86 i))]) (kv:=[]) (bs:=[(2,⟨27,some 5,[.ag [iv i,iv i,pI ms,pI mi,pF mv]],false⟩),(5,⟨37,some 4,[.ag [iv 0,iv 0,q02,q02]],false⟩)]) (kb:=[]) ?_ hW (by simp [q0j,q0b,win]) ?_) ?_
   ·exact Ow
   ·try refine Zz ?_
    refine qni (T:=3) (l:=(q86 i).map λz=>iv z) ?_ clI ?_ (by rw [zM,l1])
    ·try simp -implicitDefEqProofs (disch:=omega) only [go_sem,Nat.reduceEqDiff,Nat.reduceAdd,↓reduceIte]
    ·try simp -implicitDefEqProofs (disch:=omega) only [go_sem,Nat.reduceEqDiff,Nat.reduceAdd,↓reduceIte]
   by_cases g0:e0=0
   rotate_left
   ·have q2:(e0 != 0)=true:=by simpa using g0
    obtain ⟨rfl,rfl,rfl⟩:=hq λq=>g0 q.1;clear cV cW cR;refine wk1 q2 ?_;refine (rtM (rs:=[.tmp 4,.cell 5 37,.tmp 6]) rfl rfl Lq ?_ (.inl rfl));exact LeBn hJ
   subst g0;refine wk ?_;refine qsi λK hK=>?_;refine Zz ?_;refine jmF cV ?_ ?_
   ·exact Ow
   try refine Zz ?_
   refine hK _ _ ?_; clear hK K
   by_cases g2:e2=0
   rotate_left
   ·have q2:(e2 != 0)=true:=by simpa using g2
    obtain ⟨rfl,rfl,rfl⟩:=hq λq=>g2 q.2.1;clear cW cR;refine wk1 q2 ?_;refine (rtM (rs:=[.tmp 4,.cell 5 37,.tmp 6]) rfl rfl Lq ?_ (.inl rfl));exact LeBn hJ
   subst g2
   by_cases g3:e3=0
   rotate_left
   ·have q2:(e3 != 0)=true:=by simpa using g3
    obtain ⟨rfl,rfl,rfl⟩:=hq λq=>g3 q.2.2.1;clear cW;refine wk1 q2 ?_;refine (rtM (rs:=[.tmp 4,.cell 5 37,.tmp 6]) rfl rfl Lq ?_ (.inl rfl));exact LeBn hJ
   subst g3;obtain ⟨rfl,cW⟩:=cW rfl rfl;have tk:yI W.length (W.map λz:Nat=>uv z)=W.map λz:Nat=>uv z:=zG (by simp);cases ok
   ·obtain ⟨rfl,rfl,rfl⟩:=hq λq=>by cases q.2.2.2
    refine wk1 tk ?_;refine (rtM (rs:=[.tmp 4,.cell 5 37,.tmp 6]) rfl rfl Lq ?_ (.inl rfl));exact LeBn hJ
   ·obtain ⟨rfl,rfl,rfl⟩:=hp ⟨rfl,rfl,rfl,rfl⟩;refine wk1 tk ?_;refine (rtM (rs:=[.tmp 4,.cell 5 37,.tmp 6]) rfl rfl Lq ?_ (.inl rfl));refine b5 (a:=5000) hJ ?_ clU λ_=>.tu rfl λi x y hx hy=>?_
    ·try simp -implicitDefEqProofs (disch:=omega) only [go_sem,Nat.reduceEqDiff,Nat.reduceAdd,↓reduceIte]
    ·rcases i with _ | _ | _ | i
     ·cases hx; cases hy; exact .un
     ·cases hx; cases hy;exact .ag rfl λi x y hx hy=>by
       rcases i with _ | _ | _ | _ | i
       ·cases hx; cases hy; exact .cl trivial
       ·cases hx; cases hy; exact .cl trivial
       ·cases hx; cases hy; exact .ow (if_pos rfl) q0L
       ·cases hx; cases hy; exact .cl trivial
       ·simp at hx
     ·cases hx; cases hy; exact .un
     ·simp at hx
end
def sqX (raw:List Nat) (s k x:Nat):Nat:=(x+s*(q5H raw (k:Int) % 1000)) % 18446744073709551616
def sqL (raw:List Nat) (s:Nat) (p:List Nat) (i:Nat):List Nat:=(List.range p.length).map λk=>if k < i then sqX raw s k (p.getD k 0) else p.getD k 0
section
variable {raw p:List Nat} {s i N:Nat} {st sp n:Int} {rg wild:Bool}
def q7T:(sqL raw s p i).length=p.length:=by unfold sqL; simp
def sqL_0:sqL raw s p 0=p:=by
 unfold sqL;refine List.ext_getElem? λk=>?_;rw [zD]
 by_cases h:k < p.length
 ·rw [zF h,zS,if_neg (by omega),zE,zA h]; rfl
 ·rw [zV (by simpa using h),zV (by omega)]; rfl
def qok (h:i < p.length):(sqL raw s p i)[i]?=some (p.getD i 0):=by
 unfold sqL;rw [zD,zF h,zS,if_neg (by omega)]
def sqL_s (h:i < p.length):(sqL raw s p i).set i (sqX raw s i (p.getD i 0))=sqL raw s p (i+1):=by
 refine List.ext_getElem? λk=>?_;rw [List.getElem?_set,q7T];unfold sqL;rw [zD,zD]
 by_cases hk:k < p.length
 ·rw [zF hk,zS,zS]
  by_cases e:i=k
  ·subst e; rw [if_pos rfl,if_pos hk,if_pos (by omega)]
  ·rw [if_neg e]
   by_cases h2:k < i
   ·rw [if_pos h2,if_pos (by omega)]
   ·rw [if_neg h2,if_neg (by omega)]
 ·rw [zV (by simpa using hk),if_neg (by omega)]; rfl
def qfZ (hr:raw.length<=9223372036854775807) (h1 : -9223372036854775808<=n) (h2:n<=9223372036854775807) (h3 : -9223372036854775808<=st) (h4:st<=9223372036854775807) :
  ACt 14 [pF raw,iv n,iv st,bv rg] (.tu [pT (q0d n 5) (q0d n 5) (ckT raw (q0d n 5) st rg),pF (q4y raw 30 (q0d st 4) (q0d n 5))]):=by
 have cM:=q6l (a:=n) (n:=5) h1 h2 Oq Oq;have hN:q0d n 5 < 5:=by unfold q0d; omega
 generalize q0d n 5=N at *;have cG:=q5w (raw:=raw) (st:=st) (R:=N) (C:=N) hr Oq Oq h3 h4;have cR:=qdC (raw:=raw) (st:=st) (n:=N) hr Oq h3 h4;have cV:=qeF (raw:=raw) (k:=30) (st:=st) (n:=N) hr Oq Oq Oq h3 h4;have e1:rg=false->ckT raw N st rg=gF raw N (q0d st 4):=λq=>by subst q; rfl
 have e2:rg=true->ckT raw N st rg=rgF (gF raw N (q0d (q0d st 3:Nat) 4)) N:=λq=>by subst q; rfl
 generalize q4y raw 30 (q0d st 4) N=y at *;cases rg
 ·rw [e1 rfl];clear e1 e2 cR;generalize gF raw N (q0d st 4)=F at *;unfold pT q2F at *;refine ac0 Tryz.func14 Tryz.ntmps14 [.cell 8 27,.tmp 9] ?_;exact wk trivial
 ·rw [e2 rfl];clear e1 e2 cG;generalize rgF (gF raw N (q0d (q0d st 3:Nat) 4)) N=F at *;unfold pT q2F at *;refine ac0 Tryz.func14 Tryz.ntmps14 [.cell 8 27,.tmp 9] ?_;exact wk trivial
def PfOk (raw:List Nat) (F:Nat->Nat->Option Nat) (n s:Nat) (w y:List Nat):Prop:=y.length=n/\q03 y/\∃ v,w=sqL raw s v v.length/\v.length=n*n/\((q03 v/\¬ q2T<=grZ (btL n v F))\/v=q4y raw 500 (q0d 2 4) (n*n)\/n=0)
def qp3 {F:Nat->Nat->Option Nat} {n:Nat} {b:List Nat} (hr:raw.length<=9223372036854775807) (h5 : -9223372036854775808<=sp) (h6:sp<=9223372036854775807) (h:TOk F n n) (hn:n<=4) (hb:q03 b) (hbl:b.length=n) :
  ∃ w y,PfOk raw F n (q0d sp 4) w y/\qdi 15 [pT n n F,pF b,pF raw,iv sp,bv wild] h0 (pBo n w y) (q0Q h0 5000 ⟨33,none,w.map λz:Nat=>uv z,false⟩):=by
 have hJ:∀ i,¬ (h0 i≠none):=λi h=>h rfl;have hJe:(λi=>(h0:Hp) i≠none)=λ_=>False:=funext λi=>eq_false (hJ i);have cS:=q6l (a:=sp) (n:=4) h5 h6 Oq Oq;have hs:q0d sp 4 < 4:=by unfold q0d; omega
 generalize q0d sp 4=s at *;obtain ⟨M,V,Z,hB,cB⟩:=qtW h Oq hb hbl;have cP:=qf0 (raw:=raw) (r:=n) (c:=n) (st:=2) hr Oq Oq Oq Oq;have cV:=qeF (raw:=raw) (k:=8) (st:=0) (n:=n) hr Oq Oq Oq Oq Oq;have hVl:=q3B (raw:=raw) (k:=500) (st:=q0d 2 4) (n:=n*n);have hVf:=q52 (raw:=raw) (k:=500) (st:=q0d 2 4) (n:=n*n);have hYl:=q3B (raw:=raw) (k:=8) (st:=q0d 0 4) (n:=n);have hYf:=q52 (raw:=raw) (k:=8) (st:=q0d 0 4) (n:=n);have hres:∃ v y,PfOk raw F n s (sqL raw s v v.length) y/\v.length=n*n/\(∀ x ∈ v,x < 18446744073709551616)/\((wild=true\/Z.length≠n)->v=q4y raw 500 (q0d 2 4) (n*n)/\y=q4y raw 8 (q0d 0 4) n)/\(¬ (wild=true\/Z.length≠n)->M=n/\v=V/\y=Z):=by
  by_cases c:wild=true\/Z.length≠n
  ·exact ⟨_,_,⟨hYl,λx hx=>hYf x hx,_,rfl,hVl,.inr (.inl rfl)⟩,hVl,λx hx=>(hVf x hx).1,λ_=>⟨rfl,rfl⟩,λq=>(q c).elim⟩
  ·have hz:Z.length=n:=Classical.not_not.1 λq=>c (.inr q)
   rcases hB with ⟨b1,b2,b3,b4,b5,b6⟩ | ⟨b1,b2,b3⟩
   ·exact ⟨V,Z,⟨b4,b5,V,rfl,b2,.inl ⟨b3,b6⟩⟩,b2,λx hx=>(b3 x hx).1,λq=>(c q).elim,λ_=>⟨b1,rfl,rfl⟩⟩
   ·subst b2 b3;have hn0:n=0:=hz.symm;subst hn0;exact ⟨[],[],⟨rfl,λx hx=>(by cases hx),[],rfl,rfl,.inr (.inr rfl)⟩,rfl,λx hx=>(by cases hx),λq=>(c q).elim,λ_=>⟨b1,rfl,rfl⟩⟩
 obtain ⟨p,y,hpf,hpl,hpu,hp1,hp2⟩:=hres;refine ⟨_,y,hpf,?_⟩;have hMl:M*0=0:=Nat.mul_zero M;have hyl:=hpf.1;clear hpf hB hVf hYf hMl;generalize q4y raw 500 (q0d 2 4) (n*n)=VV at *;generalize q4y raw 8 (q0d 0 4) n=YY at *;have hNN:n*n<=4*4:=zO Oq Oq;have hql:(sqL raw s p p.length).length=n*n:=by rw [q7T]; exact hpl
 unfold pBo;rw [hql];unfold pT q2F at *;generalize (tM F n n).1=ms at *;generalize (tM F n n).2.1=mi at *;generalize (tM F n n).2.2=mv at *;refine qdo qxw Tryz.func15 rfl Tryz.ntmps15 (by kernel_rfl) ?_ ?_ ?_ ?_
 ·intro i b hb; cases hb
 ·intro i b hb
  by_cases hi:i=5000
  ·subst hi; exact ⟨by omega,by omega⟩
  ·rw [q0A hi] at hb; cases hb
 ·exact IdL.of λx hx=>by
   simp at hx
   rcases hx with rfl | rfl | rfl | rfl | rfl <;> unfold IdP
   ·exact IdL.of λx hx=>by
     simp at hx
     rcases hx with rfl | rfl | rfl | rfl | rfl <;> unfold IdP <;> trivial
   all_goals trivial
 rw [hJe];refine wk ?_;refine qsi λK hK=>?_;refine Zz ?_;refine jmF cB ?_ ?_
 ·exact Ow
 try refine Zz ?_
 refine hK _ _ ?_; clear hK K;refine wk ?_;refine qsj λK hK=>?_;have q4Y:∀ (s0:Nat->PV) (h:Hp),Le (λ_=>False) s0 h (stM [(2,pF raw),(3,iv sp),(10,.pt 10 0 0),(12,.pt 12 0 0)] []) (q0y (q0Q h0 5000 ⟨33,none,p.map λz:Nat=>uv z,false⟩) (hpM [(10,⟨37,some 4,[.ag [iv 0,iv 0,q02,q02]],false⟩),(12,⟨37,some 4,[.ag [iv n,iv n,.ow 5000 none 0 (n*n),pF y]],false⟩)] []))->K s0 h:=by
  intro s0 h hl;refine hK _ _ (q1D hl ?_); clear hK K hl;refine wk ?_;refine q0P (λi=>i<=n*n) [2,3,10,12] [10,12] Lk Lk (λi:Nat=>[(14,iv i)]) (λ_=>[]) (λi=>q0Q h0 5000 ⟨33,none,(sqL raw s p i).map λz:Nat=>uv z,false⟩) (λi=>n*n-i) 0 (zB _) ?_ ?_
  ·rw [sqL_0];refine LeW [] rfl rfl ?_ ?_ (by simp [q0j,q0b,win]) ?_
   ·exact Ow
   ·exact qsq _
   ·try refine Zz ?_
    rfl
  ·intro i hi
   by_cases hlt:i < n*n
   ·have q:(i:Int) < ((n*n:Nat):Int):=by omega
    have C1:=q7F (raw:=raw) (k:=(i:Int)) hr Oq Oq;have l1:=q7T (raw:=raw) (s:=s) (p:=p) (i:=i);have l2:=qok (raw:=raw) (s:=s) (p:=p) (i:=i) Oq;have l3:=sqL_s (raw:=raw) (s:=s) (p:=p) (i:=i) Oq;have hx:p.getD i 0 < 18446744073709551616:=by
     rw [zE,zA (by omega)];exact hpu _ (zQ _)
    have e1:((q5H raw (i:Int):Nat):Int).tmod 1000=((q5H raw (i:Int) % 1000:Nat):Int):=rfl;have e6:sqX raw s i (p.getD i 0)=(p.getD i 0+s*(q5H raw (i:Int) % 1000)) % 18446744073709551616:=rfl;have hw:=q2M raw (i:Int);generalize sqL raw s p i=P at *;generalize p.getD i 0=x at *;generalize sqX raw s i x=y' at *;generalize q5H raw (i:Int)=w at *;obtain ⟨m,hm⟩:∃ m,m=w % 1000:=⟨_,rfl⟩;rw [<- hm] at e1 e6;have hmm:m < 1000:=by omega
    have e2:IntKind.i64.wrap ((m:Nat):Int)=(m:Int):=i64_in Oq Oq;have hsm:s*m<=3*1000:=zO Oq Oq;have e3:IntKind.i64.wrap ((s:Int)*(m:Int))=((s*m:Nat):Int):=by rw [<- Int.natCast_mul,i64_in (by omega) (by omega)]
    have e4:IntKind.u64.wrap ((s*m:Nat):Int)=((s*m:Nat):Int):=u64_in Oq Oq;have e5:IntKind.u64.wrap ((x:Int)+((s*m:Nat):Int))=((y':Nat):Int):=by rw [q0q,e6]; omega
    have N1:Nz (uv (w:Nat)):=qdL;have N2:Nz (iv (s:Nat)):=qdL;generalize s*m=sm at *;refine wk1 (x6 q l1 l2 e1 e2 (x3 e3 e4 e5)) ?_;refine ⟨i+1,by omega,by omega,?_⟩;rw [<- l3];refine LeW [] rfl rfl ?_ ?_ (by simp [q0j,q0b,win]) ?_
    ·intro c hc
     by_cases ec:c=5000
     ·subst ec;rw [q0L,q0L,List.map_set]
     ·rw [q0A ec,q0W hc,q0A ec,q0A ec]
    ·exact qsq _
    ·try refine Zz ?_
     omega
   ·obtain rfl:i=n*n:=by omega
    have q:¬ ((n*n:Nat):Int) < ((n*n:Nat):Int):=by omega
    rw [hpl];refine wk1 q ?_;refine (rtM (rs:=[.cell 10 37]) rfl rfl Lq ?_ (.inl rfl));refine LeF ?_ (λi b hb=>?_) (qsq _) (.ag rfl λi x y hx hy=>?_)
    ·exact Ow
    ·by_cases hi:i=5000
     ·subst hi; exact ⟨by omega,by omega⟩
     ·rw [q0A hi] at hb; cases hb
    ·rcases i with _ | _ | _ | _ | i
     ·cases hx; cases hy; exact .cl trivial
     ·cases hx; cases hy; exact .cl trivial
     ·cases hx; cases hy; exact .ow rfl q0L
     ·cases hx; cases hy; exact .cl trivial
     ·simp at hx
 by_cases c:wild=true\/Z.length≠n
 rotate_left
 ·obtain ⟨rfl,rfl,rfl⟩:=hp2 c;obtain rfl:wild=false:=by
   cases wild
   ·rfl
   ·exact (c (.inl rfl)).elim
  have q3:((p.length:Int) != (p.length:Int))=false:=by simp
  have q4:((y.length:Int) != (M:Int))=false:=by simp; omega
  refine wk1 q4 ?_;refine q4Y _ _ ?_;rw [<- hpl];refine LeW [] rfl rfl ?_ ?_ (by simp [q0j,q0b,win]) ?_
  ·exact Ow
  ·exact qsq _
  ·try simp -implicitDefEqProofs (disch:=omega) only [go_sem,Nat.reduceEqDiff,Nat.reduceAdd,↓reduceIte]
 ·obtain ⟨rfl,rfl⟩:=hp1 c;cases wild
  ·have q4:((Z.length:Int) != (n:Int))=true:=by
    rcases c with c | c
    ·cases c
    ·simp; omega
   refine wk1 q4 ?_;refine q1D (LeM [] rfl rfl (xs:=[(2,pF raw),(3,iv sp),(5,.pt 5 0 0),(10,.pt 10 0 0),(12,.pt 12 0 0)]) (kv:=[]) (bs:=[(5,⟨27,some 5,[.ag [iv n,iv n,pI ms,pI mi,pF mv]],false⟩),(10,⟨37,some 4,[.ag [iv 0,iv 0,q02,q02]],false⟩),(12,⟨37,some 4,[.un],false⟩)]) (kb:=[]) ?_) ?_
   ·try simp -implicitDefEqProofs (disch:=omega) only [go_sem,Nat.reduceEqDiff,Nat.reduceAdd,↓reduceIte]
   refine qce q5B (.one 0 (.one 1 (.one 3 (.one 6 (.one 7 (.alt (.one 2 (.alt (.one 4 (.alt (.one 5 (.one 8 (.one 9 (.one 10 (.one 11 .fin))))) (.one 8 (.one 5 (.one 9 (.one 10 (.one 11 .fin))))))) (.one 8 (.one 4 (.one 5 (.one 9 (.one 10 (.one 11 .fin)))))))) (.alt (.one 4 (.alt (.one 2 (.alt (.one 5 (.one 8 (.one 9 (.one 10 (.one 11 .fin))))) (.one 8 (.one 5 (.one 9 (.one 10 (.one 11 .fin))))))) (.one 8 (.one 2 (.one 5 (.one 9 (.one 10 (.one 11 .fin)))))))) (.one 8 (.alt (.one 2 (.one 4 (.one 5 (.one 9 (.one 10 (.one 11 .fin)))))) (.one 4 (.one 2 (.one 5 (.one 9 (.one 10 (.one 11 .fin))))))))))))))) (by kernel_rfl) λK9 hK9=>?_;refine Zz ?_
   repeat' (with_reducible apply And.intro)
   all_goals
    refine jmF cP ?_ ?_
    ·exact Ow
    try refine Zz ?_
    refine jc ?_
    try refine Zz ?_
    refine q0R cV ?_
    try refine Zz ?_
    refine hK9 _ _ (q4Y _ _ ?_);refine LeW [] rfl rfl ?_ ?_ (by simp [q0j,q0b,win]) ?_
    ·exact Ow
    ·exact qsq _
    ·try simp -implicitDefEqProofs (disch:=omega) only [go_sem,Nat.reduceEqDiff,Nat.reduceAdd,↓reduceIte]
  ·refine wk ?_;refine q1D (LeM [] rfl rfl (xs:=[(2,pF raw),(3,iv sp),(5,.pt 5 0 0),(10,.pt 10 0 0),(12,.pt 12 0 0)]) (kv:=[]) (bs:=[(5,⟨27,some 5,[.ag [iv n,iv n,pI ms,pI mi,pF mv]],false⟩),(10,⟨37,some 4,[.ag [iv 0,iv 0,q02,q02]],false⟩),(12,⟨37,some 4,[.un],false⟩)]) (kb:=[]) ?_) ?_
   ·try simp -implicitDefEqProofs (disch:=omega) only [go_sem,Nat.reduceEqDiff,Nat.reduceAdd,↓reduceIte]
   refine qce q5B (.one 0 (.one 1 (.one 3 (.one 6 (.one 7 (.alt (.one 2 (.alt (.one 4 (.alt (.one 5 (.one 8 (.one 9 (.one 10 (.one 11 .fin))))) (.one 8 (.one 5 (.one 9 (.one 10 (.one 11 .fin))))))) (.one 8 (.one 4 (.one 5 (.one 9 (.one 10 (.one 11 .fin)))))))) (.alt (.one 4 (.alt (.one 2 (.alt (.one 5 (.one 8 (.one 9 (.one 10 (.one 11 .fin))))) (.one 8 (.one 5 (.one 9 (.one 10 (.one 11 .fin))))))) (.one 8 (.one 2 (.one 5 (.one 9 (.one 10 (.one 11 .fin)))))))) (.one 8 (.alt (.one 2 (.one 4 (.one 5 (.one 9 (.one 10 (.one 11 .fin)))))) (.one 4 (.one 2 (.one 5 (.one 9 (.one 10 (.one 11 .fin))))))))))))))) (by kernel_rfl) λK9 hK9=>?_;refine Zz ?_
   repeat' (with_reducible apply And.intro)
   all_goals
    refine jmF cP ?_ ?_
    ·exact Ow
    try refine Zz ?_
    refine jc ?_
    try refine Zz ?_
    refine q0R cV ?_
    try refine Zz ?_
    refine hK9 _ _ (q4Y _ _ ?_);refine LeW [] rfl rfl ?_ ?_ (by simp [q0j,q0b,win]) ?_
    ·exact Ow
    ·exact qsq _
    ·try simp -implicitDefEqProofs (disch:=omega) only [go_sem,Nat.reduceEqDiff,Nat.reduceAdd,↓reduceIte]
end
def qqu {mode:Int} {z y s:Nat} (hz:0 < z) (hy:0 < y):fQ mode ((z:Int)*(2:Int) ^ s) ((y:Int)*(2:Int) ^ s)=rF mode false z y:=by
 have hp:=q0K s;have h1:0 < (z:Int)*(2:Int) ^ s:=z7 Oq hp;have h2:0 < (y:Int)*(2:Int) ^ s:=z7 Oq hp;unfold fQ;rw [if_neg (by omega),decide_eq_false (by omega),decide_eq_false (by omega),q0G,q0G,zP,zP];exact q3s hz hy (q0E _)
def q6R (f:Nat):Nat->Nat->Option Nat:=λj i=>if j=0 then (if i=0 then some f else none) else none
section
variable {K f1 f3 t r:Nat}
def aw41 (hK:K=65536) (u1:q0I f1) (u3:q0I f3) (ut:q0I t) (ur:r < 18446744073709551616/\q0I r) (o1:ofZ f1=(2:Int) ^ K) (o3:ofZ f3=3*(2:Int) ^ K) (ot:ofZ t=6004799503160661*(2:Int) ^ (K-54)) (or:ofZ r=6004799503160662*(2:Int) ^ (K-108))
  (hr:rF 2 false 6004799503160661 (18014398509481983*2 ^ 54)=r):vrX (q6R f3) 1 [f1] [t] 0=(2:Int) ^ (K-54)/\vfG (q6R f3) 1 [t]=18014398509481983*(2:Int) ^ (K-54)/\vfN (q6R f3) 1 [t] [f1] [t] 0=6004799503160661*(2:Int) ^ (K-108)/\fQ 2 (vfN (q6R f3) 1 [t] [f1] [t] 0) (vfG (q6R f3) 1 [t])=r:=by
 have e1:q2T=(2:Int) ^ K:=by rw [qbc,hK]
 obtain ⟨P,hP⟩:∃ P:Int,P=(2:Int) ^ (K-162):=⟨_,rfl⟩;have hPp:0 < P:=by rw [hP]; exact q0K _
 have p108:(2:Int) ^ (K-108)=18014398509481984*P:=by
  rw [hP,show (18014398509481984:Int)=(2:Int) ^ 54 from by decide,<- zJ]; congr 1; omega
 have p54:(2:Int) ^ (K-54)=18014398509481984*(18014398509481984*P):=by
  rw [<- p108,show (18014398509481984:Int)=(2:Int) ^ 54 from by decide,<- zJ]; congr 1; omega
 have pK:(2:Int) ^ K=18014398509481984*(18014398509481984*(18014398509481984*P)):=by
  rw [<- p54,show (18014398509481984:Int)=(2:Int) ^ 54 from by decide,<- zJ]; congr 1; omega
 have pp:∀ a b s u:Int,a*s*(b*u)=a*b*(s*u):=λa b s u=>by rw [zI,zI,Int.mul_left_comm s b u]
 have m1:q1P t f3=18014398509481983*(2:Int) ^ (K-54):=qvp hK ut u3 (by
  rw [ot,o3];generalize (2:Int) ^ (K-54)=a;generalize (2:Int) ^ K=c;rw [pp,show (6004799503160661:Int)*3=18014398509481983 from by decide,zI])
 have m2:q1P f3 t=18014398509481983*(2:Int) ^ (K-54):=by rw [qmc]; exact m1
 have dK:∀ m:Nat,m<=K->∀ a:Nat,bl a<=60000->q0U ((a:Int)*(2:Int) ^ m):=λm hm a ha=>by
  unfold q0U;rw [q0G,zP]
  by_cases h0:a=0
  ·subst h0; rw [zX,q07]; omega
  ·rw [q0z h0]; omega
 have pz:∀ (a b V:Int),q0U V->a*b=V*(2:Int) ^ K->prZ a b=V:=λa b V hV e=>by
  unfold prZ;rw [e,hK,q7j hV]; rfl
 have b1:bl 6004799503160661<=60000:=yG (q0N (k:=53) (by decide)) Oq;have b2:bl (6004799503160661*18014398509481983)<=60000:=yG (q0N (k:=200) (by decide)) Oq;have hE:btE 1 [t] (q6R f3) 0 0=(2:Int) ^ (K-54):=by
  show (if 0=0 then q2T else 0)-(0+q1P t f3)=_
  rw [if_pos rfl,e1,m1,pK,p54];omega
 have hZ:btZ 1 [t] (q6R f3) 0=(2:Int) ^ (K-54):=by
  show 0+(((btE 1 [t] (q6R f3) 0 0).natAbs:Nat):Int)=_
  rw [hE];have:=q0K (K-54);omega
 have hL:grZ (btL 1 [t] (q6R f3))=(2:Int) ^ (K-54):=by
  show max 0 (btZ 1 [t] (q6R f3) 0)=_
  rw [hZ];have:=q0K (K-54);omega
 have hG:vfG (q6R f3) 1 [t]=18014398509481983*(2:Int) ^ (K-54):=by
  unfold vfG;rw [hL,e1,pK,p54];omega
 have hR:vrX (q6R f3) 1 [f1] [t] 0=(2:Int) ^ (K-54):=by
  show ofZ f1-(0+q1P f3 t)=_
  rw [o1,m2,pK,p54];omega
 have hD:vdX 1 [t] (vrX (q6R f3) 1 [f1] [t]) 0=6004799503160661*(2:Int) ^ (K-108):=by
  show (((0+prZ (ofZ t) (vrX (q6R f3) 1 [f1] [t] 0)).natAbs:Nat):Int)=_
  rw [hR,ot,pz _ _ (6004799503160661*(2:Int) ^ (K-108)) (dK (K-108) (by omega) 6004799503160661 b1) (by
   rw [zI,zI,<- zJ,<- zJ]; congr 2; omega)]
  have:=q0K (K-108);omega
 have hM:grZ (vfD (q6R f3) 1 [t] [f1] [t])=6004799503160661*(2:Int) ^ (K-108):=by
  show max 0 (vdX 1 [t] (vrX (q6R f3) 1 [f1] [t]) 0)=_
  rw [hD];have:=q0K (K-108);omega
 have hN:vfN (q6R f3) 1 [t] [f1] [t] 0=6004799503160661*(2:Int) ^ (K-108):=by
  unfold vfN vnX;rw [hD,hG,hZ,hM];have a1:prZ (6004799503160661*(2:Int) ^ (K-108)) (18014398509481983*(2:Int) ^ (K-54))=((6004799503160661*18014398509481983:Nat):Int)*(2:Int) ^ (K-162):=pz _ _ _ (dK (K-162) Oq _ b2) (by
   rw [pp,<- zJ,show K-108+(K-54)=K-162+K by omega,zJ,<- zI]; rfl)
  have a2:prZ ((2:Int) ^ (K-54)) (6004799503160661*(2:Int) ^ (K-108))=((6004799503160661:Nat):Int)*(2:Int) ^ (K-162):=pz _ _ _ (dK (K-162) Oq _ b1) (by
   rw [Int.mul_left_comm,<- zJ,show K-54+(K-108)=K-162+K by omega,zJ,<- zI]; rfl)
  rw [a1,a2,p108,<- hP];omega
 refine ⟨hR,hG,hN,?_⟩;rw [hN,hG,<- hr,show (18014398509481983:Int)*(2:Int) ^ (K-54)=((18014398509481983*2 ^ 54:Nat):Int)*(2:Int) ^ (K-108) by rw [p54,<- p108,show ((18014398509481983*2 ^ 54:Nat):Int)=18014398509481983*18014398509481984 from by decide,zI]];exact qqu (z:=6004799503160661) (by decide) (by decide)
def aw41b (hK:K=65536) (ut:q0I t) (ur:r < 18446744073709551616/\q0I r) (ot:ofZ t=6004799503160661*(2:Int) ^ (K-54)) (or:ofZ r=6004799503160662*(2:Int) ^ (K-108)) (ta:q3T t≠0) {lo hi:Nat}
  (hlo:rF 1 false (6004799503160661*18014398509481984-6004799503160662) (2 ^ 108)=lo) (hhi:rF 2 false (6004799503160661*18014398509481984+6004799503160662) (2 ^ 108)=hi):q9t 1 t r=lo/\q4v 2 t r=hi:=by
 have hp:=q0K (K-108);have p54:(2:Int) ^ (K-54)=18014398509481984*(2:Int) ^ (K-108):=by
  rw [show (18014398509481984:Int)=(2:Int) ^ 54 from by decide,<- zJ]; congr 1; omega
 have hon:ofZ (q5P r) = -ofZ r:=qbd ur.1 ur.2;have hs:(2:Int) ^ K=((2 ^ 108:Nat):Int)*(2:Int) ^ (K-108):=by
  rw [q0V,<- zJ]; congr 1; omega
 constructor
 ·unfold q9t q4v;rw [if_neg (not_not_intro ((qbg ur.1).2 ur.2)),if_neg λq=>ta q.1,hon,ot,or,p54];have e:6004799503160661*(18014398509481984*(2:Int) ^ (K-108)) + -(6004799503160662*(2:Int) ^ (K-108))=((6004799503160661*18014398509481984-6004799503160662:Nat):Int)*(2:Int) ^ (K-108):=by
   rw [show ((6004799503160661*18014398509481984-6004799503160662:Nat):Int)=6004799503160661*18014398509481984-6004799503160662 from by decide];omega
  rw [e,if_neg (by
   have:0 < ((6004799503160661*18014398509481984-6004799503160662:Nat):Int)*(2:Int) ^ (K-108):=z7 (by decide) hp;omega),qka hK,hs,qqu (by decide) (by decide),hlo]
 ·unfold q4v;rw [if_neg (not_not_intro ur.2),if_neg λq=>ta q.1,ot,or,p54];have e:6004799503160661*(18014398509481984*(2:Int) ^ (K-108))+6004799503160662*(2:Int) ^ (K-108)=((6004799503160661*18014398509481984+6004799503160662:Nat):Int)*(2:Int) ^ (K-108):=by
   rw [show ((6004799503160661*18014398509481984+6004799503160662:Nat):Int)=6004799503160661*18014398509481984+6004799503160662 from by decide];omega
  rw [e,if_neg (by
   have:0 < ((6004799503160661*18014398509481984+6004799503160662:Nat):Int)*(2:Int) ^ (K-108):=z7 (by decide) hp;omega),qka hK,hs,qqu (by decide) (by decide),hhi]
end
def q6w {T id n:Nat} {h h':Hp} {l:List PV} (h1:h id=some ⟨T,none,l,false⟩) (hc:ClL l) (h2:h' id=none) (hn:l.length=n):LeV (q0b []) h h' (.ow id none 0 n) (.sl none l):=q6P (T:=T) (l:=l) h1 hc (λi hi=>by
 have hi:some i=some id:=hi;cases hi;exact h2) (by rw [uY]; exact zG (by omega))
def qwS {y:PV}:q99 (some 2) (.sl (some 2) [y]) (iv 0)=some (.qt (some 2) y):=by
 unfold q99;simp [ksz]
def vfL_1 {F:Nat->Nat->Option Nat} {v b z:List Nat}:vfL F 1 v b z 1=[vIv (z.getD 0 0) (vfN F 1 v b z 0) (vfG F 1 v)]:=rfl
def qda:ACt 19 [] (bv true):=by
 obtain ⟨K,hK⟩:∃ K:Nat,K=65536:=⟨_,rfl⟩;have p52:(4503599627370496:Int)=(2:Int) ^ 52:=by decide
 have o1:ofZ 4607182418800017408=(2:Int) ^ K:=by
  rw [qjV (m:=4503599627370496) (e:=1023) (by omega) (by omega) (by omega) (by omega) (by omega),show (((4503599627370496:Nat):Int))=(2:Int) ^ 52 from p52,<- zJ,show 52+(64461+1023)=K by omega]
 have o3:ofZ 4613937818241073152=3*(2:Int) ^ K:=by
  rw [qjV (m:=6755399441055744) (e:=1024) (by omega) (by omega) (by omega) (by omega) (by omega),show (((6755399441055744:Nat):Int))=3*(2:Int) ^ 51 from by decide,zI,<- zJ,show 51+(64461+1024)=K by omega]
 have ot:ofZ 4599676419421066581=6004799503160661*(2:Int) ^ (K-54):=by
  rw [qjV (m:=6004799503160661) (e:=1021) (by omega) (by omega) (by omega) (by omega) (by omega),show 64461+1021=K-54 by omega]; rfl
 have or:ofZ 4356482039543059798=6004799503160662*(2:Int) ^ (K-108):=by
  rw [qjV (m:=6004799503160662) (e:=967) (by omega) (by omega) (by omega) (by omega) (by omega),show 64461+967=K-108 by omega]; rfl
 have hr:rF 2 false 6004799503160661 (18014398509481983*2 ^ 54)=4356482039543059798:=by kernel_rfl
 have hlo:rF 1 false (6004799503160661*18014398509481984-6004799503160662) (2 ^ 108)=4599676419421066580:=by kernel_rfl
 have hhi:rF 2 false (6004799503160661*18014398509481984+6004799503160662) (2 ^ 108)=4599676419421066582:=by kernel_rfl
 have z3:rF 0 false 3 1=4613937818241073152:=by kernel_rfl
 have f3:flz 3=4613937818241073152:=by
  have h1:=fR_u (z:=3) (K:=65536) (s:=0) rfl Oq Oq;have h2:fR 0 (((3:Nat):Int)*(2:Int) ^ (65536-0))=flz 3:=rfl;rw [<- h2,h1];exact z3
 obtain ⟨r1,r2,r3,r4⟩:=aw41 (f1:=4607182418800017408) (f3:=4613937818241073152) (t:=4599676419421066581) (r:=4356482039543059798) hK (by unfold q0I; omega) (by unfold q0I; omega) (by unfold q0I; omega) ⟨by omega,by unfold q0I; omega⟩ o1 o3 ot or hr;obtain ⟨s1,s2⟩:=aw41b (t:=4599676419421066581) (r:=4356482039543059798) hK (by unfold q0I; omega) ⟨by omega,by unfold q0I; omega⟩ ot or (by unfold q3T; omega) hlo hhi;have hm:TOk (q6R 4613937818241073152) 1 1:=by
  refine ⟨by omega,by omega,by omega,λj i x _ _ h=>?_,λj i x _ _ h=>?_⟩
  all_goals
   unfold q6R at h
   split at h
   ·split at h
    ·cases h; first | omega | (unfold q0I; omega)
    ·cases h
   ·cases h
 have hv:vfO (q6R 4613937818241073152) 1 [4599676419421066581] [4607182418800017408] [4599676419421066581]=([(4599676419421066580,4599676419421066582)],true):=by
  have hg:¬ q2T<=grZ (btL 1 [4599676419421066581] (q6R 4613937818241073152)):=λh=>by
   have h1:=r2;unfold vfG at h1;have hp:=q0K (K-54);generalize grZ (btL 1 [4599676419421066581] (q6R 4613937818241073152))=g at h h1;generalize q2T=o at h h1;generalize (2:Int) ^ (K-54)=c at hp h1;omega
  unfold vfO;rw [if_neg hg,vfL_1,show ([4599676419421066581]:List Nat).getD 0 0=4599676419421066581 from rfl];unfold vIv;rw [r4,s1,s2]
 have C1:ACt 73 [iv 3,iv 0] (uv (4613937818241073152:Nat)):=by
  rw [<- f3];exact q6h (z:=3) (mode:=0) Oq Oq (q7i (by have:=q0N (n:=(3:Int).natAbs) (k:=4) (by decide); omega))
 have C2:=q6p (v:=[4599676419421066581]) (b:=[4607182418800017408]) (z:=[4599676419421066581]) hm (by omega) rfl (λx hx=>by simp at hx; subst hx; exact ⟨by omega,by unfold q0I; omega⟩) (λx hx=>by simp at hx; subst hx; exact ⟨by omega,by unfold q0I; omega⟩) rfl (λx hx=>by simp at hx; subst hx; exact ⟨by omega,by unfold q0I; omega⟩) rfl;rw [hv] at C2;clear hv hm r1 r2 r3 r4 s1 s2 hr hlo hhi z3 f3 o1 o3 ot or p52;have D1:ACt 73 [iv 3,iv 0] (uv 4613937818241073152):=C1;have D2:ACt 27 [.ag [iv 1,iv 1,.sl none [iv 0,iv 1],.sl none [iv 0],.sl none [uv 4613937818241073152]],.sl none [uv 4607182418800017408],.ag [iv 1,iv 1,.sl none [uv 4599676419421066581],.sl none [uv 4599676419421066581]]] (.tu [.sl (some 2) [.ag [uv 4599676419421066580,uv 4599676419421066582]],bv true,iv 0]):=C2;clear C1 C2;have b1:((4599676419421066580:Int) == 4599676419421066580)=true:=by decide
 have b2:((4599676419421066582:Int) == 4599676419421066582)=true:=by decide
 have b3:((0:Int) == 0)=true:=rfl;have b4:((1:Int) == 1)=true:=rfl;have w1:IntKind.u64.wrap (4599676419421066581-1)=4599676419421066580:=rfl;have w2:IntKind.u64.wrap (4599676419421066581+1)=4599676419421066582:=rfl;refine ac0 Tryz.func19 Tryz.ntmps19 [.tmp 0] ?_;refine wk ?_;refine q32 λK0 hK0=>?_;refine qaz 8 λK hK=>?_;rw [zK,zK,zK,zK,zK,zK,zK,zK,List.take_zero,zL,zL,zL,zL,zL,zL,zL,zL,uY]
 try refine Zz ?_
 refine ⟨_,_,LeM [] rfl rfl (xs:=[(2,uv 4599676419421066581),(12,.ag [iv 1,iv 1,.sl none [iv 0,iv 1],.sl none [iv 0],.sl none [uv 4613937818241073152]]),(13,.sl none [uv 4607182418800017408]),(19,.ag [iv 1,iv 1,.sl none [uv 4599676419421066581],.sl none [uv 4599676419421066581]])]) (kv:=[]) (bs:=[]) (kb:=[]) ?_,?_⟩
 ·try refine Zz ?_
  exact ⟨⟨q6w rfl (clI (l:=[0,1])) rfl rfl,q6w rfl (clI (l:=[0])) rfl rfl,q6w rfl (clU (l:=[4613937818241073152])) rfl rfl⟩,q6w rfl (clU (l:=[4607182418800017408])) rfl rfl,q6w rfl (clU (l:=[4599676419421066581])) rfl rfl,q6w rfl (clU (l:=[4599676419421066581])) rfl rfl⟩
 try refine Zz ?_
 refine q0R D2 ?_
 try refine Zz ?_
 refine hK _ _ ?_;refine hK0 _ _ ?_;clear hK hK0 K K0;exact wk1 (x6 b1 b2 b3 b4 w1 (x2 w2 @qwS)) trivial
section
variable {K:KwT}
end
end Go.Proofs.YtpbaikoblfcmdaaGreatDoor
namespace Go.Sp
open Go Go.E Go.Proofs.YtpbaikoblfcmdaaGreatDoor
end Go.Sp
namespace Go.Proofs.YtpbaikoblfcmdaaGreatDoor
open Go Go.E Go.Sp
section
variable {n:Nat} {o:List Int} {vs:List Nat}
end
section
variable {n U:Nat} {o:List Int} {vs b:List Nat} {h:Nat->Nat} {c:Nat->Int} {f:Nat->Nat->Option Nat}
end

def q91 {m:Int} {a b:Nat} (ha:q08 a≠3) (hb:q08 b≠3):q08 (q4v m a b)≠3:=by
 unfold q4v
 split
 ·exact hb
 ·split
  ·exact ha
  ·split
   ·split <;> decide
   ·exact qqr
section
variable {raw b:List Nat} {wd k:Int} {v N:Nat} {F:Nat->Nat->Option Nat}
end
open Go.Dt
section
variable {raw w y b:List Nat} {n K s i:Nat} {st:Int} {rg:Bool} {F:Nat->Nat->Option Nat}
def qxl {k:Nat} (hn:n<=4) (hk:k < 3) {j i:Nat} (hi:i < n):gok (2 ^ 100) ((ckT raw n (k:Nat) rg j i).getD 0):=by
 have e1:q0d ((k:Nat):Int) 3=k:=by unfold q0d; omega
 have e2:q0d ((k:Nat):Int) 4=k:=by unfold q0d; omega
 unfold ckT;rw [e1,e2]
 split
 ·exact qpM hn hk hi
 ·exact (qgX hk).mono Oq
def qoo {v:List Nat} (hl:v.length=n*n) (h:∀ i k,i < n->k < n->sml (v.getD (k*n+i) 0)):∀ x ∈ v,sml x:=λx hx=>by
 obtain ⟨t,ht,rfl⟩:=List.getElem_of_mem hx;rw [hl] at ht;have hn:0 < n:=by
  rcases Nat.eq_zero_or_pos n with h0 | h0
  ·subst h0; omega
  ·exact h0
 have h1:=h (t % n) (t / n) (Nat.mod_lt _ hn) (by rw [Nat.div_lt_iff_lt_mul hn]; exact ht);rw [Nat.div_add_mod' t n,zE,zA (by omega)] at h1;exact h1
def qif {v:List Nat} (hs:s < 4) (h:∀ x ∈ v,sml x):q03 (sqL raw s v v.length):=λx hx=>by
 unfold sqL at hx;obtain ⟨k,hk,rfl⟩:=zN.1 hx;have hk:=zU.1 hk;rw [if_pos hk];unfold sqX;rw [zE,zA hk];refine qon (h _ (zQ _)) ?_;have:=zO (show s<=3 by omega) (show q5H raw (k:Int) % 1000<=999 by omega);omega
def qp9 (hK:K=65536) (hn:n<=4) (hs:s < 4) (h:TOk F n n) (hF:∀ j i,j < n->i < n->gok (2 ^ 100) ((F j i).getD 0)) (hp:PfOk raw F n s w y):q03 w:=by
 obtain ⟨_,_,v,rfl,hv,hk⟩:=hp;refine qif hs ?_
 rcases hk with ⟨h1,h2⟩ | rfl | rfl
 ·exact qoo hv λi k hi hk=>qt7 hK hn h h1 h2 hF hi hk
 ·intro x hx;unfold q4y at hx;obtain ⟨t,_,rfl⟩:=zN.1 hx;exact qii (q2M _ _)
 ·intro x hx;have:v=[]:=List.length_eq_zero_iff.1 hv;rw [this] at hx; cases hx
def qtc {c:Nat} {N G:Int} (hc:c < 18446744073709551616/\q0I c) (hG:G≠0):nnI (vIv c N G):=by
 have q:=qa1 (mode:=2) (a:=N) hG;have k:=qgn (mode:=2) (a:=N) hG;unfold vIv q9t;exact ⟨⟨qhk hc.1 (qaL q),q91 (q3N hc.2) (by rw [q5n q]; exact k)⟩,qhk hc.1 q,q91 (q3N hc.2) k⟩
def qfY {sp:Int} {wild:Bool} (hr:raw.length<=9223372036854775807) (h5 : -9223372036854775808<=sp) (h6:sp<=9223372036854775807) (h:TOk F n n) (hn:n<=4) (hb:q03 b) (hbl:b.length=n) :
  ∃ w y,PfOk raw F n (q0d sp 4) w y/\ACt 15 [pT n n F,pF b,pF raw,iv sp,bv wild] (pBx n w y):=by
 obtain ⟨w,y,hp,hc⟩:=qp3 (wild:=wild) hr h5 h6 h hn hb hbl;refine ⟨w,y,hp,qbA (ids:=[5000]) hc ?_⟩;have k1:∀ z:Int,q2W (q0Q h0 5000 ⟨33,none,w.map λz:Nat=>uv z,false⟩) (iv z)=some (iv z,[]):=λz=>by
  unfold q2W;exact if_pos trivial
 have k2:q2W (q0Q h0 5000 ⟨33,none,w.map λz:Nat=>uv z,false⟩) (pF y)=some (pF y,[]):=by
  unfold q2W pF;exact if_pos trivial
 unfold pBo q26 q26 clo;dsimp only;unfold q2V q2V q2V q2V q2V;simp only [k1,k2,qky,yH,zS]
 rfl
end
def q6B {raw:List Nat} {n st sp:Int} {rg wild:Bool} (hr:raw.length<=9223372036854775807) (h1 : -9223372036854775808<=n) (h2:n<=9223372036854775807) (h3 : -9223372036854775808<=st) (h4:st<=9223372036854775807) (h5 : -9223372036854775808<=sp) (h6:sp<=9223372036854775807) :
  ACt 5 [pF raw,iv n,iv st,bv rg,iv sp,bv wild] (bv true):=by
 obtain ⟨K,hK⟩:∃ K,K=65536:=⟨_,rfl⟩;have cA:=qda;have cM:=q6l (a:=st) (n:=3) h3 h4 Oq Oq;have hS:q0d st 3 < 3:=by unfold q0d; omega
 have hN:q0d n 5 < 5:=by unfold q0d; omega
 have hP:q0d sp 4 < 4:=by unfold q0d; omega
 have cPk:=qfZ (st:=((q0d st 3:Nat):Int)) (rg:=rg) hr h1 h2 Oq Oq;have e2:q0d ((q0d st 3:Nat):Int) 4=q0d st 3:=by unfold q0d; omega
 rw [e2] at cPk;have hF:=qxm (raw:=raw) (N:=q0d n 5) (st:=((q0d st 3:Nat):Int)) (rg:=rg) Oq;have hG:=λj i (hj:j < q0d n 5) (hi:i < q0d n 5)=>qxl (raw:=raw) (rg:=rg) (n:=q0d n 5) Oq hS (j:=j) hi;have hbg:=qi2 (raw:=raw) (k:=30) (n:=q0d n 5) hS;have hbf:=q52 (raw:=raw) (k:=30) (st:=q0d st 3) (n:=q0d n 5);have hbl:=q3B (raw:=raw) (k:=30) (st:=q0d st 3) (n:=q0d n 5);obtain ⟨w,y,hPf,cPr⟩:=qfY (raw:=raw) (sp:=sp) (wild:=wild) hr h5 h6 hF Oq hbf hbl;have hwf:=qp9 hK Oq hP hF hG hPf;have hwl:w.length=q0d n 5*q0d n 5:=by
  obtain ⟨_,_,v,rfl,hv,_⟩:=hPf;rw [q7T]; exact hv
 have hyl:=hPf.1;have hyf:=hPf.2.1;have hSn:=qol (B:=100) hG hbg hbl;clear hPf hG hbg e2 hS hP;generalize q0d st 3=s3 at *;generalize ckT raw (q0d n 5) (s3:Nat) rg=F at *;generalize q4y raw 30 s3 (q0d n 5)=b at *;generalize q0d n 5=N at *;have cV:=q6p hF Oq hwl hwf hbf hbl hyf hyl;unfold vfO at cV
 by_cases hg:q2T<=grZ (btL N w F)
 ·rw [if_pos hg] at cV;clear hF hwf hbf hyf hSn hg;unfold pT q2F pBx at *;generalize (tM F N N).1=ms at *;generalize (tM F N N).2.1=mi at *;generalize (tM F N N).2.2=mv at *;dsimp only at cV;refine ac0 Tryz.func5 Tryz.ntmps5 [.tmp 12] ?_;exact wk trivial
 ·rw [if_neg hg] at cV;have hreg:=qlc hK hF hwf hg;obtain ⟨hd,hy⟩:=qu7 hK Oq hSn hreg;have cS:=q9v hK hF Oq hbf hbl Oq hSn hd;have hG0:0 < vfG F N w:=by unfold vfG; omega
  have hz:=λi j hi hj=>(qeg (i:=i) (j:=j) hK Oq hSn hi hj).2.1;have hlt:∀ z:Int,z.natAbs < 2 ^ 100->z.natAbs < 2 ^ 120:=λz h=>Nat.lt_trans h (by decide);have hD:(0:Int) < ((dtE N λr c=>(snZ F N b r c:Rat)).num.natAbs:Int):=by omega
  have b1:=qxS (M:=snZ F N b) (n:=N) Oq λr c hr hc=>hlt _ (hz r c hr Oq);have b2:=λi=>qu9 (M:=snZ F N b) (b:=λi=>snZ F N b i N) (n:=N) (j:=i) Oq (λr c hr hc=>hlt _ (hz r c hr Oq)) λr hr=>hlt _ (hz r N hr Oq);have hin:=λi (hi:i < N)=>qt9 hK hF hwf hbf hyf hg hD hy hi;have cC:=λi (hi:i < N)=>qae (p:=vIv (y.getD i 0) (vfN F N w b y i) (vfG F N w)) (num:=slX N (snZ F N b) (λi=>snZ F N b i N) i) (den:=((dtE N λr c=>(snZ F N b r c:Rat)).num.natAbs:Int)) hK (qtc (hyf _ (by rw [zE,zA (by omega)]; exact zQ _)) (by omega)) (by have:=b2 i; omega) (by rw [zP]; omega) (hin i hi);have hvl:(vfL F N w b y N).length=N:=q9l;have hvg:∀ i,i < N->(vfL F N w b y N)[i]?=some (vIv (y.getD i 0) (vfN F N w b y i) (vfG F N w)):=λi hi=>by unfold vfL; rw [zD,zF hi]; rfl
  clear hF hwf hbf hyf hSn hg hreg hd hy hG0 hz hlt hD b1 b2 hin;generalize (dtE N λr c=>(snZ F N b r c:Rat)).num.natAbs=D at *;generalize slX N (snZ F N b) (λi=>snZ F N b i N)=X at *;generalize vfL F N w b y N=L at *;obtain ⟨P,hP⟩:∃ P:Nat->Nat × Nat,∀ i,P i=vIv (y.getD i 0) (vfN F N w b y i) (vfG F N w):=⟨_,λ_=>rfl⟩;simp only [<- hP] at cC hvg;clear hP;unfold pT q2F pBx at *;generalize (tM F N N).1=ms at *;generalize (tM F N N).2.1=mi at *;generalize (tM F N N).2.2=mv at *;dsimp only at cV;have q1:((N:Int) != (N:Int))=false:=by simp
  unfold bT at *;refine ac0 Tryz.func5 Tryz.ntmps5 [.tmp 12] ?_;refine wk1 (x2 hvl q1) ?_;refine q0B (λi=>i<=N) [13,15,18,19] [13,19] Lk Lk (λi:Nat=>[(21,iv i)]) (λ_=>[]) (λi=>N-i) 0 (zB _) ?_ ?_
  ·refine LeM [] rfl rfl ?_;refine Zz ?_
   rfl
  ·intro i hi
   by_cases hlt:i < N
   ·have hlt':(i:Int) < N:=by omega
    have c:=cC i hlt;have gi:(L.map λp=>PV.ag [uv p.1,uv p.2])[i]?=some (.ag [uv (P i).1,uv (P i).2]):=by rw [zD,hvg i hlt]; rfl
    have gx:((List.range N).map λr=>PV.ag [bv (decide (X r < 0)),.fm (fL (X r))])[i]?=some (.ag [bv (decide (X i < 0)),.fm (fL (X i))]):=by rw [zD,zF hlt]; rfl
    clear cC;refine wk1 (x3 hlt' gi gx) ?_;refine ⟨i+1,by omega,by omega,?_⟩;refine LeM [] rfl rfl ?_;refine Zz ?_;omega
   ·obtain rfl:i=N:=by omega
    have hlt':¬ (i:Int) < i:=by omega
    clear cC;exact wk1 hlt' trivial
end Go.Proofs.YtpbaikoblfcmdaaGreatDoor
