/- EncloseBeta. 6/7. -/
import Derived.Test.YtpbaikoblfcmdaaGreatDoorPf5
set_option linter.unusedSimpArgs false
set_option linter.unusedVariables false
set_option maxRecDepth 20000
set_option maxHeartbeats 2000000
set_option linter.defProp false
namespace Go.Proofs.YtpbaikoblfcmdaaGreatDoor
open Go Go.E Go.Sp
def qtO {mode V:Int} {K:Nat} (hK:K=65536):fR mode V=fQ mode V ((2:Int) ^ K):=by
 have hp:=q0N K;unfold fR fQ;rw [decide_eq_false (show ¬ (2:Int) ^ K < 0 by omega),Bool.bne_false,← hK]
 congr 2
def qh3 {b:Nat} (hb:b < 18446744073709551616) (hf:q0J b):ofZ (q54 b) = -ofZ b:=by
 have h1:q54 b / 4503599627370496 % 2048=b / 4503599627370496 % 2048:=by unfold q54; split <;> omega
 have h2:q54 b % 4503599627370496=b % 4503599627370496:=by unfold q54; split <;> omega
 have h3:decide (9223372036854775808≤q54 b)=!decide (9223372036854775808≤b):=by
  unfold q54
  by_cases h:b < 9223372036854775808
  ·rw [if_pos h,decide_eq_true (by omega),decide_eq_false (by omega)]; rfl
  ·rw [if_neg h,decide_eq_false (by omega),decide_eq_true (by omega)]; rfl
 have h4:∀ (s:Bool) (m k:Nat),sgn (!s) m*(2:Int) ^ k = -(sgn s m*(2:Int) ^ k):=fun s m k=>by
  cases s
  ·show -(m:Int)*_ = -((m:Int)*_)
   rw [Int.neg_mul]
  ·show (m:Int)*_ = -(-(m:Int)*_)
   rw [Int.neg_mul,Int.neg_neg]
 unfold q0J at hf;unfold ofZ ofF;rw [h1,h2,h3,if_neg hf,if_neg hf]
 split
 ·exact h4 _ _ _
 ·exact h4 _ _ _
def qoT {mode:Int} {z y s:Nat} (hz:0 < z) (hy:0 < y):fQ mode ((z:Int)*(2:Int) ^ s) ((y:Int)*(2:Int) ^ s)=rF mode false z y:=by
 have hp:=q0N s;have h1:0 < (z:Int)*(2:Int) ^ s:=Int.mul_pos Oq hp;have h2:0 < (y:Int)*(2:Int) ^ s:=Int.mul_pos Oq hp;unfold fQ;rw [if_neg (by omega),decide_eq_false (by omega),decide_eq_false (by omega),q0M,q0M,Int.natAbs_natCast,Int.natAbs_natCast];exact q3b hz hy (q0H _)
def q5s (f:Nat):Nat→Nat→Option Nat:=fun j i=>if j=0 then (if i=0 then some f else none) else none
section
variable {K f1 f3 t r:Nat}
def aw41 (hK:K=65536) (u1:q0J f1) (u3:q0J f3) (ut:q0J t) (ur:r < 18446744073709551616∧q0J r) (o1:ofZ f1=(2:Int) ^ K) (o3:ofZ f3=3*(2:Int) ^ K) (ot:ofZ t=6004799503160661*(2:Int) ^ (K-54)) (or:ofZ r=6004799503160662*(2:Int) ^ (K-108))
  (hr:rF 2 false 6004799503160661 (18014398509481983*2 ^ 54)=r):vrX (q5s f3) 1 [f1] [t] 0=(2:Int) ^ (K-54)∧vfG (q5s f3) 1 [t]=18014398509481983*(2:Int) ^ (K-54)∧vfN (q5s f3) 1 [t] [f1] [t] 0=6004799503160661*(2:Int) ^ (K-108)∧fQ 2 (vfN (q5s f3) 1 [t] [f1] [t] 0) (vfG (q5s f3) 1 [t])=r:=by
 have e1:q2i=(2:Int) ^ K:=by rw [qeK,hK]
 obtain ⟨P,hP⟩:∃ P:Int,P=(2:Int) ^ (K-162):=⟨_,rfl⟩;have hPp:0 < P:=by rw [hP]; exact q0N _
 have p108:(2:Int) ^ (K-108)=18014398509481984*P:=by
  rw [hP,show (18014398509481984:Int)=(2:Int) ^ 54 from by decide,← Int.pow_add]; congr 1; omega
 have p54:(2:Int) ^ (K-54)=18014398509481984*(18014398509481984*P):=by
  rw [← p108,show (18014398509481984:Int)=(2:Int) ^ 54 from by decide,← Int.pow_add]; congr 1; omega
 have pK:(2:Int) ^ K=18014398509481984*(18014398509481984*(18014398509481984*P)):=by
  rw [← p54,show (18014398509481984:Int)=(2:Int) ^ 54 from by decide,← Int.pow_add]; congr 1; omega
 have pp:∀ a b s u:Int,a*s*(b*u)=a*b*(s*u):=fun a b s u=>by rw [Int.mul_assoc,Int.mul_assoc,Int.mul_left_comm s b u]
 have m1:q0p t f3=18014398509481983*(2:Int) ^ (K-54):=qs9 hK ut u3 (by
  rw [ot,o3];generalize (2:Int) ^ (K-54)=a;generalize (2:Int) ^ K=c;rw [pp,show (6004799503160661:Int)*3=18014398509481983 from by decide,Int.mul_assoc])
 have m2:q0p f3 t=18014398509481983*(2:Int) ^ (K-54):=by rw [qkb]; exact m1
 have dK:∀ m:Nat,m≤K→∀ a:Nat,bl a≤60000→q0T ((a:Int)*(2:Int) ^ m):=fun m hm a ha=>by
  unfold q0T;rw [q0M,Int.natAbs_natCast]
  by_cases h0:a=0
  ·subst h0; rw [Nat.zero_mul,q0h]; omega
  ·rw [q1G h0]; omega
 have pz:∀ (a b V:Int),q0T V→a*b=V*(2:Int) ^ K→prZ a b=V:=fun a b V hV e=>by
  unfold prZ;rw [e,hK,q4x hV]; rfl
 have b1:bl 6004799503160661≤60000:=Nat.le_trans (q0O (k:=53) (by decide)) Oq;have b2:bl (6004799503160661*18014398509481983)≤60000:=Nat.le_trans (q0O (k:=200) (by decide)) Oq;have hE:btE 1 [t] (q5s f3) 0 0=(2:Int) ^ (K-54):=by
  show (if 0=0 then q2i else 0)-(0+q0p t f3)=_
  rw [if_pos rfl,e1,m1,pK,p54];omega
 have hZ:btZ 1 [t] (q5s f3) 0=(2:Int) ^ (K-54):=by
  show 0+(((btE 1 [t] (q5s f3) 0 0).natAbs:Nat):Int)=_
  rw [hE];have:=q0N (K-54);omega
 have hL:grZ (btL 1 [t] (q5s f3))=(2:Int) ^ (K-54):=by
  show max 0 (btZ 1 [t] (q5s f3) 0)=_
  rw [hZ];have:=q0N (K-54);omega
 have hG:vfG (q5s f3) 1 [t]=18014398509481983*(2:Int) ^ (K-54):=by
  unfold vfG;rw [hL,e1,pK,p54];omega
 have hR:vrX (q5s f3) 1 [f1] [t] 0=(2:Int) ^ (K-54):=by
  show ofZ f1-(0+q0p f3 t)=_
  rw [o1,m2,pK,p54];omega
 have hD:vdX 1 [t] (vrX (q5s f3) 1 [f1] [t]) 0=6004799503160661*(2:Int) ^ (K-108):=by
  show (((0+prZ (ofZ t) (vrX (q5s f3) 1 [f1] [t] 0)).natAbs:Nat):Int)=_
  rw [hR,ot,pz _ _ (6004799503160661*(2:Int) ^ (K-108)) (dK (K-108) (by omega) 6004799503160661 b1) (by
   rw [Int.mul_assoc,Int.mul_assoc,← Int.pow_add,← Int.pow_add]; congr 2; omega)]
  have:=q0N (K-108);omega
 have hM:grZ (vfD (q5s f3) 1 [t] [f1] [t])=6004799503160661*(2:Int) ^ (K-108):=by
  show max 0 (vdX 1 [t] (vrX (q5s f3) 1 [f1] [t]) 0)=_
  rw [hD];have:=q0N (K-108);omega
 have hN:vfN (q5s f3) 1 [t] [f1] [t] 0=6004799503160661*(2:Int) ^ (K-108):=by
  unfold vfN vnX;rw [hD,hG,hZ,hM];have a1:prZ (6004799503160661*(2:Int) ^ (K-108)) (18014398509481983*(2:Int) ^ (K-54))=((6004799503160661*18014398509481983:Nat):Int)*(2:Int) ^ (K-162):=pz _ _ _ (dK (K-162) Oq _ b2) (by
   rw [pp,← Int.pow_add,show K-108+(K-54)=K-162+K by omega,Int.pow_add,← Int.mul_assoc]; rfl)
  have a2:prZ ((2:Int) ^ (K-54)) (6004799503160661*(2:Int) ^ (K-108))=((6004799503160661:Nat):Int)*(2:Int) ^ (K-162):=pz _ _ _ (dK (K-162) Oq _ b1) (by
   rw [Int.mul_left_comm,← Int.pow_add,show K-54+(K-108)=K-162+K by omega,Int.pow_add,← Int.mul_assoc]; rfl)
  rw [a1,a2,p108,← hP];omega
 refine ⟨hR,hG,hN,?_⟩;rw [hN,hG,← hr,show (18014398509481983:Int)*(2:Int) ^ (K-54)=((18014398509481983*2 ^ 54:Nat):Int)*(2:Int) ^ (K-108) by rw [p54,← p108,show ((18014398509481983*2 ^ 54:Nat):Int)=18014398509481983*18014398509481984 from by decide,Int.mul_assoc]];exact qoT (z:=6004799503160661) (by decide) (by decide)
def aw41b (hK:K=65536) (ut:q0J t) (ur:r < 18446744073709551616∧q0J r) (ot:ofZ t=6004799503160661*(2:Int) ^ (K-54)) (or:ofZ r=6004799503160662*(2:Int) ^ (K-108)) (ta:q3W t≠0) {lo hi:Nat}
  (hlo:rF 1 false (6004799503160661*18014398509481984-6004799503160662) (2 ^ 108)=lo) (hhi:rF 2 false (6004799503160661*18014398509481984+6004799503160662) (2 ^ 108)=hi):qgz 1 t r=lo∧qgP 2 t r=hi:=by
 have hp:=q0N (K-108);have p54:(2:Int) ^ (K-54)=18014398509481984*(2:Int) ^ (K-108):=by
  rw [show (18014398509481984:Int)=(2:Int) ^ 54 from by decide,← Int.pow_add]; congr 1; omega
 have hon:ofZ (q54 r) = -ofZ r:=qh3 ur.1 ur.2;have hs:(2:Int) ^ K=((2 ^ 108:Nat):Int)*(2:Int) ^ (K-108):=by
  rw [q03,← Int.pow_add]; congr 1; omega
 constructor
 ·unfold qgz qgP;rw [if_neg (not_not_intro ((qh8 ur.1).2 ur.2)),if_neg fun q=>ta q.1,hon,ot,or,p54];have e:6004799503160661*(18014398509481984*(2:Int) ^ (K-108)) + -(6004799503160662*(2:Int) ^ (K-108))=((6004799503160661*18014398509481984-6004799503160662:Nat):Int)*(2:Int) ^ (K-108):=by
   rw [show ((6004799503160661*18014398509481984-6004799503160662:Nat):Int)=6004799503160661*18014398509481984-6004799503160662 from by decide];omega
  rw [e,if_neg (by
   have:0 < ((6004799503160661*18014398509481984-6004799503160662:Nat):Int)*(2:Int) ^ (K-108):=Int.mul_pos (by decide) hp;omega),qtO hK,hs,qoT (by decide) (by decide),hlo]
 ·unfold qgP;rw [if_neg (not_not_intro ur.2),if_neg fun q=>ta q.1,ot,or,p54];have e:6004799503160661*(18014398509481984*(2:Int) ^ (K-108))+6004799503160662*(2:Int) ^ (K-108)=((6004799503160661*18014398509481984+6004799503160662:Nat):Int)*(2:Int) ^ (K-108):=by
   rw [show ((6004799503160661*18014398509481984+6004799503160662:Nat):Int)=6004799503160661*18014398509481984+6004799503160662 from by decide];omega
  rw [e,if_neg (by
   have:0 < ((6004799503160661*18014398509481984+6004799503160662:Nat):Int)*(2:Int) ^ (K-108):=Int.mul_pos (by decide) hp;omega),qtO hK,hs,qoT (by decide) (by decide),hhi]
end
def q62 {T id n:Nat} {h h':Hp} {l:List PV} (h1:h id=some ⟨T,none,l,false⟩) (hc:ClL l) (h2:h' id=none) (hn:l.length=n):LeV (q0g []) h h' (.ow id none 0 n) (.sl none l):=q61 (T:=T) (l:=l) h1 hc (fun i hi=>by
 have hi:some i=some id:=hi;cases hi;exact h2) (by rw [List.drop_zero]; exact List.take_of_length_le (by omega))
def qst {y:PV}:q8x (some 2) (.sl (some 2) [y]) (iv 0)=some (.qt (some 2) y):=by
 unfold q8x;simp [ksz]
def vfL_1 {F:Nat→Nat→Option Nat} {v b z:List Nat}:vfL F 1 v b z 1=[vIv (z.getD 0 0) (vfN F 1 v b z 0) (vfG F 1 v)]:=rfl
def qc0:ACt 19 [] (bv true):=by
 obtain ⟨K,hK⟩:∃ K:Nat,K=65536:=⟨_,rfl⟩;have p52:(4503599627370496:Int)=(2:Int) ^ 52:=by decide
 have o1:ofZ 4607182418800017408=(2:Int) ^ K:=by
  rw [qh5 (m:=4503599627370496) (e:=1023) (by omega) (by omega) (by omega) (by omega) (by omega),show (((4503599627370496:Nat):Int))=(2:Int) ^ 52 from p52,← Int.pow_add,show 52+(64461+1023)=K by omega]
 have o3:ofZ 4613937818241073152=3*(2:Int) ^ K:=by
  rw [qh5 (m:=6755399441055744) (e:=1024) (by omega) (by omega) (by omega) (by omega) (by omega),show (((6755399441055744:Nat):Int))=3*(2:Int) ^ 51 from by decide,Int.mul_assoc,← Int.pow_add,show 51+(64461+1024)=K by omega]
 have ot:ofZ 4599676419421066581=6004799503160661*(2:Int) ^ (K-54):=by
  rw [qh5 (m:=6004799503160661) (e:=1021) (by omega) (by omega) (by omega) (by omega) (by omega),show 64461+1021=K-54 by omega]; rfl
 have or:ofZ 4356482039543059798=6004799503160662*(2:Int) ^ (K-108):=by
  rw [qh5 (m:=6004799503160662) (e:=967) (by omega) (by omega) (by omega) (by omega) (by omega),show 64461+967=K-108 by omega]; rfl
 have hr:rF 2 false 6004799503160661 (18014398509481983*2 ^ 54)=4356482039543059798:=by kernel_rfl
 have hlo:rF 1 false (6004799503160661*18014398509481984-6004799503160662) (2 ^ 108)=4599676419421066580:=by kernel_rfl
 have hhi:rF 2 false (6004799503160661*18014398509481984+6004799503160662) (2 ^ 108)=4599676419421066582:=by kernel_rfl
 have z3:rF 0 false 3 1=4613937818241073152:=by kernel_rfl
 have f3:flz 3=4613937818241073152:=by
  have h1:=fR_u (z:=3) (K:=65536) (s:=0) rfl Oq Oq;have h2:fR 0 (((3:Nat):Int)*(2:Int) ^ (65536-0))=flz 3:=rfl;rw [← h2,h1];exact z3
 obtain ⟨r1,r2,r3,r4⟩:=aw41 (f1:=4607182418800017408) (f3:=4613937818241073152) (t:=4599676419421066581) (r:=4356482039543059798) hK (by unfold q0J; omega) (by unfold q0J; omega) (by unfold q0J; omega) ⟨by omega,by unfold q0J; omega⟩ o1 o3 ot or hr;obtain ⟨s1,s2⟩:=aw41b (t:=4599676419421066581) (r:=4356482039543059798) hK (by unfold q0J; omega) ⟨by omega,by unfold q0J; omega⟩ ot or (by unfold q3W; omega) hlo hhi;have hm:TOk (q5s 4613937818241073152) 1 1:=by
  refine ⟨by omega,by omega,by omega,fun j i x _ _ h=>?_,fun j i x _ _ h=>?_⟩
  all_goals
   unfold q5s at h
   split at h
   ·split at h
    ·cases h; first | omega | (unfold q0J; omega)
    ·cases h
   ·cases h
 have hv:vfO (q5s 4613937818241073152) 1 [4599676419421066581] [4607182418800017408] [4599676419421066581]=([(4599676419421066580,4599676419421066582)],true):=by
  have hg:¬ q2i≤grZ (btL 1 [4599676419421066581] (q5s 4613937818241073152)):=fun h=>by
   have h1:=r2;unfold vfG at h1;have hp:=q0N (K-54);generalize grZ (btL 1 [4599676419421066581] (q5s 4613937818241073152))=g at h h1;generalize q2i=o at h h1;generalize (2:Int) ^ (K-54)=c at hp h1;omega
  unfold vfO;rw [if_neg hg,vfL_1,show ([4599676419421066581]:List Nat).getD 0 0=4599676419421066581 from rfl];unfold vIv;rw [r4,s1,s2]
 have C1:ACt 73 [iv 3,iv 0] (uv (4613937818241073152:Nat)):=by
  rw [← f3];exact q6K (z:=3) (mode:=0) Oq Oq (q7H (by have:=q0O (n:=(3:Int).natAbs) (k:=4) (by decide); omega))
 have C2:=qcT (v:=[4599676419421066581]) (b:=[4607182418800017408]) (z:=[4599676419421066581]) hm (by omega) rfl (fun x hx=>by simp at hx; subst hx; exact ⟨by omega,by unfold q0J; omega⟩) (fun x hx=>by simp at hx; subst hx; exact ⟨by omega,by unfold q0J; omega⟩) rfl (fun x hx=>by simp at hx; subst hx; exact ⟨by omega,by unfold q0J; omega⟩) rfl;rw [hv] at C2;clear hv hm r1 r2 r3 r4 s1 s2 hr hlo hhi z3 f3 o1 o3 ot or p52;have D1:ACt 73 [iv 3,iv 0] (uv 4613937818241073152):=C1;have D2:ACt 27 [.ag [iv 1,iv 1,.sl none [iv 0,iv 1],.sl none [iv 0],.sl none [uv 4613937818241073152]],.sl none [uv 4607182418800017408],.ag [iv 1,iv 1,.sl none [uv 4599676419421066581],.sl none [uv 4599676419421066581]]] (.tu [.sl (some 2) [.ag [uv 4599676419421066580,uv 4599676419421066582]],bv true,iv 0]):=C2;clear C1 C2;have b1:((4599676419421066580:Int) == 4599676419421066580)=true:=by decide
 have b2:((4599676419421066582:Int) == 4599676419421066582)=true:=by decide
 have b3:((0:Int) == 0)=true:=rfl;have b4:((1:Int) == 1)=true:=rfl;have w1:IntKind.u64.wrap (4599676419421066581-1)=4599676419421066580:=rfl;have w2:IntKind.u64.wrap (4599676419421066581+1)=4599676419421066582:=rfl;refine ac0 Tryz.func19 Tryz.ntmps19 [.tmp 0] ?_;refine wk ?_;refine q3G fun K0 hK0=>?_;refine qaG 8 fun K hK=>?_;rw [List.take_succ_cons,List.take_succ_cons,List.take_succ_cons,List.take_succ_cons,List.take_succ_cons,List.take_succ_cons,List.take_succ_cons,List.take_succ_cons,List.take_zero,List.drop_succ_cons,List.drop_succ_cons,List.drop_succ_cons,List.drop_succ_cons,List.drop_succ_cons,List.drop_succ_cons,List.drop_succ_cons,List.drop_succ_cons,List.drop_zero]
 try refine Zz ?_
 refine ⟨_,_,LeM [] rfl rfl (xs:=[(2,uv 4599676419421066581),(12,.ag [iv 1,iv 1,.sl none [iv 0,iv 1],.sl none [iv 0],.sl none [uv 4613937818241073152]]),(13,.sl none [uv 4607182418800017408]),(19,.ag [iv 1,iv 1,.sl none [uv 4599676419421066581],.sl none [uv 4599676419421066581]])]) (kv:=[]) (bs:=[]) (kb:=[]) ?_,?_⟩
 ·try refine Zz ?_
  exact ⟨⟨q62 rfl (clI (l:=[0,1])) rfl rfl,q62 rfl (clI (l:=[0])) rfl rfl,q62 rfl (clU (l:=[4613937818241073152])) rfl rfl⟩,q62 rfl (clU (l:=[4607182418800017408])) rfl rfl,q62 rfl (clU (l:=[4599676419421066581])) rfl rfl,q62 rfl (clU (l:=[4599676419421066581])) rfl rfl⟩
 try refine Zz ?_
 refine q0P D2 ?_
 try refine Zz ?_
 refine hK _ _ ?_;refine hK0 _ _ ?_;clear hK hK0 K K0;exact wk1 (x6 b1 b2 b3 b4 w1 (x2 w2 @qst)) trivial
open Go.RowKit
section
variable {raw:List Nat} {r c s t st:Int} {value:Nat}
def qfv {R C r c:Nat} {F:Nat→Nat→Option Nat} {v:List Nat} (h:R≤1000):(btA R C F r c v).1.length≤1000:=by
 unfold btA
 split
 ·exact Nat.zero_le _
 ·unfold btL;rw [q4L]; exact h
def q5w (hr:raw.length≤9223372036854775807) (h1 : -9223372036854775808≤r) (h2:r≤9223372036854775807) (h3 : -9223372036854775808≤c) (h4:c≤9223372036854775807) (h5 : -9223372036854775808≤s) (h6:s≤9223372036854775807) (h7 : -9223372036854775808≤t) (h8:t≤9223372036854775807) (h9 : -9223372036854775808≤st) (h10:st≤9223372036854775807) (hv:value < 18446744073709551616) :
  ACt 3 [pF raw,iv r,iv c,iv s,iv t,iv st,uv (value:Nat)] (bv true):=by
 have cA:=qc0;have cMr:=q3c (a:=r) (n:=4) h1 h2 Oq Oq;have cMc:=q3c (a:=c) (n:=4) h3 h4 Oq Oq;have cMs:=q3c (a:=s) (n:=4) h5 h6 Oq Oq;have cMt:=q3c (a:=t) (n:=4) h7 h8 Oq Oq;have cPk:=qeH (rg:=true) hr h1 h2 h9 h10;have hN:q00 r 5 < 5:=by unfold q00; omega
 have hR:q00 r 4 < 4:=by unfold q00; omega
 have hC:q00 c 4 < 4:=by unfold q00; omega
 have hS:q00 s 4 < 4:=by unfold q00; omega
 have hT:q00 t 4 < 4:=by unfold q00; omega
 have hF:=quO (raw:=raw) (N:=q00 r 5) (st:=st) (rg:=true) Oq;obtain ⟨w,y,hPf,cPr⟩:=qnA (raw:=raw) (sp:=s) (wild:=decide (t.tmod 3=0)) hr h5 h6 hF Oq (q29 (raw:=raw) (k:=30) (st:=q00 st 4)) q2S;have hwl:w.length=q00 r 5*q00 r 5:=by
  obtain ⟨_,_,v,rfl,hv,_⟩:=hPf;rw [q6p]; exact hv
 have hwu:∀ x ∈ w,x < 18446744073709551616:=by
  obtain ⟨_,_,v,rfl,hv,hk⟩:=hPf;refine sqL_u fun x hx=>?_
  rcases hk with hk | hk | hk
  ·exact (hk.1 x hx).1
  ·rw [hk] at hx; exact (q29 x hx).1
  ·rw [hk] at hv;have:v=[]:=List.length_eq_zero_iff.1 hv;rw [this] at hx; cases hx
 have cG:=q3R (raw:=raw) (st:=st) (R:=q00 r 4) (C:=q00 c 4) hr Oq Oq h9 h10;have hG:=qiG (raw:=raw) (R:=q00 r 4) (C:=q00 c 4) (st:=q00 st 4) Oq Oq (by have:=Nat.mul_le_mul (show q00 c 4≤4 by omega) (show q00 r 4≤4 by omega); omega);have cP:=q8N (raw:=raw) (r:=q00 s 4) (c:=q00 t 4) (st:=st) hr Oq Oq h9 h10;have hVl:=q2S (raw:=raw) (k:=500) (st:=q00 st 4) (n:=q00 s 4*q00 t 4);have hVf:=q29 (raw:=raw) (k:=500) (st:=q00 st 4) (n:=q00 s 4*q00 t 4);have hpu:∀ x ∈ q4r raw 500 (q00 st 4) (q00 s 4*q00 t 4),x < 18446744073709551616:=fun x hx=>(hVf x hx).1;have hyf:=hPf.2.1;have hyl:=hPf.1;clear hPf hVf;generalize ckT raw (q00 r 5) st true=F at *;generalize q4r raw 30 (q00 st 4) (q00 r 5)=b at *;generalize q4r raw 500 (q00 st 4) (q00 s 4*q00 t 4)=p at *;generalize gF raw (q00 r 4) (q00 st 4)=G at *;generalize q00 r 5=N at *;generalize q00 r 4=R at *;generalize q00 c 4=C at *;generalize q00 s 4=S at *;generalize q00 t 4=T at *;have hNN:N*N≤5*5:=Nat.mul_le_mul Oq Oq;have hST:S*T≤4*4:=Nat.mul_le_mul Oq Oq;have k1:=fun (V:List Nat) (h1:V.length≤1000) (h2:∀ x ∈ V,x < 18446744073709551616)=>qbG (r:=S) (c:=T) (v:=V) hG Oq Oq Oq Oq Oq h2;have k2:=fun (V:List Nat) (h1:V.length≤1000) (h2:∀ x ∈ V,x < 18446744073709551616)=>q66 (r:=S) (c:=T) (v:=V) hG Oq Oq Oq Oq Oq h2;have k3:=qbG (r:=N) (c:=N) (v:=w) hF Oq Oq Oq Oq Oq hwu;have k4:=q66 (r:=N) (c:=N) (v:=w) hF Oq Oq Oq Oq Oq hwu;have hl2:(btA N N F N N w).1.length≤1000:=qfv Oq;have hl1:=fun V=>qfv (C:=C) (F:=G) (r:=S) (c:=T) (v:=V) (show R≤1000 by omega);generalize btA N N F N N w=q2 at *;have hm3:((t.tmod 3 == 0))=decide (t.tmod 3=0):=by
  by_cases h:t.tmod 3=0 <;> simp [h]
 generalize decide (t.tmod 3=0)=wild at *;unfold pBo at cPr;rw [hwl] at cPr;generalize S*T=m at *;unfold pT q2I pPn at *;clear hF hG;generalize (tM G R C).1=ms at *;generalize (tM G R C).2.1=mi at *;generalize (tM G R C).2.2=mv at *;generalize (tM F N N).1=ns at *;generalize (tM F N N).2.1=ni at *;generalize (tM F N N).2.2=nv at *;refine ac0 Tryz.func3 Tryz.ntmps3 [.tmp 14] ?_;refine wk ?_;refine qlg fun K hK=>?_;refine Zz ?_;refine jc ?_
 try refine Zz ?_
 refine q0P cMs ?_
 try refine Zz ?_
 refine jc ?_
 try refine Zz ?_
 refine q0P cMt ?_
 try refine Zz ?_
 refine jmF cP ?_ ?_
 ·exact Ow
 try refine Zz ?_
 refine hK _ _ ?_; clear hK K;refine wk ?_;refine qpv fun K hK=>?_;have fin:∀ (V:List Nat) (s':Nat→PV) (h:Hp),V.length≤1000→(∀ x ∈ V,x < 18446744073709551616)→Le (fun _=>False) s' h (stM [(0,pF raw),(1,iv r),(3,iv s),(4,iv t),(5,iv st),(15,.pt 15 0 0),(16,.pt 16 0 0)] []) (hpM [(15,⟨27,some 5,[.ag [iv R,iv C,pI ms,pI mi,pF mv]],false⟩),(16,⟨31,some 3,[.ag [iv S,iv T,pF V]],false⟩)] [])→K s' h:=by
  clear cMr cMc cMs cMt cG cP hpu hVl;intro V s' h hV hVu hl;refine hK _ _ (q1L hl ?_); clear hK K hl;have c1:=k1 V hV hVu;have c2:=k2 V hV hVu;have hq1:=hl1 V;clear k1 k2 hl1;generalize btA R C G S T V=q1 at *;refine wk ?_;have h30:((3:Int)=0)=False:=eq_false (by decide);refine qlg fun K hK=>?_;refine Zz2 hm3 h30 ?_;refine jmF cPr ?_ ?_
  ·exact Ow
  try refine Zz2 hm3 h30 ?_
  refine hK _ _ ?_; clear hK K;have tk:List.take (N*N) (w.map fun z:Nat=>uv z)=w.map fun z:Nat=>uv z:=List.take_of_length_le (Nat.le_of_eq (by rw [List.length_map,hwl]));refine q1L (LeM [] rfl rfl (xs:=[(15,.pt 15 0 0),(16,.pt 16 0 0),(17,.pt 17 0 0),(19,.pt 19 0 0)]) (kv:=[]) (bs:=[(15,⟨27,some 5,[.ag [iv R,iv C,pI ms,pI mi,pF mv]],false⟩),(16,⟨31,some 3,[.ag [iv S,iv T,pF V]],false⟩),(17,⟨27,some 5,[.ag [iv N,iv N,pI ns,pI ni,pF nv]],false⟩),(19,⟨37,some 4,[.ag [iv N,iv N,pF w,pF y]],false⟩)]) (kb:=[]) ?_) ?_
  ·try refine Zz ?_
   exact q8r (T:=33) rfl clU rfl (by rw [List.length_map,hwl])
  have b1:∀ x:Int,(x == x)=true:=fun x=>by simp
  have b2:∀ x:Int,(x != x)=false:=fun x=>by simp
  have hsame:=@q5Y;obtain ⟨a1,a2⟩:=q1;obtain ⟨d1,d2⟩:=q2;dsimp only at *;clear cPr cPk;refine wk1 (x2 b1 b2) ?_;refine q0A (fun i=>i≤a1.length) [20,22,24,26] [] Lk Lk (fun i:Nat=>[(28,iv i)]) (fun _=>[]) (fun i=>a1.length-i) 0 (Nat.zero_le _) ?_ ?_
  ·refine LeM [] rfl rfl ?_;refine Zz ?_
   rfl
  ·intro i hi
   by_cases hlt:i < a1.length
   ·obtain ⟨V0,hV0⟩:∃ V0,a1[i]?=some V0:=⟨_,List.getElem?_eq_getElem hlt⟩;have q:(i:Int) < a1.length:=by omega
    have gi:(a1.map fun V=>pV V)[i]?=some (pV V0):=by rw [List.getElem?_map,hV0]; rfl
    have c5:=q5Y (V:=V0);refine wk1 (x2 q gi) ?_;refine ⟨i+1,by omega,by omega,?_⟩;refine LeM [] rfl rfl ?_;refine Zz ?_;omega
   ·obtain rfl:i=a1.length:=by omega
    have q:¬ ((a1.length:Nat):Int) < a1.length:=by omega
    refine wk1 q ?_;refine q0A (fun i=>i≤d1.length) [24,26] [] Lk Lk (fun i:Nat=>[(29,iv i)]) (fun _=>[]) (fun i=>d1.length-i) 0 (Nat.zero_le _) ?_ ?_
    ·refine LeM [] rfl rfl ?_;refine Zz ?_
     rfl
    ·intro i hi
     by_cases hlt:i < d1.length
     ·obtain ⟨V0,hV0⟩:∃ V0,d1[i]?=some V0:=⟨_,List.getElem?_eq_getElem hlt⟩;have q:(i:Int) < d1.length:=by omega
      have gi:(d1.map fun V=>pV V)[i]?=some (pV V0):=by rw [List.getElem?_map,hV0]; rfl
      have c5:=q5Y (V:=V0);refine wk1 (x2 q gi) ?_;refine ⟨i+1,by omega,by omega,?_⟩;refine LeM [] rfl rfl ?_;refine Zz ?_;omega
     ·obtain rfl:i=d1.length:=by omega
      have q:¬ ((d1.length:Nat):Int) < d1.length:=by omega
      exact wk1 q trivial
 by_cases g1:(m:Int) > 0
 ·cases g2:(((value:Int).tmod 3) == 0)
  ·refine wk1 (x3 g1 g2 hVl) ?_;refine fin p _ _ Oq hpu (LeM [] rfl rfl ?_)
   try refine Zz ?_
   exact q8r (T:=33) rfl clU rfl (by rw [List.length_map]; omega)
  ·refine wk1 (x3 g1 g2 hVl) ?_;refine fin (p.set 0 value) _ _ (by rw [List.length_set]; omega) (fun v hx=>?_) (LeM [] rfl rfl ?_)
   ·rcases List.mem_or_eq_of_mem_set hx with h | rfl
    ·exact hpu v h
    ·exact hv
   try refine Zz ?_
   exact q8r (T:=33) (by rw [List.map_set]; rfl) clU rfl (by rw [List.length_map,List.length_set]; omega)
 ·refine wk1 (x2 g1 hVl) ?_;refine fin p _ _ Oq hpu (LeM [] rfl rfl ?_)
  try refine Zz ?_
  exact q8r (T:=33) rfl clU rfl (by rw [List.length_map]; omega)
end
end Go.Proofs.YtpbaikoblfcmdaaGreatDoor
