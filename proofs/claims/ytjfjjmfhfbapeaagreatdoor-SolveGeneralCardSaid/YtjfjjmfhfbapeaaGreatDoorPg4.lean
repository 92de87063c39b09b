/- SolveGeneral. 4/6. -/
import Derived.Test.YtjfjjmfhfbapeaaGreatDoorPg3
set_option linter.unusedSimpArgs false
set_option linter.unusedVariables false
set_option maxRecDepth 20000
set_option maxHeartbeats 2000000
set_option linter.defProp false
namespace Go.Proofs.YtjfjjmfhfbapeaaGreatDoor
open Go Go.E Go.Sp
abbrev reT (neg:Bool) (q:Nat) (e:Int) (inx:Bool):PV:=.ag [bv neg,bv false,.fm (fL q),iv e,bv inx]
section
variable {neg inx:Bool} {q k:Nat} {e p:Int}
def qf3 (hb:bl q≤1000000) (he1 : -1000000≤e) (he2:e≤1000000):ACt 192 [reT neg q e inx] (iv (e+bl q-1)):=by
 have C1:=@q2q;refine ac0 Tryz.func192 Tryz.ntmps192 [.tmp 2] ?_;exact wk trivial
def qkE (hq:q≠0) (hb:bl q≤1000000) (hk:0 < k) (hk2:k≤5000000):ACt 227 [reT neg q e inx,iv k] (.tu [bT (q / 2 ^ k:Nat),iv (Go.Sp.hf q k inx),bv (decide (q % 2 ^ k=0) && !inx)]):=by
 have C1:=@q2q
 by_cases hkb:bl q < k
 ·have hqp:=q21 q;have hp1:2 ^ bl q≤2 ^ (k-1):=Nat.pow_le_pow_right Oq Oq;have hp2:2 ^ (k-1)≤2 ^ k:=Nat.pow_le_pow_right Oq Oq;have hmod:q % 2 ^ k=q:=Nat.mod_eq_of_lt Oq;have hdiv:q / 2 ^ k=0:=Nat.div_eq_of_lt Oq;have hhf:Go.Sp.hf q k inx = -1:=by
   unfold Go.Sp.hf;have:(((q % 2 ^ k:Nat):Int)-2 ^ (k-1)).sign = -1:=by
    refine Int.sign_eq_neg_one_of_neg ?_;rw [hmod,← q09]; omega
   rw [this]; simp
  have hex:(decide (q % 2 ^ k=0) && !inx)=false:=by rw [hmod,decide_eq_false hq]; rfl
  rw [hdiv,hhf,hex];refine ac0 Tryz.func227 Tryz.ntmps227 [.cell 4 54,.tmp 5,.tmp 6] ?_;exact wk trivial
 ·have C2:=@q7U;have C3:=@q4f;have C4:=@qlc;have C5:=@q3L;have C6:=@qlf;have C7:=@q36;have hsh:shI ((q:Nat):Int) (-(k:Int))=((q / 2 ^ k:Nat):Int):=by
   unfold shI; rw [if_neg (by omega),show (- -(k:Int)).toNat=k by omega,← q09]; rfl
  have hql:bl (q / 2 ^ k)≤1000000:=Nat.le_trans (q0r (Nat.div_le_self _ _)) hb;have hsl:shI ((q / 2 ^ k:Nat):Int) (k:Int)=((q / 2 ^ k*2 ^ k:Nat):Int):=by
   unfold shI; rw [if_pos (by omega),Int.toNat_natCast,← q09]; simp
  have hbm:bl (q / 2 ^ k*2 ^ k)≤1000000:=Nat.le_trans (q0r (Nat.div_mul_le_self _ _)) hb;have hrs:((q:Nat):Int)-((q / 2 ^ k*2 ^ k:Nat):Int)=((q % 2 ^ k:Nat):Int):=by
   have:=Nat.div_add_mod q (2 ^ k);rw [Nat.mul_comm] at this; omega
  have hbr:bl (q % 2 ^ k)≤1000000:=Nat.le_trans (q0r (Nat.mod_le _ _)) hb;have hs1:shI 1 ((k:Int)-1)=(2:Int) ^ (k-1):=by
   unfold shI; rw [if_pos (by omega),show ((k:Int)-1).toNat=k-1 by omega,Int.one_mul]
  have hb1:bl ((2:Int) ^ (k-1)).natAbs≤k:=by
   rw [q5x]; exact q0N (Nat.pow_lt_pow_right (by omega) (by omega))
  have hb2:bl (1:Int).natAbs≤1:=by show bl 1≤_; rw [q8L]; omega
  have sE:(((q % 2 ^ k:Nat):Int).sign == 0)=decide (q % 2 ^ k=0):=by
   by_cases h0:q % 2 ^ k=0
   ·rw [h0]; rfl
   ·rw [decide_eq_false h0,beq_eq_false_iff_ne];intro h; exact h0 (by have:=Int.sign_eq_zero_iff_zero.1 h; omega)
  have hhf:Go.Sp.hf q k inx=if (((q % 2 ^ k:Nat):Int)-2 ^ (k-1)).sign=0∧inx=true then 1 else (((q % 2 ^ k:Nat):Int)-2 ^ (k-1)).sign:=rfl
  rw [hhf];generalize hr:q % 2 ^ k=r at *;generalize hz:q / 2 ^ k=z at *;generalize hw:z*2 ^ k=zw at *;generalize hP:(2:Int) ^ (k-1)=P at *;refine ac0 Tryz.func227 Tryz.ntmps227 [.cell 4 54,.tmp 5,.tmp 6] ?_;refine wk1 (x4 hsh hsl hrs hs1) ?_
  by_cases hS:((r:Int)-P).sign=0
  ·rw [hS];cases inx
   ·rw [if_neg fun h=>Bool.noConfusion h.2]
    by_cases h0:r=0
    ·exact wk1 (x2 sE (decide_eq_true h0)) trivial
    ·exact wk1 (x2 sE (decide_eq_false h0)) trivial
   ·rw [if_pos ⟨rfl,rfl⟩]
    by_cases h0:r=0
    ·exact wk1 (x2 sE (decide_eq_true h0)) trivial
    ·exact wk1 (x2 sE (decide_eq_false h0)) trivial
  ·rw [if_neg fun h=>hS h.1]
   by_cases h0:r=0
   ·exact wk1 (x2 sE (decide_eq_true h0)) trivial
   ·exact wk1 (x2 sE (decide_eq_false h0)) trivial
def qf2 (hq:q≠0) (hb:bl q≤900000) (he1 : -900000≤e) (he2:e≤900000) (hp1 : -100000≤p) (hp2:p≤1000000):ACt 195 [reT neg q e inx,iv p,iv 0] (bT (sgn neg (qlV q e p inx))):=by
 have C1:=@q4f;have C2:=@q8p;have s0:∀ n:Nat,sgn false n=n:=fun n=>rfl;have s1:∀ n:Nat,sgn true n = -(n:Int):=fun n=>rfl
 by_cases hpe:p≤e
 ·have hsl:shI ((q:Nat):Int) (e-p)=((q*2 ^ (e-p).toNat:Nat):Int):=by
   unfold shI; rw [if_pos (by omega),← q09]; simp
  have hbq:bl (q*2 ^ (e-p).toNat)≤2000000:=by rw [q1P hq]; omega
  rw [show qlV q e p inx=q*2 ^ (e-p).toNat from if_pos hpe];generalize q*2 ^ (e-p).toNat=z at *;refine ac0 Tryz.func195 Tryz.ntmps195 [.cell 6 54] ?_;cases neg
  ·exact wk1 (x2 hsl s0) trivial
  ·exact wk1 (x2 hsl s1) trivial
 ·obtain ⟨k,hk⟩:∃ k:Nat,p-e=k:=⟨(p-e).toNat,by omega⟩;have hbq:bl (q / 2 ^ k)≤2000000:=Nat.le_trans (q0r (Nat.div_le_self _ _)) Oq;have C3:=qkE (neg:=neg) (inx:=inx) (e:=e) (q:=q) (k:=k) hq Oq Oq Oq;have C4:=@q3L;have C5:=@qdf;have C6:=@q36;have C7:=@qjQ;have hb2:bl (1:Int).natAbs≤1:=by show bl 1≤_; rw [q8L]; omega
  have hm:qlV q e p inx=q / 2 ^ k+(if ¬ (q % 2 ^ k=0∧inx=false)∧(0 < Go.Sp.hf q k inx∨(Go.Sp.hf q k inx=0∧q / 2 ^ k % 2=1)) then 1 else 0):=by
   unfold qlV; rw [if_neg hpe,show (p-e).toNat=k by omega]
  generalize qlV q e p inx=m at *;generalize Go.Sp.hf q k inx=H at *;generalize hr:q % 2 ^ k=r at *;generalize hz:q / 2 ^ k=z at *;have hbz:bl ((z:Int)+1).natAbs≤2000001:=by
   have:=q8N (k:=2000000) (a:=z) (b:=1) (by omega) (by rw [q8L]; omega);exact this
  have e2:((z+1:Nat):Int)=(z:Int)+1:=rfl;refine ac0 Tryz.func195 Tryz.ntmps195 [.cell 6 54] ?_
  by_cases hex:r=0∧inx=false
  ·have f:(decide (r=0) && !inx)=true:=by simp [hex]
   rw [if_neg fun h=>h.1 hex,Nat.add_zero] at hm;subst hm;cases neg
   ·exact wk1 (x3 hk f s0) trivial
   ·exact wk1 (x3 hk f s1) trivial
  ·have f:(decide (r=0) && !inx)=false:=by
    rw [Bool.and_eq_false_iff]
    by_cases h:r=0
    ·exact .inr (by cases inx <;> simp_all)
    ·exact .inl (decide_eq_false h)
   by_cases hh:0 < H
   ·rw [if_pos ⟨hex,.inl hh⟩] at hm;subst hm;cases neg
    ·exact wk1 (x4 hk f s0 e2) trivial
    ·exact wk1 (x4 hk f s1 e2) trivial
   ·by_cases h0:H=0
    ·by_cases hodd:z % 2=1
     ·rw [if_pos ⟨hex,.inr ⟨h0,hodd⟩⟩] at hm;subst hm;have q3:(((z:Nat):Int).sign != 0)=true:=by rw [Int.sign_eq_one_of_pos (by omega)]; rfl
      have q4:(((tz z:Nat):Int) == 0)=true:=by rw [q9Y hodd]; rfl
      cases neg
      ·exact wk1 (x6 hk f q3 q4 s0 e2) trivial
      ·exact wk1 (x6 hk f q3 q4 s1 e2) trivial
     ·rw [if_neg fun h=>h.2.elim hh fun h=>hodd h.2,Nat.add_zero] at hm;subst hm
      by_cases hz0:m=0
      ·have q3:(((m:Nat):Int).sign != 0)=false:=by rw [hz0]; rfl
       cases neg
       ·exact wk1 (x4 hk f q3 s0) trivial
       ·exact wk1 (x4 hk f q3 s1) trivial
      ·have q3:(((m:Nat):Int).sign != 0)=true:=by rw [Int.sign_eq_one_of_pos (by omega)]; rfl
       have q4:(((tz m:Nat):Int) == 0)=false:=by
        rw [beq0];refine decide_eq_false fun h0=>hodd ?_;obtain ⟨r,hr,he⟩:=q2a hz0;rw [h0,Nat.pow_zero,Nat.mul_one] at he;omega
       cases neg
       ·exact wk1 (x5 hk f q3 q4 s0) trivial
       ·exact wk1 (x5 hk f q3 q4 s1) trivial
    ·rw [if_neg fun h=>h.2.elim hh fun h=>h0 h.1,Nat.add_zero] at hm;subst hm;cases neg
     ·exact wk1 (x3 hk f s0) trivial
     ·exact wk1 (x3 hk f s1) trivial
end
def qcB {a b:Int} (hA:q0b a) (hB:q0b b) (ha:a≠0) (hb:b≠0):∃ k:Nat,(bl (od b).natAbs+58 < bl ((od a).natAbs*2 ^ k)∧k≤140000∧bl ((od a).natAbs*2 ^ k)≤140000) ∧
  ACt 125 [dT a,dT b,iv 56] (reT (decide (a < 0) != decide (b < 0)) ((od a).natAbs*2 ^ k / (od b).natAbs) (dyE a-k-dyE b) (decide ((od a).natAbs*2 ^ k % (od b).natAbs≠0))):=by
 obtain ⟨ha1,ha2,ha3⟩:=q1E hA;obtain ⟨hb1,hb2,hb3⟩:=q1E hB;have hoa:=q3H ha;have hob:=q3H hb;rw [← q1y a,← q1y b];have C1:=@q2q;have C2:=@q8s;have C3:=@q4f;have C4:=@qbZ;have C5:=@q36;obtain ⟨p,hp⟩:∃ p,(od a).natAbs=p:=⟨_,rfl⟩;obtain ⟨r,hr⟩:∃ r,(od b).natAbs=r:=⟨_,rfl⟩;have hbp:=hp ▸ ha3;have hbr:=hr ▸ hb3;rw [hp,hr];have hp0:p≠0:=by omega
 have hr0:r≠0:=by omega
 obtain ⟨k,hk⟩:∃ k:Nat,max 0 (56+3+((bl r:Nat):Int)-((bl p:Nat):Int))=k:=⟨(max 0 (56+3+((bl r:Nat):Int)-((bl p:Nat):Int))).toNat,by omega⟩;have hbN:bl (p*2 ^ k)=bl p+k:=q1P hp0 k;refine ⟨k,⟨by omega,by omega,by omega⟩,?_⟩;have hsh:shI ((p:Nat):Int) (k:Int)=((p*2 ^ k:Nat):Int):=by
  unfold shI; rw [if_pos (by omega),Int.toNat_natCast,← q09]; simp
 have hml:bl (p*2 ^ k % r)≤300000:=Nat.le_trans (q0r (Nat.mod_le _ _)) Oq;have sE:(((p*2 ^ k % r:Nat):Int).sign != 0)=decide (p*2 ^ k % r≠0):=by
  by_cases h0:p*2 ^ k % r=0
  ·rw [h0]; rfl
  ·rw [decide_eq_true h0,bne_iff_ne];intro h; exact h0 (by have:=Int.sign_eq_zero_iff_zero.1 h; omega)
 refine ac0 Tryz.func125 Tryz.ntmps125 [.cell 6 147] ?_;exact wk1 (x6 hp hr @qjH hk hsh sE) trivial
def clD {l:List Int}:ClL (l.map fun x=>dT x):=fun x hx=>by
 obtain ⟨z,_,rfl⟩:=List.mem_map.1 hx;intro y hy;simp at hy
 rcases hy with rfl | rfl | rfl | rfl <;> trivial
def qcA {l:List Int} (hn:l.length≤1000) (ho:∀ x ∈ l,q0b x) (hv:q0b (q0v l)):ACt 126 [.sl (some 4) (l.map fun V=>pV V)] (dT (q0v l)):=by
 refine ac0 Tryz.func126 Tryz.ntmps126 [.cell 2 56] ?_;refine wk ?_;refine q0B (fun q:Nat × Int=>q.1≤l.length ∧ -65536≤q.2∧q.2≤0∧∀ x ∈ l.take q.1,q.2≤dyE x) [0,2,12,13] [2] Lk Lk (fun q=>[(14,iv q.1),(4,iv q.2),(3,.ow 1001 (some 4) 0 q.1)]) (fun q=>[(1001,⟨56,some 4,(l.take q.1).map fun x=>dT x,false⟩)]) (fun q=>l.length-q.1) (0,0) ⟨Nat.zero_le _,by omega,by omega,fun x hx=>by simp at hx⟩ ?_ ?_
 ·refine LeM [(1001,none)] rfl rfl ?_;refine Zz ?_
  rfl
 ·rintro ⟨i,lo⟩ ⟨hi,hlo1,hlo2,hmin⟩;simp only at hi hlo1 hlo2 hmin ⊢
  by_cases hlt:i < l.length
  ·obtain ⟨x,hxi⟩:∃ x,l[i]?=some x:=⟨_,List.getElem?_eq_getElem Oq⟩;have hox:=ho x (List.mem_of_getElem? hxi);obtain ⟨hd1,hd2,hd3⟩:=q1E hox;have C1:=qsp (by kernel_rfl) fun h=>qar h (V:=x);have htk:l.take (i+1)=l.take i ++ [x]:=by
    obtain ⟨hlt,he⟩:=List.getElem?_eq_some_iff.1 hxi;rw [List.take_succ_eq_append_getElem hlt,he]
   have ht:(l.take i).length=i:=by rw [List.length_take]; omega
   refine wk1 (x3 hxi @qjG ht) ?_;refine ⟨(i+1,min lo (dyE x)),⟨by simp only; omega,by simp only; omega,by simp only; omega,fun y hy=>?_⟩,by simp only; omega,?_⟩
   ·simp only at hy ⊢;rw [htk] at hy
    rcases List.mem_append.1 hy with hy | hy
    ·have:=hmin y hy; omega
    ·simp at hy; subst hy; omega
   ·simp only;refine LeM [(1001,some 33)] rfl rfl ?_;refine Zz ?_;exact ⟨by omega,q0R (by rw [htk,List.map_append]; rfl) clD⟩
  ·obtain rfl:i=l.length:=by omega
   rw [List.take_length] at hmin;refine wk ?_;refine q0B (fun q:Nat × Int=>q.1≤l.length∧q.2*(2:Int) ^ (lo+65536).toNat=q0v (l.take q.1)) [2,4,9,35,36] [2,1001] Lk Lk (fun q=>[(37,iv q.1)]) (fun q=>[(9,⟨54,some 2,[bT q.2],false⟩)]) (fun q=>l.length-q.1) (0,0) ⟨Nat.zero_le _,by rw [Int.zero_mul]; rfl⟩ ?_ ?_
   ·refine LeM [] rfl rfl ?_;refine Zz ?_;exact ⟨rfl,rfl,q0R rfl clD⟩
   ·rintro ⟨j,tot⟩ ⟨hj,hs⟩;simp only at hj hs ⊢;have hbs:=qi6 (i:=j) ho Oq;have hbt:=q3i hs
    by_cases hlt:j < l.length
    ·obtain ⟨x,hxi⟩:∃ x,l[j]?=some x:=⟨_,List.getElem?_eq_getElem Oq⟩;have hox:=ho x (List.mem_of_getElem? hxi);obtain ⟨hd1,hd2,hd3⟩:=q1E hox;have hst:=q5C l j x hxi;have hlo:=hmin x (List.mem_of_getElem? hxi);have hsh:shI (od x) (dyE x-lo)=od x*(2:Int) ^ (dyE x-lo).toNat:=by unfold shI; rw [if_pos (by omega)]
     have hlf:=q3I (V:=x) (E:=lo) Oq Oq;have hb12:=q3i hlf;have hbx:bl x.natAbs≤131072:=hox;have C1:=@q4f;have C2:=@qdf;refine wk1 (x2 hxi hsh) ?_;refine ⟨(j+1,tot+od x*(2:Int) ^ (dyE x-lo).toNat),⟨by simp only; omega,by simp only; rw [hst,Int.add_mul,hs,hlf]⟩,by simp only; omega,?_⟩;simp only;refine LeM [] rfl rfl ?_;refine Zz ?_;exact ⟨by omega,q0R rfl clD⟩
    ·obtain rfl:j=l.length:=by omega
     rw [List.take_length] at hs hbs hbt;have C1:=@q6N;have hmk:mkV tot lo=some (q0v l):=by rw [q6h (by omega) hs]; exact q2o hv
     exact wk trivial
def fOk {f:Nat} {V:Int} (hv:ofF f=some V):q0b V:=by
 have hfin:q0Q f:=fun h=>by unfold ofF at hv; rw [if_pos h] at hv; cases hv
 obtain ⟨V',hv',hmk⟩:=q6f hfin;rw [hv] at hv'; cases hv';exact (q5O hmk).2.2.2
section
variable {f:Nat} {neg:Bool}
def q5X (hf:f < 18446744073709551616):ACt 127 [uv f] (.tu [iv (f / 4503599627370496 % 2048:Nat),uv (f % 4503599627370496:Nat)]):=by
 have h1:=q3l (a:=f / 4503599627370496) Oq;have h2:=q7C hf;refine ac0 Tryz.func127 Tryz.ntmps127 [.tmp 2,.tmp 3] ?_;exact wk1 (x2 h1 h2) trivial
def qmP (hf:f < 18446744073709551616):ACt 129 [uv f] (bv (decide (9223372036854775808≤f))):=by
 have h2:=qdQ hf;refine ac0 Tryz.func129 Tryz.ntmps129 [.tmp 2] ?_;exact wk1 h2 trivial
def q6A (hf:f < 9223372036854775808):ACt 196 [uv f,bv neg] (uv (sb neg f:Nat)):=by
 have h:=qdM hf;refine ac0 Tryz.func196 Tryz.ntmps196 [.tmp 4] ?_;cases neg
 ·exact wk1 (show sb false f=f from rfl) trivial
 ·exact wk1 (x2 h (show sb true f=f+9223372036854775808 from rfl)) trivial
def q4J (hf:f < 18446744073709551616):ACt 64 [uv f] (bv (decide (q0Q f))):=by
 have C1:=q5X hf;have h2:(((f / 4503599627370496 % 2048:Nat):Int) != 2047)=decide (q0Q f):=qsF (b:=2047);refine ac0 Tryz.func64 Tryz.ntmps64 [.tmp 2] ?_;exact wk1 h2 trivial
def qh2:ACt 197 [bv neg,iv 0] (uv (qfS 0 neg:Nat)):=by
 have C1:=q6A (f:=9218868437227405312) (neg:=neg) Oq;have e:qfS 0 neg=sb neg 9218868437227405312:=by simp [qfS]
 refine ac0 Tryz.func197 Tryz.ntmps197 [.tmp 4] ?_;exact wk1 e trivial
def q6B {V:Int} (hf:f < 18446744073709551616) (hv:ofF f=some V):ACt 63 [uv f] (dT V):=by
 have hfin:q0Q f:=fun h=>by unfold ofF at hv; rw [if_pos h] at hv; cases hv
 obtain ⟨V',hv',hmk⟩:=q6f hfin;rw [hv] at hv'; cases hv';have C1:=q5X hf;have C2:=qmP hf;have C3:=@q3L;have C4:=@q8p;have C5:=@q6N;have hxm:=Nat.mod_lt (f / 4503599627370496) (show 0 < 2048 by omega);have hm:=Nat.mod_lt f (show 0 < 4503599627370496 by omega);unfold q0Q at hfin;generalize f / 4503599627370496 % 2048=x at *;generalize f % 4503599627370496=m at *;generalize decide (9223372036854775808≤f)=sg at *;have h4:=qiv hm;obtain ⟨M,hM⟩:∃ M,M=if x=0 then m else 4503599627370496+m:=⟨_,rfl⟩
 have hMl:M < 9007199254740992:=by rw [hM]; split <;> omega
 have hbl:bl M≤53:=q0N (show M < 2 ^ 53 by omega);have hbn:bl (-(M:Int)).natAbs≤53:=by rw [Int.natAbs_neg]; exact hbl
 refine ac0 Tryz.func63 Tryz.ntmps63 [.cell 2 56] ?_
 by_cases hx0:x=0
 ·rw [if_pos hx0] at hM;subst hM;rw [if_pos hx0,if_pos hx0] at hmk;cases sg
  ·exact wk trivial
  ·exact wk trivial
 ·rw [if_neg hx0] at hM;rw [if_neg hx0,if_neg hx0,← hM] at hmk;rw [← hM] at h4;cases sg
  ·exact wk1 h4 trivial
  ·exact wk1 h4 trivial
end
def qle {a:Int} {s:Bool} (hs:s=decide (a < 0)) (h0:0≤a) (ha:a≤9223372036854775807):ACt 193 [sT s a] (.tu [iv a,bv true]):=q2u (qgd hs h0 ha)
def q5W {N M:Nat} {neg:Bool} {e:Int} (hM:0 < M) (hN:M≤N) (hmb:N % M≠0→55≤bl (N / M)) (hb:bl (N / M)≤200000) (he1 : -400000≤e) (he2:e≤400000):ACt 124 [reT neg (N / M) e (decide (N % M≠0)),iv 0] (uv (rE 0 neg N M e:Nat)):=by
 have hp:=Nat.div_pos hN hM;have hL1:=q4Y (n:=N / M) Oq;have hval:=qdF (mode:=0) (neg:=neg) (e:=e) hM hN;have hnle:=qlF (mode:=0) (neg:=neg) (e:=e) (q:=max (e+(bl (N / M):Int)-53) (-1074)) hM hN Oq;have hmul:=qlU (neg:=neg) (e:=e) (p:=max (e+(bl (N / M):Int)-53) (-1074)) hM (fun h=>by have:=hmb h; omega);have C1:=qf3 (neg:=neg) (q:=N / M) (e:=e) (inx:=decide (N % M≠0)) Oq Oq Oq;obtain ⟨L,hL⟩:∃ L,bl (N / M)=L:=⟨_,rfl⟩;rw [hL] at hmb hb hval hnle hmul hL1 C1;obtain ⟨q,hq⟩:∃ q,max (e+(L:Int)-53) (-1074)=q:=⟨_,rfl⟩;rw [hq] at hval hnle hmul;have hq':max (e+(L:Int)-1-52) (-1074)=q:=by omega
 have C2:=qf2 (neg:=neg) (inx:=decide (N % M≠0)) (q:=N / M) (e:=e) (p:=q) Oq Oq Oq Oq Oq Oq;rw [hmul] at C2;obtain ⟨r,hr⟩:∃ r,rq 0 neg (N*2 ^ (e-q).toNat) (M*2 ^ (q-e).toNat)=r:=⟨_,rfl⟩;rw [hr] at hval hnle C2;have hbr:bl r≤54:=q0N (Nat.lt_of_le_of_lt hnle (by decide));have hsn:=q12 neg r;have hbs:bl (sgn neg r).natAbs≤54:=by rw [hsn]; exact hbr
 have C3:=@q8s;have C4:=@qle;have C5:=@q6A;have C6:=@qh2;have e2:IntKind.u64.wrap ((r:Nat):Int)=r:=u64_in Oq Oq;rw [hval];generalize N / M=d at *;generalize decide (N % M≠0)=ix at *;clear hmul hmb hp hval hr;unfold Go.Sp.fin Go.Sp.q8x;have comp:∀ (q2:Int) (n2:Nat),0≤q2+1075→¬ 2047≤q2+1075→4503599627370496≤n2→n2 < 9007199254740992→∃ x:Nat,q2+1075=x∧(q2+1075).toNat=x∧IntKind.u64.wrap (x:Int)=x∧(q0n Tryz.prog .shl 43 (.int .u64 (x:Int)) (.int .u64 52)=some (.int .u64 ((x*4503599627370496:Nat):Int)))∧IntKind.u64.wrap ((n2:Int)-4503599627370496)=((n2-4503599627370496:Nat):Int)∧q0l .or .u64 ((x*4503599627370496:Nat):Int) ((n2-4503599627370496:Nat):Int)=((x*4503599627370496+(n2-4503599627370496):Nat):Int)∧x*4503599627370496+(n2-4503599627370496) < 9223372036854775808:=fun q2 n2 h1 h2 h3 h4 =>
  ⟨(q2+1075).toNat,by omega,rfl,u64_in (by omega) (by omega),q9a (by omega),by rw [u64_in (by omega) (by omega)]; omega,qiw (by omega) (by omega),by omega⟩
 refine ac0 Tryz.func124 Tryz.ntmps124 [.tmp 4] ?_
 by_cases h53:r=9007199254740992
 ·rw [if_pos h53,if_neg (by omega)]
  by_cases hov:2047≤q+1+1075
  ·rw [if_pos hov];exact wk1 (x3 hq' hsn e2) trivial
  ·rw [if_neg hov];obtain ⟨x,f1,f2,f3,f4,f5,f6,f7⟩:=comp (q+1) 4503599627370496 Oq hov Oq Oq;rw [f2,Nat.sub_self,Nat.add_zero];rw [Nat.sub_self,Nat.add_zero] at f6 f7;replace f5:IntKind.u64.wrap (4503599627370496-4503599627370496)=0:=f5;replace f6:q0l .or .u64 ((x*4503599627370496:Nat):Int) 0=((x*4503599627370496:Nat):Int):=f6;exact wk1 (x6 hq' hsn e2 f1 f3 (x3 f4 f5 f6)) trivial
 ·rw [if_neg h53]
  by_cases h52:r < 4503599627370496
  ·rw [if_pos h52];exact wk1 (x3 hq' hsn e2) trivial
  ·rw [if_neg h52]
   by_cases hov:2047≤q+1075
   ·rw [if_pos hov];exact wk1 (x3 hq' hsn e2) trivial
   ·rw [if_neg hov];obtain ⟨x,f1,f2,f3,f4,f5,f6,f7⟩:=comp q r Oq hov Oq Oq;rw [f2];exact wk1 (x6 hq' hsn e2 f1 f3 (x3 f4 f5 f6)) trivial
def qeO {a b:Int} (hA:q0b a) (hB:q0b b) (hb0:b≠0):ACt 61 [dT a,dT b,iv 0] (uv (fQ 0 a b:Nat)):=by
 have C1:=q6M hA;have C2:=q6M hB;have C3:=q3U hA;have C4:=q3U hB;have q1:(b.sign == 0)=false:=by
  rw [beq_eq_false_iff_ne]; intro h; exact hb0 (Int.sign_eq_zero_iff_zero.1 h)
 refine ac0 Tryz.func61 Tryz.ntmps61 [.tmp 6] ?_
 by_cases ha0:a=0
 ·have q2:(a.sign == 0)=true:=by rw [ha0]; rfl
  rw [show ((fQ 0 a b:Nat):Int)=0 by rw [show fQ 0 a b=0 from if_pos ha0]; rfl];exact wk1 (x2 q1 q2) trivial
 ·have q2:(a.sign == 0)=false:=by
   rw [beq_eq_false_iff_ne]; intro h; exact ha0 (Int.sign_eq_zero_iff_zero.1 h)
  obtain ⟨k,⟨c1,c2,c3⟩,C5⟩:=qcB hA hB ha0 hb0;have hob:=q3H hb0;have hd1:=q1E hA;have hd2:=q1E hB;have hge:=q8M (N:=(od a).natAbs*2 ^ k) (M:=(od b).natAbs) Oq (k:=57) Oq;have hle:bl ((od a).natAbs*2 ^ k / (od b).natAbs)≤140000:=Nat.le_trans (q0r (Nat.div_le_self _ _)) c3;have hMN:(od b).natAbs≤(od a).natAbs*2 ^ k:=by
   rcases Nat.lt_or_ge ((od a).natAbs*2 ^ k) (od b).natAbs with h | h
   ·have:=q0r (Nat.le_of_lt h); omega
   ·exact h
  have C6:=q5W (neg:=decide (a < 0) != decide (b < 0)) (e:=dyE a-k-dyE b) Oq hMN (fun _=>by omega) Oq Oq Oq;rw [qis ha0 hb0,show rF 0 (decide (a < 0) != decide (b < 0)) a.natAbs b.natAbs=fQ 0 a b from (if_neg ha0).symm] at C6;exact wk1 (x2 q1 q2) trivial
end Go.Proofs.YtjfjjmfhfbapeaaGreatDoor
namespace Go.E
open Go
section
variable {G:Fam} {D:Nat→Prop} {A:Option Addr} {v:Value} {w w':World} {L:List Nat} {α:Type} {H:α→Fam} {T sz B n c:Nat} {l:List α}
def q3R.blk_lt (h:q3R H T sz w D B A n c l):∀ a,A=some a→a.block < w.heap.size∧B≤a.block:=by
 obtain ⟨vs,h1,_⟩:=h;exact h1.blk_lt
def q3R.nb (h:q3R H T sz w D B A n c l) {k:Nat} (hk:k < B):nb A k:=fun a ha=>by have:=h.blk_lt a ha; omega
def q3R.under {w0:World} (h:q3R H T sz w D B A n c l) (hx:Ext w0 w) (k:Kp (Go.E.nb A) w w') (hB:w0.heap.size≤B):Ext w0 w':=hx.under k fun j hj=>h.nb Oq
end
end Go.E
namespace Go.Proofs.YtjfjjmfhfbapeaaGreatDoor
open Go Go.E Go.Sp
def qrx (a b c d:Value):bsV Tryz.prog 64 1 [(0,.agg #[a,b,c,d])]=some (56,#[a,b,c,d]):=by
 unfold bsV;simp only [qmR];have hr:Array.range 4=#[0,1,2,3]:=rfl;simp [Instr.fill,Value.cells,hr]
section
variable {f:Nat} {w:World}
def qgL (hf:f < 18446744073709551616):Calls Tryz.prog 127 #[.int .u64 f] w fun e w'=>e=.returned (.tuple #[.int .i64 (f / 4503599627370496 % 2048:Nat),.int .u64 (f % 4503599627370496:Nat)])∧w=w':=by
 refine q13 Tryz.func127 rfl Tryz.ntmps127 (by kernel_rfl) ?_;refine Wz ?_;have h1:=q3l (a:=f / 4503599627370496) Oq;have h2:=q7C (a:=f) hf;have h3:IntKind.i64.wrap ((f / 4503599627370496 % 2048:Nat):Int)=((f / 4503599627370496 % 2048:Nat):Int):=i64_in Oq Oq;refine Wz3 h1 h2 h3 ?_;refine q57 ?_
 try simp only [q1u,q5f]
 refine ret2 rfl ⟨by simp only [q2F,Nat.reduceEqDiff,↓reduceIte],rfl⟩
def q8A (hf:f < 18446744073709551616):Calls Tryz.prog 64 #[.int .u64 f] w fun e w'=>e=.returned (.bool (decide (q0Q f)))∧w=w':=by
 refine q13 Tryz.func64 rfl Tryz.ntmps64 (by kernel_rfl) ?_;refine Wz ?_;refine q0S fun K hK=>?_;refine Zz ?_;refine q1A qj6 (qgL hf) ?_;rintro _ _ ⟨rfl,rfl⟩; refine ⟨_,rfl,?_⟩;have h2:(((f / 4503599627370496 % 2048:Nat):Int) != 2047)=decide (q0Q f):=qsF (b:=2047);refine Zz ?_;refine hK _ _ ?_; clear hK;refine Wz1 h2 ?_;refine q57 ?_
 try simp only [q1u,q5f]
 refine qnv rfl ⟨by simp only [q2F,Nat.reduceEqDiff,↓reduceIte],rfl⟩
end
section
variable {g:FuncId} {al:List PV} {vs:List Value} {V:Int} {c:Value} {D:Nat→Prop} {w:World} {v v':Value} {a b:Int}
def acV (h:ACt g al (dT V)) (ho:q0b V) (hT:q2E w) (hF:Fr D w) (hR:RdL w D al (fun _=>none) h0 vs):Calls Tryz.prog g vs.toArray w (Rt (fV V) D w):=(h.2 D w vs hT hF hR).mono fun x w' ⟨v,h1,h2,h3⟩=>⟨v,h1,h2,q2s.1 ⟨h3,ho⟩⟩
def acK (h:ACt g al (.vl c)) (hT:q2E w) (hF:Fr D w) (hR:RdL w D al (fun _=>none) h0 vs):Calls Tryz.prog g vs.toArray w fun e w'=>e=.returned c∧Ext w w':=(h.2 D w vs hT hF hR).mono fun x w' ⟨v,h1,h2,h3⟩=>⟨by rw [h1,q9i h3],h2⟩
def rdV (h:In (fV V) D v w):Rd w D (dT V) (fun _=>none) h0 v:=(q2s.2 h).1
def RdL.two {x y:PV} (h1:Rd w D x (fun _=>none) h0 v) (h2:Rd w D y (fun _=>none) h0 v'):RdL w D [x,y] (fun _=>none) h0 [v,v']:=by
 unfold RdL;exact ⟨_,_,rfl,h1,RdL.one h2⟩
def qh3 {f:Nat} (hT:q2E w) (hf:f < 18446744073709551616) (hv:ofF f=some V) (hfr:Fr D w):Calls Tryz.prog 63 #[.int .u64 f] w (Rt (fV V) D w):=acV (q6B hf hv) (fOk hv) hT hfr (RdL.one q42)
def qrV (hT:q2E w) (h:In (fV a) D v w) (h':In (fV b) D v' w) (hv:mkV (a*b) (-131072)=some V) (hf:Fr D w):Calls Tryz.prog 133 #[v,v'] w (Rt (fV V) D w):=acV (qcD h.ok h'.ok hv) (q5O hv).2.2.2 hT hf (RdL.two (rdV h) (rdV h'))
def qrU (hT:q2E w) (h:In (fV V) D v w) (hf:Fr D w):Calls Tryz.prog 132 #[v] w (Rt (fV (-V)) D w):=acV (qcC h.ok) (qaU h.ok) hT hf (RdL.one (rdV h))
def qqu (hT:q2E w) (h:In (fV a) D v w) (h':In (fV b) D v' w) (hb0:b≠0) (hf:Fr D w):Calls Tryz.prog 61 #[v,v',.int .i64 0] w fun x w'=>x=.returned (.int .u64 (fQ 0 a b:Nat))∧Ext w w':=acK (qeO h.ok h'.ok hb0) hT hf (by
 unfold RdL;exact ⟨_,_,rfl,rdV h,RdL.two (rdV h') q42⟩)
def qrT {A:Option Addr} {n c:Nat} {l:List Int} (hT:q2E w) (h:In (fSl 4 fV l) D (.slice A n c) w) (hn:n≤1000) (ho:∀ x ∈ l,q0b x) (hv:q0b (q0v l)) (hf:Fr D w) :
  Calls Tryz.prog 126 #[.slice A n c] w (Rt (fV (q0v l)) D w):=by
 have hl:=h.sl_len;obtain ⟨_,_,_,vs,e,h1,⟨h2,h3⟩,h4⟩:=h;cases e;refine acV (qcA Oq ho hv) hv hT hf (RdL.one ?_);unfold Rd;refine ⟨A,n,c,vs,rfl,h1,by simpa using h4,RdL.iff.2 ⟨by simpa using h2.symm,fun i x v hx hv=>?_⟩,fun v hv=>?_⟩
 ·rw [List.getElem?_map] at hx;obtain ⟨V,hV,rfl⟩:=Option.map_eq_some_iff.1 hx;obtain ⟨u,hu,q1,_⟩:=h3 i V hV;rw [hv] at hu; cases hu;exact q8e q1
 ·obtain ⟨i,hi,rfl⟩:=List.getElem_of_mem hv;obtain ⟨u,hu,q1,_⟩:=h3 i l[i] (List.getElem?_eq_getElem Oq);rw [List.getElem?_eq_getElem hi] at hu;cases hu;exact fitV _ _ _ q1
end
def q2X (l:List Nat):Prop:=∀ f ∈ l,f < 18446744073709551616∧q0Q f
section
variable {D:Nat→Prop} {A:Option Addr} {n c:Nat} {l:List Nat} {w:World}
def ownSc {w:World} {B E n c:Nat} {A:Option Addr} {α:Type} {f:α→Value} {l:List α} {D:Nat→Prop} (h:Own w B E 1 A n c (l.map f)) (hd:∀ k,B≤k→D k):In (fSc f l) D (.slice A n c) w:=⟨A,n,c,rfl,h.row.sub fun k _ hk=>hd k hk⟩
def q82 (n:Nat):List Int:=(List.range n).map fun k:Nat=>(k:Int)
def qcJ (n:Nat):q82 (n+1)=q82 n ++ [(n:Int)]:=by unfold q82; rw [List.range_succ,List.map_append]; rfl
def q9W (n:Nat):(q82 n).length=n:=by simp [q82]
end
end Go.Proofs.YtjfjjmfhfbapeaaGreatDoor
namespace Go.E
open Go
def qc2 {P:Program} {w:World} {T E Bd g n c:Nat} {xs:List Value} {v:Value} (h:Own w Bd E 1 (some ⟨g,0,none⟩) n c xs) {j:Nat} (hj:j < n) (hs:q0W P T=some 1) (hv:v.cells=#[v]) (h1:v.oneCell'=true) {K:World→Prop}
  (hK:∀ w',Own w' Bd E 1 (some ⟨g,0,none⟩) n c (xs.set j v)→Kp (fun k=>k≠g) w w'→w'.heap.size=w.heap.size→K w'):q4T P T w (.pointer (some ⟨g,j,none⟩)) v K:=by
 have hl:xs.length=n:=by have:=h.len; simpa using this
 obtain ⟨g',hg,hb,hc,hfz⟩:=h.cell (j:=j) Oq;cases hg;rw [q94,hv];refine ⟨hs,⟨?_,?_,h1,trivial⟩,?_⟩
 ·rw [q08,Nat.add_zero,hc]; rfl
 ·rw [q08,Nat.add_zero]; exact hfz
 ·refine hK _ ?_ ?_ ?_
  ·have:=h.set j v;simpa [stN,q08] using this
  ·simp only [stN,q08,Nat.add_zero];exact Kp.setCell w (fun _ h=>h rfl) v
  ·simp [stN,World.setCell]
end Go.E
namespace Go.Proofs.YtjfjjmfhfbapeaaGreatDoor
open Go Go.E Go.Sp
def qjN (l:List Int):Prop:=(∀ x ∈ l,0≤x∧x < l.length)∧l.Nodup
section
variable {D:Nat→Prop} {A:Option Addr} {n c:Nat} {l:List Int} {w:World}
end
end Go.Proofs.YtjfjjmfhfbapeaaGreatDoor
namespace Go.E
open Go Go.Sp
section
variable {D:Nat→Prop} {A:Option Addr} {n c:Nat} {w:World}
def In.ixI {l:List Int} (h:In (fSc q2y l) D (.slice A n c) w) {i:Nat} {x:Int} (hi:l[i]?=some x):∃ ad,A=some ad∧((0:Int)≤(i:Int)∧(i:Int) < n)∧w.cell? (ad.add i)=some (.int .i64 x):=by
 obtain ⟨hlt,he⟩:=List.getElem?_eq_some_iff.1 hi;obtain ⟨ad,hA,hc⟩:=h.sc_get hlt;have:=h.sc_len;exact ⟨ad,hA,by omega,by rw [hc,he]; rfl⟩
def In.ixU {l:List Nat} (h:In (fSc q3Y l) D (.slice A n c) w) {i:Nat} {x:Nat} (hi:l[i]?=some x):∃ ad,A=some ad∧((0:Int)≤(i:Int)∧(i:Int) < n)∧w.cell? (ad.add i)=some (.int .u64 (x:Int)):=by
 obtain ⟨hlt,he⟩:=List.getElem?_eq_some_iff.1 hi;obtain ⟨ad,hA,hc⟩:=h.sc_get hlt;have:=h.sc_len;exact ⟨ad,hA,by omega,by rw [hc,he]; rfl⟩
end
end Go.E
namespace Go.Proofs.YtjfjjmfhfbapeaaGreatDoor
open Go Go.E Go.Sp
structure Fac where
 pm:List Int
 cp:List Int
 ri:List Int
 vs:List Nat
structure Col (f:Fac) (j a b:Nat):Prop where
 ha:f.cp[j]?=some (a:Int)
 hb:f.cp[j+1]?=some (b:Int)
 lt:a < b
 le:b≤f.ri.length
 first:f.ri[a]?=some (j:Int)
 last:∃ z:Int,f.ri[b-1]?=some z∧z < f.pm.length
 inc:∀ i,a < i→i < b→∃ y z:Int,f.ri[i-1]?=some y∧f.ri[i]?=some z∧y < z
 diag:∃ (x:Nat) (V:Int),f.vs[a]?=some x∧ofF x=some V∧0 < V
structure FacOk (f:Fac):Prop where
 perm:qjN f.pm
 n:f.pm.length≤200
 cpl:f.cp.length=f.pm.length+1
 ril:f.ri.length=f.vs.length
 rib:f.ri.length≤1000000
 c0:f.cp[0]?=some 0
 cn:f.cp[f.pm.length]?=some (f.ri.length:Int)
 col:∀ j,j < f.pm.length→∃ a b,Col f j a b
 vals:q2X f.vs
def qqw (f:Fac):Fam:=⟨fun D v w=>∃ a b c d,v=.agg #[a,b,c,d]∧(fSc q2y f.pm).p D a w∧(fSc q2y f.cp).p D b w∧(fSc q2y f.ri).p D c w∧(fSc q3Y f.vs).p D d w,fun k ⟨a,b,c,d,e,h1,h2,h3,h4⟩=>⟨a,b,c,d,e,(fSc q2y f.pm).kp k h1,(fSc q2y f.cp).kp k h2,(fSc q2y f.ri).kp k h3,(fSc q3Y f.vs).kp k h4⟩,fun k ⟨a,b,c,d,e,h1,h2,h3,h4⟩=>⟨a,b,c,d,e,(fSc q2y f.pm).sub k h1,(fSc q2y f.cp).sub k h2,(fSc q2y f.ri).sub k h3,(fSc q3Y f.vs).sub k h4⟩⟩
def qeL {D:Nat→Prop} {f:Fac} {v:Value} {w:World} (h:In (qqw f) D v w):∃ A1 n1 c1 A2 n2 c2 A3 n3 c3 A4 n4 c4,v=.agg #[.slice A1 n1 c1,.slice A2 n2 c2,.slice A3 n3 c3,.slice A4 n4 c4]∧In (fSc q2y f.pm) D (.slice A1 n1 c1) w∧In (fSc q2y f.cp) D (.slice A2 n2 c2) w∧In (fSc q2y f.ri) D (.slice A3 n3 c3) w∧In (fSc q3Y f.vs) D (.slice A4 n4 c4) w:=by
 obtain ⟨a,b,c,d,rfl,h1,h2,h3,h4⟩:=h;obtain ⟨A1,n1,c1,rfl,r1⟩:=h1;obtain ⟨A2,n2,c2,rfl,r2⟩:=h2;obtain ⟨A3,n3,c3,rfl,r3⟩:=h3;obtain ⟨A4,n4,c4,rfl,r4⟩:=h4;exact ⟨_,_,_,_,_,_,_,_,_,_,_,_,rfl,⟨_,_,_,rfl,r1⟩,⟨_,_,_,rfl,r2⟩,⟨_,_,_,rfl,r3⟩,⟨_,_,_,rfl,r4⟩⟩
def slv (s:Option Addr × Nat × Nat):Value:=.slice s.1 s.2.1 s.2.2
structure Sums (w:World) (D:Nat→Prop) (L:List Nat) (N0 g n:Nat) (rows:List (List Int)) (ss:List (Option Addr × Nat × Nat)):Prop where
 own:Own w N0 64 1 (some ⟨g,0,none⟩) n n (ss.map slv)
 len:ss.length=rows.length
 row:∀ (i:Nat) (s:Option Addr × Nat × Nat) (r:List Int),ss[i]?=some s→rows[i]?=some r→q3R fV 56 4 w (Dl D L) N0 s.1 s.2.1 s.2.2 r
 mem:∀ (i:Nat) (s:Option Addr × Nat × Nat) (a:Addr),ss[i]?=some s→s.1=some a→a.block ∈ L∧a.block≠g
 ne:∀ (i j:Nat) (s t:Option Addr × Nat × Nat) (a b:Addr),i≠j→ss[i]?=some s→ss[j]?=some t→s.1=some a→t.1=some b→a.block≠b.block
 gL:g ∈ L
 lo:∀ k ∈ L,N0≤k
 hi:∀ k ∈ L,k < w.heap.size
def qn9 {α:Type} {G:α→Fam} {T sz B n c:Nat} {A:Option Addr} {w:World} {D D':Nat→Prop} {l:List α} (h:q3R G T sz w D' B A n c l) (h1:∀ k,D' k→D k) (h2:∀ k,B≤k→D k):In (fSl sz G l) D (.slice A n c) w:=by
 obtain ⟨vs,a1,a2,a3⟩:=h;exact ⟨A,n,c,vs,rfl,a1.row.sub fun k _ hk=>h2 k hk,a2.sub fun k _ hk=>h1 k hk.1,a3⟩
section
variable {D:Nat→Prop} {L:List Nat} {N0 g n:Nat} {rows:List (List Int)} {ss:List (Option Addr × Nat × Nat)} {w w':World}
def Sums.ext (h:Sums w D L N0 g n rows ss) (k:Ext w w'):Sums w' D L N0 g n rows ss :=
 ⟨h.own.ext k,h.len,fun i s r a b=>(h.row i s r a b).ext k,h.mem,h.ne,h.gL,h.lo,fun j hj=>Nat.lt_of_lt_of_le (h.hi j hj) k.size⟩
def Sums.sub {D':Nat→Prop} (h:Sums w D L N0 g n rows ss) (hd:∀ k,k < w.heap.size→D k→D' k):Sums w D' L N0 g n rows ss :=
 ⟨h.own,h.len,fun i s r a b=>by
  obtain ⟨vs,a1,a2,a3⟩:=h.row i s r a b;exact ⟨vs,a1,a2.sub fun k hk hq=>⟨⟨hd k hk hq.1.1,hq.1.2⟩,hq.2⟩,a3⟩,h.mem,h.ne,h.gL,h.lo,h.hi⟩
def Sums.get (h:Sums w D L N0 g n rows ss) {i:Nat} {r:List Int} (hr:rows[i]?=some r) (hD:∀ k,N0≤k→D k):∃ A m c,ss[i]?=some (A,m,c)∧i < n∧w.cell? ⟨g,i,none⟩=some (.slice A m c)∧In (fSl 4 fV r) D (.slice A m c) w:=by
 have hlt:=(List.getElem?_eq_some_iff.1 hr).1;have hlen:=h.len;have hn:ss.length=n:=by have:=h.own.len; simpa using this
 obtain ⟨⟨A,m,c⟩,hs⟩:∃ s,ss[i]?=some s:=⟨_,List.getElem?_eq_getElem Oq⟩;obtain ⟨g',hg,_,hc,_⟩:=h.own.cell (j:=i) (by simp; omega);cases hg;refine ⟨A,m,c,hs,by omega,?_,qn9 (h.row i _ r hs hr) (fun k hk=>hk.1) hD⟩;rw [hc];obtain ⟨h1,h2⟩:=List.getElem?_eq_some_iff.1 hs;simp [h2,slv]
def qfd {i:Nat} {r:List Int} (hT:q2E w) (hS:Sums w D L N0 g n rows ss) (hr:rows[i]?=some r) (hl:r.length≤1000) (ho:∀ x ∈ r,q0b x) (hv:q0b (q0v r)) (hD0:∀ k,N0≤k→D k) (hf:Fr D w) :
  Calls Tryz.prog 62 #[.slice (some ⟨g,0,none⟩) n n,.int .i64 i] w (Rt (fV (q0v r)) D w):=by
 obtain ⟨A,m,c,_,hin,hcell,hrow⟩:=hS.get hr hD0;have hm:=hrow.sl_len;refine q13 Tryz.func62 rfl Tryz.ntmps62 (by kernel_rfl) ?_;refine q0S fun K hK=>?_;refine Zz ?_;refine qjf ?_;intro g4 w4 hg4 hx4 hb4 hs4;refine hK _ _ ?_; clear hK K;have hx:Ext w w4:=hx4;replace hrow:=(hrow.nL (L:=[g4]) (by intro g hg; simp at hg; omega)).ext hx;have hD:Fr (Dl D [g4]) w4:=hf.nL hx (by intro g hg; simp at hg; omega);clear hx4;have hcell':w4.cell? ⟨g,i,none⟩=some (.slice A m c):=hx.cell (D:=fun _=>True) trivial hcell;have e1:(0:Int)≤i∧(i:Int) < n:=by omega
 refine q0S fun K hK=>?_;refine Zz2 e1 hcell' ?_;refine Cr qj7 (qrT (hT.ext hx) hrow Oq ho hv hD) fun v5 w5 hx5 h5=>?_;replace hrow:=hrow.ext hx5;replace hb4:=hb4.ext hx5;replace hD:=hD.kp hx5;replace hx:=hx.trans hx5;clear hx5;refine qpA hb4 qpU rfl (fV_s h5) fun w90 hk90 hb90=>?_;refine hK _ _ ?_; clear hK;refine q57 ?_
 try simp only [q1u,q5f]
 exact retS rfl Rf qsi hb90 (fV_s h5) (Rt.fin hx h5 hk90 (by simp) Oq)
end
def qah {α:Type} {G:α→Fam} {T sz B n c:Nat} {A:Option Addr} {w:World} {D D':Nat→Prop} {l:List α} (h:q3R G T sz w D B A n c l) (h1:∀ k,k < w.heap.size→D k→nb A k→D' k):q3R G T sz w D' B A n c l:=by
 obtain ⟨vs,a1,a2,a3⟩:=h;exact ⟨vs,a1,a2.sub fun k hk hd=>⟨h1 k hk hd.1 hd.2,hd.2⟩,a3⟩
section
variable {D:Nat→Prop} {L:List Nat} {N0 g n i:Nat} {rows:List (List Int)} {ss:List (Option Addr × Nat × Nat)} {w w2 w3:World} {A A':Option Addr} {m c m' c':Nat} {r r':List Int}
def q1Q {α:Type} {l:List α} {i j:Nat} {x y:α} (hj:(l.set i x)[j]?=some y):(i=j∧y=x∧i < l.length)∨(i≠j∧l[j]?=some y):=by
 by_cases h:i=j
 ·subst h
  rcases Nat.lt_or_ge i l.length with h1 | h1
  ·rw [List.getElem?_set_self h1] at hj;exact .inl ⟨rfl,(Option.some.inj hj).symm,h1⟩
  ·rw [List.getElem?_eq_none (by simpa using h1)] at hj; cases hj
 ·rw [List.getElem?_set_ne h] at hj;exact .inr ⟨h,hj⟩
def Sums.push (h:Sums w D L N0 g n rows ss) (hs:ss[i]?=some (A,m,c)) (hO:q3R fV 56 4 w2 (Dl D L) N0 A' m' c' r') (hk:Kp (nb A) w w2) (hat:A'=A∨∃ g',w.heap.size≤g'∧A'=some ⟨g',0,none⟩)
  (ho:Own w3 N0 64 1 (some ⟨g,0,none⟩) n n ((ss.set i (A',m',c')).map slv)) (hk3:Kp (fun k=>k≠g) w2 w3) (hs3:w3.heap.size=w2.heap.size) :
  ∃ L',(∀ k ∈ L,k ∈ L')∧(∀ k ∈ L',k ∈ L∨w.heap.size≤k)∧Sums w3 D L' N0 g n (rows.set i r') (ss.set i (A',m',c')):=by
 have hgs:=h.hi g h.gL;have hgl:=h.lo g h.gL;have hsz:=hk.size;have hnA:∀ k,k ∉ L→nb A k:=fun k hk a ha he=>hk (by have:=(h.mem i _ a hs ha).1; rw [he] at this; exact this);have hother:∀ (j:Nat) (s:Option Addr × Nat × Nat) (q:List Int),i≠j→ss[j]?=some s→rows[j]?=some q→q3R fV 56 4 w3 (Dl D L) N0 s.1 s.2.1 s.2.2 q:=fun j s q hij hsj hq=>by
  refine ((h.row j s q hsj hq).kp hk (fun k hd=>hnA k hd.2) fun a ha b hb=>?_).kp hk3 (fun k hd e=>hd.2 (e ▸ h.gL)) fun a ha=>(h.mem j s a hsj ha).2;exact h.ne i j _ s b a hij hs hsj hb ha
 rcases hat with rfl | ⟨g',hg',rfl⟩
 ·refine ⟨L,fun k hk=>hk,fun k hk=>.inl hk,ho,by simpa using h.len,fun j s q hsj hq=>?_,fun j s a hsj ha=>?_,fun j k s t a b hjk hsj htk ha hb=>?_,h.gL,h.lo,fun k hk=>by have:=h.hi k hk; omega⟩
  ·rcases q1Q hsj with ⟨rfl,rfl,hlt⟩ | ⟨hne,hsj⟩
   ·rcases q1Q hq with ⟨_,rfl,_⟩ | ⟨hne,_⟩
    ·exact hO.kp hk3 (fun k hd e=>hd.2 (e ▸ h.gL)) fun a ha=>(h.mem i _ a hs ha).2
    ·exact absurd rfl hne
   ·rcases q1Q hq with ⟨rfl,_,_⟩ | ⟨_,hq⟩
    ·exact absurd rfl hne
    ·exact hother j s q hne hsj hq
  ·rcases q1Q hsj with ⟨rfl,rfl,hlt⟩ | ⟨hne,hsj⟩
   ·exact h.mem i _ a hs ha
   ·exact h.mem j s a hsj ha
  ·rcases q1Q hsj with ⟨rfl,rfl,hlt⟩ | ⟨hne,hsj⟩ <;> rcases q1Q htk with ⟨rfl,rfl,hlt2⟩ | ⟨hne2,htk⟩
   ·exact absurd rfl hjk
   ·exact h.ne i k _ t a b hjk hs htk ha hb
   ·exact h.ne j i s _ a b hjk hsj hs ha hb
   ·exact h.ne j k s t a b hjk hsj htk ha hb
 ·have hlt':=hO.blk_lt _ rfl;simp only at hlt';refine ⟨g' :: L,fun k hk=>List.mem_cons_of_mem _ hk,fun k hk=>?_,ho,by simpa using h.len,fun j s q hsj hq=>?_,fun j s a hsj ha=>?_,fun j k s t a b hjk hsj htk ha hb=>?_,List.mem_cons_of_mem _ h.gL,fun k hk=>?_,fun k hk=>?_⟩
  ·rcases List.mem_cons.1 hk with rfl | hk
   ·exact .inr hg'
   ·exact .inl hk
  ·rcases q1Q hsj with ⟨rfl,rfl,hlt⟩ | ⟨hne,hsj⟩
   ·rcases q1Q hq with ⟨_,rfl,_⟩ | ⟨hne,_⟩
    ·have h1:q3R fV 56 4 w3 (Dl D L) N0 (some ⟨g',0,none⟩) m' c' q:=hO.kp hk3 (fun k hd e=>hd.2 (e ▸ h.gL)) fun a ha=>by cases ha; simp only; omega
     refine qah h1 fun k _ hd hn=>⟨hd.1,fun hm=>?_⟩
     rcases List.mem_cons.1 hm with e | hm
     ·exact hn _ rfl e.symm
     ·exact hd.2 hm
    ·exact absurd rfl hne
   ·rcases q1Q hq with ⟨rfl,_,_⟩ | ⟨_,hq⟩
    ·exact absurd rfl hne
    ·have h1:q3R fV 56 4 w (Dl D (g' :: L)) N0 s.1 s.2.1 s.2.2 q:=qah (h.row j s q hsj hq) fun k hk hd _=>⟨hd.1,fun hm=>by
      rcases List.mem_cons.1 hm with e | hm
      ·omega
      ·exact hd.2 hm⟩
     refine (h1.kp hk (fun k hd=>hnA k fun hm=>hd.2 (List.mem_cons_of_mem _ hm)) fun a ha b hb=>?_).kp hk3 (fun k hd e=>hd.2 (List.mem_cons_of_mem _ (e ▸ h.gL))) fun a ha=>(h.mem j s a hsj ha).2;exact h.ne i j _ s b a hne hs hsj hb ha
  ·rcases q1Q hsj with ⟨rfl,rfl,hlt⟩ | ⟨hne,hsj⟩
   ·cases ha;exact ⟨List.mem_cons_self,by simp only; omega⟩
   ·obtain ⟨h1,h2⟩:=h.mem j s a hsj ha;exact ⟨List.mem_cons_of_mem _ h1,h2⟩
  ·rcases q1Q hsj with ⟨rfl,rfl,hlt⟩ | ⟨hne,hsj⟩ <;> rcases q1Q htk with ⟨rfl,rfl,hlt2⟩ | ⟨hne2,htk⟩
   ·exact absurd rfl hjk
   ·cases ha;have:=h.hi _ (h.mem k t b htk hb).1;simp only; omega
   ·cases hb;have:=h.hi _ (h.mem j s a hsj ha).1;simp only; omega
   ·exact h.ne j k s t a b hjk hsj htk ha hb
  ·rcases List.mem_cons.1 hk with rfl | hk
   ·omega
   ·exact h.lo k hk
  ·rcases List.mem_cons.1 hk with rfl | hk
   ·omega
   ·have:=h.hi k hk; omega
end
def appV {w:World} {ty B n c g2:Nat} {A:Option Addr} {D:Nat→Prop} {l:List Int} {V:Int} {v:Value} (hO:q3R fV 56 4 w D B A n c l) (hv:In (fV V) (fun k=>D k∧nb A k) v w) (hb2:Blk w g2 56 v.cells) (hn:n≤1000000000) (hb:B≤w.heap.size) {K:Value→World→Prop}
  (hK:∀ A' c' w',q3R fV 56 4 w' D B A' (n+1) c' (l ++ [V])→Kp (nb A) w w'→(A'=A∨∃ g,w.heap.size≤g∧A'=some ⟨g,0,none⟩)→K (.slice A' (n+1) c') w') :
  qhs Tryz.prog #[64,64] ty [.slice A n c,.slice (some ⟨g2,0,none⟩) 1 1] w K:=by
 obtain ⟨vs,h1,h2,h3⟩:=hO;have hc:=(fV_s hv).cel;have hr:Row w (fun _=>True) 4 (some ⟨g2,0,none⟩) 1 1 v.cells.toList:=⟨Nat.le_refl _,by rw [Array.length_toList,hc.1],fun _=>⟨⟨g2,0,none⟩,rfl,trivial,fun j u hu=>by rw [q08,Nat.zero_add,hb2.cell]; simpa using hu⟩⟩;refine qnM qmR rfl Oq h1 hr (fun u hu=>List.all_eq_true.1 hc.2 u hu) Oq hb fun A' c' w' ho hk hat=>?_;have hat':A'=A∨∃ g,w.heap.size≤g∧A'=some ⟨g,0,none⟩:=hat.imp id fun h=>⟨_,Nat.le_refl _,h⟩;refine hK A' c' w' ⟨vs ++ [v],by rw [qeE]; exact ho,?_,by simp [h3]⟩ hk hat';have hs:=h2.snoc hv hc;exact ⟨hs.len,fun i y hy=>by
  obtain ⟨u,a,b,c⟩:=hs.get i y hy;exact ⟨u,a,b.grew hk hat',c⟩⟩
section
variable {D:Nat→Prop} {L:List Nat} {N0 g n i:Nat} {rows:List (List Int)} {ss:List (Option Addr × Nat × Nat)} {w w2 w3:World} {r:List Int} {x y:Nat} {a b V:Int}
def q89 (hT:q2E w) (hS:Sums w D L N0 g n rows ss) (hr0:rows[i]?=some r) (hx0:x < 18446744073709551616) (hy0:y < 18446744073709551616) (hxa:ofF x=some a) (hyb:ofF y=some b) (hV:mkV (a*b) (-131072)=some V) (hl:r.length≤1000000) (hf:Fr D w) :
  Calls Tryz.prog 65 #[.slice (some ⟨g,0,none⟩) n n,.int .i64 i,.int .u64 x,.int .u64 y] w fun e w'=>e=.returned (.tuple #[])∧Kp (fun k=>k ∉ L) w w'∧∃ L' ss',(∀ k ∈ L,k ∈ L')∧(∀ k ∈ L',k ∈ L∨w.heap.size≤k)∧Sums w' D L' N0 g n (rows.set i (r ++ [-V])) ss':=by
 obtain ⟨A,m,c,hss,hin,hcell,hrow⟩:=(hS.sub (D':=fun _=>True) fun _ _ _=>trivial).get hr0 fun _ _=>trivial;have hm:=hrow.sl_len;have e1:(0:Int)≤i∧(i:Int) < n:=by omega
 have hOi:=hS.row i _ r hss hr0;have hD:Fr (Dl D L) w:=fun k hk=>⟨hf k hk,fun hm=>by have:=hS.hi k hm; omega⟩;obtain ⟨X,hX1,hX2,hX3⟩:∃ X:List Nat,(∀ k,k ∉ X→nb A k)∧(∀ k ∈ X,k ∈ L∧k≠g)∧(∀ k,nb A k→k ∉ X):=by
  cases A with
  | none=>exact ⟨[],fun k _ a ha=>(by cases ha),fun k hk=>(by simp at hk),fun k _=>(by simp)⟩
  | some ad =>
   refine ⟨[ad.block],fun k hk a ha=>(by cases ha; simp at hk; exact fun e=>hk e.symm),fun k hk=>?_,fun k hk=>?_⟩
   ·simp at hk; subst hk; exact hS.mem i _ ad hss rfl
   ·simp; exact fun e=>hk ad rfl e.symm
 have hg0:g ∉ X:=fun h=>(hX2 g h).2 rfl;refine q13 Tryz.func65 rfl Tryz.ntmps65 (by kernel_rfl) ?_;have hx:Ext w w:=Kp.refl _ _;refine W_dC q24 (Kp (fun k=>k ∉ X)) (fun _ _=>False) (Kp.pre _) [true,true,true,true,true,true,true,false,true,false,false,false,false,false,false,false] [false,false,false,false,false,false,false,false,false,false,false,false,false,false,false,false] [1,1,1,1,1,1,1,0,1,0,0,0,0,0,1,1] (by kernel_rfl) ?_
 apply Exists.intro
 refine ⟨fun wE hE KE hKE=>?_,fun wE hE KE hKE=>?_,fun wE hxE hr=>?_⟩
 ·have hcellE:=hE.cell (D:=fun k=>k ∉ X) (w':=wE) (by exact hg0) hcell;refine Zz2 e1 hcellE ?_;exact hKE
 ·exact hE.elim
 simp only [qcf,qci,qcg];have hcellE:=hxE.cell (D:=fun _=>True) trivial hcell;have hnA:∀ k,k ∉ L→nb A k:=fun k hk a ha he=>hk (by have:=(hS.mem i _ a hss ha).1; rw [he] at this; exact this);simp -implicitDefEqProofs (disch:=omega) only [go_sem,Nat.reduceEqDiff,Nat.reduceAdd,↓reduceIte,List.toList_toArray,e1,hcellE];refine q1A qef (qh3 (hT.ext hxE) hx0 hxa (hD.kp hxE)) ?_;rintro _ w7 ⟨v7,rfl,hx7,h7⟩; refine ⟨_,rfl,⟨hr.trans (Kp.of_ext hx7),?_⟩⟩;have hy7:=hxE.trans hx7;refine q1A qef (qh3 (hT.ext hy7) hy0 hyb (hD.kp hy7)) ?_;rintro _ w9 ⟨v9,rfl,hx9,h9⟩; refine ⟨_,rfl,⟨(hr.trans (Kp.of_ext hx7)).trans (Kp.of_ext hx9),?_⟩⟩;have hy9:=hy7.trans hx9;refine q1A qj4 (qrV (hT.ext hy9) (h7.ext hx9) h9 hV (hD.kp hy9)) ?_;rintro _ w10 ⟨v10,rfl,hx10,h10⟩; refine ⟨_,rfl,⟨((hr.trans (Kp.of_ext hx7)).trans (Kp.of_ext hx9)).trans (Kp.of_ext hx10),?_⟩⟩;have hy10:=hy9.trans hx10;refine q1A qj5 (qrU (hT.ext hy10) h10 (hD.kp hy10)) ?_;rintro _ w11 ⟨v11,rfl,hx11,h11⟩; refine ⟨_,rfl,⟨(((hr.trans (Kp.of_ext hx7)).trans (Kp.of_ext hx9)).trans (Kp.of_ext hx10)).trans (Kp.of_ext hx11),?_⟩⟩;have hy11:=hy10.trans hx11;obtain ⟨s0,A0,n0,c0,rfl,_⟩:=id h11;rw [qrx];refine q52 fun w12 hx12 hb12 hs12=>⟨((((hr.trans (Kp.of_ext hx7)).trans (Kp.of_ext hx9)).trans (Kp.of_ext hx10)).trans (Kp.of_ext hx11)).trans (Kp.of_ext hx12),?_⟩;have hy12:=hy11.trans hx12;have hr12:=((((hr.trans (Kp.of_ext hx7)).trans (Kp.of_ext hx9)).trans (Kp.of_ext hx10)).trans (Kp.of_ext hx11)).trans (Kp.of_ext hx12);have hS12:=hS.ext hy12;have hO12:q3R fV 56 4 w12 (Dl D L) N0 A m c r:=hS12.row i _ r hss hr0;have h12:=h11.ext hx12;refine appV hO12 (h12.sub fun k _ hd=>⟨hd,hnA k hd.2⟩) hb12 Oq (by have:=hS.lo g hS.gL; have:=hS.hi g hS.gL; have:=hy12.size; omega) fun A' c' w13 hO13 hk13 hat=>⟨hr12.trans (hk13.mono fun k _ hk=>hX1 k hk),?_⟩;have hown:Own w13 N0 64 1 (some ⟨g,0,none⟩) n n (ss.map slv):=hS12.own.kp hk13 fun a ha b hb=>by
  cases ha;exact (hS.mem i _ b hss hb).2
 refine qc2 hown hin qki rfl rfl fun w14 hO14 hk14 hs14=>?_;have hO14':Own w14 N0 64 1 (some ⟨g,0,none⟩) n n ((ss.set i (A',m+1,c')).map slv):=by rw [List.map_set]; exact hO14
 obtain ⟨L',g1,g2,g3⟩:=hS12.push hss hO13 hk13 hat hO14' hk14 hs14;refine ret0n rfl ⟨rfl,?_,L',_,g1,fun k hk=>?_,g3⟩
 ·exact ((hy12.mono fun _ _ _=>trivial).trans (hk13.mono fun k _ hk=>hnA k hk)).trans (hk14.mono fun k _ hk e=>hk (e ▸ hS.gL))
 ·rcases g2 k hk with h | h
  ·exact .inl h
  ·exact .inr (Nat.le_trans hy12.size h)
end
def newRow {w1 w2:World} {D:Nat→Prop} {N0:Nat} {V:Int} {v:Value} (hb:Blk w2 w1.heap.size 56 v.cells) (hv:In (fV V) (fun k=>D k∧nb (some ⟨w1.heap.size,0,none⟩) k) v w2) (hN:N0≤w1.heap.size):q3R fV 56 4 w2 D N0 (some ⟨w1.heap.size,0,none⟩) 1 1 [V]:=by
 have hc:=(fV_s hv).cel;have h1:=Own.made (w:=w2) (w':=w1) (B:=N0) (sz:=4) (n:=1) (c:=1) hb (Nat.le_refl _) (by simp [maxLen]) (by rw [hc.1]) hN;refine ⟨[v],?_,by simpa using (Els.nil (G:=fV) (sz:=4)).snoc hv hc,rfl⟩;have:v.cells.toList.take (1*4)=q01 [v]:=by
  rw [List.take_of_length_le (by rw [Array.length_toList,hc.1]; omega)]; simp [q01]
 rw [← this]; exact h1
def q5c (vals:List Int) (i n:Nat):List (List Int):=(vals.take i).map (fun V=>[V]) ++ List.replicate (n-i) []
def qct {vals:List Int} {i n:Nat} {V:Int} (hV:vals[i]?=some V) (hn:vals.length=n):(q5c vals i n).set i [V]=q5c vals (i+1) n:=by
 obtain ⟨hlt,he⟩:=List.getElem?_eq_some_iff.1 hV;unfold q5c;rw [List.take_succ_eq_append_getElem hlt,he,List.map_append,show n-i=(n-(i+1))+1 by omega,List.replicate_succ,List.set_append_right _ _ (by simp; omega)];simp [Nat.min_eq_left (Nat.le_of_lt hlt)]
def qhp {D:Nat→Prop} {A:Option Addr} {n c:Nat} {l:List Nat} {vals:List Int} {w:World} (hT:q2E w) (h:In (fSc q3Y l) D (.slice A n c) w) (hl:vals.length=l.length) (hn:n≤1000000) (hv:∀ (i x:Nat),l[i]?=some x→x < 18446744073709551616∧∃ V,vals[i]?=some V∧ofF x=some V) (hf:Fr D w) :
  Calls Tryz.prog 60 #[.slice A n c] w fun e w'=>e=.returned (.slice (some ⟨w.heap.size,0,none⟩) n n)∧Ext w w'∧∃ L ss,Sums w' D L w.heap.size w.heap.size n (vals.map fun V=>[V]) ss:=by
 have hln:=h.sc_len;refine q13 Tryz.func60 rfl Tryz.ntmps60 (by kernel_rfl) ?_;refine Wz ?_;refine q0S fun K hK=>?_;refine Zz ?_;refine qdT (Nat.le_refl _) Oq (by unfold maxLen; omega) fun w0 hx0 hO0 hs0=>?_;generalize hg:w.heap.size=g at hO0;refine hK _ _ ?_; clear hK;refine q1T fun K0 hK0=>?_;refine Wz ?_;have hS0:Sums w0 D [g] g g n (q5c vals 0 n) (List.replicate n (none,0,0)):=by
  refine ⟨by simpa [slv] using hO0,by simp [q5c],?_,?_,?_,by simp,?_,?_⟩
  ·intro i s r hs hr;rw [List.getElem?_replicate] at hs;simp only [q5c,List.take_zero,List.map_nil,List.nil_append,List.getElem?_replicate] at hr
   split at hs
   ·split at hr
    ·cases hs;cases hr;exact q3R.nil
    ·cases hr
   ·cases hs
  ·intro i s a hs ha;rw [List.getElem?_replicate] at hs
   split at hs
   ·cases hs;cases ha
   ·cases hs
  ·intro i j s t a b _ hs _ ha _;rw [List.getElem?_replicate] at hs
   split at hs
   ·cases hs;cases ha
   ·cases hs
  ·intro k hk;simp at hk;omega
  ·intro k hk;simp at hk;omega
 refine q58 ?_;refine qfB (fun e2 w'=>∃ (i:Nat) (L:List Nat) (ss:List (Option Addr × Nat × Nat)),e2 11=.int .i64 i∧i≤n∧Ext w w'∧Sums w' D L g g n (q5c vals i n) ss∧∀ j,i≤j→j < n→ss[j]?=some (none,0,0)) (fun e2 _=>n-(RowKit.intOf (e2 11)).toNat) ⟨0,_,_,rfl,Nat.zero_le _,hx0,hS0,fun j _ hj=>by rw [List.getElem?_replicate,if_pos hj]⟩ ?_;rintro e1 w1 ⟨i,L,ss,k11,hi,hx,hS,hss⟩ hkk;have k3:e1 3=.slice (some ⟨g,0,none⟩) n n:=(hkk 3 (by kernel_rfl)).trans Ue;have k9:e1 9=.slice A n c:=(hkk 9 (by kernel_rfl)).trans Ue;have k10:e1 10=.int .i64 n:=(hkk 10 (by kernel_rfl)).trans Ue;clear hkk
 by_cases hlt:i < n
 ·have hlt':(i:Int) < n:=by omega
  refine Wz3 k11 k10 hlt' ?_;refine q1T fun K1 hK1=>?_;refine Wt (q4Z (hK1 _ _ ?_));clear hK1;refine q56 fun K hK=>?_;obtain ⟨x,hxi⟩:∃ x,l[i]?=some x:=⟨_,List.getElem?_eq_getElem Oq⟩;obtain ⟨hx1,V,hV1,hV2⟩:=hv i x hxi;obtain ⟨ad,rfl,i1,x1⟩:=(h.ext hx).ixU hxi;have hD:Fr (Dl D L) w1:=fun k hk=>⟨hf k (Nat.le_trans hx.size hk),fun hm=>by have:=hS.hi k hm; omega⟩;refine Wz4 k9 k11 i1 x1 ?_;refine q6H fun K9 hK9=>?_;refine Zz2 k3 i1 ?_;refine Cr qef (qh3 (hT.ext hx) hx1 hV2 hD) fun v5 w5 hx5 h5=>?_;obtain ⟨s0,A0,n0,c0,rfl,_⟩:=id h5;simp -implicitDefEqProofs (disch:=omega) only [go_sem,Nat.reduceEqDiff,Nat.reduceAdd,↓reduceIte,qrx];refine q52 fun w6 hx6 hb6 hs6=>?_;have hS5:=hS.ext hx5;have hg5:=hS5.hi g hS5.gL;have hOn:=newRow hb6 ((h5.sub (D':=fun k=>Dl D L k∧nb (some ⟨w5.heap.size,0,none⟩) k) fun k hk hd=>⟨hd,fun a ha e=>by cases ha; simp only at e; omega⟩).ext hx6) (Nat.le_of_lt hg5);have hsi:=hss i (Nat.le_refl _) hlt;refine qc2 (hS5.ext hx6).own hlt qki rfl rfl fun w7 hO7 hk7 hs7=>?_;refine hK9 _ _ ?_; clear hK9;have hO7':Own w7 g 64 1 (some ⟨g,0,none⟩) n n ((ss.set i (some ⟨w5.heap.size,0,none⟩,1,1)).map slv):=by rw [List.map_set]; exact hO7
  obtain ⟨L',g1,g2,g3⟩:=hS5.push hsi hOn (Kp.of_ext hx6) (.inr ⟨_,Nat.le_refl _,rfl⟩) hO7' hk7 hs7;rw [qct hV1 (by omega)] at g3;refine hK _ _ ?_; clear hK;refine q6H fun K9 hK9=>?_;refine Zz2 k11 @i64_in ?_;refine hK9 _ _ ?_; clear hK9 K9;refine ⟨⟨i+1,L',_,rfl,by omega,((hx.trans hx5).trans hx6).under hk7 fun k hk=>by omega,g3,fun j hj1 hj2=>?_⟩,by simp only [q2F,↓reduceIte,RowKit.intOf,k11]; omega⟩;rw [List.getElem?_set_ne (by omega)]; exact hss j Oq hj2
 ·have hlt':¬ (i:Int) < n:=by omega
  refine Wz3 k11 k10 hlt' ?_;refine q1T fun K1 hK1=>?_;refine Wf (qae (hK0 _ _ ?_));obtain rfl:i=n:=by omega
  have hr:q5c vals i i=vals.map fun V=>[V]:=by
   unfold q5c; rw [List.take_of_length_le Oq,Nat.sub_self]; simp
  rw [hr] at hS;refine Wz1 k3 ?_;refine q57 ?_
  try simp only [q1u,q5f]
  refine qnv rfl ⟨by simp only [q2F,Nat.reduceEqDiff,↓reduceIte,hg],hx,L,ss,by rw [hg]; exact hS⟩
end Go.Proofs.YtjfjjmfhfbapeaaGreatDoor
namespace Go.Sp
open Go Go.E
def q4F (raw:List Nat):Nat→List Int
 | 0=>[]
 | i+1=>(q4F raw i).take (q1V ((q3t raw (700+i) / 2:Nat):Int) (i+1)) ++ [(i:Int)] ++ (q4F raw i).drop (q1V ((q3t raw (700+i) / 2:Nat):Int) (i+1))
def q6e (raw:List Nat):∀ n,(q4F raw n).length=n
 | 0=>rfl
 | n+1=>by
  have ih:=q6e raw n;have:=q5N (a:=((q3t raw (700+n) / 2:Nat):Int)) (n:=n+1) Oq;unfold q4F;simp only [List.length_append,List.length_take,List.length_drop,List.length_singleton,ih];omega
def q6d (raw:List Nat):∀ n (x:Int),x ∈ q4F raw n→0≤x∧x < n
 | 0,x,h=>by simp [q4F] at h
 | n+1,x,h=>by
  unfold q4F at h;rw [List.mem_append,List.mem_append] at h
  rcases h with (h | h) | h
  ·have:=q6d raw n x (List.mem_of_mem_take h); omega
  ·simp at h; omega
  ·have:=q6d raw n x (List.mem_of_mem_drop h); omega
def q7i (raw:List Nat):∀ n,(q4F raw n).Nodup
 | 0=>by simp [q4F]
 | n+1=>by
  have ih:=q7i raw n;unfold q4F;generalize q1V _ _=p;have hp:((q4F raw n).take p ++ [(n:Int)] ++ (q4F raw n).drop p).Perm ((n:Int) :: q4F raw n):=by
   rw [List.append_assoc];have h1:((q4F raw n).take p ++ (n:Int) :: (q4F raw n).drop p).Perm ((n:Int) :: ((q4F raw n).take p ++ (q4F raw n).drop p)):=List.perm_middle;rw [List.take_append_drop] at h1;exact h1
  rw [hp.nodup_iff,List.nodup_cons];exact ⟨fun h=>by have:=q6d raw n _ h; omega,ih⟩
end Go.Sp
namespace Go.Proofs.YtjfjjmfhfbapeaaGreatDoor
open Go.Sp
def qgN (raw:List Nat) (n:Nat):qjN (q4F raw n):=⟨fun x hx=>by rw [q6e]; exact q6d raw n x hx,q7i raw n⟩
end Go.Proofs.YtjfjjmfhfbapeaaGreatDoor
namespace Go.Sp
open Go Go.E
def ofZ (x:Nat):Int:=(ofF x).getD 0
def q2D (x y:Nat):Int:=(mkV (ofZ x*ofZ y) (-131072)).getD 0
def q4n {f:Nat} (hf:q0Q f):∃ (m:Int) (k:Nat),ofF f=some (m*(2:Int) ^ k)∧bl m.natAbs≤53∧64462≤k∧k≤66507:=by
 unfold q0Q at hf;have hx:=Nat.mod_lt (f / 4503599627370496) (show 0 < 2048 by omega);have hm:=Nat.mod_lt f (show 0 < 4503599627370496 by omega);unfold ofF;rw [if_neg hf];generalize f / 4503599627370496 % 2048=x at *;generalize f % 4503599627370496=m at *;have h53:∀ n:Nat,n < 9007199254740992→bl n≤53:=fun n h=>q0N (Nat.lt_of_lt_of_le h (Nat.le_refl _))
 split
 ·exact ⟨_,64462,rfl,by rw [q12]; exact h53 _ Oq,by omega,by omega⟩
 ·exact ⟨_,64461+x,rfl,by rw [q12]; exact h53 _ Oq,by omega,by omega⟩
def q0e {f:Nat} {V:Int} (h:ofF f=some V):ofZ f=V:=by unfold ofZ; rw [h]; rfl
def q04 {f:Nat} (hf:q0Q f):ofF f=some (ofZ f):=by
 obtain ⟨m,k,h,_⟩:=q4n hf;rw [q0e h,h]
def q2w {f:Nat} (hf:q0Q f):bl (ofZ f).natAbs≤67600:=by
 obtain ⟨m,k,h,h1,h2,h3⟩:=q4n hf;rw [q0e h]
 by_cases hm:m=0
 ·subst hm; rw [Int.zero_mul]; simp [q1C]
 ·rw [q0K,q1P (by omega)]; omega
def q1q {x y:Nat} (hx:q0Q x) (hy:q0Q y):mkV (ofZ x*ofZ y) (-131072)=some (q2D x y)∧bl (q2D x y).natAbs≤67600:=by
 obtain ⟨m,k,h,h1,h2,h3⟩:=q4n hx;obtain ⟨m',k',h',h1',h2',h3'⟩:=q4n hy;have e:ofZ x*ofZ y=m*m'*(2:Int) ^ (k+k'):=by
  rw [q0e h,q0e h',Int.pow_add];simp only [Int.mul_assoc,Int.mul_left_comm,Int.mul_comm]
 unfold q2D;rw [e,q2K]
 by_cases hM:m*m'=0
 ·rw [hM,q2V]; exact ⟨rfl,by simp [q1C]⟩
 ·have hb:bl (m*m').natAbs≤106:=by
   rw [Int.natAbs_mul];exact Nat.le_trans (q3j _ _) Oq
  generalize m*m'=M at *;have ht:=qfc (n:=M.natAbs) Oq;unfold mkV;rw [if_neg hM,if_pos (by omega)];refine ⟨rfl,?_⟩;have ho:=q9I hM;have hne:=q3H hM;rw [Option.getD_some,q0K,q1P (by omega)];omega
end Go.Sp
namespace Go.Proofs.YtjfjjmfhfbapeaaGreatDoor
open Go Go.E Go.Sp
def qfj (f:Fac) (q:Nat):Nat→Nat→List (List Int)→List (List Int)
 | _,0,rows=>rows
 | p,c+1,rows=>qfj f q (p+1) c (rows.set (f.ri.getD p 0).toNat (rows.getD (f.ri.getD p 0).toNat [] ++ [-(q2D (f.vs.getD p 0) q)]))
def qaG (f:Fac):List Int→List (List Int)→List Nat→Option (List Nat)
 | [],_,ys=>some ys
 | k :: ks,rows,ys =>
  if q0Q (fQ 0 (q0v (rows.getD k.toNat [])) (ofZ (f.vs.getD (f.cp.getD k.toNat 0).toNat 0))) then
   qaG f ks (qfj f (fQ 0 (q0v (rows.getD k.toNat [])) (ofZ (f.vs.getD (f.cp.getD k.toNat 0).toNat 0))) ((f.cp.getD k.toNat 0).toNat+1) ((f.cp.getD (k.toNat+1) 0).toNat-((f.cp.getD k.toNat 0).toNat+1)) rows) (ys.set k.toNat (fQ 0 (q0v (rows.getD k.toNat [])) (ofZ (f.vs.getD (f.cp.getD k.toNat 0).toNat 0))))
  else none
def getD_some {α:Type} {l:List α} {i:Nat} {x d:α} (h:l[i]?=some x):l.getD i d=x:=by rw [List.getD_eq_getElem?_getD,h]; rfl
def q5U {f:Fac} {k a b x:Nat} {ks:List Int} {rows:List (List Int)} {ys:List Nat} {r:List Int} (ha:f.cp[k]?=some (a:Int)) (hb:f.cp[k+1]?=some (b:Int)) (hx:f.vs[a]?=some x) (hr:rows[k]?=some r) :
  qaG f ((k:Int) :: ks) rows ys=if q0Q (fQ 0 (q0v r) (ofZ x)) then qaG f ks (qfj f (fQ 0 (q0v r) (ofZ x)) (a+1) (b-(a+1)) rows) (ys.set k (fQ 0 (q0v r) (ofZ x))) else none:=by
 rw [qaG,show ((k:Int)).toNat=k by omega,getD_some ha,getD_some hb,getD_some hr,show ((a:Int)).toNat=a by omega,show ((b:Int)).toNat=b by omega,getD_some hx]
def q78 {f:Fac} {q p c i x:Nat} {rows:List (List Int)} {r:List Int} (hi:f.ri[p]?=some (i:Int)) (hx:f.vs[p]?=some x) (hr:rows[i]?=some r) :
  qfj f q p (c+1) rows=qfj f q (p+1) c (rows.set i (r ++ [-(q2D x q)])):=by
 show qfj f q (p+1) c _=_
 rw [getD_some hi,show ((i:Int)).toNat=i by omega,getD_some hx,getD_some hr]
def Col.mono {f:Fac} {j a b:Nat} (h:Col f j a b):∀ (d p:Nat) (y z:Int),a≤p→p+d < b→f.ri[p]?=some y→f.ri[p+d]?=some z→(if d=0 then y=z else y < z)
 | 0,p,y,z,_,_,h1,h2=>by
  rw [if_pos rfl];rw [Nat.add_zero,h1] at h2; exact Option.some.inj h2
 | d+1,p,y,z,ha,hb,h1,h2=>by
  rw [if_neg (by omega)];obtain ⟨u,v,hu,hv,huv⟩:=h.inc (p+(d+1)) Oq hb;rw [h2] at hv;obtain rfl:=Option.some.inj hv;have:=h.mono d p y u ha Oq h1 (by rw [show p+d=p+(d+1)-1 by omega]; exact hu)
  split at this <;> omega
def Col.row {f:Fac} {j a b p:Nat} (h:Col f j a b) (hn:f.pm.length≤200) (h1:a < p) (h2:p < b):∃ i:Nat,f.ri[p]?=some (i:Int)∧j < i∧i < f.pm.length:=by
 have hle:=h.le;obtain ⟨z,hz⟩:∃ z,f.ri[p]?=some z:=⟨_,List.getElem?_eq_getElem Oq⟩;have m1:=h.mono (p-a) a j z (Nat.le_refl _) Oq h.first (by rw [show a+(p-a)=p by omega]; exact hz)
 rw [if_neg (by omega)] at m1;obtain ⟨l,hl,hlt⟩:=h.last;have m2:=h.mono (b-1-p) p z l Oq Oq hz (by rw [show p+(b-1-p)=b-1 by omega]; exact hl);have:z≤l:=by split at m2 <;> omega
 refine ⟨z.toNat,?_,by omega,by omega⟩;rw [hz]; congr 1; omega
def q8u {l:List Nat} {i:Nat} (h:∀ x ∈ l,x < 18446744073709551616∧q0Q x):l.getD i 0 < 18446744073709551616∧q0Q (l.getD i 0):=by
 rw [List.getD_eq_getElem?_getD];cases hx:l[i]? with
 | none=>exact ⟨by simp,by unfold q0Q; simp⟩
 | some x=>exact h x (List.mem_of_getElem? hx)
def q2e {x:Nat} {V:Int} (hx:x < 18446744073709551616) (hv:ofF x=some V):ACt 27 [uv x] (pV V):=by
 obtain ⟨V',hv',hmk⟩:=q6f (f:=x) fun h=>by unfold ofF at hv; rw [if_pos h] at hv; cases hv
 rw [hv] at hv'; cases hv';exact qgI (q2u (qqN hx hv)) (q5O hmk).2.2.2
def clI {l:List Int}:ClL (l.map fun z=>iv z):=fun x hx=>by
 obtain ⟨e,_,rfl⟩:=List.mem_map.1 hx
 trivial
def q88 {a:Int} (ha:bl a.natAbs≤20000000):ACt 98 [bT a] (bT a.natAbs):=q2u (q6c ha)
def qk3 {a:Int} (ha:bl a.natAbs≤20000000):ACt 94 [bT a] (bT (-a)):=q2u (q9l rfl ha)
def qdU {V:Int} (h:q0b V):mkV (-od V) (dyE V)=some (-V):=by
 have:=q9v (qaU h)
 rwa [qiz,qeW] at this
def qlW {V:Int} (h:q0b V):mkV ((od V).natAbs:Int) (dyE V)=some (V.natAbs:Int):=by
 have hs:=q1y V
 by_cases hv:V < 0
 ·rw [decide_eq_true hv] at hs;have ho:od V < 0:=of_decide_eq_true hs;rw [show ((od V).natAbs:Int) = -od V by omega,show (V.natAbs:Int) = -V by omega];exact qdU h
 ·rw [decide_eq_false hv] at hs;have ho:¬ od V < 0:=of_decide_eq_false hs;rw [show ((od V).natAbs:Int)=od V by omega,show (V.natAbs:Int)=V by omega];exact q9v h
def qe2 {V:Int}:ACt 35 [pV V] (pV (-V)):=qsp qrr fun ho=>by
 have hb:=q2Z ho;have h1:=q8C (V:=V);have h2:=q6C ho;have cN:=q0s ho;have cB:=qk3 (a:=od V) Oq;have cM:=q3e rfl (m := -od V) (e:=dyE V) (by rw [Int.natAbs_neg]; omega) (by omega) (by omega) (qdU ho);unfold dT at cN ⊢;unfold bT at cB cM;refine ac0 Tryz.func35 Tryz.ntmps35 [.cell 2 56] ?_;exact wk trivial
def q9E {V:Int}:ACt 49 [pV V] (pV (V.natAbs:Int)):=qsp qrp fun ho=>by
 have hb:=q2Z ho;have h1:=q8C (V:=V);have h2:=q6C ho;have cN:=q0s ho;have cB:=q88 (a:=od V) Oq;have cM:=q3e rfl (m:=((od V).natAbs:Int)) (e:=dyE V) (by rw [Int.natAbs_natCast]; omega) (by omega) (by omega) (qlW ho);unfold dT at cN ⊢;unfold bT at cB cM;refine ac0 Tryz.func49 Tryz.ntmps49 [.cell 2 56] ?_;exact wk trivial
def q18 {a:Int} (ha:bl a.natAbs≤20000000):ACt 93 [bT a] (iv a.sign):=q4q rfl ha
def q5A {a m:Int} (ha:bl a.natAbs≤20000000) (h1 : -1000000000≤m) (h2:m≤1000000000):ACt 100 [bT a,iv m] (bT (shI a m)):=q3d rfl ha h1 h2
structure Aln (A B x y e:Int):Prop where
 e1 : -65536≤e
 e2:e≤65536
 a:x*(2:Int) ^ (e+65536).toNat=A
 b:y*(2:Int) ^ (e+65536).toNat=B
def qd4 {x V:Int} {k:Nat} (h:x*(2:Int) ^ k=V) (hv:q0b V):bl x.natAbs≤131072:=by
 subst h;unfold q0b at hv;rw [q0K] at hv
 by_cases h0:x.natAbs=0
 ·rw [h0]; simp [bl]
 ·rw [q1P h0] at hv; omega
def Aln.bl {A B x y e:Int} (h:Aln A B x y e) (ha:q0b A) (hb:q0b B):Sp.bl x.natAbs≤131072∧Sp.bl y.natAbs≤131072:=⟨qd4 h.a ha,qd4 h.b hb⟩
def q60 {a b:Int} (h1 : -65536≤a∧a≤65536) (h2 : -65536≤b∧b≤65536):IntKind.i64.wrap (a-b)=a-b:=i64_in Oq Oq
def qe3 {A B:Int} (hA:q0b A) (hB:q0b B):∃ x y e,ACt 158 [dT A,dT B] (.tu [bT x,bT y,iv e])∧Aln A B x y e:=by
 have a1:=q8C (V:=A);have a2:=q6C hA;have b1:=q8C (V:=B);have b2:=q6C hB;have a3:=q2Z hA;have b3:=q2Z hB;have sA:=q18 (a:=od A) Oq;have sB:=q18 (a:=od B) Oq;have shA:=q5A (a:=od A) (m:=dyE A-dyE B) Oq Oq Oq;have shB:=q5A (a:=od B) (m:=dyE B-dyE A) Oq Oq Oq;have wA:=q60 (a:=dyE A) (b:=dyE B) Oq Oq;have wB:=q60 (a:=dyE B) (b:=dyE A) Oq Oq;unfold bT at *
 by_cases hA0:od A=0
 ·have e1:((od A).sign == 0)=true:=by rw [hA0]; rfl
  refine ⟨od A,od B,dyE B,?_,⟨b1,by omega,?_,?_⟩⟩
  ·unfold dT;refine ac0 Tryz.func158 Tryz.ntmps158 [.cell 4 54,.cell 5 54,.tmp 6] ?_;exact wk1 e1 trivial
  ·have:A=0:=by
    have:=q1O A;rw [hA0] at this; simpa using this.symm
   rw [hA0,this]; simp
  ·have:=q3I b1 (Int.le_refl (dyE B));simpa using this
 have e1:((od A).sign == 0)=false:=by simpa [Int.sign_eq_zero_iff_zero] using hA0
 by_cases hB0:od B=0
 ·have e2:((od B).sign == 0)=true:=by rw [hB0]; rfl
  refine ⟨od A,od B,dyE A,?_,⟨a1,by omega,?_,?_⟩⟩
  ·unfold dT;refine ac0 Tryz.func158 Tryz.ntmps158 [.cell 4 54,.cell 5 54,.tmp 6] ?_;exact wk1 (x2 e1 e2) trivial
  ·have:=q3I a1 (Int.le_refl (dyE A));simpa using this
  ·have:B=0:=by
    have:=q1O B;rw [hB0] at this; simpa using this.symm
   rw [hB0,this]; simp
 have e2:((od B).sign == 0)=false:=by simpa [Int.sign_eq_zero_iff_zero] using hB0
 by_cases hlt:dyE B < dyE A
 ·refine ⟨shI (od A) (dyE A-dyE B),od B,dyE B,?_,⟨b1,by omega,?_,?_⟩⟩
  ·unfold dT;refine ac0 Tryz.func158 Tryz.ntmps158 [.cell 4 54,.cell 5 54,.tmp 6] ?_;exact wk1 (x4 e1 e2 hlt wA) trivial
  ·unfold shI;rw [if_pos (by omega)];exact q3I b1 Oq
  ·have:=q3I b1 (Int.le_refl (dyE B));simpa using this
 ·refine ⟨od A,shI (od B) (dyE B-dyE A),dyE A,?_,⟨a1,by omega,?_,?_⟩⟩
  ·unfold dT;refine ac0 Tryz.func158 Tryz.ntmps158 [.cell 4 54,.cell 5 54,.tmp 6] ?_;exact wk1 (x4 e1 e2 hlt wB) trivial
  ·have:=q3I a1 (Int.le_refl (dyE A));simpa using this
  ·unfold shI;rw [if_pos (by omega)];exact q3I a1 Oq
def qsK {a b:Int} {k:Nat} (ha:bl a.natAbs≤k) (hb:bl b.natAbs≤k):bl (a-b).natAbs≤k+1:=by
 have h1:=q2M ha;have h2:=q2M hb;exact qep.2 (by rw [Nat.pow_succ]; omega)
def qk2 {a b:Int} (ha:bl a.natAbs≤20000000) (hb:bl b.natAbs≤20000000):ACt 173 [bT a,bT b] (bT (a-b)):=q2u (q9k rfl rfl ha hb)
def qk4 {a b:Int} (ha:bl a.natAbs≤10000000) (hb:bl b.natAbs≤10000000):ACt 159 [bT a,bT b] (iv (a-b).sign):=by
 have cS:=qk2 (a:=a) (b:=b) Oq Oq;have cG:=q18 (a:=a-b) (by have:=qsK ha hb; omega);unfold bT at *;refine ac0 Tryz.func159 Tryz.ntmps159 [.tmp 4] ?_;exact wk trivial
def qaX {V:Int}:ACt 183 [pV V] (iv V.sign):=qsp qj2 fun ho=>by
 have hb:=q2Z ho;have cN:=q0s ho;have cS:=q18 (a:=od V) Oq;have es:(od V).sign=V.sign:=by
  conv=>rhs; rw [← q1O V,Int.sign_mul,Int.sign_eq_one_of_pos (q0U _),Int.mul_one]
 rw [es] at cS;unfold dT at cN ⊢;unfold bT at cS;refine ac0 Tryz.func183 Tryz.ntmps183 [.tmp 2] ?_;exact wk trivial
def Aln.sgn {A B x y e:Int} (h:Aln A B x y e):(x-y).sign=(A-B).sign:=by
 rw [← h.a,← h.b,← Int.sub_mul,Int.sign_mul,Int.sign_eq_one_of_pos (q0U _),Int.mul_one]
def qmX {A B:Int}:ACt 92 [pV A,pV B] (.tu [iv (A-B).sign,bv true]):=ac_2 qrg fun ⟨hA,hB⟩=>by
 have cA:=q0s hA;have cB:=q0s hB;obtain ⟨x,y,e,cL,hL⟩:=qe3 hA hB;obtain ⟨l1,l2⟩:=hL.bl hA hB;have cC:=qk4 (a:=x) (b:=y) Oq Oq;rw [hL.sgn] at cC;unfold dT at cA cB cL ⊢;unfold bT at cL cC;refine ac0 Tryz.func92 Tryz.ntmps92 [.tmp 4,.tmp 5] ?_;exact wk trivial

def q2C (l:List Int) (n:Int):Prop:=(l.length:Int)=n∧(∀ x ∈ l,0≤x∧x < n)∧l.Nodup
def q41 (l:List Int) (i:Nat):List Bool:=(List.range l.length).map fun k:Nat=>decide ((k:Int) ∈ l.take i)
def q66 {l:List Int} {i:Nat}:(q41 l i).length=l.length:=by simp [q41]
def qck {l:List Int}:List.replicate l.length false=q41 l 0:=by simp [q41,List.map_const']
def q67 {l:List Int} {i k:Nat} (hk:k < l.length):(q41 l i)[k]?=some (decide ((k:Int) ∈ l.take i)):=by simp [q41,hk]
def q65 {l:List Int} {i k:Nat} (hi:l[i]?=some (k:Int)):(q41 l i).set k true=q41 l (i+1):=by
 obtain ⟨hlt,he⟩:=List.getElem?_eq_some_iff.1 hi
 apply List.ext_getElem?
 intro m;rw [List.getElem?_set];simp only [q41,List.getElem?_map,List.length_map,List.length_range,List.take_succ_eq_append_getElem hlt,he,List.mem_append,List.mem_singleton]
 by_cases hm:m < l.length
 ·rw [List.getElem?_range hm]
  by_cases hkm:k=m
  ·subst hkm; simp [hm]
  ·rw [if_neg hkm]; simp; omega
 ·rw [List.getElem?_eq_none (by simp; omega)]
  by_cases hkm:k=m <;> simp [hkm] <;> omega
open Classical in
def q6b {l:List Int} {n:Int} (hn : -1000000≤n∧n≤1000000):ACt 134 [pI l,iv n] (bv (decide (q2C l n))):=by
 refine ac0 Tryz.func134 Tryz.ntmps134 [.tmp 4] ?_;refine wk ?_
 by_cases hl:(l.length:Int)=n
 ·subst hl;have e1:((l.length:Int) != l.length)=false:=by simp
  refine wk1 e1 ?_;refine q0B (fun i=>i≤l.length∧(∀ x ∈ l.take i,0≤x∧x < l.length)∧(l.take i).Nodup) [0,1,5] [] Lk Lk (fun i:Nat=>[(6,iv i)]) (fun i=>[(12,⟨4,none,(q41 l i).map fun z=>bv z,false⟩)]) (fun i=>l.length-i) 0 ⟨Nat.zero_le _,by simp,by simp⟩ ?_ ?_
  ·refine LeM [] rfl rfl ?_;refine Zz ?_;exact ⟨rfl,qck⟩
  ·rintro i ⟨hi,hr,hd⟩;refine wk ?_
   by_cases hlt:i < l.length
   ·have hlt':(i:Int) < l.length:=by omega
    refine wk1 hlt' ?_;obtain ⟨x,hx⟩:∃ x,l[i]?=some x:=⟨_,List.getElem?_eq_getElem hlt⟩;have hmem:=List.mem_of_getElem? hx;have ht:l.take (i+1)=l.take i ++ [x]:=by rw [List.take_succ_eq_append_getElem hlt]; congr 2; exact Option.some.inj ((List.getElem?_eq_getElem hlt).symm.trans hx)
    refine wk ?_
    by_cases hx0:x < 0
    ·refine wk1 (x2 hx hx0) ?_;exact (decide_eq_false fun h=>by have:=(h.2.1 x hmem).1; omega).symm
    ·obtain ⟨k,rfl⟩:∃ k:Nat,x=k:=⟨x.toNat,by omega⟩
     by_cases hxn:(l.length:Int)≤k
     ·refine wk1 (x3 hx hx0 hxn) ?_;exact (decide_eq_false fun h=>by have:=(h.2.1 _ hmem).2; omega).symm
     ·have hk:k < l.length:=by omega
      have hs:=q67 (i:=i) hk
      by_cases hm:(k:Int) ∈ l.take i
      ·refine wk1 (x5 hx hx0 hxn hs hm) ?_;refine (decide_eq_false fun h=>?_).symm;have:=(h.2.2.sublist (List.take_sublist (i+1) l));rw [ht,List.nodup_append] at this;exact this.2.2 _ hm _ (by simp) rfl
      ·refine wk1 (x6 hx hx0 hxn hs hm @q66) ?_;refine ⟨i+1,⟨by omega,?_,?_⟩,by omega,?_⟩
       ·rw [ht];intro y hy
        rcases List.mem_append.1 hy with hy | hy
        ·exact hr y hy
        ·simp at hy; subst hy; omega
       ·rw [ht,List.nodup_append];exact ⟨hd,by simp,fun a ha b hb e=>by simp at hb; subst hb; subst e; exact hm ha⟩
       ·refine LeM [] rfl rfl ?_;refine Zz ?_;exact ⟨by omega,q65 hx⟩
   ·have hlt':¬ (i:Int) < l.length:=by omega
    have hil:i=l.length:=by omega
    refine wk1 hlt' ?_;rw [hil,List.take_length] at hr hd;exact (decide_eq_true ⟨rfl,hr,hd⟩).symm
 ·have e1:((l.length:Int) != n)=true:=by simpa using hl
  refine wk1 e1 ?_;exact (decide_eq_false fun h=>hl h.1).symm
def q2H {α:Type} {l:List α} {i:Nat} {x:α} (hx:l[i]?=some x):l.take (i+1)=l.take i ++ [x]:=by
 obtain ⟨h1,h2⟩:=List.getElem?_eq_some_iff.1 hx;rw [List.take_succ_eq_append_getElem h1,h2]
def qfg {α:Type} {p:α→Prop} {l:List α} {i:Nat} {x:α} (hx:l[i]?=some x) (h:∀ y ∈ l.take i,p y) (hp:p x):∀ y ∈ l.take (i+1),p y:=by
 rw [q2H hx];intro y hy
 rcases List.mem_append.1 hy with hy | hy
 ·exact h y hy
 ·simp at hy; subst hy; exact hp
open Classical in
def qbN {l:List Nat} (hl:l.length≤9223372036854775807) (hu:∀ x ∈ l,x < 18446744073709551616):ACt 163 [pF l] (bv (decide (∀ x ∈ l,q0Q x))):=by
 refine ac0 Tryz.func163 Tryz.ntmps163 [.tmp 2] ?_;refine wk ?_;refine q0B (fun i=>i≤l.length∧∀ x ∈ l.take i,q0Q x) [0] [] Lk Lk (fun i:Nat=>[(3,iv i)]) (fun _=>[]) (fun i=>l.length-i) 0 ⟨Nat.zero_le _,by simp⟩ ?_ ?_
 ·refine LeM [] rfl rfl ?_;refine Zz ?_
  rfl
 ·rintro i ⟨hi,hr⟩;refine wk ?_
  by_cases hlt:i < l.length
  ·have hlt':(i:Int) < l.length:=by omega
   refine wk1 hlt' ?_;obtain ⟨x,hx⟩:∃ x,l[i]?=some x:=⟨_,List.getElem?_eq_getElem hlt⟩;have hm:=List.mem_of_getElem? hx;have C1:=(q1w (hu x hm));refine wk1 hx ?_
   by_cases hf:q0Q x
   ·refine wk1 hf ?_;refine ⟨i+1,⟨by omega,qfg hx hr hf⟩,by omega,?_⟩;refine LeM [] rfl rfl ?_;refine Zz ?_;omega
   ·refine wk1 hf ?_;exact (decide_eq_false fun h=>hf (h x hm)).symm
  ·have hlt':¬ (i:Int) < l.length:=by omega
   refine wk1 hlt' ?_;obtain rfl:i=l.length:=by omega
   rw [List.take_length] at hr;exact (decide_eq_true hr).symm
def q5e (rows cols:Int) (st ix:List Int) (vl:List Nat):PV:=.ag [iv rows,iv cols,pI st,pI ix,pF vl]
structure MSz (rows cols:Int) (ix:List Int):Prop where
 r0:¬ rows < 0
 r1:¬ 200 < rows
 c0:¬ cols < 0
 c1:¬ 200 < cols
 i1:¬ (10000:Int) < ix.length
structure MPt (cols:Int) (st ix:List Int) (vl:List Nat):Prop where
 v:vl.length=ix.length
 s:(st.length:Int)=cols+1
 f:st[0]?=some 0
 l:st[cols.toNat]?=some (ix.length:Int)
 m:∀ (j:Nat) (x y:Int),st[j]?=some x→st[j+1]?=some y→x≤y
def MIx1 (rows:Int) (ix:List Int) (x:Int) (k:Nat):Prop:=∀ v,ix[k]?=some v→0≤v∧v < rows∧(x < k→∀ u,ix[k-1]?=some u→u < v)
def MIx (rows:Int) (st ix:List Int):Prop:=∀ (j:Nat) (x y:Int),st[j]?=some x→st[j+1]?=some y→∀ k:Nat,x≤k→(k:Int) < y→MIx1 rows ix x k
open Classical in
noncomputable def q3u (rows cols:Int) (st ix:List Int) (vl:List Nat):Int :=
 if MSz rows cols ix then (if MPt cols st ix vl∧MIx rows st ix then (if ∀ x ∈ vl,q0Q x then 0 else 4) else 1) else 6
def MPt.nn {cols:Int} {st ix:List Int} {vl:List Nat} (h:MPt cols st ix vl):∀ (j:Nat) (x:Int),st[j]?=some x→0≤x
 | 0,x,hx=>by rw [h.f] at hx; cases hx; omega
 | j+1,x,hx=>by
  have hlt:=(List.getElem?_eq_some_iff.1 hx).1;have hj:st[j]?=some st[j]:=List.getElem?_eq_getElem Oq;have:=h.m j _ _ hj hx;have:=h.nn j _ hj;omega
def MPt.ub {cols:Int} {st ix:List Int} {vl:List Nat} (h:MPt cols st ix vl) (hc:0≤cols):∀ (d j:Nat) (x:Int),j+d=cols.toNat→st[j]?=some x→x≤ix.length
 | 0,j,x,hd,hx=>by
  have:j=cols.toNat:=by omega
  subst this;rw [h.l] at hx; cases hx; omega
 | d+1,j,x,hd,hx=>by
  have hlt:j+1 < st.length:=by have:=h.s; omega
  have hj:st[j+1]?=some st[j+1]:=List.getElem?_eq_getElem hlt;have:=h.m j _ _ hx hj;have:=h.ub hc d (j+1) _ Oq hj;omega
def q9m {rows cols:Int} {st ix:List Int} {vl:List Nat} (hl:st.length≤9223372036854775807) (hli:ix.length≤9223372036854775807) (hlv:vl.length≤9223372036854775807) (hu:∀ x ∈ vl,x < 18446744073709551616) :
  ACt 96 [q5e rows cols st ix vl] (iv (q3u rows cols st ix vl)):=by
 have c6:¬ MSz rows cols ix→q3u rows cols st ix vl=6:=fun h=>if_neg h;have c1:MSz rows cols ix→¬ (MPt cols st ix vl∧MIx rows st ix)→q3u rows cols st ix vl=1:=fun h h2=>by unfold q3u; rw [if_pos h,if_neg h2]
 have c0:MSz rows cols ix→MPt cols st ix vl∧MIx rows st ix→q3u rows cols st ix vl=if ∀ x ∈ vl,q0Q x then 0 else 4:=fun h h2=>by unfold q3u; rw [if_pos h,if_pos h2]
 generalize q3u rows cols st ix vl=res at *;unfold q5e;refine ac0 Tryz.func96 Tryz.ntmps96 [.tmp 2] ?_;refine wk ?_
 by_cases h1:rows < 0
 ·refine wk1 h1 ?_;rw [c6 fun h=>h.r0 h1]
 by_cases h2:200 < rows
 ·refine wk1 (x2 h1 h2) ?_;rw [c6 fun h=>h.r1 h2]
 by_cases h3:cols < 0
 ·refine wk1 (x3 h1 h2 h3) ?_;rw [c6 fun h=>h.c0 h3]
 by_cases h4:200 < cols
 ·refine wk1 (x4 h1 h2 h3 h4) ?_;rw [c6 fun h=>h.c1 h4]
 by_cases h5:(10000:Int) < ix.length
 ·refine wk1 (x5 h1 h2 h3 h4 h5) ?_;rw [c6 fun h=>h.i1 h5]
 refine wk1 (x5 h1 h2 h3 h4 h5) ?_;have hz:MSz rows cols ix:=⟨h1,h2,h3,h4,h5⟩;obtain ⟨n,rfl⟩:∃ n:Nat,cols=n:=⟨cols.toNat,by omega⟩;refine wk ?_;have w0:IntKind.i64.wrap ((n:Int)+1)=(n:Int)+1:=i64_in Oq Oq
 by_cases hv:vl.length=ix.length
 case neg =>
  have e1:((vl.length:Int) != ix.length)=true:=by simp; omega
  refine wk1 e1 ?_;rw [c1 hz fun h=>hv h.1.v]
 have e1:((vl.length:Int) != ix.length)=false:=by simp; omega
 by_cases hs:st.length=n+1
 case neg =>
  have e2:((st.length:Int) != (n:Int)+1)=true:=by simp; omega
  refine wk1 (x3 e1 w0 e2) ?_;rw [c1 hz fun h=>by have:=h.1.s; omega]
 have e2:((st.length:Int) != (n:Int)+1)=false:=by simp; omega
 obtain ⟨x0,hx0⟩:∃ x,st[0]?=some x:=⟨_,List.getElem?_eq_getElem Oq⟩;obtain ⟨xn,hxn⟩:∃ x,st[n]?=some x:=⟨_,List.getElem?_eq_getElem Oq⟩
 by_cases h0:x0=0
 case neg =>
  have e3:(x0 != 0)=true:=by simpa using h0
  refine wk1 (x5 e1 w0 e2 hx0 e3) ?_;rw [c1 hz fun h=>by have:=h.1.f; rw [hx0] at this; exact h0 (Option.some.inj this)]
 subst h0;have e3:((0:Int) != 0)=false:=rfl
 by_cases hn:xn=ix.length
 case neg =>
  have e4:(xn != (ix.length:Int))=true:=by simpa using hn
  refine wk1 (x6 e1 w0 e2 hx0 e3 (x2 hxn e4)) ?_;rw [c1 hz fun h=>by have:=h.1.l; rw [Int.toNat_natCast,hxn] at this; exact hn (Option.some.inj this)]
 subst hn;have e4:((ix.length:Int) != (ix.length:Int))=false:=by simp
 refine wk1 (x6 e1 w0 e2 hx0 e3 (x2 hxn e4)) ?_;have hp:∀ {j:Nat} {x:Int},(∀ (j:Nat) (x y:Int),st[j]?=some x→st[j+1]?=some y→x≤y)→MPt n st ix vl:=fun hm=>⟨hv,by omega,hx0,by rw [Int.toNat_natCast]; exact hxn,hm⟩;refine q2k [1,3,4] Lk ?_;refine wk ?_;refine q0B (fun i=>i≤n∧∀ j x y,j < i→st[j]?=some x→st[j+1]?=some y→x≤y) [1] [1] Lk Lk (fun i:Nat=>[(4,iv i)]) (fun _=>[]) (fun i=>n-i) 0 ⟨Nat.zero_le _,by omega⟩ ?_ ?_
 ·refine LeM [] rfl rfl ?_;refine Zz ?_
  rfl
 ·rintro i ⟨hi,hr⟩;refine wk ?_
  by_cases hlt:i < n
  ·have hlt':(i:Int) < n:=by omega
   refine wk1 hlt' ?_;obtain ⟨x,hx⟩:∃ x,st[i]?=some x:=⟨_,List.getElem?_eq_getElem Oq⟩;obtain ⟨y,hy⟩:∃ x,st[i+1]?=some x:=⟨_,List.getElem?_eq_getElem Oq⟩;have wi:IntKind.i64.wrap ((i:Int)+1)=((i+1:Nat):Int):=by rw [i64_in (by omega) (by omega)]; omega
   by_cases hxy:y < x
   ·refine wk1 (x4 hx hy wi hxy) ?_;rw [c1 hz fun h=>by have:=h.1.m i x y hx hy; omega]
   ·refine wk1 (x4 hx hy wi hxy) ?_;refine ⟨i+1,⟨by omega,fun j x' y' hj hx' hy'=>?_⟩,by omega,?_⟩
    ·by_cases hji:j=i
     ·subst hji;rw [hx] at hx'; rw [hy] at hy';cases hx'; cases hy'; omega
     ·exact hr j x' y' Oq hx' hy'
    ·refine LeM [] rfl rfl ?_;exact Zy
  ·have hlt':¬ (i:Int) < n:=by omega
   refine wk1 hlt' ?_;obtain rfl:i=n:=by omega
   have hP:MPt i st ix vl:=⟨hv,by omega,hx0,by rw [Int.toNat_natCast]; exact hxn,fun j x y hx hy=>hr j x y (by have:=(List.getElem?_eq_some_iff.1 hy).1; omega) hx hy⟩;clear hr hp hlt hlt';refine wk ?_;refine q0B (fun j=>j≤i∧∀ j' x y,j' < j→st[j']?=some x→st[j'+1]?=some y→∀ k:Nat,x≤k→(k:Int) < y→MIx1 rows ix x k) [1] [1] Lk Lk (fun j:Nat=>[(5,iv j)]) (fun _=>[]) (fun j=>i-j) 0 ⟨Nat.zero_le _,by omega⟩ ?_ ?_
   ·refine LeM [] rfl rfl ?_;refine Zz ?_
    rfl
   ·rintro j ⟨hj,hr⟩;refine wk ?_
    by_cases hlt:j < i
    ·have hlt':(j:Int) < i:=by omega
     refine wk1 hlt' ?_;obtain ⟨x,hx⟩:∃ x,st[j]?=some x:=⟨_,List.getElem?_eq_getElem Oq⟩;obtain ⟨y,hy⟩:∃ x,st[j+1]?=some x:=⟨_,List.getElem?_eq_getElem Oq⟩;have wi:IntKind.i64.wrap ((j:Int)+1)=((j+1:Nat):Int):=by rw [i64_in (by omega) (by omega)]; omega
     have hxy:=hP.m j x y hx hy;obtain ⟨a,rfl⟩:∃ a:Nat,x=a:=⟨x.toNat,by have:=hP.nn j x hx; omega⟩;obtain ⟨b,rfl⟩:∃ b:Nat,y=b:=⟨y.toNat,by omega⟩;have hb:b≤ix.length:=by have:=hP.ub (by omega) (i-(j+1)) (j+1) b (by rw [Int.toNat_natCast]; omega) hy; omega
     refine wk1 hx ?_;refine q0B (fun k=>a≤k∧k≤b∧∀ k':Nat,a≤k'→k' < k→MIx1 rows ix a k') [1,5] [1] Lk Lk (fun k:Nat=>[(6,iv k)]) (fun _=>[]) (fun k=>b-k) a ⟨Nat.le_refl _,by omega,by omega⟩ ?_ ?_
     ·refine LeM [] rfl rfl ?_;exact Zy
     ·rintro k ⟨hk,hkb,hrk⟩;refine wk ?_
      by_cases hltk:k < b
      ·have hltk':(k:Int) < b:=by omega
       refine wk1 (x3 wi hy hltk') ?_;obtain ⟨v,hv⟩:∃ v,ix[k]?=some v:=⟨_,List.getElem?_eq_getElem Oq⟩;have fin:(¬ (0≤v∧v < rows∧((a:Int) < k→∀ u,ix[k-1]?=some u→u < v)))→res=1:=fun hb'=>c1 hz fun h=>hb' (h.2 j a b hx hy k Oq Oq v hv);have ok:0≤v→v < rows→((a:Int) < k→∀ u,ix[k-1]?=some u→u < v)→∀ k':Nat,a≤k'→k' < k+1→MIx1 rows ix a k':=fun q1 q2 q3 k' hk' hk1=>by
        by_cases hkk:k'=k
        ·subst hkk;intro v' hv';rw [hv] at hv'; cases hv';exact ⟨q1,q2,q3⟩
        ·exact hrk k' hk' Oq
       by_cases hv0:v < 0
       ·refine wk1 (x2 hv hv0) ?_;rw [fin fun h=>by omega]
       ·by_cases hvr:rows≤v
        ·refine wk1 (x3 hv hv0 hvr) ?_;rw [fin fun h=>by omega]
        ·by_cases hak:(a:Int) < k
         ·obtain ⟨k,rfl⟩:∃ k',k=k'+1:=⟨k-1,by omega⟩;obtain ⟨u,hu⟩:∃ v,ix[k]?=some v:=⟨_,List.getElem?_eq_getElem Oq⟩;have wk:IntKind.i64.wrap (((k+1:Nat):Int)-1)=k:=by rw [i64_in (by omega) (by omega)]; omega
          by_cases huv:v≤u
          ·refine wk1 (x6 hv hv0 hvr hx hak (x3 @wk hu huv)) ?_;rw [fin fun h=>by have:=h.2.2 hak u hu; omega]
          ·refine wk1 (x6 hv hv0 hvr hx hak (x3 @wk hu huv)) ?_;refine ⟨k+1+1,⟨by omega,by omega,ok Oq Oq fun _ u' hu'=>?_⟩,by omega,?_⟩
           ·rw [Nat.add_sub_cancel,hu] at hu'; cases hu'; omega
           ·refine LeM [] rfl rfl ?_;refine Zz ?_;omega
         ·refine wk1 (x5 hv hv0 hvr hx hak) ?_;refine ⟨k+1,⟨by omega,by omega,ok Oq Oq fun h=>absurd h hak⟩,by omega,?_⟩;refine LeM [] rfl rfl ?_;refine Zz ?_;omega
      ·have hltk':¬ (k:Int) < b:=by omega
       refine wk1 (x3 wi hy hltk') ?_;refine ⟨j+1,⟨by omega,fun j' x' y' hj' hx' hy' k' h1' h2'=>?_⟩,by omega,?_⟩
       ·by_cases hji:j'=j
        ·subst hji;rw [hx] at hx'; rw [hy] at hy';cases hx'; cases hy';exact hrk k' Oq Oq
        ·exact hr j' x' y' Oq hx' hy' k' h1' h2'
       ·refine LeM [] rfl rfl ?_;exact Zy
    ·have hlt':¬ (j:Int) < i:=by omega
     refine wk1 hlt' ?_;obtain rfl:j=i:=by omega
     have hX:MIx rows st ix:=fun j' x y hx hy=>hr j' x y (by have:=(List.getElem?_eq_some_iff.1 hy).1; omega) hx hy;have c0:=c0 hz ⟨hP,hX⟩;have C1:=(qbN hlv hu);refine wk ?_
     by_cases hf:∀ x ∈ vl,q0Q x
     ·rw [if_pos hf] at c0;have ef:∀ (i:Decidable (∀ x ∈ vl,q0Q x)),@decide _ i=true:=fun _=>decide_eq_true hf;refine wk1 ef ?_;rw [c0]
     ·rw [if_neg hf] at c0;have ef:∀ (i:Decidable (∀ x ∈ vl,q0Q x)),@decide _ i=false:=fun _=>decide_eq_false hf;refine wk1 ef ?_;rw [c0]
def q7w (ix:List Int) (i:Int) (a b:Nat):Option Nat:=(List.range' a (b-a)).find? fun k=>decide (ix[k]?=some i)
def qjT {ix:List Int} {i v:Int} {a b:Nat} (h:a < b) (hv:ix[a]?=some v) (hn:¬ v=i):q7w ix i a b=q7w ix i (a+1) b:=by
 unfold q7w;rw [show b-a=(b-(a+1))+1 by omega,List.range'_succ,List.find?_cons,hv];have:decide (some v=some i)=false:=decide_eq_false fun e=>hn (Option.some.inj e);rw [this]
def qdq {ix:List Int} {v:Int} {a b:Nat} (h:a < b) (hv:ix[a]?=some v):q7w ix v a b=some a:=by
 unfold q7w;rw [show b-a=(b-(a+1))+1 by omega,List.range'_succ,List.find?_cons,hv];have:decide (some v=some v)=true:=decide_eq_true rfl;rw [this]
def qdr {ix:List Int} {v:Int} {a b:Nat} (h:b≤a):q7w ix v a b=none:=by
 unfold q7w;rw [show b-a=0 by omega]; rfl
def qe8 (st ix:List Int) (i:Int) (j:Nat):Option Nat:=q7w ix i (st.getD j 0).toNat (st.getD (j+1) 0).toNat
open Classical in
noncomputable def qpB (rows cols:Int) (st ix:List Int) (i j:Int):Bool:=if 0≤i∧i < rows∧0≤j∧j < cols then (qe8 st ix i j.toNat).isSome else false
open Classical in
noncomputable def atM (rows cols:Int) (st ix:List Int) (vl:List Nat) (i j:Int):Nat:=if q3u rows cols st ix vl=0∧0≤j∧j < cols then (match qe8 st ix i j.toNat with | some k=>vl.getD k 0 | none=>0) else 0
def chk0 {rows cols:Int} {st ix:List Int} {vl:List Nat} (h:q3u rows cols st ix vl=0):MSz rows cols ix∧MPt cols st ix vl∧MIx rows st ix∧∀ x ∈ vl,q0Q x:=by
 unfold q3u at h
 split at h
 ·split at h
  ·split at h
   ·exact ⟨‹_›,(‹_∧_›).1,(‹_∧_›).2,‹_›⟩
   ·cases h
  ·cases h
 ·cases h
def MPt.col {n:Nat} {st ix:List Int} {vl:List Nat} (h:MPt n st ix vl) {j:Nat} (hj:j < n):∃ a b:Nat,st[j]?=some (a:Int)∧st[j+1]?=some (b:Int)∧a≤b∧b≤ix.length∧(st.getD j 0).toNat=a∧(st.getD (j+1) 0).toNat=b:=by
 have hs:=h.s;obtain ⟨x,hx⟩:∃ x,st[j]?=some x:=⟨_,List.getElem?_eq_getElem Oq⟩;obtain ⟨y,hy⟩:∃ x,st[j+1]?=some x:=⟨_,List.getElem?_eq_getElem Oq⟩;have h1:=h.nn j x hx;have h2:=h.nn (j+1) y hy;have h3:=h.m j x y hx hy;have h4:=h.ub (by omega) (n-(j+1)) (j+1) y (by rw [Int.toNat_natCast]; omega) hy;refine ⟨x.toNat,y.toNat,by rw [hx]; congr 1; omega,by rw [hy]; congr 1; omega,by omega,by omega,?_,?_⟩
 ·rw [List.getD_eq_getElem?_getD,hx]; rfl
 ·rw [List.getD_eq_getElem?_getD,hy]; rfl
def qbL {rows cols i j:Int} {st ix:List Int} {vl:List Nat} (hc:cols≤200) (hi:ix.length≤10000) (hP:MPt cols st ix vl):ACt 117 [q5e rows cols st ix vl,iv i,iv j] (bv (qpB rows cols st ix i j)):=by
 have c0:¬ (0≤i∧i < rows∧0≤j∧j < cols)→qpB rows cols st ix i j=false:=fun h=>if_neg h;have c1:(0≤i∧i < rows∧0≤j∧j < cols)→qpB rows cols st ix i j=(qe8 st ix i j.toNat).isSome:=fun h=>if_pos h;generalize qpB rows cols st ix i j=res at *;unfold q5e;refine ac0 Tryz.func117 Tryz.ntmps117 [.tmp 6] ?_;refine wk ?_
 by_cases h1:i < 0
 ·refine wk1 h1 ?_;rw [c0 fun h=>by omega]
 by_cases h2:rows≤i
 ·refine wk1 (x2 h1 h2) ?_;rw [c0 fun h=>by omega]
 by_cases h3:j < 0
 ·refine wk1 (x3 h1 h2 h3) ?_;rw [c0 fun h=>by omega]
 by_cases h4:cols≤j
 ·refine wk1 (x4 h1 h2 h3 h4) ?_;rw [c0 fun h=>by omega]
 refine wk1 (x4 h1 h2 h3 h4) ?_;have d1:=c1 ⟨by omega,by omega,by omega,by omega⟩;obtain ⟨j,rfl⟩:∃ j':Nat,j=j':=⟨j.toNat,by omega⟩;obtain ⟨n,rfl⟩:∃ n:Nat,cols=n:=⟨cols.toNat,by omega⟩;obtain ⟨a,b,hx,hy,hab,hb,ea,eb⟩:=hP.col (show j < n by omega);rw [Int.toNat_natCast] at d1;unfold qe8 at d1;rw [ea,eb] at d1;have wi:IntKind.i64.wrap ((j:Int)+1)=((j+1:Nat):Int):=by rw [i64_in (by omega) (by omega)]; omega
 refine wk1 hx ?_;refine q2k [1,2,3,7] Lk ?_;refine wk ?_;refine q0B (fun k=>a≤k∧k≤b∧q7w ix i a b=q7w ix i k b) [1,2,3] [3] Lk Lk (fun k:Nat=>[(7,iv k)]) (fun _=>[]) (fun k=>b-k) a ⟨Nat.le_refl _,hab,rfl⟩ ?_ ?_
 ·refine LeM [] rfl rfl ?_;exact Zy
 ·rintro k ⟨hk,hkb,hr⟩;refine wk ?_
  by_cases hlt:k < b
  ·have hlt':(k:Int) < b:=by omega
   refine wk1 (x3 wi hy hlt') ?_;obtain ⟨v,hv⟩:∃ v,ix[k]?=some v:=⟨_,List.getElem?_eq_getElem Oq⟩
   by_cases hvi:v=i
   ·subst hvi;have e1:(v == v)=true:=by simp
    refine wk1 (x2 hv e1) ?_;rw [d1,hr,qdq hlt hv]; rfl
   ·have e1:(v == i)=false:=by simpa using hvi
    refine wk1 (x2 hv e1) ?_;refine ⟨k+1,⟨by omega,by omega,by rw [hr,qjT hlt hv hvi]⟩,by omega,?_⟩;refine LeM [] rfl rfl ?_;refine Zz ?_;omega
  ·have hlt':¬ (k:Int) < b:=by omega
   refine wk1 (x3 wi hy hlt') ?_;rw [d1,hr,qdr (by omega)]; rfl
def qqB {rows cols i j:Int} {st ix:List Int} {vl:List Nat} (hl:st.length≤9223372036854775807) (hli:ix.length≤9223372036854775807) (hlv:vl.length≤9223372036854775807) (hu:∀ x ∈ vl,x < 18446744073709551616):ACt 37 [q5e rows cols st ix vl,iv i,iv j] (uv (atM rows cols st ix vl i j:Nat)):=by
 have c0:¬ (q3u rows cols st ix vl=0∧0≤j∧j < cols)→atM rows cols st ix vl i j=0:=fun h=>if_neg h;have c1:(q3u rows cols st ix vl=0∧0≤j∧j < cols)→atM rows cols st ix vl i j=(match qe8 st ix i j.toNat with | some k=>vl.getD k 0 | none=>0):=fun h=>if_pos h;have hA:=q9m (rows:=rows) (cols:=cols) hl hli hlv hu;generalize atM rows cols st ix vl i j=res at *;unfold q5e at *;refine ac0 Tryz.func37 Tryz.ntmps37 [.tmp 6] ?_;refine wk ?_
 by_cases hz:q3u rows cols st ix vl=0
 case neg =>
  have e1:(q3u rows cols st ix vl != 0)=true:=by simpa using hz
  refine wk1 e1 ?_;rw [c0 fun h=>hz h.1]; rfl
 have e1:(q3u rows cols st ix vl != 0)=false:=by simpa using hz
 by_cases h3:j < 0
 ·refine wk1 (x2 e1 h3) ?_;rw [c0 fun h=>by omega]; rfl
 by_cases h4:cols≤j
 ·refine wk1 (x3 e1 h3 h4) ?_;rw [c0 fun h=>by omega]; rfl
 refine wk1 (x3 e1 h3 h4) ?_;have d1:=c1 ⟨hz,by omega,by omega⟩;obtain ⟨hz1,hP,hX,hfn⟩:=chk0 hz;have hc:=hz1.c1;have hi:=hz1.i1;obtain ⟨j,rfl⟩:∃ j':Nat,j=j':=⟨j.toNat,by omega⟩;obtain ⟨n,rfl⟩:∃ n:Nat,cols=n:=⟨cols.toNat,by omega⟩;obtain ⟨a,b,hx,hy,hab,hb,ea,eb⟩:=hP.col (show j < n by omega);rw [Int.toNat_natCast] at d1;unfold qe8 at d1;rw [ea,eb] at d1;have wi:IntKind.i64.wrap ((j:Int)+1)=((j+1:Nat):Int):=by rw [i64_in (by omega) (by omega)]; omega
 refine wk1 hx ?_;refine q2k [1,2,3,7] Lk ?_;refine wk ?_;refine q0B (fun k=>a≤k∧k≤b∧q7w ix i a b=q7w ix i k b) [1,2,3] [3] Lk Lk (fun k:Nat=>[(7,iv k)]) (fun _=>[]) (fun k=>b-k) a ⟨Nat.le_refl _,hab,rfl⟩ ?_ ?_
 ·refine LeM [] rfl rfl ?_;exact Zy
 ·rintro k ⟨hk,hkb,hr⟩;refine wk ?_
  by_cases hlt:k < b
  ·have hlt':(k:Int) < b:=by omega
   refine wk1 (x3 wi hy hlt') ?_;obtain ⟨v,hv⟩:∃ v,ix[k]?=some v:=⟨_,List.getElem?_eq_getElem Oq⟩
   by_cases hvi:v=i
   ·subst hvi;have e1:(v == v)=true:=by simp
    refine wk1 (x2 hv e1) ?_;obtain ⟨u,hu'⟩:∃ u,vl[k]?=some u:=⟨_,List.getElem?_eq_getElem (by have:=hP.v; omega)⟩;refine wk1 hu' ?_;rw [d1,hr,qdq hlt hv];simp only [List.getD_eq_getElem?_getD,hu']; rfl
   ·have e1:(v == i)=false:=by simpa using hvi
    refine wk1 (x2 hv e1) ?_;refine ⟨k+1,⟨by omega,by omega,by rw [hr,qjT hlt hv hvi]⟩,by omega,?_⟩;refine LeM [] rfl rfl ?_;refine Zz ?_;omega
  ·have hlt':¬ (k:Int) < b:=by omega
   refine wk1 (x3 wi hy hlt') ?_;rw [d1,hr,qdr (by omega)]; rfl

def tC (f:Nat→Nat→Option Nat) (j:Nat) (p:List Int × List Nat):Nat→List Int × List Nat
 | 0=>p
 | i+1=>match f j i with
  | some x=>((tC f j p i).1 ++ [(i:Int)],(tC f j p i).2 ++ [x])
  | none=>tC f j p i
def tM (f:Nat→Nat→Option Nat) (R:Nat):Nat→List Int × List Int × List Nat
 | 0=>([0],[],[])
 | j+1=>((tM f R j).1 ++ [((tC f j (tM f R j).2 R).1.length:Int)],tC f j (tM f R j).2 R)
def pT (R C:Nat) (f:Nat→Nat→Option Nat):PV:=q5e R C (tM f R C).1 (tM f R C).2.1 (tM f R C).2.2
def q76 {f:Nat→Nat→Option Nat} {j:Nat} {p:List Int × List Nat} (hp:p.1.length=p.2.length):∀ i,(tC f j p i).1.length=(tC f j p i).2.length∧p.1.length≤(tC f j p i).1.length∧(tC f j p i).1.length≤p.1.length+i
 | 0=>⟨hp,Nat.le_refl _,Nat.le_refl _⟩
 | i+1=>by
  have:=q76 (f:=f) (j:=j) hp i;simp only [tC]
  split
  ·simp only [List.length_append,List.length_cons,List.length_nil]; omega
  ·omega
def q1d {f:Nat→Nat→Option Nat} {R:Nat}:∀ j,(tM f R j).1.length=j+1∧(tM f R j).2.1.length=(tM f R j).2.2.length∧(tM f R j).2.1.length≤j*R
 | 0=>⟨rfl,rfl,by simp [tM]⟩
 | j+1=>by
  have h1:=q1d (f:=f) (R:=R) j;have h2:=q76 (f:=f) (j:=j) h1.2.1 R;simp only [tM];refine ⟨by simp [h1.1],h2.1,?_⟩;rw [Nat.succ_mul]; omega
section
variable {f:Nat→Nat→Option Nat} {R C:Nat}
def tZ (f:Nat→Nat→Option Nat) (j i:Nat):List (Nat × Nat):=(List.range i).filterMap fun k=>(f j k).map fun x=>(k,x)
def tZ_s {j i:Nat}:tZ f j (i+1)=tZ f j i ++ (match f j i with | some x=>[(i,x)] | none=>[]):=by
 unfold tZ;rw [List.range_succ,List.filterMap_append]
 congr 1
 cases h:f j i <;> simp [h]
def q73 {j i k x:Nat}:(k,x) ∈ tZ f j i ↔ k < i∧f j k=some x:=by
 unfold tZ;rw [List.mem_filterMap]
 constructor
 ·rintro ⟨a,ha,h⟩;obtain ⟨y,hy,h2⟩:=Option.map_eq_some_iff.1 h;cases h2;exact ⟨List.mem_range.1 ha,hy⟩
 ·rintro ⟨h1,h2⟩;exact ⟨k,List.mem_range.2 h1,by rw [h2]; rfl⟩
def qi3 {j:Nat}:∀ i,(tZ f j i).Pairwise fun a b=>a.1 < b.1
 | 0=>by simp [tZ]
 | i+1=>by
  rw [tZ_s,List.pairwise_append];refine ⟨qi3 i,?_,fun a ha b hb=>?_⟩
  ·split <;> simp
  ·have h1:=(q73.1 (show (a.1,a.2) ∈ tZ f j i from ha)).1
   split at hb
   ·simp at hb; subst hb; exact h1
   ·cases hb
def qbB {j:Nat} {p:List Int × List Nat}:∀ i,tC f j p i=(p.1 ++ (tZ f j i).map (fun q=>(q.1:Int)),p.2 ++ (tZ f j i).map (·.2))
 | 0=>by simp [tC,tZ]
 | i+1=>by
  rw [tC,tZ_s,qbB i];cases h:f j i <;> simp
def tO (f:Nat→Nat→Option Nat) (R j:Nat):Nat:=(tM f R j).2.1.length
def qnr {j:Nat}:tO f R (j+1)=tO f R j+(tZ f j R).length:=by simp [tO,tM,qbB]
def tM_st {j:Nat}:(tM f R j).1[j]?=some (tO f R j:Int):=by
 cases j with
 | zero=>simp [tM,tO]
 | succ j =>
  have:=(q1d (f:=f) (R:=R) j).1;simp only [tM,tO];rw [List.getElem?_append_right (by omega),this];simp
def qcT {j:Nat}:∀ d,∃ a b c,(tM f R (j+d)).1=(tM f R j).1 ++ a∧(tM f R (j+d)).2.1=(tM f R j).2.1 ++ b∧(tM f R (j+d)).2.2=(tM f R j).2.2 ++ c
 | 0=>⟨[],[],[],by simp,by simp,by simp⟩
 | d+1=>by
  obtain ⟨a,b,c,h1,h2,h3⟩:=qcT (j:=j) d;have e1:(tM f R (j+(d+1))).1=(tM f R (j+d)).1 ++ [((tC f (j+d) (tM f R (j+d)).2 R).1.length:Int)]:=rfl;have e2:(tM f R (j+(d+1))).2=tC f (j+d) (tM f R (j+d)).2 R:=rfl;rw [qbB] at e2;rw [e1,e2,h1,h2,h3];simp only [List.append_assoc];exact ⟨_,_,_,rfl,rfl,rfl⟩
def q4R {j:Nat} (hj:j≤C):(tM f R C).1[j]?=some (tO f R j:Int):=by
 obtain ⟨a,b,c,h1,_,_⟩:=qcT (f:=f) (R:=R) (j:=j) (C-j);rw [show j+(C-j)=C by omega] at h1;rw [h1,List.getElem?_append_left (by rw [(q1d j).1]; omega)];exact tM_st
def qoy {j:Nat} (hj:j < C):∃ b c,(tM f R C).2.1=(tM f R j).2.1 ++ (tZ f j R).map (fun q=>(q.1:Int)) ++ b∧(tM f R C).2.2=(tM f R j).2.2 ++ (tZ f j R).map (·.2) ++ c:=by
 obtain ⟨a,b,c,_,h2,h3⟩:=qcT (f:=f) (R:=R) (j:=j+1) (C-(j+1));rw [show j+1+(C-(j+1))=C by omega] at h2 h3;refine ⟨b,c,?_,?_⟩
 ·rw [h2]; simp only [tM,qbB]
 ·rw [h3]; simp only [tM,qbB]
def qfi {j k:Nat} (hj:j < C) (h1:tO f R j≤k) (h2:k < tO f R (j+1)):∃ q,(tZ f j R)[k-tO f R j]?=some q∧(tM f R C).2.1[k]?=some (q.1:Int)∧(tM f R C).2.2[k]?=some q.2:=by
 obtain ⟨b,c,e1,e2⟩:=qoy (f:=f) (R:=R) hj;rw [qnr] at h2;have hl:=(q1d (f:=f) (R:=R) j).2.1;have ho:tO f R j=(tM f R j).2.1.length:=rfl;obtain ⟨q,hq⟩:∃ q,(tZ f j R)[k-tO f R j]?=some q:=⟨_,List.getElem?_eq_getElem Oq⟩;refine ⟨q,hq,?_,?_⟩
 ·rw [e1,List.getElem?_append_left (by simp; omega),List.getElem?_append_right (by omega),List.getElem?_map,← ho,hq]; rfl
 ·rw [e2,List.getElem?_append_left (by simp; omega),List.getElem?_append_right (by omega),List.getElem?_map,← hl,← ho,hq]; rfl
def qow:MPt C (tM f R C).1 (tM f R C).2.1 (tM f R C).2.2:=by
 have hl:=q1d (f:=f) (R:=R) C;refine ⟨hl.2.1.symm,by omega,?_,by rw [Int.toNat_natCast]; exact q4R (Nat.le_refl _),fun j x y hx hy=>?_⟩
 ·rw [q4R (Nat.zero_le _)]; rfl
 ·have h1:=(List.getElem?_eq_some_iff.1 hy).1;rw [q4R (by omega)] at hx hy;cases hx; cases hy;have:=qnr (f:=f) (R:=R) (j:=j);omega
def qox:MIx R (tM f R C).1 (tM f R C).2.1:=fun j x y hx hy k h1 h2 v hv=>by
 have hl:=q1d (f:=f) (R:=R) C;have h3:=(List.getElem?_eq_some_iff.1 hy).1;rw [q4R (by omega)] at hx hy;cases hx; cases hy;obtain ⟨q,q1,q2,q3⟩:=qfi (f:=f) (R:=R) (C:=C) (j:=j) (k:=k) Oq Oq Oq;rw [hv] at q2;cases q2;have:=(q73.1 (show (q.1,q.2) ∈ _ from List.mem_of_getElem? q1)).1;refine ⟨by omega,by omega,fun hk u hu=>?_⟩;obtain ⟨p,p1,p2,p3⟩:=qfi (f:=f) (R:=R) (C:=C) (j:=j) (k:=k-1) Oq Oq Oq;rw [hu] at p2;cases p2;have ha:=List.pairwise_iff_getElem.1 (qi3 (f:=f) (j:=j) R);obtain ⟨a1,a2⟩:=List.getElem?_eq_some_iff.1 p1;obtain ⟨b1,b2⟩:=List.getElem?_eq_some_iff.1 q1;have:=ha _ _ a1 b1 Oq;rw [a2,b2] at this;omega
def q87 {x:Nat}:∀ C,x ∈ (tM f R C).2.2→∃ j i,j < C∧i < R∧f j i=some x
 | 0,h=>by simp [tM] at h
 | C+1,h=>by
  simp only [tM,qbB,List.mem_append] at h
  rcases h with h | h
  ·obtain ⟨j,i,h1,h2,h3⟩:=q87 C h;exact ⟨j,i,by omega,h2,h3⟩
  ·obtain ⟨⟨k,y⟩,hq,rfl⟩:=List.mem_map.1 h;have:=q73.1 hq;exact ⟨C,k,by omega,this.1,this.2⟩
def qoz (hR:R≤200) (hC:C≤200) (hRC:C*R≤10000) (hf:∀ j i x,j < C→i < R→f j i=some x→q0Q x):q3u R C (tM f R C).1 (tM f R C).2.1 (tM f R C).2.2=0:=by
 have hl:=q1d (f:=f) (R:=R) C;have hz:MSz R C (tM f R C).2.1:=⟨by omega,by omega,by omega,by omega,by omega⟩;unfold q3u;rw [if_pos hz,if_pos ⟨qow,qox⟩,if_pos];intro x hx;obtain ⟨j,i,h1,h2,h3⟩:=q87 C hx;exact hf j i x h1 h2 h3
end
structure TOk (f:Nat→Nat→Option Nat) (R C:Nat):Prop where
 r:R≤200
 c:C≤200
 m:C*R≤10000
 u:∀ j i x,j < C→i < R→f j i=some x→x < 18446744073709551616
 v:∀ j i x,j < C→i < R→f j i=some x→q0Q x
def TOk.vl {f:Nat→Nat→Option Nat} {R C:Nat} (h:TOk f R C):(tM f R C).1.length≤9223372036854775807∧(tM f R C).2.1.length≤9223372036854775807∧(tM f R C).2.2.length≤9223372036854775807∧(∀ x ∈ (tM f R C).2.2,x < 18446744073709551616):=by
 have:=q1d (f:=f) (R:=R) C;have:=h.c;have:=h.m;refine ⟨by omega,by omega,by omega,fun x hx=>?_⟩;obtain ⟨j,i,h1,h2,h3⟩:=q87 C hx;exact h.u j i x h1 h2 h3
def TOk.chk {f:Nat→Nat→Option Nat} {R C:Nat} (h:TOk f R C):q3u R C (tM f R C).1 (tM f R C).2.1 (tM f R C).2.2=0:=qoz h.r h.c h.m h.v

section
def qnc {τ:Nat→Option Nat} {h h':Hp} {a b c d:List PV} (h1:LeL τ h h' a c) (h2:LeL τ h h' b d):LeL τ h h' (a ++ b) (c ++ d):=by
 obtain ⟨l1,e1⟩:=h1;obtain ⟨l2,e2⟩:=h2;refine ⟨by simp [l1,l2],fun i x y hx hy=>?_⟩
 by_cases hi:i < a.length
 ·rw [List.getElem?_append_left hi] at hx;rw [List.getElem?_append_left (by omega)] at hy;exact e1 i x y hx hy
 ·rw [List.getElem?_append_right (by omega)] at hx;rw [List.getElem?_append_right (by omega),← l1] at hy;exact e2 _ x y hx hy
def clR {α:Type} {f:α→List Int} {l:List α}:ClL (l.map fun v=>pI (f v)):=fun x hx=>by
 obtain ⟨e,_,rfl⟩:=List.mem_map.1 hx
 trivial
def qtX {α:Type} {f:α→List Int} {l:List α} {τ:Nat→Option Nat} {h h':Hp}:LeL τ h h' (l.map fun v=>pI (f v)) (l.map fun v=>pI (f v))=True:=eq_true (q0R rfl clR)
attribute [local go_sem] qtX
end
open Classical in
noncomputable def sqM (rows cols:Int) (st ix:List Int) (vl:List Nat) (order:List Int):Int :=
 if q3u rows cols st ix vl=0 then (if rows=cols then (if q2C order rows then 0 else 90) else 5) else q3u rows cols st ix vl
def qbM {rows cols:Int} {st ix order:List Int} {vl:List Nat} (hl:st.length≤9223372036854775807) (hli:ix.length≤9223372036854775807) (hlv:vl.length≤9223372036854775807) (hu:∀ x ∈ vl,x < 18446744073709551616):ACt 114 [q5e rows cols st ix vl,pI order] (iv (sqM rows cols st ix vl order)):=by
 have hA:=q9m (rows:=rows) (cols:=cols) hl hli hlv hu;have c1:¬ q3u rows cols st ix vl=0→sqM rows cols st ix vl order=q3u rows cols st ix vl:=fun h=>if_neg h;have c2:q3u rows cols st ix vl=0→¬ rows=cols→sqM rows cols st ix vl order=5:=fun h h2=>by unfold sqM; rw [if_pos h,if_neg h2]
 have c3:q3u rows cols st ix vl=0→rows=cols→¬ q2C order rows→sqM rows cols st ix vl order=90:=fun h h2 h3=>by unfold sqM; rw [if_pos h,if_pos h2,if_neg h3]
 have c4:q3u rows cols st ix vl=0→rows=cols→q2C order rows→sqM rows cols st ix vl order=0:=fun h h2 h3=>by unfold sqM; rw [if_pos h,if_pos h2,if_pos h3]
 generalize sqM rows cols st ix vl order=res at *;unfold q5e at *;refine ac0 Tryz.func114 Tryz.ntmps114 [.tmp 4] ?_;refine wk ?_
 by_cases hz:q3u rows cols st ix vl=0
 case neg =>
  have e1:(q3u rows cols st ix vl != 0)=true:=by simpa using hz
  refine wk1 e1 ?_;rw [c1 hz]
 have e1:(q3u rows cols st ix vl != 0)=false:=by simpa using hz
 refine wk1 e1 ?_;obtain ⟨hz1,_⟩:=chk0 hz;have b0:=hz1.r0;have b1:=hz1.r1;refine wk ?_
 by_cases hrc:rows=cols
 case neg =>
  have e2:(rows != cols)=true:=by simpa using hrc
  refine wk1 e2 ?_;rw [c2 hz hrc]
 have e2:(rows != cols)=false:=by simpa using hrc
 have C1:=@q6b;refine wk1 e2 ?_
 by_cases hp:q2C order rows
 ·have ep:∀ (i:Decidable (q2C order rows)),@decide _ i=true:=fun _=>decide_eq_true hp;refine wk1 ep ?_;rw [c4 hz hrc hp]
 ·have ep:∀ (i:Decidable (q2C order rows)),@decide _ i=false:=fun _=>decide_eq_false hp;refine wk1 ep ?_;rw [c3 hz hrc hp]
def qax {f:Nat→Nat→Option Nat} {R:Nat} {order:List Int} (h:TOk f R R) (hp:q2C order R):ACt 114 [pT R R f,pI order] (iv 0):=by
 obtain ⟨h1,h2,h3,h4⟩:=h.vl;have:=qbM (rows:=R) (cols:=R) (order:=order) h1 h2 h3 h4;unfold sqM at this;rw [if_pos h.chk,if_pos rfl,if_pos hp] at this;exact this
def qaI {ix:List Int} {i:Int}:∀ {d a:Nat} {k:Nat},q7w ix i a (a+d)=some k→a≤k∧k < a+d∧ix[k]?=some i:=fun {d a k} h=>by
 unfold q7w at h;have h1:=List.find?_some h;have h2:=List.mem_of_find?_eq_some h;rw [List.mem_range'_1] at h2;exact ⟨h2.1,by omega,by simpa using h1⟩
def qgp {ix:List Int} {i:Int} {d a:Nat} (h:q7w ix i a (a+d)=none):∀ k,a≤k→k < a+d→¬ ix[k]?=some i:=fun k h1 h2 h3=>by
 unfold q7w at h;have:=List.find?_eq_none.1 h k (by rw [List.mem_range'_1]; omega);simp [h3] at this
def qi4 {f:Nat→Nat→Option Nat} {R C i j:Nat} (hi:i < R) (hj:j < C):(match qe8 (tM f R C).1 (tM f R C).2.1 i j with | some k=>(tM f R C).2.2[k]? | none=>none)=f j i:=by
 have e1:((tM f R C).1.getD j 0).toNat=tO f R j:=by rw [List.getD_eq_getElem?_getD,q4R (by omega)]; rfl
 have e2:((tM f R C).1.getD (j+1) 0).toNat=tO f R (j+1):=by rw [List.getD_eq_getElem?_getD,q4R (by omega)]; rfl
 unfold qe8;rw [e1,e2,qnr];cases h:q7w (tM f R C).2.1 i (tO f R j) (tO f R j+(tZ f j R).length) with
 | some k =>
  obtain ⟨h1,h2,h3⟩:=qaI h;obtain ⟨q,q1,q2,q3⟩:=qfi (f:=f) (R:=R) (C:=C) (j:=j) (k:=k) hj h1 (by rw [qnr]; exact h2);rw [q2] at h3;have hqi:q.1=i:=by have:=Option.some.inj h3; omega
  have:=(q73.1 (show (q.1,q.2) ∈ _ from List.mem_of_getElem? q1)).2;simp only;rw [q3,← this,hqi]
 | none =>
  cases hx:f j i with
  | none=>rfl
  | some x =>
   obtain ⟨m,hm⟩:=List.getElem?_of_mem (q73.2 ⟨hi,hx⟩:(i,x) ∈ tZ f j R);have hml:=(List.getElem?_eq_some_iff.1 hm).1;obtain ⟨q,q1,q2,q3⟩:=qfi (f:=f) (R:=R) (C:=C) (j:=j) (k:=tO f R j+m) hj (by omega) (by rw [qnr]; omega);rw [Nat.add_sub_cancel_left,hm] at q1;cases q1;exact absurd q2 (qgp h _ Oq Oq)
def qi5 {f:Nat→Nat→Option Nat} {R C i j:Nat} (h:TOk f R C) (hi:i < R) (hj:j < C):ACt 37 [pT R C f,iv i,iv j] (uv (((f j i).getD 0:Nat):Int)):=by
 obtain ⟨h1,h2,h3,h4⟩:=h.vl;have:=qqB (rows:=R) (cols:=C) (i:=i) (j:=j) h1 h2 h3 h4;unfold atM at this;rw [if_pos ⟨h.chk,by omega,by omega⟩,Int.toNat_natCast] at this;have hf:=qi4 (f:=f) hi hj;cases hc:qe8 (tM f R C).1 (tM f R C).2.1 i j with
 | some k =>
  rw [hc] at this hf;simp only at this hf;rw [List.getD_eq_getElem?_getD,hf] at this;exact this
 | none =>
  rw [hc] at this hf;simp only at this hf;rw [← hf];exact this
def qaw {f:Nat→Nat→Option Nat} {R C i j:Nat} (h:TOk f R C) (hi:i < R) (hj:j < C):ACt 117 [pT R C f,iv i,iv j] (bv (f j i).isSome):=by
 have hl:=q1d (f:=f) (R:=R) C;have hm:=h.m;have hcc:=h.c;have:=qbL (rows:=R) (cols:=C) (i:=i) (j:=j) (st:=(tM f R C).1) (ix:=(tM f R C).2.1) (vl:=(tM f R C).2.2) Oq Oq qow;unfold qpB at this;rw [if_pos ⟨by omega,by omega,by omega,by omega⟩,Int.toNat_natCast] at this;have hf:=qi4 (f:=f) hi hj;cases hc:qe8 (tM f R C).1 (tM f R C).2.1 i j with
 | some k =>
  rw [hc] at this hf;simp only at this hf;have hk:k < (tM f R C).2.2.length:=by
   unfold qe8 at hc;have e1:((tM f R C).1.getD j 0).toNat=tO f R j:=by rw [List.getD_eq_getElem?_getD,q4R (by omega)]; rfl
   have e2:((tM f R C).1.getD (j+1) 0).toNat=tO f R (j+1):=by rw [List.getD_eq_getElem?_getD,q4R (by omega)]; rfl
   rw [e1,e2,qnr] at hc;have:=(List.getElem?_eq_some_iff.1 (qaI hc).2.2).1;omega
  rw [← hf,List.getElem?_eq_getElem hk];exact this
 | none =>
  rw [hc] at this hf;simp only at this hf;rw [← hf];exact this
def q5j {x:Nat}:ACt 136 [uv x] (bv (decide (x=0∨x=9223372036854775808))):=by
 have h0:((x:Int) == 0)=decide (x=0):=by
  rw [Bool.eq_iff_iff,beq_iff_eq,decide_eq_true_iff]; omega
 have h1:((x:Int) == 9223372036854775808)=decide (x=9223372036854775808):=by
  rw [Bool.eq_iff_iff,beq_iff_eq,decide_eq_true_iff]; omega
 refine ac0 Tryz.func136 Tryz.ntmps136 [.tmp 2] ?_;refine wk ?_
 by_cases e0:x=0
 ·refine wk1 (x2 h0 (decide_eq_true e0)) ?_;simp [e0]
 ·by_cases e1:x=9223372036854775808
  ·refine wk1 (x4 h0 (decide_eq_false e0) h1 (decide_eq_true e1)) ?_;simp [e1]
  ·refine wk1 (x4 h0 (decide_eq_false e0) h1 (decide_eq_false e1)) ?_;simp [e0,e1]
def q4w {x y:Nat} {A B V:Int} (hx:x < 18446744073709551616) (hy:y < 18446744073709551616) (ha:ofF x=some A) (hb:ofF y=some B) (hv:mkV (A*B) (-131072)=some V):ACt 137 [uv x,uv y] (pV V):=by
 refine ac0 Tryz.func137 Tryz.ntmps137 [.cell 4 56] ?_;have C1:=(q2e hx ha);have C2:=(q2e hy hb);have C3:=(q8g hv);exact wk trivial
def qby {A B:Int} {x:Nat} (h:ACt 138 [pV A,pV B,iv 0] (uv x)):ACt 73 [pV A,pV B] (uv x):=by
 refine ac0 Tryz.func73 Tryz.ntmps73 [.tmp 4] ?_;have C1:=@h;exact wk trivial
def qaz {x y:Nat} (hx:bl x≤20000000) (hy:bl y≤20000000) (hy0:y≠0):ACt 247 [.fm (fL x),.fm (fL y)] (.tu [.fm (fL (x / y:Nat)),.fm (fL (x % y:Nat))]):=q2u (qe0 hx hy hy0)
def q75 {s:Bool} {z:Nat} (hz:bl z≤20000000):ACt 160 [bv s,.fm (fL z)] (bT (sgn s z)):=by
 have C:=q1M (s:=s) (q0C z) (q2x hz);rw [q0D] at C;exact q2u C
def q74 {a:Int} (ha:bl a.natAbs≤20000000):ACt 150 [bT a] (bT a):=q2u (q33 rfl ha)
def q5n {a:Int} (ha:bl a.natAbs≤20000000):ACt 143 [bT a] (iv (bl a.natAbs:Nat)):=q2u (q3G ha)
def qay {a b:Nat} (ha:bl a≤20000000) (hb:bl b≤20000000) (hb0:b≠0):ACt 235 [bT a,bT b] (.tu [bT (a / b:Nat),bT (a % b:Nat)]):=by
 have h1:=q0r (Nat.div_le_self a b);have h2:=q0r (Nat.mod_le a b);have cA:=q74 (a:=a) (by rw [Int.natAbs_natCast]; exact ha);have cB:=q74 (a:=b) (by rw [Int.natAbs_natCast]; exact hb);have cD:=qaz ha hb hb0;have cQ:=q75 (s:=false) (z:=a / b) Oq;have cR:=q75 (s:=false) (z:=a % b) Oq;have cS:=q18 (a:=(a % b:Nat)) (by rw [Int.natAbs_natCast]; omega);rw [q7d] at cQ cR;have d:∀ z:Nat,decide ((z:Int) < 0)=false:=fun z=>decide_eq_false Oq;have hs:((a % b:Nat):Int).sign < 0 ↔ False:=by
  rcases Nat.eq_zero_or_pos (a % b) with h | h
  ·rw [h]; simp
  ·rw [Int.sign_eq_one_of_pos (by omega)]; simp
 generalize ((a % b:Nat):Int).sign=sg at *;generalize a % b=r at *;generalize a / b=q at *;have hs':¬ sg < 0:=fun h=>hs.1 h;have e0:(false != false)=false:=rfl;unfold bT at *;rw [d] at *;simp only [d] at *;refine ac0 Tryz.func235 Tryz.ntmps235 [.cell 4 54,.cell 5 54] ?_;exact wk1 (x2 e0 hs') trivial
def q86 {N M:Nat} {neg more:Bool} {mode e:Int} (hM:0 < M) (hN:M≤N) (hm:more=decide (N % M≠0)) (hmb:more=true→55≤bl (N / M)) (hb:bl (N / M)≤200000) (he1 : -200000≤e) (he2:e≤200000) :
  ACt 97 [bv neg,bT (N / M:Nat),iv e,bv more,iv mode] (uv (rE mode neg N M e:Nat)):=q5J rfl hM hN hm hmb hb he1 he2
def rtK (a b:Nat):Nat:=62+bl b-bl a
def qcS {a b:Nat} (ha0:a≠0) (hb0:b≠0) (ha:bl a≤200000) (hb:bl b≤200000) :
  ACt 208 [bT a,bT b,iv 60] (.tu [bT (a*2 ^ rtK a b / b:Nat),iv (-(rtK a b:Int)),bv (decide (a*2 ^ rtK a b % b≠0))]):=by
 obtain ⟨k,hk⟩:∃ k,k=rtK a b:=⟨_,rfl⟩;rw [← hk];unfold rtK at hk;have cA:=q5n (a:=a) (by rw [Int.natAbs_natCast]; omega);have cB:=q5n (a:=b) (by rw [Int.natAbs_natCast]; omega);rw [Int.natAbs_natCast] at cA cB;have cH:=q5A (a:=a) (m:=k) (by rw [Int.natAbs_natCast]; omega) (by omega) (by omega);have eH:shI a (k:Int)=((a*2 ^ k:Nat):Int):=by unfold shI; rw [if_pos (by omega),Int.toNat_natCast]; simp
 rw [eH] at cH;have hbk:bl (a*2 ^ k)≤600000:=by rw [q1P ha0]; omega
 have cD:=qay (a:=a*2 ^ k) (b:=b) Oq Oq hb0;have hbm:=q0r (Nat.mod_le (a*2 ^ k) b);have cS:=q18 (a:=(a*2 ^ k % b:Nat)) (by rw [Int.natAbs_natCast]; omega);have w1:IntKind.i64.wrap ((62:Int)+(bl b:Nat))=((62+bl b:Nat):Int):=by rw [i64_in (by omega) (by omega)]; omega
 have w2:IntKind.i64.wrap (((62+bl b:Nat):Int)-(bl a:Nat))=((62+bl b:Nat):Int)-(bl a:Nat):=i64_in Oq Oq;have em:max (((62+bl b:Nat):Int)-(bl a:Nat)) 0=(k:Int):=by omega
 have w3:IntKind.i64.wrap (0-(k:Int)) = -(k:Int):=by rw [i64_in (by omega) (by omega)]; omega
 have es:(((a*2 ^ k % b:Nat):Int).sign != 0)=decide (a*2 ^ k % b≠0):=by
  by_cases h:a*2 ^ k % b=0
  ·rw [h]; rfl
  ·rw [Int.sign_eq_one_of_pos (by omega),decide_eq_true h]; rfl
 generalize decide (a*2 ^ k % b≠0)=mr at *;generalize ((a*2 ^ k % b:Nat):Int).sign=sg at *;generalize a*2 ^ k % b=r at *;generalize a*2 ^ k / b=q at *;generalize a*2 ^ k=m at *;unfold bT at *;have w0:IntKind.i64.wrap ((60:Int)+2)=62:=rfl;refine ac0 Tryz.func208 Tryz.ntmps208 [.cell 6 54,.tmp 7,.tmp 8] ?_;exact wk1 (x6 w0 w1 w2 em w3 es) trivial
def qdC {A B mode:Int} (hB0:B≠0):ACt 138 [pV A,pV B,iv mode] (uv (fQ mode A B:Nat)):=q8R (al':=[dT A,dT B,iv mode]) (p:=q0b A∧q0b B) qeh (fun D w vs hR=>by
 obtain ⟨a,b,c,rfl,h1,h2,h3⟩:=rd_3 hR;obtain ⟨h4,h5⟩:=q2s.2 (q9j h1);obtain ⟨h6,h7⟩:=q2s.2 (q9j h2);refine ⟨?_,h5,h7⟩;unfold RdL;refine ⟨_,_,rfl,h4,?_⟩;unfold RdL;exact ⟨_,_,rfl,h6,RdL.one h3⟩) fun ⟨hA,hB⟩=>by
 obtain ⟨a1,a2,a3⟩:=q1E hA;obtain ⟨b1,b2,b3⟩:=q1E hB;have b4:=q6C hB;have cA:=q0s hA;have cB:=q0s hB;have sB:=q18 (a:=od B) Oq;have sA:=q18 (a:=od A) Oq;have oB:=q3H hB0;have e1:((od B).sign == 0)=false:=by simpa [Int.sign_eq_zero_iff_zero] using oB
 by_cases hA0:A=0
 ·have oA:od A=0:=by
   have:=q1O A;rw [hA0] at this ⊢
   rcases Int.mul_eq_zero.1 this with h | h
   ·exact h
   ·exact absurd h (Int.ne_of_gt (q0U _))
  have e2:((od A).sign == 0)=true:=by rw [oA]; rfl
  have hres:fQ mode A B=0:=by unfold fQ; rw [if_pos hA0]
  rw [hres];unfold dT at *;unfold bT at *;refine ac0 Tryz.func138 Tryz.ntmps138 [.tmp 6] ?_;refine wk1 (x2 e1 e2) ?_
  rfl
 have oA:=q3H hA0;have e2:((od A).sign == 0)=false:=by simpa [Int.sign_eq_zero_iff_zero] using oA
 have tA:=q88 (a:=od A) Oq;have tB:=q88 (a:=od B) Oq;have pA:(od A).natAbs≠0:=by omega
 have pB:(od B).natAbs≠0:=by omega
 have cR:=qcS pA pB Oq Oq;obtain ⟨k,hk⟩:∃ k,k=rtK (od A).natAbs (od B).natAbs:=⟨_,rfl⟩;rw [← hk] at cR;have hk2:62+bl (od B).natAbs-bl (od A).natAbs=k:=hk.symm;have hbk:=q1P pA (k:=k);have hge:=q8M pB (N:=(od A).natAbs*2 ^ k) (k:=60) (by rw [hbk]; omega);have hle:(od B).natAbs≤(od A).natAbs*2 ^ k:=by
  rcases Nat.lt_or_ge ((od A).natAbs*2 ^ k) (od B).natAbs with h | h
  ·rw [Nat.div_eq_of_lt h] at hge; simp [bl] at hge
  ·exact h
 have hbq:=q0r (Nat.div_le_self ((od A).natAbs*2 ^ k) (od B).natAbs);have hrd:=q86 (N:=(od A).natAbs*2 ^ k) (M:=(od B).natAbs) (neg:=decide (A < 0) != decide (B < 0)) (mode:=mode) (e:=dyE A-k-dyE B) (Nat.pos_of_ne_zero pB) hle rfl (fun _=>by omega) Oq Oq Oq;rw [qis hA0 hB0] at hrd;have hres:fQ mode A B=rF mode (decide (A < 0) != decide (B < 0)) A.natAbs B.natAbs:=by unfold fQ; rw [if_neg hA0]
 rw [hres];have w1:IntKind.i64.wrap (dyE A-dyE B)=dyE A-dyE B:=q60 Oq Oq;have w2:IntKind.i64.wrap (dyE A-dyE B + -(k:Int))=dyE A-k-dyE B:=by rw [i64_in (by omega) (by omega)]; omega
 have s1:=q1y A;have s2:=q1y B;generalize rF mode (decide (A < 0) != decide (B < 0)) A.natAbs B.natAbs=res at *;generalize decide ((od A).natAbs*2 ^ k % (od B).natAbs≠0)=mr at *;generalize (od A).natAbs*2 ^ k / (od B).natAbs=q at *;have d1:∀ z:Nat,decide ((z:Int) < 0)=false:=fun z=>decide_eq_false Oq;unfold dT at *;unfold bT at *;rw [← s1,← s2] at hrd;refine ac0 Tryz.func138 Tryz.ntmps138 [.tmp 6] ?_;exact wk1 (x4 e1 e2 w1 w2) trivial

def q80 (raw:List Nat) (k:Int) (st n:Nat):List Nat:=(List.range n).map fun i:Nat=>q2U st (q3t raw (k+i))
def q6Q {raw:List Nat} {k:Int} {st n:Nat}:(q80 raw k st n).length=n:=by simp [q80]
def qo1 {raw:List Nat} {k:Int} {st n:Nat}:q80 raw k st (n+1)=q80 raw k st n ++ [q2U st (q3t raw (k+n))]:=by simp [q80,List.range_succ]
def keep (x:Nat):Prop:=0 < x / 1099511627776 % 3
instance {x:Nat}:Decidable (keep x):=inferInstanceAs (Decidable (_ < _))
def gC (raw:List Nat) (R st j:Nat) (p:List Int × List Nat):Nat→List Int × List Nat
 | 0=>p
 | i+1=>let q:=gC raw R st j p i
  if keep (q3t raw (100+j*R+i)) then (q.1 ++ [(i:Int)],q.2 ++ [q2U st (q3t raw (100+j*R+i))]) else q
def gM (raw:List Nat) (R st:Nat):Nat→List Int × List Int × List Nat
 | 0=>([0],[],[])
 | j+1=>let m:=gM raw R st j
  let p:=gC raw R st j m.2 R
  (m.1 ++ [(p.1.length:Int)],p)
abbrev pM (R C:Int) (m:List Int × List Int × List Nat):PV:=.ag [iv R,iv C,pI m.1,pI m.2.1,pF m.2.2]
def qdp {raw:List Nat} {R st j:Nat} {p:List Int × List Nat} (hp:p.1.length=p.2.length):∀ i,(gC raw R st j p i).1.length=(gC raw R st j p i).2.length∧(gC raw R st j p i).1.length≤p.1.length+i
 | 0=>⟨hp,Nat.le_refl _⟩
 | i+1=>by
  have:=qdp (raw:=raw) (R:=R) (st:=st) (j:=j) hp i;simp only [gC]
  split
  ·simp only [List.length_append,List.length_cons,List.length_nil]; omega
  ·omega
def qjS {raw:List Nat} {R st:Nat}:∀ j,(gM raw R st j).1.length=j+1∧(gM raw R st j).2.1.length=(gM raw R st j).2.2.length∧(gM raw R st j).2.1.length≤j*R
 | 0=>⟨rfl,rfl,by simp [gM]⟩
 | j+1=>by
  have h1:=qjS (raw:=raw) (R:=R) (st:=st) j;have h2:=qdp (raw:=raw) (R:=R) (st:=st) (j:=j) h1.2.1 R;simp only [gM];refine ⟨by simp [h1.1],h2.1,?_⟩;rw [Nat.succ_mul]; omega
def qb5 {raw : List Nat} {st : Int} {R C : Nat} (hr : raw.length ≤ 9223372036854775807) (hR : R ≤ 1000) (hC : C ≤ 1000) (h3 : -9223372036854775808 ≤ st) (h4 : st ≤ 9223372036854775807) :
    ACt 44 [pF raw, iv R, iv C, iv st] (pM R C (gM raw R (q1V st 4) C)) := by
  refine ac0 Tryz.func44 Tryz.ntmps44 [.cell 8 37] ?_
  refine wk ?_
  obtain ⟨sm, hsm⟩ : ∃ sm, sm = q1V st 4 := ⟨_, rfl⟩
  rw [← hsm]
  refine q0B (fun j => j ≤ C) [0, 1, 2, 3, 8, 9] [8] Lk Lk (fun j : Nat => [(10, iv j)]) (fun j => [(9, ⟨37, some 5, [.ag [iv R, iv C, .ow 1001 none 0 (gM raw R sm j).1.length, .ow 1002 none 0 (gM raw R sm j).2.1.length, .ow 1003 none 0 (gM raw R sm j).2.2.length]], false⟩), (1001, ⟨3, none, (gM raw R sm j).1.map fun z => iv z, false⟩), (1002, ⟨3, none, (gM raw R sm j).2.1.map fun z => iv z, false⟩), (1003, ⟨43, none, (gM raw R sm j).2.2.map fun z : Nat => uv z, false⟩)]) (fun j => C - j) 0 (Nat.zero_le _) ?_ ?_
  · refine LeM [(1001, some 15), (1002, none), (1003, none)] rfl rfl ?_
    refine Zz ?_
    exact ⟨rfl, ⟨rfl, rfl, rfl⟩, rfl, rfl, rfl⟩
  · intro j hj
    have hg := qjS (raw := raw) (R := R) (st := sm) j
    have hjR : j * R ≤ 1000 * 1000 := Nat.mul_le_mul Oq hR
    refine wk ?_
    by_cases hlt : j < C
    · have hlt' : (j : Int) < C := by omega
      refine wk1 hlt' ?_
      refine q0B (fun i => i ≤ R) [0, 1, 2, 3, 8, 9, 10] [8, 1001] Lk Lk (fun i : Nat => [(11, iv i)]) (fun i => [(9, ⟨37, some 5, [.ag [iv R, iv C, .ow 1001 none 0 (gM raw R sm j).1.length, .ow 1002 none 0 (gC raw R sm j (gM raw R sm j).2 i).1.length, .ow 1003 none 0 (gC raw R sm j (gM raw R sm j).2 i).2.length]], false⟩), (1002, ⟨3, none, (gC raw R sm j (gM raw R sm j).2 i).1.map fun z => iv z, false⟩), (1003, ⟨43, none, (gC raw R sm j (gM raw R sm j).2 i).2.map fun z : Nat => uv z, false⟩)]) (fun i => R - i) 0 (Nat.zero_le _) ?_ ?_
      · refine LeM [] rfl rfl ?_
        refine Zz ?_
        exact ⟨rfl, ⟨rfl, rfl⟩, rfl, rfl⟩
      · intro i hi
        have hq := qdp (raw := raw) (R := R) (st := sm) (j := j) hg.2.1 i
        refine wk ?_
        by_cases hlt2 : i < R
        · have hlt2' : (i : Int) < R := by omega
          refine wk1 hlt2' ?_
          have e0 : 0 ≤ (j : Int) * R := Int.mul_nonneg Oq Oq
          have e1 : (j : Int) * R ≤ 1000000 := by have : ((j * R : Nat) : Int) ≤ 1000000 := by omega
                                                  rwa [Int.natCast_mul] at this
          obtain ⟨x, hx⟩ : ∃ x, x = q3t raw (100 + j * R + i) := ⟨_, rfl⟩
          have hxl : x < 18446744073709551616 := by rw [hx]; exact q28 _ _
          have e2 : (((x : Nat) : Int).fdiv (2 ^ min (Int.toNat 40) 64)) = ((x / 1099511627776 : Nat) : Int) := by
            show (((x : Nat) : Int).fdiv (2 ^ 40)) = _
            rw [show ((2 : Int) ^ 40) = ((1099511627776 : Nat) : Int) from rfl, Int.fdiv_eq_ediv_of_nonneg _ (by omega)]; rfl
          have e3 : (((x / 1099511627776 : Nat) : Int).tmod 3) = ((x / 1099511627776 % 3 : Nat) : Int) := by rw [Int.tmod_eq_emod_of_nonneg (by omega)]; rfl
          have C1 := @q6O
          have C2 := @qjB
          have ek : (decide (((x / 1099511627776 % 3 : Nat) : Int) > 0)) = decide (keep x) := by unfold keep; congr 1; exact propext ⟨fun h => by omega, fun h => by omega⟩
          by_cases hkp : keep x
          · refine wk1 (x6 hx.symm hsm.symm e2 e3 ek hkp) ?_
            have eg : gC raw R sm j (gM raw R sm j).2 (i + 1) = ((gC raw R sm j (gM raw R sm j).2 i).1 ++ [(i : Int)], (gC raw R sm j (gM raw R sm j).2 i).2 ++ [q2U sm x]) := by
              simp only [gC]; rw [← hx, if_pos hkp]
            refine ⟨i + 1, by omega, by omega, ?_⟩
            rw [eg]
            refine LeM [(1002, some 43), (1003, some 51)] rfl rfl ?_
            refine Zz ?_
            omega
          · refine wk1 (x5 hx.symm e2 e3 ek hkp) ?_
            refine ⟨i + 1, by omega, by omega, ?_⟩
            have eg : gC raw R sm j (gM raw R sm j).2 (i + 1) = gC raw R sm j (gM raw R sm j).2 i := by
              simp only [gC]; rw [← hx, if_neg hkp]
            rw [eg]
            refine LeM [] rfl rfl ?_
            refine Zz ?_
            omega
        · have hlt2' : ¬ (i : Int) < R := by omega
          obtain rfl : i = R := by omega
          refine wk1 hlt2' ?_
          refine ⟨j + 1, by omega, by omega, ?_⟩
          refine LeM [(1001, some 59)] rfl rfl ?_
          refine Zz ?_
          exact ⟨by omega, ⟨by simp [gM], rfl, rfl⟩, rfl, rfl, rfl⟩
    · have hlt' : ¬ (j : Int) < C := by omega
      obtain rfl : j = C := by omega
      exact wk1 (x2 hlt' hsm.symm) trivial
def gF (raw:List Nat) (R st:Nat) (j i:Nat):Option Nat:=if keep (q3t raw (100+j*R+i)) then some (q2U st (q3t raw (100+j*R+i))) else none
def gC_s {raw:List Nat} {R st j i:Nat} {p:List Int × List Nat} {x:Nat} (hx:q3t raw (100+j*R+i)=x):gC raw R st j p (i+1)=if keep x then ((gC raw R st j p i).1 ++ [(i:Int)],(gC raw R st j p i).2 ++ [q2U st x]) else gC raw R st j p i:=by
 subst hx; rfl
def gF_x {raw:List Nat} {R st j i x:Nat} (hx:q3t raw (100+j*R+i)=x):gF raw R st j i=if keep x then some (q2U st x) else none:=by
 subst hx; rfl
def qcW {f:Nat→Nat→Option Nat} {j i x:Nat} {p:List Int × List Nat} (h:f j i=some x):tC f j p (i+1)=((tC f j p i).1 ++ [(i:Int)],(tC f j p i).2 ++ [x]):=by simp only [tC,h]
def qbA {f:Nat→Nat→Option Nat} {j i:Nat} {p:List Int × List Nat} (h:f j i=none):tC f j p (i+1)=tC f j p i:=by simp only [tC,h]
def gC_eq {raw:List Nat} {R st j:Nat} {p:List Int × List Nat} {G:Nat→Nat→Option Nat} (hG:∀ i,G j i=gF raw R st j i) (i:Nat):gC raw R st j p i=tC G j p i:=by
 induction i with
 | zero=>unfold gC tC; rfl
 | succ i ih =>
  obtain ⟨x,hx⟩:∃ x,q3t raw (100+j*R+i)=x:=⟨_,rfl⟩;have e2:=(hG i).trans (gF_x (R:=R) (st:=st) hx);rw [gC_s hx,ih]
  by_cases h:keep x
  ·rw [if_pos h] at e2 ⊢;rw [qcW e2]
  ·rw [if_neg h] at e2 ⊢;rw [qbA e2]
def gM_eq {raw:List Nat} {R st:Nat} (j:Nat):gM raw R st j=tM (gF raw R st) R j:=by
 induction j with
 | zero=>rfl
 | succ j ih =>
  have e1:gM raw R st (j+1)=((gM raw R st j).1 ++ [((gC raw R st j (gM raw R st j).2 R).1.length:Int)],gC raw R st j (gM raw R st j).2 R):=rfl;rw [e1,ih,gC_eq (G:=gF raw R st) fun _=>rfl]; rfl
def q8v {raw:List Nat} {st:Int} {R C:Nat} (hr:raw.length≤9223372036854775807) (hR:R≤1000) (hC:C≤1000) (h3 : -9223372036854775808≤st) (h4:st≤9223372036854775807) :
  ACt 44 [pF raw,iv R,iv C,iv st] (pT R C (gF raw R (q1V st 4))):=by
 have:=qb5 (R:=R) (C:=C) hr hR hC h3 h4;rw [gM_eq] at this;exact this
def num1_ok {x:Nat} (hx:x < 18446744073709551616):q0Q (q2U 1 x)∧q2U 1 x < 18446744073709551616:=by
 unfold q0Q q2U;rw [if_pos rfl];omega
def qlS {x:Nat} (hx:x < 18446744073709551616):q0Q (q2U 2 x)∧q2U 2 x < 18446744073709551616:=by
 unfold q0Q q2U;rw [if_neg (by omega),if_pos rfl];have h1:x / 9223372036854775808≤1:=by omega
 have h2:x / 256 % 81 < 81:=by omega
 have h3:x / 2251799813685248 % 2≤1:=by omega
 generalize x / 9223372036854775808=a at *;generalize x / 256 % 81=b at *;generalize x / 2251799813685248 % 2=c at *;omega
def qdO {k x:Nat} (hx:x < 18446744073709551616):q0Q (q2U k x)∧q2U k x < 18446744073709551616:=by
 by_cases h1:k=1
 ·subst h1;unfold q0Q q2U;rw [if_pos rfl];omega
 by_cases h2:k=2
 ·subst h2; exact qlS hx
 by_cases h3:k=3
 ·subst h3;unfold q0Q q2U;rw [if_neg (by omega),if_neg (by omega),if_pos rfl]
  split <;> omega
 have hs:=q63 x;unfold q2U;rw [if_neg h1,if_neg h2,if_neg h3];exact ⟨q6n Oq,qdt Oq⟩
def qqb {raw:List Nat} {R C st:Nat} (hR:R≤200) (hC:C≤200) (hm:C*R≤10000):TOk (gF raw R st) R C:=by
 have key:∀ j i x,gF raw R st j i=some x→q0Q x∧x < 18446744073709551616:=fun j i x h=>by
  obtain ⟨u,hu⟩:∃ u,q3t raw (100+j*R+i)=u:=⟨_,rfl⟩;have hl:u < 18446744073709551616:=by rw [← hu]; exact q28 _ _
  rw [gF_x hu] at h
  split at h
  ·have h:=Option.some.inj h;rw [← h]; exact qdO hl
  ·cases h
 exact ⟨hR,hC,hm,fun j i x _ _ h=>(key j i x h).2,fun j i x _ _ h=>(key j i x h).1⟩
section
variable {D:Nat→Prop} {L:List Nat} {N0 g n gy:Nat} {rows:List (List Int)} {ss:List (Option Addr × Nat × Nat)} {w w':World}
def Sums.kpo (h:Sums w D L N0 g n rows ss) (k:Kp (fun k=>k≠gy) w w') (hD:∀ k,D k→k≠gy) (hg:gy ∉ L):Sums w' D L N0 g n rows ss :=
 ⟨h.own.kp k (fun a ha=>by cases ha; exact fun e=>hg (e ▸ h.gL)),h.len,fun i s r a b=>(h.row i s r a b).kp k (fun k hd=>hD k hd.1) (fun A hA e=>hg (e ▸ (h.mem i s A a hA).1)),h.mem,h.ne,h.gL,h.lo,fun j hj=>Nat.lt_of_lt_of_le (h.hi j hj) k.size⟩
def qpz {mode:Int} {neg:Bool} {N M:Nat} (hN:0 < N) (hM:0 < M):rF mode neg N M < 18446744073709551616:=by
 have h1:M≤N*2 ^ bl M:=Nat.le_trans (Nat.le_of_lt (q21 M)) (Nat.le_mul_of_pos_left _ hN);have:=qqA (mode:=mode) (neg:=neg) (e := -((bl M:Nat):Int)) hM h1;unfold rE at this;rw [show (-((bl M:Nat):Int)).toNat=0 by omega,show (- -((bl M:Nat):Int)).toNat=bl M by omega,Nat.pow_zero,Nat.mul_one,q4l hN hM (q0G _)] at this;exact this
def qh1 {mode a b:Int} (hb:b≠0):fQ mode a b < 18446744073709551616:=by
 unfold fQ
 split
 ·omega
 ·exact qpz Oq Oq
def qqv:Option (List Nat)→Fam
 | some ys=>fP (fSc q3Y ys) (fc (.int .i64 0))
 | none=>fP (fSc q3Y []) (fc (.int .i64 233))
structure RowsOk (f:Fac) (k:Nat) (rows:List (List Int)):Prop where
 len:rows.length=f.pm.length
 row:∀ r ∈ rows,r.length≤1+k∧∀ x ∈ r,bl x.natAbs≤67600
structure RowsIn (f:Fac) (k p b:Nat) (rows:List (List Int)):Prop where
 len:rows.length=f.pm.length
 row:∀ (i:Nat) (r:List Int),rows[i]?=some r→r.length≤2+k∧((∃ p',p≤p'∧p' < b∧f.ri[p']?=some (i:Int))→r.length≤1+k)∧∀ x ∈ r,bl x.natAbs≤67600
def RowsOk.into {f:Fac} {k p b:Nat} (h:RowsOk f k rows):RowsIn f k p b rows :=
 ⟨h.len,fun i r hr=>by
  obtain ⟨h1,h2⟩:=h.row r (List.mem_of_getElem? hr);exact ⟨by omega,fun _=>h1,h2⟩⟩
def RowsIn.out {f:Fac} {k p b:Nat} (h:RowsIn f k p b rows):RowsOk f (k+1) rows :=
 ⟨h.len,fun r hr=>by
  obtain ⟨i,hi⟩:=List.mem_iff_getElem?.1 hr;obtain ⟨h1,_,h2⟩:=h.row i r hi;exact ⟨by omega,h2⟩⟩
def RowsIn.step {f:Fac} {j a k p b i:Nat} {r:List Int} {x q:Nat} (hc:Col f j a b) (h:RowsIn f k p b rows) (hp1:a < p) (hp2:p < b) (hi:f.ri[p]?=some (i:Int)) (hr:rows[i]?=some r) (hx:q0Q x) (hq:q0Q q):RowsIn f k (p+1) b (rows.set i (r ++ [-(q2D x q)])):=by
 have h2:=(q1q hx hq).2;obtain ⟨l1,l2,l3⟩:=h.row i r hr;refine ⟨by rw [List.length_set]; exact h.len,fun i' r' hr'=>?_⟩
 rcases q1Q hr' with ⟨rfl,rfl,_⟩ | ⟨hne,hr'⟩
 ·have:=l2 ⟨p,Nat.le_refl _,hp2,hi⟩;refine ⟨by simp; omega,?_,fun y hy=>?_⟩
  ·rintro ⟨p',h1,h2,h3⟩;have:=hc.mono (p'-p) p i i Oq Oq hi (by rw [show p+(p'-p)=p' by omega]; exact h3);rw [if_neg (by omega)] at this; omega
  ·rcases List.mem_append.1 hy with hy | hy
   ·exact l3 y hy
   ·simp at hy; subst hy; rwa [Int.natAbs_neg]
 ·obtain ⟨m1,m2,m3⟩:=h.row i' r' hr';exact ⟨m1,fun ⟨p',h1,h2,h3⟩=>m2 ⟨p',by omega,h2,h3⟩,m3⟩
def qkx {k:Nat} {f:Fac} {r:List Int} (h:RowsOk f k rows) (hr:r ∈ rows) (hk:k≤500):r.length≤501∧(∀ x ∈ r,q0b x)∧q0b (q0v r):=by
 obtain ⟨h1,h2⟩:=h.row r hr;refine ⟨by omega,fun x hx=>?_,?_⟩
 ·have:=h2 x hx; unfold q0b; omega
 ·have:=q5B (i:=r.length) h2 Oq;rw [List.take_length] at this;unfold q0b; omega
end
def inI {D:Nat→Prop} {a:Addr} {n c i:Nat} {l:List Int} {w:World} {z:Int} (h:In (fSc q2y l) D (.slice (some a) n c) w) (hi:l[i]?=some z):w.cell? (a.add i)=some (.int .i64 z):=by
 obtain ⟨_,hc,_,x⟩:=h.ixI hi; cases hc; exact x
def inU {D:Nat→Prop} {a:Addr} {n c i:Nat} {l:List Nat} {w:World} {z:Nat} (h:In (fSc q3Y l) D (.slice (some a) n c) w) (hi:l[i]?=some z):w.cell? (a.add i)=some (.int .u64 (z:Int)):=by
 obtain ⟨_,hc,_,x⟩:=h.ixU hi; cases hc; exact x
def owG {B g n c j:Nat} {xs:List Value} {v:Value} {w:World} (h:Own w B 43 1 (some ⟨g,0,none⟩) n c xs) (hj:xs[j]?=some v):w.cell? ⟨g,j,none⟩=some v:=by
 obtain ⟨_,hg,_,hc,_⟩:=h.cell (List.getElem?_eq_some_iff.1 hj).1;cases hg;rw [hc]; exact (List.getElem?_eq_getElem _).symm.trans hj
def qb7 {E:Nat→Prop} {f:Fac} {v:Value} {A A2:Option Addr} {n c n2 c2:Nat} {l:List Nat} {ps:List Int} {w:World} (hT:q2E w) (h:In (qqw f) E v w) (ho:FacOk f) (hb:In (fSc q3Y l) E (.slice A n c) w) (hl:q2X l) (hn:n=f.pm.length)
  (hp:In (fSc q2y ps) E (.slice A2 n2 c2) w) (hps:∀ x ∈ ps,0≤x∧x < n) (hpl:n2≤200) (hf:Fr E w) :
  Calls Tryz.prog 140 #[v,.slice A n c,.slice A2 n2 c2] w (Rt (qqv (qaG f ps (l.map fun x=>[ofZ x]) (List.replicate n 0))) E w):=by
 obtain ⟨A3,n3,c3,A4,n4,c4,A5,n5,c5,A6,n6,c6,rfl,h1,h2,h3,h4⟩:=qeL h;have l1:=h1.sc_len;have l2:=h2.sc_len;have l3:=h3.sc_len;have l4:=h4.sc_len;have lb:=hb.sc_len;have lp:=hp.sc_len;have hnb:=ho.n;have hbeg:=fun {w':World} {D':Nat→Prop} (hx:Ext w w') (hd:∀ k,k < w.heap.size→D' k) (hf':Fr D' w')=>qhp (D:=D') (vals:=l.map ofZ) (hT.ext hx) ((hb.sub fun k hk _=>hd k hk).ext hx) (by simp) Oq (fun i x hi=>⟨(hl x (List.mem_of_getElem? hi)).1,ofZ x,by simp [hi],q04 (hl x (List.mem_of_getElem? hi)).2⟩) hf';obtain ⟨N,hN⟩:∃ N,N=w.heap.size:=⟨_,rfl⟩;have b2:=h2.db (w':=w);have b3:=h3.db (w':=w);have b4:=h4.db (w':=w);have bp:=hp.db (w':=w);rw [← hN] at b2 b3 b4 bp;refine q13 Tryz.func140 rfl Tryz.ntmps140 (by kernel_rfl) ?_;refine q0S fun K hK=>?_;refine Zz ?_;refine qmy ?_;intro g3 w3 hg3 hx3 hb3 hs3;refine hK _ _ ?_; clear hK K;have hx:Ext w w3:=hx3;replace b2:=b2.ext hx;replace b3:=b3.ext hx;replace b4:=b4.ext hx;replace bp:=bp.ext hx;clear hx3;refine qn3 (fun e' w'=>∃ (N0 g gy:Nat) (L:List Nat) (ss:List (Option Addr × Nat × Nat)),e' 3=.pointer (some ⟨g3,0,none⟩)∧e' 2=.slice A2 n2 c2∧e' 8=.slice (some ⟨g,0,none⟩) n n∧e' 9=.slice (some ⟨gy,0,none⟩) n n∧Ext w3 w'∧Sums w' (fun k=>k≠gy) L N0 g n (l.map fun x=>[ofZ x]) ss∧Own w' N 43 1 (some ⟨gy,0,none⟩) n n (List.replicate n (q3Y 0))∧gy ∉ L∧g3 < N0∧N≤N0∧g3 < gy) ?_ ?_
 ·refine W_dA q24 (.one 0 (.one 2 (.one 3 (.alt (.one 1 (.one 5 (.one 4 (.one 6 .fin)))) (.one 4 (.one 1 (.one 5 (.one 6 .fin)))))))) (by kernel_rfl) fun KE wE hKE hxE=>?_;replace b2:=b2.ext hxE;replace b3:=b3.ext hxE;replace b4:=b4.ext hxE;replace bp:=bp.ext hxE;replace hb3:=hb3.ext hxE;replace hx:=hx.trans hxE;simp only [q84] at hKE;have hlt3:=hb3.lt;have hmm:(l.map ofZ).map (fun V=>[V])=l.map fun x=>[ofZ x]:=by rw [List.map_map]; rfl
  rw [hmm] at hbeg;have hrp:List.replicate n (Value.int .u64 0)=List.replicate n (q3Y 0):=rfl;have hNE:=hx.size;rw [← hN] at hNE;simp -implicitDefEqProofs (disch:=omega) only [go_sem,Nat.reduceEqDiff,Nat.reduceAdd,↓reduceIte,qji,qjj,qss,qdP,qjC,List.toList_toArray];refine ⟨?_,?_⟩
  ·refine q1A qhl (hbeg (D':=fun _=>True) hx (fun _ _=>trivial) (Fr.triv _)) ?_;rintro _ w14 ⟨rfl,hx14,L,ss,hS⟩; refine ⟨_,rfl,?_⟩;refine qdT (Nat.le_refl _) Oq (by unfold maxLen; omega) fun w17 hx17 hO17 hs17=>?_;have hs14:=hx14.size;refine hKE _ _ ⟨_,_,w14.heap.size,L,ss,Ue,Ue,Ue,Ue,(hxE.trans hx14).trans hx17,(hS.sub (D':=fun k=>k≠w14.heap.size) fun k hk _=>by omega).ext hx17,hO17.mono Oq,fun hm=>?_,hlt3,hNE,by omega⟩;have:=hS.hi _ hm;omega
  ·refine qdT (Nat.le_refl _) Oq (by unfold maxLen; omega) fun w17 hx17 hO17 hs17=>?_;refine q1A qhl (hbeg (D':=fun k=>k≠wE.heap.size) (hx.trans hx17) (fun k hk=>by omega) (fun k hk=>by omega)) ?_;rintro _ w14 ⟨rfl,hx14,L,ss,hS⟩; refine ⟨_,rfl,?_⟩;refine hKE _ _ ⟨_,_,wE.heap.size,L,ss,Ue,Ue,Ue,Ue,(hxE.trans hx17).trans hx14,hS,(hO17.mono Oq).ext hx14,fun hm=>?_,by omega,by omega,hlt3⟩;have:=hS.lo _ hm;omega
 ·rintro e0 w1 ⟨N0,g,gy,L,ss,k3,k2,k8,k9,hx1,hS,hO,hgL,hgN,hNN,hg3y⟩;replace b2:=b2.ext hx1;replace b3:=b3.ext hx1;replace b4:=b4.ext hx1;replace bp:=bp.ext hx1;replace hb3:=hb3.ext hx1;replace hx:=hx.trans hx1;refine q1T fun K0 hK0=>?_;refine Wz1 k2 ?_;refine q58 ?_;refine qfB (fun e2 w2=>∃ (i:Nat) (L:List Nat) (rows:List (List Int)) (ys:List Nat) (ss:List (Option Addr × Nat × Nat)),e2 20=.int .i64 i∧i≤n2∧Ext w w2∧Blk w2 g3 40 #[.slice A3 n3 c3,.slice A4 n4 c4,.slice A5 n5 c5,.slice A6 n6 c6]∧In (fSc q2y f.cp) (Db E N) (.slice A4 n4 c4) w2∧In (fSc q2y f.ri) (Db E N) (.slice A5 n5 c5) w2∧In (fSc q3Y f.vs) (Db E N) (.slice A6 n6 c6) w2∧In (fSc q2y ps) (Db E N) (.slice A2 n2 c2) w2∧Sums w2 (fun k=>k≠gy) L N0 g n rows ss∧Own w2 N 43 1 (some ⟨gy,0,none⟩) n n (ys.map q3Y)∧gy ∉ L∧RowsOk f i rows∧ys.length=n∧qaG f (ps.drop i) rows ys=qaG f ps (l.map fun x=>[ofZ x]) (List.replicate n 0)) (fun e2 _=>n2-(RowKit.intOf (e2 20)).toNat) ⟨0,L,_,_,ss,rfl,Nat.zero_le _,hx,hb3,b2,b3,b4,bp,hS,by rw [List.map_replicate]; exact hO,hgL,⟨by simp; omega,fun r hr=>?_⟩,by simp,rfl⟩ ?_
  ·rw [List.mem_map] at hr;obtain ⟨y,hy,rfl⟩:=hr;exact ⟨by simp,fun x hx=>by simp at hx; subst hx; exact q2w (hl y hy).2⟩
  clear hx hb3 b2 b3 b4 bp hS hO hgL;rintro e1 w2 ⟨i,L,rows,ys,ss,k20,hi,hx,hb3,b2,b3,b4,bp,hS,hO,hgL,hR,hys,hfw⟩ hkk;have r3:e1 3=.pointer (some ⟨g3,0,none⟩):=(hkk 3 (by kernel_rfl)).trans Ue;have r8:e1 8=.slice (some ⟨g,0,none⟩) n n:=(hkk 8 (by kernel_rfl)).trans Ue;have r9:e1 9=.slice (some ⟨gy,0,none⟩) n n:=(hkk 9 (by kernel_rfl)).trans Ue;have r18:e1 18=.slice A2 n2 c2:=(hkk 18 (by kernel_rfl)).trans Ue;have r19:e1 19=.int .i64 n2:=(hkk 19 (by kernel_rfl)).trans Ue;clear hkk
  by_cases hlt:i < n2
  ·have hlt':(i:Int) < n2:=by omega
   refine Wz3 k20 r19 hlt' ?_;refine q1T fun K1 hK1=>?_;refine Wt (q4Z (hK1 _ _ ?_));clear hK1;refine q56 fun K hK=>?_;obtain ⟨x,hxi⟩:∃ x,ps[i]?=some x:=⟨_,List.getElem?_eq_getElem Oq⟩;obtain ⟨hx0,hxn⟩:=hps x (List.mem_of_getElem? hxi);obtain ⟨k,rfl⟩:∃ k:Nat,x=(k:Int):=⟨x.toNat,by omega⟩;obtain ⟨adp,rfl,ip,xp⟩:=bp.ixI hxi;obtain ⟨a,b,hcol⟩:=ho.col k Oq;obtain ⟨dx,dV,d1,d2,d3⟩:=hcol.diag;obtain ⟨ad2,rfl,i2,x2⟩:=b2.ixI hcol.ha;obtain ⟨ad4,rfl,i4,x4⟩:=b4.ixU d1;have hrl:=hR.len;obtain ⟨r,hrk⟩:∃ r,rows[k]?=some r:=⟨_,List.getElem?_eq_getElem Oq⟩;obtain ⟨s1,s2,s3⟩:=qkx hR (List.mem_of_getElem? hrk) Oq;obtain ⟨hdx,hdf⟩:=ho.vals dx (List.mem_of_getElem? d1);obtain ⟨q,hq⟩:∃ q,q=fQ 0 (q0v r) dV:=⟨_,rfl⟩;obtain ⟨D,hDq⟩:∃ D:Nat→Prop,D=fun _=>True:=⟨_,rfl⟩;have hDl:∀ k,Dl D [] k:=fun k=>⟨by rw [hDq]; trivial,by simp⟩;have hD:Fr (Dl D []) w2:=fun k _=>hDl k;have ik:(0:Int)≤(k:Int)∧(k:Int) < n:=by omega
   refine Wz4 r18 k20 ip xp ?_;refine q1T fun K2 hK2=>?_;have hqu:=fun {w:World} {v v':Value} (hT:q2E w) (h:In (fV (q0v r)) (Dl D []) v w) (h':In (fV dV) (Dl D []) v' w) (hf:Fr (Dl D []) w)=>qqu hT h h' Oq hf;rw [← hq] at hqu;clear x2 x4 xp;refine W_dC q24 (Kp (fun k=>k ∉ ([]:List Nat))) (fun _ _=>False) (Kp.pre _) [true,true,true,true,false,true,true,true,true,true,true,true,true,true,false,false,false,false] [false,false,false,false,false,false,false,false,false,false,false,false,false,false,false,false,false,false] [1,1,1,1,0,1,1,1,1,1,1,1,1,1,0,0,1,1] (by kernel_rfl) ?_
   apply Exists.intro
   refine ⟨fun wE hE KE hKE=>?_,fun wE hE KE hKE=>?_,fun wE hxE hr=>?_⟩
   ·skip
    replace hE:=Kp.all hE;replace hb3:=hb3.ext hE;replace b2:=b2.ext hE;replace b3:=b3.ext hE;replace b4:=b4.ext hE;replace bp:=bp.ext hE;replace hS:=hS.ext hE;replace hO:=hO.ext hE;refine Zz10 r3 r8 r9 hb3.c1 hb3.c3 i2 (inI b2 hcol.ha) i4 (inU b4 d1) ik ?_;exact hKE
   ·exact hE.elim
   simp only [qcf,qci,qcg];replace b2:=b2.ext hxE;replace b3:=b3.ext hxE;replace b4:=b4.ext hxE;replace bp:=bp.ext hxE;replace hS:=hS.ext hxE;replace hO:=hO.ext hxE;replace hb3:=hb3.ext hxE;replace hD:=hD.kp hxE;replace hx:=hx.trans hxE;simp -implicitDefEqProofs (disch:=omega) only [go_sem,Nat.reduceEqDiff,Nat.reduceAdd,↓reduceIte,List.toList_toArray,r3,r8,r9,hb3.c1,hb3.c3,i2,(inI b2 hcol.ha),i4,(inU b4 d1),ik];refine Cr qrm (qfd (hT.ext hx) (hS.sub (D':=Dl D []) fun k _ _=>hDl k) hrk Oq s2 s3 (fun k _=>hDl k) hD) fun v28 w28 hx28 h28=>?_;replace b2:=b2.ext hx28;replace b3:=b3.ext hx28;replace b4:=b4.ext hx28;replace bp:=bp.ext hx28;replace hS:=hS.ext hx28;replace hO:=hO.ext hx28;replace hb3:=hb3.ext hx28;replace hD:=hD.kp hx28;replace hx:=hx.trans hx28;replace hr:=hr.trans (Kp.of_ext hx28);clear hx28;refine ⟨hr,?_⟩;refine Cr qef (qh3 (hT.ext hx) hdx d2 hD) fun v38 w38 hx38 h38=>?_;replace b2:=b2.ext hx38;replace b3:=b3.ext hx38;replace b4:=b4.ext hx38;replace bp:=bp.ext hx38;replace hS:=hS.ext hx38;replace hO:=hO.ext hx38;replace h28:=h28.ext hx38;replace hb3:=hb3.ext hx38;replace hD:=hD.kp hx38;replace hx:=hx.trans hx38;replace hr:=hr.trans (Kp.of_ext hx38);clear hx38;refine ⟨hr,?_⟩;refine Ck qro (hqu (hT.ext hx) h28 h38 hD) fun w39 hx39=>?_;replace b2:=b2.ext hx39;replace b3:=b3.ext hx39;replace b4:=b4.ext hx39;replace bp:=bp.ext hx39;replace hS:=hS.ext hx39;replace hO:=hO.ext hx39;replace h28:=h28.ext hx39;replace h38:=h38.ext hx39;replace hb3:=hb3.ext hx39;replace hD:=hD.kp hx39;replace hx:=hx.trans hx39;replace hr:=hr.trans (Kp.of_ext hx39);clear hx39;refine ⟨hr,?_⟩;have hqlt:q < 18446744073709551616:=by rw [hq]; exact qh1 Oq
   have hyl:(ys.map q3Y).length=n:=by rw [List.length_map]; exact hys
   refine qc2 hO (by omega:k < n) qpV rfl rfl fun w5 hO5 hk5 hs5=>?_;replace hS:=hS.kpo hk5 (fun _ h=>h) hgL;replace b2:=b2.kpb hk5 fun k hk=>by omega
   replace b3:=b3.kpb hk5 fun k hk=>by omega
   replace b4:=b4.kpb hk5 fun k hk=>by omega
   replace bp:=bp.kpb hk5 fun k hk=>by omega
   replace hb3:=hb3.kpne hk5 Oq;replace hx:=hx.under hk5 fun k hk=>by omega
   have cy:=hO5.cell_set Oq;have hO6:Own w5 N 43 1 (some ⟨gy,0,none⟩) n n ((ys.set k q).map q3Y):=by rw [List.map_set]; exact hO5
   clear hO hO5 hk5 hD;simp only [q84];refine hK2 _ _ ?_; clear hK2;refine q1T fun K3 hK3=>?_;refine q0S fun K hK=>?_;refine Zz3 r9 ik cy ?_;refine q1A qrl (q8A hqlt) ?_;rintro _ _ ⟨rfl,rfl⟩; refine ⟨_,rfl,?_⟩;have hdr:ps.drop i=(k:Int) :: ps.drop (i+1):=by
    rw [List.drop_eq_getElem_cons (by omega)]
    congr 1
    exact Option.some.inj ((List.getElem?_eq_getElem Oq).symm.trans hxi)
   rw [hdr,q5U hcol.ha hcol.hb d1 hrk,q0e d2,← hq] at hfw
   by_cases hfin:q0Q q
   ·rw [if_pos hfin] at hfw;rw [decide_eq_true hfin];refine Zz ?_;refine hK _ _ ?_; clear hK;refine Wf (q4Z (hK3 _ _ ?_));clear hK3;obtain ⟨k1,hk1⟩:∃ k1,k1=k+1:=⟨_,rfl⟩;have hcb:=hcol.hb;rw [← hk1] at hcb;have hle:=hcol.le;have hlt:=hcol.lt;have hrib:=ho.rib;have hril:=ho.ril;obtain ⟨_,hcc,i2',x2'⟩:=b2.ixI hcol.ha;cases hcc;have e1':IntKind.i64.wrap ((a:Int)+1)=((a+1:Nat):Int):=by rw [i64_in Oq (by omega)]; omega
    have e2':IntKind.i64.wrap ((k:Int)+1)=(k1:Int):=by rw [i64_in Oq (by omega)]; omega
    clear cy i2;refine Wz5 r3 hb3.c1 i2' x2' e1' ?_;refine q58 ?_;refine qfB (fun e2 w2=>∃ (p:Nat) (L:List Nat) (rows':List (List Int)) (ss:List (Option Addr × Nat × Nat)),e2 12=.int .i64 p∧a+1≤p∧p≤b∧Ext w w2∧Blk w2 g3 40 #[.slice A3 n3 c3,.slice (some ad2) n4 c4,.slice A5 n5 c5,.slice (some ad4) n6 c6]∧In (fSc q2y f.cp) (Db E N) (.slice (some ad2) n4 c4) w2∧In (fSc q2y f.ri) (Db E N) (.slice A5 n5 c5) w2∧In (fSc q3Y f.vs) (Db E N) (.slice (some ad4) n6 c6) w2∧In (fSc q2y ps) (Db E N) (.slice (some adp) n2 c2) w2∧Sums w2 (fun k=>k≠gy) L N0 g n rows' ss∧Own w2 N 43 1 (some ⟨gy,0,none⟩) n n ((ys.set k q).map q3Y)∧gy ∉ L∧RowsIn f i p b rows'∧qfj f q p (b-p) rows'=qfj f q (a+1) (b-(a+1)) rows) (fun e2 _=>b-(RowKit.intOf (e2 12)).toNat) ⟨a+1,L,rows,ss,rfl,Nat.le_refl _,hlt,hx,hb3,b2,b3,b4,bp,hS,hO6,hgL,hR.into,rfl⟩ ?_;clear hx hb3 b2 b3 b4 bp hS hO6 hgL x2' hrk hR hrl s1 s2 s3;rintro e3 w6 ⟨p,L,rows',ss,k12,hp1,hp2,hx,hb3,b2,b3,b4,bp,hS,hO,hgL,hR,hsub⟩ hkk;have q3:e3 3=.pointer (some ⟨g3,0,none⟩):=(hkk 3 (by kernel_rfl)).trans Ue;have q8:e3 8=.slice (some ⟨g,0,none⟩) n n:=(hkk 8 (by kernel_rfl)).trans Ue;have q9:e3 9=.slice (some ⟨gy,0,none⟩) n n:=(hkk 9 (by kernel_rfl)).trans Ue;have q11:e3 11=.int .i64 k:=(hkk 11 (by kernel_rfl)).trans Ue;have q20:e3 20=.int .i64 i:=(hkk 20 (by kernel_rfl)).trans Ue;clear hkk;obtain ⟨_,hcc,i2,x2⟩:=b2.ixI hcb;cases hcc
    by_cases hlt2:p < b
    ·have hlt2':(p:Int) < b:=by omega
     refine q1T fun K5 hK5=>?_;refine q0S fun K hK=>?_;simp -implicitDefEqProofs (disch:=omega) only [go_sem,Nat.reduceEqDiff,Nat.reduceAdd,↓reduceIte,k12,q3,hb3.c1,q11,e2',i2,x2,hlt2'];refine hK _ _ ?_; clear hK K;refine Wt (q4Z (hK5 _ _ ?_));clear hK5;refine q56 fun K6 hK6=>?_;obtain ⟨j0,hj1,hj2,hj3⟩:=hcol.row ho.n Oq hlt2;obtain ⟨xv,hxv⟩:∃ xv,f.vs[p]?=some xv:=⟨_,List.getElem?_eq_getElem Oq⟩;obtain ⟨hv1,hv2⟩:=ho.vals xv (List.mem_of_getElem? hxv);obtain ⟨ad5,rfl,i5,x5⟩:=b3.ixI hj1;obtain ⟨_,hcc,i6,x6⟩:=b4.ixU hxv;cases hcc;have hyu:((ys.set k q).map q3Y)[k]?=some (.int .u64 (q:Int)):=by rw [List.getElem?_map,List.getElem?_set_self (by omega)]; rfl
     have hrl:=hR.len;obtain ⟨r,hrk⟩:∃ r,rows'[j0]?=some r:=⟨_,List.getElem?_eq_getElem Oq⟩;have hrl2:=(hR.row j0 r hrk).1;have hgy:gy < w6.heap.size:=by
      rcases hO.form with ⟨h0,_⟩ | ⟨_,_,h0,_,hb,_⟩
      ·cases h0
      ·cases h0; exact hb.lt
     clear x2 x5 x6;obtain ⟨hmu,_⟩:=q1q hv2 hfin;refine W_dC q24 (Kp (fun k=>k ∉ ([]:List Nat))) (fun _ _=>False) (Kp.pre _) [true,true,true,true,true,true,true,true,true,true,true,true,true,true,true,false] [false,false,false,false,false,false,false,false,false,false,false,false,false,false,false,false] [1,1,1,1,1,1,1,1,1,1,1,1,1,1,1,1] (by kernel_rfl) ?_
     apply Exists.intro
     refine ⟨fun wE hE KE hKE=>?_,fun wE hE KE hKE=>?_,fun wE hxE hr=>?_⟩
     ·skip
      replace hE:=Kp.all hE;replace hb3:=hb3.ext hE;replace b2:=b2.ext hE;replace b3:=b3.ext hE;replace b4:=b4.ext hE;replace bp:=bp.ext hE;replace hS:=hS.ext hE;replace hO:=hO.ext hE;refine Zz13 k12 q3 q8 q9 q11 hb3.c2 hb3.c3 i5 (inI b3 hj1) i6 (inU b4 hxv) ik (owG hO hyu) ?_;exact hKE
     ·exact hE.elim
     simp only [qcf,qci,qcg];replace b2:=b2.ext hxE;replace b3:=b3.ext hxE;replace b4:=b4.ext hxE;replace bp:=bp.ext hxE;replace hS:=hS.ext hxE;replace hO:=hO.ext hxE;replace hb3:=hb3.ext hxE;replace hx:=hx.trans hxE;clear hr;simp -implicitDefEqProofs (disch:=omega) only [go_sem,Nat.reduceEqDiff,Nat.reduceAdd,↓reduceIte,List.toList_toArray,k12,q3,q8,q9,q11,hb3.c2,hb3.c3,i5,(inI b3 hj1),i6,(inU b4 hxv),ik,(owG hO hyu)];have hw':=hxE.size;refine q1A qmg (q89 (hT.ext hx) hS hrk hv1 hqlt (q04 hv2) (q04 hfin) hmu Oq (fun k hk=>by omega)) ?_;rintro _ w7 ⟨rfl,hk7,L',ss',hL1,hL2,hS7⟩; refine ⟨_,rfl,?_⟩;have hlo:∀ j,j < N→j ∉ L:=fun j hj hm=>by have:=hS.lo j hm; omega
     replace b2:=b2.kpb hk7 hlo;replace b3:=b3.kpb hk7 hlo;replace b4:=b4.kpb hk7 hlo;replace bp:=bp.kpb hk7 hlo;replace hb3:=hb3.kp hk7 fun hm=>by have:=hS.lo _ hm; omega
     replace hx:=hx.under hk7 fun j hj=>hlo j Oq;replace hO:=hO.kp hk7 fun a ha=>by cases ha; exact hgL
     have hgL7:gy ∉ L':=fun hm=>by
      rcases hL2 _ hm with h | h
      ·exact hgL h
      ·omega
     simp only [q84,inB_n];refine hK6 _ _ ?_; clear hK6;refine q6H fun K9 hK9=>?_;refine Zz2 k12 @i64_in ?_;refine hK9 _ _ ?_; clear hK9 K9;refine ⟨⟨p+1,L',_,ss',rfl,by omega,by omega,hx,hb3,b2,b3,b4,bp,hS7,hO,hgL7,hR.step hcol Oq hlt2 hj1 hrk hv2 hfin,?_⟩,by simp only [q2F,↓reduceIte,RowKit.intOf,k12]; omega⟩;rw [← hsub,show b-p=(b-(p+1))+1 by omega,q78 hj1 hxv hrk]
    ·have hlt2':¬ (p:Int) < b:=by omega
     refine q1T fun K5 hK5=>?_;refine q0S fun K hK=>?_;simp -implicitDefEqProofs (disch:=omega) only [go_sem,Nat.reduceEqDiff,Nat.reduceAdd,↓reduceIte,k12,q3,hb3.c1,q11,e2',i2,x2,hlt2'];refine hK _ _ ?_; clear hK K;refine Wf (qae (hK _ _ ?_));obtain rfl:p=b:=by omega
     rw [Nat.sub_self] at hsub;rw [← hsub] at hfw;refine q6H fun K9 hK9=>?_;refine Zz2 q20 @i64_in ?_;refine hK9 _ _ ?_; clear hK9 K9;exact ⟨⟨i+1,L,rows',ys.set k q,ss,rfl,by omega,hx,hb3,b2,b3,b4,bp,hS,hO,hgL,hR.out,by rw [List.length_set]; exact hys,hfw⟩,by simp only [q2F,↓reduceIte,RowKit.intOf,k20]; omega⟩
   ·rw [if_neg hfin] at hfw;rw [decide_eq_false hfin];refine Zz ?_;refine hK _ _ ?_; clear hK;refine Wt ?_;refine Wz ?_;refine q57 ?_
    try simp only [q1u,q5f]
    refine ret2 rfl ⟨_,rfl,hx,by rw [← hfw]; exact ⟨_,_,rfl,by simp only [q2F,Nat.reduceEqDiff,↓reduceIte]; exact In.sc_nil,by simp only [q2F,Nat.reduceEqDiff,↓reduceIte]; exact rfl⟩⟩
  ·have hlt':¬ (i:Int) < n2:=by omega
   refine Wz3 k20 r19 hlt' ?_;refine q1T fun K1 hK1=>?_;refine Wf (qae (hK0 _ _ ?_));obtain rfl:i=n2:=by omega
   rw [List.drop_of_length_le (by omega)] at hfw;rw [← hfw];refine Wz1 r9 ?_;refine q57 ?_
   try simp only [q1u,q5f]
   refine ret2 rfl ⟨_,rfl,hx,⟨_,_,rfl,by simp only [q2F,Nat.reduceEqDiff,↓reduceIte]; exact ownSc hO fun k hk=>hf k Oq,by simp only [q2F,Nat.reduceEqDiff,↓reduceIte]; exact rfl⟩⟩
def qjA {V:Int}:Nz (pV V):=fun w D B v hB h=>by
 obtain ⟨s,A,n,c,rfl,⟨h1,h2⟩,h3⟩:=q9j h;refine q8e ⟨s,A,n,c,rfl,⟨h1,⟨h2.1.cap,h2.1.len,fun hx=>?_⟩,h2.2⟩,h3⟩;obtain ⟨ad,hA,hd,hcell⟩:=h2.1.at_ hx;refine ⟨ad,hA,⟨hd,fun hb=>?_⟩,hcell⟩;obtain ⟨cs,T,hb,hc⟩:=hB _ hb;obtain ⟨x,hx0⟩:∃ x,((lim (od V).natAbs).map u32v)[0]?=some x:=⟨_,List.getElem?_eq_getElem hx⟩;have h1:=hcell 0 x hx0;have h2:∃ d:Int,x=.int .u32 d:=by
  rw [List.getElem?_map] at hx0;cases hl:(lim (od V).natAbs)[0]? with
  | none=>rw [hl] at hx0; cases hx0
  | some d=>rw [hl] at hx0; exact ⟨_,(Option.some.inj hx0).symm⟩
 obtain ⟨d,rfl⟩:=h2;have h3:w.heap[ad.block]?=some (.cells cs T (0,0)):=hb;have h4:(ad.add 0).block=ad.block:=q0x ad 0;unfold World.cell? at h1;rw [h4,h3] at h1;simp only at h1
 split at h1
 ·cases h1
 ·have:=hc _ (Array.mem_toList_iff.2 (Array.mem_of_getElem? h1));cases this
abbrev pVs (l:List Int):PV:=.sl (some 4) (l.map fun V=>pV V)
def clV {l:List Int}:ClL (l.map fun V=>pV V):=fun x hx=>by
 obtain ⟨e,_,rfl⟩:=List.mem_map.1 hx
 trivial
def q9D {l:List Int} (hn:l.length≤1000) (hv:q0b (q0v l)):ACt 40 [pVs l] (pV (q0v l)):=⟨by kernel_rfl,fun D w vs hT hF hR=>by
 refine (qmS hn (fun x hx=>?_) hv).2 D w vs hT hF hR;obtain ⟨_,rfl,h3⟩:=qnx hR;obtain ⟨i,hi⟩:=List.mem_iff_getElem?.1 hx;unfold Rd at h3;obtain ⟨_,_,_,us,_,_,_,h5,_⟩:=h3;obtain ⟨v,_,hr⟩:=h5.get (show (l.map fun V=>pV V)[i]?=some (pV x) by simp [hi]);exact ((q2s (ρ:=fun _=>none) (h:=h0)).2 (q9j hr)).2⟩
def qqM:Int:=(mkV 1 0).getD 0
def q8j:mkV 1 0=some qqM∧bl qqM.natAbs≤67600:=by
 have h1:bl (Int.natAbs 1)≤1:=q0N (by decide);have h:=q7l (m:=1) (E:=0) Oq Oq;unfold qqM;rw [h];refine ⟨rfl,?_⟩;obtain ⟨k,hk⟩:∃ k,k=((0:Int)+65536).toNat:=⟨_,rfl⟩;have hk2:k≤65536:=by omega
 rw [← hk,Option.getD_some,q0K,q1P (by decide)];omega
def q7z {mode V:Int}:fR mode V < 18446744073709551616:=by
 unfold fR
 split
 ·omega
 ·exact qpz Oq (by exact Nat.two_pow_pos 65536)
def TOk.fin {f:Nat→Nat→Option Nat} {R C j i:Nat} (h:TOk f R C) (hj:j < C) (hi:i < R):q0Q ((f j i).getD 0)∧(f j i).getD 0 < 18446744073709551616:=by
 cases hx:f j i with
 | none=>exact ⟨by unfold q0Q; simp,by simp⟩
 | some x=>exact ⟨h.v j i x hj hi hx,h.u j i x hj hi hx⟩
def q77 {l:List Int} (h:∀ x ∈ l,bl x.natAbs≤67600) (hl:l.length≤1024):q0b (q0v l):=by
 have:=q5B h hl;rw [List.take_length] at this;unfold q0b;omega




def lfN (l:List Int) (r:Nat):Nat:=(l.getD r 0).toNat
def qlZ {l:List Int} {r x:Nat} (h:l[r]?=some (x:Int)):lfN l r=x:=by
 unfold lfN; rw [List.getD_eq_getElem?_getD,h]; simp
section
variable {n:Nat} {g g':Nat→Nat→Bool} {gn gn':Nat→Bool} {h:Hp}
end

def od_z0 {V:Int} (h:V=0):od V=0:=by
 have:=q1O V;rw [h] at this ⊢
 rcases Int.mul_eq_zero.1 this with h | h
 ·exact h
 ·exact absurd h (Int.ne_of_gt (q0U _))
def qgD {A B mode:Int} (hB0:B=0):ACt 138 [pV A,pV B,iv mode] (uv 9221120237041090560):=q8R (al':=[dT A,dT B,iv mode]) (p:=q0b A∧q0b B) qeh (fun D w vs hR=>by
 obtain ⟨a,b,c,rfl,h1,h2,h3⟩:=rd_3 hR;obtain ⟨h4,h5⟩:=q2s.2 (q9j h1);obtain ⟨h6,h7⟩:=q2s.2 (q9j h2);refine ⟨?_,h5,h7⟩;unfold RdL;refine ⟨_,_,rfl,h4,?_⟩;unfold RdL;exact ⟨_,_,rfl,h6,RdL.one h3⟩) fun ⟨hA,hB⟩=>by
 have b3:=q2Z hB;have cA:=q0s hA;have cB:=q0s hB;have sB:=q18 (a:=od B) Oq;have e1:((od B).sign == 0)=true:=by rw [od_z0 hB0]; rfl
 unfold dT at *;unfold bT at *;refine ac0 Tryz.func138 Tryz.ntmps138 [.tmp 6] ?_;exact wk1 e1 trivial
def qfR (mode A B:Int):Nat:=if B=0 then 9221120237041090560 else fQ mode A B
def qdG {mode A B:Int}:qfR mode A B < 18446744073709551616:=by
 unfold qfR
 split
 ·omega
 ·exact qh1 (by assumption)
def qgC {A B mode:Int}:ACt 138 [pV A,pV B,iv mode] (uv (qfR mode A B:Nat)):=by
 unfold qfR
 split
 ·exact qgD (by assumption)
 ·exact qdC (by assumption)
end Go.Proofs.YtjfjjmfhfbapeaaGreatDoor
namespace Go.E
open Go Go.RowKit
section
variable {P:Program} {J:Nat→Prop} {s:Nat→PV} {h hw:Hp} {τ:Nat→Option Nat} {T1 T2:TypeId} {N R n k m:Nat} {g:Nat→Nat→Nat}
def tabU (T1 T2:TypeId) (N R n k m:Nat) (g:Nat→Nat→Nat):Hp:=fun i =>
 if i=N then some ⟨T1,none,(List.range n).map fun j=>if j < k then .ow (j+R) none 0 m else .vl (.slice none 0 0),false⟩
 else if R≤i∧i < R+k then some ⟨T2,none,(List.range m).map fun c=>.vl (.int .u64 (g (i-R) c:Nat)),false⟩ else none
def qor:tabU T1 T2 N R n k m g N=some ⟨T1,none,(List.range n).map fun j=>if j < k then .ow (j+R) none 0 m else .vl (.slice none 0 0),false⟩:=if_pos rfl
def qoq {j:Nat} (hN:N < R) (hj:j < k):tabU T1 T2 N R n k m g (j+R)=some ⟨T2,none,(List.range m).map fun c=>.vl (.int .u64 (g j c:Nat)),false⟩:=by
 unfold tabU;rw [if_neg (by omega),if_pos (by omega),Nat.add_sub_cancel]
attribute [go_sem ↓] qor qoq
def q3S (g:Nat→Nat→Nat) (r c v:Nat):Nat→Nat→Nat:=fun x y=>if x=r∧y=c then v else g x y
def qfz {f:Nat→Nat} {c v:Nat}:((List.range m).map fun y=>PV.vl (.int .u64 (f y:Nat))).set c (.vl (.int .u64 (v:Nat)))=(List.range m).map fun y=>PV.vl (.int .u64 (if y=c then v else f y:Nat)):=by
 apply List.ext_getElem?
 intro i;rw [List.getElem?_set];simp only [List.length_map,List.length_range,List.getElem?_map]
 by_cases hi:i < m
 ·rw [List.getElem?_range hi]
  by_cases hc:c=i
  ·subst hc; simp [hi]
  ·simp [hc,Ne.symm hc]
 ·rw [List.getElem?_eq_none (by simpa using hi)]
  by_cases hc:c=i <;> simp [hc]
  omega
def tnU (N o:Nat):Nat→Option Nat:=fun i=>if i=N then some o else some i
def qoe {o i:Nat}:tnU N o i=if i=N then some o else some i:=rfl
attribute [go_sem ↓] qoe
end
section
variable {P:Program} {Tb:World→Prop} {J:Nat→Prop} {n:Nat} {Q:SQ} {s:Nat→PV} {h:Hp}
def A_jW [NL] {a b:Code} (xs:List (Nat × PV)) (bs:List (Nat × Bk)) (hw:Hp) (hb:AW P Tb J n b Q (stM xs []) (q0m hw (hpM bs [])))
  (ha:∀ K:(Nat→PV)→Hp→Prop,(∀ s h,Le J s h (stM xs []) (q0m hw (hpM bs []))→K s h)→AW P Tb J n a (thA K Q) s h):AW P Tb J n (.seq a b) Q s h :=
 q3s fun K hK=>ha K fun s h hl=>hK s h (q1a hl hb)
end
section
variable {J:Nat→Prop} {s:Nat→PV} {h hw:Hp} {τ:Nat→Option Nat}
def LeT [NL] (τ:Nat→Option Nat) {xs kv:List (Nat × PV)} {bs:List (Nat × Bk)} {kb:List (Nat × Option Bk)} (hJ:∀ i,J i→τ i=some i) (hlo:∀ i ∈ bs.map (·.1) ++ kb.map (·.1),¬ win i)
  (hW:∀ i b,win i→hw i=some b→LeB τ h (q0m hw (hpM bs kb)) i b)
  (hi:∀ i j k,(win i∧hw i≠none∨i ∈ bs.map (·.1) ++ kb.map (·.1))→(win j∧hw j≠none∨j ∈ bs.map (·.1) ++ kb.map (·.1))→τ i=some k→τ j=some k→i=j)
  (hh:q4e τ h (q0m hw (hpM bs kb)) s xs∧q4e τ h (q0m hw (hpM bs kb)) s kv∧qbl τ h (q0m hw (hpM bs kb)) bs∧q8W τ h (q0m hw (hpM bs kb)) kb):Le J s h (stM xs kv) (q0m hw (hpM bs kb)):=by
 obtain ⟨h1,h2,h3,h4⟩:=hh;have hm:∀ i b,q0m hw (hpM bs kb) i=some b→(win i∧hw i=some b)∨(¬ win i∧LeB τ h (q0m hw (hpM bs kb)) i b∧i ∈ bs.map (·.1) ++ kb.map (·.1)):=fun i b hb=>by
  by_cases hi:win i
  ·rw [q0T hi] at hb; exact .inl ⟨hi,hb⟩
  ·rw [q1f hi] at hb; exact .inr ⟨hi,q3p h4 h3 i b hb⟩
 have hm2:∀ i b,q0m hw (hpM bs kb) i=some b→(win i∧hw i≠none∨i ∈ bs.map (·.1) ++ kb.map (·.1)):=fun i b hb=>by
  rcases hm i b hb with ⟨a,c⟩ | ⟨_,_,c⟩
  ·exact .inl ⟨a,by rw [c]; exact Option.some_ne_none _⟩
  ·exact .inr c
 refine q4d τ (fun i b hb=>?_) (fun i j k b c hi' hj ti tj=>hi i j k (hm2 i b hi') (hm2 j c hj) ti tj) (fun t=>q6K h2 h1 t) fun i q _ _=>hJ i q
 rcases hm i b hb with ⟨q1,q2⟩ | ⟨_,q,_⟩
 ·exact hW i b q1 q2
 ·exact q
variable {T1 T2:TypeId} {K:Kd} {N R n:Nat} {row:Nat→List PV} {B:Hp}
def q1Y (T1 T2:TypeId) (K:Kd) (N R n:Nat) (row:Nat→List PV) (B:Hp):Hp:=fun i =>
 if i=N then some ⟨T1,none,(List.range n).map fun j=>.ow (j+R) K 0 (row j).length,false⟩
 else if R≤i∧i < R+n then some ⟨T2,K,row (i-R),false⟩ else B i
def q14:q1Y T1 T2 K N R n row B N=some ⟨T1,none,(List.range n).map fun j=>.ow (j+R) K 0 (row j).length,false⟩:=if_pos rfl
def q1H {j:Nat} (hN:N < R) (hj:j < n):q1Y T1 T2 K N R n row B (j+R)=some ⟨T2,K,row j,false⟩:=by
 unfold q1Y;rw [if_neg (by omega),if_pos (by omega),Nat.add_sub_cancel]
def q0I {i:Nat} (h1:i≠N) (h2:i < R∨R+n≤i):q1Y T1 T2 K N R n row B i=B i:=by
 unfold q1Y;rw [if_neg h1,if_neg (by omega)]
attribute [go_sem ↓] q14 q1H q0I
def q0j {i:Nat} {b:Bk} (hb:q1Y T1 T2 K N R n row B i=some b):(i=N∧b=⟨T1,none,(List.range n).map fun j=>.ow (j+R) K 0 (row j).length,false⟩)∨(i≠N∧R≤i∧i < R+n∧b=⟨T2,K,row (i-R),false⟩)∨(i≠N∧(i < R∨R+n≤i)∧B i=some b):=by
 unfold q1Y at hb
 split at hb
 ·cases hb; exact .inl ⟨‹_›,rfl⟩
 ·rename_i h1
  split at hb
  ·rename_i hi; cases hb; exact .inr (.inl ⟨h1,hi.1,hi.2,rfl⟩)
  ·exact .inr (.inr ⟨h1,by omega,hb⟩)
structure BOk (B:Hp) (p:Nat→Prop):Prop where
 b:∀ i b,B i=some b→p i∧b.st=false∧IdL (fun j=>B j≠none) b.xs
def BOk.h0 {p:Nat→Prop}:BOk h0 p:=⟨fun _ _ h=>by cases h⟩
def BOk.mono {p q:Nat→Prop} (hb:BOk B p) (h:∀ i,p i→q i):BOk B q:=⟨fun i b hi=>⟨h i (hb.b i b hi).1,(hb.b i b hi).2⟩⟩
def qee {p:Nat→Prop} {x:PV} (h:q2r x):IdP p x:=by
 cases x <;> unfold IdP <;> first | trivial | exact h.elim
def q51 {p:Nat→Prop} {x:PV} (h:Cld x):IdP p x:=by
 cases x with
 | ag l=>unfold IdP; exact IdL.of fun x hx=>qee (h x hx)
 | _=>exact qee h
def q1b {p:Nat→Prop} (hB:BOk B p) (hrow:∀ j,j < n→ClL (row j)) (hNR:N < R) (hp:p N∧∀ j,j < n→p (j+R)):BOk (q1Y T1 T2 K N R n row B) p:=⟨fun i b hb=>by
 rcases q0j hb with ⟨rfl,rfl⟩ | ⟨h0,h1,h2,rfl⟩ | ⟨h1,h2,h3⟩
 ·refine ⟨hp.1,rfl,IdL.of fun x hx=>?_⟩;obtain ⟨z,hz,rfl⟩:=List.mem_map.1 hx;unfold IdP;rw [q1H hNR (List.mem_range.1 hz)];exact Option.some_ne_none _
 ·refine ⟨by have:=hp.2 (i-R) (by omega); rwa [Nat.sub_add_cancel h1] at this,rfl,IdL.of fun x hx=>?_⟩;exact q51 (hrow (i-R) Oq x hx)
 ·obtain ⟨q1,q2,q3⟩:=hB.b i b h3;refine ⟨q1,q2,IdL_mono (fun j hj=>?_) _ q3⟩;unfold q1Y
  split
  ·exact Option.some_ne_none _
  ·split
   ·exact Option.some_ne_none _
   ·exact hj⟩
def q7P (row:Nat→List PV) (k:Nat) (l:List PV):Nat→List PV:=fun j=>if j=k then l else row j
def q9e {k:Nat} {l:List PV}:q7P row k l k=l:=if_pos rfl
def q9f {k j:Nat} {l:List PV} (h:j≠k):q7P row k l j=row j:=if_neg h
def q2l {j:Nat} {l:List PV} (hNR:N < R) (hj:j < n) (hl:l.length=(row j).length):q0O (q1Y T1 T2 K N R n row B) (j+R) ⟨T2,K,l,false⟩=q1Y T1 T2 K N R n (q7P row j l) B:=by
 funext i
 unfold q0O
 split
 ·rename_i hi; subst hi;rw [q1H hNR hj,q9e]
 ·rename_i hi;unfold q1Y
  split
  ·congr 2
   refine List.map_congr_left fun c _=>?_
   by_cases hc:c=j
   ·subst hc; rw [q9e,hl]
   ·rw [q9f hc]
  ·split
   ·rw [q9f (by omega)]
   ·rfl
def q2R {i:Nat} {b:Bk} (h1:i≠N) (h2:i < R∨R+n≤i):q0O (q1Y T1 T2 K N R n row B) i b=q1Y T1 T2 K N R n row (q0O B i b):=by
 funext j
 unfold q0O q1Y
 by_cases hj:j=i
 ·subst hj;simp only [if_true];rw [if_neg h1,if_neg (by omega)]
 ·simp only [if_neg hj]
variable {xs kv:List (Nat × PV)} {bs:List (Nat × Bk)} {kb:List (Nat × Option Bk)}
def q6X [NL] {r k:Nat} {l:List PV} (hJ:∀ i,¬ J i) (hk:k < n) (hcl:ClL l) (ho:h N=some ⟨T1,none,((List.range n).map fun j=>.ow (j+R) K 0 (row j).length).set k (.ow r K 0 l.length),false⟩) (hr:h r=some ⟨T2,K,l,false⟩)
  (hq:∀ i,win i→i≠N→i≠k+R→i≠r→h i=q1Y T1 T2 K N R n row B i) (hcr:∀ j,j < n→ClL (row j)) (hB:BOk B (fun i=>win i∧i≠N∧(i < R∨R+n≤i)∧i≠r)) (h6:r < 5000∨(r≠N∧(r < R∨R+n≤r))) (hN:5000≤N) (hNR:N < R) (hR:R+n≤1000000) (hn:nmW r r (bs.map (·.1) ++ kb.map (·.1)))
  (hh:q4e (tnU (k+R) r) h (q0m (q1Y T1 T2 K N R n (q7P row k l) B) (hpM bs kb)) s xs∧q4e (tnU (k+R) r) h (q0m (q1Y T1 T2 K N R n (q7P row k l) B) (hpM bs kb)) s kv∧qbl (tnU (k+R) r) h (q0m (q1Y T1 T2 K N R n (q7P row k l) B) (hpM bs kb)) bs∧q8W (tnU (k+R) r) h (q0m (q1Y T1 T2 K N R n (q7P row k l) B) (hpM bs kb)) kb):Le J s h (stM xs kv) (q0m (q1Y T1 T2 K N R n (q7P row k l) B) (hpM bs kb)):=by
 have tK:tnU (k+R) r (k+R)=some r:=if_pos rfl;have tI:∀ i,i≠k+R→tnU (k+R) r i=some i:=fun i a=>if_neg a;have hl:=fun i hi=>q4H hn i hi;refine LeT (tnU (k+R) r) (fun i q=>(hJ i q).elim) (fun i hi hw=>?_) (fun i b hw hb=>?_) (fun i j k' hi hj ti tj=>?_) hh
 ·have:=(hl i hi).1; unfold win at hw; omega
 ·rcases q0j hb with ⟨rfl,rfl⟩ | ⟨a0,a1,a2,rfl⟩ | ⟨a1,a2,a3⟩
  ·unfold LeB;rw [tI i (by omega)];refine ⟨_,ho,rfl,rfl,⟨rfl,rfl⟩,by simp,fun c u v hx hy=>?_⟩;have hc:c < n:=by have:=(List.getElem?_eq_some_iff.1 hy).1; simpa using this
   rw [List.getElem?_map,List.getElem?_range hc,Option.map_some] at hy;cases hy;rw [List.getElem?_set] at hx;have hbb:=(q0T (h:=hpM bs kb) (hw:=q1Y T1 T2 K i R n (q7P row k l) B) (i:=c+R) ⟨by omega,by omega⟩).trans (q1H hNR hc)
   by_cases hck:k=c
   ·subst hck;rw [if_pos rfl,if_pos (by simpa using hc)] at hx;cases hx;rw [q9e];exact .ow tK hbb
   ·rw [if_neg hck,List.getElem?_map,List.getElem?_range hc,Option.map_some] at hx;cases hx;rw [q9f (Ne.symm hck)];exact .ow (tI _ Oq) hbb
  ·by_cases e:i=k+R
   ·subst e;unfold LeB;rw [tK,Nat.add_sub_cancel,q9e];exact ⟨_,hr,rfl,rfl,⟨rfl,rfl⟩,q0R rfl hcl⟩
   ·unfold LeB;rw [tI i e,q9f (by omega)];have:=hq i hw a0 e (by unfold win at hw; omega);have e2:=q1H (T1:=T1) (T2:=T2) (K:=K) (row:=row) (B:=B) hNR (show i-R < n by omega);rw [Nat.sub_add_cancel a1] at e2;exact ⟨_,this.trans e2,rfl,rfl,⟨rfl,rfl⟩,q0R rfl (hcr _ Oq)⟩
  ·obtain ⟨⟨q0,q1,q2,q4⟩,q3,q5⟩:=hB.b i b a3;unfold LeB;rw [tI i (by omega)];refine ⟨b,(hq i hw a1 Oq q4).trans ((q0I a1 a2).trans a3),rfl,rfl,⟨q3,q3⟩,LeL_self (fun j hj=>?_) _ q5⟩;obtain ⟨c,hc⟩:=Option.ne_none_iff_exists'.1 hj;obtain ⟨⟨p0,p1,p2,p4⟩,_⟩:=hB.b j c hc;exact ⟨tI j (by omega),c,by rw [q0T p0,q0I p1 p2]; exact hc⟩
 ·have a:∀ i,(win i∧q1Y T1 T2 K N R n (q7P row k l) B i≠none∨i ∈ bs.map (·.1) ++ kb.map (·.1))→i≠r:=fun i hi=>by
   rcases hi with ⟨q,hi⟩ | hi
   ·rintro rfl;obtain ⟨b,hb⟩:=Option.ne_none_iff_exists'.1 hi;unfold win at q
    rcases q0j hb with ⟨e,_⟩ | ⟨_,e1,e2,_⟩ | ⟨_,_,e⟩
    ·omega
    ·omega
    ·exact (hB.b i b e).1.2.2.2 rfl
   ·exact (hl i hi).2.1
  have a1:=a i hi;have a2:=a j hj;unfold tnU at ti tj
  split at ti <;> split at tj <;> cases ti <;> cases tj <;> first | omega | rfl | exact (a1 rfl).elim | exact (a2 rfl).elim
def qrd {h:Hp} {i:Nat} {b:Bk} {f:Nat→Nat} (hi:i < R∨R+n≤i):q5h (q0O h i b) n R K f=q5h h n R K f:=by
 have:∀ l:List Nat,(∀ j ∈ l,j < n)→q1R (q0O h i b) (l.map fun j=>.ow (j+R) K 0 (f j))=q1R h (l.map fun j=>.ow (j+R) K 0 (f j)):=fun l=>by
  induction l with
  | nil=>intro _; rfl
  | cons j l ih =>
   intro hl;have hj:=hl j List.mem_cons_self;rw [List.map_cons,q1R,q1R,ih fun k hk=>hl k (List.mem_cons_of_mem _ hk)];simp only [qbd];rw [q0A (by omega)]
 exact this _ fun j hj=>List.mem_range.1 hj
def qj0 {h h':Hp} {f:Nat→Nat} (hh:∀ j,j < n→h (j+R)=h' (j+R)):q5h h n R K f=q5h h' n R K f:=by
 have:∀ l:List Nat,(∀ j ∈ l,j < n)→q1R h (l.map fun j=>.ow (j+R) K 0 (f j))=q1R h' (l.map fun j=>.ow (j+R) K 0 (f j)):=fun l=>by
  induction l with
  | nil=>intro _; rfl
  | cons j l ih =>
   intro hl;have hj:=hl j List.mem_cons_self;rw [List.map_cons,q1R,q1R,ih fun k hk=>hl k (List.mem_cons_of_mem _ hk)];simp only [qbd];rw [hh j hj]
 exact this _ fun j hj=>List.mem_range.1 hj
def qrc {h hw:Hp} {f:Nat→Nat} (h5:5000≤R) (h6:R+n≤1000000):q5h (q0m hw h) n R K f=q5h hw n R K f:=qj0 fun j hj=>q0T ⟨by omega,by omega⟩
def q4W {K':Kd} {N' R' n':Nat} {f:Nat→Nat} (h1:N' < R∨R+n≤N') (h2:R'+n'≤R∨R+n≤R'):q5h (q1Y T1 T2 K' N' R' n' row B) n R K f=q5h B n R K f:=qj0 fun j hj=>q0I Oq Oq
def q50 {f:Nat→Nat} (h1:N < R):q5h (q1Y T1 T2 K N R n row B) n R K f=cO (∀ j,j < n→ClL (row j)) (some ((List.range n).map fun j=>.sl K ((row j).take (f j)),(List.range n).map (·+R))):=by
 unfold cO
 split
 ·rename_i hc;have:∀ l:List Nat,(∀ j ∈ l,j < n)→q1R (q1Y T1 T2 K N R n row B) (l.map fun j=>.ow (j+R) K 0 (f j))=some (l.map fun j=>.sl K ((row j).take (f j)),l.map (·+R)):=fun l=>by
   induction l with
   | nil=>intro _; rfl
   | cons j l ih =>
    intro hl;have hj:=hl j List.mem_cons_self;rw [List.map_cons,q1R,ih fun k hk=>hl k (List.mem_cons_of_mem _ hk)];simp only [qbd];rw [q1H h1 hj,Option.bind_some,if_pos ⟨rfl,rfl,hc j hj⟩];simp
  exact this _ fun j hj=>List.mem_range.1 hj
 ·rename_i hc;obtain ⟨j,hc⟩:=Classical.not_forall.1 hc;obtain ⟨hj,hc⟩:=Classical.not_forall.1 hc;have:∀ l:List Nat,(∀ i ∈ l,i < n)→j ∈ l→q1R (q1Y T1 T2 K N R n row B) (l.map fun j=>.ow (j+R) K 0 (f j))=none:=fun l=>by
   induction l with
   | nil=>intro _ h; cases h
   | cons i l ih =>
    intro hl hm;have hi:=hl i List.mem_cons_self;rw [List.map_cons,q1R]
    by_cases hij:j=i
    ·subst hij;simp only [qbd];rw [q1H h1 hj,Option.bind_some,if_neg fun h=>hc h.2.2]; rfl
    ·rw [ih (fun k hk=>hl k (List.mem_cons_of_mem _ hk)) (by simpa [hij] using hm)];cases qbd (q1Y T1 T2 K N R n row B) (.ow (i+R) K 0 (f i)) <;> rfl
  exact this _ (fun j hj=>List.mem_range.1 hj) (List.mem_range.2 hj)
def q83 {α:Type} {f:Nat→α}:((List.range n).map f).take n=(List.range n).map f:=List.take_of_length_le (by simp)
def qlT {x:Nat} {a b:List Nat}:nin x (a ++ b)=(nin x a∧nin x b):=by
 rw [q5w,q5w,q5w,List.mem_append];exact propext not_or
def qqT {x:Nat} (h:x < R∨R+n≤x):nin x ((List.range n).map (·+R))=True:=by
 rw [q5w];refine eq_true fun hm=>?_;obtain ⟨j,hj,rfl⟩:=List.mem_map.1 hm;have:=List.mem_range.1 hj;omega
attribute [go_sem ↓] qrd qrc q4W q50
attribute [go_sem] q83 qlT qqT
end
end Go.E
namespace Go.Proofs.YtjfjjmfhfbapeaaGreatDoor
open Go Go.E Go.Sp
abbrev LSt:=(Nat→Nat→Nat) × List Int × List Nat
def q9q (f:List Int × List Int × List Int × List Nat):PV:=.ag [pI f.1,pI f.2.1,pI f.2.2.1,pF f.2.2.2]
section
variable {F:Nat→Nat→Option Nat} {l:List Int} {cs:List Nat} {cols:List (List Nat)} {j n:Nat} {p:LSt}
end
end Go.Proofs.YtjfjjmfhfbapeaaGreatDoor
namespace Go.E
open Go Go.RowKit
end Go.E
namespace Go.Proofs.YtjfjjmfhfbapeaaGreatDoor
open Go Go.E Go.Sp
open Classical in
def qdb {l:List Int} (hl:l.length≤1000000):ACt 210 [pI l] (bv (decide (q2C l l.length))):=by
 refine ac0 Tryz.func210 Tryz.ntmps210 [.tmp 2] ?_;refine wk ?_;refine q0B (fun i=>i≤l.length∧(∀ x ∈ l.take i,0≤x∧x < l.length)∧(l.take i).Nodup) [0,9,10] [] Lk Lk (fun i:Nat=>[(11,iv i),(3,.ow 1001 none 0 l.length)]) (fun i=>[(1001,⟨4,none,(q41 l i).map fun z=>bv z,false⟩)]) (fun i=>l.length-i) 0 ⟨Nat.zero_le _,by simp,by simp⟩ ?_ ?_
 ·refine LeM [(1001,some 8)] rfl rfl ?_;refine Zz ?_;exact ⟨rfl,qck⟩
 ·rintro i ⟨hi,hr,hd⟩
  by_cases hlt:i < l.length
  ·have hlt':(i:Int) < l.length:=by omega
   obtain ⟨x,hx⟩:∃ x,l[i]?=some x:=⟨_,List.getElem?_eq_getElem hlt⟩;have hmem:=List.mem_of_getElem? hx;have ht:=q2H hx;refine wk1 (x2 hlt' hx) ?_
   by_cases hx0:x < 0
   ·refine wk1 hx0 ?_;exact (decide_eq_false fun h=>by have:=(h.2.1 x hmem).1; omega).symm
   ·obtain ⟨k,rfl⟩:∃ k:Nat,x=k:=⟨x.toNat,by omega⟩
    by_cases hxn:(l.length:Int)≤k
    ·refine wk1 (x2 hx0 hxn) ?_;exact (decide_eq_false fun h=>by have:=(h.2.1 _ hmem).2; omega).symm
    ·have hk:k < l.length:=by omega
     have hs:=q67 (i:=i) hk
     by_cases hm:(k:Int) ∈ l.take i
     ·refine wk1 (x4 hx0 hxn hs hm) ?_;refine (decide_eq_false fun h=>?_).symm;have:=(h.2.2.sublist (List.take_sublist (i+1) l));rw [ht,List.nodup_append] at this;exact this.2.2 _ hm _ (by simp) rfl
     ·refine wk1 (x6 hx0 hxn hs hm hx @q66) ?_;refine ⟨i+1,⟨by omega,?_,?_⟩,by omega,?_⟩
      ·rw [ht];intro y hy
       rcases List.mem_append.1 hy with hy | hy
       ·exact hr y hy
       ·simp at hy; subst hy; omega
      ·rw [ht,List.nodup_append];exact ⟨hd,by simp,fun a ha b hb=>by simp at hb; subst hb; exact fun e=>hm (e ▸ ha)⟩
      ·refine LeM [] rfl rfl ?_;refine Zz ?_;exact ⟨by omega,q65 hx⟩
  ·have hlt':¬ (i:Int) < l.length:=by omega
   refine wk1 hlt' ?_;have hil:i=l.length:=by omega
   rw [hil,List.take_length] at hr hd;exact (decide_eq_true ⟨rfl,hr,hd⟩).symm
structure CoC (n j:Nat) (col:List Int):Prop where
 f:col[0]?=some (j:Int)
 l:∀ z,col[col.length-1]?=some z→z < n
 m:∀ (i:Nat) (x y:Int),col[i]?=some x→col[i+1]?=some y→x < y
structure FStr (n:Nat) (cp ri:List Int):Prop where
 c0:cp[0]?=some 0
 cn:cp[n]?=some (ri.length:Int)
 col:∀ j,j < n→∃ a b:Nat,cp[j]?=some (a:Int)∧cp[j+1]?=some (b:Int)∧a≤b∧b≤ri.length∧CoC n j ((ri.take b).drop a)
open Classical in
def q61 {pm cp ri:List Int} {vs:List Nat} {n:Nat} (hn:pm.length=n) (hn2:n≤200) (hcl:cp.length=n+1) (hri:ri.length≤1000000):ACt 211 [q9q (pm,cp,ri,vs)] (bv (decide (FStr n cp ri))):=by
 have no:∀ {p:Prop},¬ FStr n cp ri→decide (FStr n cp ri)=false:=fun h=>decide_eq_false h;obtain ⟨res,hres⟩:∃ res,res=decide (FStr n cp ri):=⟨_,rfl⟩;rw [← hres];have rF:¬ FStr n cp ri→res=false:=fun h=>by rw [hres]; exact decide_eq_false h
 have rT:FStr n cp ri→res=true:=fun h=>by rw [hres]; exact decide_eq_true h
 clear hres no;obtain ⟨x0,hx0⟩:∃ x,cp[0]?=some x:=⟨_,List.getElem?_eq_getElem Oq⟩;obtain ⟨xn,hxn⟩:∃ x,cp[n]?=some x:=⟨_,List.getElem?_eq_getElem Oq⟩;unfold q9q;subst hn;refine ac0 Tryz.func211 Tryz.ntmps211 [.tmp 2] ?_;refine wk ?_
 by_cases h0:x0=0
 case neg =>
  have e1:(x0 != 0)=true:=by simpa using h0
  refine wk1 (x2 hx0 e1) ?_;rw [rF fun h=>h0 (Option.some.inj (hx0.symm.trans h.c0))]
 subst h0;have e1:((0:Int) != 0)=false:=rfl
 by_cases hn0:xn=ri.length
 case neg =>
  have e2:(xn != (ri.length:Int))=true:=by simpa using hn0
  refine wk1 (x4 hx0 e1 hxn e2) ?_;rw [rF fun h=>hn0 (Option.some.inj (hxn.symm.trans h.cn))]
 subst hn0;have e2:((ri.length:Int) != (ri.length:Int))=false:=by simp
 refine wk1 (x4 hx0 e1 hxn e2) ?_;refine q0B (fun j=>j≤pm.length∧(∃ a:Nat,cp[j]?=some (a:Int))∧∀ j',j' < j→∃ a b:Nat,cp[j']?=some (a:Int)∧cp[j'+1]?=some (b:Int)∧a≤b∧b≤ri.length∧CoC pm.length j' ((ri.take b).drop a)) [1,3,26] [1] Lk Lk (fun j:Nat=>[(27,iv j)]) (fun _=>[]) (fun j=>pm.length-j) 0 ⟨Nat.zero_le _,⟨0,hx0⟩,by omega⟩ ?_ ?_
 ·refine LeM [] rfl rfl ?_;refine Zz ?_
  rfl
 ·rintro j ⟨hj,⟨a,ha⟩,hr⟩
  by_cases hlt:j < pm.length
  ·have hlt':(j:Int) < pm.length:=by omega
   obtain ⟨y,hy⟩:∃ y,cp[j+1]?=some y:=⟨_,List.getElem?_eq_getElem Oq⟩;have w1:IntKind.i64.wrap ((j:Int)+1)=((j+1:Nat):Int):=by rw [i64_in (by omega) (by omega)]; omega
   have bad:(∀ b:Nat,y=b→a≤b→b≤ri.length→¬ CoC pm.length j ((ri.take b).drop a))→res=false:=fun h=>rF fun hS=>by
    obtain ⟨a',b',h1,h2,h3,h4,h5⟩:=hS.col j hlt;rw [ha] at h1; rw [hy] at h2;have:a'=a:=by have:=Option.some.inj h1; omega
    subst this;exact h b' (Option.some.inj h2) h3 h4 h5
   refine wk1 hlt' ?_
   by_cases hay:(a:Int) > y
   ·refine wk1 (x4 ha hy w1 hay) ?_;rw [bad fun b hb h1 _=>by omega]
   by_cases hyr:y > (ri.length:Int)
   ·refine wk1 (x5 ha hy w1 hay hyr) ?_;rw [bad fun b hb _ h1=>by omega]
   obtain ⟨b,rfl⟩:∃ b:Nat,y=b:=⟨y.toNat,by omega⟩;have bad2:¬ CoC pm.length j ((ri.take b).drop a)→res=false:=fun h=>bad fun b' hb _ _=>by
    have:b'=b:=by omega
    subst this; exact h
   clear bad;refine wk1 (x5 ha hy w1 hay hyr) ?_;have es:slP (some 1) (some (iv (a:Int))) (some (iv (b:Int))) (pI ri)=some (pI ((ri.take b).drop a)):=by
    simp [slP,q8J,ksz,List.map_take,List.map_drop];omega
   have hcl2:((ri.take b).drop a).length=b-a:=by simp; omega
   generalize hcol:(ri.take b).drop a=col at bad2 es hcl2;refine wk1 (x4 ha hy w1 es) ?_
   by_cases hl0:col.length=0
   ·have e3:((col.length:Int) == 0)=true:=by simp [hl0]
    refine wk1 e3 ?_;rw [bad2 fun h=>by have:=h.f; rw [List.getElem?_eq_none (by omega)] at this; cases this]
   have e3:((col.length:Int) == 0)=false:=by simpa using hl0
   obtain ⟨c0,hc0⟩:∃ x,col[0]?=some x:=⟨_,List.getElem?_eq_getElem Oq⟩;obtain ⟨cl,hcl3⟩:∃ x,col[col.length-1]?=some x:=⟨_,List.getElem?_eq_getElem Oq⟩;have wl:IntKind.i64.wrap ((col.length:Int)-1)=((col.length-1:Nat):Int):=by rw [i64_in (by omega) (by omega)]; omega
   by_cases h0:c0=j
   case neg =>
    have e4:(c0 != (j:Int))=true:=by simpa using h0
    refine wk1 (x3 e3 hc0 e4) ?_;rw [bad2 fun h=>h0 (Option.some.inj (hc0.symm.trans h.f))]
   subst h0;have e4:((j:Int) != (j:Int))=false:=by simp
   by_cases hge:(pm.length:Int)≤cl
   ·refine wk1 (x6 e3 hc0 e4 wl hcl3 hge) ?_;rw [bad2 fun h=>by have:=h.l _ hcl3; omega]
   refine wk1 (x6 e3 hc0 e4 wl hcl3 hge) ?_;refine q0B (fun i=>1≤i∧i≤col.length∧∀ (k:Nat) (x y:Int),k+1 < i→col[k]?=some x→col[k+1]?=some y→x < y) [1,3,4,5,26,27] [1] Lk Lk (fun i:Nat=>[(6,iv i)]) (fun _=>[]) (fun i=>col.length-i) 1 ⟨Nat.le_refl _,by omega,by omega⟩ ?_ ?_
   ·refine LeM [] rfl rfl ?_;refine Zz ?_
    rfl
   ·rintro i ⟨hi1,hi2,hm⟩
    by_cases hil:i < col.length
    ·have hil':(i:Int) < col.length:=by omega
     obtain ⟨x,hx⟩:∃ x,col[i-1]?=some x:=⟨_,List.getElem?_eq_getElem Oq⟩;obtain ⟨y,hy2⟩:∃ x,col[i]?=some x:=⟨_,List.getElem?_eq_getElem Oq⟩;have wi:IntKind.i64.wrap ((i:Int)-1)=((i-1:Nat):Int):=by rw [i64_in (by omega) (by omega)]; omega
     have wj:IntKind.i64.wrap ((i:Int)+1)=((i+1:Nat):Int):=by rw [i64_in (by omega) (by omega)]; omega
     refine wk1 hil' ?_
     by_cases hxy:y≤x
     ·refine wk1 (x4 hx hy2 wi hxy) ?_;rw [bad2 fun h=>by
       have:=h.m (i-1) x y hx (by rw [show i-1+1=i by omega]; exact hy2);omega]
     ·refine wk1 (x5 hx hy2 wi hxy wj) ?_;refine ⟨i+1,⟨by omega,by omega,?_⟩,by omega,?_⟩
      ·intro k u v hk hu hv
       by_cases hki:k+1 < i
       ·exact hm k u v hki hu hv
       ·obtain rfl:k=i-1:=by omega
        rw [show i-1+1=i by omega] at hv;have h1:=Option.some.inj (hx.symm.trans hu);have h2:=Option.some.inj (hy2.symm.trans hv);omega
      ·refine LeM [] rfl rfl ?_;exact Zy
    ·have hil':¬ (i:Int) < col.length:=by omega
     refine wk1 (x2 hil' w1) ?_;refine ⟨j+1,⟨by omega,⟨b,hy⟩,?_⟩,by omega,?_⟩
     ·intro j' hj'
      by_cases hjj:j' < j
      ·exact hr j' hjj
      ·obtain rfl:j'=j:=by omega
       refine ⟨a,b,ha,hy,by omega,by omega,?_⟩;rw [hcol];refine ⟨hc0,fun z hz=>by have:=Option.some.inj (hcl3.symm.trans hz); omega,fun k u v hu hv=>?_⟩;have hk:k+1 < col.length:=(List.getElem?_eq_some_iff.1 hv).1;exact hm k u v Oq hu hv
     ·refine LeM [] rfl rfl ?_;exact Zy
  ·have hlt':¬ (j:Int) < pm.length:=by omega
   obtain rfl:pm.length=j:=by omega
   refine wk1 hlt' ?_;exact (rT ⟨hx0,hxn,hr⟩).symm
def FDg (n:Nat) (cp:List Int) (vs:List Nat):Prop:=∀ j,j < n→∀ (a x:Nat),cp[j]?=some (a:Int)→vs[a]?=some x→0 < ofZ x
open Classical in
noncomputable def qbe (f:List Int × List Int × List Int × List Nat):Int :=
 if f.1.length > 200 then 6 else if ¬ q2C f.1 f.1.length then 90 else if f.2.1.length≠f.1.length+1∨f.2.2.1.length≠f.2.2.2.length then 2 else if ¬ FStr f.1.length f.2.1 f.2.2.1 then 240 else if (∀ x ∈ f.2.2.2,q0Q x)∧FDg f.1.length f.2.1 f.2.2.2 then 0 else 4
open Classical in
def qhk {pm cp ri:List Int} {vs:List Nat} (hp:pm.length≤1000000) (hc:cp.length≤1000000) (hr:ri.length≤1000000) (hv:vs.length≤1000000) (hu:∀ x ∈ vs,x < 18446744073709551616):ACt 144 [q9q (pm,cp,ri,vs)] (iv (qbe (pm,cp,ri,vs))):=by
 obtain ⟨res,hres⟩:∃ res,res=qbe (pm,cp,ri,vs):=⟨_,rfl⟩;rw [← hres];unfold qbe at hres;dsimp only at hres;unfold q9q;dsimp only;refine ac0 Tryz.func144 Tryz.ntmps144 [.tmp 2] ?_;refine wk ?_
 by_cases h1:pm.length > 200
 ·rw [if_pos h1] at hres;have h1':(pm.length:Int) > 200:=by omega
  refine wk1 h1' ?_;exact hres.symm
 have h1':¬ (pm.length:Int) > 200:=by omega
 rw [if_neg h1] at hres;refine wk1 h1' ?_;have cP:=qdb hp
 by_cases h2:q2C pm pm.length
 case neg =>
  rw [if_pos h2] at hres;rw [decide_eq_false h2] at cP;refine wk ?_;exact hres.symm
 rw [if_neg (not_not_intro h2)] at hres;rw [decide_eq_true h2] at cP;refine wk ?_;have w1:IntKind.i64.wrap ((pm.length:Int)+1)=((pm.length+1:Nat):Int):=by rw [i64_in (by omega) (by omega)]; omega
 by_cases h3:cp.length≠pm.length+1∨ri.length≠vs.length
 ·rw [if_pos h3] at hres
  by_cases h4:cp.length=pm.length+1
  ·have e1:((cp.length:Int) != ((pm.length+1:Nat):Int))=false:=by simp; omega
   have e2:((ri.length:Int) != (vs.length:Int))=true:=by simp; omega
   refine wk1 (x3 w1 e1 e2) ?_;exact hres.symm
  ·have e1:((cp.length:Int) != ((pm.length+1:Nat):Int))=true:=by simp; omega
   refine wk1 (x2 w1 e1) ?_;exact hres.symm
 rw [if_neg h3] at hres;have h4:cp.length=pm.length+1:=by omega
 have h5:ri.length=vs.length:=by omega
 have e1:((cp.length:Int) != ((pm.length+1:Nat):Int))=false:=by simp; omega
 have e2:((ri.length:Int) != (vs.length:Int))=false:=by simp; omega
 refine wk1 (x3 w1 e1 e2) ?_;have cS:=q61 (vs:=vs) (rfl:pm.length=_) Oq h4 hr;unfold q9q at cS;dsimp only at cS
 by_cases h6:FStr pm.length cp ri
 case neg =>
  rw [if_pos h6] at hres;rw [decide_eq_false h6] at cS;refine wk ?_;exact hres.symm
 rw [if_neg (not_not_intro h6)] at hres;rw [decide_eq_true h6] at cS;refine wk ?_;refine q2k [1,3,39,40,41] Lk ?_;have bad:¬ ((∀ x ∈ vs,q0Q x)∧FDg pm.length cp vs)→res=4:=fun h=>by rw [hres,if_neg h]
 have good:((∀ x ∈ vs,q0Q x)∧FDg pm.length cp vs)→res=0:=fun h=>by rw [hres,if_pos h]
 clear hres;refine q0B (fun i=>i≤vs.length∧∀ x ∈ vs.take i,q0Q x) [1,3,39,40] [1] Lk Lk (fun i:Nat=>[(41,iv i)]) (fun _=>[]) (fun i=>vs.length-i) 0 ⟨Nat.zero_le _,by simp⟩ ?_ ?_
 ·refine LeM [] rfl rfl ?_;refine Zz ?_
  rfl
 ·rintro i ⟨hi,hf⟩
  by_cases hil:i < vs.length
  ·have hil':(i:Int) < vs.length:=by omega
   obtain ⟨x,hx⟩:∃ x,vs[i]?=some x:=⟨_,List.getElem?_eq_getElem hil⟩;have hm:=List.mem_of_getElem? hx;have cF:=q4J (hu x hm)
   by_cases hfx:q0Q x
   case neg =>
    rw [decide_eq_false hfx] at cF;refine wk1 hx ?_;exact (bad fun h=>hfx (h.1 x hm)).symm
   rw [decide_eq_true hfx] at cF;refine wk1 hx ?_;refine ⟨i+1,⟨by omega,?_⟩,by omega,?_⟩
   ·rw [q2H hx];intro y hy
    rcases List.mem_append.1 hy with hy | hy
    ·exact hf y hy
    ·simp at hy; subst hy; exact hfx
   ·refine LeM [] rfl rfl ?_;refine Zz ?_
    rfl
  ·have hil':¬ (i:Int) < vs.length:=by omega
   obtain rfl:vs.length=i:=by omega
   rw [List.take_length] at hf;refine wk1 hil' ?_;refine q0B (fun j=>j≤pm.length∧∀ j',j' < j→∀ (a x:Nat),cp[j']?=some (a:Int)→vs[a]?=some x→0 < ofZ x) [1,3,49] [1] Lk Lk (fun i:Nat=>[(50,iv i)]) (fun _=>[]) (fun i=>pm.length-i) 0 ⟨Nat.zero_le _,by omega⟩ ?_ ?_
   ·refine LeM [] rfl rfl ?_;refine Zz ?_
    rfl
   ·rintro j ⟨hj,hd⟩
    by_cases hjl:j < pm.length
    ·have hjl':(j:Int) < pm.length:=by omega
     obtain ⟨a,b,ha,hb,hab,hbr,hcol⟩:=h6.col j hjl;have hal:a < vs.length:=by
      have:=(List.getElem?_eq_some_iff.1 hcol.f).1;simp at this;omega
     obtain ⟨x,hx⟩:∃ x,vs[a]?=some x:=⟨_,List.getElem?_eq_getElem hal⟩;have hm:=List.mem_of_getElem? hx;have wj:IntKind.i64.wrap ((j:Int)+1)=((j+1:Nat):Int):=by rw [i64_in (by omega) (by omega)]; omega
     have cO:=q6B (hu x hm) (q04 (hf x hm))
     by_cases hs:(ofZ x).sign≤0
     ·have C1:=(q3U (fOk (q04 (hf x hm))));refine wk1 (x3 ha hx hs) ?_;refine (bad fun h=>?_).symm;have:=Int.sign_eq_one_of_pos (h.2 j hjl a x ha hx);omega
     ·have C2:=(q3U (fOk (q04 (hf x hm))));refine wk1 (x4 ha hx hs wj) ?_;refine ⟨j+1,⟨by omega,?_⟩,by omega,?_⟩
      ·intro j' hj' a' x' h1 h2
       by_cases hjj:j' < j
       ·exact hd j' hjj a' x' h1 h2
       ·obtain rfl:j'=j:=by omega
        have e:a'=a:=by have:=Option.some.inj (h1.symm.trans ha); omega
        subst e;have e:=Option.some.inj (h2.symm.trans hx);subst e;exact Int.sign_pos_iff.1 Oq
      ·refine LeM [] rfl rfl ?_;exact Zy
    ·have hjl':¬ (j:Int) < pm.length:=by omega
     obtain rfl:pm.length=j:=by omega
     refine wk1 hjl' ?_;exact (good ⟨hf,hd⟩).symm
def qpw {w:World} {D:Nat→Prop} {ρ:Nat→Option Nat} {h:Hp} {v:Value} {pm cp ri:List Int} {vs:List Nat} (hr:Rd w D (q9q (pm,cp,ri,vs)) ρ h v):In (qqw ⟨pm,cp,ri,vs⟩) D v w:=by
 unfold q9q Rd at hr;obtain ⟨l,rfl,h1⟩:=hr;obtain ⟨_,_,_,_,rfl,h1,h2,h3,h4⟩:=rd_4 h1;obtain ⟨A1,n1,c1,rfl,i1⟩:=q7h (f:=q2y) h1;obtain ⟨A2,n2,c2,rfl,i2⟩:=q7h (f:=q2y) h2;obtain ⟨A3,n3,c3,rfl,i3⟩:=q7h (f:=q2y) h3;obtain ⟨A4,n4,c4,rfl,i4⟩:=q7h (f:=q3Y) h4;exact ⟨_,_,_,_,rfl,i1,i2,i3,i4⟩
def q1I {l:List Int} {a b p:Nat} (h:a+p < b):((l.take b).drop a)[p]?=l[a+p]?:=by
 rw [List.getElem?_drop,List.getElem?_take,if_pos h]
def qhZ {pm cp ri:List Int} {vs:List Nat} (h:qbe (pm,cp,ri,vs)=0) (hr:ri.length≤1000000) (hu:∀ x ∈ vs,x < 18446744073709551616):FacOk ⟨pm,cp,ri,vs⟩:=by
 unfold qbe at h;dsimp only at h
 split at h
 ·cases h
 split at h
 ·cases h
 split at h
 ·cases h
 split at h
 ·cases h
 split at h
 case isFalse=>cases h
 rename_i h1 h2 h3 h4 h5;obtain ⟨h5,h6⟩:=h5;have h2:=Classical.not_not.1 h2;have h4:=Classical.not_not.1 h4;refine ⟨⟨fun x hx=>h2.2.1 x hx,h2.2.2⟩,by dsimp only; omega,by dsimp only; omega,by dsimp only; omega,hr,h4.c0,h4.cn,fun j hj=>?_,fun x hx=>⟨hu x hx,h5 x hx⟩⟩;obtain ⟨a,b,ha,hb,hab,hbr,hc⟩:=h4.col j hj;have hl:((ri.take b).drop a).length=b-a:=by simp; omega
 have hlt:a < b:=by
  have:=(List.getElem?_eq_some_iff.1 hc.f).1;omega
 refine ⟨a,b,ha,hb,hlt,hbr,?_,?_,?_,?_⟩
 ·have:=hc.f
  rwa [q1I (by omega)] at this
 ·obtain ⟨z,hz⟩:∃ z,ri[b-1]?=some z:=⟨_,List.getElem?_eq_getElem Oq⟩;refine ⟨z,hz,hc.l z ?_⟩;rw [hl,q1I (by omega),show a+(b-a-1)=b-1 by omega];exact hz
 ·intro i h7 h8;obtain ⟨y,hy⟩:∃ z,ri[i-1]?=some z:=⟨_,List.getElem?_eq_getElem Oq⟩;obtain ⟨z,hz⟩:∃ z,ri[i]?=some z:=⟨_,List.getElem?_eq_getElem Oq⟩;refine ⟨y,z,hy,hz,hc.m (i-1-a) y z ?_ ?_⟩
  ·rw [q1I (by omega),show a+(i-1-a)=i-1 by omega]; exact hy
  ·rw [q1I (by omega),show a+(i-1-a+1)=i by omega]; exact hz
 ·obtain ⟨x,hx⟩:∃ x,vs[a]?=some x:=⟨_,List.getElem?_eq_getElem Oq⟩;exact ⟨x,ofZ x,hx,q04 (h5 x (List.mem_of_getElem? hx)),h6 j hj a x ha hx⟩
def fwP:Option (List Nat)→PV
 | some ys=>.tu [pF ys,iv 0]
 | none=>.tu [pF [],iv 233]
noncomputable def lowR (f:List Int × List Int × List Int × List Nat) (l:List Nat):PV :=
 if qbe f≠0 then .tu [pF [],iv (qbe f)] else fwP (qaG ⟨f.1,f.2.1,f.2.2.1,f.2.2.2⟩ (q82 l.length) (l.map fun x=>[ofZ x]) (List.replicate l.length 0))
def qcz {w:World} {D:Nat→Prop} {ρ:Nat→Option Nat} {h:Hp} {v:Value} {l:List Nat} (hr:In (fSc q3Y l) D v w):Rd w D (pF l) ρ h v:=qcl (f:=q3Y) (fun x=>⟨rfl,rfl⟩) hr
def qpv {o:Option (List Nat)} {w:World} {D:Nat→Prop} {ρ:Nat→Option Nat} {h:Hp} {v:Value} (hr:In (qqv o) D v w):Rd w D (fwP o) ρ h v:=by
 cases o with
 | some ys =>
  obtain ⟨a,b,rfl,h1,h2⟩:=hr;unfold fwP Rd;refine ⟨[a,b],rfl,?_⟩;unfold RdL;refine ⟨_,_,rfl,qcz h1,?_⟩;unfold RdL;exact ⟨_,_,rfl,by unfold Rd; exact h2,by unfold RdL; rfl⟩
 | none =>
  obtain ⟨a,b,rfl,h1,h2⟩:=hr;unfold fwP Rd;refine ⟨[a,b],rfl,?_⟩;unfold RdL;refine ⟨_,_,rfl,qcz h1,?_⟩;unfold RdL;exact ⟨_,_,rfl,by unfold Rd; exact h2,by unfold RdL; rfl⟩
def qeJ {l:List Nat} (hl:q2X l) (hn:l.length≤1000000):ACt 120 [pF l] (iv 0):=by
 refine ac0 Tryz.func120 Tryz.ntmps120 [.tmp 2] ?_;refine wk ?_;refine q0B (fun i=>i≤l.length) [0,5,6] [] Lk Lk (fun i:Nat=>[(7,iv i)]) (fun _=>[]) (fun i=>l.length-i) 0 (Nat.zero_le _) ?_ ?_
 ·refine LeM [] rfl rfl ?_;refine Zz ?_
  rfl
 ·intro i hi
  by_cases hlt:i < l.length
  ·obtain ⟨x,hx⟩:∃ x,l[i]?=some x:=⟨_,List.getElem?_eq_getElem hlt⟩;obtain ⟨h1,h2⟩:=hl x (List.mem_of_getElem? hx);have C1:=q4J h1;refine wk1 (x2 hx (decide_eq_true h2)) ?_;refine ⟨i+1,by omega,by omega,?_⟩;refine LeM [] rfl rfl ?_;refine Zz ?_;omega
  ·exact wk trivial
def qs5 {n:Nat} (hn:n≤1000000):ACt 141 [iv n] (pI (q82 n)):=by
 have hl:=q9W;refine ac0 Tryz.func141 Tryz.ntmps141 [.tmp 2] ?_;refine wk ?_;refine q0B (fun i=>i≤n) [5] [] Lk Lk (fun i:Nat=>[(6,iv i),(3,.ow 1001 none 0 i)]) (fun i=>[(1001,⟨3,none,(q82 i).map fun z=>iv z,false⟩)]) (fun i=>n-i) 0 (Nat.zero_le _) ?_ ?_
 ·refine LeM [(1001,none)] rfl rfl ?_;refine Zz ?_;exact ⟨rfl,rfl⟩
 ·intro i hi
  by_cases hlt:i < n
  ·refine wk1 (hl i) ?_;refine ⟨i+1,by omega,by omega,?_⟩;refine LeM [(1001,some 12)] rfl rfl ?_;refine Zz ?_;exact ⟨by omega,by rw [qcJ]⟩
  ·obtain rfl:i=n:=by omega
   exact wk1 (hl i) trivial
def qqf {f:List Int × List Int × List Int × List Nat} {ps:List Int} {l:List Nat} (ho:FacOk ⟨f.1,f.2.1,f.2.2.1,f.2.2.2⟩) (hl:q2X l) (hn:l.length=f.1.length) (hps:∀ x ∈ ps,0≤x∧x < l.length) (hpl:ps.length≤200) :
  ACt 140 [q9q f,pF l,pI ps] (fwP (qaG ⟨f.1,f.2.1,f.2.2.1,f.2.2.2⟩ ps (l.map fun x=>[ofZ x]) (List.replicate l.length 0))):=qez (r:=.fm (qqv _)) (fun D w v h=>qpv (q9j h)) (ac_r qj3 fun D w vs hT hF hR=>by
 obtain ⟨_,_,_,rfl,h3,h4,h5⟩:=rd_3 hR;obtain ⟨A,n,c,rfl,h6⟩:=q7h (f:=q3Y) h4;obtain ⟨A2,n2,c2,rfl,h7⟩:=q7h (f:=q2y) h5;obtain rfl:n=l.length:=h6.sc_len.symm;obtain rfl:n2=ps.length:=h7.sc_len.symm;exact qb7 hT (qpw h3) ho h6 hl hn h7 hps hpl hF)
def qgX {pm cp ri:List Int} {vs l:List Nat} (hp:pm.length≤1000000) (hc:cp.length≤1000000) (hr:ri.length≤1000000) (hv:vs.length≤1000000) (hu:∀ x ∈ vs,x < 18446744073709551616) (hl:q2X l) (hn:l.length=pm.length) :
  ACt 75 [q9q (pm,cp,ri,vs),pF l] (lowR (pm,cp,ri,vs) l):=by
 have cC:=qhk hp hc hr hv hu;have cF:=qeJ hl Oq;have cV:ACt 57 [pF l,iv l.length] (iv 0):=by
  refine ac0 Tryz.func57 Tryz.ntmps57 [.tmp 4] ?_;exact wk trivial
 have cR:ACt 139 [q9q (pm,cp,ri,vs),pF l] (iv (qbe (pm,cp,ri,vs))):=by
  generalize qbe (pm,cp,ri,vs)=res at *;unfold q9q at *;dsimp only at *;refine ac0 Tryz.func139 Tryz.ntmps139 [.tmp 4] ?_
  by_cases h0:res=0
  ·exact wk1 (x2 h0 hn.symm) trivial
  ·exact wk trivial
 unfold lowR
 by_cases h0:qbe (pm,cp,ri,vs)=0
 ·have ho:=qhZ h0 hr hu;rw [if_neg (not_not_intro h0)];have hnb:=ho.n;have cA:=qs5 (n:=l.length) Oq;have cW:=qqf (f:=(pm,cp,ri,vs)) (ps:=q82 l.length) ho hl hn (fun x hx=>by unfold q82 at hx; simp at hx; omega) (by rw [q9W]; dsimp only at hnb; omega);dsimp only at cW ⊢;rw [h0] at cR;generalize qaG ⟨pm,cp,ri,vs⟩ (q82 l.length) (l.map fun x=>[ofZ x]) (List.replicate l.length 0)=res at *;unfold q9q at *;dsimp only at *;refine ac0 Tryz.func75 Tryz.ntmps75 [.tmp 4,.tmp 5] ?_;cases res
  ·unfold fwP at *;exact wk trivial
  ·unfold fwP at *;exact wk trivial
 ·rw [if_pos h0];generalize qbe (pm,cp,ri,vs)=res at *;unfold q9q at *;dsimp only at *;refine ac0 Tryz.func75 Tryz.ntmps75 [.tmp 4,.tmp 5] ?_;exact wk trivial
def qmd {pm cp ri:List Int} {vs:List Nat} (ho:FacOk ⟨pm,cp,ri,vs⟩):qbe (pm,cp,ri,vs)=0:=by
 have hn:=ho.n;have hcl:=ho.cpl;have hrl:=ho.ril;dsimp only at hn hcl hrl;have hS:FStr pm.length cp ri:=⟨ho.c0,ho.cn,fun j hj=>by
  obtain ⟨a,b,hc⟩:=ho.col j hj;have h1:=hc.lt;have h2:=hc.le;dsimp only at h2;have hl:((ri.take b).drop a).length=b-a:=by simp; omega
  refine ⟨a,b,hc.ha,hc.hb,by omega,hc.le,?_,fun z hz=>?_,fun i x y hx hy=>?_⟩
  ·rw [q1I (by omega)]; exact hc.first
  ·rw [hl,q1I (by omega),show a+(b-a-1)=b-1 by omega] at hz;obtain ⟨y,hy,hy2⟩:=hc.last;dsimp only at hy;rw [hy] at hz; cases hz; exact hy2
  ·have:=(List.getElem?_eq_some_iff.1 hy).1;rw [q1I (by omega)] at hx hy;obtain ⟨u,v,hu,hv,huv⟩:=hc.inc (a+(i+1)) Oq Oq;dsimp only at hu hv;rw [show a+(i+1)-1=a+i by omega,hx] at hu;rw [hy] at hv;cases hu; cases hv; exact huv⟩
 have hD:FDg pm.length cp vs:=fun j hj a x ha hx=>by
  obtain ⟨a',b,hc⟩:=ho.col j hj;have h1:=hc.ha;dsimp only at h1;rw [ha] at h1;obtain ⟨y,V,d1,d2,d3⟩:=hc.diag;obtain rfl:a=a':=by injection h1 with h1; omega
  dsimp only at d1;rw [hx] at d1; cases d1;rw [q0e d2]; exact d3
 unfold qbe;dsimp only;rw [if_neg (by omega),if_neg (not_not_intro ⟨rfl,ho.perm.1,ho.perm.2⟩),if_neg (by omega),if_neg (not_not_intro hS),if_pos ⟨fun x hx=>(ho.vals x hx).2,hD⟩]
def qqe {o:Option (List Nat)} {w:World} {D:Nat→Prop} {v:Value} (hr:Rd w D (fwP o) (fun _=>none) h0 v):In (qqv o) D v w:=by
 cases o <;> unfold fwP Rd at hr <;> obtain ⟨_,rfl,h1⟩:=hr <;> obtain ⟨_,_,rfl,h2,h3⟩:=qpx h1 <;> obtain ⟨A,n,c,rfl,h4⟩:=q7h (f:=q3Y) h2 <;> exact ⟨_,_,rfl,h4,q9i h3⟩
def qd0 {D:Nat→Prop} {pm cp ri:List Int} {vs:List Nat} {v:Value} {A:Option Addr} {n c:Nat} {l:List Nat} {w:World} (hT:q2E w) (h:In (qqw ⟨pm,cp,ri,vs⟩) D v w) (ho:FacOk ⟨pm,cp,ri,vs⟩) (hb:In (fSc q3Y l) D (.slice A n c) w) (hl:q2X l) (hn:n=pm.length)
  (hf:Fr D w):Calls Tryz.prog 75 #[v,.slice A n c] w (Rt (qqv (qaG ⟨pm,cp,ri,vs⟩ (q82 n) (l.map fun x=>[ofZ x]) (List.replicate n 0))) D w):=by
 obtain rfl:n=l.length:=hb.sc_len.symm;have h1:=ho.n;have h2:=ho.cpl;have h3:=ho.ril;have h4:=ho.rib;dsimp only at h1 h2 h3 h4;have cL:=qgX (pm:=pm) (cp:=cp) (ri:=ri) (vs:=vs) Oq Oq h4 Oq (fun x hx=>(ho.vals x hx).1) hl hn;unfold lowR at cL;rw [if_neg (not_not_intro (qmd ho))] at cL;obtain ⟨_,_,_,_,rfl,i1,i2,i3,i4⟩:=h;refine (cL.2 D w [_,_] hT hf ?_).mono fun x w' ⟨v,h1,h2,h3⟩=>⟨v,h1,h2,qqe h3⟩;unfold RdL;refine ⟨_,_,rfl,?_,RdL.one (qcz hb)⟩;unfold q9q Rd;refine ⟨_,rfl,?_⟩;have q:∀ x,qix (q2y x):=fun x=>⟨rfl,rfl⟩;unfold RdL;refine ⟨_,_,rfl,qcl (f:=q2y) q i1,?_⟩;unfold RdL;refine ⟨_,_,rfl,qcl (f:=q2y) q i2,?_⟩;unfold RdL;exact ⟨_,_,rfl,qcl (f:=q2y) q i3,RdL.one (qcz i4)⟩

def qpT {id m n:Nat} (h:m≤n):slP (some 1) none (some (iv (m:Int))) (.ow id none 0 n)=some (.ow id none 0 m):=by
 simp [slP,q8J,ksz];omega
def qpS {id m n:Nat} (h:m≤n):slP (some 1) (some (iv (m:Int))) none (.ow id none 0 n)=some (.ow id none m (n-m)):=by
 simp [slP,q8J,ksz];omega
def qgM {raw:List Nat} {N:Nat} (hr:raw.length≤9223372036854775807) (hN:N≤1000000):ACt 19 [pF raw,iv N] (pI (q4F raw N)):=by
 have hol:=q6e raw;refine ac0 Tryz.func19 Tryz.ntmps19 [.tmp 4] ?_;refine wk ?_;refine q0B (fun i=>i≤N) [0,1] [] Lk Lk (fun i:Nat=>[(6,iv i),(5,.ow 1001 none 0 i)]) (fun i=>[(1001,⟨3,none,(q4F raw i).map fun z=>iv z,false⟩)]) (fun i=>N-i) 0 (Nat.zero_le _) ?_ ?_
 ·refine LeM [(1001,some 8)] rfl rfl ?_;refine Zz ?_;exact ⟨rfl,rfl⟩
 ·intro i hi
  by_cases hlt:i < N
  ·have C1:=q6O (raw:=raw) (k:=700+(i:Int)) hr Oq Oq;have C2:=q5M (a:=((q3t raw (700+(i:Int)) / 2:Nat):Int)) (n:=i+1) Oq (by have:=q28 raw (700+(i:Int)); omega) Oq Oq;have e2':IntKind.i64.wrap ((i:Int)+1)=((i+1:Nat):Int):=by rw [i64_in (by omega) (by omega)]; omega
   have e3':IntKind.i64.wrap ((q3t raw (700+i) / 2:Nat):Int)=((q3t raw (700+i) / 2:Nat):Int):=i64_in Oq (by have:=q28 raw (700+(i:Int)); omega);have hs:q4F raw (i+1)=(q4F raw i).take (q1V ((q3t raw (700+i) / 2:Nat):Int) (i+1)) ++ [(i:Int)] ++ (q4F raw i).drop (q1V ((q3t raw (700+i) / 2:Nat):Int) (i+1)):=rfl;have hlt2:=q5N (a:=((q3t raw (700+i) / 2:Nat):Int)) (n:=i+1) Oq;have hl:=hol i;generalize q1V ((q3t raw (700+i) / 2:Nat):Int) (i+1)=m at *;generalize q4F raw i=L at *;have f1:slP (some 1) none (some (iv (m:Int))) (.ow 1001 none 0 i)=some (.ow 1001 none 0 m):=qpT Oq;have f2:slP (some 1) (some (iv (m:Int))) none (.ow 1001 none 0 i)=some (.ow 1001 none m (i-m)):=qpS Oq;have f3:(List.take m (List.map (fun z=>iv z) L)).length=m:=by
    rw [List.length_take,List.length_map];omega
   have f4:(List.drop m (List.map (fun z=>iv z) L)).length=i-m:=by rw [List.length_drop,List.length_map,hl]
   have f5:List.take (i-m) (List.drop m (List.map (fun z=>iv z) L))=List.drop m (List.map (fun z=>iv z) L):=List.take_of_length_le Oq;refine wk1 (x6 e2' e3' hl f1 f2 (x3 f3 f4 f5)) ?_;refine ⟨i+1,by omega,by omega,?_⟩;rw [hs];have f6:(List.take m (List.map (fun z=>iv z) L) ++ [iv (i:Int)] ++ List.drop m (List.map (fun z=>iv z) L))=(List.take m L ++ [(i:Int)] ++ List.drop m L).map fun z=>iv z:=by simp
   refine LeM [(1001,some 34)] rfl rfl ?_;refine Zz ?_;rw [f6];exact ⟨by omega,q0R rfl clI⟩
  ·obtain rfl:i=N:=by omega
   exact wk1 (hol i) trivial
def qkw {mode:Int} {neg:Bool} {N D:Nat}:N / D≤rq mode neg N D:=by unfold rq; (repeat' split) <;> omega
def qlD {mode:Int} {neg:Bool} {N D K:Nat} (hN:0 < N) (hD:0 < D) (hK:1074≤K):∃ u r:Nat,K≤u+1074∧rF mode neg N D=fin mode neg r ((u:Int)-K)∧r=rq mode neg (N*2 ^ K) (D*2 ^ u)∧r≤9007199254740992∧(u+1074=K∨(4503599627370496≤r∧D*2 ^ (u+52)≤N*2 ^ K)):=by
 obtain ⟨q,hq⟩:∃ q,q=qd7 N D:=⟨_,rfl⟩;have hq1:q=max (lgq N D-52) (-1074):=hq;obtain ⟨u,hu⟩:∃ u:Nat,(u:Int)=q+K:=⟨(q+K).toNat,by omega⟩;have hbl:D≤N*2 ^ bl D:=Nat.le_trans (Nat.le_of_lt (q21 D)) (Nat.le_mul_of_pos_left _ hN);obtain ⟨g,hg⟩:∃ g,bl (N*2 ^ bl D / D)=g+1:=⟨bl (N*2 ^ bl D / D)-1,by
  have:bl (N*2 ^ bl D / D)≠0:=fun h=>by
   have h1:=q21 (N*2 ^ bl D / D);rw [h] at h1;have:=Nat.div_pos hbl hD;omega
  omega⟩
 have hlg:lgq N D=(g:Int)-bl D:=by unfold lgq; omega
 have f2:N*2 ^ bl D < D*2 ^ (g+1):=by
  have:=q21 (N*2 ^ bl D / D);rw [hg,Nat.div_lt_iff_lt_mul hD] at this;rw [Nat.mul_comm D];exact this
 have f1:D*2 ^ g≤N*2 ^ bl D:=by
  have:=q6z (n:=N*2 ^ bl D / D) (by have:=Nat.div_pos hbl hD; omega);rw [hg,Nat.le_div_iff_mul_le hD] at this;rw [Nat.mul_comm D];exact this
 generalize bl D=b at *;have hr:rat mode neg N D q=rq mode neg (N*2 ^ K) (D*2 ^ u):=by
  unfold rat;rw [← q4i (c:=2 ^ (K-(-q).toNat)) (q0G _),Nat.mul_assoc,Nat.mul_assoc,← Nat.pow_add,← Nat.pow_add,show (-q).toNat+(K-(-q).toNat)=K by omega,show q.toNat+(K-(-q).toNat)=u by omega]
 refine ⟨u,_,by omega,?_,rfl,?_,?_⟩
 ·unfold rF;rw [← hq,hr,show (u:Int)-K=q by omega]
 ·refine Nat.le_trans qph ?_;have:N*2 ^ K / (D*2 ^ u) < 2 ^ 53:=by
   rw [Nat.div_lt_iff_lt_mul (Nat.mul_pos hD (q0G _))];refine Nat.lt_of_mul_lt_mul_right (a:=2 ^ b) ?_;have e1:N*2 ^ K*2 ^ b=N*2 ^ b*2 ^ K:=by rw [Nat.mul_right_comm]
   have e2:2 ^ 53*(D*2 ^ u)*2 ^ b=D*2 ^ (53+u+b):=by rw [Nat.mul_left_comm,Nat.mul_assoc,← Nat.pow_add,← Nat.pow_add]
   rw [e1,e2];refine Nat.lt_of_lt_of_le (Nat.mul_lt_mul_of_pos_right f2 (q0G K)) ?_;rw [Nat.mul_assoc,← Nat.pow_add];exact Nat.mul_le_mul_left _ (Nat.pow_le_pow_right Oq Oq)
  have h53:(2:Nat) ^ 53=9007199254740992:=by decide
  omega
 ·by_cases h:u+1074=K
  ·exact .inl h
  ·right
   have hm:D*2 ^ (u+52)≤N*2 ^ K:=by
    refine Nat.le_of_mul_le_mul_right (c:=2 ^ b) ?_ (q0G b);have e1:N*2 ^ K*2 ^ b=N*2 ^ b*2 ^ K:=by rw [Nat.mul_right_comm]
    have e2:D*2 ^ (u+52)*2 ^ b=D*2 ^ g*2 ^ K:=by rw [Nat.mul_assoc,Nat.mul_assoc,← Nat.pow_add,← Nat.pow_add]; congr 2; omega
    rw [e1,e2];exact Nat.mul_le_mul_right _ f1
   refine ⟨Nat.le_trans ?_ qkw,hm⟩;rw [Nat.le_div_iff_mul_le (Nat.mul_pos hD (q0G _))];have h52:(2:Nat) ^ 52=4503599627370496:=by decide
   rw [← h52,Nat.mul_left_comm,← Nat.pow_add,Nat.add_comm 52];exact hm
def qmM {mode:Int} {neg:Bool} {r u:Nat} {K:Nat} (hK:K=65536) (h1:K≤u+1074) (h2:r≤9007199254740992) (h3:u+1074=K∨4503599627370496≤r) (h4:u+1076 < 2047+K):ofF (fin mode neg r ((u:Int)-K))=some (sgn neg r*(2:Int) ^ u):=by
 unfold fin
 split
 ·rename_i h;rw [q6q Oq Oq Oq Oq,show ((u:Int)-K+1+65536).toNat=u+1 by omega,h]
  congr 1
  cases neg <;> simp [sgn,Int.pow_succ] <;> omega
 ·rw [q6q Oq Oq Oq Oq,show ((u:Int)-K+65536).toNat=u by omega]
def q9s:ofF 0=some 0:=by
 unfold ofF;rw [if_neg (by decide),if_pos (by decide)];have:sgn (decide (9223372036854775808≤0)) (0 % 4503599627370496)=0:=by decide
 rw [this,Int.zero_mul]
def qqt {mode V:Int} {K c:Nat} (hK:K=65536) (hc:c=900) (h:V.natAbs < 2 ^ c*2 ^ K):q0Q (fR mode V):=by
 unfold fR
 split
 ·unfold q0Q; simp
 ·rw [← hK];obtain ⟨u,r,h1,h2,h3,h4,h5⟩:=qlD (mode:=mode) (neg:=decide (V < 0)) (N:=V.natAbs) (D:=2 ^ K) (K:=K) Oq (q0G _) Oq;rw [h2];have hu:u+1076 < 2047+K:=by
   rcases h5 with h5 | ⟨_,h5⟩
   ·omega
   ·have h6:2 ^ K*2 ^ (u+52) < 2 ^ c*2 ^ K*2 ^ K:=Nat.lt_of_le_of_lt h5 (Nat.mul_lt_mul_of_pos_right h (q0G K));rw [← Nat.pow_add,← Nat.pow_add,← Nat.pow_add] at h6;have:=(Nat.pow_lt_pow_iff_right (by omega:1 < 2)).1 h6;omega
  have:=qmM (mode:=mode) (neg:=decide (V < 0)) hK h1 h4 Oq hu;intro hn;unfold ofF at this;rw [if_pos hn] at this;cases this
def qnA (m:Int) (k:Nat) (h1:m.natAbs < 9007199254740992) (h2:k≤65561):bl (m*(2:Int) ^ k).natAbs≤66000:=by
 have h53:∀ n:Nat,n < 9007199254740992→bl n≤53:=fun n h=>q0N (Nat.lt_of_lt_of_le h (Nat.le_refl _))
 by_cases hm:m=0
 ·subst hm; rw [Int.zero_mul]; simp [q1C]
 ·rw [q0K,q1P (by omega)]; have:=h53 _ h1; omega
def qiy {f:Nat} (h:f / 4503599627370496 % 2048≤1100):bl (ofZ f).natAbs≤66000:=by
 have hm:=Nat.mod_lt f (show 0 < 4503599627370496 by omega);have hfm:∃ (m:Int) (k:Nat),ofF f=some (m*(2:Int) ^ k)∧m.natAbs < 9007199254740992∧k≤65561:=by
  unfold ofF;rw [if_neg (by omega)];generalize f / 4503599627370496 % 2048=x at *;generalize f % 4503599627370496=m at *
  split
  ·exact ⟨_,64462,rfl,by rw [q12]; omega,by omega⟩
  ·exact ⟨_,64461+x,rfl,by rw [q12]; omega,by omega⟩
 obtain ⟨m,k,h1,h2,h3⟩:=hfm;rw [q0e h1];exact qnA m k h2 h3
def qlR {k x:Nat} (hk:k < 3) (hx:x < 18446744073709551616):bl (ofZ (q2U k x)).natAbs≤66000:=by
 by_cases h1:k=1
 ·subst h1;refine qiy ?_;unfold q2U;rw [if_pos rfl];omega
 by_cases h2:k=2
 ·subst h2;refine qiy ?_;unfold q2U;rw [if_neg (by omega),if_pos rfl];have h1:x / 9223372036854775808≤1:=by omega
  have h2:x / 256 % 81 < 81:=by omega
  have h3:x / 2251799813685248 % 2≤1:=by omega
  generalize x / 9223372036854775808=a at *;generalize x / 256 % 81=b at *;generalize x / 2251799813685248 % 2=c at *;omega
 have hs:=q63 x;unfold q2U;rw [if_neg h1,if_neg h2,if_neg (by omega),q0e (q4V (by omega))];exact qnA _ 65536 Oq Oq
def qlP:bl qqM.natAbs≤66000:=by
 have h:=q8l (z:=1) (by have:=q0N (n:=Int.natAbs 1) (k:=1) (by decide); omega);rw [q8j.1] at h;rw [Option.some.inj h];exact qnA 1 65536 (by decide) Oq
def gF_bl {raw:List Nat} {R k:Nat} (hk:k < 3) {j i:Nat}:bl (ofZ ((gF raw R k j i).getD 0)).natAbs≤66000:=by
 unfold gF
 split
 ·exact qlR hk (q28 _ _)
 ·rw [Option.getD_none,q0e q9s]; simp [q1C]
structure LuS where
 rows:List Nat
 l:Nat→Nat→Nat
 iL:Nat→Nat→Bool
 u:Nat→Nat→Nat
 iU:Nat→Nat→Bool
def luL (F:Nat→Nat→Option Nat) (l u:Nat→Nat→Nat) (i j k:Nat):Nat→List Int
 | 0=>[ofZ ((F j i).getD 0)]
 | m+1=>luL F l u i j k m ++ [-(q2D (l i m) (u m k))]
def luZ (F:Nat→Nat→Option Nat) (l u:Nat→Nat→Nat) (i j k m:Nat):Int:=q0v (luL F l u i j k m)
def q5V (g:Nat→Nat→Nat):Prop:=∀ r c,q0Q (g r c)∧g r c < 18446744073709551616
def q6j {F:Nat→Nat→Option Nat} {l u:Nat→Nat→Nat} {i j k:Nat}:∀ m,(luL F l u i j k m).length=m+1
 | 0=>rfl
 | m+1=>by rw [luL,List.length_append,q6j m]; rfl
def qjJ {F:Nat→Nat→Option Nat} {l u:Nat→Nat→Nat} {i j k:Nat} (hl:q5V l) (hu:q5V u) (hF:q0Q ((F j i).getD 0)):∀ m,∀ x ∈ luL F l u i j k m,bl x.natAbs≤67600
 | 0,x,hx=>by unfold luL at hx; simp at hx; subst hx; exact q2w hF
 | m+1,x,hx=>by
  unfold luL at hx
  rcases List.mem_append.1 hx with hx | hx
  ·exact qjJ hl hu hF m x hx
  ·simp at hx; subst hx;rw [Int.natAbs_neg];exact (q1q (hl i m).1 (hu m k).1).2
def qq1 {F:Nat→Nat→Option Nat} {l u:Nat→Nat→Nat} {i j k m:Nat} (hl:q5V l) (hu:q5V u) (hF:q0Q ((F j i).getD 0)) (hm:m≤500):q0b (luZ F l u i j k m):=q77 (qjJ hl hu hF m) (by rw [q6j]; omega)
abbrev pRw (l:List Nat):PV:=.sl none (l.map fun z:Nat=>iv z)
abbrev rU (n:Nat) (g:Nat→Nat→Nat) (j:Nat):List PV:=(List.range n).map fun c=>.vl (.int .u64 (g j c:Nat))
abbrev rB (n:Nat) (g:Nat→Nat→Bool) (j:Nat):List PV:=(List.range n).map fun c=>.vl (.bool (g j c))
abbrev tU (n:Nat) (g:Nat→Nat→Nat):PV:=.sl none ((List.range n).map fun j=>.sl none ((List.range n).map fun c=>.vl (.int .u64 (g j c:Nat))))
abbrev tB (n:Nat) (g:Nat→Nat→Bool):PV:=.sl none ((List.range n).map fun j=>.sl none ((List.range n).map fun c=>.vl (.bool (g j c))))
abbrev pSt (n:Nat) (S:LuS):PV:=.ag [pRw S.rows,tU n S.l,tB n S.iL,tU n S.u,tB n S.iU]
section
variable {F:Nat→Nat→Option Nat} {S:LuS} {n:Nat}
def qgU (h:TOk F n n) (hn:n≤100) (hl:q5V S.l) (hu:q5V S.u) {i j k m:Nat} (hi:i < n) (hj:j < n) (hk:k < n) (hm:m≤n):ACt 182 [pSt n S,pT n n F,iv i,iv j,iv k,iv m] (pV (luZ F S.l S.u i j k m)):=by
 have hF:=h.fin (j:=j) (i:=i) hj hi;have cA:=qi5 (i:=i) (j:=j) h hi hj;have cO:=q2e hF.2 (q04 hF.1);have hd:=qq1 (F:=F) (i:=i) (j:=j) (k:=k) (m:=m) hl hu hF.1 Oq;have cS:=q9D (l:=luL F S.l S.u i j k m) (by rw [q6j]; omega) hd;have cZ:=qjA (V:=q0v (luL F S.l S.u i j k m));have cN:=@qe2;unfold luZ;have hL0:luL F S.l S.u i j k 0=[ofZ ((F j i).getD 0)]:=rfl;have hLs:=fun m=>show luL F S.l S.u i j k (m+1)=luL F S.l S.u i j k m ++ [-(q2D (S.l i m) (S.u m k))] from rfl;have hLl:=q6j (F:=F) (l:=S.l) (u:=S.u) (i:=i) (j:=j) (k:=k);have ri:(List.range n)[i]?=some i:=List.getElem?_range hi;have rk:(List.range n)[k]?=some k:=List.getElem?_range hk;have hpl:pT n n F=q5e n n (tM F n n).1 (tM F n n).2.1 (tM F n n).2.2:=rfl;rw [hpl] at cA ⊢;clear hpl;unfold q5e at cA ⊢;generalize (tM F n n).1=ms at *;generalize (tM F n n).2.1=mi at *;generalize (tM F n n).2.2=mv at *;generalize luL F S.l S.u i j k=L at *;generalize hfx:(F j i).getD 0=fx at *;refine ac0 Tryz.func182 Tryz.ntmps182 [.cell 12 56] ?_;refine wk ?_;refine q2k [2,3,4,5,6,12,13,14] Lk ?_;refine q0B (fun p=>p≤m) [2,3,4,5,6,12] [6,12] Lk Lk (fun p:Nat=>[(14,iv p),(13,.ow 1001 (some 4) 0 (p+1))]) (fun p=>[(1001,⟨56,some 4,(L p).map fun V=>pV V,false⟩)]) (fun p=>m-p) 0 (Nat.zero_le _) ?_ ?_
 ·refine LeM [(1001,some 20)] rfl rfl ?_;refine Zz ?_;rw [hL0];exact ⟨rfl,q0R rfl (clV (l:=[_]))⟩
 ·intro p hp;have hl1:=hLl p
  by_cases hlt:p < m
  ·have rp:(List.range n)[p]?=some p:=List.getElem?_range Oq;obtain ⟨u1,u2⟩:=hl i p;obtain ⟨v1,v2⟩:=hu p k;have cP:=q4w u2 v2 (q04 u1) (q04 v1) (q1q u1 v1).1;refine wk1 (x4 ri rk rp hl1) ?_;refine ⟨p+1,by omega,by omega,?_⟩;rw [hLs,List.map_append];refine LeM [(1001,some 46)] rfl rfl ?_;refine Zz ?_;exact ⟨by omega,qnc (q0R rfl clV) (q0R rfl (clV (l:=[_])))⟩
  ·obtain rfl:p=m:=by omega
   exact wk1 hl1 trivial
def q4E (hr:S.rows.length≤1000000) {i:Nat}:ACt 184 [pSt n S,iv i] (bv (decide (i ∈ S.rows))):=by
 obtain ⟨res,hres⟩:∃ res,res=decide (i ∈ S.rows):=⟨_,rfl⟩;rw [← hres];refine ac0 Tryz.func184 Tryz.ntmps184 [.tmp 4] ?_;refine wk ?_;refine q0B (fun p=>p≤S.rows.length∧i ∉ S.rows.take p) [1,2] [2] Lk Lk (fun p:Nat=>[(5,iv p)]) (fun _=>[]) (fun p=>S.rows.length-p) 0 ⟨Nat.zero_le _,by simp⟩ ?_ ?_
 ·refine LeM [] rfl rfl ?_;refine Zz ?_
  rfl
 ·rintro p ⟨hp,hm⟩
  by_cases hlt:p < S.rows.length
  ·obtain ⟨x,hx⟩:∃ x,S.rows[p]?=some x:=⟨_,List.getElem?_eq_getElem hlt⟩
   by_cases hxi:x=i
   ·have q:((x:Int) == (i:Int))=true:=by simp [hxi]
    refine wk1 (x2 hx q) ?_;exact (hres.trans (decide_eq_true (hxi ▸ List.mem_of_getElem? hx))).symm
   ·have q:((x:Int) == (i:Int))=false:=by simp; omega
    refine wk1 (x2 hx q) ?_;refine ⟨p+1,⟨by omega,?_⟩,by omega,?_⟩
    ·rw [q2H hx,List.mem_append];rintro (h | h)
     ·exact hm h
     ·simp at h; exact hxi h.symm
    ·refine LeM [] rfl rfl ?_;refine Zz ?_
     rfl
  ·obtain rfl:p=S.rows.length:=by omega
   rw [List.take_length] at hm;refine wk ?_;exact (hres.trans (decide_eq_false hm)).symm
def q4s (l:List Int) (i:Nat):Nat:=(l.filter fun x:Int=>decide (x=(i:Int))).length
def qaZ {ms mi:List Int} {mv:List Nat} {n:Nat} (hi:mi.length≤1000000) {i:Nat}:ACt 185 [q5e n n ms mi mv,iv i] (iv (q4s mi i)):=by
 unfold q5e;refine ac0 Tryz.func185 Tryz.ntmps185 [.tmp 4] ?_;refine wk ?_;refine q0B (fun p=>p≤mi.length) [1,2] [2] Lk Lk (fun p:Nat=>[(6,iv p),(5,iv (q4s (mi.take p) i))]) (fun _=>[]) (fun p=>mi.length-p) 0 (Nat.zero_le _) ?_ ?_
 ·refine LeM [] rfl rfl ?_;refine Zz ?_;exact ⟨rfl,rfl⟩
 ·intro p hp
  by_cases hlt:p < mi.length
  ·obtain ⟨x,hx⟩:∃ x,mi[p]?=some x:=⟨_,List.getElem?_eq_getElem hlt⟩;have hc:q4s (mi.take p) i≤1000000:=Nat.le_trans (List.length_filter_le _ _) (by rw [List.length_take]; omega)
   by_cases hxi:x=i
   ·have q:(x == (i:Int))=true:=by simp [hxi]
    have es:q4s (mi.take (p+1)) i=q4s (mi.take p) i+1:=by unfold q4s; rw [q2H hx,List.filter_append,List.length_append]; simp [hxi]
    generalize q4s (mi.take p) i=c at *;refine wk1 (x2 hx q) ?_;refine ⟨p+1,by omega,by omega,?_⟩;rw [es];refine LeM [] rfl rfl ?_;refine Zz ?_;exact ⟨rfl,rfl⟩
   ·have q:(x == (i:Int))=false:=by simpa using hxi
    have es:q4s (mi.take (p+1)) i=q4s (mi.take p) i:=by unfold q4s; rw [q2H hx,List.filter_append,List.length_append]; simp [hxi]
    generalize q4s (mi.take p) i=c at *;refine wk1 (x2 hx q) ?_;refine ⟨p+1,by omega,by omega,?_⟩;rw [es];refine LeM [] rfl rfl ?_;refine Zz ?_
    rfl
  ·obtain rfl:p=mi.length:=by omega
   rw [List.take_length];exact wk trivial
end
end Go.Proofs.YtjfjjmfhfbapeaaGreatDoor
namespace Go.Sp
open Go Go.E
def qoO (f:Nat):Nat:=f % 9223372036854775808
def q7r {f:Nat} (hf:f < 18446744073709551616):qbW f=0 ↔ qoO f=0:=by
 unfold qbW qoO
 constructor
 ·intro h
  split at h
  ·cases h
  ·split at h
   ·cases h
   ·split at h
    ·omega
    ·cases h
 ·intro h;rw [if_neg (by omega),if_neg (by omega),if_pos (by omega)]
end Go.Sp
namespace Go.Proofs.YtjfjjmfhfbapeaaGreatDoor
open Go Go.E Go.Sp
section
variable {f g:Nat}
def qh4 (hf:f < 18446744073709551616):ACt 83 [uv f] (iv (qbW f:Nat)):=by
 have C1:=@q5X f hf;unfold qbW;generalize f / 4503599627370496 % 2048=x at *;generalize f % 4503599627370496=m at *;refine ac0 Tryz.func83 Tryz.ntmps83 [.tmp 2] ?_
 by_cases hx2:x=2047
 ·by_cases hm0:m=0
  ·rw [if_neg (by simp [hm0]),if_pos hx2];exact wk1 (show ((2:Nat):Int)=2 from rfl) trivial
  ·rw [if_pos ⟨hx2,hm0⟩];exact wk1 (show ((3:Nat):Int)=3 from rfl) trivial
 ·rw [if_neg fun h=>hx2 h.1,if_neg hx2]
  by_cases hx0:x=0
  ·by_cases hm0:m=0
   ·rw [if_pos ⟨hx0,hm0⟩];exact wk1 (show ((0:Nat):Int)=0 from rfl) trivial
   ·rw [if_neg fun h=>hm0 h.2];exact wk1 (show ((1:Nat):Int)=1 from rfl) trivial
  ·rw [if_neg fun h=>hx0 h.1];exact wk1 (show ((1:Nat):Int)=1 from rfl) trivial
end
section
variable {A B:Int}
def qoU (hA:q0b A):ACt 189 [dT A] (reT (decide (od A < 0)) (od A).natAbs (dyE A) false):=by
 have C1:=@q8s;have:=(q1E hA).2.2;refine ac0 Tryz.func189 Tryz.ntmps189 [.cell 2 147] ?_;exact wk trivial
def qeN (hA:q0b A):ACt 121 [dT A,iv 0] (uv (fR 0 A:Nat)):=by
 obtain ⟨hd1,hd2,hd3⟩:=q1E hA;have C1:=q6M hA;have C2:=q3U hA;have C3:=qoU hA;refine ac0 Tryz.func121 Tryz.ntmps121 [.tmp 4] ?_
 by_cases hz:A=0
 ·have q1:(A.sign == 0)=true:=by rw [hz]; rfl
  rw [show ((fR 0 A:Nat):Int)=0 by rw [show fR 0 A=0 from if_pos hz]; rfl];exact wk1 q1 trivial
 ·have q1:(A.sign == 0)=false:=by
   rw [beq_eq_false_iff_ne]; intro h; exact hz (Int.sign_eq_zero_iff_zero.1 h)
  have hod:=q3H hz;have C4:=q5W (N:=(od A).natAbs) (M:=1) (neg:=decide (od A < 0)) (e:=dyE A) Nat.one_pos (by omega) (by rw [Nat.mod_one]; intro h; exact absurd rfl h) (by rw [Nat.div_one]; omega) (by omega) (by omega);rw [Nat.div_one,Nat.mod_one,show decide ((0:Nat)≠0)=false from rfl,rE_V hz,q1y,show rF 0 (decide (A < 0)) A.natAbs (2 ^ 65536)=fR 0 A from (if_neg hz).symm] at C4;rw [← q1y] at C4;exact wk1 q1 trivial
def q8f:ACt 71 [pV A] (uv (fR 0 A:Nat)):=by
 have C1:=q5K (V:=A) (mode:=0);refine ac0 Tryz.func71 Tryz.ntmps71 [.tmp 2] ?_;exact wk trivial
end
section
variable {l:List Nat}
end
structure PtrOk (n:Nat) (cp:List Int) (m:Nat):Prop where
 c0:cp[0]?=some 0
 cn:cp[n]?=some (m:Int)
 mono:∀ i,i < n→∀ x y,cp[i]?=some x→cp[i+1]?=some y→x≤y
def PtrOk.nn {n m:Nat} {cp:List Int} (h:PtrOk n cp m) (hl:cp.length=n+1):∀ j,j≤n→∃ a:Nat,cp[j]?=some (a:Int)
 | 0,_=>⟨0,h.c0⟩
 | j+1,hj=>by
  obtain ⟨a,ha⟩:=h.nn hl j Oq;obtain ⟨y,hy⟩:∃ y,cp[j+1]?=some y:=⟨_,List.getElem?_eq_getElem Oq⟩;have:=h.mono j Oq _ _ ha hy;exact ⟨y.toNat,by rw [hy]; congr 1; omega⟩
def PtrOk.le {n m:Nat} {cp:List Int} (h:PtrOk n cp m) (hl:cp.length=n+1):∀ d j,j+d=n→∀ x,cp[j]?=some x→x≤m
 | 0,j,hj,x,hx=>by
  obtain rfl:j=n:=by omega
  have:=Option.some.inj (hx.symm.trans h.cn); omega
 | d+1,j,hj,x,hx=>by
  obtain ⟨y,hy⟩:∃ y,cp[j+1]?=some y:=⟨_,List.getElem?_eq_getElem Oq⟩;have h1:=h.mono j Oq _ _ hx hy;have h2:=h.le hl d (j+1) Oq y hy;omega
open Classical in
def qdD {cp:List Int} {n m:Nat} (hn:n≤1000000) (hcl:cp.length=n+1):ACt 207 [pI cp,iv n,iv m] (bv (decide (PtrOk n cp m))):=by
 obtain ⟨res,hres⟩:∃ res,res=decide (PtrOk n cp m):=⟨_,rfl⟩;rw [← hres];have rF:¬ PtrOk n cp m→res=false:=fun h=>by rw [hres]; exact decide_eq_false h
 have rT:PtrOk n cp m→res=true:=fun h=>by rw [hres]; exact decide_eq_true h
 clear hres;obtain ⟨x0,hx0⟩:∃ x,cp[0]?=some x:=⟨_,List.getElem?_eq_getElem Oq⟩;obtain ⟨xn,hxn⟩:∃ x,cp[n]?=some x:=⟨_,List.getElem?_eq_getElem Oq⟩;have e0:((cp.length:Int) != (n:Int)+1)=false:=by rw [hcl]; simp
 refine ac0 Tryz.func207 Tryz.ntmps207 [.tmp 6] ?_
 by_cases h0:x0=0
 case neg =>
  have e1:(x0 != 0)=true:=by simpa using h0
  refine wk1 (x3 e0 hx0 e1) ?_;rw [rF fun h=>h0 (Option.some.inj (hx0.symm.trans h.c0))]
 subst h0;have e1:((0:Int) != 0)=false:=rfl
 by_cases hn0:xn=m
 case neg =>
  have e2:(xn != (m:Int))=true:=by simpa using hn0
  refine wk1 (x5 e0 hx0 e1 hxn e2) ?_;rw [rF fun h=>hn0 (Option.some.inj (hxn.symm.trans h.cn))]
 subst hn0;have e2:((m:Int) != (m:Int))=false:=by simp
 refine wk1 (x5 e0 hx0 e1 hxn e2) ?_;refine q0B (fun j=>j≤n∧∀ i,i < j→∀ x y,cp[i]?=some x→cp[i+1]?=some y→x≤y) [0,1] [] Lk Lk (fun j:Nat=>[(7,iv j)]) (fun _=>[]) (fun j=>n-j) 0 ⟨Nat.zero_le _,by omega⟩ ?_ ?_
 ·refine LeM [] rfl rfl ?_;refine Zz ?_
  rfl
 ·rintro j ⟨hj,hm⟩
  by_cases hlt:j < n
  ·obtain ⟨x,hx⟩:∃ x,cp[j]?=some x:=⟨_,List.getElem?_eq_getElem Oq⟩;obtain ⟨y,hy⟩:∃ x,cp[j+1]?=some x:=⟨_,List.getElem?_eq_getElem Oq⟩;have wj:(j:Int)+1=((j+1:Nat):Int):=rfl
   by_cases hxy:x > y
   ·refine wk1 (x4 hx hy hxy wj) ?_;rw [rF fun h=>by have:=h.mono j hlt x y hx hy; omega]
   ·refine wk1 (x4 hx hy hxy wj) ?_;refine ⟨j+1,⟨by omega,fun i hi u v hu hv=>?_⟩,by omega,?_⟩
    ·by_cases hij:i < j
     ·exact hm i hij u v hu hv
     ·obtain rfl:i=j:=by omega
      have h1:=Option.some.inj (hx.symm.trans hu);have h2:=Option.some.inj (hy.symm.trans hv);omega
    ·refine LeM [] rfl rfl ?_;exact Zy
  ·refine wk ?_;obtain rfl:j=n:=by omega
   exact (rT ⟨hx0,hxn,hm⟩).symm
def CoC.lt {n j:Nat} {col:List Int} (h:CoC n j col):∀ d p,p+d+1=col.length→∀ z,col[p]?=some z→z < n
 | 0,p,hp,z,hz=>h.l z (by rw [show col.length-1=p by omega]; exact hz)
 | d+1,p,hp,z,hz=>by
  obtain ⟨y,hy⟩:∃ y,col[p+1]?=some y:=⟨_,List.getElem?_eq_getElem Oq⟩;have h1:=h.m p z y hz hy;have h2:=h.lt d (p+1) Oq y hy;omega
def FStr.ptr {n:Nat} {cp ri:List Int} (h:FStr n cp ri):PtrOk n cp ri.length:=⟨h.c0,h.cn,fun i hi x y hx hy=>by
 obtain ⟨a,b,h1,h2,h3,_⟩:=h.col i hi;have h4:=Option.some.inj (hx.symm.trans h1);have h5:=Option.some.inj (hy.symm.trans h2);omega⟩

open Classical in
def qaq {l:List Nat} (hu:∀ x ∈ l,x < 18446744073709551616) (hn:l.length≤1000000):ACt 108 [pF l] (bv (decide (∀ x ∈ l,q0Q x))):=by
 obtain ⟨res,hres⟩:∃ res,res=decide (∀ x ∈ l,q0Q x):=⟨_,rfl⟩;rw [← hres];refine ac0 Tryz.func108 Tryz.ntmps108 [.tmp 2] ?_;refine wk ?_;refine q0B (fun i=>i≤l.length∧∀ x ∈ l.take i,q0Q x) [0] [] Lk Lk (fun i:Nat=>[(3,iv i)]) (fun _=>[]) (fun i=>l.length-i) 0 ⟨Nat.zero_le _,by simp⟩ ?_ ?_
 ·refine LeM [] rfl rfl ?_;refine Zz ?_
  rfl
 ·rintro i ⟨hi,hf⟩
  by_cases hil:i < l.length
  ·obtain ⟨x,hx⟩:∃ x,l[i]?=some x:=⟨_,List.getElem?_eq_getElem hil⟩;have hmx:=List.mem_of_getElem? hx;have cF:=q1w (hu x hmx)
   by_cases hfx:q0Q x
   case neg =>
    rw [decide_eq_false hfx] at cF;refine wk1 hx ?_;exact (hres.trans (decide_eq_false fun h=>hfx (h x hmx))).symm
   rw [decide_eq_true hfx] at cF;refine wk1 hx ?_;refine ⟨i+1,⟨by omega,?_⟩,by omega,?_⟩
   ·rw [q2H hx];intro y hy
    rcases List.mem_append.1 hy with hy | hy
    ·exact hf y hy
    ·simp at hy; subst hy; exact hfx
   ·refine LeM [] rfl rfl ?_;refine Zz ?_
    rfl
  ·obtain rfl:i=l.length:=by omega
   rw [List.take_length] at hf;refine wk ?_;exact (hres.trans (decide_eq_true hf)).symm
open Classical in
noncomputable def qbD (e:Int) (n:Nat) (l:List Nat):Int:=if e≠0 then e else if l.length≠n then 2 else if ¬ ∀ x ∈ l,q0Q x then 4 else 0
open Classical in
def qfW {e:Int} {n:Nat} {l:List Nat} (hu:∀ x ∈ l,x < 18446744073709551616) (hl:l.length≤1000000):ACt 67 [iv e,iv n,pF l] (iv (qbD e n l)):=by
 have cF:=qaq hu hl;unfold qbD;refine ac0 Tryz.func67 Tryz.ntmps67 [.tmp 6] ?_
 by_cases h1:e=0
 case neg =>
  have q:(e != 0)=true:=by simpa using h1
  rw [if_pos h1];exact wk1 q trivial
 have q:(e != 0)=false:=by simpa using h1
 rw [if_neg (not_not_intro h1)]
 by_cases h2:l.length=n
 case neg =>
  have q2:((l.length:Int) != (n:Int))=true:=by simp; omega
  rw [if_pos h2];exact wk1 (x2 q q2) trivial
 have q2:((l.length:Int) != (n:Int))=false:=by simp; omega
 rw [if_neg (not_not_intro h2)]
 by_cases h3:∀ x ∈ l,q0Q x
 ·rw [decide_eq_true h3] at cF;rw [if_neg (not_not_intro h3)];exact wk1 (x2 q q2) trivial
 ·rw [decide_eq_false h3] at cF;rw [if_pos h3];exact wk1 (x2 q q2) trivial
def q7g (B:Int) (l x:List Nat):Nat→List Int
 | 0=>[B]
 | m+1=>q7g B l x m ++ [-(q2D (l.getD m 0) (x.getD m 0))]
def q4h {B:Int} {l x:List Nat}:∀ m,(q7g B l x m).length=m+1
 | 0=>rfl
 | m+1=>by rw [q7g,List.length_append,q4h m]; rfl
def qcr {B:Int} {l x:List Nat} (hB:bl B.natAbs≤67600) (hl:q2X l) (hx:q2X x):∀ m,∀ y ∈ q7g B l x m,bl y.natAbs≤67600
 | 0,y,hy=>by simp [q7g] at hy; subst hy; exact hB
 | m+1,y,hy=>by
  rcases List.mem_append.1 hy with hy | hy
  ·exact qcr hB hl hx m y hy
  ·simp at hy;subst hy;rw [Int.natAbs_neg];exact (q1q (q8u hl).2 (q8u hx).2).2
def qpe {B:Int} {l x:List Nat} (hB:bl B.natAbs≤67600) (hl:q2X l) (hx:q2X x) {m:Nat} (hm:m≤500):q0b (q0v (q7g B l x m)):=by
 have h:=q5B (i:=(q7g B l x m).length) (qcr hB hl hx m) (by rw [q4h]; omega);rw [List.take_length] at h;unfold q0b; omega
def q9T {B:Int} {l x:List Nat} (hB:bl B.natAbs≤67600) (hl:q2X l) (hx:q2X x) (hlx:l.length≤x.length) (hn:l.length≤500):ACt 72 [pV B,pF l,pF x] (pV (q0v (q7g B l x l.length))):=by
 have cN:=@qe2;have hd:=qpe hB hl hx (m:=l.length) hn;have cS:=q9D (l:=q7g B l x l.length) (by rw [q4h]; omega) hd;have cZ:=qjA (V:=q0v (q7g B l x l.length));refine ac0 Tryz.func72 Tryz.ntmps72 [.cell 6 56] ?_;refine wk ?_;refine q0B (fun i=>i≤l.length) [1,2,6] [6] Lk Lk (fun i:Nat=>[(8,iv i),(7,.ow 1001 (some 4) 0 (i+1))]) (fun i=>[(1001,⟨56,some 4,(q7g B l x i).map fun V=>pV V,false⟩)]) (fun i=>l.length-i) 0 (Nat.zero_le _) ?_ ?_
 ·refine LeM [(1001,some 10)] rfl rfl ?_;refine Zz ?_;exact ⟨rfl,q0R rfl clV⟩
 ·intro i hi;have hln:=q4h (B:=B) (l:=l) (x:=x) i
  by_cases hil:i < l.length
  ·obtain ⟨u,hu⟩:∃ u,l[i]?=some u:=⟨_,List.getElem?_eq_getElem hil⟩;obtain ⟨v,hv⟩:∃ u,x[i]?=some u:=⟨_,List.getElem?_eq_getElem Oq⟩;obtain ⟨u1,u2⟩:=hl u (List.mem_of_getElem? hu);obtain ⟨v1,v2⟩:=hx v (List.mem_of_getElem? hv);have cP:=q4w u1 v1 (q04 u2) (q04 v2) (q1q u2 v2).1;refine wk1 (x3 hu hv hln) ?_;refine ⟨i+1,by omega,by omega,?_⟩;rw [q7g,getD_some hu,getD_some hv];refine LeM [(1001,some 29)] rfl rfl ?_;refine Zz ?_;exact ⟨by omega,q0R (by rw [List.map_append]; rfl) clV⟩
  ·obtain rfl:i=l.length:=by omega
   exact wk1 hln trivial
def clU {l:List Nat}:ClL (l.map fun z:Nat=>uv z):=fun x hx=>by
 obtain ⟨q,_,rfl⟩:=List.mem_map.1 hx
 trivial
def qpi {n c v:Nat} {f:Nat→Nat}:(((List.range n).map f).set c v)=(List.range n).map fun y=>if y=c then v else f y:=by
 apply List.ext_getElem?
 intro i;rw [List.getElem?_set];simp only [List.length_map,List.length_range,List.getElem?_map]
 by_cases hi:i < n
 ·rw [List.getElem?_range hi]
  by_cases hc:c=i
  ·subst hc; simp [hi]
  ·simp [hc,Ne.symm hc]
 ·rw [List.getElem?_eq_none (by simpa using hi)]
  by_cases hc:c=i <;> simp [hc]
  omega
def rwG (n:Nat) (g:Nat→Nat) (m:Nat):List Nat:=(List.range n).map fun j=>if j < m then g j else 0
def q4C {n m:Nat} {g:Nat→Nat}:(rwG n g m).length=n:=by simp [rwG]
def qfw {n m:Nat} {g:Nat→Nat}:(rwG n g m).set m (g m)=rwG n g (m+1):=by
 unfold rwG;rw [qpi];refine List.map_congr_left fun y _=>?_
 by_cases h:y=m
 ·subst h; rw [if_pos rfl,if_pos (by omega)]
 ·rw [if_neg h]
  by_cases h2:y < m
  ·rw [if_pos h2,if_pos (by omega)]
  ·rw [if_neg h2,if_neg (by omega)]
def qcn {n:Nat} {g:Nat→Nat}:List.replicate n 0=rwG n g 0:=by
 unfold rwG;simp [List.map_const']
end Go.Proofs.YtjfjjmfhfbapeaaGreatDoor
namespace Go.E
open Go Go.RowKit
section
variable {J:Nat→Prop} {h hin hw:Hp} {T1 T2:TypeId} {K:Kd} {N R n:Nat} {row row':Nat→List PV} {B B':Hp}
def q7Q (h:Hp):Hp:=fun i=>(h i).map fun b=>⟨b.T,b.k,b.xs.map fun _=>.un,false⟩
def q7R (h:Hp) (a:Nat):Hp:=fun i=>if i=a then none else h i
def SSh (h h':Hp):Prop:=∀ i b,h i=some b→∃ b',h' i=some b'∧b'.T=b.T∧b'.k=b.k∧b'.st=false∧b'.xs.length=b.xs.length
def q4u (hB:SSh B B') (hl:∀ j,(row' j).length=(row j).length):SSh (q1Y T1 T2 K N R n row B) (q1Y T1 T2 K N R n row' B'):=fun i b hb=>by
 unfold q1Y at hb ⊢
 split
 ·rename_i hi; rw [if_pos hi] at hb; cases hb; exact ⟨_,rfl,rfl,rfl,rfl,by simp⟩
 ·rename_i hi;rw [if_neg hi] at hb
  split
  ·rename_i hj; rw [if_pos hj] at hb; cases hb; exact ⟨_,rfl,rfl,rfl,rfl,hl _⟩
  ·rename_i hj; rw [if_neg hj] at hb; exact hB i b hb
def qtA {i:Nat} {b b':Bk} (hB:SSh B B') (h1:b'.T=b.T) (h2:b'.k=b.k) (h3:b'.st=false) (h4:b'.xs.length=b.xs.length):SSh (q0O B i b) (q0O B' i b'):=fun j c hc=>by
 unfold q0O at hc ⊢
 split
 ·rename_i hj; rw [if_pos hj] at hc; cases hc; exact ⟨_,rfl,h1,h2,h3,h4⟩
 ·rename_i hj; rw [if_neg hj] at hc; exact hB j c hc
def SSh_0:SSh h0 B:=fun _ _ h=>by cases h
def LeUnk {l:List PV} {v:Value} (hq:Wn h hw) (hin':∀ i b,hin i=some b→win i) (hs:SSh hin hw) (hx:mkR l=.vl v):Le J (fun _=>mkR l) h (fun _=>.vl v) (q7Q hin):=by
 refine q4d some (fun i b hb=>?_) (fun i j k b c _ _ ti tj=>by cases ti; cases tj; rfl) (fun _=>by rw [hx]; exact .cl trivial) fun _ _ _ _=>rfl;unfold q7Q at hb;obtain ⟨c,hc,rfl⟩:=Option.map_eq_some_iff.1 hb;obtain ⟨b',h1,h2,h3,h4,h5⟩:=hs i c hc;unfold LeB;exact ⟨b',(hq i (hin' i c hc)).trans h1,h2.symm,h3.symm,⟨rfl,h4⟩,by simp [h5],fun j x y _ hy=>by
  rw [List.getElem?_map] at hy;cases hcj:c.xs[j]? with
  | none=>rw [hcj] at hy; cases hy
  | some z=>rw [hcj] at hy; cases hy; exact .un⟩
def rwP (n:Nat) (g:Nat→PV) (m:Nat):List PV:=(List.range n).map fun c=>if c < m then g c else .un
def qcm {g:Nat→PV} {m:Nat}:(rwP n g m).length=n:=by simp [rwP]
def qkv {g:Nat→PV} {m i:Nat} (hi:i < m) (hm:m≤n):(rwP n g m)[i]?=some (g i):=by
 unfold rwP;rw [List.getElem?_map,List.getElem?_range (by omega),Option.map_some,if_pos hi]
def rwP_s {g:Nat→PV} {m:Nat}:(rwP n g m).set m (g m)=rwP n g (m+1):=by
 unfold rwP
 apply List.ext_getElem?
 intro i;rw [List.getElem?_set];simp only [List.length_map,List.length_range,List.getElem?_map]
 by_cases hi:i < n
 ·rw [List.getElem?_range hi]
  by_cases hc:m=i
  ·subst hc; simp [hi]
  ·rw [if_neg hc,Option.map_some,Option.map_some]
   by_cases h2:i < m
   ·rw [if_pos h2,if_pos (by omega)]
   ·rw [if_neg h2,if_neg (by omega)]
 ·rw [List.getElem?_eq_none (by simpa using hi)]
  by_cases hc:m=i <;> simp [hc]
  omega
def rwP_u {g:Nat→PV} {m:Nat} (h:g m=.un):rwP n g m=rwP n g (m+1):=by
 unfold rwP;refine List.map_congr_left fun y _=>?_
 by_cases h2:y < m
 ·rw [if_pos h2,if_pos (by omega)]
 ·rw [if_neg h2]
  by_cases h3:y=m
  ·subst h3; rw [if_pos (by omega),h]
  ·rw [if_neg (by omega)]
def q1o {g:Nat→PV} {m:Nat} (h:∀ c,Cld (g c)):ClL (rwP n g m):=fun x hx=>by
 obtain ⟨c,_,rfl⟩:=List.mem_map.1 hx
 split
 ·exact h c
 ·trivial
def qli {i j R':Nat} {b:Bk} (hne:j+R'≠i+R):q0O h (i+R) b (j+R')=h (j+R'):=q0A hne
attribute [go_sem ↓ 2000] qli
end
end Go.E
namespace Go.Proofs.YtjfjjmfhfbapeaaGreatDoor
open Go Go.E Go.Sp
def inZ (z:Int):Int:=(mkV z 0).getD 0
def inZK {z:Int} {K:Nat} (hK:K=65536) (hz:z.natAbs < 9007199254740992):mkV z 0=some (z*(2:Int) ^ K):=by
 have h1:bl z.natAbs≤53:=q0N Oq;have h:=q7l (m:=z) (E:=0) Oq Oq;rw [h,show ((0:Int)+65536).toNat=K by omega]
def qjP {z:Int} (hz:z.natAbs < 9007199254740992):mkV z 0=some (inZ z):=by
 unfold inZ;rw [inZK rfl hz]; rfl
def mulI {z W:Int} (hz:z.natAbs < 9007199254740992) (hW:bl W.natAbs≤67600):mkV (inZ z*W) (-131072)=some (z*W):=by
 obtain ⟨K,hK⟩:∃ K,K=65536:=⟨_,rfl⟩;unfold inZ;rw [inZK hK hz,Option.getD_some,show z*(2:Int) ^ K*W=z*W*(2:Int) ^ K by simp only [Int.mul_assoc,Int.mul_comm,Int.mul_left_comm],q2K,show (-131072:Int)+K = -65536 by omega];refine q2o ?_;unfold q0b;have h1:bl z.natAbs≤53:=q0N Oq;have:=q3j z.natAbs W.natAbs;rw [Int.natAbs_mul];omega
def q9U {A B:Int}:ACt 157 [pV A,pV B] (bv (decide (A < B))):=by
 have cC:=qmX (A:=A) (B:=B);have es:decide ((A-B).sign < 0)=decide (A < B):=by
  congr 1
  rw [Int.sign_neg_iff];exact propext ⟨fun h=>by omega,fun h=>by omega⟩
 refine ac0 Tryz.func157 Tryz.ntmps157 [.tmp 4] ?_;exact wk1 es trivial
def qa3 (g:Nat→Nat→Bool) (r c:Nat) (v:Bool):Nat→Nat→Bool:=fun x y=>if x=r∧y=c then v else g x y
section
open Classical
variable (F:Nat→Nat→Option Nat) (mi:List Int) (n:Nat) (S:LuS) (j k num den:Nat)
noncomputable def upS:Nat→Option LuS
 | 0=>some S
 | m+1=>(upS m).bind fun q=>if q0Q (fR 0 (luZ F q.l q.u (S.rows.getD m 0) j k m)) then some { q with u:=q3S q.u m k (fR 0 (luZ F q.l q.u (S.rows.getD m 0) j k m)),iU:=qa3 q.iU m k (decide (luZ F q.l q.u (S.rows.getD m 0) j k m≠0)) } else none
noncomputable def rsZ (i:Nat):Int:=luZ F S.l S.u i j k k
noncomputable def rsV (i:Nat):Nat:=if i ∈ S.rows then 0 else fR 0 (rsZ F S j k i)
end
section
variable (v:Nat→Nat) (S:LuS) (mi:List Int) (num den:Nat) (w:Int)
def abZ (x:Nat):Int:=((ofZ x).natAbs:Int)
def mxZ:Nat→Int
 | 0=>0
 | i+1=>if mxZ i < abZ (v i) then abZ (v i) else mxZ i
def bsP:Nat→Int
 | 0 => -1
 | i+1=>if i ∈ S.rows∨(v i=0∨v i=9223372036854775808)∨(den:Int)*abZ (v i) < num*w then bsP i else if bsP i < 0∨q4s mi i < q4s mi (bsP i).toNat then (i:Int) else bsP i
end
section
open Classical
variable (F:Nat→Nat→Option Nat) (mi:List Int) (n:Nat) (S:LuS) (j k num den:Nat)
noncomputable def loS (z:Nat→Int) (d:Int):Nat→Option LuS
 | 0=>some S
 | i+1=>(loS z d i).bind fun q=>if i ∈ S.rows then some q else if q0Q (qfR 0 (z i) d) then some { q with l:=q3S q.l i k (qfR 0 (z i) d),iL:=qa3 q.iL i k (decide (z i≠0)) } else none
noncomputable def pvS (v:Nat→Nat) (p:Nat):LuS:={ S with rows:=S.rows ++ [p],u:=q3S S.u k k (v p),iU:=qa3 S.iU k k true }
noncomputable def colG (q:LuS):Int × LuS :=
 if ∀ i,i < n→q0Q (rsV F q j k i) then
  (if bsP (rsV F q j k) q mi num den (mxZ (rsV F q j k) n) n < 0 then (9,S) else
   match loS (pvS q k (rsV F q j k) (bsP (rsV F q j k) q mi num den (mxZ (rsV F q j k) n) n).toNat) k (rsZ F q j k) (ofZ (rsV F q j k (bsP (rsV F q j k) q mi num den (mxZ (rsV F q j k) n) n).toNat)) n with
   | none=>(233,S)
   | some r=>(0,r))
 else (233,S)
noncomputable def q5g:Int × LuS:=match upS F S j k k with
 | none=>(233,S)
 | some q=>colG F mi n S j k num den q
end
structure LUt where
 rows:List Int
 cols:List Int
 ls:List Int
 li:List Int
 lv:List Nat
 us:List Int
 ui:List Int
 uv:List Nat
def pLU (f:LUt):PV:=.ag [pI f.rows,pI f.cols,pI f.ls,pI f.li,pF f.lv,pI f.us,pI f.ui,pF f.uv]
def q7T (l:List Int):Prop:=∀ (i:Nat) (x y:Int),l[i]?=some x→l[i+1]?=some y→x < y
structure CmpOk (n:Nat) (st ix:List Int) (G:Nat→List Int→Prop):Prop where
 c0:st[0]?=some 0
 cn:st[n]?=some (ix.length:Int)
 col:∀ j,j < n→∃ a b:Nat,st[j]?=some (a:Int)∧st[j+1]?=some (b:Int)∧a≤b∧b≤ix.length∧q7T ((ix.take b).drop a)∧G j ((ix.take b).drop a)
def LoC (n k:Nat) (l:List Int):Prop:=(∀ z,l[0]?=some z→(k:Int) < z)∧∀ z,l[l.length-1]?=some z→z < n
def UpC (k:Nat) (l:List Int):Prop:=(∀ z,l[0]?=some z→0≤z)∧l[l.length-1]?=some (k:Int)
def qak (f:LUt):Prop:=CmpOk f.rows.length f.ls f.li (LoC f.rows.length)∧CmpOk f.rows.length f.us f.ui UpC
def UDg (n:Nat) (us:List Int) (vs:List Nat):Prop:=∀ k,k < n→∀ (a x:Nat),us[k+1]?=some ((a+1:Nat):Int)→vs[a]?=some x→ofZ x≠0
open Classical in
noncomputable def q7S (f:LUt):Int :=
 if f.rows.length > 200 then 6 else if ¬ (q2C f.rows f.rows.length∧q2C f.cols f.rows.length) then 90
 else if ¬ (f.ls.length=f.rows.length+1∧f.us.length=f.rows.length+1∧f.li.length=f.lv.length∧f.ui.length=f.uv.length) then 2
 else if ¬ qak f then 240 else if (∀ x ∈ f.lv,q0Q x)∧(∀ x ∈ f.uv,q0Q x)∧UDg f.rows.length f.us f.uv then 0 else 4
structure LUb (f:LUt):Prop where
 rows:f.rows.length≤1000000
 cols:f.cols.length≤1000000
 ls:f.ls.length≤1000000
 li:f.li.length≤1000000
 lv:f.lv.length≤1000000
 us:f.us.length≤1000000
 ui:f.ui.length≤1000000
 uv:f.uv.length≤1000000
 hl:∀ x ∈ f.lv,x < 18446744073709551616
 hu:∀ x ∈ f.uv,x < 18446744073709551616
def CmpOk.ptr {n:Nat} {st ix:List Int} {G:Nat→List Int→Prop} (h:CmpOk n st ix G):PtrOk n st ix.length:=⟨h.c0,h.cn,fun i hi x y hx hy=>by
 obtain ⟨a,b,h1,h2,h3,_⟩:=h.col i hi;have h4:=Option.some.inj (hx.symm.trans h1);have h5:=Option.some.inj (hy.symm.trans h2);omega⟩
open Classical in
def qaD {l:List Int} {n:Nat} (hl:n≤1000000):ACt 118 [pI l,iv n] (bv (decide (q2C l n))):=by
 by_cases hln:l.length=n
 case neg =>
  have q:((l.length:Int) != (n:Int))=true:=by simp; omega
  rw [decide_eq_false fun h=>hln (by have:=h.1; omega)];refine ac0 Tryz.func118 Tryz.ntmps118 [.tmp 4] ?_;exact wk1 q trivial
 subst hln;have q:((l.length:Int) != (l.length:Int))=false:=by simp
 refine ac0 Tryz.func118 Tryz.ntmps118 [.tmp 4] ?_;refine wk1 q ?_;refine q0B (fun i=>i≤l.length∧(∀ x ∈ l.take i,0≤x∧x < l.length)∧(l.take i).Nodup) [0,1,14,15] [] Lk Lk (fun i:Nat=>[(16,iv i),(5,.ow 1001 none 0 l.length)]) (fun i=>[(1001,⟨4,none,(q41 l i).map fun z=>bv z,false⟩)]) (fun i=>l.length-i) 0 ⟨Nat.zero_le _,by simp,by simp⟩ ?_ ?_
 ·refine LeM [(1001,some 13)] rfl rfl ?_;refine Zz ?_;exact ⟨rfl,qck⟩
 ·rintro i ⟨hi,hr,hd⟩
  by_cases hlt:i < l.length
  ·have hlt':(i:Int) < l.length:=by omega
   obtain ⟨x,hx⟩:∃ x,l[i]?=some x:=⟨_,List.getElem?_eq_getElem hlt⟩;have hmem:=List.mem_of_getElem? hx;have ht:=q2H hx;refine wk1 (x2 hlt' hx) ?_
   by_cases hx0:x < 0
   ·refine wk1 hx0 ?_;exact (decide_eq_false fun h=>by have:=(h.2.1 x hmem).1; omega).symm
   ·obtain ⟨k,rfl⟩:∃ k:Nat,x=k:=⟨x.toNat,by omega⟩
    by_cases hxn:(l.length:Int)≤k
    ·refine wk1 (x2 hx0 hxn) ?_;exact (decide_eq_false fun h=>by have:=(h.2.1 _ hmem).2; omega).symm
    ·have hk:k < l.length:=by omega
     have hs:=q67 (i:=i) hk
     by_cases hm:(k:Int) ∈ l.take i
     ·refine wk1 (x4 hx0 hxn hs hm) ?_;refine (decide_eq_false fun h=>?_).symm;have:=(h.2.2.sublist (List.take_sublist (i+1) l));rw [ht,List.nodup_append] at this;exact this.2.2 _ hm _ (by simp) rfl
     ·refine wk1 (x6 hx0 hxn hs hm hx @q66) ?_;refine ⟨i+1,⟨by omega,?_,?_⟩,by omega,?_⟩
      ·rw [ht];intro y hy
       rcases List.mem_append.1 hy with hy | hy
       ·exact hr y hy
       ·simp at hy; subst hy; omega
      ·rw [ht,List.nodup_append];exact ⟨hd,by simp,fun a ha b hb=>by simp at hb; subst hb; exact fun e=>hm (e ▸ ha)⟩
      ·refine LeM [] rfl rfl ?_;refine Zz ?_;exact ⟨by omega,q65 hx⟩
  ·have hlt':¬ (i:Int) < l.length:=by omega
   refine wk1 hlt' ?_;have hil:i=l.length:=by omega
   rw [hil,List.take_length] at hr hd;exact (decide_eq_true ⟨rfl,hr,hd⟩).symm
open Classical in
def qd9 {st ix:List Int} {n:Nat} {G:Nat→List Int→Prop} {fv:PV} {f:FuncId} {ys:List PV} (hst:st.length=n+1) (hn:n≤200) (hix:ix.length≤1000000) (hv:FnP fv f ys) (hcv:Cld fv)
  (hcl:∀ (h:Hp) (k:Nat) (col:List Int),q23 h ([iv k,pI col] ++ ys)=some ([iv k,pI col] ++ ys,[]))
  (hf:∀ (k:Nat) (col:List Int),k < n→col.length≤1000000→ACt f ([iv k,pI col] ++ ys) (bv (decide (G k col)))):ACt 188 [pI st,pI ix,iv n,fv] (bv (decide (CmpOk n st ix G))):=by
 obtain ⟨res,hres⟩:∃ res,res=decide (CmpOk n st ix G):=⟨_,rfl⟩;rw [← hres];have rF:¬ CmpOk n st ix G→res=false:=fun h=>by rw [hres]; exact decide_eq_false h
 have rT:CmpOk n st ix G→res=true:=fun h=>by rw [hres]; exact decide_eq_true h
 clear hres;obtain ⟨x0,hx0⟩:∃ x,st[0]?=some x:=⟨_,List.getElem?_eq_getElem Oq⟩;obtain ⟨xn,hxn⟩:∃ x,st[n]?=some x:=⟨_,List.getElem?_eq_getElem Oq⟩;refine ac0 Tryz.func188 Tryz.ntmps188 [.tmp 8] ?_
 by_cases h0:x0=0
 case neg =>
  have e1:(x0 != 0)=true:=by simpa using h0
  refine wk1 (x2 hx0 e1) ?_;rw [rF fun h=>h0 (Option.some.inj (hx0.symm.trans h.c0))]
 subst h0;have e1:((0:Int) != 0)=false:=rfl
 by_cases hn0:xn=ix.length
 case neg =>
  have e2:(xn != (ix.length:Int))=true:=by simpa using hn0
  refine wk1 (x4 hx0 e1 hxn e2) ?_;rw [rF fun h=>hn0 (Option.some.inj (hxn.symm.trans h.cn))]
 subst hn0;have e2:((ix.length:Int) != (ix.length:Int))=false:=by simp
 refine wk1 (x4 hx0 e1 hxn e2) ?_;refine q0B (fun j=>j≤n∧(∃ a:Nat,st[j]?=some (a:Int))∧∀ j',j' < j→∃ a b:Nat,st[j']?=some (a:Int)∧st[j'+1]?=some (b:Int)∧a≤b∧b≤ix.length∧q7T ((ix.take b).drop a)∧G j' ((ix.take b).drop a)) [0,1,3,25] [] Lk Lk (fun j:Nat=>[(26,iv j)]) (fun _=>[]) (fun j=>n-j) 0 ⟨Nat.zero_le _,⟨0,hx0⟩,by omega⟩ ?_ ?_
 ·refine LeM [] rfl rfl ?_;refine Zz ?_;exact ⟨rfl,.cl hcv⟩
 ·rintro j ⟨hj,⟨a,ha⟩,hr⟩
  by_cases hlt:j < n
  ·have hlt':(j:Int) < n:=by omega
   obtain ⟨y,hy⟩:∃ y,st[j+1]?=some y:=⟨_,List.getElem?_eq_getElem Oq⟩;have w1:IntKind.i64.wrap ((j:Int)+1)=((j+1:Nat):Int):=by rw [i64_in (by omega) (by omega)]; omega
   have bad:(∀ b:Nat,y=b→a≤b→b≤ix.length→¬ (q7T ((ix.take b).drop a)∧G j ((ix.take b).drop a)))→res=false:=fun h=>rF fun hS=>by
    obtain ⟨a',b',h1,h2,h3,h4,h5⟩:=hS.col j hlt;rw [ha] at h1; rw [hy] at h2;have:a'=a:=by have:=Option.some.inj h1; omega
    subst this;exact h b' (Option.some.inj h2) h3 h4 h5
   refine wk1 hlt' ?_
   by_cases hay:(a:Int) > y
   ·refine wk1 (x4 ha hy w1 hay) ?_;rw [bad fun b hb h1 _=>by omega]
   by_cases hyr:y > (ix.length:Int)
   ·refine wk1 (x5 ha hy w1 hay hyr) ?_;rw [bad fun b hb _ h1=>by omega]
   obtain ⟨b,rfl⟩:∃ b:Nat,y=b:=⟨y.toNat,by omega⟩;have bad2:¬ (q7T ((ix.take b).drop a)∧G j ((ix.take b).drop a))→res=false:=fun h=>bad fun b' hb _ _=>by
    have:b'=b:=by omega
    subst this; exact h
   clear bad;refine wk1 (x5 ha hy w1 hay hyr) ?_;have es:slP (some 1) (some (iv (a:Int))) (some (iv (b:Int))) (pI ix)=some (pI ((ix.take b).drop a)):=by
    simp [slP,q8J,ksz,List.map_take,List.map_drop];omega
   have hcl2:((ix.take b).drop a).length=b-a:=by simp; omega
   generalize hcol:(ix.take b).drop a=col at bad2 es hcl2;refine wk1 (x4 ha hy w1 es) ?_;refine q0B (fun i=>1≤i∧(i=1∨i≤col.length)∧∀ (k:Nat) (x y:Int),k+1 < i→col[k]?=some x→col[k+1]?=some y→x < y) [0,1,3,9,10,25,26] [] Lk Lk (fun i:Nat=>[(11,iv i)]) (fun _=>[]) (fun i=>col.length-i) 1 ⟨Nat.le_refl _,.inl rfl,by omega⟩ ?_ ?_
   ·refine LeM [] rfl rfl ?_;refine Zz ?_;exact ⟨rfl,.cl hcv⟩
   ·rintro i ⟨hi1,hi2,hm⟩
    by_cases hil:i < col.length
    ·have hil':(i:Int) < col.length:=by omega
     obtain ⟨x,hx⟩:∃ x,col[i-1]?=some x:=⟨_,List.getElem?_eq_getElem Oq⟩;obtain ⟨y,hy2⟩:∃ x,col[i]?=some x:=⟨_,List.getElem?_eq_getElem Oq⟩;have wi:IntKind.i64.wrap ((i:Int)-1)=((i-1:Nat):Int):=by rw [i64_in (by omega) (by omega)]; omega
     have wj:IntKind.i64.wrap ((i:Int)+1)=((i+1:Nat):Int):=by rw [i64_in (by omega) (by omega)]; omega
     refine wk1 hil' ?_
     by_cases hxy:y≤x
     ·refine wk1 (x4 hx hy2 wi hxy) ?_;rw [bad2 fun h=>by
       have:=h.1 (i-1) x y hx (by rw [show i-1+1=i by omega]; exact hy2);omega]
     ·refine wk1 (x5 hx hy2 wi hxy wj) ?_;refine ⟨i+1,⟨by omega,by omega,?_⟩,by omega,?_⟩
      ·intro k u v hk hu hv
       by_cases hki:k+1 < i
       ·exact hm k u v hki hu hv
       ·obtain rfl:k=i-1:=by omega
        rw [show i-1+1=i by omega] at hv;have h1:=Option.some.inj (hx.symm.trans hu);have h2:=Option.some.inj (hy2.symm.trans hv);omega
      ·refine LeM [] rfl rfl ?_;refine Zz ?_;exact .cl hcv
    ·have hil':¬ (i:Int) < col.length:=by omega
     have hA:q7T col:=fun k u v hu hv=>by
      have hk:k+1 < col.length:=(List.getElem?_eq_some_iff.1 hv).1;exact hm k u v Oq hu hv
     have C1:=hf j col hlt Oq;refine wk1 (x2 hil' w1) ?_;refine qfU fun K hK=>?_;refine Zz ?_;refine qaR hv ?_;rw [hcl];refine q0P C1 ?_
     try refine Zz ?_
     refine hK _ _ ?_; clear hK K
     by_cases hG:G j col
     ·rw [decide_eq_true hG];refine wk1 w1 ?_;refine ⟨j+1,⟨by omega,⟨b,hy⟩,?_⟩,by omega,?_⟩
      ·intro j' hj'
       by_cases hjj:j' < j
       ·exact hr j' hjj
       ·obtain rfl:j'=j:=by omega
        refine ⟨a,b,ha,hy,by omega,by omega,?_⟩;rw [hcol];exact ⟨hA,hG⟩
      ·refine LeM [] rfl rfl ?_;refine Zz ?_;exact .cl hcv
     ·rw [decide_eq_false hG];refine wk ?_;rw [bad2 fun h=>hG h.2]
  ·have hlt':¬ (j:Int) < n:=by omega
   obtain rfl:n=j:=by omega
   refine wk1 hlt' ?_;exact (rT ⟨hx0,hxn,hr⟩).symm
open Classical in
def qg6 {n k:Nat} {l:List Int} (hl:l.length≤1000000):ACt 186 [iv k,pI l,.qt none (iv n)] (bv (decide (LoC n k l))):=by
 by_cases h0:l.length=0
 ·have q:((l.length:Int) == 0)=true:=by simp [h0]
  rw [decide_eq_true (p:=LoC n k l) ⟨fun z hz=>(by rw [List.getElem?_eq_none (by omega)] at hz; cases hz),fun z hz=>(by rw [List.getElem?_eq_none (by omega)] at hz; cases hz)⟩];refine ac0 Tryz.func186 Tryz.ntmps186 [.tmp 5] ?_;exact wk1 q trivial
 have q:((l.length:Int) == 0)=false:=by simpa using h0
 obtain ⟨x,hx⟩:∃ x,l[0]?=some x:=⟨_,List.getElem?_eq_getElem Oq⟩;obtain ⟨y,hy⟩:∃ x,l[l.length-1]?=some x:=⟨_,List.getElem?_eq_getElem Oq⟩;have wi:IntKind.i64.wrap ((l.length:Int)-1)=((l.length-1:Nat):Int):=by rw [i64_in (by omega) (by omega)]; omega
 have e:decide (LoC n k l)=decide ((k:Int) < x∧y < n):=decide_eq_decide.2 ⟨fun h=>⟨h.1 x hx,h.2 y hy⟩,fun h=>⟨fun z hz=>by rw [hx] at hz; cases hz; exact h.1,fun z hz=>by rw [hy] at hz; cases hz; exact h.2⟩⟩;rw [e]
 by_cases h1:x > (k:Int)
 case neg =>
  rw [decide_eq_false fun h=>h1 h.1];refine ac0 Tryz.func186 Tryz.ntmps186 [.tmp 5] ?_;exact wk1 (x3 q hx h1) trivial
 by_cases h2:y < (n:Int)
 ·rw [decide_eq_true ⟨h1,h2⟩];refine ac0 Tryz.func186 Tryz.ntmps186 [.tmp 5] ?_;exact wk1 (x6 q hx h1 wi hy h2) trivial
 ·rw [decide_eq_false fun h=>h2 h.2];refine ac0 Tryz.func186 Tryz.ntmps186 [.tmp 5] ?_;exact wk1 (x6 q hx h1 wi hy h2) trivial
open Classical in
def qg5 {k:Nat} {l:List Int} (hl:l.length≤1000000):ACt 187 [iv k,pI l] (bv (decide (UpC k l))):=by
 by_cases h0:l.length=0
 ·have q:¬ (l.length:Int) > 0:=by omega
  rw [decide_eq_false (p:=UpC k l) fun h=>by have:=h.2; rw [List.getElem?_eq_none (by omega)] at this; cases this];refine ac0 Tryz.func187 Tryz.ntmps187 [.tmp 4] ?_;exact wk1 q trivial
 have q:(l.length:Int) > 0:=by omega
 obtain ⟨x,hx⟩:∃ x,l[0]?=some x:=⟨_,List.getElem?_eq_getElem Oq⟩;obtain ⟨y,hy⟩:∃ x,l[l.length-1]?=some x:=⟨_,List.getElem?_eq_getElem Oq⟩;have wi:IntKind.i64.wrap ((l.length:Int)-1)=((l.length-1:Nat):Int):=by rw [i64_in (by omega) (by omega)]; omega
 have e:decide (UpC k l)=decide (0≤x∧y=k):=decide_eq_decide.2 ⟨fun h=>⟨h.1 x hx,Option.some.inj (hy.symm.trans h.2)⟩,fun h=>⟨fun z hz=>by rw [hx] at hz; cases hz; exact h.1,by rw [hy,h.2]⟩⟩;rw [e]
 by_cases h1:0≤x
 case neg =>
  rw [decide_eq_false fun h=>h1 h.1];refine ac0 Tryz.func187 Tryz.ntmps187 [.tmp 4] ?_;exact wk1 (x3 q hx h1) trivial
 by_cases h2:y=k
 ·have q2:(y == (k:Int))=true:=by simp [h2]
  rw [decide_eq_true ⟨h1,h2⟩];refine ac0 Tryz.func187 Tryz.ntmps187 [.tmp 4] ?_;exact wk1 (x6 q hx h1 wi hy q2) trivial
 ·have q2:(y == (k:Int))=false:=by simpa using h2
  rw [decide_eq_false fun h=>h2 h.2];refine ac0 Tryz.func187 Tryz.ntmps187 [.tmp 4] ?_;exact wk1 (x6 q hx h1 wi hy q2) trivial
open Classical in
def ql3 {f:LUt} (hb:LUb f) (hn:f.rows.length≤200) (h1:f.ls.length=f.rows.length+1) (h2:f.us.length=f.rows.length+1):ACt 119 [pLU f] (bv (decide (qak f))):=by
 have q1:∀ (h:Hp) (k:Nat) (col:List Int),q23 h ([iv k,pI col] ++ [.qt none (iv f.rows.length)])=some ([iv k,pI col] ++ [.qt none (iv f.rows.length)],[]):=fun h k col=>by
  simp only [List.cons_append,List.nil_append]
  try simp -implicitDefEqProofs (disch:=omega) only [go_sem,Nat.reduceEqDiff,Nat.reduceAdd,↓reduceIte]
 have q2:∀ (h:Hp) (k:Nat) (col:List Int),q23 h ([iv k,pI col] ++ [])=some ([iv k,pI col] ++ [],[]):=fun h k col=>by
  simp only [List.append_nil]
  try simp -implicitDefEqProofs (disch:=omega) only [go_sem,Nat.reduceEqDiff,Nat.reduceAdd,↓reduceIte]
 have C1:=qd9 (G:=LoC f.rows.length) h1 hn hb.li (FnP_f (f:=186) (z:=(f.rows.length:Int))) trivial q1 (fun k col hk hc=>qg6 hc);have C2:=qd9 (G:=UpC) h2 hn hb.ui (qto (f:=187)) trivial q2 (fun k col hk hc=>qg5 hc);clear q1 q2;have eT:CmpOk f.rows.length f.ls f.li (LoC f.rows.length)→CmpOk f.rows.length f.us f.ui UpC→decide (qak f)=true:=fun a b=>decide_eq_true ⟨a,b⟩;have eA:¬ CmpOk f.rows.length f.ls f.li (LoC f.rows.length)→decide (qak f)=false:=fun a=>decide_eq_false fun h=>a h.1;have eB:¬ CmpOk f.rows.length f.us f.ui UpC→decide (qak f)=false:=fun a=>decide_eq_false fun h=>a h.2;unfold pLU;generalize CmpOk f.rows.length f.ls f.li (LoC f.rows.length)=A at *;generalize CmpOk f.rows.length f.us f.ui UpC=B at *;generalize decide (qak f)=res at *;refine ac0 Tryz.func119 Tryz.ntmps119 [.tmp 2] ?_;refine wk ?_;refine q1a (LeM [] rfl rfl (xs:=[(1,.pt 1 0 0),(3,.qt none (iv f.rows.length))]) (kv:=[]) (bs:=[(1,⟨26,some 8,[.ag [pI f.rows,pI f.cols,pI f.ls,pI f.li,pF f.lv,pI f.us,pI f.ui,pF f.uv]],false⟩)]) (kb:=[]) ?_) ?_
 ·try refine Zz ?_
  exact .pq rfl rfl rfl rfl fun i hi=>by unfold q0z at hi; cases hi; rfl
 by_cases a:A
 ·rw [decide_eq_true a] at C1
  by_cases b:B
  ·rw [decide_eq_true b] at C2;rw [eT a b];exact wk trivial
  ·rw [decide_eq_false b] at C2;rw [eB b];exact wk trivial
 ·rw [decide_eq_false a] at C1;rw [eA a];exact wk trivial
def q7T.lt {l:List Int} (h:q7T l):∀ (d i:Nat) (x y:Int),l[i]?=some x→l[i+(d+1)]?=some y→x < y
 | 0,i,x,y,hx,hy=>h i x y hx hy
 | d+1,i,x,y,hx,hy=>by
  have hl:=(List.getElem?_eq_some_iff.1 hy).1;obtain ⟨z,hz⟩:∃ z,l[i+(d+1)]?=some z:=⟨_,List.getElem?_eq_getElem Oq⟩;have h1:=h.lt d i x z hx hz;have h2:=h _ z y hz (by rw [show i+(d+1)+1=i+(d+1+1) by omega]; exact hy);omega
def q7T.le {l:List Int} (h:q7T l) {i j:Nat} {x y:Int} (hij:i≤j) (hx:l[i]?=some x) (hy:l[j]?=some y):x≤y:=by
 by_cases hj:i=j
 ·subst hj; rw [hx] at hy; cases hy; exact Int.le_refl _
 ·have:=h.lt (j-i-1) i x y hx (by rw [show i+(j-i-1+1)=j by omega]; exact hy);omega
def qd2 {n k:Nat} {l:List Int} (h:q7T l):LoC n k l ↔ ∀ (i:Nat) (z:Int),l[i]?=some z→(k:Int) < z∧z < n:=by
 refine ⟨fun hc i z hz=>?_,fun hc=>⟨fun z hz=>(hc _ z hz).1,fun z hz=>(hc _ z hz).2⟩⟩;have hi:=(List.getElem?_eq_some_iff.1 hz).1;obtain ⟨x,hx⟩:∃ x,l[0]?=some x:=⟨_,List.getElem?_eq_getElem Oq⟩;obtain ⟨y,hy⟩:∃ x,l[l.length-1]?=some x:=⟨_,List.getElem?_eq_getElem Oq⟩;have h1:=hc.1 x hx;have h2:=hc.2 y hy;have h3:=h.le (Nat.zero_le i) hx hz;have h4:=h.le (show i≤l.length-1 by omega) hz hy;omega
def qcK {k:Nat} {l:List Int} (h:q7T l):UpC k l ↔ (∀ (i:Nat) (z:Int),l[i]?=some z→0≤z∧z≤k)∧l[l.length-1]?=some (k:Int):=by
 refine ⟨fun hc=>⟨fun i z hz=>?_,hc.2⟩,fun hc=>⟨fun z hz=>(hc.1 _ z hz).1,hc.2⟩⟩;have hi:=(List.getElem?_eq_some_iff.1 hz).1;obtain ⟨x,hx⟩:∃ x,l[0]?=some x:=⟨_,List.getElem?_eq_getElem Oq⟩;have h1:=hc.1 x hx;have h3:=h.le (Nat.zero_le i) hx hz;have h4:=h.le (show i≤l.length-1 by omega) hz hc.2;omega
def qjo (P:Int→Prop) (ix:List Int) (a c:Nat):Prop:=∀ p,a≤p→p < c→∃ z,ix[p]?=some z∧P z∧(a < p→∃ y,ix[p-1]?=some y∧y < z)
def q4r {P:Int→Prop} {ix:List Int} {a b:Nat} (hb:b≤ix.length):qjo P ix a b ↔ q7T ((ix.take b).drop a)∧∀ (i:Nat) (z:Int),((ix.take b).drop a)[i]?=some z→P z:=by
 have hl:((ix.take b).drop a).length=b-a:=by simp; omega
 refine ⟨fun h=>⟨fun i x y hx hy=>?_,fun i z hz=>?_⟩,fun ⟨h1,h2⟩ p hp hc=>?_⟩
 ·have:=(List.getElem?_eq_some_iff.1 hy).1;rw [q1I (by omega)] at hx hy;obtain ⟨z,q1,_,q3⟩:=h (a+(i+1)) Oq Oq;obtain ⟨u,q4,q5⟩:=q3 Oq;rw [show a+(i+1)-1=a+i by omega,hx] at q4;rw [hy] at q1;cases q1; cases q4; exact q5
 ·have:=(List.getElem?_eq_some_iff.1 hz).1;rw [q1I (by omega)] at hz;obtain ⟨z',q1,q2,_⟩:=h (a+i) Oq Oq;rw [hz] at q1; cases q1; exact q2
 ·obtain ⟨z,hz⟩:∃ z,ix[p]?=some z:=⟨_,List.getElem?_eq_getElem Oq⟩;refine ⟨z,hz,h2 (p-a) z (by rw [q1I (by omega),show a+(p-a)=p by omega]; exact hz),fun hap=>?_⟩;obtain ⟨y,hy⟩:∃ z,ix[p-1]?=some z:=⟨_,List.getElem?_eq_getElem Oq⟩;exact ⟨y,hy,h1 (p-1-a) y z (by rw [q1I (by omega),show a+(p-1-a)=p-1 by omega]; exact hy) (by rw [q1I (by omega),show a+(p-1-a+1)=p by omega]; exact hz)⟩
def qjo.stp {P:Int→Prop} {ix:List Int} {a c:Nat} {x:Int} (h:qjo P ix a c) (hx:ix[c]?=some x) (hP:P x) (hq:a < c→∃ y,ix[c-1]?=some y∧y < x):qjo P ix a (c+1):=fun p h1 h2=>by
 by_cases hpc:p < c
 ·exact h p h1 hpc
 ·obtain rfl:p=c:=by omega
  exact ⟨x,hx,hP,hq⟩
open Classical in
def qjy {f:LUt} (hb:LUb f) (hn:f.rows.length≤200) (h1:f.ls.length=f.rows.length+1) (h2:f.us.length=f.rows.length+1):ACt 135 [pLU f] (bv (decide (qak f))):=by
 obtain ⟨res,hres⟩:∃ res,res=decide (qak f):=⟨_,rfl⟩;rw [← hres];have rF:¬ qak f→res=false:=fun h=>by rw [hres]; exact decide_eq_false h
 have rT:qak f→res=true:=fun h=>by rw [hres]; exact decide_eq_true h
 clear hres;unfold qak at rF rT;have hli:=hb.li;have hui:=hb.ui;have cL:=qdD (cp:=f.ls) (n:=f.rows.length) (m:=f.li.length) Oq h1;have cU:=qdD (cp:=f.us) (n:=f.rows.length) (m:=f.ui.length) Oq h2;unfold pLU;obtain ⟨rows,cols,ls,li,lv,us,ui,uv⟩:=f;clear hb;dsimp only at *;generalize hN:rows.length=n at *;refine ac0 Tryz.func135 Tryz.ntmps135 [.tmp 2] ?_
 by_cases h6:PtrOk n ls li.length
 case neg =>
  rw [decide_eq_false h6] at cL;refine wk1 hN ?_;exact (rF fun h=>h6 h.1.ptr).symm
 rw [decide_eq_true h6] at cL
 by_cases h7:PtrOk n us ui.length
 case neg =>
  rw [decide_eq_false h7] at cU;refine wk1 hN ?_;exact (rF fun h=>h7 h.2.ptr).symm
 rw [decide_eq_true h7] at cU;refine wk1 hN ?_;refine q2k [1,3,4] Lk ?_;refine q0B (fun j=>j≤n∧(∀ j',j' < j→∃ a b:Nat,ls[j']?=some (a:Int)∧ls[j'+1]?=some (b:Int)∧a≤b∧b≤li.length∧q7T ((li.take b).drop a)∧LoC n j' ((li.take b).drop a))∧∀ j',j' < j→∃ a b:Nat,us[j']?=some (a:Int)∧us[j'+1]?=some (b:Int)∧a≤b∧b≤ui.length∧q7T ((ui.take b).drop a)∧UpC j' ((ui.take b).drop a)) [1,3] [1] Lk Lk (fun j:Nat=>[(4,iv j)]) (fun _=>[]) (fun j=>n-j) 0 ⟨Nat.zero_le _,by omega,by omega⟩ ?_ ?_
 ·refine LeM [] rfl rfl ?_;refine Zz ?_
  rfl
 ·rintro j ⟨hj,hm,hm2⟩
  by_cases hlt:j < n
  ·obtain ⟨a,ha⟩:=h6.nn h1 j Oq;obtain ⟨b,hb⟩:=h6.nn h1 (j+1) Oq;obtain ⟨u,hu⟩:=h7.nn h2 j Oq;obtain ⟨v,hv⟩:=h7.nn h2 (j+1) Oq;have wj:(j:Int)+1=((j+1:Nat):Int):=rfl;have hab:a≤b:=by have:=h6.mono j hlt _ _ ha hb; omega
   have hbr:b≤li.length:=by have:=h6.le h1 (n-(j+1)) (j+1) Oq _ hb; omega
   have huv:u≤v:=by have:=h7.mono j hlt _ _ hu hv; omega
   have hvr:v≤ui.length:=by have:=h7.le h2 (n-(j+1)) (j+1) Oq _ hv; omega
   have bad:¬ qjo (fun z=>(j:Int) < z∧z < n) li a b→res=false:=fun h=>rF fun hS=>by
    obtain ⟨a',b',q1,q2,_,_,q5,q6⟩:=hS.1.col j hlt;have e1:=Option.some.inj (ha.symm.trans q1);have e2:=Option.some.inj (hb.symm.trans q2);obtain rfl:a'=a:=by omega
    obtain rfl:b'=b:=by omega
    exact h ((q4r hbr).2 ⟨q5,(qd2 q5).1 q6⟩)
   have bad2:¬ (qjo (fun z=>0≤z∧z≤(j:Int)) ui u v∧u < v∧ui[v-1]?=some (j:Int))→res=false:=fun h=>rF fun hS=>by
    obtain ⟨a',b',q1,q2,q3,q4,q5,q6⟩:=hS.2.col j hlt;have e1:=Option.some.inj (hu.symm.trans q1);have e2:=Option.some.inj (hv.symm.trans q2);obtain rfl:a'=u:=by omega
    obtain rfl:b'=v:=by omega
    have hl:((ui.take b').drop a').length=b'-a':=by simp; omega
    have q7:=(qcK q5).1 q6;have hlt:=(List.getElem?_eq_some_iff.1 q7.2).1;refine h ⟨(q4r hvr).2 ⟨q5,q7.1⟩,by omega,?_⟩;have q8:=q7.2;rw [hl,q1I (by omega),show a'+(b'-a'-1)=b'-1 by omega] at q8;exact q8
   refine wk1 (x3 wj ha hb) ?_;refine q0B (fun k=>a≤k∧k≤b∧qjo (fun z=>(j:Int) < z∧z < n) li a k) [1,3,4] [1] Lk Lk (fun k:Nat=>[(5,iv k)]) (fun _=>[]) (fun k=>b-k) a ⟨Nat.le_refl _,hab,fun p q1 q2=>by omega⟩ ?_ ?_
   ·refine LeM [] rfl rfl ?_;exact Zy
   ·rintro k ⟨hk1,hk2,hU⟩
    by_cases hkb:k < b
    ·obtain ⟨x,hx⟩:∃ x,li[k]?=some x:=⟨_,List.getElem?_eq_getElem Oq⟩;have no:(∀ z,li[k]?=some z→((j:Int) < z∧z < n)→(a < k→∃ y,li[k-1]?=some y∧y < z)→False)→res=false:=fun h=>bad fun hC=>by
      obtain ⟨z,q1,q2,q3⟩:=hC k hk1 hkb;exact h z q1 q2 q3
     by_cases hx0:x≤(j:Int)
     ·refine wk1 (x5 wj ha hb hx hx0) ?_;exact (no fun z q1 q2 _=>by rw [hx] at q1; cases q1; omega).symm
     by_cases hxn:(n:Int)≤x
     ·refine wk1 (x6 wj ha hb hx hx0 hxn) ?_;exact (no fun z q1 q2 _=>by rw [hx] at q1; cases q1; omega).symm
     by_cases hak:(k:Int) > a
     ·obtain ⟨y,hy⟩:∃ y,li[k-1]?=some y:=⟨_,List.getElem?_eq_getElem Oq⟩;have wi:(k:Int)-1=((k-1:Nat):Int):=by omega
      by_cases hxy:x≤y
      ·refine wk1 (x6 wj ha hb hx hx0 (x5 hxn hak hy wi hxy)) ?_;exact (no fun z q1 q2 q3=>by
        obtain ⟨u,q4,q5⟩:=q3 Oq;rw [hx] at q1; rw [hy] at q4; cases q1; cases q4; omega).symm
      ·refine wk1 (x6 wj ha hb hx hx0 (x5 hxn hak hy wi hxy)) ?_;refine ⟨k+1,⟨by omega,by omega,hU.stp hx Oq fun _=>⟨y,hy,by omega⟩⟩,by omega,?_⟩;refine LeM [] rfl rfl ?_;refine Zz ?_
       rfl
     ·refine wk1 (x6 wj ha hb hx hx0 (x2 hxn hak)) ?_;refine ⟨k+1,⟨by omega,by omega,hU.stp hx Oq fun h=>by omega⟩,by omega,?_⟩;refine LeM [] rfl rfl ?_;refine Zz ?_
      rfl
    ·obtain rfl:k=b:=by omega
     obtain ⟨hA,hA2⟩:=(q4r hbr).1 hU;have hLo:=(qd2 hA).2 hA2;clear bad hA2 hU;refine wk1 (x4 wj ha hb hu) ?_;refine q0B (fun k=>u≤k∧k≤v∧qjo (fun z=>0≤z∧z≤(j:Int)) ui u k) [1,3,4] [1] Lk Lk (fun k:Nat=>[(6,iv k)]) (fun _=>[]) (fun k=>v-k) u ⟨Nat.le_refl _,huv,fun p q1 q2=>by omega⟩ ?_ ?_
     ·refine LeM [] rfl rfl ?_;exact Zy
     ·rintro c ⟨hc1,hc2,hU⟩
      by_cases hcv:c < v
      ·obtain ⟨x,hx⟩:∃ x,ui[c]?=some x:=⟨_,List.getElem?_eq_getElem Oq⟩;have no:(∀ z,ui[c]?=some z→(0≤z∧z≤(j:Int))→(u < c→∃ y,ui[c-1]?=some y∧y < z)→False)→res=false:=fun h=>bad2 fun hC=>by
        obtain ⟨z,q1,q2,q3⟩:=hC.1 c hc1 hcv;exact h z q1 q2 q3
       by_cases hx0:x < 0
       ·refine wk1 (x5 wj hu hv hx hx0) ?_;exact (no fun z q1 q2 _=>by rw [hx] at q1; cases q1; omega).symm
       by_cases hxn:x > (j:Int)
       ·refine wk1 (x6 wj hu hv hx hx0 hxn) ?_;exact (no fun z q1 q2 _=>by rw [hx] at q1; cases q1; omega).symm
       by_cases hak:(c:Int) > u
       ·obtain ⟨y,hy⟩:∃ y,ui[c-1]?=some y:=⟨_,List.getElem?_eq_getElem Oq⟩;have wi:(c:Int)-1=((c-1:Nat):Int):=by omega
        by_cases hxy:x≤y
        ·refine wk1 (x6 wj hu hv hx hx0 (x5 hxn hak hy wi hxy)) ?_;exact (no fun z q1 q2 q3=>by
          obtain ⟨u,q4,q5⟩:=q3 Oq;rw [hx] at q1; rw [hy] at q4; cases q1; cases q4; omega).symm
        ·refine wk1 (x6 wj hu hv hx hx0 (x5 hxn hak hy wi hxy)) ?_;refine ⟨c+1,⟨by omega,by omega,hU.stp hx Oq fun _=>⟨y,hy,by omega⟩⟩,by omega,?_⟩;refine LeM [] rfl rfl ?_;refine Zz ?_
         rfl
       ·refine wk1 (x6 wj hu hv hx hx0 (x2 hxn hak)) ?_;refine ⟨c+1,⟨by omega,by omega,hU.stp hx Oq fun h=>by omega⟩,by omega,?_⟩;refine LeM [] rfl rfl ?_;refine Zz ?_
        rfl
      ·obtain rfl:c=v:=by omega
       by_cases huv2:u=c
       ·have q1:((u:Int) == (c:Int))=true:=by simp; omega
        refine wk1 (x4 wj hu hv q1) ?_;exact (bad2 fun h=>by omega).symm
       have q1:((u:Int) == (c:Int))=false:=by simp; omega
       obtain ⟨x,hx⟩:∃ x,ui[c-1]?=some x:=⟨_,List.getElem?_eq_getElem Oq⟩;have wi:(c:Int)-1=((c-1:Nat):Int):=by omega
       by_cases hxj:x=j
       ·subst hxj;have q2:((j:Int) != (j:Int))=false:=by simp
        refine wk1 (x6 wj hu hv q1 wi (x2 hx q2)) ?_;obtain ⟨hB,hB2⟩:=(q4r hvr).1 hU;have hl:((ui.take c).drop u).length=c-u:=by simp; omega
        have hUp:=(qcK (k:=j) hB).2 ⟨hB2,by rw [hl,q1I (by omega),show u+(c-u-1)=c-1 by omega]; exact hx⟩;refine ⟨j+1,⟨by omega,fun j' hj'=>?_,fun j' hj'=>?_⟩,by omega,?_⟩
        ·by_cases hjj:j' < j
         ·exact hm j' hjj
         ·obtain rfl:j'=j:=by omega
          exact ⟨a,k,ha,hb,hab,hbr,hA,hLo⟩
        ·by_cases hjj:j' < j
         ·exact hm2 j' hjj
         ·obtain rfl:j'=j:=by omega
          exact ⟨u,c,hu,hv,huv,hvr,hB,hUp⟩
        ·refine LeM [] rfl rfl ?_;exact Zy
       ·have q2:(x != (j:Int))=true:=by simpa using hxj
        refine wk1 (x6 wj hu hv q1 wi (x2 hx q2)) ?_;exact (bad2 fun h=>by
         have:=h.2.2;rw [hx] at this;exact hxj (Option.some.inj this)).symm
  ·obtain rfl:j=n:=by omega
   refine wk ?_;exact (rT ⟨⟨h6.c0,h6.cn,hm⟩,⟨h7.c0,h7.cn,hm2⟩⟩).symm
end Go.Proofs.YtjfjjmfhfbapeaaGreatDoor
namespace Go.Sp
open Go.E Go.Proofs.YtjfjjmfhfbapeaaGreatDoor
def qp6 {s:Bool} {m K:Nat}:sgn s m*(2:Int) ^ K=0 ↔ m=0:=by
 constructor
 ·intro h
  rcases Int.mul_eq_zero.1 h with h | h
  ·have:=q12 s m; rw [h] at this; exact this.symm
  ·exact absurd h (Int.ne_of_gt (q0U _))
 ·rintro rfl;have:sgn s 0=0:=by unfold sgn; split <;> rfl
  rw [this,Int.zero_mul]
def q5L {f:Nat} (h:q0Q f):ofZ f=0 ↔ qoO f=0:=by
 unfold ofZ ofF qoO;rw [if_neg h];unfold q0Q at h
 split
 ·rw [Option.getD_some,qp6]; omega
 ·rw [Option.getD_some,qp6]; omega
def qda {f:Nat} (h:f < 18446744073709551616):(f=0∨f=9223372036854775808) ↔ qoO f=0:=by
 unfold qoO; omega
end Go.Sp
namespace Go.Proofs.YtjfjjmfhfbapeaaGreatDoor
open Go Go.E Go.Sp
def uCol {f:LUt} (h:qak f) (hb:f.ui.length=f.uv.length) {k:Nat} (hk:k < f.rows.length):∃ b x,f.us[k+1]?=some ((b+1:Nat):Int)∧f.uv[b]?=some x:=by
 obtain ⟨a,b,q1,q2,q3,q4,q5,q6⟩:=h.2.col k hk;have hl:((f.ui.take b).drop a).length=b-a:=by simp; omega
 have:=(List.getElem?_eq_some_iff.1 q6.2).1;obtain ⟨c,rfl⟩:∃ c,b=c+1:=⟨b-1,by omega⟩;exact ⟨c,_,q2,List.getElem?_eq_getElem Oq⟩
open Classical in
def ql4 {f:LUt} (hb:LUb f):ACt 56 [pLU f] (iv (q7S f)):=by
 obtain ⟨res,hres⟩:∃ res,res=q7S f:=⟨_,rfl⟩;rw [← hres];have hrl:=hb.rows;have cP1:=qaD (l:=f.rows) hrl;have cP2:=qaD (l:=f.cols) hrl;have h1':=fun h:f.rows.length≤200=>ql3 hb h;have hus:=hb.us;have hil:=hb.lv;have hiu:=hb.uv;have hul:=hb.hl;have huu:=hb.hu;have hUc:=fun h hb k hk=>uCol (f:=f) h hb (k:=k) hk;unfold q7S at hres;have cS:=h1';clear h1';generalize hLS:qak f=LS at *;unfold pLU at cS ⊢;obtain ⟨rows,cols,ls,li,lv,us,ui,uv⟩:=f;clear hb;dsimp only at *;generalize hN:rows.length=n at *;refine ac0 Tryz.func56 Tryz.ntmps56 [.tmp 2] ?_;refine wk1 hN ?_
 by_cases h1:n > 200
 ·rw [if_pos h1] at hres;have h1':(n:Int) > 200:=by omega
  refine wk1 h1' ?_;exact hres.symm
 have h1':¬ (n:Int) > 200:=by omega
 rw [if_neg h1] at hres;refine wk1 h1' ?_
 by_cases h2:q2C rows n
 case neg =>
  rw [if_pos fun h=>h2 h.1] at hres;rw [decide_eq_false h2] at cP1;refine wk ?_;exact hres.symm
 rw [decide_eq_true h2] at cP1
 by_cases h3:q2C cols n
 case neg =>
  rw [if_pos fun h=>h3 h.2] at hres;rw [decide_eq_false h3] at cP2;refine wk ?_;exact hres.symm
 rw [decide_eq_true h3] at cP2;rw [if_neg (not_not_intro ⟨h2,h3⟩)] at hres;refine wk ?_;have w1:IntKind.i64.wrap ((n:Int)+1)=((n+1:Nat):Int):=by rw [i64_in (by omega) (by omega)]; omega
 by_cases h4:ls.length=n+1
 case neg =>
  have e1:((ls.length:Int) != ((n+1:Nat):Int))=true:=by simp; omega
  rw [if_pos fun h=>h4 h.1] at hres;refine wk1 (x2 w1 e1) ?_;exact hres.symm
 have e1:((ls.length:Int) != ((n+1:Nat):Int))=false:=by simp; omega
 by_cases h5:us.length=n+1
 case neg =>
  have e2:((us.length:Int) != ((n+1:Nat):Int))=true:=by simp; omega
  rw [if_pos fun h=>h5 h.2.1] at hres;refine wk1 (x3 w1 e1 e2) ?_;exact hres.symm
 have e2:((us.length:Int) != ((n+1:Nat):Int))=false:=by simp; omega
 by_cases h6:li.length=lv.length
 case neg =>
  have e3:((li.length:Int) != (lv.length:Int))=true:=by simp; omega
  rw [if_pos fun h=>h6 h.2.2.1] at hres;refine wk1 (x4 w1 e1 e2 e3) ?_;exact hres.symm
 have e3:((li.length:Int) != (lv.length:Int))=false:=by simp; omega
 by_cases h7:ui.length=uv.length
 case neg =>
  have e4:((ui.length:Int) != (uv.length:Int))=true:=by simp; omega
  rw [if_pos fun h=>h7 h.2.2.2] at hres;refine wk1 (x5 w1 e1 e2 e3 e4) ?_;exact hres.symm
 have e4:((ui.length:Int) != (uv.length:Int))=false:=by simp; omega
 rw [if_neg (not_not_intro ⟨h4,h5,h6,h7⟩)] at hres;have cS:=cS Oq h4 h5
 by_cases h8:LS
 case neg =>
  rw [if_pos h8] at hres;rw [decide_eq_false h8] at cS;refine wk1 (x5 w1 e1 e2 e3 e4) ?_;exact hres.symm
 rw [if_neg (not_not_intro h8)] at hres;rw [decide_eq_true h8] at cS;have bad:¬ ((∀ x ∈ lv,q0Q x)∧(∀ x ∈ uv,q0Q x)∧UDg n us uv)→res=4:=fun h=>by rw [hres,if_neg h]
 have good:((∀ x ∈ lv,q0Q x)∧(∀ x ∈ uv,q0Q x)∧UDg n us uv)→res=0:=fun h=>by rw [hres,if_pos h]
 subst hLS;have hUc:=hUc h8 h7;clear hres;refine wk1 (x5 w1 e1 e2 e3 e4) ?_;have cL2:ClL [pF lv,pF uv]:=fun x hx=>by simp at hx; rcases hx with rfl | rfl <;> trivial
 refine q2k [1,3,69,70,71] Lk ?_;refine q0B (fun i=>i≤2∧(0 < i→∀ x ∈ lv,q0Q x)∧(1 < i→∀ x ∈ uv,q0Q x)) [1,3,69,70] [1,69] Lk Lk (fun i:Nat=>[(71,iv i)]) (fun _=>[]) (fun i=>2-i) 0 ⟨by omega,by omega,by omega⟩ ?_ ?_
 ·refine LeM [] rfl rfl ?_;refine Zz ?_;exact ⟨rfl,q0R rfl cL2⟩
 ·rintro i ⟨hi,hf1,hf2⟩
  by_cases hlt:i < 2
  ·have hlt':(i:Int) < 2:=by omega
   obtain ⟨l,hl,hlu,hll,hlb,hl0,hl1⟩:∃ l:List Nat,[pF lv,pF uv][i]?=some (pF l)∧(∀ x ∈ l,x < 18446744073709551616)∧l.length≤1000000∧((¬ ∀ x ∈ l,q0Q x)→res=4)∧(i=0→l=lv)∧(i=1→l=uv):=by
    rcases Nat.lt_or_ge i 1 with h | h
    ·obtain rfl:i=0:=by omega
     exact ⟨lv,rfl,hul,hil,fun hq=>bad fun hg=>hq hg.1,fun _=>rfl,fun h=>by omega⟩
    ·obtain rfl:i=1:=by omega
     exact ⟨uv,rfl,huu,hiu,fun hq=>bad fun hg=>hq hg.2.1,fun h=>by omega,fun _=>rfl⟩
   refine wk1 (x2 hlt' hl) ?_;refine q0B (fun p=>p≤l.length∧∀ x ∈ l.take p,q0Q x) [1,3,69,70,71,75,76] [1,69] Lk Lk (fun p:Nat=>[(77,iv p)]) (fun _=>[]) (fun p=>l.length-p) 0 ⟨Nat.zero_le _,by simp⟩ ?_ ?_
   ·refine LeM [] rfl rfl ?_;refine Zz ?_;exact ⟨rfl,q0R rfl cL2⟩
   ·rintro p ⟨hp,hf⟩
    by_cases hpl:p < l.length
    ·have hpl':(p:Int) < l.length:=by omega
     obtain ⟨x,hx⟩:∃ x,l[p]?=some x:=⟨_,List.getElem?_eq_getElem hpl⟩;have hm:=List.mem_of_getElem? hx;have cF:=q4J (hlu x hm)
     by_cases hfx:q0Q x
     case neg =>
      rw [decide_eq_false hfx] at cF;refine wk1 hx ?_;exact (hlb fun h=>hfx (h x hm)).symm
     rw [decide_eq_true hfx] at cF;refine wk1 hx ?_;refine ⟨p+1,⟨by omega,?_⟩,by omega,?_⟩
     ·rw [q2H hx];intro y hy
      rcases List.mem_append.1 hy with hy | hy
      ·exact hf y hy
      ·simp at hy; subst hy; exact hfx
     ·refine LeM [] rfl rfl ?_;refine Zz ?_;exact ⟨rfl,q0R rfl cL2⟩
    ·obtain rfl:p=l.length:=by omega
     rw [List.take_length] at hf;refine wk ?_;refine ⟨i+1,⟨by omega,fun _=>?_,fun _=>?_⟩,by omega,?_⟩
     ·by_cases h0:i=0
      ·rw [← hl0 h0]; exact hf
      ·exact hf1 Oq
     ·rw [← hl1 (by omega)]; exact hf
     ·refine LeM [] rfl rfl ?_;refine Zz ?_;exact ⟨rfl,q0R rfl cL2⟩
  ·obtain rfl:i=2:=by omega
   have hf1:=hf1 Oq;have hf2:=hf2 Oq;refine wk ?_;refine q0B (fun j=>j≤n∧∀ j',j' < j→∀ (a x:Nat),us[j'+1]?=some ((a+1:Nat):Int)→uv[a]?=some x→ofZ x≠0) [1,3,86] [1] Lk Lk (fun i:Nat=>[(87,iv i)]) (fun _=>[]) (fun i=>n-i) 0 ⟨Nat.zero_le _,by omega⟩ ?_ ?_
   ·refine LeM [] rfl rfl ?_;refine Zz ?_
    rfl
   ·rintro j ⟨hj,hd⟩
    by_cases hjl:j < n
    ·have hjl':(j:Int) < n:=by omega
     obtain ⟨b,x,hbk,hx⟩:=hUc j hjl;have hm:=List.mem_of_getElem? hx;have hbl:=(List.getElem?_eq_some_iff.1 hx).1;have wj:IntKind.i64.wrap ((j:Int)+1)=((j+1:Nat):Int):=by rw [i64_in (by omega) (by omega)]; omega
     have wb:IntKind.i64.wrap (((b+1:Nat):Int)-1)=(b:Int):=by rw [i64_in (by omega) (by omega)]; omega
     have cK:=qh4 (huu x hm)
     by_cases hz:ofZ x=0
     ·have q:(((qbW x:Nat):Int) == 0)=true:=by rw [(q7r (huu x hm)).2 ((q5L (hf2 x hm)).1 hz)]; rfl
      refine wk1 (x6 hjl' wj hbk wb hx q) ?_;exact (bad fun h=>h.2.2 j hjl b x hbk hx hz).symm
     ·have q:(((qbW x:Nat):Int) == 0)=false:=by simpa using fun h=>hz ((q5L (hf2 x hm)).2 ((q7r (huu x hm)).1 h))
      refine wk1 (x6 hjl' wj hbk wb hx q) ?_;refine ⟨j+1,⟨by omega,fun j' hj' a' x' ha' hx'=>?_⟩,by omega,?_⟩
      ·by_cases hjj:j' < j
       ·exact hd j' hjj a' x' ha' hx'
       ·obtain rfl:j'=j:=by omega
        have e:a'=b:=by have:=Option.some.inj (ha'.symm.trans hbk); omega
        subst e;have e:=Option.some.inj (hx'.symm.trans hx);subst e;exact hz
      ·refine LeM [] rfl rfl ?_;exact Zy
    ·have hjl':¬ (j:Int) < n:=by omega
     obtain rfl:n=j:=by omega
     refine wk1 hjl' ?_;exact (good ⟨hf1,hf2,hd⟩).symm
open Classical in
def qkA {f:LUt} (hb:LUb f):ACt 68 [pLU f] (iv (q7S f)):=by
 obtain ⟨res,hres⟩:∃ res,res=q7S f:=⟨_,rfl⟩;rw [← hres];have hrl:=hb.rows;have cP1:=q6b (l:=f.rows) (n:=f.rows.length) Oq;have cP2:=q6b (l:=f.cols) (n:=f.rows.length) Oq;have h1':=fun h:f.rows.length≤200=>qjy hb h;have hus:=hb.us;have hil:=hb.lv;have hiu:=hb.uv;have hul:=hb.hl;have huu:=hb.hu;have hUc:=fun h hb k hk=>uCol (f:=f) h hb (k:=k) hk;unfold q7S at hres;have cS:=h1';clear h1';generalize hLS:qak f=LS at *;unfold pLU at cS ⊢;obtain ⟨rows,cols,ls,li,lv,us,ui,uv⟩:=f;clear hb;dsimp only at *;generalize hN:rows.length=n at *;refine ac0 Tryz.func68 Tryz.ntmps68 [.tmp 2] ?_;refine wk1 hN ?_
 by_cases h1:n > 200
 ·rw [if_pos h1] at hres;have h1':(n:Int) > 200:=by omega
  refine wk1 h1' ?_;exact hres.symm
 have h1':¬ (n:Int) > 200:=by omega
 rw [if_neg h1] at hres;refine wk1 h1' ?_
 by_cases h2:q2C rows n
 case neg =>
  rw [if_pos fun h=>h2 h.1] at hres;rw [decide_eq_false h2] at cP1;refine wk ?_;exact hres.symm
 rw [decide_eq_true h2] at cP1
 by_cases h3:q2C cols n
 case neg =>
  rw [if_pos fun h=>h3 h.2] at hres;rw [decide_eq_false h3] at cP2;refine wk ?_;exact hres.symm
 rw [decide_eq_true h3] at cP2;rw [if_neg (not_not_intro ⟨h2,h3⟩)] at hres;refine wk ?_;have w1:(n:Int)+1=((n+1:Nat):Int):=rfl
 by_cases h4:ls.length=n+1
 case neg =>
  have e1:((ls.length:Int) != ((n+1:Nat):Int))=true:=by simp; omega
  rw [if_pos fun h=>h4 h.1] at hres;refine wk1 (x2 w1 e1) ?_;exact hres.symm
 have e1:((ls.length:Int) != ((n+1:Nat):Int))=false:=by simp; omega
 by_cases h5:us.length=n+1
 case neg =>
  have e2:((us.length:Int) != ((n+1:Nat):Int))=true:=by simp; omega
  rw [if_pos fun h=>h5 h.2.1] at hres;refine wk1 (x3 w1 e1 e2) ?_;exact hres.symm
 have e2:((us.length:Int) != ((n+1:Nat):Int))=false:=by simp; omega
 by_cases h6:li.length=lv.length
 case neg =>
  have e3:((li.length:Int) != (lv.length:Int))=true:=by simp; omega
  rw [if_pos fun h=>h6 h.2.2.1] at hres;refine wk1 (x4 w1 e1 e2 e3) ?_;exact hres.symm
 have e3:((li.length:Int) != (lv.length:Int))=false:=by simp; omega
 by_cases h7:ui.length=uv.length
 case neg =>
  have e4:((ui.length:Int) != (uv.length:Int))=true:=by simp; omega
  rw [if_pos fun h=>h7 h.2.2.2] at hres;refine wk1 (x5 w1 e1 e2 e3 e4) ?_;exact hres.symm
 have e4:((ui.length:Int) != (uv.length:Int))=false:=by simp; omega
 rw [if_neg (not_not_intro ⟨h4,h5,h6,h7⟩)] at hres;have cS:=cS Oq h4 h5
 by_cases h8:LS
 case neg =>
  rw [if_pos h8] at hres;rw [decide_eq_false h8] at cS;refine wk1 (x5 w1 e1 e2 e3 e4) ?_;exact hres.symm
 rw [if_neg (not_not_intro h8)] at hres;rw [decide_eq_true h8] at cS;have bad:¬ ((∀ x ∈ lv,q0Q x)∧(∀ x ∈ uv,q0Q x)∧UDg n us uv)→res=4:=fun h=>by rw [hres,if_neg h]
 have good:((∀ x ∈ lv,q0Q x)∧(∀ x ∈ uv,q0Q x)∧UDg n us uv)→res=0:=fun h=>by rw [hres,if_pos h]
 subst hLS;have hUc:=hUc h8 h7;clear hres;refine wk1 (x5 w1 e1 e2 e3 e4) ?_;refine q2k [1,3,4] Lk ?_;refine q0B (fun i=>i≤lv.length∧∀ x ∈ lv.take i,q0Q x) [1,3] [1] Lk Lk (fun i:Nat=>[(4,iv i)]) (fun _=>[]) (fun i=>lv.length-i) 0 ⟨Nat.zero_le _,by simp⟩ ?_ ?_
 ·refine LeM [] rfl rfl ?_;refine Zz ?_
  rfl
 ·rintro i ⟨hi,hf1⟩
  by_cases hil:i < lv.length
  ·obtain ⟨x,hx⟩:∃ x,lv[i]?=some x:=⟨_,List.getElem?_eq_getElem hil⟩;have hmx:=List.mem_of_getElem? hx;have cF:=q1w (hul x hmx)
   by_cases hfx:q0Q x
   case neg =>
    rw [decide_eq_false hfx] at cF;refine wk1 hx ?_;exact (bad fun h=>hfx (h.1 x hmx)).symm
   rw [decide_eq_true hfx] at cF;refine wk1 hx ?_;refine ⟨i+1,⟨by omega,?_⟩,by omega,?_⟩
   ·rw [q2H hx];intro y hy
    rcases List.mem_append.1 hy with hy | hy
    ·exact hf1 y hy
    ·simp at hy; subst hy; exact hfx
   ·refine LeM [] rfl rfl ?_;refine Zz ?_
    rfl
  ·obtain rfl:i=lv.length:=by omega
   rw [List.take_length] at hf1;refine wk ?_;refine q0B (fun i=>i≤uv.length∧∀ x ∈ uv.take i,q0Q x) [1,3] [1] Lk Lk (fun i:Nat=>[(5,iv i)]) (fun _=>[]) (fun i=>uv.length-i) 0 ⟨Nat.zero_le _,by simp⟩ ?_ ?_
   ·refine LeM [] rfl rfl ?_;refine Zz ?_
    rfl
   ·rintro i ⟨hi,hf2⟩
    by_cases hil:i < uv.length
    ·obtain ⟨x,hx⟩:∃ x,uv[i]?=some x:=⟨_,List.getElem?_eq_getElem hil⟩;have hmx:=List.mem_of_getElem? hx;have cF:=q1w (huu x hmx)
     by_cases hfx:q0Q x
     case neg =>
      rw [decide_eq_false hfx] at cF;refine wk1 hx ?_;exact (bad fun h=>hfx (h.2.1 x hmx)).symm
     rw [decide_eq_true hfx] at cF;refine wk1 hx ?_;refine ⟨i+1,⟨by omega,?_⟩,by omega,?_⟩
     ·rw [q2H hx];intro y hy
      rcases List.mem_append.1 hy with hy | hy
      ·exact hf2 y hy
      ·simp at hy; subst hy; exact hfx
     ·refine LeM [] rfl rfl ?_;refine Zz ?_
      rfl
    ·obtain rfl:i=uv.length:=by omega
     rw [List.take_length] at hf2;refine wk ?_;refine q0B (fun j=>j≤n∧∀ j',j' < j→∀ (a x:Nat),us[j'+1]?=some ((a+1:Nat):Int)→uv[a]?=some x→ofZ x≠0) [1,3] [1] Lk Lk (fun i:Nat=>[(6,iv i)]) (fun _=>[]) (fun i=>n-i) 0 ⟨Nat.zero_le _,by omega⟩ ?_ ?_
     ·refine LeM [] rfl rfl ?_;refine Zz ?_
      rfl
     ·rintro j ⟨hj,hd⟩
      by_cases hjl:j < n
      ·obtain ⟨b,x,hbk,hx⟩:=hUc j hjl;have hm:=List.mem_of_getElem? hx;have hbl:=(List.getElem?_eq_some_iff.1 hx).1;have wj:(j:Int)+1=((j+1:Nat):Int):=rfl;have wb:((b+1:Nat):Int)-1=(b:Int):=by omega
       have wc:IntKind.i64.wrap ((b+1:Nat):Int)=((b+1:Nat):Int):=i64_in Oq Oq;have cK:=@q5j x
       by_cases hz:ofZ x=0
       ·rw [decide_eq_true ((qda (huu x hm)).2 ((q5L (hf2 x hm)).1 hz))] at cK;refine wk1 (x5 wj hbk wb wc hx) ?_;exact (bad fun h=>h.2.2 j hjl b x hbk hx hz).symm
       ·rw [decide_eq_false fun h=>hz ((q5L (hf2 x hm)).2 ((qda (huu x hm)).1 h))] at cK;refine wk1 (x5 wj hbk wb wc hx) ?_;refine ⟨j+1,⟨by omega,fun j' hj' a' x' ha' hx'=>?_⟩,by omega,?_⟩
        ·by_cases hjj:j' < j
         ·exact hd j' hjj a' x' ha' hx'
         ·obtain rfl:j'=j:=by omega
          have e:a'=b:=by have:=Option.some.inj (ha'.symm.trans hbk); omega
          subst e;have e:=Option.some.inj (hx'.symm.trans hx);subst e;exact hz
        ·refine LeM [] rfl rfl ?_;exact Zy
      ·obtain rfl:j=n:=by omega
       refine wk ?_;exact (good ⟨hf1,hf2,hd⟩).symm
def q2c (n r len:Nat):Bk:=⟨136,some 5,[.ag [.ow r none 0 len,.ow 6000 none 0 n,.ow 6001 none 0 n,.ow 6002 none 0 n,.ow 6003 none 0 n]],false⟩
def qc8 {n r len:Nat}:q2c n r len=⟨136,some 5,[.ag [.ow r none 0 len,.ow 6000 none 0 n,.ow 6001 none 0 n,.ow 6002 none 0 n,.ow 6003 none 0 n]],false⟩:=rfl
attribute [go_sem ↓] qc8
abbrev rwB (rows:List Nat):Bk:=⟨3,none,rows.map fun z:Nat=>iv z,false⟩
def stT (n:Nat) (S:LuS):Hp:=q1Y 24 43 none 6000 10000 n (rU n S.l) (q1Y 137 4 none 6001 20000 n (rB n S.iL) (q1Y 24 43 none 6002 30000 n (rU n S.u) (q1Y 137 4 none 6003 40000 n (rB n S.iU) h0)))
abbrev q0i (n:Nat) (S:LuS) (r:Nat):Hp:=q0O (q0O (stT n S) 5000 (q2c n r S.rows.length)) r (rwB S.rows)
section
variable {n:Nat} {S S':LuS} {q5c:List Nat}
def q9g {g:Nat→Nat→Nat} {r c v:Nat}:q7P (rU n g) r ((rU n g r).set c (.vl (.int .u64 (v:Nat))))=rU n (q3S g r c v):=by
 funext j
 unfold q7P
 split
 ·rename_i h; subst h;unfold rU;rw [qfz];refine List.map_congr_left fun y _=>?_;unfold q3S;simp
 ·rename_i h;refine List.map_congr_left fun y _=>?_;unfold q3S;rw [if_neg fun q=>h q.1]
def qip {g:Nat→Nat→Bool} {r c:Nat} {v:Bool}:q7P (rB n g) r ((rB n g r).set c (.vl (.bool v)))=rB n (qa3 g r c v):=by
 funext j
 unfold q7P
 split
 ·rename_i h; subst h
  apply List.ext_getElem?
  intro i;unfold rB qa3;rw [List.getElem?_set];simp only [List.length_map,List.length_range,List.getElem?_map]
  by_cases hi:i < n
  ·rw [List.getElem?_range hi]
   by_cases hc:c=i
   ·subst hc; simp [hi]
   ·simp [hc,Ne.symm hc]
  ·rw [List.getElem?_eq_none (by simpa using hi)]
   by_cases hc:c=i <;> simp [hc]
   omega
 ·rename_i h;refine List.map_congr_left fun y _=>?_;unfold qa3;rw [if_neg fun q=>h q.1]
variable {r c:Nat}
def stT_l {v:Nat} (hn:n≤100) (hr:r < n):q0O (stT n S) (r+10000) ⟨43,none,(rU n S.l r).set c (.vl (.int .u64 (v:Nat))),false⟩=stT n { S with l:=q3S S.l r c v }:=by
 unfold stT;rw [q2l (by omega) hr (by simp),q9g]
def qpM {v:Bool} (hn:n≤100) (hr:r < n):q0O (stT n S) (r+20000) ⟨4,none,(rB n S.iL r).set c (.vl (.bool v)),false⟩=stT n { S with iL:=qa3 S.iL r c v }:=by
 unfold stT;rw [q2R (by omega) (by omega),q2l (by omega) hr (by simp),qip]
def qpK {v:Nat} (hn:n≤100) (hr:r < n):q0O (stT n S) (r+30000) ⟨43,none,(rU n S.u r).set c (.vl (.int .u64 (v:Nat))),false⟩=stT n { S with u:=q3S S.u r c v }:=by
 unfold stT;rw [q2R (by omega) (by omega),q2R (by omega) (by omega),q2l (by omega) hr (by simp),q9g]
def qik {v:Bool} (hn:n≤100) (hr:r < n):q0O (stT n S) (r+40000) ⟨4,none,(rB n S.iU r).set c (.vl (.bool v)),false⟩=stT n { S with iU:=qa3 S.iU r c v }:=by
 unfold stT;rw [q2R (by omega) (by omega),q2R (by omega) (by omega),q2R (by omega) (by omega),q2l (by omega) hr (by simp),qip]
def q3M {h:Hp} {i j:Nat} {b c:Bk} (hne:i≠j):q0O (q0O h i b) j c=q0O (q0O h j c) i b:=(q5T hne).symm
def q98 {i r:Nat} {b:Bk} (hi:6000 < i) (hr:r < 6000):q0O (q0i n S r) i b=q0O (q0O (q0O (stT n S) i b) 5000 (q2c n r S.rows.length)) r (rwB S.rows):=by
 unfold q0i;rw [q3M (i:=r) (by omega),q3M (i:=5000) (by omega)]
def q6F {g:Nat→Nat→Nat} {j:Nat}:ClL (rU n g j):=fun x hx=>by
 obtain ⟨_,_,rfl⟩:=List.mem_map.1 hx; trivial
def qbv {g:Nat→Nat→Bool} {j:Nat}:ClL (rB n g j):=fun x hx=>by
 obtain ⟨_,_,rfl⟩:=List.mem_map.1 hx; trivial
def q7b (hn:n≤100):BOk (stT n S) win:=by
 unfold stT;have w:∀ R j:Nat,5000≤R→R≤40000→j < n→win (j+R):=fun R j h1 h2 h3=>⟨by omega,by omega⟩;exact q1b (q1b (q1b (q1b BOk.h0 (fun _ _=>qbv) Oq ⟨⟨by omega,by omega⟩,fun j hj=>w _ j Oq Oq hj⟩) (fun _ _=>q6F) Oq ⟨⟨by omega,by omega⟩,fun j hj=>w _ j Oq Oq hj⟩) (fun _ _=>qbv) Oq ⟨⟨by omega,by omega⟩,fun j hj=>w _ j Oq Oq hj⟩) (fun _ _=>q6F) Oq ⟨⟨by omega,by omega⟩,fun j hj=>w _ j Oq Oq hj⟩
def qkd (hn:n≤100):stT n S 6000≠none∧stT n S 6001≠none∧stT n S 6002≠none∧stT n S 6003≠none:=by
 unfold stT;refine ⟨?_,?_,?_,?_⟩
 ·rw [q14]; simp
 ·rw [q0I (by omega) (by omega),q14]; simp
 ·rw [q0I (by omega) (by omega),q0I (by omega) (by omega),q14]; simp
 ·rw [q0I (by omega) (by omega),q0I (by omega) (by omega),q0I (by omega) (by omega),q14]; simp
def clRw {l:List Nat}:ClL (l.map fun z:Nat=>iv z):=fun x hx=>by
 obtain ⟨_,_,rfl⟩:=List.mem_map.1 hx; trivial
def qed {l:List PV} {p:Nat→Prop} (h:ClL l):IdL p l:=IdL.of fun x hx=>q51 (h x hx)
def qkg {H:Hp} {r len:Nat} (h:H 6000≠none∧H 6001≠none∧H 6002≠none∧H 6003≠none) (hr:H r≠none):IdL (fun j=>H j≠none) (q2c n r len).xs:=by
 unfold q2c;unfold IdL IdL IdP;unfold IdL IdL IdL IdL IdL IdL;unfold IdP;exact ⟨⟨hr,h.1,h.2.1,h.2.2.1,h.2.2.2,trivial⟩,trivial⟩
def q1F {H:Hp} (h:BOk H win):WfH H:=⟨fun i b hb=>⟨(h.b i b hb).2.1,IdL_mono (fun j hj=>by
 obtain ⟨c,hc⟩:=Option.ne_none_iff_exists'.1 hj;exact ⟨(h.b j c hc).1,hj⟩) _ (h.b i b hb).2.2⟩⟩
def q1z {h:Hp} {i j:Nat} {b:Bk} (hj:h j≠none):q0O h i b j≠none:=by
 unfold q0O
 split
 ·exact Option.some_ne_none _
 ·exact hj
def qjs {H:Hp} {p:Nat→Prop} {i:Nat} {b:Bk} (hB:BOk H p) (hp:p i) (hs:b.st=false) (hx:IdL (fun j=>q0O H i b j≠none) b.xs):BOk (q0O H i b) p:=⟨fun j c hc=>by
 unfold q0O at hc
 split at hc
 ·rename_i hj; subst hj; cases hc; exact ⟨hp,hs,hx⟩
 ·obtain ⟨h1,h2,h3⟩:=hB.b j c hc;exact ⟨h1,h2,IdL_mono (fun k hk=>q1z hk) _ h3⟩⟩
def q02 {r:Nat} (hn:n≤100) (h1:5000 < r) (h2:r < 6000):BOk (q0i n S r) win:=by
 have h:=qkd (S:=S) hn;unfold q0i;rw [q3M (by omega)];refine qjs (qjs (q7b hn) ⟨by omega,by omega⟩ rfl (qed clRw)) ⟨by omega,by omega⟩ rfl (qkg ?_ ?_)
 ·exact ⟨q1z (q1z h.1),q1z (q1z h.2.1),q1z (q1z h.2.2.1),q1z (q1z h.2.2.2)⟩
 ·refine q1z ?_; rw [q0J]; exact Option.some_ne_none _
def qib:SSh (stT n S) (stT n S'):=by
 unfold stT;exact q4u (q4u (q4u (q4u SSh_0 fun j=>by simp) fun j=>by simp) fun j=>by simp) fun j=>by simp
def q5p {i:Nat} (hi:i < 6000):stT n S i=none:=by
 unfold stT;rw [q0I (by omega) (by omega),q0I (by omega) (by omega),q0I (by omega) (by omega),q0I (by omega) (by omega)]
 rfl
def qke {r i:Nat} (h:q0i n S r i=none):i≠r∧i≠5000∧stT n S i=none:=by
 unfold q0i q0O at h
 split at h
 ·cases h
 ·split at h
  ·cases h
  ·exact ⟨by assumption,by assumption,h⟩
def qpL {i:Nat} (h:stT n S i=none):stT n S' i=none:=by
 cases h2:stT n S' i with
 | none=>rfl
 | some b =>
  obtain ⟨b',h3,_⟩:=qib (S:=S') (S':=S) i b h2;rw [h] at h3; cases h3
def q5D {r r':Nat} (h1:5000 < r) (h2:5000 < r') (h3:r < 6000) (h4:r' < 6000):SSh (q7R (q0i n S r) r) (q0i n S' r'):=fun i b hb=>by
 unfold q7R at hb
 split at hb
 ·cases hb
 ·rename_i hi;unfold q0i at hb ⊢;rw [q0A hi] at hb
  by_cases h5:i=r'
  ·subst h5;rw [q0A (by omega),q5p h4] at hb;cases hb
  ·rw [q0A h5];exact (qtA (b:=q2c n r S.rows.length) (b':=q2c n r' S'.rows.length) qib rfl rfl rfl rfl) i b hb
def qij (hn:n≤100):stT n S 6000=some ⟨24,none,(List.range n).map fun j=>.ow (j+10000) none 0 n,false⟩:=by
 unfold stT;rw [q14];simp
def qif {j:Nat} (hn:n≤100) (hj:j < n):stT n S (j+10000)=some ⟨43,none,rU n S.l j,false⟩:=by
 unfold stT;rw [q1H (by omega) hj]
def qpQ {f:Nat→Nat} (hn:n≤100) (hf:∀ j,f j=n):q5h (stT n S) n 10000 none f=some ((List.range n).map fun j=>.sl none (rU n S.l j),(List.range n).map (·+10000)):=by
 unfold stT;rw [q50 (by omega),cO,if_pos fun j _=>q6F]
 congr 2
 refine List.map_congr_left fun j _=>?_;rw [hf j]
 congr 1
 exact q83
def qii (hn:n≤100):stT n S 6001=some ⟨137,none,(List.range n).map fun j=>.ow (j+20000) none 0 n,false⟩:=by
 unfold stT;rw [q0I (by omega) (by omega),q14];simp
def qie {j:Nat} (hn:n≤100) (hj:j < n):stT n S (j+20000)=some ⟨4,none,rB n S.iL j,false⟩:=by
 unfold stT;rw [q0I (by omega) (by omega),q1H (by omega) hj]
def qpP {f:Nat→Nat} (hn:n≤100) (hf:∀ j,f j=n):q5h (stT n S) n 20000 none f=some ((List.range n).map fun j=>.sl none (rB n S.iL j),(List.range n).map (·+20000)):=by
 unfold stT;rw [q4W (by omega) (by omega),q50 (by omega),cO,if_pos fun j _=>qbv]
 congr 2
 refine List.map_congr_left fun j _=>?_;rw [hf j]
 congr 1
 exact q83
def qih (hn:n≤100):stT n S 6002=some ⟨24,none,(List.range n).map fun j=>.ow (j+30000) none 0 n,false⟩:=by
 unfold stT;rw [q0I (by omega) (by omega),q0I (by omega) (by omega),q14];simp
def qid {j:Nat} (hn:n≤100) (hj:j < n):stT n S (j+30000)=some ⟨43,none,rU n S.u j,false⟩:=by
 unfold stT;rw [q0I (by omega) (by omega),q0I (by omega) (by omega),q1H (by omega) hj]
def qpO {f:Nat→Nat} (hn:n≤100) (hf:∀ j,f j=n):q5h (stT n S) n 30000 none f=some ((List.range n).map fun j=>.sl none (rU n S.u j),(List.range n).map (·+30000)):=by
 unfold stT;rw [q4W (by omega) (by omega),q4W (by omega) (by omega),q50 (by omega),cO,if_pos fun j _=>q6F]
 congr 2
 refine List.map_congr_left fun j _=>?_;rw [hf j]
 congr 1
 exact q83
def qig (hn:n≤100):stT n S 6003=some ⟨137,none,(List.range n).map fun j=>.ow (j+40000) none 0 n,false⟩:=by
 unfold stT;rw [q0I (by omega) (by omega),q0I (by omega) (by omega),q0I (by omega) (by omega),q14];simp
def qic {j:Nat} (hn:n≤100) (hj:j < n):stT n S (j+40000)=some ⟨4,none,rB n S.iU j,false⟩:=by
 unfold stT;rw [q0I (by omega) (by omega),q0I (by omega) (by omega),q0I (by omega) (by omega),q1H (by omega) hj]
def qpN {f:Nat→Nat} (hn:n≤100) (hf:∀ j,f j=n):q5h (stT n S) n 40000 none f=some ((List.range n).map fun j=>.sl none (rB n S.iU j),(List.range n).map (·+40000)):=by
 unfold stT;rw [q4W (by omega) (by omega),q4W (by omega) (by omega),q4W (by omega) (by omega),q50 (by omega),cO,if_pos fun j _=>qbv]
 congr 2
 refine List.map_congr_left fun j _=>?_;rw [hf j]
 congr 1
 exact q83
def qkc (hn:n≤100):q5h (stT n S) n 10000 none (fun _=>n)=some ((List.range n).map fun j=>.sl none (rU n S.l j),(List.range n).map (·+10000)):=qpQ hn fun _=>rfl
def qkb (hn:n≤100):q5h (stT n S) n 20000 none (fun _=>n)=some ((List.range n).map fun j=>.sl none (rB n S.iL j),(List.range n).map (·+20000)):=qpP hn fun _=>rfl
def qka (hn:n≤100):q5h (stT n S) n 30000 none (fun _=>n)=some ((List.range n).map fun j=>.sl none (rU n S.u j),(List.range n).map (·+30000)):=qpO hn fun _=>rfl
def qk9 (hn:n≤100):q5h (stT n S) n 40000 none (fun _=>n)=some ((List.range n).map fun j=>.sl none (rB n S.iU j),(List.range n).map (·+40000)):=qpN hn fun _=>rfl
attribute [go_sem ↓] q5p qij qii qih qig qif qie qid qic qkc qkb qka qk9
variable {J:Nat→Prop} {s:Nat→PV} {h:Hp} {xs kv:List (Nat × PV)} {bs:List (Nat × Bk)} {kb:List (Nat × Option Bk)}
def q96 {i:Nat} {b:Bk} (hb:stT n S i=some b):6000≤i:=by
 rcases Nat.lt_or_ge i 6000 with h | h
 ·rw [q5p h] at hb; cases hb
 ·exact h
def q97 {o r:Nat} (hn:n≤100) (h5:5000 < r) (h6:r < 6000) (hJ:∀ i,J i→i≠r) (hq:∀ i,6000≤i→win i→h i=stT n S i) (h0:h 5000=some (q2c n o S.rows.length)) (h1:h o=some (rwB S.rows)) (ho:o < 5000∨(5000 < o∧o < 6000∧o≠r)) (hl:nmW o o (bs.map (·.1) ++ kb.map (·.1)))
  (hh:q4e (tnU r o) h (q0m (q0i n S r) (hpM bs kb)) s xs∧q4e (tnU r o) h (q0m (q0i n S r) (hpM bs kb)) s kv∧qbl (tnU r o) h (q0m (q0i n S r) (hpM bs kb)) bs∧q8W (tnU r o) h (q0m (q0i n S r) (hpM bs kb)) kb):Le J s h (stM xs kv) (q0m (q0i n S r) (hpM bs kb)):=by
 have tr:tnU r o r=some o:=if_pos rfl;have tI:∀ i,i≠r→tnU r o i=some i:=fun i a=>if_neg a;have hl:=fun i hi=>q4H hl i hi;have hex:∀ i,win i→∀ b,q0i n S r i=some b→∃ b,q0m (q0i n S r) (hpM bs kb) i=some b:=fun i hi b hb=>⟨b,by rw [q0T hi]; exact hb⟩;refine LeT (tnU r o) (fun i q=>tI i (hJ i q)) (fun i hi hw=>?_) (fun i b hw hb=>?_) (fun i j k' hi hj ti tj=>?_) hh
 ·have:=(hl i hi).1; unfold win at hw; omega
 ·have hb2:=hb;unfold q0i q0O at hb
  split at hb
  ·rename_i e; subst e; cases hb;unfold LeB;rw [tr];exact ⟨_,h1,rfl,rfl,⟨rfl,rfl⟩,q0R rfl clRw⟩
  ·rename_i e
   split at hb
   ·rename_i e2; subst e2; cases hb;unfold LeB;rw [tI _ e];refine ⟨_,h0,rfl,rfl,⟨rfl,rfl⟩,?_⟩;unfold q2c;simp only;rw [q9R];obtain ⟨q1,q2,q3,q4⟩:=qkd (S:=S) hn;have hx:∀ i,6000≤i→win i→stT n S i≠none→∃ b,q0m (q0i n S r) (hpM bs kb) i=some b:=fun i hi hw hq=>by
     obtain ⟨b,hb⟩:=Option.ne_none_iff_exists'.1 hq;exact hex i hw b (by unfold q0i; rw [q0A (by omega),q0A (by omega)]; exact hb)
    rw [qfG,q2j,q2j,q2j,q2j,q2j,q3C,q3C,q3C,q3C,q3C,tr,tI _ (by omega),tI _ (by omega),tI _ (by omega),tI _ (by omega)];exact ⟨⟨rfl,hex r ⟨by omega,by omega⟩ _ q0J,rfl,rfl,rfl⟩,⟨rfl,hx _ Oq ⟨by omega,by omega⟩ q1,rfl,rfl,rfl⟩,⟨rfl,hx _ Oq ⟨by omega,by omega⟩ q2,rfl,rfl,rfl⟩,⟨rfl,hx _ Oq ⟨by omega,by omega⟩ q3,rfl,rfl,rfl⟩,⟨rfl,hx _ Oq ⟨by omega,by omega⟩ q4,rfl,rfl,rfl⟩,trivial⟩
   ·obtain ⟨q1,q2,q3⟩:=(q7b hn).b i b hb;have hi6:=q96 hb;unfold LeB;rw [tI i e];refine ⟨b,(hq i hi6 hw).trans hb,rfl,rfl,⟨q2,q2⟩,LeL_self (fun j hj=>?_) _ q3⟩;obtain ⟨c,hc⟩:=Option.ne_none_iff_exists'.1 hj;have hj6:=q96 hc;exact ⟨tI j (by omega),hex j ((q7b hn).b j c hc).1 c (by unfold q0i; rw [q0A (by omega),q0A (by omega)]; exact hc)⟩
 ·have a:∀ i,(win i∧q0i n S r i≠none∨i ∈ bs.map (·.1) ++ kb.map (·.1))→i≠o:=fun i hi=>by
   rcases hi with ⟨q,hi⟩ | hi
   ·rintro rfl;unfold win at q;refine hi ?_;unfold q0i;rw [q0A (by omega),q0A (by omega),q5p (by omega)]
   ·exact (hl i hi).2.1
  have a1:=a i hi;have a2:=a j hj;unfold tnU at ti tj
  split at ti <;> split at tj <;> cases ti <;> cases tj <;> first | omega | rfl | exact (a1 rfl).elim | exact (a2 rfl).elim
end
end Go.Proofs.YtjfjjmfhfbapeaaGreatDoor
