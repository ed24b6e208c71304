/-
  Rules of the abstract run, plain laws, and what functions answer, for the law RepairJoins.
  Conditions: none.
-/
import Derived.Test.YtmniihkenijjpaaGreatDoorX7
set_option linter.all false
namespace Go.Sw
open Go
set_option linter.unusedSimpArgs false
theorem Qe:IntKind.i64.wrap (0+1)=1:=by decide
theorem IU:IntKind.i64.wrap (1+1)=2:=by decide
theorem Yp{b:Bool}{k:Bool→Prop}(e:b=true)(h:k true):OnB b k:=⟨λ_=>h,λh'=>by rw[e]at h';cases h'⟩
theorem Gm{b:Bool}{k:Bool→Prop}(e:b=false)(h:k false):OnB b k:=⟨λh'=>(by rw[e]at h';cases h'),λ_=>h⟩
def Gz(x y:Int):Int:=(x*y)/65536
def uN(x y:Int):Int:=-((-(x*y))/65536)
theorem IW(x y:Int):Gz x y≤uN x y:=by unfold Gz uN;omega
theorem PN(x y:Int):NG x y=(Gz x y,uN x y):=by
 have e:x*y=if(decide (x<0) != decide (y<0))=true then -((SA x y:Nat):Int)else((SA x y:Nat):Int):=by
  unfold SA;rw[XM]
  by_cases h1:x<0<;>by_cases h2:y<0<;>simp only[h1,h2]
  ·have e1:(x.natAbs:Int) = -x:=by omega
   have e2:(y.natAbs:Int) = -y:=by omega
   rw[e1,e2];simp[Int.neg_mul,Int.mul_neg,Int.neg_neg]
  ·have e1:(x.natAbs:Int) = -x:=by omega
   have e2:(y.natAbs:Int)=y:=by omega
   rw[e1,e2];simp[Int.neg_mul,Int.mul_neg,Int.neg_neg]
  ·have e1:(x.natAbs:Int)=x:=by omega
   have e2:(y.natAbs:Int) = -y:=by omega
   rw[e1,e2];simp[Int.neg_mul,Int.mul_neg,Int.neg_neg]
  ·have e1:(x.natAbs:Int)=x:=by omega
   have e2:(y.natAbs:Int)=y:=by omega
   rw[e1,e2];simp[Int.neg_mul,Int.mul_neg,Int.neg_neg]
 unfold NG Gz uN;generalize SA x y=p at *;generalize(decide (x<0) != decide (y<0))=s at *;rw[e];cases s<;>by_cases hm:p%65536=0<;>simp only[hm,if_true,if_false]<;>(refine Prod.ext ?_ ?_<;>simp<;>omega)
theorem FV{x y:Int}(h:(uP x y).2.2=true):(uP x y).1=Gz x y∧(uP x y).2.1=uN x y∧-2305843009213693952≤Gz x y∧uN x y≤2305843009213693952:=by
 unfold uP at *;rw[PN]at *;split at h
 ·exact absurd h (by simp)
 ·rename_i g;rw[if_neg g];exact⟨rfl,rfl,of_decide_eq_true h⟩
theorem abH{x y:Int}(h:¬(uP x y).2.2=true):¬(-2305843009213693952≤Gz x y∧uN x y≤2305843009213693952):=by
 have q:=PN x y;unfold uP at h;rw[q]at h;split at h
 ·rename_i g;unfold NG at q;generalize SA x y=p at *;intro⟨h1,h2⟩;generalize(decide (x<0) != decide (y<0))=s at *;have q1:=congrArg Prod.fst q;have q2:=congrArg Prod.snd q;cases s<;>by_cases hm:p%65536=0<;>simp only[hm,if_true,if_false]at q1 q2<;>simp at q1 q2<;>omega
 ·intro⟨h1,h2⟩;exact h (decide_eq_true ⟨h1,h2⟩)
def sH(a b:Int×Int):Option (Int×Int) :=
 SH (min (min (Gz a.1 b.1) (Gz a.1 b.2)) (min (Gz a.2 b.1) (Gz a.2 b.2))) (max (max (uN a.1 b.1) (uN a.1 b.2)) (max (uN a.2 b.1) (uN a.2 b.2)))
theorem nb{b:Bool}(h:(!b)=true):¬b=true:=by cases b<;>simp_all
theorem nb'{b:Bool}(h:(!b)=false):b=true:=by cases b<;>simp_all
theorem W9(u v:Int):List.foldl (λx y=>if y<x then y else x) u [v]=min u v:=by
 show(if v<u then v else u)=min u v;split<;>omega
theorem UW(u v:Int):List.foldl (λx y=>if y>x then y else x) u [v]=max u v:=by
 show(if v>u then v else u)=max u v;split<;>omega
theorem wO{a b c d x y:Int}(hx:x=a∨x=b)(hy:y=c∨y=d)(h:(!(uP x y).2.2)=true):sH (a,b) (c,d)=none:=by
 have:=abH (nb h);apply Gv;rcases hx with rfl|rfl<;>rcases hy with rfl|rfl<;>simp only<;>omega
theorem UR{a b c d:Int}(h1:(!(uP a c).2.2)=false)(h2:(!(uP a d).2.2)=false)(h3:(!(uP b c).2.2)=false)(h4:(!(uP b d).2.2)=false):
 aA [AV.agg [Cell.v (Value.int .i64 (min (min (min (min 2305843009213693952 (uP a c).1) (uP a d).1) (uP b c).1) (uP b d).1)),Cell.v (Value.int .i64 (max (max (max (max (-2305843009213693952) (uP a c).2.1) (uP a d).2.1) (uP b c).2.1) (uP b d).2.1))],AV.c (Cell.v (Value.bool true))]=Ov (sH (a,b) (c,d)):=by
 obtain⟨e1,e2,e3,e4⟩:=FV (nb' h1);obtain⟨f1,f2,f3,f4⟩:=FV (nb' h2);obtain⟨g1,g2,g3,g4⟩:=FV (nb' h3);obtain⟨k1,k2,k3,k4⟩:=FV (nb' h4);have d1:=IW a c;have d2:=IW a d;have d3:=IW b c;have d4:=IW b d;rw[e1,e2,f1,f2,g1,g2,k1,k2];unfold sH;rw[OY (by simp only;omega) (by simp only;omega)];refine ovE ?_ ?_ rfl<;>simp only[Eo]<;>omega
@[reducible] def Q3(a b c:Rat):AV:=.agg [zs a.num,zl a.num,zs a.den,zl a.den,zs b.num,zl b.num,zs b.den,zl b.den,zs c.num,zl c.num,zs c.den,zl c.den]
def nJ(a b c:Rat):Option (Int×Int) :=
 match dS a with
 |none=>none
 |some x=>if b=0 then some x else
  match dS b,dS c with
  |some y,some z=>if c<0 then none else
   match ny z with
   |none=>none
   |some s=>match sH y s with
    |none=>none
    |some p=>vK x p
  |_,_=>none
def hw(a b c d:Int):Nat→Int
 |0=>0|1=>uN a c|2=>max (uN a c) (uN a d)|3=>max (max (uN a c) (uN a d)) (uN b c)|_=>max (max (max (uN a c) (uN a d)) (uN b c)) (uN b d)
def kI:Nat→Int|0=>0|1=>1|_=>2
theorem hw1(a b c d:Int):hw a b c d 1=uN a c:=rfl
theorem hw2(a b c d:Int):hw a b c d 2=max (uN a c) (uN a d):=rfl
theorem k1:some (AV.int .i64 (IntKind.i64.wrap (0+1)))=some (AV.int .i64 (kI 1)):=by rw[Qe];rfl
theorem k2:some (AV.int .i64 (IntKind.i64.wrap (1+1)))=some (AV.int .i64 (kI 2)):=by rw[IU];rfl
@[reducible] def Q5(a b c d e:Rat):AV:=.agg [zs a.num,zl a.num,zs a.den,zl a.den,zs b.num,zl b.num,zs b.den,zl b.den,zs c.num,zl c.num,zs c.den,zl c.den,zs d.num,zl d.num,zs d.den,zl d.den,zs e.num,zl e.num,zs e.den,zl e.den]
def Gw(x:Int×Int):Prop:=-2305843009213693952≤x.1∧x.1≤x.2∧x.2≤2305843009213693952
theorem jH(a:Rat):Gw ((dS a).getD (0,0)):=XE a
theorem Ar(x y:Int×Int):Gw ((sH x y).getD (0,0)):=Gt _ rfl (by have:=IW x.1 y.1;omega)
theorem Ub{x:Int×Int}(h:Gw x):Gw ((ny x).getD (0,0)):=by
 unfold ny;split
 ·exact⟨by decide,by decide,by decide⟩
 ·rename_i g;refine Gt _ rfl ?_;have:=Oc (l:=max x.1 0) (h:=x.2) (by omega) (by unfold Gw at h;omega);have:=(WQ (n:=x.2) (by omega)).1;omega
theorem Ho{x y:Int×Int}(h1:Gw x)(h2:Gw y):Gw ((vK x y).getD (0,0)):=Gt _ rfl (by unfold Gw at *;omega)
theorem J9(a b c:Rat):Gw ((nJ a b c).getD (0,0)):=by
 have h0:Gw (0,0):=⟨by decide,by decide,by decide⟩
 unfold nJ;have ha:=jH a;have hb:=jH b;have hc:=jH c;split
 ·exact h0
 ·rename_i x hx;rw[hx]at ha;split
  ·exact ha
  ·split
   ·rename_i y z hy hz;split
    ·exact h0
    ·split
     ·exact h0
     ·split
      ·exact h0
      ·rename_i s hs _ p hp;refine Ho ha ?_;have:=Ar y s;rw[hp]at this;exact this
   ·exact h0
theorem ae4{o:Option (Int×Int)}(e:(none:Option (Int×Int))=o):aA [AV.agg [Cell.v (Value.int .i64 0),Cell.v (Value.int .i64 0)],AV.c (Cell.v (Value.bool false))]=Ov o:=by subst e;rfl
end Go.Sw
namespace Go.Sw
open Go
theorem nP(a:Rat):-1≤bG a∧bG a≤1:=by unfold bG;split<;>(try split)<;>omega
theorem BF(a b:Rat):-1≤iV a b∧iV a b≤1:=by unfold iV;split<;>(try split)<;>omega
theorem oz{x y:Int}(h1 : -1≤x∧x≤1)(h2 : -1≤y∧y≤1):-1≤x*y∧x*y≤1:=by
 have a:x = -1∨x=0∨x=1:=by omega
 rcases a with rfl|rfl|rfl<;>omega
theorem aho(a b:Rat):IntKind.i64.wrap (bG a*bG b)=bG a*bG b:=by
 have:=oz (nP a) (nP b);exact bP (by omega) (by omega)
theorem ahh(a b c:Rat):IntKind.i64.wrap (bG a*iV b c)=bG a*iV b c:=by
 have:=oz (nP a) (BF b c);exact bP (by omega) (by omega)
def rD(a b c:Rat):Int :=
 if bG a=bG b*bG c∨bG b*bG c=0 then bG a
 else if bG a=0 then bG b*bG c
 else bG a*iV (a*a) (b*b*c)
theorem ahj{a b c:Rat}(g1:¬bG a=bG b*bG c)(g2:¬bG b*bG c=0)(g3:¬bG a=0):rD a b c=bG a*iV (a*a) (b*b*c):=by
 unfold rD;rw[if_neg (λh=>h.elim g1 g2),if_neg g3]
theorem RH(n:Int)(h1 : -9223372036854775808≤n)(h2:n≤9223372036854775807):rz (n:Rat)≤4:=by
 have:=qH n;have:=kM h1 h2;omega
theorem agy(n d:Int)(h0:d≠0)(h1 : -9223372036854775808≤n∧n≤9223372036854775807)(h2 : -9223372036854775808≤d∧d≤9223372036854775807):rz ((n:Rat)/(d:Rat))≤6:=by
 have:=FZ (n:=n) h0;have:=kM h1.1 h1.2;have:=kM h2.1 h2.2;omega
abbrev aby:=Bool×List Nat×Bool×List Nat
def okr(k:Int)(r:aby):Bool:=decide ((r.2.1.length:Int)≤k)&&(decide ((r.2.2.2.length:Int)≤k)&&jv r.1 r.2.1 r.2.2.1 r.2.2.2)
theorem ae0{k:Int}{r:aby}(h:(r.2.1.length:Int)>k):okr k r=false:=by
 unfold okr;rw[decide_eq_false (by omega)];rfl
theorem adz{k:Int}{r:aby}(h:(r.2.2.2.length:Int)>k):okr k r=false:=by
 unfold okr;rw[decide_eq_false (p:=(r.2.2.2.length:Int)≤k) (by omega)];simp
theorem ML{a b x k L:Rat}(h1:a≤x)(h2:x≤b)(p:L≤a*k)(q:L≤b*k):L≤x*k:=by
 rcases Lr (a:=0) (b:=k)with hk|hk
 ·have:=Rat.mul_le_mul_of_nonneg_right h1 hk;grind
 ·have:=Rat.mul_le_mul_of_nonneg_right h2 (show 0≤-k by grind);grind
theorem Xz{a b c d x y L:Rat}(h1:a≤x)(h2:x≤b)(h3:c≤y)(h4:y≤d)(p1:L≤a*c)(p2:L≤a*d)(p3:L≤b*c)(p4:L≤b*d):L≤x*y:=by
 apply ML h1 h2
 ·rw[Rat.mul_comm];exact ML h3 h4 (by rw[Rat.mul_comm];exact p1) (by rw[Rat.mul_comm];exact p2)
 ·rw[Rat.mul_comm];exact ML h3 h4 (by rw[Rat.mul_comm];exact p3) (by rw[Rat.mul_comm];exact p4)
theorem aaW{a b c d x y L:Rat}(h1:a≤x)(h2:x≤b)(h3:c≤y)(h4:y≤d)(p1:a*c≤L)(p2:a*d≤L)(p3:b*c≤L)(p4:b*d≤L):x*y≤L:=by
 have:=Xz (L:=-L) (a:=-b) (b:=-a) (x:=-x) (y:=y) (c:=c) (d:=d) (by grind) (by grind) h3 h4 (by grind) (by grind) (by grind) (by grind)
 grind
theorem abl(x y:Int):((Gz x y:Int):Rat)*65536≤(x:Rat)*(y:Rat):=by
 have h:((Gz x y*65536:Int):Rat)≤((x*y:Int):Rat):=SN.2 (by unfold Gz;omega);rw[QW,QW]at h;exact h
theorem acy(x y:Int):(x:Rat)*(y:Rat)≤((uN x y:Int):Rat)*65536:=by
 have h:((x*y:Int):Rat)≤((uN x y*65536:Int):Rat):=SN.2 (by unfold uN;omega);rw[QW,QW]at h;exact h
def con(p:Int×Int)(q:Rat):Prop:=(p.1:Rat)≤q*65536∧q*65536≤(p.2:Rat)
theorem xJ{l h:Int}{p:Int×Int}(e:SH l h=some p):p=(l,h):=by
 unfold SH at e;split at e
 ·injection e with e;exact e.symm
 ·cases e
theorem qj{x y p:Int×Int}{u v:Rat}(e:vK x y=some p)(hu:con x u)(hv:con y v):con p (u+v):=by
 have:=xJ e;subst this;unfold con at *;simp only[Rat.intCast_add];obtain⟨h1,h2⟩:=hu;obtain⟨h3,h4⟩:=hv;constructor<;>grind
theorem zY{x y p:Int×Int}{u v:Rat}(e:sH x y=some p)(hu:con x u)(hv:con y v):con p (u*v):=by
 have:=xJ e;subst this;unfold con at *;obtain⟨h1,h2⟩:=hu;obtain⟨h3,h4⟩:=hv;simp only;generalize hl:min (min (Gz x.1 y.1) (Gz x.1 y.2)) (min (Gz x.2 y.1) (Gz x.2 y.2))=l;generalize hh:max (max (uN x.1 y.1) (uN x.1 y.2)) (max (uN x.2 y.1) (uN x.2 y.2))=h
 have lo:∀a c:Int,l≤Gz a c→(l:Rat)*65536≤(a:Rat)*(c:Rat):=λa c hd=>by
  have k1:=abl a c;have k2:=SN.2 hd
  grind
 have hi:∀a c:Int,uN a c≤h→(a:Rat)*(c:Rat)≤(h:Rat)*65536:=λa c hd=>by
  have k1:=acy a c;have k2:=SN.2 hd
  grind
 have b1:=Xz h1 h2 h3 h4 (lo _ _ (by omega)) (lo _ _ (by omega)) (lo _ _ (by omega)) (lo _ _ (by omega));have b2:=aaW h1 h2 h3 h4 (hi _ _ (by omega)) (hi _ _ (by omega)) (hi _ _ (by omega)) (hi _ _ (by omega));constructor<;>grind
theorem c65:((65536:Int):Rat)=65536:=by decide +kernel
theorem c1:((1:Int):Rat)=1:=by decide +kernel
theorem Xa{x p:Int×Int}{q:Rat}(e:ny x=some p)(hx:con x q)(h0:0≤q):
 (p.1:Rat)*(p.1:Rat)≤q*(65536*65536)∧q*(65536*65536)≤(p.2:Rat)*(p.2:Rat)∧0≤p.1∧p.1≤p.2:=by
 unfold ny at e;split at e
 ·cases e
 ·rename_i g;have:=xJ e;subst this;unfold con at hx;obtain⟨h1,h2⟩:=hx
  have hle:max x.1 0≤x.2:=by
   have:((x.1:Int):Rat)≤(x.2:Rat):=Rat.le_trans h1 h2;have:=SN.1 this;omega
  have r1:=IQ (n:=max x.1 0) (by omega);have r2:=WQ (n:=x.2) (by omega);have r3:=Oc (l:=max x.1 0) (h:=x.2) (by omega) hle
  have hm:((max x.1 0:Int):Rat)≤q*65536:=by
   rcases Int.le_total x.1 0 with h|h
   ·rw[show max x.1 0=0 by omega];have:((0:Int):Rat)=0:=rfl;rw[this];grind
   ·rw[show max x.1 0=x.1 by omega];exact h1
  have k1:=SN.2 r1.2.1;have k2:=SN.2 r2.2.2;rw[QW,QW,c65]at k1 k2;refine⟨by simp only;grind,by simp only;grind,r1.1,by simp only;omega⟩
def sub(x y:Int×Int):Prop:=x.1≤y.1∧y.1≤y.2∧y.2≤x.2
theorem PY{x:Int×Int}{n:Int}(h1:x.1≤n)(h2:n≤x.2):con x ((n:Rat)*(1/65536)):=by
 have k1:=SN.2 h1;have k2:=SN.2 h2;unfold con;constructor<;>grind
theorem lN{a:Rat}{x:Int×Int}(e:dS a=some x):con x a:=by
 have:=xJ e;subst this;unfold con upR;rw[c65];simp only;refine⟨Rat.floor_le _, ?_⟩;have:=Rat.floor_le (-(a*65536));rw[Rat.intCast_neg]
 grind
theorem Qk{x:Int×Int}{q:Rat}(h:con x q):con (-x.2,-x.1) (-q):=by
 unfold con at *;simp only[Rat.intCast_neg];constructor<;>grind
theorem Zq{p:Int×Int}{q:Rat}{n:Int}(h:Ll p.1 p.2=(n,true))(hq:con p q):bG q=n:=by
 obtain⟨h1,h2⟩:=hq;unfold Ll at h;have z:((0:Int):Rat)=0:=rfl;split at h
 ·rename_i g;injection h with h3 h4
  subst h3;have:=Rat.intCast_lt_intCast.2 g;rw[z]at this;exact pO.2 (by grind)
 ·split at h
  ·rename_i g;injection h with h3 h4
   subst h3;have:=Rat.intCast_lt_intCast.2 g;rw[z]at this;have hq:q<0:=by grind
   unfold bG;rw[if_pos hq]
  ·injection h with h3 h4
   subst h3;have g:=of_decide_eq_true h4;rw[g.1,z]at h1;rw[g.2,z]at h2;exact iM.2 (by grind)
theorem fJ(q:Rat):(q<0∧bG q = -1)∨(q=0∧bG q=0)∨(0<q∧bG q=1):=by
 unfold bG
 by_cases h1:q<0
 ·rw[if_pos h1];exact .inl ⟨h1,rfl⟩
 ·rw[if_neg h1]
  by_cases h2:q=0
  ·rw[if_pos h2];exact .inr (.inl ⟨h2,rfl⟩)
  ·rw[if_neg h2];exact .inr (.inr ⟨by grind,rfl⟩)
theorem Jv{x y:Rat}(h0:0≤x)(h:x<y):x*x<y*y:=by
 have a1:=Rat.mul_le_mul_of_nonneg_left (Rat.le_of_lt h) h0;have a2:=Rat.mul_lt_mul_of_pos_right h (show 0<y by grind)
 grind
theorem zB(x:Rat):0≤x*x:=by
 rcases Lr (a:=0) (b:=x)with h|h
 ·exact zC h h
 ·have:=zC (show 0≤-x by grind) (show 0≤-x by grind);grind
theorem Ns{a b:Rat}(h:b<a):iV a b=1:=by unfold iV;rw[if_neg (by grind),if_pos h]
theorem Md{a b:Rat}(h:a<b):iV a b = -1:=by unfold iV;rw[if_pos h]
theorem XA{a b:Rat}(h:a=b):iV a b=0:=KH.2 h
theorem P7{A B C s1 s2:Rat}{n:Int}(p1:0≤s1)(p2:s1≤s2)(q1:s1*s1≤C)(q2:C≤s2*s2)(h1:bG (A+B*s1)=n)(h2:bG (A+B*s2)=n):rD A B C=n:=by
 have hC:0≤C:=Rat.le_trans (zB s1) q1;have bb:=zB B;have m1:B*B*(s1*s1)≤B*B*C:=Rat.mul_le_mul_of_nonneg_left q1 bb;have m2:B*B*C≤B*B*(s2*s2):=Rat.mul_le_mul_of_nonneg_left q2 bb;have p3:0≤s2:=Rat.le_trans p1 p2;unfold rD;rcases fJ C with⟨c1,c2⟩|⟨c1,c2⟩|⟨c1,c2⟩
 ·grind
 ·rw[c2,Int.mul_zero,if_pos (.inr rfl)]
  have:s1=0:=by
   rcases fJ s1 with⟨k,_⟩|⟨k,_⟩|⟨k,_⟩
   ·grind
   ·exact k
   ·have:=Am k k;grind
  subst this;rw[←h1];congr 1;grind
 ·have p4:0<s2:=by
   rcases fJ s2 with⟨k,_⟩|⟨k,_⟩|⟨k,_⟩
   ·grind
   ·subst k;grind
   ·exact k
  rw[c2,Int.mul_one];rcases fJ B with⟨b1,b2⟩|⟨b1,b2⟩|⟨b1,b2⟩<;>rcases fJ A with⟨a1,a2⟩|⟨a1,a2⟩|⟨a1,a2⟩<;>rw[a2,b2]
  ·have k:=zC (show 0≤-B by grind) p1;have:A+B*s1<0:=by grind
   rw[←h1];unfold bG;rw[if_pos this];rfl
  ·have k:=Am (show 0 < -B by grind) p4;have:A+B*s2<0:=by grind
   rw[←h2];unfold bG;rw[if_pos this];rfl
  ·have k1:=zC (show 0≤-B by grind) p1;have k2:=zC (show 0≤-B by grind) p3;rcases fJ (A+B*s1)with⟨u1,u2⟩|⟨u1,u2⟩|⟨u1,u2⟩
   ·rw[h1]at u2;subst u2;have:=Jv (x:=A) (y:=-B*s1) (by grind) (by grind);rw[Md (by grind)];rfl
   ·rw[h1]at u2;subst u2;have v:=iM.1 h2
    have e:A*A=B*B*(s1*s1):=by have:A = -B*s1:=by grind
                               subst this;grind
    have e2:A*A=B*B*(s2*s2):=by have:A = -B*s2:=by grind
                                subst this;grind
    rw[XA (by grind)];rfl
   ·rw[h1]at u2;subst u2;have v:=pO.1 h2;have:=Jv (x:=-B*s2) (y:=A) (by grind) (by grind);rw[Ns (by grind)];rfl
  ·subst b1;rw[←h1];have:A+0*s1=A:=by grind
   rw[this,a2];rfl
  ·subst b1;rw[←h1];have:A+0*s1=A:=by grind
   rw[this,a2];rfl
  ·subst b1;rw[←h1];have:A+0*s1=A:=by grind
   rw[this,a2];rfl
  ·have k1:=zC (show 0≤B by grind) p1;have k2:=zC (show 0≤B by grind) p3;rcases fJ (A+B*s1)with⟨u1,u2⟩|⟨u1,u2⟩|⟨u1,u2⟩
   ·rw[h1]at u2;subst u2
    have v:A+B*s2<0:=by
     rcases fJ (A+B*s2)with⟨t1,t2⟩|⟨t1,t2⟩|⟨t1,t2⟩
     ·exact t1
     ·rw[h2]at t2;cases t2
     ·rw[h2]at t2;cases t2
    have:=Jv (x:=B*s2) (y:=-A) (by grind) (by grind);rw[Ns (by grind)];rfl
   ·rw[h1]at u2;subst u2;have v:=iM.1 h2
    have e:A*A=B*B*(s1*s1):=by have:A = -B*s1:=by grind
                               subst this;grind
    have e2:A*A=B*B*(s2*s2):=by have:A = -B*s2:=by grind
                                subst this;grind
    rw[XA (by grind)];rfl
   ·rw[h1]at u2;subst u2;have:=Jv (x:=-A) (y:=B*s1) (by grind) (by grind);rw[Md (by grind)];rfl
  ·have k:=Am (show 0<B by grind) p4;rw[←h2,pO.2 (by grind)];rfl
  ·have k:=zC (show 0≤B by grind) p1;rw[←h1,pO.2 (by grind)];rfl
theorem Ul{a b c:Rat}{p:Int×Int}(e:nJ a b c=some p):
 (b=0∧con p a)∨(0≤c∧∃s1 s2:Rat,0≤s1∧s1≤s2∧s1*s1≤c∧c≤s2*s2∧(∃w z,dS c=some z∧ny z=some w∧s1=(w.1:Rat)*(1/65536)∧s2=(w.2:Rat)*(1/65536))∧con p (a+b*s1)∧con p (a+b*s2)):=by
 unfold nJ at e;cases ha:dS a with
 |none=>rw[ha]at e;cases e
 |some x =>
  rw[ha]at e;simp only at e
  by_cases hb:b=0
  ·rw[if_pos hb]at e;injection e with e
   subst e;exact .inl ⟨hb,lN ha⟩
  ·rw[if_neg hb]at e;right;cases hy:dS b with
   |none=>rw[hy]at e;cases e
   |some y =>
    cases hz:dS c with
    |none=>rw[hy,hz]at e;cases e
    |some z =>
     rw[hy,hz]at e;simp only at e;split at e
     ·cases e
     ·rename_i hc;have h0:0≤c:=by grind
      cases hw:ny z with
      |none=>rw[hw]at e;cases e
      |some w =>
       rw[hw]at e;simp only at e;cases hp:sH y w with
       |none=>rw[hp]at e;cases e
       |some m =>
        rw[hp]at e;simp only at e;obtain⟨k1,k2,k3,k4⟩:=Xa hw (lN hz) h0;have j1:=SN.2 k3;have j2:=SN.2 k4;have z0:((0:Int):Rat)=0:=rfl;rw[z0]at j1;refine⟨h0,(w.1:Rat)*(1/65536),(w.2:Rat)*(1/65536),by grind,by grind,by grind,by grind,⟨w,z,rfl,hw,rfl,rfl⟩, ?_, ?_⟩
        ·exact qj e (lN ha) (zY hp (lN hy) (PY (by omega) (by omega)))
        ·exact qj e (lN ha) (zY hp (lN hy) (PY (by omega) (by omega)))
theorem Ui{a c:Rat}:rD a 0 c=bG a:=by
 unfold rD;have:bG 0=0:=iM.2 rfl;rw[this,Int.zero_mul,if_pos (.inr rfl)]
class RzB (q:Rat) (n:outParam Nat):Prop where
 h:rz q≤n
theorem xI{q:Rat}{n N:Nat}[k:RzB q n](h:n≤N):rz q≤N:=dh k.h h
instance{a b:Rat}{m n:Nat}[h:RzB a m][k:RzB b n]:RzB (a+b) (2*(m+n)+1):=⟨by have:=rP a b;have:=h.h;have:=k.h;omega⟩
instance{a b:Rat}{m n:Nat}[h:RzB a m][k:RzB b n]:RzB (a-b) (2*(m+n)+1):=⟨by have:=vO a b;have:=h.h;have:=k.h;omega⟩
instance{a b:Rat}{m n:Nat}[h:RzB a m][k:RzB b n]:RzB (a*b) (m+n):=⟨by have:=oD a b;have:=h.h;have:=k.h;omega⟩
theorem ZI{A B C t m:Rat}{n:Int}(h0:0≤t)(h1:t*t≤C)(h2:0≤m)(h3:C≤m*m)(k1:bG (A+B*t)=n)(k2:bG (A+B*m)=n):rD A B C=n:=by
 have htm:t≤m:=by
  rcases Lr (a:=t) (b:=m)with h|h
  ·exact h
  ·rcases Lr (a:=m) (b:=t)with h'|h'
   ·by_cases e:m=t
    ·grind
    ·have:=Jv h2 (show m<t by grind)
     grind
   ·exact h'
 exact P7 h0 htm h1 h3 k1 k2
theorem Yk{x y l:Rat}{n:Int}(h0:0≤l)(h1:l≤1)(hx:bG x=n)(hy:bG y=n):bG (x+l*(y-x))=n:=by
 have e:x+l*(y-x)=(1-l)*x+l*y:=by grind
 rw[e];rcases fJ x with⟨a1,a2⟩|⟨a1,a2⟩|⟨a1,a2⟩<;>rcases fJ y with⟨b1,b2⟩|⟨b1,b2⟩|⟨b1,b2⟩<;>rw[a2]at hx<;>rw[b2]at hy<;>subst hx<;>(try(exfalso;omega))
 ·have p1:=zC (show 0≤1-l by grind) (show 0≤-x by grind);have p2:=zC h0 (show 0≤-y by grind)
  have:(1-l)*x+l*y<0:=by
   by_cases hl:l=0
   ·subst hl;grind
   ·have:=Am (show 0<l by grind) (show 0 < -y by grind)
    grind
  unfold bG;rw[if_pos this]
 ·subst a1 b1;rw[Rat.mul_zero,Rat.mul_zero];exact iM.2 (by grind)
 ·have p1:=zC (show 0≤1-l by grind) (show 0≤x by grind);have p2:=zC h0 (show 0≤y by grind)
  have:0<(1-l)*x+l*y:=by
   by_cases hl:l=0
   ·subst hl;grind
   ·have:=Am (show 0<l by grind) b1
    grind
  exact pO.2 this
theorem qG{x y k:Rat}(hk:0<k)(h:x*k≤y*k):x≤y:=by
 rcases Lr (a:=x) (b:=y)with h'|h'
 ·exact h'
 ·by_cases e:x=y
  ·grind
  ·have:=Am (show 0<x-y by grind) hk;grind
theorem Zi{x y k:Rat}(hk:0<k)(h:x*k=y*k):x=y:=by
 have h1:=qG hk (show x*k≤y*k by grind);have h2:=qG hk (show y*k≤x*k by grind)
 grind
theorem AQ{x y z s t u:Rat}{n:Int}(h1:s≤u)(h2:u≤t)(hz:z*(t-s)=x*(t-u)+y*(u-s))(hx:bG x=n)(hy:bG y=n)(h3:s<t):bG z=n:=by
 obtain⟨l,hl⟩:∃l,l*(t-s)=u-s:=⟨(u-s)/(t-s),(by have hne:t-s≠0:=(by grind);grind)⟩
 have hk:0<t-s:=by grind
 have e:z=x+l*(y-x):=Zi hk (by grind);rw[e];refine Yk (qG hk (by grind)) (qG hk (by grind)) hx hy
theorem VR{P X W C s t:Rat}{n:Int}(h0:0≤s)(h1:s≤t)(h2:s*s≤C)(h3:C≤t*t)(hW:0≤W)
 (k1:bG (P+2*X*s+W*(s*s))=n) (k2:bG (P+X*(s+t)+W*(s*t))=n) (k3:bG (P+2*X*t+W*(t*t))=n):rD (P+W*C) (2*X) C=n:=by
 by_cases hst:s=t
 ·subst hst;have hC:C=s*s:=by grind
  subst hC;refine P7 h0 (Rat.le_refl) (Rat.le_refl) (Rat.le_refl) ?_ ?_<;>rw[←k1]<;>congr 1<;>grind
 ·have hlt:s<t:=by grind
  have ht:0<t:=by grind
  have hsum:0<s+t:=by grind
  have hs0:s+t≠0:=by grind
  obtain⟨t0,e0⟩:∃t0,t0*(s+t)=C+s*t:=⟨(C+s*t)/(s+t),by grind⟩
  have q1:=zC (show 0≤t-s by grind) h0
  have l1:s≤t0:=by
   rcases Lr (a:=s) (b:=t0)with h|h
   ·exact h
   ·by_cases e:s=t0
    ·grind
    ·have:=Am (show 0<s-t0 by grind) hsum;grind
  have l2:t0≤t:=by
   rcases Lr (a:=t0) (b:=t)with h|h
   ·exact h
   ·by_cases e:t=t0
    ·grind
    ·have:=Am (show 0<t0-t by grind) hsum;grind
  have l3:t0*t0≤C:=by
   have:=zC (show 0≤t0-s by grind) (show 0≤t-t0 by grind)
   grind
  have m0:bG (P+W*C+2*X*t0)=n:=AQ l1 l2 (by grind) k1 k3 hlt
  have up:∃m,0≤m∧C≤m*m∧bG (P+W*C+2*X*m)=n:=by
   rcases Lr (a:=s*t) (b:=C)with h|h
   ·
    have ht0:t≠0:=by grind
    obtain⟨u,eu⟩:∃u,u*t=C:=⟨C/t,by grind⟩
    have u1:s≤u:=by
     rcases Lr (a:=s) (b:=u)with h|h
     ·exact h
     ·by_cases e:s=u
      ·grind
      ·have:=Am (show 0<s-u by grind) ht;grind
    have u2:u≤t:=by
     rcases Lr (a:=u) (b:=t)with h|h
     ·exact h
     ·by_cases e:t=u
      ·grind
      ·have:=Am (show 0<u-t by grind) ht;grind
    refine⟨(u+t)*(1/2),by grind, ?_, ?_⟩
    ·have:=zB (t-u);grind
    ·have:=AQ (z:=P+X*(u+t)+W*(u*t)) u1 u2 (by grind) k2 k3 hlt;rw[←this];congr 1;grind
   ·
    by_cases hs:s=0
    ·subst hs;have hC:C=0:=by grind
     subst hC;refine⟨0,Rat.le_refl,by grind, ?_⟩;rw[←k1];congr 1;grind
    ·have hs1:0<s:=by grind
     obtain⟨u,eu⟩:∃u,s*u=C:=⟨C/s,by grind⟩
     have u1:s≤u:=by
      rcases Lr (a:=s) (b:=u)with h|h
      ·exact h
      ·by_cases e:s=u
       ·grind
       ·have:=Am (show 0<s-u by grind) hs1;grind
     have u2:u≤t:=by
      rcases Lr (a:=u) (b:=t)with h|h
      ·exact h
      ·by_cases e:t=u
       ·grind
       ·have:=Am (show 0<u-t by grind) hs1;grind
     refine⟨(s+u)*(1/2),by grind, ?_, ?_⟩
     ·have:=zB (u-s);grind
     ·have:=AQ (z:=P+X*(s+u)+W*(s*u)) u1 u2 (by grind) k1 k2 hlt;rw[←this];congr 1;grind
  obtain⟨m,m1,m2,m3⟩:=up;exact ZI (Rat.le_trans h0 l1) l3 m1 m2 m0 m3
def gJ(a b c f:Rat):Option (Int×Int) :=
 match nJ a b c,dS f with
 |some x,some y=>vK x (-y.2,-y.1)
 |_,_=>none
def kE(ax bx ay bb c X Y Q:Rat):Int×Bool :=
 match gJ ax bx c X,gJ ay bb c Y,dS Q with
 |some x,some y,some q=>(match sH x x,sH y y with
  |some s,some t=>(match vK s t with
   |some u=>(match vK u (-q.2,-q.1)with
    |some r=>Ll r.1 r.2
    |none=>(0,false))
   |none=>(0,false))
  |_,_=>(0,false))
 |_,_,_=>(0,false)
def FU(c s1 s2:Rat):Prop:=0≤c∧0≤s1∧s1≤s2∧s1*s1≤c∧c≤s2*s2∧∃w z,dS c=some z∧ny z=some w∧s1=(w.1:Rat)*(1/65536)∧s2=(w.2:Rat)*(1/65536)
theorem Qu{c s1 s2 t1 t2:Rat}(h:FU c s1 s2)(k:FU c t1 t2):s1=t1∧s2=t2:=by
 obtain⟨_,_,_,_,_,w,z,e1,e2,e3,e4⟩:=h;obtain⟨_,_,_,_,_,w',z',e1',e2',e3',e4'⟩:=k;rw[e1]at e1';injection e1' with e1'
 subst e1';rw[e2]at e2';injection e2' with e2'
 subst e2';exact⟨e3.trans e3'.symm,e4.trans e4'.symm⟩
theorem Jh{a b c f:Rat}{p:Int×Int}(e:gJ a b c f=some p):(b=0∧con p (a-f))∨∃s1 s2,FU c s1 s2∧con p (a-f+b*s1)∧con p (a-f+b*s2):=by
 unfold gJ at e;cases h1:nJ a b c with
 |none=>rw[h1]at e;cases e
 |some x =>
  cases h2:dS f with
  |none=>rw[h1,h2]at e;cases e
  |some y =>
   rw[h1,h2]at e;simp only at e;have k0:=Qk (lN h2);rcases Ul h1 with⟨hb,k⟩|⟨h0,s1,s2,p1,p2,q1,q2,⟨w,z,e1,e2,e3,e4⟩,k1,k2⟩
   ·refine .inl ⟨hb, ?_⟩;have:=qj e k k0
    rwa [show a + -f=a-f by grind]at this
   ·refine .inr ⟨s1,s2,⟨h0,p1,p2,q1,q2,w,z,e1,e2,e3,e4⟩, ?_, ?_⟩
    ·have:=qj e k1 k0
     rwa [show a+b*s1 + -f=a-f+b*s1 by grind]at this
    ·have:=qj e k2 k0
     rwa [show a+b*s2 + -f=a-f+b*s2 by grind]at this
theorem QB{ax bx ay bb c X Y Q:Rat}{n:Int}(h:kE ax bx ay bb c X Y Q=(n,true)):
 rD ((ax-X)*(ax-X)+(ay-Y)*(ay-Y)+c*(bx*bx+bb*bb)-Q) ((ax-X)*bx+(ay-Y)*bb+((ax-X)*bx+(ay-Y)*bb)) c=n:=by
 unfold kE at h;cases h1:gJ ax bx c X with
 |none=>rw[h1]at h;simp at h
 |some x =>
  cases h2:gJ ay bb c Y with
  |none=>rw[h1,h2]at h;simp at h
  |some y =>
   cases h3:dS Q with
   |none=>rw[h1,h2,h3]at h;simp at h
   |some q =>
    rw[h1,h2,h3]at h;simp only at h;cases h4:sH x x with
    |none=>rw[h4]at h;simp at h
    |some s =>
     cases h5:sH y y with
     |none=>rw[h4,h5]at h;simp at h
     |some t =>
      rw[h4,h5]at h;simp only at h;cases h6:vK s t with
      |none=>rw[h6]at h;simp at h
      |some u =>
       rw[h6]at h;simp only at h;cases h7:vK u (-q.2,-q.1)with
       |none=>rw[h7]at h;simp at h
       |some r =>
        rw[h7]at h;simp only at h
        have key:∀u1 u2 v1 v2:Rat,con x u1→con x u2→con y v1→con y v2→bG (u1*u2+v1*v2-Q)=n:=λu1 u2 v1 v2 a b c d=>by
         have:=qj h7 (qj h6 (zY h4 a b) (zY h5 c d)) (Qk (lN h3));rw[←Zq h this];congr 1;grind
        have fin:∀s1 s2:Rat,FU c s1 s2→con x (ax-X+bx*s1)→con x (ax-X+bx*s2)→con y (ay-Y+bb*s1)→con y (ay-Y+bb*s2) →
         rD ((ax-X)*(ax-X)+(ay-Y)*(ay-Y)+c*(bx*bx+bb*bb)-Q) ((ax-X)*bx+(ay-Y)*bb+((ax-X)*bx+(ay-Y)*bb)) c=n:=λs1 s2 ⟨_,p1,p2,q1,q2,_⟩ a1 a2 b1 b2=>by
         have w1:=zB bx;have w2:=zB bb
         have:=VR (P:=(ax-X)*(ax-X)+(ay-Y)*(ay-Y)-Q) (X:=(ax-X)*bx+(ay-Y)*bb) (W:=bx*bx+bb*bb) (C:=c) (n:=n) p1 p2 q1 q2 (by grind)
          (by rw[←key _ _ _ _ a1 a1 b1 b1];congr 1;grind) (by rw[←key _ _ _ _ a1 a2 b1 b2];congr 1;grind) (by rw[←key _ _ _ _ a2 a2 b2 b2];congr 1;grind)
         rw[←this];congr 1<;>grind
        rcases Jh h1 with⟨b1,k1⟩|⟨s1,s2,hs,k1,k2⟩<;>rcases Jh h2 with⟨b2,j1⟩|⟨t1,t2,ht,j1,j2⟩
        ·subst b1 b2;rw[show(ax-X)*0+(ay-Y)*0+((ax-X)*0+(ay-Y)*0)=(0:Rat) by grind,Ui,←key _ _ _ _ k1 k1 j1 j1];congr 1;grind
        ·subst b1;have e:∀s:Rat,ax-X+0*s=ax-X:=λs=>by grind
         exact fin t1 t2 ht (by rw[e];exact k1) (by rw[e];exact k1) j1 j2
        ·subst b2;have e:∀s:Rat,ay-Y+0*s=ay-Y:=λs=>by grind
         exact fin s1 s2 hs k1 k2 (by rw[e];exact j1) (by rw[e];exact j1)
        ·obtain⟨rfl,rfl⟩:=Qu hs ht;exact fin _ _ hs k1 k2 j1 j2
def aex(n:Int):Bool:=decide (0≤n)&&decide ((((uI n.natAbs:Nat):Int))*((uI n.natAbs:Nat):Int)=n)
def Wy(a:Rat):Bool:=aex a.num&&aex a.den
def sqR(a:Rat):Rat:=((((uI a.num.natAbs:Nat):Int)):Rat)/((((uI (a.den:Int).natAbs:Nat):Int)):Rat)
where
 num_den_div {a:Rat}:a=(a.num:Rat)/((a.den:Int):Rat):=by
  have h1:=lI a;have h2:=lu a;rw[h1];grind
end Go.Sw
namespace Go.Sw
open Go
@[reducible] def Q2(a b:Rat):AV:=.agg [zs a.num,zl a.num,zs a.den,zl a.den,zs b.num,zl b.num,zs b.den,zl b.den]
@[reducible] def ZQ3:AV:=.agg [.v (.bool false),.sl 1 [],.v (.bool false),.sl 1 [],.v (.bool false),.sl 1 [],.v (.bool false),.sl 1 [],.v (.bool false),.sl 1 [],.v (.bool false),.sl 1 []]
def ac4(b c:Rat):Rat:=if b=0∨c=0 then 0 else b
def abj(b c:Rat):Rat:=if b=0∨c=0 then 0 else c
def mkA(a b c:Rat):Rat:=if Wy c=true then a+b*sqR c else a
def mkB(b c:Rat):Rat:=if Wy c=true then 0 else ac4 b c
def mkC(b c:Rat):Rat:=if Wy c=true then 0 else abj b c
def ae1(b c:Rat):Rat:=if b=0 then 0 else c
def ptC(b e c:Rat):Rat:=if b=0∧e=0 then 0 else c
theorem YG{ax bx ay bb c X Y Q:Rat}(h:(kE ax bx ay bb c X Y Q).2=true):
 (kE ax bx ay bb c X Y Q).1=rD ((ax-X)*(ax-X)+(ay-Y)*(ay-Y)+c*(bx*bx+bb*bb)-Q) ((ax-X)*bx+(ay-Y)*bb+((ax-X)*bx+(ay-Y)*bb)) c :=
 (QB (n:=(kE ax bx ay bb c X Y Q).1) (Prod.ext rfl h)).symm
section
variable {a b:Rat}
theorem aao(h:a.num=b.num):aA [AV.c (Cell.v (.bool (decide ((a.den:Int)=(b.den:Int)))))]=AV.bool (decide (a=b)) :=
 bE (by rw[decide_eq_decide];exact⟨λh2=>Rat.ext h (by omega),λh2=>by rw[h2]⟩)
theorem Yy(h:¬a.num=b.num):aA [AV.c (Cell.v (.bool false))]=AV.bool (decide (a=b)) :=
 bE (by symm;rw[decide_eq_false_iff_not];exactλe=>h (by rw[e]))
end
end Go.Sw
namespace Go.Sw
open Go
theorem ahE:rz 0≤1:=by decide +kernel
end Go.Sw
namespace Go.Sw
open Go Go.RowKit
class DenC (P:Program) [Wld P] (f:FuncId) (xs:List AV) (pre:outParam Prop) (c:outParam Prop) (r s:outParam AV):Prop where
 den:pre→(c→Den P f xs r)∧(¬c→Den P f xs s)
theorem kH{P:Program}[Wld P]{f:FuncId}{xs:List AV}{pre c:Prop}{r s:AV}{k:AV→Prop}[h:DenC P f xs pre c r s](hp:Pr pre)(h1:c→k r)(h2:¬c→k s):CallP (Den P) f xs k:=by
 by_cases hc:c
 ·exact⟨r,(h.den hp.p).1 hc,h1 hc⟩
 ·exact⟨s,(h.den hp.p).2 hc,h2 hc⟩
theorem Yf{P:Program}[Wld P]{f:FuncId}{xs:List AV}{pre c:Prop}{r s:AV}(h:pre→∀q,(c→q=r)→(¬c→q=s)→Den P f xs q)(hp:pre):(c→Den P f xs r)∧(¬c→Den P f xs s) :=
 ⟨λhc=>h hp r (λ_=>rfl) (λn=>absurd hc n),λhc=>h hp s (λn=>absurd n hc) (λ_=>rfl)⟩
end Go.Sw
namespace Go.Sw
open Go
class SzB (n:Int) (k:outParam Nat):Prop where
 h:sz n≤k
theorem zf{n:Int}{k K:Nat}[i:SzB n k](h:k≤K):sz n≤K:=dh i.h h
instance{q:Rat}{n:Nat}[i:RzB q n]:SzB q.num n:=⟨dh (nC q) i.h⟩
instance{q:Rat}{n:Nat}[i:RzB q n]:SzB (q.den:Int) n:=⟨dh (oM q) i.h⟩
instance{a b:Int}{m n:Nat}[i:SzB a m][j:SzB b n]:SzB (a*b) (m+n):=⟨by have:=jM a b;have:=i.h;have:=j.h;omega⟩
section
variable {a b c:Rat}
end
section
variable {a b c:Rat} {q:AV}
theorem aaU(h:¬bG a=bG b):aA [AV.c (Cell.v (.int .i64 (jC (bG a) (bG b))))]=AV.int .i64 (iV a b):=iE (by
 rcases fJ a with⟨a1,a2⟩|⟨a1,a2⟩|⟨a1,a2⟩<;>rcases fJ b with⟨b1,b2⟩|⟨b1,b2⟩|⟨b1,b2⟩<;>rw[a2,b2]at h ⊢<;>first
  |exact absurd rfl h|(rw[Md (by grind)];rfl)|(rw[Ns (by grind)];rfl))
theorem aec(hb:¬b=0)(e:¬b=0→q=AV.tup [R (a/b),AV.int .i64 0]):aA [R (((a.num*b.den:Int):Rat)/((a.den*b.num:Int):Rat)),AV.c (Cell.v (.int .i64 0))]=q:=by
 rw[e hb,Pz a b hb];rfl
theorem Wu(h:(a.den:Int)*b.num=0):b=0:=by
 rcases Int.mul_eq_zero.1 h with h|h
 ·exact absurd h (aJ a)
 ·exact(PS b).1 h
theorem UH(h:¬b=0):(a.den:Int)*b.num≠0:=λe=>h (Wu e)
theorem abT(n:Int):((0:Int):Rat)=(n:Rat)/((0:Int):Rat):=by rw[←aeH n];decide +kernel
end
theorem Gp(a b c:Rat):-1≤rD a b c∧rD a b c≤1:=by
 unfold rD;have h1:=nP a;have h2:=oz (nP b) (nP c);have h3:=oz (nP a) (BF (a*a) (b*b*c))
 repeat' split
 all_goals first|exact h1|exact h2|exact h3
theorem ahW(a b c:Rat):IntKind.i64.wrap (0-rD a b c) = -rD a b c:=by
 have:=Gp a b c;rw[bP (by omega) (by omega)];omega
theorem aeu{a b c:Rat}{n:Int}(h:rD a b c=n):aA [AV.c (Cell.v (.int .i64 (IntKind.i64.wrap (0-rD a b c))))]=AV.int .i64 (-n):=iE (by rw[ahW,h])
theorem aei{a b c d e f g h:Rat}{n:Int}(k:(kE a b c d e f g h).2=true)(hn:(kE a b c d e f g h).1=n)(h1 : -1≤n)(h2:n≤1):aA [AV.c (Cell.v (.int .i64 (IntKind.i64.wrap (0-(kE a b c d e f g h).1))))]=AV.int .i64 (-n):=iE (by
 rw[hn,bP (by omega) (by omega)];omega)
instance{a b:Rat}{m n:Nat}[h:RzB a m][k:RzB b n]:RzB (a / b) (m+n+1):=⟨by
 by_cases hb:b=0
 ·subst hb;have:a/0=0:=by rw[Rat.div_def,Rat.inv_zero,Rat.mul_zero]
  rw[this];have:=ahE;omega
 ·have:=abz a b hb;have:=h.h;have:=k.h;omega⟩
theorem aeL(a:Rat):((0:Int):Rat)=a/0:=by
 have:((0:Int):Rat)=0:=rfl;rw[this,Rat.div_def,Rat.inv_zero,Rat.mul_zero]
section
variable {a b c:Rat}
theorem agq(h:bG b*bG c=0):aA [AV.c (Cell.v (.int .i64 (bG a)))]=AV.int .i64 (rD a b c):=iE (by unfold rD;rw[if_pos (.inr h)])
theorem agT(h:bG a=bG b*bG c):aA [AV.c (Cell.v (.int .i64 (bG a)))]=AV.int .i64 (rD a b c):=iE (by unfold rD;rw[if_pos (.inl h)])
theorem ahk(h1:¬bG b*bG c=0)(h2:¬bG a=bG b*bG c)(h3:a=0):aA [AV.c (Cell.v (.int .i64 (bG b*bG c)))]=AV.int .i64 (rD a b c):=iE (by
 unfold rD;rw[if_neg (by rintro (h|h);exact h2 h;exact h1 h),if_pos (iM.2 h3)])
theorem agK(h1:¬bG b*bG c=0)(h2:¬bG a=bG b*bG c)(h3:¬a=0):aA [AV.c (Cell.v (.int .i64 (bG a*iV (a*a) (b*b*c))))]=AV.int .i64 (rD a b c):=iE (by
 rw[ahj h2 h1 (λe=>h3 (iM.1 e))])
end
theorem J7(a b c f:Rat):Gw ((gJ a b c f).getD (0,0)):=by
 unfold gJ;have h1:=J9 a b c;have h2:=jH f;cases h3:nJ a b c with
 |none=>unfold Gw;simp only[Xn];decide
 |some x =>
  cases h4:dS f with
  |none=>unfold Gw;simp only[Xn];decide
  |some y =>
   rw[h3]at h1;rw[h4]at h2;simp only[Eo]at h1 h2;exact Ho h1 (by unfold Gw at *;simp only;omega)
theorem Y2{a b c f:Rat}(h:(!(nJ a b c).isSome)=true∨(!(dS f).isSome)=true):(none:Option (Int×Int))=gJ a b c f:=by
 unfold gJ;rcases h with h|h
 ·cases h1:nJ a b c with
  |none=>rfl
  |some x=>rw[h1]at h;cases h
 ·cases h1:nJ a b c with
  |none=>rfl
  |some x=>cases h2:dS f with
   |none=>rfl
   |some y=>rw[h2]at h;cases h
theorem acN{a b c f:Rat}(h:(!(nJ a b c).isSome)=false)(k:(!(dS f).isSome)=false):vK ((nJ a b c).getD (0,0)) (-((dS f).getD (0,0)).2,-((dS f).getD (0,0)).1)=gJ a b c f:=by
 unfold gJ;cases h1:nJ a b c with
 |none=>rw[h1]at h;cases h
 |some x=>cases h2:dS f with
  |none=>rw[h2]at k;cases k
  |some y=>rfl
section
variable {ax bx ay bb c X Y Q:Rat}
theorem ahR{p:Int×Bool}(h:p=(0,false)):aA [AV.c (Cell.v (.int .i64 0)),AV.c (Cell.v (.bool false))]=AV.tup [.int .i64 p.1,.bool p.2]:=by rw[h];rfl
theorem ahw(h:(!(gJ ax bx c X).isSome)=true∨(!(gJ ay bb c Y).isSome)=true∨(!(dS Q).isSome)=true):kE ax bx ay bb c X Y Q=(0,false):=by
 unfold kE;cases h1:gJ ax bx c X with
 |none=>rfl
 |some x=>cases h2:gJ ay bb c Y with
  |none=>rfl
  |some y=>cases h3:dS Q with
   |none=>rfl
   |some q=>rw[h1,h2,h3]at h;simp at h
theorem adN{x y q:Int×Int}(h1:(!(gJ ax bx c X).isSome)=false)(h2:(!(gJ ay bb c Y).isSome)=false)(h3:(!(dS Q).isSome)=false)(e1:x=(gJ ax bx c X).getD (0,0))(e2:y=(gJ ay bb c Y).getD (0,0))(e3:q=(dS Q).getD (0,0)):
 kE ax bx ay bb c X Y Q=(match sH x x,sH y y with
 |some s,some t=>(match vK s t with
  |some u=>(match vK u (-q.2,-q.1)with
   |some r=>Ll r.1 r.2
   |none=>(0,false))
  |none=>(0,false))
 |_,_=>(0,false)):=by
 subst e1 e2 e3;unfold kE;cases k1:gJ ax bx c X with
 |none=>rw[k1]at h1;cases h1
 |some x=>cases k2:gJ ay bb c Y with
  |none=>rw[k2]at h2;cases h2
  |some y=>cases k3:dS Q with
   |none=>rw[k3]at h3;cases h3
   |some q=>rfl
end
end Go.Sw
namespace Go.Sw
open Go
def Cau(f:Nat→Rat):Prop:=∀d:Rat,0<d→∃N,∀m n,N≤m→N≤n→f m<f n+d
def PosS(f:Nat→Rat):Prop:=∃d:Rat,0<d∧∃N,∀n,N≤n→d<f n
def NulS(f:Nat→Rat):Prop:=∀d:Rat,0<d→∃N,∀n,N≤n→-d<f n∧f n<d
def Bnd(f:Nat→Rat):Prop:=∃B:Rat,0<B∧∃N,∀n,N≤n→-B<f n∧f n<B
def SgS(f:Nat→Rat)(n:Int):Prop:=(n=1∧PosS f)∨(n = -1∧PosS λk=>-f k)∨(n=0∧NulS f)
theorem Pq{x y B e:Rat}(h1 : -B<x)(h2:x<B)(h3 : -e<y)(h4:y<e):x*y<B*e:=by
 have p1:=Am (show 0<B-x by grind) (show 0<e+y by grind);have p2:=Am (show 0<B+x by grind) (show 0<e-y by grind)
 grind
theorem TW{x y B e:Rat}(h1 : -B<x)(h2:x<B)(h3 : -e<y)(h4:y<e):-(B*e)<x*y:=by
 have:=Pq (x:=-x) (y:=y) (B:=B) (e:=e) (by grind) (by grind) h3 h4
 grind
theorem Tq{a b:Rat}(h1:0<a)(h2:0<b):0<a/b:=by
 have hb:b≠0:=by grind
 rcases Lr (a:=a/b) (b:=0)with h|h
 ·have p:=zC (show 0≤-(a/b) by grind) (show 0≤b by grind);have e:a/b*b=a:=by grind
  grind
 ·by_cases e:a/b=0
  ·have e':a/b*b=a:=by grind
   rw[e]at e';grind
  ·grind
theorem NulS.neg{f:Nat→Rat}(h:NulS f):NulS λn=>-f n:=λd hd=>by
 obtain⟨N,hN⟩:=h d hd;exact⟨N,λn hn=>by have:=hN n hn;constructor<;>grind⟩
theorem NulS.mul{f g:Nat→Rat}(h:NulS f)(k:Bnd g):NulS λn=>f n*g n:=λd hd=>by
 obtain⟨B,hB,M,hM⟩:=k;obtain⟨N,hN⟩:=h (d/B) (Tq hd hB);refine⟨N+M,λn hn=>?_⟩;have a:=hN n (by omega);have b:=hM n (by omega);have e:d/B*B=d:=by have:B≠0:=(by grind);grind
 have p1:=Pq a.1 a.2 b.1 b.2;have p2:=TW a.1 a.2 b.1 b.2;rw[e]at p1 p2;exact⟨p2,p1⟩
theorem NulS.zero:NulS λ_=>0:=λd hd=>⟨0,λn _=>by constructor<;>grind⟩
theorem NulS.cg{f g:Nat→Rat}(h:NulS f)(e:∀n,f n=g n):NulS g:=by rwa [funext e]at h
theorem Cau.const(q:Rat):Cau λ_=>q:=λd hd=>⟨0,λm n _ _=>by grind⟩
theorem Cau.neg{f:Nat→Rat}(h:Cau f):Cau λn=>-f n:=λd hd=>by
 obtain⟨N,hN⟩:=h d hd;exact⟨N,λm n hm hn=>by have:=hN n m hn hm;grind⟩
theorem PosS.mul{f g:Nat→Rat}(h:PosS f)(k:PosS g):PosS λn=>f n*g n:=by
 obtain⟨d,hd,N,hN⟩:=h;obtain⟨e,he,M,hM⟩:=k;refine⟨d*e,Am hd he,N+M,λn hn=>?_⟩;have a:=hN n (by omega);have b:=hM n (by omega);have p1:=Am (show 0<f n-d by grind) (show 0<g n by grind);have p2:=Am hd (show 0<g n-e by grind)
 grind
theorem PosS.cg{f g:Nat→Rat}(h:PosS f)(e:∀n,f n=g n):PosS g:=by rwa [funext e]at h
theorem PosS.not{f:Nat→Rat}(h:PosS f)(k:PosS λn=>-f n):False:=by
 obtain⟨d,hd,N,hN⟩:=h;obtain⟨e,he,M,hM⟩:=k;have:=hN (N+M) (by omega);have:=hM (N+M) (by omega)
 grind
namespace SgS
theorem ex{f:Nat→Rat}(h:Cau f):∃n,SgS f n:=by
 by_cases h1:PosS f
 ·exact⟨1,.inl ⟨rfl,h1⟩⟩
 ·by_cases h2:PosS λn=>-f n
  ·exact⟨-1,.inr (.inl ⟨rfl,h2⟩)⟩
  ·refine⟨0,.inr (.inr ⟨rfl,λd hd=>?_⟩)⟩;obtain⟨N,hN⟩:=h (d*(1/2)) (by grind)
   have a1:∃m,N≤m∧f m≤d*(1/2):=Classical.byContradiction λhc=>h1 ⟨d*(1/2),by grind,N,λn hn=>by
    rcases Lr (a:=f n) (b:=d*(1/2))with h|h
    ·exact absurd ⟨n,hn,h⟩ hc
    ·by_cases e:f n=d*(1/2)
     ·exact absurd ⟨n,hn,by grind⟩ hc
     ·grind⟩
   have a2:∃m,N≤m∧-f m≤d*(1/2):=Classical.byContradiction λhc=>h2 ⟨d*(1/2),by grind,N,λn hn=>by
    rcases Lr (a:=-f n) (b:=d*(1/2))with h|h
    ·exact absurd ⟨n,hn,h⟩ hc
    ·by_cases e : -f n=d*(1/2)
     ·exact absurd ⟨n,hn,by grind⟩ hc
     ·grind⟩
   obtain⟨m1,g1,k1⟩:=a1;obtain⟨m2,g2,k2⟩:=a2;refine⟨N,λn hn=>?_⟩;have b1:=hN n m1 hn g1;have b2:=hN m2 n g2 hn;constructor<;>grind
theorem cg{f g:Nat→Rat}{n:Int}(h:SgS f n)(e:∀k,f k=g k):SgS g n:=by rwa [funext e]at h
theorem neg{f:Nat→Rat}{n:Int}(h:SgS f n):SgS (λk=>-f k) (-n):=by
 rcases h with⟨rfl,h⟩|⟨rfl,h⟩|⟨rfl,h⟩
 ·exact .inr (.inl ⟨rfl,h.cg λn=>by grind⟩)
 ·exact .inl ⟨rfl,h⟩
 ·exact .inr (.inr ⟨rfl,h.neg⟩)
theorem const(q:Rat):SgS (λ_=>q) (bG q):=by
 rcases fJ q with⟨a,e⟩|⟨a,e⟩|⟨a,e⟩<;>rw[e]
 ·exact .inr (.inl ⟨rfl,⟨-q*(1/2),by grind,0,λn _=>by grind⟩⟩)
 ·subst a;exact .inr (.inr ⟨rfl,NulS.zero⟩)
 ·exact .inl ⟨rfl,⟨q*(1/2),by grind,0,λn _=>by grind⟩⟩
end SgS
def ahB(n:Nat):Rat:=1/((n:Rat)+1)
def rtS(c:Rat)(n:Nat):Rat:=((uI (c*(((n:Rat)+1)*((n:Rat)+1))).floor.toNat:Nat):Rat)*ahB n
def v2(A B M:Rat)(n:Nat):Rat:=A+B*rtS M n
def v4(A B C D M N:Rat)(n:Nat):Rat:=v2 A B M n+v2 C D M n*rtS N n
theorem Bnd.cg{f g:Nat→Rat}(h:Bnd f)(e:∀n,f n=g n):Bnd g:=by rwa [funext e]at h
def ConS(p:Int×Int)(f:Nat→Rat):Prop:=∃g:Nat→Rat,NulS (λn=>g n-f n)∧∀n,con p (g n)
theorem ConS.const{p:Int×Int}{q:Rat}(h:con p q):ConS p λ_=>q:=⟨λ_=>q,NulS.zero.cg λn=>by grind,λ_=>h⟩
theorem ConS.cg{p:Int×Int}{f g:Nat→Rat}(h:ConS p f)(e:∀n,f n=g n):ConS p g:=by rwa [funext e]at h
theorem Ip(q:Rat):jv (decide (q.num<0)) (lim q.num.natAbs) (decide ((q.den:Int)<0)) (lim (q.den:Int).natAbs)=true:=by
 rw[kX];have h1:=den_pos q;have h2:=q.reduced;rw[eF,decide_eq_true_eq,decide_eq_true_eq];exact⟨pV.2 h1,by rw[Nz];exact congrArg Int.ofNat h2⟩
structure Rt where
 a:Rat
 b:Rat
 c:Rat
end Go.Sw
