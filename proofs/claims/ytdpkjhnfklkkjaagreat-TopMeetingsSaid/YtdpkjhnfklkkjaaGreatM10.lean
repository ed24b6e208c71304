/-
  Rules of the abstract run, plain laws, and what functions answer, for the law TopMeetings.
  Conditions: none.
-/
import Derived.Test.YtdpkjhnfklkkjaaGreatM9
set_option linter.all false
set_option maxHeartbeats 16000000
namespace Go.Sw
open Go
set_option linter.unusedSimpArgs false
theorem Jt:IntKind.i64.wrap (0+1)=1:=ψ
theorem EP:IntKind.i64.wrap (1+1)=2:=ψ
theorem dK{b:Bool}{k:Bool->Prop}(e:b=true)(h:k true):OnB b k:=⟨λ_=>h,λh'=>by rw[e]at h';cases h'⟩
theorem fA{b:Bool}{k:Bool->Prop}(e:b=false)(h:k false):OnB b k:=⟨λh'=>(by rw[e]at h';cases h'),λ_=>h⟩
def Jc(x y:Int):Int:=(x*y)/65536
def wH(x y:Int):Int:=-((-(x*y))/65536)
theorem Ll(x y:Int):Jc x y<=wH x y:=by unfold Jc wH;omega
theorem PI(x y:Int):ND x y=(Jc x y,wH x y):=by
 have e:x*y=if(decide (x<0) != decide (y<0))=true then -((SI x y:Nat):Int)else((SI x y:Nat):Int):=by
  unfold SI;rw[WR]
  by_cases h1:x<0<;>by_cases h2:y<0<;>simp only[h1,h2]
  .have e1:(x.natAbs:Int) = -x:=ω
   have e2:(y.natAbs:Int) = -y:=ω
   rw[e1,e2];simp[Int.neg_mul,Int.mul_neg,Int.neg_neg]
  .have e1:(x.natAbs:Int) = -x:=ω
   have e2:(y.natAbs:Int)=y:=ω
   rw[e1,e2];simp[Int.neg_mul,Int.mul_neg,Int.neg_neg]
  .have e1:(x.natAbs:Int)=x:=ω
   have e2:(y.natAbs:Int) = -y:=ω
   rw[e1,e2];simp[Int.neg_mul,Int.mul_neg,Int.neg_neg]
  .have e1:(x.natAbs:Int)=x:=ω
   have e2:(y.natAbs:Int)=y:=ω
   rw[e1,e2];simp[Int.neg_mul,Int.mul_neg,Int.neg_neg]
 unfold ND Jc wH;generalize SI x y=p at *;generalize(decide (x<0) != decide (y<0))=s at *;rw[e];cases s<;>by_cases hm:p%65536=0<;>simp only[hm,if_true,if_false]<;>(refine Prod.ext ?_ ?_<;>simp<;>omega)
theorem Iz{x y:Int}(h:(wC x y).2.2=true):(wC x y).1=Jc x y/\(wC x y).2.1=wH x y∧-2305843009213693952<=Jc x y/\wH x y<=2305843009213693952:=by
 unfold wC at *;rw[PI]at *;split at h
 .exact absurd h η
 .rename_i g;rw[if_neg g];exact⟨rfl,rfl,of_decide_eq_true h⟩
theorem aeH{x y:Int}(h:¬(wC x y).2.2=true):¬(-2305843009213693952<=Jc x y/\wH x y<=2305843009213693952):=by
 have q:=PI x y;unfold wC at h;rw[q]at h;split at h
 .rename_i g;unfold ND at q;generalize SI x y=p at *;intro⟨h1,h2⟩;generalize(decide (x<0) != decide (y<0))=s at *;have q1:=congrArg Prod.fst q;have q2:=congrArg Prod.snd q;cases s<;>by_cases hm:p%65536=0<;>simp only[hm,if_true,if_false]at q1 q2<;>simp at q1 q2<;>omega
 .intro⟨h1,h2⟩;exact h (decide_eq_true ⟨h1,h2⟩)
def jL(a b:Int×Int):Option (Int×Int) :=
 Ua (min (min (Jc a.1 b.1) (Jc a.1 b.2)) (min (Jc a.2 b.1) (Jc a.2 b.2))) (max (max (wH a.1 b.1) (wH a.1 b.2)) (max (wH a.2 b.1) (wH a.2 b.2)))
theorem nb{b:Bool}(h:(!b)=true):¬b=true:=by cases b<;>simp_all
theorem nb'{b:Bool}(h:(!b)=false):b=true:=by cases b<;>simp_all
theorem XH(u v:Int):List.foldl (λx y=>if y<x then y else x) u [v]=min u v:=by
 show(if v<u then v else u)=min u v;split<;>omega
theorem VK(u v:Int):List.foldl (λx y=>if y>x then y else x) u [v]=max u v:=by
 show(if v>u then v else u)=max u v;split<;>omega
theorem yG{a b c d x y:Int}(hx:x=a\/x=b)(hy:y=c\/y=d)(h:(!(wC x y).2.2)=true):jL (a,b) (c,d)=none:=by
 have:=aeH (nb h);apply Je;rcases hx with rfl|rfl<;>rcases hy with rfl|rfl<;>simp only<;>omega
theorem U3{a b c d:Int}(h1:(!(wC a c).2.2)=false)(h2:(!(wC a d).2.2)=false)(h3:(!(wC b c).2.2)=false)(h4:(!(wC b d).2.2)=false):
 aW [AV.agg [Cell.v (Value.int .i64 (min (min (min (min 2305843009213693952 (wC a c).1) (wC a d).1) (wC b c).1) (wC b d).1)),Cell.v (Value.int .i64 (max (max (max (max (-2305843009213693952) (wC a c).2.1) (wC a d).2.1) (wC b c).2.1) (wC b d).2.1))],AV.c (Cell.v (Value.bool true))]=Ov (jL (a,b) (c,d)):=by
 obtain⟨e1,e2,e3,e4⟩:=Iz (nb' h1);obtain⟨f1,f2,f3,f4⟩:=Iz (nb' h2);obtain⟨g1,g2,g3,g4⟩:=Iz (nb' h3);obtain⟨k1,k2,k3,k4⟩:=Iz (nb' h4);have d1:=Ll a c;have d2:=Ll a d;have d3:=Ll b c;have d4:=Ll b d;rw[e1,e2,f1,f2,g1,g2,k1,k2];unfold jL;rw[QU (by simp only;omega) (by simp only;omega)];refine ovE ?_ ?_ rfl<;>simp only[Bd]<;>omega
@[reducible] def Q3(a b c:Rat):AV:=.agg [zs a.num,zl a.num,zs a.den,zl a.den,zs b.num,zl b.num,zs b.den,zl b.den,zs c.num,zl c.num,zs c.den,zl c.den]
def bQ(a b c:Rat):Option (Int×Int) :=
 match dh a with
 |none=>none
 |some x=>if b=0 then some x else
  match dh b,dh c with
  |some y,some z=>if c<0 then none else
   match jr z with
   |none=>none
   |some s=>match jL y s with
    |none=>none
    |some p=>jR x p
  |_,_=>none
def hw(a b c d:Int):Nat->Int
 |0=>0|1=>wH a c|2=>max (wH a c) (wH a d)|3=>max (max (wH a c) (wH a d)) (wH b c)|_=>max (max (max (wH a c) (wH a d)) (wH b c)) (wH b d)
def kI:Nat->Int|0=>0|1=>1|_=>2
theorem hw1(a b c d:Int):hw a b c d 1=wH a c:=rfl
theorem hw2(a b c d:Int):hw a b c d 2=max (wH a c) (wH a d):=rfl
theorem k1:some (AV.int .i64 (IntKind.i64.wrap (0+1)))=some (AV.int .i64 (kI 1)):=by rw[Jt];rfl
theorem k2:some (AV.int .i64 (IntKind.i64.wrap (1+1)))=some (AV.int .i64 (kI 2)):=by rw[EP];rfl
@[reducible] def Q5(a b c d e:Rat):AV:=.agg [zs a.num,zl a.num,zs a.den,zl a.den,zs b.num,zl b.num,zs b.den,zl b.den,zs c.num,zl c.num,zs c.den,zl c.den,zs d.num,zl d.num,zs d.den,zl d.den,zs e.num,zl e.num,zs e.den,zl e.den]
def yt(n:Rat)(o:Option (Int×Int)):Option (Int×Int) :=
 match dh n,o with
 |some b,some a=>jL b a
 |_,_=>none
def Ad(la lb lc ax bx ay bb c:Rat):Int×Bool :=
 match yt la (bQ ax bx c),yt lb (bQ ay bb c),dh lc with
 |some x,some y,some z=>match jR x y with
  |none=>(0,false)
  |some s=>match jR s (-z.2,-z.1)with
   |none=>(0,false)
   |some t=>zi t.1 t.2
 |_,_,_=>(0,false)
def yT(x:Int×Int):Prop:=-2305843009213693952<=x.1/\x.1<=x.2/\x.2<=2305843009213693952
theorem gJ(a:Rat):yT ((dh a).getD (0,0)):=Vz a
theorem oM(x y:Int×Int):yT ((jL x y).getD (0,0)):=GV _ rfl (by have:=Ll x.1 y.1;omega)
theorem Cm{x:Int×Int}(h:yT x):yT ((jr x).getD (0,0)):=by
 unfold jr;split
 .exact⟨ψ,ψ,ψ⟩
 .rename_i g;refine GV _ rfl ?_;have:=Rk (l:=max x.1 0) (h:=x.2) ω (by unfold yT at h;omega);have:=(Zk (n:=x.2) ω).1;omega
theorem tH{x y:Int×Int}(h1:yT x)(h2:yT y):yT ((jR x y).getD (0,0)):=GV _ rfl (by unfold yT at *;omega)
theorem yH(a b c:Rat):yT ((bQ a b c).getD (0,0)):=by
 have h0:yT (0,0):=⟨ψ,ψ,ψ⟩
 unfold bQ;have ha:=gJ a;have hb:=gJ b;have hc:=gJ c;split
 .exact h0
 .rename_i x hx;rw[hx]at ha;split
  .exact ha
  .split
   .rename_i y z hy hz;split
    .exact h0
    .split
     .exact h0
     .split
      .exact h0
      .rename_i s hs _ p hp;refine tH ha ?_;have:=oM y s;rw[hp]at this;exact this
   .exact h0
theorem KQ(n:Rat)(o:Option (Int×Int)):yT ((yt n o).getD (0,0)):=by
 unfold yt;split
 .exact oM _ _
 .exact⟨ψ,ψ,ψ⟩
theorem afP{o:Option (Int×Int)}(e:(none:Option (Int×Int))=o):aW [AV.agg [Cell.v (Value.int .i64 0),Cell.v (Value.int .i64 0)],AV.c (Cell.v (Value.bool false))]=Ov o:=by subst e;rfl
end Go.Sw
namespace Go.Sw
open Go
theorem kL(a:Rat):-1<=bD a/\bD a<=1:=by unfold bD;split<;>(try split)<;>omega
theorem Ku(a b:Rat):-1<=jJ a b/\jJ a b<=1:=by unfold jJ;split<;>(try split)<;>omega
theorem lH{x y:Int}(h1 : -1<=x/\x<=1)(h2 : -1<=y/\y<=1):-1<=x*y/\x*y<=1:=by
 have a:x = -1\/x=0\/x=1:=ω
 rcases a with rfl|rfl|rfl<;>omega
theorem Ue(a b:Rat):IntKind.i64.wrap (bD a*bD b)=bD a*bD b:=by
 have:=lH (kL a) (kL b);exact bG ω ω
theorem LC(a b c:Rat):IntKind.i64.wrap (bD a*jJ b c)=bD a*jJ b c:=by
 have:=lH (kL a) (Ku b c);exact bG ω ω
def fP(a b c:Rat):Int :=
 if bD a=bD b*bD c\/bD b*bD c=0 then bD a
 else if bD a=0 then bD b*bD c
 else bD a*jJ (a*a) (b*b*c)
theorem ala{a b c:Rat}(g1:¬bD a=bD b*bD c)(g2:¬bD b*bD c=0)(g3:¬bD a=0):fP a b c=bD a*jJ (a*a) (b*b*c):=by
 unfold fP;rw[if_neg (λh=>h.elim g1 g2),if_neg g3]
theorem Ny{a b x k L:Rat}(h1:a<=x)(h2:x<=b)(p:L<=a*k)(q:L<=b*k):L<=x*k:=by
 rcases EO (a:=0) (b:=k)with hk|hk
 .have:=Rat.mul_le_mul_of_nonneg_right h1 hk;grind
 .have:=Rat.mul_le_mul_of_nonneg_right h2 (show 0≤-k by grind);grind
theorem WC{a b c d x y L:Rat}(h1:a<=x)(h2:x<=b)(h3:c<=y)(h4:y<=d)(p1:L<=a*c)(p2:L<=a*d)(p3:L<=b*c)(p4:L<=b*d):L<=x*y:=by
 apply Ny h1 h2
 .rw[Rat.mul_comm];exact Ny h3 h4 (by rw[Rat.mul_comm];exact p1) (by rw[Rat.mul_comm];exact p2)
 .rw[Rat.mul_comm];exact Ny h3 h4 (by rw[Rat.mul_comm];exact p3) (by rw[Rat.mul_comm];exact p4)
theorem adO{a b c d x y L:Rat}(h1:a<=x)(h2:x<=b)(h3:c<=y)(h4:y<=d)(p1:a*c<=L)(p2:a*d<=L)(p3:b*c<=L)(p4:b*d<=L):x*y<=L:=by
 have:=WC (L:=-L) (a:=-b) (b:=-a) (x:=-x) (y:=y) (c:=c) (d:=d) ν ν h3 h4 ν ν ν ν
 grind
theorem aer(x y:Int):((Jc x y:Int):Rat)*65536<=(x:Rat)*(y:Rat):=by
 have h:((Jc x y*65536:Int):Rat)<=((x*y:Int):Rat):=IL.2 (by unfold Jc;omega);rw[Sj,Sj]at h;exact h
theorem adM(x y:Int):(x:Rat)*(y:Rat)<=((wH x y:Int):Rat)*65536:=by
 have h:((x*y:Int):Rat)<=((wH x y*65536:Int):Rat):=IL.2 (by unfold wH;omega);rw[Sj,Sj]at h;exact h
def con(p:Int×Int)(q:Rat):Prop:=(p.1:Rat)<=q*65536/\q*65536<=(p.2:Rat)
theorem xP{l h:Int}{p:Int×Int}(e:Ua l h=some p):p=(l,h):=by
 unfold Ua at e;split at e
 .injection e with e;exact e.symm
 .cases e
theorem nJ{x y p:Int×Int}{u v:Rat}(e:jR x y=some p)(hu:con x u)(hv:con y v):con p (u+v):=by
 have:=xP e;subst this;unfold con at *;simp only[Rat.intCast_add];obtain⟨h1,h2⟩:=hu;obtain⟨h3,h4⟩:=hv;constructor<;>grind
theorem sN{x y p:Int×Int}{u v:Rat}(e:jL x y=some p)(hu:con x u)(hv:con y v):con p (u*v):=by
 have:=xP e;subst this;unfold con at *;obtain⟨h1,h2⟩:=hu;obtain⟨h3,h4⟩:=hv;simp only;generalize hl:min (min (Jc x.1 y.1) (Jc x.1 y.2)) (min (Jc x.2 y.1) (Jc x.2 y.2))=l;generalize hh:max (max (wH x.1 y.1) (wH x.1 y.2)) (max (wH x.2 y.1) (wH x.2 y.2))=h
 have lo:∀a c:Int,l<=Jc a c->(l:Rat)*65536<=(a:Rat)*(c:Rat):=λa c hd=>by
  have k1:=aer a c;have k2:=IL.2 hd
  grind
 have hi:∀a c:Int,wH a c<=h->(a:Rat)*(c:Rat)<=(h:Rat)*65536:=λa c hd=>by
  have k1:=adM a c;have k2:=IL.2 hd
  grind
 have b1:=WC h1 h2 h3 h4 (lo _ _ ω) (lo _ _ ω) (lo _ _ ω) (lo _ _ ω);have b2:=adO h1 h2 h3 h4 (hi _ _ ω) (hi _ _ ω) (hi _ _ ω) (hi _ _ ω);constructor<;>grind
theorem c65:((65536:Int):Rat)=65536:=by decide +kernel
theorem c1:((1:Int):Rat)=1:=by decide +kernel
theorem JI{x p:Int×Int}{q:Rat}(e:jr x=some p)(hx:con x q)(h0:0<=q):
 (p.1:Rat)*(p.1:Rat)<=q*(65536*65536)/\q*(65536*65536)<=(p.2:Rat)*(p.2:Rat)/\0<=p.1/\p.1<=p.2:=by
 unfold jr at e;split at e
 .cases e
 .rename_i g;have:=xP e;subst this;unfold con at hx;obtain⟨h1,h2⟩:=hx
  have hle:max x.1 0<=x.2:=by
   have:((x.1:Int):Rat)<=(x.2:Rat):=Rat.le_trans h1 h2;have:=IL.1 this;omega
  have r1:=MN (n:=max x.1 0) ω;have r2:=Zk (n:=x.2) ω;have r3:=Rk (l:=max x.1 0) (h:=x.2) ω hle
  have hm:((max x.1 0:Int):Rat)<=q*65536:=by
   rcases Int.le_total x.1 0 with h|h
   .rw[show max x.1 0=0 by omega];have:((0:Int):Rat)=0:=rfl;rw[this];grind
   .rw[show max x.1 0=x.1 by omega];exact h1
  have k1:=IL.2 r1.2.1;have k2:=IL.2 r2.2.2;rw[Sj,Sj,c65]at k1 k2;refine⟨by simp only;grind,by simp only;grind,r1.1,by simp only;omega⟩
def sub(x y:Int×Int):Prop:=x.1<=y.1/\y.1<=y.2/\y.2<=x.2
theorem Rj{x:Int×Int}{n:Int}(h1:x.1<=n)(h2:n<=x.2):con x ((n:Rat)*(1/65536)):=by
 have k1:=IL.2 h1;have k2:=IL.2 h2;unfold con;constructor<;>grind
theorem gq{a:Rat}{x:Int×Int}(e:dh a=some x):con x a:=by
 have:=xP e;subst this;unfold con upR;rw[c65];simp only;refine⟨Rat.floor_le _, ?_⟩;have:=Rat.floor_le (-(a*65536));rw[Rat.intCast_neg]
 grind
theorem Ip{x:Int×Int}{q:Rat}(h:con x q):con (-x.2,-x.1) (-q):=by
 unfold con at *;simp only[Rat.intCast_neg];constructor<;>grind
theorem Po{p:Int×Int}{q:Rat}{n:Int}(h:zi p.1 p.2=(n,true))(hq:con p q):bD q=n:=by
 obtain⟨h1,h2⟩:=hq;unfold zi at h;have z:((0:Int):Rat)=0:=rfl;split at h
 .rename_i g;injection h with h3 h4
  subst h3;have:=Rat.intCast_lt_intCast.2 g;rw[z]at this;exact pO.2 ν
 .split at h
  .rename_i g;injection h with h3 h4
   subst h3;have:=Rat.intCast_lt_intCast.2 g;rw[z]at this;have hq:q<0:=ν
   unfold bD;rw[if_pos hq]
  .injection h with h3 h4
   subst h3;have g:=of_decide_eq_true h4;rw[g.1,z]at h1;rw[g.2,z]at h2;exact eU.2 ν
theorem fF(q:Rat):(q<0/\bD q = -1)\/(q=0/\bD q=0)\/(0<q/\bD q=1):=by
 unfold bD
 by_cases h1:q<0
 .rw[if_pos h1];exact .inl ⟨h1,rfl⟩
 .rw[if_neg h1]
  by_cases h2:q=0
  .rw[if_pos h2];exact .inr (.inl ⟨h2,rfl⟩)
  .rw[if_neg h2];exact .inr (.inr ⟨ν,rfl⟩)
theorem Fa{x y:Rat}(h0:0<=x)(h:x<y):x*x<y*y:=by
 have a1:=Rat.mul_le_mul_of_nonneg_left (Rat.le_of_lt h) h0;have a2:=Rat.mul_lt_mul_of_pos_right h (show 0<y by grind)
 grind
theorem wI(x:Rat):0<=x*x:=by
 rcases EO (a:=0) (b:=x)with h|h
 .exact AQ h h
 .have:=AQ (show 0≤-x by grind) (show 0≤-x by grind);grind
theorem xA{a b:Rat}(h:b<a):jJ a b=1:=by unfold jJ;rw[if_neg ν,if_pos h]
theorem wP{a b:Rat}(h:a<b):jJ a b = -1:=by unfold jJ;rw[if_pos h]
theorem Iq{a b:Rat}(h:a=b):jJ a b=0:=Kz.2 h
theorem yR{A B C s1 s2:Rat}{n:Int}(p1:0<=s1)(p2:s1<=s2)(q1:s1*s1<=C)(q2:C<=s2*s2)(h1:bD (A+B*s1)=n)(h2:bD (A+B*s2)=n):fP A B C=n:=by
 have hC:0<=C:=Rat.le_trans (wI s1) q1;have bb:=wI B;have m1:B*B*(s1*s1)<=B*B*C:=Rat.mul_le_mul_of_nonneg_left q1 bb;have m2:B*B*C<=B*B*(s2*s2):=Rat.mul_le_mul_of_nonneg_left q2 bb;have p3:0<=s2:=Rat.le_trans p1 p2;unfold fP;rcases fF C with⟨c1,c2⟩|⟨c1,c2⟩|⟨c1,c2⟩
 .grind
 .rw[c2,Int.mul_zero,if_pos (.inr rfl)]
  have:s1=0:=by
   rcases fF s1 with⟨k,_⟩|⟨k,_⟩|⟨k,_⟩
   .grind
   .exact k
   .have:=F9 k k;grind
  subst this;rw[<-h1];congr 1;grind
 .have p4:0<s2:=by
   rcases fF s2 with⟨k,_⟩|⟨k,_⟩|⟨k,_⟩
   .grind
   .subst k;grind
   .exact k
  rw[c2,Int.mul_one];rcases fF B with⟨b1,b2⟩|⟨b1,b2⟩|⟨b1,b2⟩<;>rcases fF A with⟨a1,a2⟩|⟨a1,a2⟩|⟨a1,a2⟩<;>rw[a2,b2]
  .have k:=AQ (show 0≤-B by grind) p1;have:A+B*s1<0:=ν
   rw[<-h1];unfold bD;rw[if_pos this];rfl
  .have k:=F9 (show 0 < -B by grind) p4;have:A+B*s2<0:=ν
   rw[<-h2];unfold bD;rw[if_pos this];rfl
  .have k1:=AQ (show 0≤-B by grind) p1;have k2:=AQ (show 0≤-B by grind) p3;rcases fF (A+B*s1)with⟨u1,u2⟩|⟨u1,u2⟩|⟨u1,u2⟩
   .rw[h1]at u2;subst u2;have:=Fa (x:=A) (y:=-B*s1) ν ν;rw[wP ν];rfl
   .rw[h1]at u2;subst u2;have v:=eU.1 h2
    have e:A*A=B*B*(s1*s1):=by have:A = -B*s1:=ν
                               subst this;grind
    have e2:A*A=B*B*(s2*s2):=by have:A = -B*s2:=ν
                                subst this;grind
    rw[Iq ν];rfl
   .rw[h1]at u2;subst u2;have v:=pO.1 h2;have:=Fa (x:=-B*s2) (y:=A) ν ν;rw[xA ν];rfl
  .subst b1;rw[<-h1];have:A+0*s1=A:=ν
   rw[this,a2];rfl
  .subst b1;rw[<-h1];have:A+0*s1=A:=ν
   rw[this,a2];rfl
  .subst b1;rw[<-h1];have:A+0*s1=A:=ν
   rw[this,a2];rfl
  .have k1:=AQ (show 0<=B by grind) p1;have k2:=AQ (show 0<=B by grind) p3;rcases fF (A+B*s1)with⟨u1,u2⟩|⟨u1,u2⟩|⟨u1,u2⟩
   .rw[h1]at u2;subst u2
    have v:A+B*s2<0:=by
     rcases fF (A+B*s2)with⟨t1,t2⟩|⟨t1,t2⟩|⟨t1,t2⟩
     .exact t1
     .rw[h2]at t2;cases t2
     .rw[h2]at t2;cases t2
    have:=Fa (x:=B*s2) (y:=-A) ν ν;rw[xA ν];rfl
   .rw[h1]at u2;subst u2;have v:=eU.1 h2
    have e:A*A=B*B*(s1*s1):=by have:A = -B*s1:=ν
                               subst this;grind
    have e2:A*A=B*B*(s2*s2):=by have:A = -B*s2:=ν
                                subst this;grind
    rw[Iq ν];rfl
   .rw[h1]at u2;subst u2;have:=Fa (x:=-A) (y:=B*s1) ν ν;rw[wP ν];rfl
  .have k:=F9 (show 0<B by grind) p4;rw[<-h2,pO.2 ν];rfl
  .have k:=AQ (show 0<=B by grind) p1;rw[<-h1,pO.2 ν];rfl
theorem BP{a b c:Rat}{p:Int×Int}(e:bQ a b c=some p):
 (b=0/\con p a)\/(0<=c/\∃s1 s2:Rat,0<=s1/\s1<=s2/\s1*s1<=c/\c<=s2*s2/\(∃w z,dh c=some z/\jr z=some w/\s1=(w.1:Rat)*(1/65536)/\s2=(w.2:Rat)*(1/65536))/\con p (a+b*s1)/\con p (a+b*s2)):=by
 unfold bQ at e;cases ha:dh a with
 |none=>rw[ha]at e;cases e
 |some x =>
  rw[ha]at e;simp only at e
  by_cases hb:b=0
  .rw[if_pos hb]at e;injection e with e
   subst e;exact .inl ⟨hb,gq ha⟩
  .rw[if_neg hb]at e;right;cases hy:dh b with
   |none=>rw[hy]at e;cases e
   |some y =>
    cases hz:dh c with
    |none=>rw[hy,hz]at e;cases e
    |some z =>
     rw[hy,hz]at e;simp only at e;split at e
     .cases e
     .rename_i hc;have h0:0<=c:=ν
      cases hw:jr z with
      |none=>rw[hw]at e;cases e
      |some w =>
       rw[hw]at e;simp only at e;cases hp:jL y w with
       |none=>rw[hp]at e;cases e
       |some m =>
        rw[hp]at e;simp only at e;obtain⟨k1,k2,k3,k4⟩:=JI hw (gq hz) h0;have j1:=IL.2 k3;have j2:=IL.2 k4;have z0:((0:Int):Rat)=0:=rfl;rw[z0]at j1;refine⟨h0,(w.1:Rat)*(1/65536),(w.2:Rat)*(1/65536),ν,ν,ν,ν,⟨w,z,rfl,hw,rfl,rfl⟩, ?_, ?_⟩
        .exact nJ e (gq ha) (sN hp (gq hy) (Rj ω ω))
        .exact nJ e (gq ha) (sN hp (gq hy) (Rj ω ω))
theorem exI_zero{a c:Rat}:fP a 0 c=bD a:=by
 unfold fP;have:bD 0=0:=eU.2 rfl;rw[this,Int.zero_mul,if_pos (.inr rfl)]
theorem YP{la lb lc ax bx ay bb c:Rat}{n:Int}(h:Ad la lb lc ax bx ay bb c=(n,true)):fP (la*ax+lb*ay-lc) (la*bx+lb*bb) c=n:=by
 unfold Ad yt at h;cases h1:bQ ax bx c with
 |none=>rw[h1]at h;cases hl:dh la<;>rw[hl]at h<;>simp at h
 |some r1 =>
  cases h2:bQ ay bb c with
  |none=>rw[h1,h2]at h;cases hl:dh la<;>cases hm:dh lb<;>rw[hl,hm]at h<;>simp at h<;>(split at h<;>simp at h)
  |some r2 =>
   rw[h1,h2]at h;cases h3:dh la with
   |none=>rw[h3]at h;simp at h
   |some x =>
    cases h4:dh lb with
    |none=>rw[h3,h4]at h;simp at h
    |some y =>
     rw[h3,h4]at h;simp only at h;cases h5:jL x r1 with
     |none=>rw[h5]at h;simp at h
     |some m1 =>
      cases h6:jL y r2 with
      |none=>rw[h5,h6]at h;simp at h
      |some m2 =>
       cases h7:dh lc with
       |none=>rw[h5,h6,h7]at h;simp at h
       |some z =>
        rw[h5,h6,h7]at h;simp only at h;cases h8:jR m1 m2 with
        |none=>rw[h8]at h;simp at h
        |some s =>
         rw[h8]at h;simp only at h;cases h9:jR s (-z.2,-z.1)with
         |none=>rw[h9]at h;simp at h
         |some t =>
          rw[h9]at h;simp only at h
          have key:∀u v:Rat,con r1 u->con r2 v->bD (la*u+lb*v-lc)=n:=λu v hu hv=>by
           have:=nJ h9 (nJ h8 (sN h5 (gq h3) hu) (sN h6 (gq h4) hv)) (Ip (gq h7));rw[<-Po h this];congr 1
           grind
          rcases BP h1 with⟨b1,k1⟩|⟨h0,s1,s2,p1,p2,q1,q2,⟨w,z',e1,e2,e3,e4⟩,k1,k2⟩<;>rcases BP h2 with⟨b2,j1⟩|⟨h0',t1,t2,p1',p2',q1',q2',⟨w',z'',e1',e2',e3',e4'⟩,j1,j2⟩
          .have e:la*bx+lb*bb=0:=by rw[b1,b2];grind
           rw[e,exI_zero];exact key _ _ k1 j1
          .refine yR p1' p2' q1' q2' ?_ ?_
           .rw[<-key _ _ k1 j1,b1];congr 1;grind
           .rw[<-key _ _ k1 j2,b1];congr 1;grind
          .refine yR p1 p2 q1 q2 ?_ ?_
           .rw[<-key _ _ k1 j1,b2];congr 1;grind
           .rw[<-key _ _ k2 j1,b2];congr 1;grind
          .rw[e1]at e1';injection e1' with e1'
           subst e1';rw[e2]at e2';injection e2' with e2'
           subst e2';subst e3 e4 e3' e4';refine yR p1 p2 q1 q2 ?_ ?_
           .rw[<-key _ _ k1 j1];congr 1;grind
           .rw[<-key _ _ k2 j2];congr 1;grind
theorem adN{la lb lc ax bx ay bb c:Rat}(h2:(!(Ad la lb lc ax bx ay bb c).2)=false):(Ad la lb lc ax bx ay bb c).1=fP (la*ax+lb*ay-lc) (la*bx+lb*bb) c :=
 (YP (n:=(Ad la lb lc ax bx ay bb c).1) (Prod.ext rfl (by simpa using h2))).symm
class RzB (q:Rat) (n:outParam Nat):Prop where
 h:rz q<=n
theorem bF{q:Rat}{n N:Nat}[k:RzB q n](h:n<=N):rz q<=N:=fZ k.h h
instance{a b:Rat}{m n:Nat}[h:RzB a m][k:RzB b n]:RzB (a+b) (2*(m+n)+1):=⟨by have:=kW a b;have:=h.h;have:=k.h;omega⟩
instance{a b:Rat}{m n:Nat}[h:RzB a m][k:RzB b n]:RzB (a-b) (2*(m+n)+1):=⟨by have:=ny a b;have:=h.h;have:=k.h;omega⟩
instance{a b:Rat}{m n:Nat}[h:RzB a m][k:RzB b n]:RzB (a*b) (m+n):=⟨by have:=lq a b;have:=h.h;have:=k.h;omega⟩
instance{a:Rat}{m:Nat}[h:RzB a m]:RzB (-a) m:=⟨by rw [jK];exact h.h⟩
theorem abo{A B C t m:Rat}{n:Int}(h0:0<=t)(h1:t*t<=C)(h2:0<=m)(h3:C<=m*m)(k1:bD (A+B*t)=n)(k2:bD (A+B*m)=n):fP A B C=n:=by
 have htm:t<=m:=by
  rcases EO (a:=t) (b:=m)with h|h
  .exact h
  .rcases EO (a:=m) (b:=t)with h'|h'
   .by_cases e:m=t
    .grind
    .have:=Fa h2 (show m<t by grind)
     grind
   .exact h'
 exact yR h0 htm h1 h3 k1 k2
theorem ZJ{x y l:Rat}{n:Int}(h0:0<=l)(h1:l<=1)(hx:bD x=n)(hy:bD y=n):bD (x+l*(y-x))=n:=by
 have e:x+l*(y-x)=(1-l)*x+l*y:=ν
 rw[e];rcases fF x with⟨a1,a2⟩|⟨a1,a2⟩|⟨a1,a2⟩<;>rcases fF y with⟨b1,b2⟩|⟨b1,b2⟩|⟨b1,b2⟩<;>rw[a2]at hx<;>rw[b2]at hy<;>subst hx<;>(try(exfalso;omega))
 .have p1:=AQ (show 0<=1-l by grind) (show 0≤-x by grind);have p2:=AQ h0 (show 0≤-y by grind)
  have:(1-l)*x+l*y<0:=by
   by_cases hl:l=0
   .subst hl;grind
   .have:=F9 (show 0<l by grind) (show 0 < -y by grind)
    grind
  unfold bD;rw[if_pos this]
 .subst a1 b1;rw[Rat.mul_zero,Rat.mul_zero];exact eU.2 ν
 .have p1:=AQ (show 0<=1-l by grind) (show 0<=x by grind);have p2:=AQ h0 (show 0<=y by grind)
  have:0<(1-l)*x+l*y:=by
   by_cases hl:l=0
   .subst hl;grind
   .have:=F9 (show 0<l by grind) b1
    grind
  exact pO.2 this
theorem rY{x y k:Rat}(hk:0<k)(h:x*k<=y*k):x<=y:=by
 rcases EO (a:=x) (b:=y)with h'|h'
 .exact h'
 .by_cases e:x=y
  .grind
  .have:=F9 (show 0<x-y by grind) hk;grind
theorem acC{x y k:Rat}(hk:0<k)(h:x*k=y*k):x=y:=by
 have h1:=rY hk (show x*k<=y*k by grind);have h2:=rY hk (show y*k<=x*k by grind)
 grind
theorem Ei{x y z s t u:Rat}{n:Int}(h1:s<=u)(h2:u<=t)(hz:z*(t-s)=x*(t-u)+y*(u-s))(hx:bD x=n)(hy:bD y=n)(h3:s<t):bD z=n:=by
 obtain⟨l,hl⟩:∃l,l*(t-s)=u-s:=⟨(u-s)/(t-s),(by have hne:t-s≠0:=ν;grind)⟩
 have hk:0<t-s:=ν
 have e:z=x+l*(y-x):=acC hk ν;rw[e];refine ZJ (rY hk ν) (rY hk ν) hx hy
theorem Xa{P X W C s t:Rat}{n:Int}(h0:0<=s)(h1:s<=t)(h2:s*s<=C)(h3:C<=t*t)(hW:0<=W)
 (k1:bD (P+2*X*s+W*(s*s))=n) (k2:bD (P+X*(s+t)+W*(s*t))=n) (k3:bD (P+2*X*t+W*(t*t))=n):fP (P+W*C) (2*X) C=n:=by
 by_cases hst:s=t
 .subst hst;have hC:C=s*s:=ν
  subst hC;refine yR h0 (Rat.le_refl) (Rat.le_refl) (Rat.le_refl) ?_ ?_<;>rw[<-k1]<;>congr 1<;>grind
 .have hlt:s<t:=ν
  have ht:0<t:=ν
  have hsum:0<s+t:=ν
  have hs0:s+t≠0:=ν
  obtain⟨t0,e0⟩:∃t0,t0*(s+t)=C+s*t:=⟨(C+s*t)/(s+t),ν⟩
  have q1:=AQ (show 0<=t-s by grind) h0
  have l1:s<=t0:=by
   rcases EO (a:=s) (b:=t0)with h|h
   .exact h
   .by_cases e:s=t0
    .grind
    .have:=F9 (show 0<s-t0 by grind) hsum;grind
  have l2:t0<=t:=by
   rcases EO (a:=t0) (b:=t)with h|h
   .exact h
   .by_cases e:t=t0
    .grind
    .have:=F9 (show 0<t0-t by grind) hsum;grind
  have l3:t0*t0<=C:=by
   have:=AQ (show 0<=t0-s by grind) (show 0<=t-t0 by grind)
   grind
  have m0:bD (P+W*C+2*X*t0)=n:=Ei l1 l2 ν k1 k3 hlt
  have up:∃m,0<=m/\C<=m*m/\bD (P+W*C+2*X*m)=n:=by
   rcases EO (a:=s*t) (b:=C)with h|h
   ·
    have ht0:t≠0:=ν
    obtain⟨u,eu⟩:∃u,u*t=C:=⟨C/t,ν⟩
    have u1:s<=u:=by
     rcases EO (a:=s) (b:=u)with h|h
     .exact h
     .by_cases e:s=u
      .grind
      .have:=F9 (show 0<s-u by grind) ht;grind
    have u2:u<=t:=by
     rcases EO (a:=u) (b:=t)with h|h
     .exact h
     .by_cases e:t=u
      .grind
      .have:=F9 (show 0<u-t by grind) ht;grind
    refine⟨(u+t)*(1/2),ν, ?_, ?_⟩
    .have:=wI (t-u);grind
    .have:=Ei (z:=P+X*(u+t)+W*(u*t)) u1 u2 ν k2 k3 hlt;rw[<-this];congr 1;grind
   ·
    by_cases hs:s=0
    .subst hs;have hC:C=0:=ν
     subst hC;refine⟨0,Rat.le_refl,ν, ?_⟩;rw[<-k1];congr 1;grind
    .have hs1:0<s:=ν
     obtain⟨u,eu⟩:∃u,s*u=C:=⟨C/s,ν⟩
     have u1:s<=u:=by
      rcases EO (a:=s) (b:=u)with h|h
      .exact h
      .by_cases e:s=u
       .grind
       .have:=F9 (show 0<s-u by grind) hs1;grind
     have u2:u<=t:=by
      rcases EO (a:=u) (b:=t)with h|h
      .exact h
      .by_cases e:t=u
       .grind
       .have:=F9 (show 0<u-t by grind) hs1;grind
     refine⟨(s+u)*(1/2),ν, ?_, ?_⟩
     .have:=wI (u-s);grind
     .have:=Ei (z:=P+X*(s+u)+W*(s*u)) u1 u2 ν k1 k2 hlt;rw[<-this];congr 1;grind
  obtain⟨m,m1,m2,m3⟩:=up;exact abo (Rat.le_trans h0 l1) l3 m1 m2 m0 m3
def iU(a b c f:Rat):Option (Int×Int) :=
 match bQ a b c,dh f with
 |some x,some y=>jR x (-y.2,-y.1)
 |_,_=>none
def l7(ax bx ay bb c X Y Q:Rat):Int×Bool :=
 match iU ax bx c X,iU ay bb c Y,dh Q with
 |some x,some y,some q=>(match jL x x,jL y y with
  |some s,some t=>(match jR s t with
   |some u=>(match jR u (-q.2,-q.1)with
    |some r=>zi r.1 r.2
    |none=>(0,false))
   |none=>(0,false))
  |_,_=>(0,false))
 |_,_,_=>(0,false)
def Ij(c s1 s2:Rat):Prop:=0<=c/\0<=s1/\s1<=s2/\s1*s1<=c/\c<=s2*s2/\∃w z,dh c=some z/\jr z=some w/\s1=(w.1:Rat)*(1/65536)/\s2=(w.2:Rat)*(1/65536)
theorem UJ{c s1 s2 t1 t2:Rat}(h:Ij c s1 s2)(k:Ij c t1 t2):s1=t1/\s2=t2:=by
 obtain⟨_,_,_,_,_,w,z,e1,e2,e3,e4⟩:=h;obtain⟨_,_,_,_,_,w',z',e1',e2',e3',e4'⟩:=k;rw[e1]at e1';injection e1' with e1'
 subst e1';rw[e2]at e2';injection e2' with e2'
 subst e2';exact⟨e3.trans e3'.symm,e4.trans e4'.symm⟩
theorem L9{a b c f:Rat}{p:Int×Int}(e:iU a b c f=some p):(b=0/\con p (a-f))\/∃s1 s2,Ij c s1 s2/\con p (a-f+b*s1)/\con p (a-f+b*s2):=by
 unfold iU at e;cases h1:bQ a b c with
 |none=>rw[h1]at e;cases e
 |some x =>
  cases h2:dh f with
  |none=>rw[h1,h2]at e;cases e
  |some y =>
   rw[h1,h2]at e;simp only at e;have k0:=Ip (gq h2);rcases BP h1 with⟨hb,k⟩|⟨h0,s1,s2,p1,p2,q1,q2,⟨w,z,e1,e2,e3,e4⟩,k1,k2⟩
   .refine .inl ⟨hb, ?_⟩;have:=nJ e k k0
    rwa [show a + -f=a-f by grind]at this
   .refine .inr ⟨s1,s2,⟨h0,p1,p2,q1,q2,w,z,e1,e2,e3,e4⟩, ?_, ?_⟩
    .have:=nJ e k1 k0
     rwa [show a+b*s1 + -f=a-f+b*s1 by grind]at this
    .have:=nJ e k2 k0
     rwa [show a+b*s2 + -f=a-f+b*s2 by grind]at this
theorem Ul{ax bx ay bb c X Y Q:Rat}{n:Int}(h:l7 ax bx ay bb c X Y Q=(n,true)):
 fP ((ax-X)*(ax-X)+(ay-Y)*(ay-Y)+c*(bx*bx+bb*bb)-Q) ((ax-X)*bx+(ay-Y)*bb+((ax-X)*bx+(ay-Y)*bb)) c=n:=by
 unfold l7 at h;cases h1:iU ax bx c X with
 |none=>rw[h1]at h;simp at h
 |some x =>
  cases h2:iU ay bb c Y with
  |none=>rw[h1,h2]at h;simp at h
  |some y =>
   cases h3:dh Q with
   |none=>rw[h1,h2,h3]at h;simp at h
   |some q =>
    rw[h1,h2,h3]at h;simp only at h;cases h4:jL x x with
    |none=>rw[h4]at h;simp at h
    |some s =>
     cases h5:jL y y with
     |none=>rw[h4,h5]at h;simp at h
     |some t =>
      rw[h4,h5]at h;simp only at h;cases h6:jR s t with
      |none=>rw[h6]at h;simp at h
      |some u =>
       rw[h6]at h;simp only at h;cases h7:jR u (-q.2,-q.1)with
       |none=>rw[h7]at h;simp at h
       |some r =>
        rw[h7]at h;simp only at h
        have key:∀u1 u2 v1 v2:Rat,con x u1->con x u2->con y v1->con y v2->bD (u1*u2+v1*v2-Q)=n:=λu1 u2 v1 v2 a b c d=>by
         have:=nJ h7 (nJ h6 (sN h4 a b) (sN h5 c d)) (Ip (gq h3));rw[<-Po h this];congr 1;grind
        have fin:∀s1 s2:Rat,Ij c s1 s2->con x (ax-X+bx*s1)->con x (ax-X+bx*s2)->con y (ay-Y+bb*s1)->con y (ay-Y+bb*s2) ->
         fP ((ax-X)*(ax-X)+(ay-Y)*(ay-Y)+c*(bx*bx+bb*bb)-Q) ((ax-X)*bx+(ay-Y)*bb+((ax-X)*bx+(ay-Y)*bb)) c=n:=λs1 s2 ⟨_,p1,p2,q1,q2,_⟩ a1 a2 b1 b2=>by
         have w1:=wI bx;have w2:=wI bb
         have:=Xa (P:=(ax-X)*(ax-X)+(ay-Y)*(ay-Y)-Q) (X:=(ax-X)*bx+(ay-Y)*bb) (W:=bx*bx+bb*bb) (C:=c) (n:=n) p1 p2 q1 q2 ν
          (by rw[<-key _ _ _ _ a1 a1 b1 b1];congr 1;grind) (by rw[<-key _ _ _ _ a1 a2 b1 b2];congr 1;grind) (by rw[<-key _ _ _ _ a2 a2 b2 b2];congr 1;grind)
         rw[<-this];congr 1<;>grind
        rcases L9 h1 with⟨b1,k1⟩|⟨s1,s2,hs,k1,k2⟩<;>rcases L9 h2 with⟨b2,j1⟩|⟨t1,t2,ht,j1,j2⟩
        .subst b1 b2;rw[show(ax-X)*0+(ay-Y)*0+((ax-X)*0+(ay-Y)*0)=(0:Rat) by grind,exI_zero,<-key _ _ _ _ k1 k1 j1 j1];congr 1;grind
        .subst b1;have e:∀s:Rat,ax-X+0*s=ax-X:=λs=>by grind
         exact fin t1 t2 ht (by rw[e];exact k1) (by rw[e];exact k1) j1 j2
        .subst b2;have e:∀s:Rat,ay-Y+0*s=ay-Y:=λs=>by grind
         exact fin s1 s2 hs k1 k2 (by rw[e];exact j1) (by rw[e];exact j1)
        .obtain⟨rfl,rfl⟩:=UJ hs ht;exact fin _ _ hs k1 k2 j1 j2
def nC(n:Int):Bool:=decide (0<=n)&&decide ((((iC n.natAbs:Nat):Int))*((iC n.natAbs:Nat):Int)=n)
def fQ(a:Rat):Bool:=nC a.num&&nC a.den
def wE(a:Rat):Rat:=((((iC a.num.natAbs:Nat):Int)):Rat)/((((iC (a.den:Int).natAbs:Nat):Int)):Rat)
theorem KA{n:Int}:nC n=true↔∃m:Nat,(m:Int)*m=n:=by
 unfold nC;rw[gX,decide_eq_true_eq,decide_eq_true_eq];constructor
 .rintro ⟨_,h⟩;exact⟨_,h⟩
 .rintro ⟨m,rfl⟩;have e:((m:Int)*m).natAbs=m*m:=by rw[Int.natAbs_mul,uP]
  have h:iC (m*m)=m:=(KD (jg _) (Nat.mul_lt_mul'' ω ω)).symm;rw[e,h];exact⟨Int.mul_nonneg ω ω,rfl⟩
theorem Hu{n:Int}(h:nC n=true):((iC n.natAbs:Nat):Int)*((iC n.natAbs:Nat):Int)=n:=by
 unfold nC at h;rw[gX,decide_eq_true_eq,decide_eq_true_eq]at h;exact h.2
theorem rG{a:Rat}(h:fQ a=true):(wE a).num=((iC a.num.natAbs:Nat):Int)/\((wE a).den:Int)=((iC (a.den:Int).natAbs:Nat):Int):=by
 unfold fQ at h;rw[gX]at h;obtain⟨h1,h2⟩:=h;have e1:=Hu h1;have e2:=Hu h2;have hd:=den_pos a
 have hp:0<((iC (a.den:Int).natAbs:Nat):Int):=by
  rcases yD (iC (a.den:Int).natAbs)with h0|h0
  .rw[h0]at e2;simp at e2;omega
  .omega
 have hg:Nat.gcd (iC a.num.natAbs) (iC (a.den:Int).natAbs)=1:=by
  have hc:=a.reduced
  have d1:Nat.gcd (iC a.num.natAbs) (iC (a.den:Int).natAbs) ∣ a.num.natAbs:=by
   have:a.num.natAbs=iC a.num.natAbs*iC a.num.natAbs:=by
    have:=congrArg Int.natAbs e1;rw[Int.natAbs_mul,uP]at this;exact this.symm
   exact Nat.dvd_trans (Nat.gcd_dvd_left _ _) ⟨_,this⟩
  have d2:Nat.gcd (iC a.num.natAbs) (iC (a.den:Int).natAbs) ∣ a.den:=by
   have:a.den=iC (a.den:Int).natAbs*iC (a.den:Int).natAbs:=by
    have:=congrArg Int.natAbs e2;rw[Int.natAbs_mul,uP]at this;exact this.symm
   exact Nat.dvd_trans (Nat.gcd_dvd_right _ _) ⟨_,this⟩
  exact Nat.eq_one_of_dvd_one (hc▸Nat.dvd_gcd d1 d2)
 obtain⟨q1,q2⟩:=sJ (n:=((iC a.num.natAbs:Nat):Int)) hp;change Nat.gcd (((iC a.num.natAbs:Nat):Int)).natAbs (((iC (a.den:Int).natAbs:Nat):Int)).natAbs=1 at hg;rw[hg]at q1 q2;exact⟨by unfold wE;rw[q1];exact fdiv_one _,by unfold wE;rw[q2];exact fdiv_one _⟩
theorem adG{a:Rat}(h:fQ a=true):0<=wE a:=by
 have h1:=(rG h).1;have h2:=PS (wE a);rw[h1]at h2;rcases EO (a:=0) (b:=wE a)with h3|h3
 .exact h3
 .by_cases e:wE a=0
  .grind
  .have:=h2.2 ν;omega
theorem NV{a:Rat}(h:fQ a=true):wE a*wE a=a:=by
 have hh:=h;unfold fQ at hh;rw[gX]at hh;obtain⟨p1,p2⟩:=rG h;have e1:=Hu hh.1;have e2:=Hu hh.2;rw[<-p1]at e1;rw[<-p2]at e2;have:=mul_div (wE a) (wE a);rw[e1,e2]at this;rw[<-this,<-num_den_div]
where
 num_den_div {a:Rat}:a=(a.num:Rat)/((a.den:Int):Rat):=by
  have h1:=lM a;have h2:=nN a;rw[h1];grind
theorem Zb(s:Rat):(s*s).num=s.num*s.num/\((s*s).den:Int)=s.den*s.den:=by
 have hp:(0:Int)<s.den*s.den:=Int.mul_pos (den_pos s) (den_pos s);obtain⟨q1,q2⟩:=sJ (n:=s.num*s.num) hp
 have hg:Nat.gcd (s.num*s.num).natAbs ((s.den:Int)*s.den).natAbs=1:=by
  rw[Int.natAbs_mul,Int.natAbs_mul,uP];have hc:Nat.Coprime s.num.natAbs s.den:=s.reduced;exact Nat.Coprime.mul_right (Nat.Coprime.mul_left hc hc) (Nat.Coprime.mul_left hc hc)
 rw[hg]at q1 q2;rw[mul_div]at q1 q2;exact⟨q1.trans (fdiv_one _),q2.trans (fdiv_one _)⟩
theorem Lh{a s:Rat}(h:s*s=a):fQ a=true:=by
 subst h;obtain⟨h1,h2⟩:=Zb s;unfold fQ;rw[gX];refine⟨KA.2 ⟨s.num.natAbs, ?_⟩,KA.2 ⟨s.den,h2.symm⟩⟩;rw[h1];have:=Int.natAbs_mul_self (a:=s.num);exact this
theorem acZ{a s:Rat}(h:fQ a=false):s*s≠a:=λe=>by rw[Lh e]at h;cases h
def pq(a b c:Rat):Int:=if bD a=bD b\/bD b=0 then bD a else if bD a=0 then bD b else if 0<a*a-b*b*c then bD a else bD b
theorem qX{a b c:Rat}(h:b=0\/(0<c/\fQ c=false)):pq a b c=fP a b c:=by
 rcases h with rfl|⟨hc,hs⟩
 .rw[exI_zero];unfold pq;rw[if_pos (.inr (eU.2 rfl))]
 .unfold pq fP;rw[pO.2 hc,Int.mul_one];rcases fF a with⟨a1,a2⟩|⟨a1,a2⟩|⟨a1,a2⟩<;>rcases fF b with⟨b1,b2⟩|⟨b1,b2⟩|⟨b1,b2⟩<;>rw[a2,b2]<;>simp
  .have hb:b≠0:=ν
   by_cases g:0<a*a-b*b*c
   .rw[if_pos g,xA ν]
   .rw[if_neg g]
    by_cases e:a*a=b*b*c
    .exact absurd (show a/b*(a/b)=c by grind) (acZ hs)
    .rw[wP ν];rfl
  .have hb:b≠0:=ν
   by_cases g:0<a*a-b*b*c
   .rw[if_pos g,xA ν]
   .rw[if_neg g]
    by_cases e:a*a=b*b*c
    .exact absurd (show a/b*(a/b)=c by grind) (acZ hs)
    .rw[wP ν]
@[reducible] def Q2(a b:Rat):AV:=.agg [zs a.num,zl a.num,zs a.den,zl a.den,zs b.num,zl b.num,zs b.den,zl b.den]
@[reducible] def ZQ3:AV:=.agg [.v (.bool false),.sl 1 [],.v (.bool false),.sl 1 [],.v (.bool false),.sl 1 [],.v (.bool false),.sl 1 [],.v (.bool false),.sl 1 [],.v (.bool false),.sl 1 []]
def bH(b c:Rat):Rat:=if b=0\/c=0 then 0 else b
def bM(b c:Rat):Rat:=if b=0\/c=0 then 0 else c
def dS(a b c:Rat):Rat:=if fQ c=true then a+b*wE c else a
def dN(b c:Rat):Rat:=if fQ c=true then 0 else bH b c
def dP(b c:Rat):Rat:=if fQ c=true then 0 else bM b c
def bC(b c:Rat):Rat:=if b=0 then 0 else c
def eY(b e c:Rat):Rat:=if b=0/\e=0 then 0 else c
def okP(b e c:Rat):Prop:=(b=0/\e=0/\c=0)\/(0<c/\fQ c=false)
theorem QE:fQ 0=true:=Lh (s:=0) ν
theorem Zf{c:Rat}(h:fQ c=false):c≠0:=λe=>by rw[e,QE]at h;cases h
theorem vJ{b c:Rat}(h:fQ c=false):bH b c=b:=by
 unfold bH;split
 .rename_i e;rcases e with e|e
  .exact e.symm
  .exact absurd e (Zf h)
 .rfl
theorem vC{b c:Rat}(h:fQ c=false):bM b c=if b=0 then 0 else c:=by
 unfold bM
 by_cases e:b=0
 .rw[if_pos (.inl e),if_pos e]
 .rw[if_neg (by rintro (h'|h');exact e h';exact Zf h h'),if_neg e]
theorem TU{a b c e f:Rat}(h:okP e f c)(hb:e=0/\f=0->b=0):pq (dS a b c) (dN b c) (dP b c)=fP a b c:=by
 rcases h with⟨h1,h2,rfl⟩|⟨hc,hs⟩
 .rw[hb ⟨h1,h2⟩];unfold dS dN dP;simp only[QE,if_true];rw[qX (.inl rfl),exI_zero,exI_zero];congr 1;grind
 .unfold dS dN dP;simp only[hs,eF,if_false,vJ hs,vC hs]
  by_cases h0:b=0
  .subst h0;rw[qX (.inl rfl),exI_zero,exI_zero]
  .rw[if_neg h0];exact qX (.inr ⟨hc,hs⟩)
theorem Um{u v b e c q A B C c1 c2 k:Rat}(h:okP b e c)(e1:c1=bC b c)(e2:c2=bC e c)
 (hA:A=u*u+b*b*c1+(v*v+e*e*c2) + -q) (hk:k=if bH (u*b+b*u) c1=0 then bM (v*e+e*v) c2 else bM (u*b+b*u) c1)
 (hB:B=bH (bH (u*b+b*u) c1+bH (v*e+e*v) c2) k) (hC:C=bM (bH (u*b+b*u) c1+bH (v*e+e*v) c2) k) :
 pq A B C=fP (u*u+v*v+c*(b*b+e*e)-q) (u*b+v*e+(u*b+v*e)) c:=by
 rcases h with⟨rfl,rfl,rfl⟩|⟨hc,hs⟩
 .have z1:bH (u*0+0*u) c1=0:=by unfold bH;rw[if_pos (.inl ν)]
  have z2:bH (v*0+0*v) c2=0:=by unfold bH;rw[if_pos (.inl ν)]
  rw[z1,z2]at hB hC;have:B=0:=by rw[hB];unfold bH;rw[if_pos (.inl ν)]
  rw[this,qX (.inl rfl),exI_zero,show u*0+v*0+(u*0+v*0)=(0:Rat) by grind,exI_zero,hA];congr 1;grind
 .have r1:bH (u*b+b*u) c1=u*b+b*u/\b*b*c1=b*b*c/\(u*b+b*u≠0->bM (u*b+b*u) c1=c):=by
   by_cases hb:b=0
   .subst hb;refine⟨?_,ν,λh=>absurd ν h⟩;unfold bH;rw[if_pos (.inl ν)];grind
   .have:c1=c:=by rw[e1];unfold bC;rw[if_neg hb]
    rw[this];exact⟨vJ hs,rfl,λh=>by rw[vC hs,if_neg h]⟩
  have r2:bH (v*e+e*v) c2=v*e+e*v/\e*e*c2=e*e*c/\(v*e+e*v≠0->bM (v*e+e*v) c2=c):=by
   by_cases he:e=0
   .subst he;refine⟨?_,ν,λh=>absurd ν h⟩;unfold bH;rw[if_pos (.inl ν)];grind
   .have:c2=c:=by rw[e2];unfold bC;rw[if_neg he]
    rw[this];exact⟨vJ hs,rfl,λh=>by rw[vC hs,if_neg h]⟩
  rw[r1.1]at hk hB hC;rw[r2.1]at hB hC;rw[show u*u+v*v+c*(b*b+e*e)-q=A by rw[hA];grind]
  by_cases hz:u*b+b*u+(v*e+e*v)=0
  .have hB0:B=0:=by rw[hB];unfold bH;rw[if_pos (.inl hz)]
   rw[hB0,qX (.inl rfl),exI_zero,show u*b+v*e+(u*b+v*e)=(0:Rat) by grind,exI_zero]
  .have hkc:k=c:=by
    rw[hk]
    by_cases h1:u*b+b*u=0
    .rw[if_pos h1];exact r2.2.2 ν
    .rw[if_neg h1];exact r1.2.2 h1
   have hB1:B=u*b+v*e+(u*b+v*e):=by rw[hB,hkc,vJ hs];grind
   have hC1:C=c:=by rw[hC,hkc,vC hs,if_neg hz]
   rw[hB1,hC1];exact qX (.inr ⟨hc,hs⟩)
theorem ace{ax bx ay bb c X Y Q:Rat}(h:(l7 ax bx ay bb c X Y Q).2=true):
 (l7 ax bx ay bb c X Y Q).1=fP ((ax-X)*(ax-X)+(ay-Y)*(ay-Y)+c*(bx*bx+bb*bb)-Q) ((ax-X)*bx+(ay-Y)*bb+((ax-X)*bx+(ay-Y)*bb)) c :=
 (Ul (n:=(l7 ax bx ay bb c X Y Q).1) (Prod.ext rfl h)).symm
section
variable {a b:Rat}
end
theorem aeU{c:Rat}(h:fQ c=true):rz (wE c)<=rz c:=by
 obtain⟨h1,h2⟩:=rG h
 have k:∀n:Nat,iC n<=n:=λn=>by
  have h3:=(sO n).1;rcases yD (iC n)with h4|h4
  .omega
  .exact fZ (Nat.le_mul_of_pos_left _ h4) h3
 unfold rz;rw[h1,h2];have a1:=ku (a:=((iC c.num.natAbs:Nat):Int)) (b:=c.num) (by rw[uP];exact k _);have a2:=ku (a:=((iC (c.den:Int).natAbs:Nat):Int)) (b:=(c.den:Int)) (by rw[uP];exact k _);omega
theorem Il:rz 0<=1:=by decide +kernel
instance:RzB 0 1:=⟨Il⟩
theorem aec{a b c:Rat}{m n k:Nat}(h1:rz a<=m)(h2:rz b<=n)(h3:rz c<=k):rz (dS a b c)<=2*(m+(n+k))+1:=by
 unfold dS;split
 .rename_i h;have:=kW a (b*wE c);have:=lq b (wE c);have:=aeU h;omega
 .omega
theorem afy{b c:Rat}{n:Nat}(h2:rz b<=n):rz (dN b c)<=n+1:=by
 have:=Il;unfold dN bH;split
 .omega
 .split<;>omega
theorem aeV{b c:Rat}{n:Nat}(h2:rz c<=n):rz (dP b c)<=n+1:=by
 have:=Il;unfold dP bM;split
 .omega
 .split<;>omega
theorem abf{b c:Rat}{n:Nat}(h2:rz b<=n):rz (bH b c)<=n+1:=by
 have:=Il;unfold bH;split<;>omega
theorem aaH{b c:Rat}{n:Nat}(h2:rz c<=n):rz (bM b c)<=n+1:=by
 have:=Il;unfold bM;split<;>omega
theorem abE{b c:Rat}{n:Nat}(h2:rz c<=n):rz (bC b c)<=n+1:=by
 have:=Il;unfold bC;split<;>omega
instance{a b c:Rat}{m n k:Nat}[h1:RzB a m][h2:RzB b n][h3:RzB c k]:RzB (dS a b c) (2*(m+(n+k))+1):=⟨aec h1.h h2.h h3.h⟩
instance{b c:Rat}{n:Nat}[h2:RzB b n]:RzB (dN b c) (n+1):=⟨afy h2.h⟩
instance{b c:Rat}{n:Nat}[h2:RzB c n]:RzB (dP b c) (n+1):=⟨aeV h2.h⟩
instance{b c:Rat}{n:Nat}[h2:RzB b n]:RzB (bH b c) (n+1):=⟨abf h2.h⟩
instance{b c:Rat}{n:Nat}[h2:RzB c n]:RzB (bM b c) (n+1):=⟨aaH h2.h⟩
instance{b c:Rat}{n:Nat}[h2:RzB c n]:RzB (bC b c) (n+1):=⟨abE h2.h⟩
instance{p:Prop}[Decidable p]{a b:Rat}{m n:Nat}[h1:RzB a m][h2:RzB b n]:RzB (if p then a else b) (m+n):=⟨by split;exact fZ h1.h ω;exact fZ h2.h ω⟩
open Go.RowKit
class DenC (P:Program) [Wld P] (f:FuncId) (xs:List AV) (pre:outParam Prop) (c:outParam Prop) (r s:outParam AV):Prop where
 den:pre->(c->Den P f xs r)/\(¬c->Den P f xs s)
theorem aQ{P:Program}[Wld P]{f:FuncId}{xs:List AV}{pre c:Prop}{r s:AV}{k:AV->Prop}[h:DenC P f xs pre c r s](hp:Pr pre)(h1:c->k r)(h2:¬c->k s):CallP (Den P) f xs k:=by
 by_cases hc:c
 .exact⟨r,(h.den hp.p).1 hc,h1 hc⟩
 .exact⟨s,(h.den hp.p).2 hc,h2 hc⟩
theorem Ew{P:Program}[Wld P]{f:FuncId}{xs:List AV}{pre c:Prop}{r s:AV}(h:pre->∀q,(c->q=r)->(¬c->q=s)->Den P f xs q)(hp:pre):(c->Den P f xs r)/\(¬c->Den P f xs s) :=
 ⟨λhc=>h hp r (λ_=>rfl) (λn=>absurd hc n),λhc=>h hp s (λn=>absurd n hc) (λ_=>rfl)⟩
end Go.Sw
namespace Go.Sw
open Go
class SzB (n:Int) (k:outParam Nat):Prop where
 h:sz n<=k
theorem cO{n:Int}{k K:Nat}[i:SzB n k](h:k<=K):sz n<=K:=fZ i.h h
instance{q:Rat}{n:Nat}[i:RzB q n]:SzB q.num n:=⟨fZ (lN q) i.h⟩
instance{q:Rat}{n:Nat}[i:RzB q n]:SzB (q.den:Int) n:=⟨fZ (mX q) i.h⟩
instance{a b:Int}{m n:Nat}[i:SzB a m][j:SzB b n]:SzB (a*b) (m+n):=⟨by have:=jc a b;have:=i.h;have:=j.h;omega⟩
instance{p:Prop}[Decidable p]{a b:Int}{m n:Nat}[h1:SzB a m][h2:SzB b n]:SzB (if p then a else b) (m+n):=⟨by split;exact fZ h1.h ω;exact fZ h2.h ω⟩
instance:SzB 0 3:=⟨jP ψ ψ⟩
theorem Ot(n:Nat):iC n<=n:=by
 have h3:=(sO n).1;rcases yD (iC n)with h4|h4
 .omega
 .exact fZ (Nat.le_mul_of_pos_left _ h4) h3
instance{a:Int}{m:Nat}[i:SzB a m]:SzB ((iC a.natAbs:Nat):Int) m:=⟨fZ (ku (by rw [uP];exact Ot _)) i.h⟩
instance{c:Rat}{n:Nat}[i:RzB c n]:RzB (wE c) n:=⟨by
 have hd:((iC (c.den:Int).natAbs:Nat):Int)≠0:=by
  have h1:=(sO (c.den:Int).natAbs).2;have h2:=den_pos c;intro e;have:iC (c.den:Int).natAbs=0:=ω
  rw[this]at h1;omega
 have:=Ii (n:=((iC c.num.natAbs:Nat):Int)) hd;have a1:=ku (a:=((iC c.num.natAbs:Nat):Int)) (b:=c.num) (by rw[uP];exact Ot _);have a2:=ku (a:=((iC (c.den:Int).natAbs:Nat):Int)) (b:=(c.den:Int)) (by rw[uP];exact Ot _);have h:=i.h;unfold rz at h;unfold wE
 omega⟩
section
variable {a b c:Rat}
theorem alY(h:bD a=bD b):aW [AV.c (Cell.v (.int .i64 (bD a)))]=AV.int .i64 (pq a b c):=iE (by unfold pq;rw[if_pos (.inl h)])
theorem alm(h:b=0):aW [AV.c (Cell.v (.int .i64 (bD a)))]=AV.int .i64 (pq a b c):=iE (by unfold pq;rw[if_pos (.inr (eU.2 h))])
theorem akw(h1:¬bD a=bD b)(h2:¬b=0)(h3:a=0):aW [AV.c (Cell.v (.int .i64 (bD b)))]=AV.int .i64 (pq a b c):=iE (by
 unfold pq;rw[if_neg (by rintro (h|h);exact h1 h;exact h2 (eU.1 h)),if_pos (eU.2 h3)])
theorem alu(h1:¬bD a=bD b)(h2:¬b=0)(h3:¬a=0)(h4:0<a*a-b*b*c):aW [AV.c (Cell.v (.int .i64 (bD a)))]=AV.int .i64 (pq a b c):=iE (by
 unfold pq;rw[if_neg (by rintro (h|h);exact h1 h;exact h2 (eU.1 h)),if_neg (λe=>h3 (eU.1 e)),if_pos h4])
theorem akE(h1:¬bD a=bD b)(h2:¬b=0)(h3:¬a=0)(h4:¬0<a*a-b*b*c):aW [AV.c (Cell.v (.int .i64 (bD b)))]=AV.int .i64 (pq a b c):=iE (by
 unfold pq;rw[if_neg (by rintro (h|h);exact h1 h;exact h2 (eU.1 h)),if_neg (λe=>h3 (eU.1 e)),if_neg h4])
end
section
variable {a b c:Rat} {q:AV}
theorem afC(h:¬bD a=bD b):aW [AV.c (Cell.v (.int .i64 (kF (bD a) (bD b))))]=AV.int .i64 (jJ a b):=iE (by
 rcases fF a with⟨a1,a2⟩|⟨a1,a2⟩|⟨a1,a2⟩<;>rcases fF b with⟨b1,b2⟩|⟨b1,b2⟩|⟨b1,b2⟩<;>rw[a2,b2]at h ⊢<;>first
  |exact absurd rfl h|(rw[wP ν];rfl)|(rw[xA ν];rfl))
theorem acD(hb:¬b=0)(e:¬b=0->q=AV.tup [R (a/b),AV.int .i64 0]):aW [R (((a.num*b.den:Int):Rat)/((a.den*b.num:Int):Rat)),AV.c (Cell.v (.int .i64 0))]=q:=by
 rw[e hb,G5 a b hb];rfl
theorem JL(h:(a.den:Int)*b.num=0):b=0:=by
 rcases Int.mul_eq_zero.1 h with h|h
 .exact absurd h (ah a)
 .exact(Qq b).1 h
theorem ahG(h:¬(a.den:Int)*b.num=0)(e:¬b=0->q=AV.tup [R (a/b),AV.int .i64 0]):aW [R (((a.num*b.den:Int):Rat)/((a.den*b.num:Int):Rat)),AV.c (Cell.v (.int .i64 0))]=q :=
 acD (λe=>h (by rw[e];simp)) e
theorem XD(h:¬b=0):(a.den:Int)*b.num≠0:=λe=>h (JL e)
theorem aeA(n:Int):((0:Int):Rat)=(n:Rat)/((0:Int):Rat):=by rw[<-acN n];decide +kernel
theorem Xq{x:Int}(h:(if x<0 then(7:Int)else 0)=0):aW [Z (if x<0 then 0 else(iC x.natAbs:Nat)),AV.c (Cell.v (.bool (decide ((if x<0 then 0 else((iC x.natAbs:Nat):Int))*(if x<0 then 0 else((iC x.natAbs:Nat):Int))=x))))]=AV.tup [Z (if x<0 then 0 else(iC x.natAbs:Nat)),AV.bool (nC x)]:=by
 have h0:¬x<0:=λh1=>by rw[if_pos h1]at h;exact absurd h ψ
 have e:nC x=decide ((if x<0 then 0 else((iC x.natAbs:Nat):Int))*(if x<0 then 0 else((iC x.natAbs:Nat):Int))=x):=by
  unfold nC;rw[if_neg h0,decide_eq_true (show 0<=x by omega),ZC]
 rw[e];rfl
theorem YV{x:Int}(h:¬(if x<0 then(7:Int)else 0)=0):aW [Z (if x<0 then 0 else(iC x.natAbs:Nat)),AV.c (Cell.v (.bool false))]=AV.tup [Z (if x<0 then 0 else(iC x.natAbs:Nat)),AV.bool (nC x)]:=by
 have h0:x<0:=Decidable.byContradiction λh1=>h (by rw[if_neg h1])
 have e:nC x=false:=by
  unfold nC;rw[decide_eq_false (show¬0<=x by omega),Bool.false_and]
 rw[e];rfl
theorem VZ(h1:(!nC a.num)=false)(h2:(!nC a.den)=false)(e:fQ a=true->q=AV.tup [R (wE a),AV.bool true]):
 aW [AV.agg [zs (if a.num<0 then 0 else(iC a.num.natAbs:Nat)),zl (if a.num<0 then 0 else(iC a.num.natAbs:Nat)),zs (if(a.den:Int)<0 then 0 else(iC (a.den:Int).natAbs:Nat)),zl (if(a.den:Int)<0 then 0 else(iC (a.den:Int).natAbs:Nat))],AV.c (Cell.v (.bool true))]=q:=by
 have k1:nC a.num=true:=by simpa using h1
 have k2:nC a.den=true:=by simpa using h2
 have k:fQ a=true:=by unfold fQ;rw[k1,k2];rfl
 obtain⟨p1,p2⟩:=rG k
 have n1:¬a.num<0:=by
  unfold nC at k1;rw[gX,decide_eq_true_eq]at k1;omega
 have n2:¬(a.den:Int)<0:=ω
 rw[e k,if_neg n1,if_neg n2,<-p1,<-p2];rfl
theorem Jm(h:(!nC a.num)=true\/(!nC a.den)=true):¬fQ a=true:=by
 unfold fQ;rcases h with h|h<;>simp at h<;>rw[h]<;>simp
end
theorem UO{u b v e c:Rat}(h:okP b e c):bH (u*b+b*u) (bC b c)=0\/bH (v*e+e*v) (bC e c)=0\/bM (u*b+b*u) (bC b c)=bM (v*e+e*v) (bC e c):=by
 by_cases h1:bH (u*b+b*u) (bC b c)=0
 .exact .inl h1
 .by_cases h2:bH (v*e+e*v) (bC e c)=0
  .exact .inr (.inl h2)
  .right;right
   have k:∀x y:Rat,¬bH x y=0->¬x=0/\¬y=0:=λx y hh=>by
    unfold bH at hh
    by_cases g:x=0\/y=0
    .rw[if_pos g]at hh;exact absurd rfl hh
    .exact⟨λe=>g (.inl e),λe=>g (.inr e)⟩
   have k1:=k _ _ h1;have k2:=k _ _ h2;unfold bM;rw[if_neg (by rintro (g|g);exact k1.1 g;exact k1.2 g),if_neg (by rintro (g|g);exact k2.1 g;exact k2.2 g)];unfold bC at *
   by_cases hb:b=0
   .rw[if_pos hb]at k1;exact absurd rfl k1.2
   .by_cases he:e=0
    .rw[if_pos he]at k2;exact absurd rfl k2.2
    .rw[if_neg hb,if_neg he]
theorem uV(a b c:Rat):-1<=fP a b c/\fP a b c<=1:=by
 unfold fP;have h1:=kL a;have h2:=lH (kL b) (kL c);have h3:=lH (kL a) (Ku (a*a) (b*b*c))
 repeat' split
 all_goals first|exact h1|exact h2|exact h3
theorem aj8(a b c:Rat):IntKind.i64.wrap (0-fP a b c) = -fP a b c:=by
 have:=uV a b c;rw[bG ω ω];omega
theorem ajH(a b c:Rat):IntKind.i64.wrap (0-pq a b c) = -pq a b c:=by
 have h1:=kL a;have h2:=kL b
 have h : -1<=pq a b c/\pq a b c<=1:=by
  unfold pq
  repeat' split
  all_goals first|exact h1|exact h2
 rw[bG ω ω];omega
theorem agI{a b c:Rat}{n:Int}(h:pq a b c=n):aW [AV.c (Cell.v (.int .i64 (IntKind.i64.wrap (0-pq a b c))))]=AV.int .i64 (-n):=iE (by rw[ajH,h])
theorem ahA{a b c:Rat}{n:Int}(h:fP a b c=n):aW [AV.c (Cell.v (.int .i64 (IntKind.i64.wrap (0-fP a b c))))]=AV.int .i64 (-n):=iE (by rw[aj8,h])
theorem ahB{a b c d e f g h:Rat}{n:Int}(k:(l7 a b c d e f g h).2=true)(hn:(l7 a b c d e f g h).1=n)(h1 : -1<=n)(h2:n<=1):aW [AV.c (Cell.v (.int .i64 (IntKind.i64.wrap (0-(l7 a b c d e f g h).1))))]=AV.int .i64 (-n):=iE (by
 rw[hn,bG ω ω];omega)
theorem ae0{b e c:Rat}(h:okP b e c):0<=c:=by
 rcases h with⟨_,_,rfl⟩|⟨h,_⟩
 .exact Rat.le_refl
 .grind
instance{a b:Rat}{m n:Nat}[h:RzB a m][k:RzB b n]:RzB (a / b) (m+n+1):=⟨by
 by_cases hb:b=0
 .subst hb;have:a/0=0:=by rw[Rat.div_def,Rat.inv_zero,Rat.mul_zero]
  rw[this];have:=Il;omega
 .have:=ad4 a b hb;have:=h.h;have:=k.h;omega⟩
theorem aiN(a:Rat):((0:Int):Rat)=a/0:=by
 have:((0:Int):Rat)=0:=rfl;rw[this,Rat.div_def,Rat.inv_zero,Rat.mul_zero]
section
variable {a b c:Rat}
theorem ahl(h:bD b*bD c=0):aW [AV.c (Cell.v (.int .i64 (bD a)))]=AV.int .i64 (fP a b c):=iE (by unfold fP;rw[if_pos (.inr h)])
theorem agN(h:bD a=bD b*bD c):aW [AV.c (Cell.v (.int .i64 (bD a)))]=AV.int .i64 (fP a b c):=iE (by unfold fP;rw[if_pos (.inl h)])
theorem agl(h1:¬bD b*bD c=0)(h2:¬bD a=bD b*bD c)(h3:a=0):aW [AV.c (Cell.v (.int .i64 (bD b*bD c)))]=AV.int .i64 (fP a b c):=iE (by
 unfold fP;rw[if_neg (by rintro (h|h);exact h2 h;exact h1 h),if_pos (eU.2 h3)])
theorem aaP(h1:¬bD b*bD c=0)(h2:¬bD a=bD b*bD c)(h3:¬a=0):aW [AV.c (Cell.v (.int .i64 (bD a*jJ (a*a) (b*b*c))))]=AV.int .i64 (fP a b c):=iE (by
 rw[ala h2 h1 (λe=>h3 (eU.1 e))])
end
theorem Ko(a b c f:Rat):yT ((iU a b c f).getD (0,0)):=by
 unfold iU;have h1:=yH a b c;have h2:=gJ f;cases h3:bQ a b c with
 |none=>unfold yT;simp only[Zw];decide
 |some x =>
  cases h4:dh f with
  |none=>unfold yT;simp only[Zw];decide
  |some y =>
   rw[h3]at h1;rw[h4]at h2;simp only[Bd]at h1 h2;exact tH h1 (by unfold yT at *;simp only;omega)
theorem abN{a b c f:Rat}(h:(!(bQ a b c).isSome)=true\/(!(dh f).isSome)=true):(none:Option (Int×Int))=iU a b c f:=by
 unfold iU;rcases h with h|h
 .cases h1:bQ a b c with
  |none=>rfl
  |some x=>rw[h1]at h;cases h
 .cases h1:bQ a b c with
  |none=>rfl
  |some x=>cases h2:dh f with
   |none=>rfl
   |some y=>rw[h2]at h;cases h
theorem ae3{a b c f:Rat}(h:(!(bQ a b c).isSome)=false)(k:(!(dh f).isSome)=false):jR ((bQ a b c).getD (0,0)) (-((dh f).getD (0,0)).2,-((dh f).getD (0,0)).1)=iU a b c f:=by
 unfold iU;cases h1:bQ a b c with
 |none=>rw[h1]at h;cases h
 |some x=>cases h2:dh f with
  |none=>rw[h2]at k;cases k
  |some y=>rfl
section
variable {ax bx ay bb c X Y Q:Rat}
theorem amg{p:Int×Bool}(h:p=(0,false)):aW [AV.c (Cell.v (.int .i64 0)),AV.c (Cell.v (.bool false))]=AV.tup [.int .i64 p.1,.bool p.2]:=by rw[h];rfl
theorem ajP(h:(!(iU ax bx c X).isSome)=true\/(!(iU ay bb c Y).isSome)=true\/(!(dh Q).isSome)=true):l7 ax bx ay bb c X Y Q=(0,false):=by
 unfold l7;cases h1:iU ax bx c X with
 |none=>rfl
 |some x=>cases h2:iU ay bb c Y with
  |none=>rfl
  |some y=>cases h3:dh Q with
   |none=>rfl
   |some q=>rw[h1,h2,h3]at h;simp at h
theorem agt{x y q:Int×Int}(h1:(!(iU ax bx c X).isSome)=false)(h2:(!(iU ay bb c Y).isSome)=false)(h3:(!(dh Q).isSome)=false)(e1:x=(iU ax bx c X).getD (0,0))(e2:y=(iU ay bb c Y).getD (0,0))(e3:q=(dh Q).getD (0,0)):
 l7 ax bx ay bb c X Y Q=(match jL x x,jL y y with
 |some s,some t=>(match jR s t with
  |some u=>(match jR u (-q.2,-q.1)with
   |some r=>zi r.1 r.2
   |none=>(0,false))
  |none=>(0,false))
 |_,_=>(0,false)):=by
 subst e1 e2 e3;unfold l7;cases k1:iU ax bx c X with
 |none=>rw[k1]at h1;cases h1
 |some x=>cases k2:iU ay bb c Y with
  |none=>rw[k2]at h2;cases h2
  |some y=>cases k3:dh Q with
   |none=>rw[k3]at h3;cases h3
   |some q=>rfl
end
theorem ex0{A B C:Rat}(hA:A=0)(hB:B=0):fP A B C=0:=by
 subst hA hB;rw[exI_zero];exact eU.2 rfl
section
variable (a b c d e f:Rat)
end
def cD(a b c d e f:Rat):Rat:=(c-a)*(f-b)-(d-b)*(e-a)
def cU(a b c d e f:Rat):Rat:=((c-a)*(c-a)+(d-b)*(d-b))*(f-b)-((e-a)*(e-a)+(f-b)*(f-b))*(d-b)
def cV(a b c d e f:Rat):Rat:=((e-a)*(e-a)+(f-b)*(f-b))*(c-a)-((c-a)*(c-a)+(d-b)*(d-b))*(e-a)
section
variable {a b c d e f:Rat}
theorem OY{x:Rat}(h:x≠0):x+x≠0:=ν
theorem acS{u v:Rat}(h:¬(u=0/\v=0)):0<u*u+v*v:=by
 have h1:=wI u;have h2:=wI v
 have:u*u+v*v≠0:=λhh=>by
  have a1:u*u=0:=ν
  have a2:v*v=0:=ν
  exact h ⟨by rcases Rat.mul_eq_zero.1 a1 with h|h<;>exact h,by rcases Rat.mul_eq_zero.1 a2 with h|h<;>exact h⟩
 grind
theorem afO(h:¬cD a b c d e f=0):0<cU a b c d e f/(cD a b c d e f+cD a b c d e f)*(cU a b c d e f/(cD a b c d e f+cD a b c d e f))+cV a b c d e f/(cD a b c d e f+cD a b c d e f)*(cV a b c d e f/(cD a b c d e f+cD a b c d e f)):=by
 have h2:=OY h;refine acS λhh=>?_
 have u0:cU a b c d e f=0:=by have:=hh.1;grind
 have v0:cV a b c d e f=0:=by have:=hh.2;grind
 have e1:cU a b c d e f*(c-a)+cV a b c d e f*(d-b)=((c-a)*(c-a)+(d-b)*(d-b))*cD a b c d e f:=by unfold cU cV cD;grind
 rw[u0,v0]at e1
 have e2:(c-a)*(c-a)+(d-b)*(d-b)=0:=by
  rcases Rat.mul_eq_zero.1 (show((c-a)*(c-a)+(d-b)*(d-b))*cD a b c d e f=0 by rw[<-e1];grind)with h'|h'
  .exact h'
  .exact absurd h' h
 refine h ?_
 have h3:c-a=0/\d-b=0:=by
  refine Decidable.byContradiction λhn=>?_
  have:=acS hn;grind
 unfold cD;rw[h3.1,h3.2];grind
theorem amA(h:¬cD a b c d e f=0){u v:Rat}(hu:u=cU a b c d e f/(cD a b c d e f+cD a b c d e f))(hv:v=cV a b c d e f/(cD a b c d e f+cD a b c d e f)):
 (c-(a+u))*(c-(a+u))+(d-(b+v))*(d-(b+v))=u*u+v*v:=by
 have h2:=OY h;have e1:(c-a)*cU a b c d e f+(d-b)*cV a b c d e f=((c-a)*(c-a)+(d-b)*(d-b))*cD a b c d e f:=by unfold cU cV cD;grind
 have e2:(c-a)*u+(d-b)*v=((c-a)*(c-a)+(d-b)*(d-b))/2:=by
  rw[hu,hv];generalize cD a b c d e f=D at *;generalize cU a b c d e f=U at *;generalize cV a b c d e f=V at *
  grind
 grind
theorem adJ(h:¬cD a b c d e f=0){u v:Rat}(hu:u=cU a b c d e f/(cD a b c d e f+cD a b c d e f))(hv:v=cV a b c d e f/(cD a b c d e f+cD a b c d e f)):
 (e-(a+u))*(e-(a+u))+(f-(b+v))*(f-(b+v))=u*u+v*v:=by
 have h2:=OY h;have e1:(e-a)*cU a b c d e f+(f-b)*cV a b c d e f=((e-a)*(e-a)+(f-b)*(f-b))*cD a b c d e f:=by unfold cU cV cD;grind
 have e2:(e-a)*u+(f-b)*v=((e-a)*(e-a)+(f-b)*(f-b))/2:=by
  rw[hu,hv];generalize cD a b c d e f=D at *;generalize cU a b c d e f=U at *;generalize cV a b c d e f=V at *
  grind
 grind
theorem aeG(h:¬cD a b c d e f=0){u v:Rat}(hu:u=cU a b c d e f/(cD a b c d e f+cD a b c d e f))(hv:v=cV a b c d e f/(cD a b c d e f+cD a b c d e f)):
 (a-(a+u))*(a-(a+u))+(b-(b+v))*(b-(b+v))=u*u+v*v:=ν
end
abbrev P2:=Rat×Rat
structure Chn where
 kind:Nat
 ent:Nat
 fin:Nat
 src:Option P2
 dst:Option P2
def jn(i k:Nat)(v w:P2):List Chn:=if v=w then[]else[⟨1,i,k,some v,some w⟩]
open Go.RowKit
section
variable {P:Program} {ρ:Operand->Value} {w:World} {d:Option Tmp} {ty:TypeId} {pos:String} {af:Array Edge} {gd:Option (Nat × Bool)}
end
section
variable {P:Program} {ρ:Operand->Value} {w:World} {d:Option Tmp} {ty:TypeId} {pos:String} {af:Array Edge} {gd:Option (Nat × Bool)} {Q:Exit->Act->World->Prop} {l:List Oper}
end
theorem Xh{P:Program}{ops:Array Oper}{Q:Exit->Act->World->Prop}{l:List Oper}{a:Act}{w:World}(n:Nat)(h:wpList P ops Q (l.take n++l.drop n) a w):wpList P ops Q l a w:=by
 rwa [RP]at h
theorem Js{P:Program}{fn:Func}{R:Ending->World->Prop}{a:Act}{w:World}{r:ResultVar}{u:Value}(hr:fn.results.toList=[r])(hd:a.defers=[])(h1:(iw a.tmps r).run P w=.ok u w)(hR:R (.returned u) w):bodyPost P fn R .ret a w :=
 ⟨hd,u,by rw[jV,Sem.run_bind,qbQ,hr];simp[h1],hR⟩
section
variable {P:Program} [Wld P] {a:Act} {w:World}
variable [Kp] {N:Nat} {w0:World} {X0:List Nat} {S:List Bx} {M:MM} {e:Env} {b:aZ}
theorem Sta.var(h:Sta N w0 X0 S M a w e b){t i:Nat}{cs:List Cell}(hx:ld t e=some (.ptr i 0))(hb:ld i b=some (.var cs)):∃g T us,a.tmps.getD t undef=.pointer (some ⟨g,0,none⟩)/\w.heap[g]?=some (.cells us T (0,0))/\RepL w (bl S++X0) us.toList cs:=by
 obtain⟨m,g,hm,hv,hg,hxe⟩:=(h.env t _ hx).ptr_;obtain⟨m',hm',h1,h2,⟨g',h3⟩,h4⟩:=h.box i _ hb;rw[hm]at hm';cases hm';have h8:=h.ms.st.box _ (h.ms.inS i m hm h2 g hg);exact⟨g,m.T,_,hxe,h8.1,by simpa using h4⟩
theorem RepF.agg{B:Nat}{w:World}{X:List Nat}{u:Value}{cs:List Cell}(h:RepF B w X u (.agg cs)):∃us:List Value,u=.agg us.toArray/\RepL w X us cs:=by
 cases h.r with
 |d h=>cases h with
  |agg h=>exact⟨_,rfl,h⟩
end
end Go.Sw
