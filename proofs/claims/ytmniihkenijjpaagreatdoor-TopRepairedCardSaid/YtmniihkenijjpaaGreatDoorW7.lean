/-
  Rules of the abstract run, plain laws, and what functions answer, for the law TopRepaired.
  Conditions: none.
-/
import Derived.Test.YtmniihkenijjpaaGreatDoorW6
set_option linter.all false
set_option maxHeartbeats 16000000
namespace Go.Sw
open Go
theorem Z0:Z 0=.agg [.v (.bool false),.sl 1 []]:=by
 have:lim 0=[]:=bZ;simp[Z,zs,zl,lmc,this]
theorem yY(n:Nat):(lim n).length=0↔n=0:=by rw[List.length_eq_zero_iff,wB]
theorem oL(n:Nat):(((lim n).length:Nat):Int)=0↔n=0:=by rw[<-yY];omega
theorem pJ(n:Nat):(((lim n).length:Nat):Int)>0↔¬n=0:=by rw[<-yY];omega
theorem pU(a b:Int):a.natAbs=b.natAbs*(a.natAbs/b.natAbs)+a.natAbs%b.natAbs:=(Nat.div_add_mod _ _).symm
theorem JC(a:Int):aai [AV.agg [Cell.v (Value.bool false),Cell.sl 1 []],AV.agg [Cell.v (Value.bool false),Cell.sl 1 []],.int .i64 6]=.tup [Z (a.fdiv 0),Z (if(0:Int)=0 then 0 else a.fmod 0),.int .i64 (if(0:Int)=0 then 6 else 0)]:=by
 have h:a.fdiv 0=0:=by simp
 rw[h,if_pos rfl,if_pos rfl,Z0];rfl
theorem yV{a b:Int}(hb:¬b.natAbs=0)(h:a.natAbs%b.natAbs=0\/¬(decide (a<0) != decide (b<0))=true):
 aai [Z (bH (decide (a<0) != decide (b<0)) (a.natAbs/b.natAbs)),Z (bH (decide (a<0)) (a.natAbs%b.natAbs)),.int .i64 0]=.tup [Z (a.fdiv b),Z (if b=0 then 0 else a.fmod b),.int .i64 (if b=0 then 6 else 0)]:=by
 have hb':b≠0:=ω
 obtain⟨h1,h2⟩:=MC (a:=a) hb' (pU a b) (oO _ ω) (by rcases h with h|h;exact .inl h;right;by_cases h1:a<0<;>by_cases h2:b<0<;>simp_all<;>omega);rw[h1,h2,if_neg hb',if_neg hb'];rfl
theorem Ig{a b:Int}(hb:¬b.natAbs=0)(h0:¬a.natAbs%b.natAbs=0)(h:(decide (a<0) != decide (b<0))=true):
 aai [Z (bH (decide (a<0) != decide (b<0)) (a.natAbs/b.natAbs)-1),Z (bH (decide (a<0)) (a.natAbs%b.natAbs)+b),.int .i64 0]=.tup [Z (a.fdiv b),Z (if b=0 then 0 else a.fmod b),.int .i64 (if b=0 then 6 else 0)]:=by
 have hb':b≠0:=ω
 obtain⟨h1,h2⟩:=Ol (a:=a) hb' (pU a b) (oO _ ω) ω (by by_cases h1:a<0<;>by_cases h2:b<0<;>simp_all);rw[h1,h2,if_neg hb',if_neg hb'];rfl
theorem CO(neg:Bool)(n:Nat)(a:Int)(h:n<=a.natAbs):sz (bH neg n)<=sz a:=iY (by rw[iw];exact h)
def lM:Nat->Nat
 |0=>0
 |n+1=>if(lM n+1)*(lM n+1)<=n+1 then lM n+1 else lM n
theorem BJ:∀n,lM n*lM n<=n/\n<(lM n+1)*(lM n+1)
 |0=>by simp[lM]
 |n+1=>by
  obtain⟨h1,h2⟩:=BJ n;unfold lM;split
  .rename_i h;refine⟨h, ?_⟩;have e:(lM n+1+1)*(lM n+1+1)=(lM n+1)*(lM n+1)+2*(lM n+1)+1:=ν
   omega
  .exact⟨ω,ω⟩
theorem Gp{n r:Nat}(h1:r*r<=n)(h2:n<(r+1)*(r+1)):r=lM n:=by
 obtain⟨q1,q2⟩:=BJ n;rcases Nat.lt_trichotomy r (lM n)with h|h|h
 .have:=Eb (show r+1<=lM n by omega) (show r+1<=lM n by omega);omega
 .exact h
 .have:=Eb (show lM n+1<=r by omega) (show lM n+1<=r by omega);omega
theorem Ju{n:Nat}(h:n<=1000000000000):IntKind.i64.wrap ((IntKind.i64.wrap ((n:Nat)+1)).tdiv 2)=(((n+1)/2:Nat):Int):=by
 rw[aT (a:=(n:Nat)+1) ω ω,Int.tdiv_eq_ediv_of_nonneg ω,aT ω ω];omega
theorem Mc{a:Int}(h:a<0):aai [AV.agg [Cell.v (Value.bool false),Cell.sl 1 []],AV.c (Cell.v (Value.int IntKind.i64 7))]=AV.tup [Z (if a<0 then 0 else(lM a.natAbs:Nat)),AV.int IntKind.i64 (if a<0 then 7 else 0)]:=by
 rw[if_pos h,if_pos h,Z0];rfl
theorem J6{a:Int}(h:¬a<0)(h0:a.natAbs=0):aai [AV.agg [Cell.v (Value.bool false),Cell.sl 1 []],AV.c (Cell.v (Value.int IntKind.i64 0))]=AV.tup [Z (if a<0 then 0 else(lM a.natAbs:Nat)),AV.int IntKind.i64 (if a<0 then 7 else 0)]:=by
 rw[if_neg h,if_neg h,h0,show((lM 0:Nat):Int)=0 from rfl,Z0];rfl
theorem LK{a:Int}{x:Nat}(h:¬a<0)(hx:0<x/\a.natAbs<(x+1)*(x+1)/\sz x<=200000000)(hge:(((x+a.natAbs/x)/2:Nat):Int)>=x):
 aai [AV.agg [zs x,zl x],AV.c (Cell.v (Value.int IntKind.i64 0))]=AV.tup [Z (if a<0 then 0 else(lM a.natAbs:Nat)),AV.int IntKind.i64 (if a<0 then 7 else 0)]:=by
 have h1:=AY hx.1 rfl (show x<=(x+a.natAbs/x)/2 by omega);rw[if_neg h,if_neg h,<-Gp h1 hx.2.1];rfl
theorem Gm{a:Int}{x:Nat}(h0:¬a.natAbs=0)(hx:0<x/\a.natAbs<(x+1)*(x+1)/\sz x<=200000000)(hge:¬(((x+a.natAbs/x)/2:Nat):Int)>=x):
 0<(x+a.natAbs/x)/2/\a.natAbs<((x+a.natAbs/x)/2+1)*((x+a.natAbs/x)/2+1)/\sz ((x+a.natAbs/x)/2:Nat)<=200000000 :=
 ⟨Ba ω hx.1 rfl,uM hx.1 rfl,aU (iY (by rw[AP,AP];omega)) hx.2.2⟩
theorem NZ{a:Int}{x:Nat}:sz ((a.natAbs/x:Nat):Int)<=sz a:=iY (by rw[AP];exact Ky _ _)
theorem aK{x:Nat}(h:x+1<=9223372036854775807):some (AV.int .i64 (IntKind.i64.wrap ((x:Nat)+1)))=some (AV.int .i64 ((x+1:Nat):Int)):=by
 rw[aT ω ω];rfl
theorem bE{x y:Bool}(h:x=y):aai [AV.c (Cell.v (Value.bool x))]=AV.bool y:=by rw[h];rfl
theorem iE{k:IntKind}{x y:Int}(h:x=y):aai [AV.c (Cell.v (Value.int k x))]=AV.int k y:=by rw[h];rfl
theorem Sm{neg:Bool}{l:List Nat}{x:Nat}(hx:x<l.length)(h:((l.getD x 0:Nat):Int)>=1000000000):false=dM neg l:=A8 hx ω
@[reducible] def Rr(n1:Bool)(l1:List Nat)(n2:Bool)(l2:List Nat):AV:=.agg [.v (.bool n1),lmc l1,.v (.bool n2),lmc l2]
def gB(n1:Bool)(l1:List Nat)(n2:Bool)(l2:List Nat):Bool:=dM n1 l1&&(dM n2 l2&&(decide (fD (bH n2 (val l2))=1)&&decide (((Nat.gcd (val l1) (val l2):Nat):Int)=1)))
theorem kY{neg:Bool}{l:List Nat}(h:dM neg l=true):∃x:Int,neg=decide (x<0)/\l=lim x.natAbs:=⟨_,Bh h⟩
theorem yK(n1:Bool)(l1:List Nat)(n2:Bool)(l2:List Nat):dM n1 l1=false\/(∃x:Int,n1=decide (x<0)/\l1=lim x.natAbs/\dM n2 l2=false)\/∃x y:Int,n1=decide (x<0)/\l1=lim x.natAbs/\n2=decide (y<0)/\l2=lim y.natAbs:=by
 cases h1:dM n1 l1 with
 |false=>exact .inl rfl
 |true =>
  obtain⟨x,rfl,rfl⟩:=kY h1;cases h2:dM n2 l2 with
  |false=>exact .inr (.inl ⟨x,rfl,rfl,rfl⟩)
  |true =>
   obtain⟨y,rfl,rfl⟩:=kY h2;exact .inr (.inr ⟨x,y,rfl,rfl,rfl,rfl⟩)
theorem iV(x y:Int):gB (decide (x<0)) (lim x.natAbs) (decide (y<0)) (lim y.natAbs)=(decide (fD y=1)&&decide (((Nat.gcd x.natAbs y.natAbs:Nat):Int)=1)):=by
 unfold gB;rw[mY,mY,au,au,qE];rfl
theorem Bg(q:Rat):gB (decide (q.num<0)) (lim q.num.natAbs) (decide ((q.den:Int)<0)) (lim (q.den:Int).natAbs)=true:=by
 rw[iV,jG.2 (den_pos q),AP];have:=q.reduced;simp[this.gcd_eq_one]
theorem FH{n1:Bool}{l1:List Nat}{n2:Bool}{l2:List Nat}(h:gB n1 l1 n2 l2=true):∃q:Rat,n1=decide (q.num<0)/\l1=lim q.num.natAbs/\n2=decide ((q.den:Int)<0)/\l2=lim (q.den:Int).natAbs:=by
 have h0:=h;unfold gB at h0;simp only[bG]at h0;obtain⟨x,rfl,rfl⟩:=kY h0.1;obtain⟨y,rfl,rfl⟩:=kY h0.2.1;rw[iV]at h;simp only[bG,decide_eq_true_eq]at h;have hy:=jG.1 h.1;have hg:Nat.gcd x.natAbs y.natAbs=1:=ω
 refine⟨⟨x,y.natAbs,ω,hg⟩,rfl,rfl, ?_, ?_⟩
 .simp only;congr 1;rw[show((y.natAbs:Nat):Int)=y by omega]
 .simp only[AP]
@[reducible] def Iv(l h:Int):AV:=.agg [.v (.int .i64 l),.v (.int .i64 h)]
def BF(l h:Int):Int×Bool:=if l>0 then(1,true)else if h<0 then(-1,true)else(0,decide (l=0/\h=0))
def ET(l h:Int):Option (Int×Int):=if -2305843009213693952<=l/\h<=2305843009213693952 then some (l,h)else none
@[reducible] def Ov(o:Option (Int × Int)):AV:=.tup [Iv (o.getD (0,0)).1 (o.getD (0,0)).2,.bool o.isSome]
theorem CB{l h:Int}(h1 : -2305843009213693952<=l)(h2:h<=2305843009213693952):ET l h=some (l,h):=if_pos ⟨h1,h2⟩
theorem wS{l h:Int}(h1:¬(-2305843009213693952<=l/\h<=2305843009213693952)):ET l h=none:=if_neg h1
theorem XU:min (Int.toNat 32) IntKind.u64.bits=32:=rfl
theorem TK:min (Int.toNat 16) IntKind.u64.bits=16:=rfl
theorem Um:min (Int.toNat 48) IntKind.u64.bits=48:=rfl
theorem uD(a n:Nat):((a:Nat):Int).fdiv ((n:Nat):Int)=((a/n:Nat):Int):=by rw[Lr _ ω];rfl
theorem wu(n:Nat):IntKind.u64.wrap ((n:Nat):Int)=((n%18446744073709551616:Nat):Int):=by rw[IntKind.wrap_u64];omega
theorem Eo{a n:Nat}(hn:n<=64)(ha:a<18446744073709551616):adC .u64 ((a:Nat):Int) ((2^n-1:Nat):Int)=((a%2^n:Nat):Int):=by
 unfold adC;have h2:2^n<=2^64:=xM ψ hn;have h0:0<2^n:=Nat.pow_pos ψ
 have e:(BitVec.ofInt IntKind.u64.bits ((a:Nat):Int) &&& BitVec.ofInt IntKind.u64.bits ((2^n-1:Nat):Int)).toNat=a%2^n:=by
  show(BitVec.ofInt 64 ((a:Nat):Int) &&& BitVec.ofInt 64 ((2^n-1:Nat):Int)).toNat=a%2^n;rw[BitVec.ofInt_natCast,BitVec.ofInt_natCast,BitVec.toNat_and,BitVec.toNat_ofNat,BitVec.toNat_ofNat,EH (show a<2^64 from ha),EH (show 2^n-1<2^64 by omega),Nat.and_two_pow_sub_one_eq_mod]
 rw[e,wu];have h3:a%2^n<=a:=Nat.mod_le _ _;rw[EH ω]
theorem Ot{a b n:Nat}(hn:n<=64)(hb:b<2^n)(ha:2^n*a<18446744073709551616):orI .u64 ((2^n*a:Nat):Int) ((b:Nat):Int)=((2^n*a+b:Nat):Int):=by
 unfold orI;have h2:2^n<=2^64:=xM ψ hn
 have e:(BitVec.ofInt IntKind.u64.bits ((2^n*a:Nat):Int) ||| BitVec.ofInt IntKind.u64.bits ((b:Nat):Int)).toNat=2^n*a+b:=by
  show(BitVec.ofInt 64 ((2^n*a:Nat):Int) ||| BitVec.ofInt 64 ((b:Nat):Int)).toNat=2^n*a+b;rw[BitVec.ofInt_natCast,BitVec.ofInt_natCast,BitVec.toNat_or,BitVec.toNat_ofNat,BitVec.toNat_ofNat,EH (show 2^n*a<2^64 from ha),EH (show b<2^64 by omega),Nat.two_pow_add_eq_or_of_lt hb]
 have hlt:2^n*a+b<18446744073709551616:=by
  have:=(BitVec.ofInt IntKind.u64.bits ((2^n*a:Nat):Int) ||| BitVec.ofInt IntKind.u64.bits ((b:Nat):Int)).isLt;rw[e]at this;exact this
 rw[e,wu,EH hlt]
theorem FD{a b x0 x1 y0 y1:Nat}(ha:a<18446744073709551616)(hb:b<18446744073709551616)(h1:x0=a%4294967296)(h2:x1=a/4294967296)(h3:y0=b%4294967296)(h4:y1=b/4294967296):
 (x1*y1+(x1*y0+x0*y0%18446744073709551616/4294967296)/4294967296+((x1*y0+x0*y0%18446744073709551616/4294967296)%4294967296+x0*y1)/4294967296)=a*b/18446744073709551616 /\
 x0*y0<=18446744065119617025/\x1*y0<=18446744065119617025/\x0*y1<=18446744065119617025/\x1*y1<=18446744065119617025:=by
 have b1:x0*y0<=4294967295*4294967295:=Eb ω ω;have b2:x1*y0<=4294967295*4294967295:=Eb ω ω;have b3:x0*y1<=4294967295*4294967295:=Eb ω ω;have b4:x1*y1<=4294967295*4294967295:=Eb ω ω;have ea:a=x1*4294967296+x0:=ω
 have eb:b=y1*4294967296+y0:=ω
 have e:a*b=x1*y1*18446744073709551616+(x1*y0+x0*y1)*4294967296+x0*y0:=by rw[ea,eb];grind
 rw[e];generalize x0*y0=p at *;generalize x1*y0=q at *;generalize x0*y1=r at *;generalize x1*y1=s at *;exact⟨ω,ω,ω,ω,ω⟩
theorem yj(a:Nat){n:Nat}(hn:n<=64):adC .u64 ((a:Nat):Int) ((2^n-1:Nat):Int)=((a%2^n:Nat):Int):=by
 have e:adC .u64 ((a:Nat):Int) ((2^n-1:Nat):Int)=adC .u64 ((a%18446744073709551616:Nat):Int) ((2^n-1:Nat):Int):=by
  unfold adC
  have:BitVec.ofInt IntKind.u64.bits ((a:Nat):Int)=BitVec.ofInt IntKind.u64.bits ((a%18446744073709551616:Nat):Int):=by
   show BitVec.ofInt 64 ((a:Nat):Int)=BitVec.ofInt 64 ((a%18446744073709551616:Nat):Int);rw[BitVec.ofInt_natCast,BitVec.ofInt_natCast];apply BitVec.eq_of_toNat_eq;simp
  rw[this]
 rw[e,Eo hn (oO _ ψ),Nat.mod_mod_of_dvd _ (Nat.pow_dvd_pow 2 hn:2^n ∣ 2^64)]
theorem Sl(a:Nat):adC .u64 ((a:Nat):Int) 4294967295=((a%4294967296:Nat):Int):=yj a (n:=32) ψ
theorem Gf(a:Nat):adC .u64 ((a:Nat):Int) 65535=((a%65536:Nat):Int):=yj a (n:=16) ψ
theorem e32:(2:Int)^32=((4294967296:Nat):Int):=rfl
theorem e16:(2:Int)^16=((65536:Nat):Int):=rfl
theorem e48:(2:Int)^48=((281474976710656:Nat):Int):=rfl
theorem iE2{k k':IntKind}{x x' y y':Int}(h:x=x')(h':y=y'):aai [AV.c (Cell.v (Value.int k x)),AV.c (Cell.v (Value.int k' y))]=AV.tup [AV.int k x',AV.int k' y']:=by rw[h,h'];rfl
theorem Yw{k:IntKind}{x x':Int}{y y':Bool}(h:x=x')(h':y=y'):aai [AV.c (Cell.v (Value.int k x)),AV.c (Cell.v (Value.bool y))]=AV.tup [AV.int k x',AV.bool y']:=by rw[h,h'];rfl
def FB(x y:Int):Nat:=x.natAbs*y.natAbs
def Ag(x y:Int):Int×Int :=
 let q:Int:=(FB x y/65536:Nat)
 let u:Int:=if FB x y%65536=0 then q else q+1
 if(decide (x<0) != decide (y<0))=true then(-u,-q)else(q,u)
def lU(x y:Int):Int×Int×Bool :=
 if 1208925819614629174706176<=FB x y\/2305843009213693952<FB x y/65536 then(0,0,false)
 else((Ag x y).1,(Ag x y).2,decide (-2305843009213693952<=(Ag x y).1/\(Ag x y).2<=2305843009213693952))
theorem BH{x y d u:Int}{o:Bool}(h:lU x y=(d,u,o)):aai [AV.c (Cell.v (Value.int .i64 d)),AV.c (Cell.v (Value.int .i64 u)),AV.c (Cell.v (Value.bool o))]=AV.tup [AV.int .i64 (lU x y).1,AV.int .i64 (lU x y).2.1,AV.bool (lU x y).2.2]:=by rw[h];rfl
theorem Ud{p:Nat}(h:p/18446744073709551616/65536=0):orI .u64 (IntKind.u64.wrap (((p/18446744073709551616:Nat):Int)*((281474976710656:Nat):Int))) ((p%18446744073709551616/65536:Nat):Int)=((p/65536:Nat):Int):=by
 rw[<-KD,wu,EH ω,wU];have:=Ot (n:=48) (a:=p/18446744073709551616) (b:=p%18446744073709551616/65536) ψ ω ω;have e:(2:Nat)^48=281474976710656:=rfl;rw[e]at this;rw[this];congr 1;omega
theorem QT{x y:Int}(h:¬(((x.natAbs*y.natAbs/18446744073709551616/65536:Nat):Int))=0):lU x y=(0,0,false):=if_pos (.inl (by unfold FB;generalize x.natAbs*y.natAbs=p at *;omega))
theorem Md{x y:Int}(h:(((x.natAbs*y.natAbs/65536:Nat):Int))>2305843009213693952):lU x y=(0,0,false):=if_pos (.inr (by unfold FB;generalize x.natAbs*y.natAbs=p at *;omega))
theorem RN{x y d u:Int}{o:Bool}(h1:(((x.natAbs*y.natAbs/18446744073709551616/65536:Nat):Int))=0)(h2:¬(((x.natAbs*y.natAbs/65536:Nat):Int))>2305843009213693952)
 (hd:d=(Ag x y).1) (hu:u=(Ag x y).2) (ho:o=decide (-2305843009213693952<=(Ag x y).1/\(Ag x y).2<=2305843009213693952)):lU x y=(d,u,o):=by
 subst hd hu ho;exact if_neg (by unfold FB;generalize x.natAbs*y.natAbs=p at *;omega)
theorem F9{x y:Int}{s z:Bool}(hs:(decide (x<0) != decide (y<0))=s)(hz:decide (x.natAbs*y.natAbs%65536=0)=z):
 Ag x y=(if s then(-(if z then((x.natAbs*y.natAbs/65536:Nat):Int)else((x.natAbs*y.natAbs/65536:Nat):Int)+1),-((x.natAbs*y.natAbs/65536:Nat):Int))else(((x.natAbs*y.natAbs/65536:Nat):Int),if z then((x.natAbs*y.natAbs/65536:Nat):Int)else((x.natAbs*y.natAbs/65536:Nat):Int)+1)):=by
 unfold Ag FB;rw[hs];subst hz;simp only[decide_eq_true_eq]
theorem w1{q:Int}(h0:0<=q)(h:¬q>2305843009213693952):IntKind.i64.wrap q=q:=aT ω ω
theorem w2{q:Int}(h0:0<=q)(h:¬q>2305843009213693952):IntKind.i64.wrap (q+1)=q+1:=aT ω ω
theorem w3{q:Int}(h0:0<=q)(h:¬q>2305843009213693952):IntKind.i64.wrap (0-q) = -q:=by rw[aT ω ω];omega
theorem w4{q:Int}(h0:0<=q)(h:¬q>2305843009213693952):IntKind.i64.wrap (0-(q+1)) = -(q+1):=by rw[aT ω ω];omega
theorem Dc{x y:Int}{s z o:Bool}{d u:Int}(h1:(((x.natAbs*y.natAbs/18446744073709551616/65536:Nat):Int))=0)(h2:¬(((x.natAbs*y.natAbs/65536:Nat):Int))>2305843009213693952)
 (hs:(decide (x<0) != decide (y<0))=s) (hz:decide (x.natAbs*y.natAbs%65536=0)=z) (hd:d=(if s then -(if z then((x.natAbs*y.natAbs/65536:Nat):Int)else((x.natAbs*y.natAbs/65536:Nat):Int)+1)else((x.natAbs*y.natAbs/65536:Nat):Int)))
 (hu:u=(if s then -((x.natAbs*y.natAbs/65536:Nat):Int)else(if z then((x.natAbs*y.natAbs/65536:Nat):Int)else((x.natAbs*y.natAbs/65536:Nat):Int)+1))) (ho:o=decide (-2305843009213693952<=d/\u<=2305843009213693952)) :
 aai [AV.c (Cell.v (Value.int .i64 d)),AV.c (Cell.v (Value.int .i64 u)),AV.c (Cell.v (Value.bool o))]=AV.tup [AV.int .i64 (lU x y).1,AV.int .i64 (lU x y).2.1,AV.bool (lU x y).2.2]:=by
 have e1:d=(Ag x y).1:=by rw[hd,F9 hs hz];cases s<;>rfl
 have e2:u=(Ag x y).2:=by rw[hu,F9 hs hz];cases s<;>rfl
 exact BH (RN h1 h2 e1 e2 (by rw[ho,e1,e2]))
@[reducible] def UK(a:Rat):Int:=-(-a).floor
theorem Jv(a:Rat):a.floor<=UK a:=by
 unfold UK;have h1:=Rat.floor_le (a:=a);have h2:=Rat.floor_le (a:=-a);have:((a.floor+(-a).floor:Int):Rat)<=0:=by rw[Rat.intCast_add];grind
 have:=FU.1 (show((a.floor+(-a).floor:Int):Rat)<=((0:Int):Rat)from this);omega
def bD(a:Rat):Option (Int×Int):=ET (a*((65536:Int):Rat)).floor (UK (a*((65536:Int):Rat)))
def mg(a b:Int×Int):Option (Int×Int):=ET (a.1+b.1) (a.2+b.2)
theorem wL{l h:Int}(o:Option (Int×Int))(e:o=ET l h)(hlh:l<=h):-2305843009213693952<=(o.getD (0,0)).1/\(o.getD (0,0)).1<=(o.getD (0,0)).2/\(o.getD (0,0)).2<=2305843009213693952:=by
 subst e;unfold ET;split
 .exact⟨κ,κ,κ⟩
 .exact⟨η,η,η⟩
theorem G8(a:Rat):-2305843009213693952<=((bD a).getD (0,0)).1/\((bD a).getD (0,0)).1<=((bD a).getD (0,0)).2/\((bD a).getD (0,0)).2<=2305843009213693952:=wL _ rfl (Jv _)
theorem ZY{l h:Int}{b:Bool}{o:Option (Int×Int)}(e1:l=(o.getD (0,0)).1)(e2:h=(o.getD (0,0)).2)(e3:b=o.isSome):
 aai [AV.agg [Cell.v (Value.int .i64 l),Cell.v (Value.int .i64 h)],AV.c (Cell.v (Value.bool b))]=Ov o:=by subst e1 e2 e3;rfl
theorem RG{o:Option (Int×Int)}(e:o=none):aai [AV.agg [Cell.v (Value.int .i64 0),Cell.v (Value.int .i64 0)],AV.c (Cell.v (Value.bool false))]=Ov o:=by subst e;rfl
theorem Gs(a:Rat):sz a.floor<=rz a:=by
 refine aU (iY ?_) (jg a);rw[<-zh,Lr _ (by have:=den_pos a;omega)];exact Int.natAbs_ediv_le_natAbs _ _
theorem UU{a:Rat}(h:¬(-9223372036854775808<=(a*((65536:Int):Rat)).floor/\(a*((65536:Int):Rat)).floor<=9223372036854775807)):bD a=none :=
 wS (by have:=Jv (a*((65536:Int):Rat));omega)
theorem VA{a:Rat}(h:¬(-9223372036854775808≤-(-(a*((65536:Int):Rat))).floor∧-(-(a*((65536:Int):Rat))).floor<=9223372036854775807)):bD a=none :=
 wS (by have:=Jv (a*((65536:Int):Rat));unfold UK at *;omega)
theorem szl(n:Int)(h1 : -9223372036854775808<=n)(h2:n<=9223372036854775807):sz n<=3:=fV h1 h2
theorem Yd:rz ((65536:Int):Rat)<=4:=by have:=jU 65536;have:=fV (n:=65536) ω ω;omega
theorem Oz{l:Int}:List.foldl (λx y=>if y>x then y else x) l [0]=max l 0:=by
 show(if 0>l then 0 else l)=max l 0;split<;>omega
def rt(n:Int):Int:=if n*65536<0 then 0 else(lM (n*65536).natAbs:Nat)
theorem SV(n:Int):(if n*65536<0 then 0 else((lM (n*65536).natAbs:Nat):Int))=rt n:=rfl
def OW(n:Int):Int:=if rt n*rt n=n*65536 then rt n else rt n+1
theorem zD{n:Int}(h:0<=n):0<=rt n/\rt n*rt n<=n*65536/\n*65536<(rt n+1)*(rt n+1):=by
 have⟨h1,h2⟩:=BJ (n*65536).natAbs;have e:(((n*65536).natAbs:Nat):Int)=n*65536:=ω
 unfold rt;rw[if_neg ω];refine⟨ω, ?_, ?_⟩
 .have:=Int.ofNat_le.2 h1;rw[KD]at this;omega
 .have:=Int.ofNat_lt.2 h2;rw[KD,Int.natCast_add]at this;simpa[e]using this
theorem Jj{n:Int}(h:0<=n)(h2:n<=2305843009213693952):0<=rt n/\rt n<=549755813888:=by
 have⟨h0,h1,_⟩:=zD h;refine⟨h0, ?_⟩;apply Decidable.byContradiction;intro hc;have:549755813889*549755813889<=rt n*rt n:=Int.mul_le_mul ω ω ψ h0;omega
theorem Hy{n:Int}(h:0<=n):rt n<=OW n/\OW n<=rt n+1/\n*65536<=OW n*OW n:=by
 have⟨h0,h1,h2⟩:=zD h;unfold OW;split
 .omega
 .refine⟨ω,ω,ω⟩
def iJ(a:Int×Int):Option (Int×Int):=if a.2<0 then none else ET (rt (max a.1 0)) (OW a.2)
theorem D8{l h:Int}(h0:0<=l)(h1:l<=h):rt l<=rt h:=by
 have⟨a0,a1,a2⟩:=zD h0;have⟨b0,b1,b2⟩:=zD (Int.le_trans h0 h1);apply Decidable.byContradiction;intro hc;have:(rt h+1)*(rt h+1)<=rt l*rt l:=Int.mul_le_mul ω ω ω a0;omega
theorem Vb{l h:Int}(h0:¬h<0)(e:rt h*rt h=h*65536):Ov (ET (rt (max l 0)) (rt h))=Ov (iJ (l,h)):=by
 unfold iJ OW;rw[if_neg h0,if_pos e]
theorem TQ{l h:Int}(h0:¬h<0)(e:¬rt h*rt h=h*65536):Ov (ET (rt (max l 0)) (rt h+1))=Ov (iJ (l,h)):=by
 unfold iJ OW;rw[if_neg h0,if_neg e]
set_option linter.unusedSimpArgs false
theorem Ci:IntKind.i64.wrap (0+1)=1:=ψ
theorem yE:IntKind.i64.wrap (1+1)=2:=ψ
theorem cZ{b:Bool}{k:Bool->Prop}(e:b=true)(h:k true):OnB b k:=⟨λ_=>h,λh'=>by rw[e]at h';cases h'⟩
theorem dR{b:Bool}{k:Bool->Prop}(e:b=false)(h:k false):OnB b k:=⟨λh'=>(by rw[e]at h';cases h'),λ_=>h⟩
def xB(x y:Int):Int:=(x*y)/65536
def lT(x y:Int):Int:=-((-(x*y))/65536)
theorem xY(x y:Int):xB x y<=lT x y:=by unfold xB lT;omega
theorem CZ(x y:Int):Ag x y=(xB x y,lT x y):=by
 have e:x*y=if(decide (x<0) != decide (y<0))=true then -((FB x y:Nat):Int)else((FB x y:Nat):Int):=by
  unfold FB;rw[KD]
  by_cases h1:x<0<;>by_cases h2:y<0<;>simp only[h1,h2]
  .have e1:(x.natAbs:Int) = -x:=ω
   have e2:(y.natAbs:Int) = -y:=ω
   rw[e1,e2];simp[Int.neg_mul,Int.mul_neg,Int.neg_neg]
  .have e1:(x.natAbs:Int) = -x:=ω
   have e2:(y.natAbs:Int)=y:=ω
   rw[e1,e2];simp[Int.neg_mul,Int.mul_neg,Int.neg_neg]
  .have e1:(x.natAbs:Int)=x:=ω
   have e2:(y.natAbs:Int) = -y:=ω
   rw[e1,e2];simp[Int.neg_mul,Int.mul_neg,Int.neg_neg]
  .have e1:(x.natAbs:Int)=x:=ω
   have e2:(y.natAbs:Int)=y:=ω
   rw[e1,e2];simp[Int.neg_mul,Int.mul_neg,Int.neg_neg]
 unfold Ag xB lT;generalize FB x y=p at *;generalize(decide (x<0) != decide (y<0))=s at *;rw[e];cases s<;>by_cases hm:p%65536=0<;>simp only[hm,if_true,if_false]<;>(refine Prod.ext ?_ ?_<;>simp<;>omega)
theorem vN{x y:Int}(h:(lU x y).2.2=true):(lU x y).1=xB x y/\(lU x y).2.1=lT x y∧-2305843009213693952<=xB x y/\lT x y<=2305843009213693952:=by
 unfold lU at *;rw[CZ]at *;split at h
 .exact absurd h η
 .rename_i g;rw[if_neg g];exact⟨rfl,rfl,of_decide_eq_true h⟩
theorem P5{x y:Int}(h:¬(lU x y).2.2=true):¬(-2305843009213693952<=xB x y/\lT x y<=2305843009213693952):=by
 have q:=CZ x y;unfold lU at h;rw[q]at h;split at h
 .rename_i g;unfold Ag at q;generalize FB x y=p at *;intro⟨h1,h2⟩;generalize(decide (x<0) != decide (y<0))=s at *;have q1:=congrArg Prod.fst q;have q2:=congrArg Prod.snd q;cases s<;>by_cases hm:p%65536=0<;>simp only[hm,if_true,if_false]at q1 q2<;>simp at q1 q2<;>omega
 .intro⟨h1,h2⟩;exact h (decide_eq_true ⟨h1,h2⟩)
def kJ(a b:Int×Int):Option (Int×Int) :=
 ET (min (min (xB a.1 b.1) (xB a.1 b.2)) (min (xB a.2 b.1) (xB a.2 b.2))) (max (max (lT a.1 b.1) (lT a.1 b.2)) (max (lT a.2 b.1) (lT a.2 b.2)))
theorem nb{b:Bool}(h:(!b)=true):¬b=true:=by cases b<;>simp_all
theorem nb'{b:Bool}(h:(!b)=false):b=true:=by cases b<;>simp_all
theorem Jq(u v:Int):List.foldl (λx y=>if y<x then y else x) u [v]=min u v:=by
 show(if v<u then v else u)=min u v;split<;>omega
theorem GZ(u v:Int):List.foldl (λx y=>if y>x then y else x) u [v]=max u v:=by
 show(if v>u then v else u)=max u v;split<;>omega
theorem nR{a b c d x y:Int}(hx:x=a\/x=b)(hy:y=c\/y=d)(h:(!(lU x y).2.2)=true):kJ (a,b) (c,d)=none:=by
 have:=P5 (nb h);apply wS;rcases hx with rfl|rfl<;>rcases hy with rfl|rfl<;>simp only<;>omega
theorem Gn{a b c d:Int}(h1:(!(lU a c).2.2)=false)(h2:(!(lU a d).2.2)=false)(h3:(!(lU b c).2.2)=false)(h4:(!(lU b d).2.2)=false):
 aai [AV.agg [Cell.v (Value.int .i64 (min (min (min (min 2305843009213693952 (lU a c).1) (lU a d).1) (lU b c).1) (lU b d).1)),Cell.v (Value.int .i64 (max (max (max (max (-2305843009213693952) (lU a c).2.1) (lU a d).2.1) (lU b c).2.1) (lU b d).2.1))],AV.c (Cell.v (Value.bool true))]=Ov (kJ (a,b) (c,d)):=by
 obtain⟨e1,e2,e3,e4⟩:=vN (nb' h1);obtain⟨f1,f2,f3,f4⟩:=vN (nb' h2);obtain⟨g1,g2,g3,g4⟩:=vN (nb' h3);obtain⟨k1,k2,k3,k4⟩:=vN (nb' h4);have d1:=xY a c;have d2:=xY a d;have d3:=xY b c;have d4:=xY b d;rw[e1,e2,f1,f2,g1,g2,k1,k2];unfold kJ;rw[CB (by simp only;omega) (by simp only;omega)];refine ZY ?_ ?_ rfl<;>simp only[vP]<;>omega
@[reducible] def Q3(a b c:Rat):AV:=.agg [zs a.num,zl a.num,zs a.den,zl a.den,zs b.num,zl b.num,zs b.den,zl b.den,zs c.num,zl c.num,zs c.den,zl c.den]
def iL(a b c:Rat):Option (Int×Int) :=
 match bD a with
 |none=>none
 |some x=>if b=0 then some x else
  match bD b,bD c with
  |some y,some z=>if c<0 then none else
   match iJ z with
   |none=>none
   |some s=>match kJ y s with
    |none=>none
    |some p=>mg x p
  |_,_=>none
def hw(a b c d:Int):Nat->Int
 |0=>0|1=>lT a c|2=>max (lT a c) (lT a d)|3=>max (max (lT a c) (lT a d)) (lT b c)|_=>max (max (max (lT a c) (lT a d)) (lT b c)) (lT b d)
def kI:Nat->Int|0=>0|1=>1|_=>2
theorem hw1(a b c d:Int):hw a b c d 1=lT a c:=rfl
theorem hw2(a b c d:Int):hw a b c d 2=max (lT a c) (lT a d):=rfl
theorem k1:some (AV.int .i64 (IntKind.i64.wrap (0+1)))=some (AV.int .i64 (kI 1)):=by rw[Ci];rfl
theorem k2:some (AV.int .i64 (IntKind.i64.wrap (1+1)))=some (AV.int .i64 (kI 2)):=by rw[yE];rfl
@[reducible] def Q5(a b c d e:Rat):AV:=.agg [zs a.num,zl a.num,zs a.den,zl a.den,zs b.num,zl b.num,zs b.den,zl b.den,zs c.num,zl c.num,zs c.den,zl c.den,zs d.num,zl d.num,zs d.den,zl d.den,zs e.num,zl e.num,zs e.den,zl e.den]
def wE(x:Int×Int):Prop:=-2305843009213693952<=x.1/\x.1<=x.2/\x.2<=2305843009213693952
theorem fE(a:Rat):wE ((bD a).getD (0,0)):=G8 a
theorem qV(x y:Int×Int):wE ((kJ x y).getD (0,0)):=wL _ rfl (by have:=xY x.1 y.1;omega)
theorem I8{x:Int×Int}(h:wE x):wE ((iJ x).getD (0,0)):=by
 unfold iJ;split
 .exact⟨ψ,ψ,ψ⟩
 .rename_i g;refine wL _ rfl ?_;have:=D8 (l:=max x.1 0) (h:=x.2) ω (by unfold wE at h;omega);have:=(Hy (n:=x.2) ω).1;omega
theorem wz{x y:Int×Int}(h1:wE x)(h2:wE y):wE ((mg x y).getD (0,0)):=wL _ rfl (by unfold wE at *;omega)
theorem zC(a b c:Rat):wE ((iL a b c).getD (0,0)):=by
 have h0:wE (0,0):=⟨ψ,ψ,ψ⟩
 unfold iL;have ha:=fE a;have hb:=fE b;have hc:=fE c;split
 .exact h0
 .rename_i x hx;rw[hx]at ha;split
  .exact ha
  .split
   .rename_i y z hy hz;split
    .exact h0
    .split
     .exact h0
     .split
      .exact h0
      .rename_i s hs _ p hp;refine wz ha ?_;have:=qV y s;rw[hp]at this;exact this
   .exact h0
theorem Ux{o:Option (Int×Int)}(e:(none:Option (Int×Int))=o):aai [AV.agg [Cell.v (Value.int .i64 0),Cell.v (Value.int .i64 0)],AV.c (Cell.v (Value.bool false))]=Ov o:=by subst e;rfl
end Go.Sw
namespace Go.Sw
open Go
theorem iU(a:Rat):-1<=aC a/\aC a<=1:=by unfold aC;split<;>(try split)<;>omega
theorem rH(a b:Rat):-1<=dU a b/\dU a b<=1:=by unfold dU;split<;>(try split)<;>omega
theorem jd{x y:Int}(h1 : -1<=x/\x<=1)(h2 : -1<=y/\y<=1):-1<=x*y/\x*y<=1:=by
 have a:x = -1\/x=0\/x=1:=ω
 rcases a with rfl|rfl|rfl<;>omega
theorem XA(a b:Rat):IntKind.i64.wrap (aC a*aC b)=aC a*aC b:=by
 have:=jd (iU a) (iU b);exact aT ω ω
theorem Xb(a b c:Rat):IntKind.i64.wrap (aC a*dU b c)=aC a*dU b c:=by
 have:=jd (iU a) (rH b c);exact aT ω ω
def nG(a b c:Rat):Int :=
 if aC a=aC b*aC c\/aC b*aC c=0 then aC a
 else if aC a=0 then aC b*aC c
 else aC a*dU (a*a) (b*b*c)
theorem XR{a b c:Rat}(g1:¬aC a=aC b*aC c)(g2:¬aC b*aC c=0)(g3:¬aC a=0):nG a b c=aC a*dU (a*a) (b*b*c):=by
 unfold nG;rw[if_neg (λh=>h.elim g1 g2),if_neg g3]
theorem Vh(n:Int)(h1 : -9223372036854775808<=n)(h2:n<=9223372036854775807):rz (n:Rat)<=4:=by
 have:=jU n;have:=fV h1 h2;omega
theorem Xg(n d:Int)(h0:d≠0)(h1 : -9223372036854775808<=n/\n<=9223372036854775807)(h2 : -9223372036854775808<=d/\d<=9223372036854775807):rz ((n:Rat)/(d:Rat))<=6:=by
 have:=wI (n:=n) h0;have:=fV h1.1 h1.2;have:=fV h2.1 h2.2;omega
theorem Ai{a b x k L:Rat}(h1:a<=x)(h2:x<=b)(p:L<=a*k)(q:L<=b*k):L<=x*k:=by
 rcases AB (a:=0) (b:=k)with hk|hk
 .have:=Rat.mul_le_mul_of_nonneg_right h1 hk;grind
 .have:=Rat.mul_le_mul_of_nonneg_right h2 (show 0≤-k by grind);grind
theorem Jt{a b c d x y L:Rat}(h1:a<=x)(h2:x<=b)(h3:c<=y)(h4:y<=d)(p1:L<=a*c)(p2:L<=a*d)(p3:L<=b*c)(p4:L<=b*d):L<=x*y:=by
 apply Ai h1 h2
 .rw[Rat.mul_comm];exact Ai h3 h4 (by rw[Rat.mul_comm];exact p1) (by rw[Rat.mul_comm];exact p2)
 .rw[Rat.mul_comm];exact Ai h3 h4 (by rw[Rat.mul_comm];exact p3) (by rw[Rat.mul_comm];exact p4)
theorem Sr{a b c d x y L:Rat}(h1:a<=x)(h2:x<=b)(h3:c<=y)(h4:y<=d)(p1:a*c<=L)(p2:a*d<=L)(p3:b*c<=L)(p4:b*d<=L):x*y<=L:=by
 have:=Jt (L:=-L) (a:=-b) (b:=-a) (x:=-x) (y:=y) (c:=c) (d:=d) ν ν h3 h4 ν ν ν ν
 grind
theorem PL(x y:Int):((xB x y:Int):Rat)*65536<=(x:Rat)*(y:Rat):=by
 have h:((xB x y*65536:Int):Rat)<=((x*y:Int):Rat):=FU.2 (by unfold xB;omega);rw[E8,E8]at h;exact h
theorem Po(x y:Int):(x:Rat)*(y:Rat)<=((lT x y:Int):Rat)*65536:=by
 have h:((x*y:Int):Rat)<=((lT x y*65536:Int):Rat):=FU.2 (by unfold lT;omega);rw[E8,E8]at h;exact h
def con(p:Int×Int)(q:Rat):Prop:=(p.1:Rat)<=q*65536/\q*65536<=(p.2:Rat)
theorem ni{l h:Int}{p:Int×Int}(e:ET l h=some p):p=(l,h):=by
 unfold ET at e;split at e
 .injection e with e;exact e.symm
 .cases e
theorem jI{x y p:Int×Int}{u v:Rat}(e:mg x y=some p)(hu:con x u)(hv:con y v):con p (u+v):=by
 have:=ni e;subst this;unfold con at *;simp only[Rat.intCast_add];obtain⟨h1,h2⟩:=hu;obtain⟨h3,h4⟩:=hv;constructor<;>grind
theorem qC{x y p:Int×Int}{u v:Rat}(e:kJ x y=some p)(hu:con x u)(hv:con y v):con p (u*v):=by
 have:=ni e;subst this;unfold con at *;obtain⟨h1,h2⟩:=hu;obtain⟨h3,h4⟩:=hv;simp only;generalize hl:min (min (xB x.1 y.1) (xB x.1 y.2)) (min (xB x.2 y.1) (xB x.2 y.2))=l;generalize hh:max (max (lT x.1 y.1) (lT x.1 y.2)) (max (lT x.2 y.1) (lT x.2 y.2))=h
 have lo:∀a c:Int,l<=xB a c->(l:Rat)*65536<=(a:Rat)*(c:Rat):=λa c hd=>by
  have k1:=PL a c;have k2:=FU.2 hd
  grind
 have hi:∀a c:Int,lT a c<=h->(a:Rat)*(c:Rat)<=(h:Rat)*65536:=λa c hd=>by
  have k1:=Po a c;have k2:=FU.2 hd
  grind
 have b1:=Jt h1 h2 h3 h4 (lo _ _ ω) (lo _ _ ω) (lo _ _ ω) (lo _ _ ω);have b2:=Sr h1 h2 h3 h4 (hi _ _ ω) (hi _ _ ω) (hi _ _ ω) (hi _ _ ω);constructor<;>grind
theorem Y6:((65536:Int):Rat)=65536:=by decide +kernel
theorem c1:((1:Int):Rat)=1:=by decide +kernel
theorem Gv{x p:Int×Int}{q:Rat}(e:iJ x=some p)(hx:con x q)(h0:0<=q):
 (p.1:Rat)*(p.1:Rat)<=q*(65536*65536)/\q*(65536*65536)<=(p.2:Rat)*(p.2:Rat)/\0<=p.1/\p.1<=p.2:=by
 unfold iJ at e;split at e
 .cases e
 .rename_i g;have:=ni e;subst this;unfold con at hx;obtain⟨h1,h2⟩:=hx
  have hle:max x.1 0<=x.2:=by
   have:((x.1:Int):Rat)<=(x.2:Rat):=Rat.le_trans h1 h2;have:=FU.1 this;omega
  have r1:=zD (n:=max x.1 0) ω;have r2:=Hy (n:=x.2) ω;have r3:=D8 (l:=max x.1 0) (h:=x.2) ω hle
  have hm:((max x.1 0:Int):Rat)<=q*65536:=by
   rcases Int.le_total x.1 0 with h|h
   .rw[show max x.1 0=0 by omega];have:((0:Int):Rat)=0:=rfl;rw[this];grind
   .rw[show max x.1 0=x.1 by omega];exact h1
  have k1:=FU.2 r1.2.1;have k2:=FU.2 r2.2.2;rw[E8,E8,Y6]at k1 k2;refine⟨by simp only;grind,by simp only;grind,r1.1,by simp only;omega⟩
def sub(x y:Int×Int):Prop:=x.1<=y.1/\y.1<=y.2/\y.2<=x.2
theorem CW{x:Int×Int}{n:Int}(h1:x.1<=n)(h2:n<=x.2):con x ((n:Rat)*(1/65536)):=by
 have k1:=FU.2 h1;have k2:=FU.2 h2;unfold con;constructor<;>grind
theorem gZ{a:Rat}{x:Int×Int}(e:bD a=some x):con x a:=by
 have:=ni e;subst this;unfold con UK;rw[Y6];simp only;refine⟨Rat.floor_le _, ?_⟩;have:=Rat.floor_le (-(a*65536));rw[Rat.intCast_neg]
 grind
theorem D6{x:Int×Int}{q:Rat}(h:con x q):con (-x.2,-x.1) (-q):=by
 unfold con at *;simp only[Rat.intCast_neg];constructor<;>grind
theorem ML{p:Int×Int}{q:Rat}{n:Int}(h:BF p.1 p.2=(n,true))(hq:con p q):aC q=n:=by
 obtain⟨h1,h2⟩:=hq;unfold BF at h;have z:((0:Int):Rat)=0:=rfl;split at h
 .rename_i g;injection h with h3 h4
  subst h3;have:=Rat.intCast_lt_intCast.2 g;rw[z]at this;exact jq.2 ν
 .split at h
  .rename_i g;injection h with h3 h4
   subst h3;have:=Rat.intCast_lt_intCast.2 g;rw[z]at this;have hq:q<0:=ν
   unfold aC;rw[if_pos hq]
  .injection h with h3 h4
   subst h3;have g:=of_decide_eq_true h4;rw[g.1,z]at h1;rw[g.2,z]at h2;exact dQ.2 ν
theorem bY(q:Rat):(q<0/\aC q = -1)\/(q=0/\aC q=0)\/(0<q/\aC q=1):=by
 unfold aC
 by_cases h1:q<0
 .rw[if_pos h1];exact .inl ⟨h1,rfl⟩
 .rw[if_neg h1]
  by_cases h2:q=0
  .rw[if_pos h2];exact .inr (.inl ⟨h2,rfl⟩)
  .rw[if_neg h2];exact .inr (.inr ⟨ν,rfl⟩)
theorem yA{x y:Rat}(h0:0<=x)(h:x<y):x*x<y*y:=by
 have a1:=Rat.mul_le_mul_of_nonneg_left (Rat.le_of_lt h) h0;have a2:=Rat.mul_lt_mul_of_pos_right h (show 0<y by grind)
 grind
theorem qj(x:Rat):0<=x*x:=by
 rcases AB (a:=0) (b:=x)with h|h
 .exact oG h h
 .have:=oG (show 0≤-x by grind) (show 0≤-x by grind);grind
theorem Aa{a b:Rat}(h:b<a):dU a b=1:=by unfold dU;rw[if_neg ν,if_pos h]
theorem Am{a b:Rat}(h:a<b):dU a b = -1:=by unfold dU;rw[if_pos h]
theorem J3{a b:Rat}(h:a=b):dU a b=0:=xW.2 h
theorem Du{A B C s1 s2:Rat}{n:Int}(p1:0<=s1)(p2:s1<=s2)(q1:s1*s1<=C)(q2:C<=s2*s2)(h1:aC (A+B*s1)=n)(h2:aC (A+B*s2)=n):nG A B C=n:=by
 have hC:0<=C:=Rat.le_trans (qj s1) q1;have bb:=qj B;have m1:B*B*(s1*s1)<=B*B*C:=Rat.mul_le_mul_of_nonneg_left q1 bb;have m2:B*B*C<=B*B*(s2*s2):=Rat.mul_le_mul_of_nonneg_left q2 bb;have p3:0<=s2:=Rat.le_trans p1 p2;unfold nG;rcases bY C with⟨c1,c2⟩|⟨c1,c2⟩|⟨c1,c2⟩
 .grind
 .rw[c2,Int.mul_zero,if_pos (.inr rfl)]
  have:s1=0:=by
   rcases bY s1 with⟨k,_⟩|⟨k,_⟩|⟨k,_⟩
   .grind
   .exact k
   .have:=qm k k;grind
  subst this;rw[<-h1];congr 1;grind
 .have p4:0<s2:=by
   rcases bY s2 with⟨k,_⟩|⟨k,_⟩|⟨k,_⟩
   .grind
   .subst k;grind
   .exact k
  rw[c2,Int.mul_one];rcases bY B with⟨b1,b2⟩|⟨b1,b2⟩|⟨b1,b2⟩<;>rcases bY A with⟨a1,a2⟩|⟨a1,a2⟩|⟨a1,a2⟩<;>rw[a2,b2]
  .have k:=oG (show 0≤-B by grind) p1;have:A+B*s1<0:=ν
   rw[<-h1];unfold aC;rw[if_pos this];rfl
  .have k:=qm (show 0 < -B by grind) p4;have:A+B*s2<0:=ν
   rw[<-h2];unfold aC;rw[if_pos this];rfl
  .have k1:=oG (show 0≤-B by grind) p1;have k2:=oG (show 0≤-B by grind) p3;rcases bY (A+B*s1)with⟨u1,u2⟩|⟨u1,u2⟩|⟨u1,u2⟩
   .rw[h1]at u2;subst u2;have:=yA (x:=A) (y:=-B*s1) ν ν;rw[Am ν];rfl
   .rw[h1]at u2;subst u2;have v:=dQ.1 h2
    have e:A*A=B*B*(s1*s1):=by have:A = -B*s1:=ν
                               subst this;grind
    have e2:A*A=B*B*(s2*s2):=by have:A = -B*s2:=ν
                                subst this;grind
    rw[J3 ν];rfl
   .rw[h1]at u2;subst u2;have v:=jq.1 h2;have:=yA (x:=-B*s2) (y:=A) ν ν;rw[Aa ν];rfl
  .subst b1;rw[<-h1];have:A+0*s1=A:=ν
   rw[this,a2];rfl
  .subst b1;rw[<-h1];have:A+0*s1=A:=ν
   rw[this,a2];rfl
  .subst b1;rw[<-h1];have:A+0*s1=A:=ν
   rw[this,a2];rfl
  .have k1:=oG (show 0<=B by grind) p1;have k2:=oG (show 0<=B by grind) p3;rcases bY (A+B*s1)with⟨u1,u2⟩|⟨u1,u2⟩|⟨u1,u2⟩
   .rw[h1]at u2;subst u2
    have v:A+B*s2<0:=by
     rcases bY (A+B*s2)with⟨t1,t2⟩|⟨t1,t2⟩|⟨t1,t2⟩
     .exact t1
     .rw[h2]at t2;cases t2
     .rw[h2]at t2;cases t2
    have:=yA (x:=B*s2) (y:=-A) ν ν;rw[Aa ν];rfl
   .rw[h1]at u2;subst u2;have v:=dQ.1 h2
    have e:A*A=B*B*(s1*s1):=by have:A = -B*s1:=ν
                               subst this;grind
    have e2:A*A=B*B*(s2*s2):=by have:A = -B*s2:=ν
                                subst this;grind
    rw[J3 ν];rfl
   .rw[h1]at u2;subst u2;have:=yA (x:=-A) (y:=B*s1) ν ν;rw[Am ν];rfl
  .have k:=qm (show 0<B by grind) p4;rw[<-h2,jq.2 ν];rfl
  .have k:=oG (show 0<=B by grind) p1;rw[<-h1,jq.2 ν];rfl
theorem Iu{a b c:Rat}{p:Int×Int}(e:iL a b c=some p):
 (b=0/\con p a)\/(0<=c/\∃s1 s2:Rat,0<=s1/\s1<=s2/\s1*s1<=c/\c<=s2*s2/\(∃w z,bD c=some z/\iJ z=some w/\s1=(w.1:Rat)*(1/65536)/\s2=(w.2:Rat)*(1/65536))/\con p (a+b*s1)/\con p (a+b*s2)):=by
 unfold iL at e;cases ha:bD a with
 |none=>rw[ha]at e;cases e
 |some x =>
  rw[ha]at e;simp only at e
  by_cases hb:b=0
  .rw[if_pos hb]at e;injection e with e
   subst e;exact .inl ⟨hb,gZ ha⟩
  .rw[if_neg hb]at e;right;cases hy:bD b with
   |none=>rw[hy]at e;cases e
   |some y =>
    cases hz:bD c with
    |none=>rw[hy,hz]at e;cases e
    |some z =>
     rw[hy,hz]at e;simp only at e;split at e
     .cases e
     .rename_i hc;have h0:0<=c:=ν
      cases hw:iJ z with
      |none=>rw[hw]at e;cases e
      |some w =>
       rw[hw]at e;simp only at e;cases hp:kJ y w with
       |none=>rw[hp]at e;cases e
       |some m =>
        rw[hp]at e;simp only at e;obtain⟨k1,k2,k3,k4⟩:=Gv hw (gZ hz) h0;have j1:=FU.2 k3;have j2:=FU.2 k4;have z0:((0:Int):Rat)=0:=rfl;rw[z0]at j1;refine⟨h0,(w.1:Rat)*(1/65536),(w.2:Rat)*(1/65536),ν,ν,ν,ν,⟨w,z,rfl,hw,rfl,rfl⟩, ?_, ?_⟩
        .exact jI e (gZ ha) (qC hp (gZ hy) (CW ω ω))
        .exact jI e (gZ ha) (qC hp (gZ hy) (CW ω ω))
theorem Gt{a c:Rat}:nG a 0 c=aC a:=by
 unfold nG;have:aC 0=0:=dQ.2 rfl;rw[this,Int.zero_mul,if_pos (.inr rfl)]
class RzB (q:Rat) (n:outParam Nat):Prop where
 h:rz q<=n
theorem oN{q:Rat}{n N:Nat}[k:RzB q n](h:n<=N):rz q<=N:=aU k.h h
instance{a b:Rat}{m n:Nat}[h:RzB a m][k:RzB b n]:RzB (a+b) (2*(m+n)+1):=⟨by have:=kH a b;have:=h.h;have:=k.h;omega⟩
instance{a b:Rat}{m n:Nat}[h:RzB a m][k:RzB b n]:RzB (a-b) (2*(m+n)+1):=⟨by have:=mW a b;have:=h.h;have:=k.h;omega⟩
instance{a b:Rat}{m n:Nat}[h:RzB a m][k:RzB b n]:RzB (a*b) (m+n):=⟨by have:=jh a b;have:=h.h;have:=k.h;omega⟩
theorem La{A B C t m:Rat}{n:Int}(h0:0<=t)(h1:t*t<=C)(h2:0<=m)(h3:C<=m*m)(k1:aC (A+B*t)=n)(k2:aC (A+B*m)=n):nG A B C=n:=by
 have htm:t<=m:=by
  rcases AB (a:=t) (b:=m)with h|h
  .exact h
  .rcases AB (a:=m) (b:=t)with h'|h'
   .by_cases e:m=t
    .grind
    .have:=yA h2 (show m<t by grind)
     grind
   .exact h'
 exact Du h0 htm h1 h3 k1 k2
theorem L6{x y l:Rat}{n:Int}(h0:0<=l)(h1:l<=1)(hx:aC x=n)(hy:aC y=n):aC (x+l*(y-x))=n:=by
 have e:x+l*(y-x)=(1-l)*x+l*y:=ν
 rw[e];rcases bY x with⟨a1,a2⟩|⟨a1,a2⟩|⟨a1,a2⟩<;>rcases bY y with⟨b1,b2⟩|⟨b1,b2⟩|⟨b1,b2⟩<;>rw[a2]at hx<;>rw[b2]at hy<;>subst hx<;>(try(exfalso;omega))
 .have p1:=oG (show 0<=1-l by grind) (show 0≤-x by grind);have p2:=oG h0 (show 0≤-y by grind)
  have:(1-l)*x+l*y<0:=by
   by_cases hl:l=0
   .subst hl;grind
   .have:=qm (show 0<l by grind) (show 0 < -y by grind)
    grind
  unfold aC;rw[if_pos this]
 .subst a1 b1;rw[Rat.mul_zero,Rat.mul_zero];exact dQ.2 ν
 .have p1:=oG (show 0<=1-l by grind) (show 0<=x by grind);have p2:=oG h0 (show 0<=y by grind)
  have:0<(1-l)*x+l*y:=by
   by_cases hl:l=0
   .subst hl;grind
   .have:=qm (show 0<l by grind) b1
    grind
  exact jq.2 this
theorem jX{x y k:Rat}(hk:0<k)(h:x*k<=y*k):x<=y:=by
 rcases AB (a:=x) (b:=y)with h'|h'
 .exact h'
 .by_cases e:x=y
  .grind
  .have:=qm (show 0<x-y by grind) hk;grind
theorem LX{x y k:Rat}(hk:0<k)(h:x*k=y*k):x=y:=by
 have h1:=jX hk (show x*k<=y*k by grind);have h2:=jX hk (show y*k<=x*k by grind)
 grind
theorem sJ{x y z s t u:Rat}{n:Int}(h1:s<=u)(h2:u<=t)(hz:z*(t-s)=x*(t-u)+y*(u-s))(hx:aC x=n)(hy:aC y=n)(h3:s<t):aC z=n:=by
 obtain⟨l,hl⟩:∃l,l*(t-s)=u-s:=⟨(u-s)/(t-s),(by have hne:t-s≠0:=ν;grind)⟩
 have hk:0<t-s:=ν
 have e:z=x+l*(y-x):=LX hk ν;rw[e];refine L6 (jX hk ν) (jX hk ν) hx hy
theorem Hq{P X W C s t:Rat}{n:Int}(h0:0<=s)(h1:s<=t)(h2:s*s<=C)(h3:C<=t*t)(hW:0<=W)
 (k1:aC (P+2*X*s+W*(s*s))=n) (k2:aC (P+X*(s+t)+W*(s*t))=n) (k3:aC (P+2*X*t+W*(t*t))=n):nG (P+W*C) (2*X) C=n:=by
 by_cases hst:s=t
 .subst hst;have hC:C=s*s:=ν
  subst hC;refine Du h0 (Rat.le_refl) (Rat.le_refl) (Rat.le_refl) ?_ ?_<;>rw[<-k1]<;>congr 1<;>grind
 .have hlt:s<t:=ν
  have ht:0<t:=ν
  have hsum:0<s+t:=ν
  have hs0:s+t≠0:=ν
  obtain⟨t0,e0⟩:∃t0,t0*(s+t)=C+s*t:=⟨(C+s*t)/(s+t),ν⟩
  have q1:=oG (show 0<=t-s by grind) h0
  have l1:s<=t0:=by
   rcases AB (a:=s) (b:=t0)with h|h
   .exact h
   .by_cases e:s=t0
    .grind
    .have:=qm (show 0<s-t0 by grind) hsum;grind
  have l2:t0<=t:=by
   rcases AB (a:=t0) (b:=t)with h|h
   .exact h
   .by_cases e:t=t0
    .grind
    .have:=qm (show 0<t0-t by grind) hsum;grind
  have l3:t0*t0<=C:=by
   have:=oG (show 0<=t0-s by grind) (show 0<=t-t0 by grind)
   grind
  have m0:aC (P+W*C+2*X*t0)=n:=sJ l1 l2 ν k1 k3 hlt
  have up:∃m,0<=m/\C<=m*m/\aC (P+W*C+2*X*m)=n:=by
   rcases AB (a:=s*t) (b:=C)with h|h
   ·
    have ht0:t≠0:=ν
    obtain⟨u,eu⟩:∃u,u*t=C:=⟨C/t,ν⟩
    have u1:s<=u:=by
     rcases AB (a:=s) (b:=u)with h|h
     .exact h
     .by_cases e:s=u
      .grind
      .have:=qm (show 0<s-u by grind) ht;grind
    have u2:u<=t:=by
     rcases AB (a:=u) (b:=t)with h|h
     .exact h
     .by_cases e:t=u
      .grind
      .have:=qm (show 0<u-t by grind) ht;grind
    refine⟨(u+t)*(1/2),ν, ?_, ?_⟩
    .have:=qj (t-u);grind
    .have:=sJ (z:=P+X*(u+t)+W*(u*t)) u1 u2 ν k2 k3 hlt;rw[<-this];congr 1;grind
   ·
    by_cases hs:s=0
    .subst hs;have hC:C=0:=ν
     subst hC;refine⟨0,Rat.le_refl,ν, ?_⟩;rw[<-k1];congr 1;grind
    .have hs1:0<s:=ν
     obtain⟨u,eu⟩:∃u,s*u=C:=⟨C/s,ν⟩
     have u1:s<=u:=by
      rcases AB (a:=s) (b:=u)with h|h
      .exact h
      .by_cases e:s=u
       .grind
       .have:=qm (show 0<s-u by grind) hs1;grind
     have u2:u<=t:=by
      rcases AB (a:=u) (b:=t)with h|h
      .exact h
      .by_cases e:t=u
       .grind
       .have:=qm (show 0<u-t by grind) hs1;grind
     refine⟨(s+u)*(1/2),ν, ?_, ?_⟩
     .have:=qj (u-s);grind
     .have:=sJ (z:=P+X*(s+u)+W*(s*u)) u1 u2 ν k1 k2 hlt;rw[<-this];congr 1;grind
  obtain⟨m,m1,m2,m3⟩:=up;exact La (Rat.le_trans h0 l1) l3 m1 m2 m0 m3
def dh(a b c f:Rat):Option (Int×Int) :=
 match iL a b c,bD f with
 |some x,some y=>mg x (-y.2,-y.1)
 |_,_=>none
def gq(ax bx ay bb c X Y Q:Rat):Int×Bool :=
 match dh ax bx c X,dh ay bb c Y,bD Q with
 |some x,some y,some q=>(match kJ x x,kJ y y with
  |some s,some t=>(match mg s t with
   |some u=>(match mg u (-q.2,-q.1)with
    |some r=>BF r.1 r.2
    |none=>(0,false))
   |none=>(0,false))
  |_,_=>(0,false))
 |_,_,_=>(0,false)
def xq(c s1 s2:Rat):Prop:=0<=c/\0<=s1/\s1<=s2/\s1*s1<=c/\c<=s2*s2/\∃w z,bD c=some z/\iJ z=some w/\s1=(w.1:Rat)*(1/65536)/\s2=(w.2:Rat)*(1/65536)
theorem Ey{c s1 s2 t1 t2:Rat}(h:xq c s1 s2)(k:xq c t1 t2):s1=t1/\s2=t2:=by
 obtain⟨_,_,_,_,_,w,z,e1,e2,e3,e4⟩:=h;obtain⟨_,_,_,_,_,w',z',e1',e2',e3',e4'⟩:=k;rw[e1]at e1';injection e1' with e1'
 subst e1';rw[e2]at e2';injection e2' with e2'
 subst e2';exact⟨e3.trans e3'.symm,e4.trans e4'.symm⟩
theorem zf{a b c f:Rat}{p:Int×Int}(e:dh a b c f=some p):(b=0/\con p (a-f))\/∃s1 s2,xq c s1 s2/\con p (a-f+b*s1)/\con p (a-f+b*s2):=by
 unfold dh at e;cases h1:iL a b c with
 |none=>rw[h1]at e;cases e
 |some x =>
  cases h2:bD f with
  |none=>rw[h1,h2]at e;cases e
  |some y =>
   rw[h1,h2]at e;simp only at e;have k0:=D6 (gZ h2);rcases Iu h1 with⟨hb,k⟩|⟨h0,s1,s2,p1,p2,q1,q2,⟨w,z,e1,e2,e3,e4⟩,k1,k2⟩
   .refine .inl ⟨hb, ?_⟩;have:=jI e k k0
    rwa [show a + -f=a-f by grind]at this
   .refine .inr ⟨s1,s2,⟨h0,p1,p2,q1,q2,w,z,e1,e2,e3,e4⟩, ?_, ?_⟩
    .have:=jI e k1 k0
     rwa [show a+b*s1 + -f=a-f+b*s1 by grind]at this
    .have:=jI e k2 k0
     rwa [show a+b*s2 + -f=a-f+b*s2 by grind]at this
theorem Ew{ax bx ay bb c X Y Q:Rat}{n:Int}(h:gq ax bx ay bb c X Y Q=(n,true)):
 nG ((ax-X)*(ax-X)+(ay-Y)*(ay-Y)+c*(bx*bx+bb*bb)-Q) ((ax-X)*bx+(ay-Y)*bb+((ax-X)*bx+(ay-Y)*bb)) c=n:=by
 unfold gq at h;cases h1:dh ax bx c X with
 |none=>rw[h1]at h;simp at h
 |some x =>
  cases h2:dh ay bb c Y with
  |none=>rw[h1,h2]at h;simp at h
  |some y =>
   cases h3:bD Q with
   |none=>rw[h1,h2,h3]at h;simp at h
   |some q =>
    rw[h1,h2,h3]at h;simp only at h;cases h4:kJ x x with
    |none=>rw[h4]at h;simp at h
    |some s =>
     cases h5:kJ y y with
     |none=>rw[h4,h5]at h;simp at h
     |some t =>
      rw[h4,h5]at h;simp only at h;cases h6:mg s t with
      |none=>rw[h6]at h;simp at h
      |some u =>
       rw[h6]at h;simp only at h;cases h7:mg u (-q.2,-q.1)with
       |none=>rw[h7]at h;simp at h
       |some r =>
        rw[h7]at h;simp only at h
        have key:∀u1 u2 v1 v2:Rat,con x u1->con x u2->con y v1->con y v2->aC (u1*u2+v1*v2-Q)=n:=λu1 u2 v1 v2 a b c d=>by
         have:=jI h7 (jI h6 (qC h4 a b) (qC h5 c d)) (D6 (gZ h3));rw[<-ML h this];congr 1;grind
        have fin:∀s1 s2:Rat,xq c s1 s2->con x (ax-X+bx*s1)->con x (ax-X+bx*s2)->con y (ay-Y+bb*s1)->con y (ay-Y+bb*s2) ->
         nG ((ax-X)*(ax-X)+(ay-Y)*(ay-Y)+c*(bx*bx+bb*bb)-Q) ((ax-X)*bx+(ay-Y)*bb+((ax-X)*bx+(ay-Y)*bb)) c=n:=λs1 s2 ⟨_,p1,p2,q1,q2,_⟩ a1 a2 b1 b2=>by
         have w1:=qj bx;have w2:=qj bb
         have:=Hq (P:=(ax-X)*(ax-X)+(ay-Y)*(ay-Y)-Q) (X:=(ax-X)*bx+(ay-Y)*bb) (W:=bx*bx+bb*bb) (C:=c) (n:=n) p1 p2 q1 q2 ν
          (by rw[<-key _ _ _ _ a1 a1 b1 b1];congr 1;grind) (by rw[<-key _ _ _ _ a1 a2 b1 b2];congr 1;grind) (by rw[<-key _ _ _ _ a2 a2 b2 b2];congr 1;grind)
         rw[<-this];congr 1<;>grind
        rcases zf h1 with⟨b1,k1⟩|⟨s1,s2,hs,k1,k2⟩<;>rcases zf h2 with⟨b2,j1⟩|⟨t1,t2,ht,j1,j2⟩
        .subst b1 b2;rw[show(ax-X)*0+(ay-Y)*0+((ax-X)*0+(ay-Y)*0)=(0:Rat) by grind,Gt,<-key _ _ _ _ k1 k1 j1 j1];congr 1;grind
        .subst b1;have e:∀s:Rat,ax-X+0*s=ax-X:=λs=>by grind
         exact fin t1 t2 ht (by rw[e];exact k1) (by rw[e];exact k1) j1 j2
        .subst b2;have e:∀s:Rat,ay-Y+0*s=ay-Y:=λs=>by grind
         exact fin s1 s2 hs k1 k2 (by rw[e];exact j1) (by rw[e];exact j1)
        .obtain⟨rfl,rfl⟩:=Ey hs ht;exact fin _ _ hs k1 k2 j1 j2
def Vr(n:Int):Bool:=decide (0<=n)&&decide ((((lM n.natAbs:Nat):Int))*((lM n.natAbs:Nat):Int)=n)
def JY(a:Rat):Bool:=Vr a.num&&Vr a.den
def sqR(a:Rat):Rat:=((((lM a.num.natAbs:Nat):Int)):Rat)/((((lM (a.den:Int).natAbs:Nat):Int)):Rat)
where
 num_den_div {a:Rat}:a=(a.num:Rat)/((a.den:Int):Rat):=by
  have h1:=gV a;have h2:=gY a;rw[h1];grind
@[reducible] def Q2(a b:Rat):AV:=.agg [zs a.num,zl a.num,zs a.den,zl a.den,zs b.num,zl b.num,zs b.den,zl b.den]
@[reducible] def Z8:AV:=.agg [.v (.bool false),.sl 1 [],.v (.bool false),.sl 1 [],.v (.bool false),.sl 1 [],.v (.bool false),.sl 1 [],.v (.bool false),.sl 1 [],.v (.bool false),.sl 1 []]
def Ul(b c:Rat):Rat:=if b=0\/c=0 then 0 else b
def TY(b c:Rat):Rat:=if b=0\/c=0 then 0 else c
def mkA(a b c:Rat):Rat:=if JY c=true then a+b*sqR c else a
def mkB(b c:Rat):Rat:=if JY c=true then 0 else Ul b c
def ZI(b c:Rat):Rat:=if JY c=true then 0 else TY b c
def WO(b c:Rat):Rat:=if b=0 then 0 else c
def Z5(b e c:Rat):Rat:=if b=0/\e=0 then 0 else c
theorem NW{ax bx ay bb c X Y Q:Rat}(h:(gq ax bx ay bb c X Y Q).2=true):
 (gq ax bx ay bb c X Y Q).1=nG ((ax-X)*(ax-X)+(ay-Y)*(ay-Y)+c*(bx*bx+bb*bb)-Q) ((ax-X)*bx+(ay-Y)*bb+((ax-X)*bx+(ay-Y)*bb)) c :=
 (Ew (n:=(gq ax bx ay bb c X Y Q).1) (Prod.ext rfl h)).symm
section
variable {a b:Rat}
end
theorem XK:rz 0<=1:=by decide +kernel
open Go.RowKit
class DenC (P:Program) [Wld P] (f:FuncId) (xs:List AV) (pre:outParam Prop) (c:outParam Prop) (r s:outParam AV):Prop where
 den:pre->(c->Den P f xs r)/\(¬c->Den P f xs s)
theorem aa5{P:Program}[Wld P]{f:FuncId}{xs:List AV}{pre c:Prop}{r s:AV}{k:AV->Prop}[h:DenC P f xs pre c r s](hp:Pr pre)(h1:c->k r)(h2:¬c->k s):CallP (Den P) f xs k:=by
 by_cases hc:c
 .exact⟨r,(h.den hp.p).1 hc,h1 hc⟩
 .exact⟨s,(h.den hp.p).2 hc,h2 hc⟩
theorem aib{P:Program}[Wld P]{f:FuncId}{xs:List AV}{pre c:Prop}{r s:AV}(h:pre->∀q,(c->q=r)->(¬c->q=s)->Den P f xs q)(hp:pre):(c->Den P f xs r)/\(¬c->Den P f xs s) :=
 ⟨λhc=>h hp r (λ_=>rfl) (λn=>absurd hc n),λhc=>h hp s (λn=>absurd n hc) (λ_=>rfl)⟩
end Go.Sw
namespace Go.Sw
open Go
class SzB (n:Int) (k:outParam Nat):Prop where
 h:sz n<=k
theorem rC{n:Int}{k K:Nat}[i:SzB n k](h:k<=K):sz n<=K:=aU i.h h
instance{q:Rat}{n:Nat}[i:RzB q n]:SzB q.num n:=⟨aU (jg q) i.h⟩
instance{q:Rat}{n:Nat}[i:RzB q n]:SzB (q.den:Int) n:=⟨aU (jW q) i.h⟩
instance{a b:Int}{m n:Nat}[i:SzB a m][j:SzB b n]:SzB (a*b) (m+n):=⟨by have:=fG a b;have:=i.h;have:=j.h;omega⟩
section
variable {a b c:Rat}
end
section
variable {a b c:Rat} {q:AV}
theorem PU(h:¬aC a=aC b):aai [AV.c (Cell.v (.int .i64 (fC (aC a) (aC b))))]=AV.int .i64 (dU a b):=iE (by
 rcases bY a with⟨a1,a2⟩|⟨a1,a2⟩|⟨a1,a2⟩<;>rcases bY b with⟨b1,b2⟩|⟨b1,b2⟩|⟨b1,b2⟩<;>rw[a2,b2]at h ⊢<;>first
  |exact absurd rfl h|(rw[Am ν];rfl)|(rw[Aa ν];rfl))
theorem Vo(hb:¬b=0)(e:¬b=0->q=AV.tup [R (a/b),AV.int .i64 0]):aai [R (((a.num*b.den:Int):Rat)/((a.den*b.num:Int):Rat)),AV.c (Cell.v (.int .i64 0))]=q:=by
 rw[e hb,CG a b hb];rfl
theorem JG(h:(a.den:Int)*b.num=0):b=0:=by
 rcases Int.mul_eq_zero.1 h with h|h
 .exact absurd h (ak a)
 .exact(DR b).1 h
theorem Jo(h:¬b=0):(a.den:Int)*b.num≠0:=λe=>h (JG e)
theorem P6(n:Int):((0:Int):Rat)=(n:Rat)/((0:Int):Rat):=by rw[<-VU n];decide +kernel
end
theorem vW(a b c:Rat):-1<=nG a b c/\nG a b c<=1:=by
 unfold nG;have h1:=iU a;have h2:=jd (iU b) (iU c);have h3:=jd (iU a) (rH (a*a) (b*b*c))
 repeat' split
 all_goals first|exact h1|exact h2|exact h3
theorem X5(a b c:Rat):IntKind.i64.wrap (0-nG a b c) = -nG a b c:=by
 have:=vW a b c;rw[aT ω ω];omega
theorem SS{a b c:Rat}{n:Int}(h:nG a b c=n):aai [AV.c (Cell.v (.int .i64 (IntKind.i64.wrap (0-nG a b c))))]=AV.int .i64 (-n):=iE (by rw[X5,h])
theorem VO{a b c d e f g h:Rat}{n:Int}(k:(gq a b c d e f g h).2=true)(hn:(gq a b c d e f g h).1=n)(h1 : -1<=n)(h2:n<=1):aai [AV.c (Cell.v (.int .i64 (IntKind.i64.wrap (0-(gq a b c d e f g h).1))))]=AV.int .i64 (-n):=iE (by
 rw[hn,aT ω ω];omega)
instance{a b:Rat}{m n:Nat}[h:RzB a m][k:RzB b n]:RzB (a / b) (m+n+1):=⟨by
 by_cases hb:b=0
 .subst hb;have:a/0=0:=by rw[Rat.div_def,Rat.inv_zero,Rat.mul_zero]
  rw[this];have:=XK;omega
 .have:=RF a b hb;have:=h.h;have:=k.h;omega⟩
theorem Ue(a:Rat):((0:Int):Rat)=a/0:=by
 have:((0:Int):Rat)=0:=rfl;rw[this,Rat.div_def,Rat.inv_zero,Rat.mul_zero]
section
variable {a b c:Rat}
theorem XM(h:aC b*aC c=0):aai [AV.c (Cell.v (.int .i64 (aC a)))]=AV.int .i64 (nG a b c):=iE (by unfold nG;rw[if_pos (.inr h)])
theorem XB(h:aC a=aC b*aC c):aai [AV.c (Cell.v (.int .i64 (aC a)))]=AV.int .i64 (nG a b c):=iE (by unfold nG;rw[if_pos (.inl h)])
theorem Yl(h1:¬aC b*aC c=0)(h2:¬aC a=aC b*aC c)(h3:a=0):aai [AV.c (Cell.v (.int .i64 (aC b*aC c)))]=AV.int .i64 (nG a b c):=iE (by
 unfold nG;rw[if_neg (by rintro (h|h);exact h2 h;exact h1 h),if_pos (dQ.2 h3)])
theorem Xy(h1:¬aC b*aC c=0)(h2:¬aC a=aC b*aC c)(h3:¬a=0):aai [AV.c (Cell.v (.int .i64 (aC a*dU (a*a) (b*b*c))))]=AV.int .i64 (nG a b c):=iE (by
 rw[XR h2 h1 (λe=>h3 (dQ.1 e))])
end
theorem yU(a b c f:Rat):wE ((dh a b c f).getD (0,0)):=by
 unfold dh;have h1:=zC a b c;have h2:=fE f;cases h3:iL a b c with
 |none=>unfold wE;simp only[Kq];decide
 |some x =>
  cases h4:bD f with
  |none=>unfold wE;simp only[Kq];decide
  |some y =>
   rw[h3]at h1;rw[h4]at h2;simp only[vP]at h1 h2;exact wz h1 (by unfold wE at *;simp only;omega)
theorem ND{a b c f:Rat}(h:(!(iL a b c).isSome)=true\/(!(bD f).isSome)=true):(none:Option (Int×Int))=dh a b c f:=by
 unfold dh;rcases h with h|h
 .cases h1:iL a b c with
  |none=>rfl
  |some x=>rw[h1]at h;cases h
 .cases h1:iL a b c with
  |none=>rfl
  |some x=>cases h2:bD f with
   |none=>rfl
   |some y=>rw[h2]at h;cases h
theorem Sj{a b c f:Rat}(h:(!(iL a b c).isSome)=false)(k:(!(bD f).isSome)=false):mg ((iL a b c).getD (0,0)) (-((bD f).getD (0,0)).2,-((bD f).getD (0,0)).1)=dh a b c f:=by
 unfold dh;cases h1:iL a b c with
 |none=>rw[h1]at h;cases h
 |some x=>cases h2:bD f with
  |none=>rw[h2]at k;cases k
  |some y=>rfl
section
variable {ax bx ay bb c X Y Q:Rat}
theorem WR{p:Int×Bool}(h:p=(0,false)):aai [AV.c (Cell.v (.int .i64 0)),AV.c (Cell.v (.bool false))]=AV.tup [.int .i64 p.1,.bool p.2]:=by rw[h];rfl
theorem Yk(h:(!(dh ax bx c X).isSome)=true\/(!(dh ay bb c Y).isSome)=true\/(!(bD Q).isSome)=true):gq ax bx ay bb c X Y Q=(0,false):=by
 unfold gq;cases h1:dh ax bx c X with
 |none=>rfl
 |some x=>cases h2:dh ay bb c Y with
  |none=>rfl
  |some y=>cases h3:bD Q with
   |none=>rfl
   |some q=>rw[h1,h2,h3]at h;simp at h
theorem VE{x y q:Int×Int}(h1:(!(dh ax bx c X).isSome)=false)(h2:(!(dh ay bb c Y).isSome)=false)(h3:(!(bD Q).isSome)=false)(e1:x=(dh ax bx c X).getD (0,0))(e2:y=(dh ay bb c Y).getD (0,0))(e3:q=(bD Q).getD (0,0)):
 gq ax bx ay bb c X Y Q=(match kJ x x,kJ y y with
 |some s,some t=>(match mg s t with
  |some u=>(match mg u (-q.2,-q.1)with
   |some r=>BF r.1 r.2
   |none=>(0,false))
  |none=>(0,false))
 |_,_=>(0,false)):=by
 subst e1 e2 e3;unfold gq;cases k1:dh ax bx c X with
 |none=>rw[k1]at h1;cases h1
 |some x=>cases k2:dh ay bb c Y with
  |none=>rw[k2]at h2;cases h2
  |some y=>cases k3:bD Q with
   |none=>rw[k3]at h3;cases h3
   |some q=>rfl
end
def Cau(f:Nat->Rat):Prop:=∀d:Rat,0<d->∃N,∀m n,N<=m->N<=n->f m<f n+d
def PosS(f:Nat->Rat):Prop:=∃d:Rat,0<d/\∃N,∀n,N<=n->d<f n
def NulS(f:Nat->Rat):Prop:=∀d:Rat,0<d->∃N,∀n,N<=n→-d<f n/\f n<d
def Bnd(f:Nat->Rat):Prop:=∃B:Rat,0<B/\∃N,∀n,N<=n→-B<f n/\f n<B
def OC(f:Nat->Rat)(n:Int):Prop:=(n=1/\PosS f)\/(n = -1/\PosS λk=>-f k)\/(n=0/\NulS f)
theorem CV{x y B e:Rat}(h1 : -B<x)(h2:x<B)(h3 : -e<y)(h4:y<e):x*y<B*e:=by
 have p1:=qm (show 0<B-x by grind) (show 0<e+y by grind);have p2:=qm (show 0<B+x by grind) (show 0<e-y by grind)
 grind
theorem IG{x y B e:Rat}(h1 : -B<x)(h2:x<B)(h3 : -e<y)(h4:y<e):-(B*e)<x*y:=by
 have:=CV (x:=-x) (y:=y) (B:=B) (e:=e) ν ν h3 h4
 grind
theorem GI{a b:Rat}(h1:0<a)(h2:0<b):0<a/b:=by
 have hb:b≠0:=ν
 rcases AB (a:=a/b) (b:=0)with h|h
 .have p:=oG (show 0≤-(a/b) by grind) (show 0<=b by grind);have e:a/b*b=a:=ν
  grind
 .by_cases e:a/b=0
  .have e':a/b*b=a:=ν
   rw[e]at e';grind
  .grind
theorem NulS.neg{f:Nat->Rat}(h:NulS f):NulS λn=>-f n:=λd hd=>by
 obtain⟨N,hN⟩:=h d hd;exact⟨N,λn hn=>by have:=hN n hn;constructor<;>grind⟩
theorem NulS.mul{f g:Nat->Rat}(h:NulS f)(k:Bnd g):NulS λn=>f n*g n:=λd hd=>by
 obtain⟨B,hB,M,hM⟩:=k;obtain⟨N,hN⟩:=h (d/B) (GI hd hB);refine⟨N+M,λn hn=>?_⟩;have a:=hN n ω;have b:=hM n ω;have e:d/B*B=d:=by have:B≠0:=ν;grind
 have p1:=CV a.1 a.2 b.1 b.2;have p2:=IG a.1 a.2 b.1 b.2;rw[e]at p1 p2;exact⟨p2,p1⟩
theorem NulS.zero:NulS λ_=>0:=λd hd=>⟨0,λn _=>by constructor<;>grind⟩
theorem NulS.cg{f g:Nat->Rat}(h:NulS f)(e:∀n,f n=g n):NulS g:=by rwa [funext e]at h
theorem Cau.const(q:Rat):Cau λ_=>q:=λd hd=>⟨0,λm n _ _=>by grind⟩
theorem Cau.neg{f:Nat->Rat}(h:Cau f):Cau λn=>-f n:=λd hd=>by
 obtain⟨N,hN⟩:=h d hd;exact⟨N,λm n hm hn=>by have:=hN n m hn hm;grind⟩
theorem PosS.mul{f g:Nat->Rat}(h:PosS f)(k:PosS g):PosS λn=>f n*g n:=by
 obtain⟨d,hd,N,hN⟩:=h;obtain⟨e,he,M,hM⟩:=k;refine⟨d*e,qm hd he,N+M,λn hn=>?_⟩;have a:=hN n ω;have b:=hM n ω;have p1:=qm (show 0<f n-d by grind) (show 0<g n by grind);have p2:=qm hd (show 0<g n-e by grind)
 grind
theorem PosS.cg{f g:Nat->Rat}(h:PosS f)(e:∀n,f n=g n):PosS g:=by rwa [funext e]at h
theorem PosS.not{f:Nat->Rat}(h:PosS f)(k:PosS λn=>-f n):False:=by
 obtain⟨d,hd,N,hN⟩:=h;obtain⟨e,he,M,hM⟩:=k;have:=hN (N+M) ω;have:=hM (N+M) ω
 grind
namespace OC
theorem ex{f:Nat->Rat}(h:Cau f):∃n,OC f n:=by
 by_cases h1:PosS f
 .exact⟨1,.inl ⟨rfl,h1⟩⟩
 .by_cases h2:PosS λn=>-f n
  .exact⟨-1,.inr (.inl ⟨rfl,h2⟩)⟩
  .refine⟨0,.inr (.inr ⟨rfl,λd hd=>?_⟩)⟩;obtain⟨N,hN⟩:=h (d*(1/2)) ν
   have a1:∃m,N<=m/\f m<=d*(1/2):=Classical.byContradiction λhc=>h1 ⟨d*(1/2),ν,N,λn hn=>by
    rcases AB (a:=f n) (b:=d*(1/2))with h|h
    .exact absurd ⟨n,hn,h⟩ hc
    .by_cases e:f n=d*(1/2)
     .exact absurd ⟨n,hn,ν⟩ hc
     .grind⟩
   have a2:∃m,N<=m∧-f m<=d*(1/2):=Classical.byContradiction λhc=>h2 ⟨d*(1/2),ν,N,λn hn=>by
    rcases AB (a:=-f n) (b:=d*(1/2))with h|h
    .exact absurd ⟨n,hn,h⟩ hc
    .by_cases e : -f n=d*(1/2)
     .exact absurd ⟨n,hn,ν⟩ hc
     .grind⟩
   obtain⟨m1,g1,k1⟩:=a1;obtain⟨m2,g2,k2⟩:=a2;refine⟨N,λn hn=>?_⟩;have b1:=hN n m1 hn g1;have b2:=hN m2 n g2 hn;constructor<;>grind
theorem cg{f g:Nat->Rat}{n:Int}(h:OC f n)(e:∀k,f k=g k):OC g n:=by rwa [funext e]at h
theorem neg{f:Nat->Rat}{n:Int}(h:OC f n):OC (λk=>-f k) (-n):=by
 rcases h with⟨rfl,h⟩|⟨rfl,h⟩|⟨rfl,h⟩
 .exact .inr (.inl ⟨rfl,h.cg λn=>by grind⟩)
 .exact .inl ⟨rfl,h⟩
 .exact .inr (.inr ⟨rfl,h.neg⟩)
theorem const(q:Rat):OC (λ_=>q) (aC q):=by
 rcases bY q with⟨a,e⟩|⟨a,e⟩|⟨a,e⟩<;>rw[e]
 .exact .inr (.inl ⟨rfl,⟨-q*(1/2),ν,0,λn _=>by grind⟩⟩)
 .subst a;exact .inr (.inr ⟨rfl,NulS.zero⟩)
 .exact .inl ⟨rfl,⟨q*(1/2),ν,0,λn _=>by grind⟩⟩
end OC
def XH(n:Nat):Rat:=1/((n:Rat)+1)
def YG(c:Rat)(n:Nat):Rat:=((lM (c*(((n:Rat)+1)*((n:Rat)+1))).floor.toNat:Nat):Rat)*XH n
def v2(A B M:Rat)(n:Nat):Rat:=A+B*YG M n
def v4(A B C D M N:Rat)(n:Nat):Rat:=v2 A B M n+v2 C D M n*YG N n
end Go.Sw
