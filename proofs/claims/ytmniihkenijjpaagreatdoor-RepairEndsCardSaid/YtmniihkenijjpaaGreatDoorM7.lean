/-
  Rules of the abstract run, plain laws, and what functions answer, for the law RepairEnds.
  Conditions: none.
-/
import Derived.Test.YtmniihkenijjpaaGreatDoorM6
set_option linter.all false
namespace Go.Sw
open Go
theorem Z0:Z 0=.agg [.v (.bool false),.sl 1 []]:=by
 have:lim 0=[]:=eU;simp [Z,zs,zl,aX,this]
theorem FD(n:Nat):(lim n).length=0↔n=0:=by rw [List.length_eq_zero_iff,DX]
theorem vT(n:Nat):(((lim n).length:Nat):Int)=0↔n=0:=by rw [← FD];omega
theorem vY(n:Nat):(((lim n).length:Nat):Int) > 0↔¬n=0:=by rw [← FD];omega
theorem wE(a b:Int):a.natAbs=b.natAbs*(a.natAbs / b.natAbs)+a.natAbs % b.natAbs:=(Nat.div_add_mod _ _).symm
theorem Ol(a:Int):aA [AV.agg [Cell.v (Value.bool false),Cell.sl 1 []],AV.agg [Cell.v (Value.bool false),Cell.sl 1 []],.int .i64 6]=.tup [Z (a.fdiv 0),Z (if (0:Int)=0 then 0 else a.fmod 0),.int .i64 (if (0:Int)=0 then 6 else 0)]:=by
 have h:a.fdiv 0=0:=by simp
 rw [h,if_pos rfl,if_pos rfl,Z0];rfl
theorem EX{a b:Int}(hb:¬b.natAbs=0)(h:a.natAbs % b.natAbs=0∨¬(decide (a<0) != decide (b<0))=true):
 aA [Z (dM (decide (a<0) != decide (b<0)) (a.natAbs / b.natAbs)),Z (dM (decide (a<0)) (a.natAbs % b.natAbs)),.int .i64 0]=.tup [Z (a.fdiv b),Z (if b=0 then 0 else a.fmod b),.int .i64 (if b=0 then 6 else 0)]:=by
 have hb':b≠0:=by omega
 obtain ⟨h1,h2⟩:=SI (a:=a) hb' (wE a b) (Nat.mod_lt _ (by omega)) (by rcases h with h|h;exact .inl h;right;by_cases h1:a<0<;>by_cases h2:b<0<;>simp_all<;>omega);rw [h1,h2,if_neg hb',if_neg hb'];rfl
theorem Om{a b:Int}(hb:¬b.natAbs=0)(h0:¬a.natAbs % b.natAbs=0)(h:(decide (a<0) != decide (b<0))=true):
 aA [Z (dM (decide (a<0) != decide (b<0)) (a.natAbs / b.natAbs)-1),Z (dM (decide (a<0)) (a.natAbs % b.natAbs)+b),.int .i64 0]=.tup [Z (a.fdiv b),Z (if b=0 then 0 else a.fmod b),.int .i64 (if b=0 then 6 else 0)]:=by
 have hb':b≠0:=by omega
 obtain ⟨h1,h2⟩:=TD (a:=a) hb' (wE a b) (Nat.mod_lt _ (by omega)) (by omega) (by by_cases h1:a<0<;>by_cases h2:b<0<;>simp_all);rw [h1,h2,if_neg hb',if_neg hb'];rfl
theorem J8(neg:Bool)(n:Nat)(a:Int)(h:n≤a.natAbs):sz (dM neg n)≤sz a:=lQ (by rw [jP];exact h)
def oV:Nat→Nat
 |0=>0
 |n+1=>if (oV n+1)*(oV n+1)≤n+1 then oV n+1 else oV n
theorem Il:∀n,oV n*oV n≤n∧n<(oV n+1)*(oV n+1)
 |0=>by simp [oV]
 |n+1=>by
  obtain ⟨h1,h2⟩:=Il n;unfold oV;split
  ·rename_i h;refine ⟨h, ?_⟩;have e:(oV n+1+1)*(oV n+1+1)=(oV n+1)*(oV n+1)+2*(oV n+1)+1:=by grind
   omega
  ·exact ⟨by omega,by omega⟩
theorem Rj{n r:Nat}(h1:r*r≤n)(h2:n<(r+1)*(r+1)):r=oV n:=by
 obtain ⟨q1,q2⟩:=Il n;rcases Nat.lt_trichotomy r (oV n) with h|h|h
 ·have:=Nat.mul_le_mul (show r+1≤oV n by omega) (show r+1≤oV n by omega);omega
 ·exact h
 ·have:=Nat.mul_le_mul (show oV n+1≤r by omega) (show oV n+1≤r by omega);omega
theorem Pj{n:Nat}(h:n≤1000000000000):IntKind.i64.wrap ((IntKind.i64.wrap ((n:Nat)+1)).tdiv 2)=(((n+1) / 2:Nat):Int):=by
 rw [bQ (a:=(n:Nat)+1) (by omega) (by omega),Int.tdiv_eq_ediv_of_nonneg (by omega),bQ (by omega) (by omega)];omega
theorem TG{a:Int}(h:a<0):aA [AV.agg [Cell.v (Value.bool false),Cell.sl 1 []],AV.c (Cell.v (Value.int IntKind.i64 7))]=AV.tup [Z (if a<0 then 0 else (oV a.natAbs:Nat)),AV.int IntKind.i64 (if a<0 then 7 else 0)]:=by
 rw [if_pos h,if_pos h,Z0];rfl
theorem N7{a:Int}(h:¬a<0)(h0:a.natAbs=0):aA [AV.agg [Cell.v (Value.bool false),Cell.sl 1 []],AV.c (Cell.v (Value.int IntKind.i64 0))]=AV.tup [Z (if a<0 then 0 else (oV a.natAbs:Nat)),AV.int IntKind.i64 (if a<0 then 7 else 0)]:=by
 rw [if_neg h,if_neg h,h0,show ((oV 0:Nat):Int)=0 from rfl,Z0];rfl
theorem VJ{a:Int}{x:Nat}(h:¬a<0)(hx:0<x∧a.natAbs<(x+1)*(x+1)∧sz x≤200000000)(hge:(((x+a.natAbs / x) / 2:Nat):Int)≥x):
 aA [AV.agg [zs x,zl x],AV.c (Cell.v (Value.int IntKind.i64 0))]=AV.tup [Z (if a<0 then 0 else (oV a.natAbs:Nat)),AV.int IntKind.i64 (if a<0 then 7 else 0)]:=by
 have h1:=Ib hx.1 rfl (show x≤(x+a.natAbs / x) / 2 by omega);rw [if_neg h,if_neg h,← Rj h1 hx.2.1];rfl
theorem Sv{a:Int}{x:Nat}(h0:¬a.natAbs=0)(hx:0<x∧a.natAbs<(x+1)*(x+1)∧sz x≤200000000)(hge:¬(((x+a.natAbs / x) / 2:Nat):Int)≥x):
 0<(x+a.natAbs / x) / 2∧a.natAbs<((x+a.natAbs / x) / 2+1)*((x+a.natAbs / x) / 2+1)∧sz ((x+a.natAbs / x) / 2:Nat)≤200000000 :=
 ⟨IX (by omega) hx.1 rfl,Bf hx.1 rfl,Nat.le_trans (lQ (by rw [Int.natAbs_natCast,Int.natAbs_natCast];omega)) hx.2.2⟩
theorem TP{a:Int}{x:Nat}:sz ((a.natAbs / x:Nat):Int)≤sz a:=lQ (by rw [Int.natAbs_natCast];exact Nat.div_le_self _ _)
theorem bM{x:Nat}(h:x+1≤9223372036854775807):some (AV.int .i64 (IntKind.i64.wrap ((x:Nat)+1)))=some (AV.int .i64 ((x+1:Nat):Int)):=by
 rw [bQ (by omega) (by omega)];rfl
theorem bE{x y:Bool}(h:x=y):aA [AV.c (Cell.v (Value.bool x))]=AV.bool y:=by rw [h];rfl
theorem iE{k:IntKind}{x y:Int}(h:x=y):aA [AV.c (Cell.v (Value.int k x))]=AV.int k y:=by rw [h];rfl
theorem Yd{neg:Bool}{l:List Nat}{x:Nat}(hx:x<l.length)(h:((l.getD x 0:Nat):Int)≥1000000000):false=fZ neg l:=Ht hx (by omega)
@[reducible] def Rr(n1:Bool)(l1:List Nat)(n2:Bool)(l2:List Nat):AV:=.agg [.v (.bool n1),aX l1,.v (.bool n2),aX l2]
def kC(n1:Bool)(l1:List Nat)(n2:Bool)(l2:List Nat):Bool:=fZ n1 l1 && (fZ n2 l2 && (decide (iK (dM n2 (val l2))=1) && decide (((Nat.gcd (val l1) (val l2):Nat):Int)=1)))
theorem qB{neg:Bool}{l:List Nat}(h:fZ neg l=true):∃x:Int,neg=decide (x<0)∧l=lim x.natAbs:=⟨_,Hu h⟩
theorem FZ(n1:Bool)(l1:List Nat)(n2:Bool)(l2:List Nat):fZ n1 l1=false∨(∃x:Int,n1=decide (x<0)∧l1=lim x.natAbs∧fZ n2 l2=false)∨∃x y:Int,n1=decide (x<0)∧l1=lim x.natAbs∧n2=decide (y<0)∧l2=lim y.natAbs:=by
 cases h1:fZ n1 l1 with
 |false=>exact .inl rfl
 |true =>
  obtain ⟨x,rfl,rfl⟩:=qB h1;cases h2:fZ n2 l2 with
  |false=>exact .inr (.inl ⟨x,rfl,rfl,rfl⟩)
  |true =>
   obtain ⟨y,rfl,rfl⟩:=qB h2;exact .inr (.inr ⟨x,y,rfl,rfl,rfl,rfl⟩)
theorem oK(x y:Int):kC (decide (x<0)) (lim x.natAbs) (decide (y<0)) (lim y.natAbs)=(decide (iK y=1) && decide (((Nat.gcd x.natAbs y.natAbs:Nat):Int)=1)):=by
 unfold kC;rw [rJ,rJ,aH,aH,xI];rfl
theorem MO{n1:Bool}{l1:List Nat}{n2:Bool}{l2:List Nat}(h:kC n1 l1 n2 l2=true):∃q:Rat,n1=decide (q.num<0)∧l1=lim q.num.natAbs∧n2=decide ((q.den:Int)<0)∧l2=lim (q.den:Int).natAbs:=by
 have h0:=h;unfold kC at h0;simp only [Bool.and_eq_true] at h0;obtain ⟨x,rfl,rfl⟩:=qB h0.1;obtain ⟨y,rfl,rfl⟩:=qB h0.2.1;rw [oK] at h;simp only [Bool.and_eq_true,decide_eq_true_eq] at h;have hy:=o7.1 h.1;have hg:Nat.gcd x.natAbs y.natAbs=1:=by omega
 refine ⟨⟨x,y.natAbs,by omega,hg⟩,rfl,rfl, ?_, ?_⟩
 ·simp only;congr 1;rw [show ((y.natAbs:Nat):Int)=y by omega]
 ·simp only [Int.natAbs_natCast]
@[reducible] def Iv(l h:Int):AV:=.agg [.v (.int .i64 l),.v (.int .i64 h)]
def G9(l h:Int):Int × Bool:=if l > 0 then (1,true) else if h<0 then (-1,true) else (0,decide (l=0∧h=0))
def LU(l h:Int):Option (Int × Int):=if -2305843009213693952≤l∧h≤2305843009213693952 then some (l,h) else none
@[reducible] def Ov(o:Option (Int × Int)):AV:=.tup [Iv (o.getD (0,0)).1 (o.getD (0,0)).2,.bool o.isSome]
theorem Jf{l h:Int}(h1 : -2305843009213693952≤l)(h2:h≤2305843009213693952):LU l h=some (l,h):=if_pos ⟨h1,h2⟩
theorem Ce{l h:Int}(h1:¬(-2305843009213693952≤l∧h≤2305843009213693952)):LU l h=none:=if_neg h1
theorem ac5:min (Int.toNat 32) IntKind.u64.bits=32:=rfl
theorem abO:min (Int.toNat 16) IntKind.u64.bits=16:=rfl
theorem abo:min (Int.toNat 48) IntKind.u64.bits=48:=rfl
theorem AU(a n:Nat):((a:Nat):Int).fdiv ((n:Nat):Int)=((a / n:Nat):Int):=by rw [Int.fdiv_eq_ediv_of_nonneg _ (by omega)];rfl
theorem wu(n:Nat):IntKind.u64.wrap ((n:Nat):Int)=((n % 18446744073709551616:Nat):Int):=by rw [IntKind.wrap_u64];omega
theorem LV{a n:Nat}(hn:n≤64)(ha:a<18446744073709551616):y7 .u64 ((a:Nat):Int) ((2 ^ n-1:Nat):Int)=((a % 2 ^ n:Nat):Int):=by
 unfold y7;have h2:2 ^ n≤2 ^ 64:=Nat.pow_le_pow_right (by decide) hn;have h0:0<2 ^ n:=Nat.pow_pos (by decide)
 have e:(BitVec.ofInt IntKind.u64.bits ((a:Nat):Int) &&& BitVec.ofInt IntKind.u64.bits ((2 ^ n-1:Nat):Int)).toNat=a % 2 ^ n:=by
  show (BitVec.ofInt 64 ((a:Nat):Int) &&& BitVec.ofInt 64 ((2 ^ n-1:Nat):Int)).toNat=a % 2 ^ n;rw [BitVec.ofInt_natCast,BitVec.ofInt_natCast,BitVec.toNat_and,BitVec.toNat_ofNat,BitVec.toNat_ofNat,Nat.mod_eq_of_lt (show a<2 ^ 64 from ha),Nat.mod_eq_of_lt (show 2 ^ n-1<2 ^ 64 by omega),Nat.and_two_pow_sub_one_eq_mod]
 rw [e,wu];have h3:a % 2 ^ n≤a:=Nat.mod_le _ _;rw [Nat.mod_eq_of_lt (by omega)]
theorem U6{a b n:Nat}(hn:n≤64)(hb:b<2 ^ n)(ha:2 ^ n*a<18446744073709551616):Zl .u64 ((2 ^ n*a:Nat):Int) ((b:Nat):Int)=((2 ^ n*a+b:Nat):Int):=by
 unfold Zl;have h2:2 ^ n≤2 ^ 64:=Nat.pow_le_pow_right (by decide) hn
 have e:(BitVec.ofInt IntKind.u64.bits ((2 ^ n*a:Nat):Int) ||| BitVec.ofInt IntKind.u64.bits ((b:Nat):Int)).toNat=2 ^ n*a+b:=by
  show (BitVec.ofInt 64 ((2 ^ n*a:Nat):Int) ||| BitVec.ofInt 64 ((b:Nat):Int)).toNat=2 ^ n*a+b;rw [BitVec.ofInt_natCast,BitVec.ofInt_natCast,BitVec.toNat_or,BitVec.toNat_ofNat,BitVec.toNat_ofNat,Nat.mod_eq_of_lt (show 2 ^ n*a<2 ^ 64 from ha),Nat.mod_eq_of_lt (show b<2 ^ 64 by omega),Nat.two_pow_add_eq_or_of_lt hb]
 have hlt:2 ^ n*a+b<18446744073709551616:=by
  have:=(BitVec.ofInt IntKind.u64.bits ((2 ^ n*a:Nat):Int) ||| BitVec.ofInt IntKind.u64.bits ((b:Nat):Int)).isLt;rw [e] at this;exact this
 rw [e,wu,Nat.mod_eq_of_lt hlt]
theorem Lp{a b x0 x1 y0 y1:Nat}(ha:a<18446744073709551616)(hb:b<18446744073709551616)(h1:x0=a % 4294967296)(h2:x1=a / 4294967296)(h3:y0=b % 4294967296)(h4:y1=b / 4294967296):
 (x1*y1+(x1*y0+x0*y0 % 18446744073709551616 / 4294967296) / 4294967296+((x1*y0+x0*y0 % 18446744073709551616 / 4294967296) % 4294967296+x0*y1) / 4294967296)=a*b / 18446744073709551616 ∧
 x0*y0≤18446744065119617025∧x1*y0≤18446744065119617025∧x0*y1≤18446744065119617025∧x1*y1≤18446744065119617025:=by
 have b1:x0*y0≤4294967295*4294967295:=Nat.mul_le_mul (by omega) (by omega);have b2:x1*y0≤4294967295*4294967295:=Nat.mul_le_mul (by omega) (by omega);have b3:x0*y1≤4294967295*4294967295:=Nat.mul_le_mul (by omega) (by omega);have b4:x1*y1≤4294967295*4294967295:=Nat.mul_le_mul (by omega) (by omega);have ea:a=x1*4294967296+x0:=by omega
 have eb:b=y1*4294967296+y0:=by omega
 have e:a*b=x1*y1*18446744073709551616+(x1*y0+x0*y1)*4294967296+x0*y0:=by rw [ea,eb];grind
 rw [e];generalize x0*y0=p at *;generalize x1*y0=q at *;generalize x0*y1=r at *;generalize x1*y1=s at *;exact ⟨by omega,by omega,by omega,by omega,by omega⟩
theorem Fp(a:Nat){n:Nat}(hn:n≤64):y7 .u64 ((a:Nat):Int) ((2 ^ n-1:Nat):Int)=((a % 2 ^ n:Nat):Int):=by
 have e:y7 .u64 ((a:Nat):Int) ((2 ^ n-1:Nat):Int)=y7 .u64 ((a % 18446744073709551616:Nat):Int) ((2 ^ n-1:Nat):Int):=by
  unfold y7
  have:BitVec.ofInt IntKind.u64.bits ((a:Nat):Int)=BitVec.ofInt IntKind.u64.bits ((a % 18446744073709551616:Nat):Int):=by
   show BitVec.ofInt 64 ((a:Nat):Int)=BitVec.ofInt 64 ((a % 18446744073709551616:Nat):Int);rw [BitVec.ofInt_natCast,BitVec.ofInt_natCast];apply BitVec.eq_of_toNat_eq;simp
  rw [this]
 rw [e,LV hn (Nat.mod_lt _ (by decide)),Nat.mod_mod_of_dvd _ (Nat.pow_dvd_pow 2 hn:2 ^ n ∣ 2 ^ 64)]
theorem Xp(a:Nat):y7 .u64 ((a:Nat):Int) 4294967295=((a % 4294967296:Nat):Int):=Fp a (n:=32) (by decide)
theorem OG(a:Nat):y7 .u64 ((a:Nat):Int) 65535=((a % 65536:Nat):Int):=Fp a (n:=16) (by decide)
theorem e32:(2:Int) ^ 32=((4294967296:Nat):Int):=rfl
theorem e16:(2:Int) ^ 16=((65536:Nat):Int):=rfl
theorem e48:(2:Int) ^ 48=((281474976710656:Nat):Int):=rfl
theorem iE2{k k':IntKind}{x x' y y':Int}(h:x=x')(h':y=y'):aA [AV.c (Cell.v (Value.int k x)),AV.c (Cell.v (Value.int k' y))]=AV.tup [AV.int k x',AV.int k' y']:=by rw [h,h'];rfl
theorem ibE{k:IntKind}{x x':Int}{y y':Bool}(h:x=x')(h':y=y'):aA [AV.c (Cell.v (Value.int k x)),AV.c (Cell.v (Value.bool y))]=AV.tup [AV.int k x',AV.bool y']:=by rw [h,h'];rfl
def Nh(x y:Int):Nat:=x.natAbs*y.natAbs
def G8(x y:Int):Int × Int :=
 let q:Int:=(Nh x y / 65536:Nat)
 let u:Int:=if Nh x y % 65536=0 then q else q+1
 if (decide (x<0) != decide (y<0))=true then (-u,-q) else (q,u)
def qZ(x y:Int):Int × Int × Bool :=
 if 1208925819614629174706176≤Nh x y∨2305843009213693952<Nh x y / 65536 then (0,0,false)
 else ((G8 x y).1,(G8 x y).2,decide (-2305843009213693952≤(G8 x y).1∧(G8 x y).2≤2305843009213693952))
theorem Ik{x y d u:Int}{o:Bool}(h:qZ x y=(d,u,o)):aA [AV.c (Cell.v (Value.int .i64 d)),AV.c (Cell.v (Value.int .i64 u)),AV.c (Cell.v (Value.bool o))]=AV.tup [AV.int .i64 (qZ x y).1,AV.int .i64 (qZ x y).2.1,AV.bool (qZ x y).2.2]:=by rw [h];rfl
theorem abN{p:Nat}(h:p / 18446744073709551616 / 65536=0):Zl .u64 (IntKind.u64.wrap (((p / 18446744073709551616:Nat):Int)*((281474976710656:Nat):Int))) ((p % 18446744073709551616 / 65536:Nat):Int)=((p / 65536:Nat):Int):=by
 rw [← Int.natCast_mul,wu,Nat.mod_eq_of_lt (by omega),Nat.mul_comm];have:=U6 (n:=48) (a:=p / 18446744073709551616) (b:=p % 18446744073709551616 / 65536) (by decide) (by omega) (by omega);have e:(2:Nat) ^ 48=281474976710656:=rfl;rw [e] at this;rw [this];congr 1;omega
theorem XK{x y:Int}(h:¬(((x.natAbs*y.natAbs / 18446744073709551616 / 65536:Nat):Int))=0):qZ x y=(0,0,false):=if_pos (.inl (by unfold Nh;generalize x.natAbs*y.natAbs=p at *;omega))
theorem TK{x y:Int}(h:(((x.natAbs*y.natAbs / 65536:Nat):Int)) > 2305843009213693952):qZ x y=(0,0,false):=if_pos (.inr (by unfold Nh;generalize x.natAbs*y.natAbs=p at *;omega))
theorem Yq{x y d u:Int}{o:Bool}(h1:(((x.natAbs*y.natAbs / 18446744073709551616 / 65536:Nat):Int))=0)(h2:¬(((x.natAbs*y.natAbs / 65536:Nat):Int)) > 2305843009213693952)
 (hd:d=(G8 x y).1) (hu:u=(G8 x y).2) (ho:o=decide (-2305843009213693952≤(G8 x y).1∧(G8 x y).2≤2305843009213693952)):qZ x y=(d,u,o):=by
 subst hd hu ho;exact if_neg (by unfold Nh;generalize x.natAbs*y.natAbs=p at *;omega)
theorem O5{x y:Int}{s z:Bool}(hs:(decide (x<0) != decide (y<0))=s)(hz:decide (x.natAbs*y.natAbs % 65536=0)=z):
 G8 x y=(if s then (-(if z then ((x.natAbs*y.natAbs / 65536:Nat):Int) else ((x.natAbs*y.natAbs / 65536:Nat):Int)+1),-((x.natAbs*y.natAbs / 65536:Nat):Int)) else (((x.natAbs*y.natAbs / 65536:Nat):Int),if z then ((x.natAbs*y.natAbs / 65536:Nat):Int) else ((x.natAbs*y.natAbs / 65536:Nat):Int)+1)):=by
 unfold G8 Nh;rw [hs];subst hz;simp only [decide_eq_true_eq]
theorem w1{q:Int}(h0:0≤q)(h:¬q > 2305843009213693952):IntKind.i64.wrap q=q:=bQ (by omega) (by omega)
theorem w2{q:Int}(h0:0≤q)(h:¬q > 2305843009213693952):IntKind.i64.wrap (q+1)=q+1:=bQ (by omega) (by omega)
theorem w3{q:Int}(h0:0≤q)(h:¬q > 2305843009213693952):IntKind.i64.wrap (0-q) = -q:=by rw [bQ (by omega) (by omega)];omega
theorem w4{q:Int}(h0:0≤q)(h:¬q > 2305843009213693952):IntKind.i64.wrap (0-(q+1)) = -(q+1):=by rw [bQ (by omega) (by omega)];omega
theorem JQ{x y:Int}{s z o:Bool}{d u:Int}(h1:(((x.natAbs*y.natAbs / 18446744073709551616 / 65536:Nat):Int))=0)(h2:¬(((x.natAbs*y.natAbs / 65536:Nat):Int)) > 2305843009213693952)
 (hs:(decide (x<0) != decide (y<0))=s) (hz:decide (x.natAbs*y.natAbs % 65536=0)=z) (hd:d=(if s then -(if z then ((x.natAbs*y.natAbs / 65536:Nat):Int) else ((x.natAbs*y.natAbs / 65536:Nat):Int)+1) else ((x.natAbs*y.natAbs / 65536:Nat):Int)))
 (hu:u=(if s then -((x.natAbs*y.natAbs / 65536:Nat):Int) else (if z then ((x.natAbs*y.natAbs / 65536:Nat):Int) else ((x.natAbs*y.natAbs / 65536:Nat):Int)+1))) (ho:o=decide (-2305843009213693952≤d∧u≤2305843009213693952)) :
 aA [AV.c (Cell.v (Value.int .i64 d)),AV.c (Cell.v (Value.int .i64 u)),AV.c (Cell.v (Value.bool o))]=AV.tup [AV.int .i64 (qZ x y).1,AV.int .i64 (qZ x y).2.1,AV.bool (qZ x y).2.2]:=by
 have e1:d=(G8 x y).1:=by rw [hd,O5 hs hz];cases s<;>rfl
 have e2:u=(G8 x y).2:=by rw [hu,O5 hs hz];cases s<;>rfl
 exact Ik (Yq h1 h2 e1 e2 (by rw [ho,e1,e2]))
@[reducible] def ZM(a:Rat):Int:=-(-a).floor
theorem O1(a:Rat):a.floor≤ZM a:=by
 unfold ZM;have h1:=Rat.floor_le (a:=a);have h2:=Rat.floor_le (a:=-a);have:((a.floor+(-a).floor:Int):Rat)≤0:=by rw [Rat.intCast_add];grind
 have:=Rat.intCast_le_intCast.1 (show ((a.floor+(-a).floor:Int):Rat)≤((0:Int):Rat) from this);omega
def dF(a:Rat):Option (Int × Int):=LU (a*((65536:Int):Rat)).floor (ZM (a*((65536:Int):Rat)))
def rP(a b:Int × Int):Option (Int × Int):=LU (a.1+b.1) (a.2+b.2)
theorem DF{l h:Int}(o:Option (Int × Int))(e:o=LU l h)(hlh:l≤h):-2305843009213693952≤(o.getD (0,0)).1∧(o.getD (0,0)).1≤(o.getD (0,0)).2∧(o.getD (0,0)).2≤2305843009213693952:=by
 subst e;unfold LU;split
 ·exact ⟨by simp;omega,by simp;omega,by simp;omega⟩
 ·exact ⟨by simp,by simp,by simp⟩
theorem Qn(a:Rat):-2305843009213693952≤((dF a).getD (0,0)).1∧((dF a).getD (0,0)).1≤((dF a).getD (0,0)).2∧((dF a).getD (0,0)).2≤2305843009213693952:=DF _ rfl (O1 _)
theorem ovE{l h:Int}{b:Bool}{o:Option (Int × Int)}(e1:l=(o.getD (0,0)).1)(e2:h=(o.getD (0,0)).2)(e3:b=o.isSome):
 aA [AV.agg [Cell.v (Value.int .i64 l),Cell.v (Value.int .i64 h)],AV.c (Cell.v (Value.bool b))]=Ov o:=by subst e1 e2 e3;rfl
theorem Xn{o:Option (Int × Int)}(e:o=none):aA [AV.agg [Cell.v (Value.int .i64 0),Cell.v (Value.int .i64 0)],AV.c (Cell.v (Value.bool false))]=Ov o:=by subst e;rfl
theorem PD(a:Rat):sz a.floor≤rz a:=by
 refine Nat.le_trans (lQ ?_) (kQ a);rw [← EO,Int.fdiv_eq_ediv_of_nonneg _ (by have:=den_pos a;omega)];exact Int.natAbs_ediv_le_natAbs _ _
theorem abJ{a:Rat}(h:¬(-9223372036854775808≤(a*((65536:Int):Rat)).floor∧(a*((65536:Int):Rat)).floor≤9223372036854775807)):dF a=none :=
 Ce (by have:=O1 (a*((65536:Int):Rat));omega)
theorem aal{a:Rat}(h:¬(-9223372036854775808≤-(-(a*((65536:Int):Rat))).floor∧-(-(a*((65536:Int):Rat))).floor≤9223372036854775807)):dF a=none :=
 Ce (by have:=O1 (a*((65536:Int):Rat));unfold ZM at *;omega)
theorem szl(n:Int)(h1 : -9223372036854775808≤n)(h2:n≤9223372036854775807):sz n≤3:=jf h1 h2
theorem acR:rz ((65536:Int):Rat)≤4:=by have:=ou 65536;have:=jf (n:=65536) (by omega) (by omega);omega
theorem VH{l:Int}:List.foldl (λx y=>if y > x then y else x) l [0]=max l 0:=by
 show (if 0 > l then 0 else l)=max l 0;split<;>omega
def rt(n:Int):Int:=if n*65536<0 then 0 else (oV (n*65536).natAbs:Nat)
theorem aak(n:Int):(if n*65536<0 then 0 else ((oV (n*65536).natAbs:Nat):Int))=rt n:=rfl
def WE(n:Int):Int:=if rt n*rt n=n*65536 then rt n else rt n+1
theorem Em{n:Int}(h:0≤n):0≤rt n∧rt n*rt n≤n*65536∧n*65536<(rt n+1)*(rt n+1):=by
 have ⟨h1,h2⟩:=Il (n*65536).natAbs;have e:(((n*65536).natAbs:Nat):Int)=n*65536:=by omega
 unfold rt;rw [if_neg (by omega)];refine ⟨by omega, ?_, ?_⟩
 ·have:=Int.ofNat_le.2 h1;rw [Int.natCast_mul] at this;omega
 ·have:=Int.ofNat_lt.2 h2;rw [Int.natCast_mul,Int.natCast_add] at this;simpa [e] using this
theorem O7{n:Int}(h:0≤n)(h2:n≤2305843009213693952):0≤rt n∧rt n≤549755813888:=by
 have ⟨h0,h1,_⟩:=Em h;refine ⟨h0, ?_⟩;apply Decidable.byContradiction;intro hc;have:549755813889*549755813889≤rt n*rt n:=Int.mul_le_mul (by omega) (by omega) (by decide) h0;omega
theorem OM{n:Int}(h:0≤n):rt n≤WE n∧WE n≤rt n+1∧n*65536≤WE n*WE n:=by
 have ⟨h0,h1,h2⟩:=Em h;unfold WE;split
 ·omega
 ·refine ⟨by omega,by omega,by omega⟩
def kX(a:Int × Int):Option (Int × Int):=if a.2<0 then none else LU (rt (max a.1 0)) (WE a.2)
theorem KC{l h:Int}(h0:0≤l)(h1:l≤h):rt l≤rt h:=by
 have ⟨a0,a1,a2⟩:=Em h0;have ⟨b0,b1,b2⟩:=Em (Int.le_trans h0 h1);apply Decidable.byContradiction;intro hc;have:(rt h+1)*(rt h+1)≤rt l*rt l:=Int.mul_le_mul (by omega) (by omega) (by omega) a0;omega
theorem Z8{l h:Int}(h0:¬h<0)(e:rt h*rt h=h*65536):Ov (LU (rt (max l 0)) (rt h))=Ov (kX (l,h)):=by
 unfold kX WE;rw [if_neg h0,if_pos e]
theorem ZH{l h:Int}(h0:¬h<0)(e:¬rt h*rt h=h*65536):Ov (LU (rt (max l 0)) (rt h+1))=Ov (kX (l,h)):=by
 unfold kX WE;rw [if_neg h0,if_neg e]
end Go.Sw
namespace Go.Sw
open Go
set_option linter.unusedSimpArgs false
theorem KN:IntKind.i64.wrap (0+1)=1:=by decide
theorem GX:IntKind.i64.wrap (1+1)=2:=by decide
theorem VF{b:Bool}{k:Bool→Prop}(e:b=true)(h:k true):OnB b k:=⟨λ_=>h,λh'=>by rw [e] at h';cases h'⟩
theorem Eb{b:Bool}{k:Bool→Prop}(e:b=false)(h:k false):OnB b k:=⟨λh'=>(by rw [e] at h';cases h'),λ_=>h⟩
def Di(x y:Int):Int:=(x*y) / 65536
def qX(x y:Int):Int:=-((-(x*y)) / 65536)
theorem Fg(x y:Int):Di x y≤qX x y:=by unfold Di qX;omega
theorem Jz(x y:Int):G8 x y=(Di x y,qX x y):=by
 have e:x*y=if (decide (x<0) != decide (y<0))=true then -((Nh x y:Nat):Int) else ((Nh x y:Nat):Int):=by
  unfold Nh;rw [Int.natCast_mul]
  by_cases h1:x<0<;>by_cases h2:y<0<;>simp only [h1,h2]
  ·have e1:(x.natAbs:Int) = -x:=by omega
   have e2:(y.natAbs:Int) = -y:=by omega
   rw [e1,e2];simp [Int.neg_mul,Int.mul_neg,Int.neg_neg]
  ·have e1:(x.natAbs:Int) = -x:=by omega
   have e2:(y.natAbs:Int)=y:=by omega
   rw [e1,e2];simp [Int.neg_mul,Int.mul_neg,Int.neg_neg]
  ·have e1:(x.natAbs:Int)=x:=by omega
   have e2:(y.natAbs:Int) = -y:=by omega
   rw [e1,e2];simp [Int.neg_mul,Int.mul_neg,Int.neg_neg]
  ·have e1:(x.natAbs:Int)=x:=by omega
   have e2:(y.natAbs:Int)=y:=by omega
   rw [e1,e2];simp [Int.neg_mul,Int.mul_neg,Int.neg_neg]
 unfold G8 Di qX;generalize Nh x y=p at *;generalize (decide (x<0) != decide (y<0))=s at *;rw [e];cases s<;>by_cases hm:p % 65536=0<;>simp only [hm,if_true,if_false]<;>(refine Prod.ext ?_ ?_<;>simp<;>omega)
theorem D7{x y:Int}(h:(qZ x y).2.2=true):(qZ x y).1=Di x y∧(qZ x y).2.1=qX x y∧-2305843009213693952≤Di x y∧qX x y≤2305843009213693952:=by
 unfold qZ at *;rw [Jz] at *;split at h
 ·exact absurd h (by simp)
 ·rename_i g;rw [if_neg g];exact ⟨rfl,rfl,of_decide_eq_true h⟩
theorem Ye{x y:Int}(h:¬(qZ x y).2.2=true):¬(-2305843009213693952≤Di x y∧qX x y≤2305843009213693952):=by
 have q:=Jz x y;unfold qZ at h;rw [q] at h;split at h
 ·rename_i g;unfold G8 at q;generalize Nh x y=p at *;intro ⟨h1,h2⟩;generalize (decide (x<0) != decide (y<0))=s at *;have q1:=congrArg Prod.fst q;have q2:=congrArg Prod.snd q;cases s<;>by_cases hm:p % 65536=0<;>simp only [hm,if_true,if_false] at q1 q2<;>simp at q1 q2<;>omega
 ·intro ⟨h1,h2⟩;exact h (decide_eq_true ⟨h1,h2⟩)
def pX(a b:Int × Int):Option (Int × Int) :=
 LU (min (min (Di a.1 b.1) (Di a.1 b.2)) (min (Di a.2 b.1) (Di a.2 b.2))) (max (max (qX a.1 b.1) (qX a.1 b.2)) (max (qX a.2 b.1) (qX a.2 b.2)))
theorem nb{b:Bool}(h:(!b)=true):¬b=true:=by cases b<;>simp_all
theorem nb'{b:Bool}(h:(!b)=false):b=true:=by cases b<;>simp_all
theorem Oj(u v:Int):List.foldl (λx y=>if y<x then y else x) u [v]=min u v:=by
 show (if v<u then v else u)=min u v;split<;>omega
theorem P7(u v:Int):List.foldl (λx y=>if y > x then y else x) u [v]=max u v:=by
 show (if v > u then v else u)=max u v;split<;>omega
theorem tZ{a b c d x y:Int}(hx:x=a∨x=b)(hy:y=c∨y=d)(h:(!(qZ x y).2.2)=true):pX (a,b) (c,d)=none:=by
 have:=Ye (nb h);apply Ce;rcases hx with rfl|rfl<;>rcases hy with rfl|rfl<;>simp only<;>omega
theorem OA{a b c d:Int}(h1:(!(qZ a c).2.2)=false)(h2:(!(qZ a d).2.2)=false)(h3:(!(qZ b c).2.2)=false)(h4:(!(qZ b d).2.2)=false):
 aA [AV.agg [Cell.v (Value.int .i64 (min (min (min (min 2305843009213693952 (qZ a c).1) (qZ a d).1) (qZ b c).1) (qZ b d).1)),Cell.v (Value.int .i64 (max (max (max (max (-2305843009213693952) (qZ a c).2.1) (qZ a d).2.1) (qZ b c).2.1) (qZ b d).2.1))],AV.c (Cell.v (Value.bool true))]=Ov (pX (a,b) (c,d)):=by
 obtain ⟨e1,e2,e3,e4⟩:=D7 (nb' h1);obtain ⟨f1,f2,f3,f4⟩:=D7 (nb' h2);obtain ⟨g1,g2,g3,g4⟩:=D7 (nb' h3);obtain ⟨k1,k2,k3,k4⟩:=D7 (nb' h4);have d1:=Fg a c;have d2:=Fg a d;have d3:=Fg b c;have d4:=Fg b d;rw [e1,e2,f1,f2,g1,g2,k1,k2];unfold pX;rw [Jf (by simp only;omega) (by simp only;omega)];refine ovE ?_ ?_ rfl<;>simp only [Option.getD_some]<;>omega
@[reducible] def Q3(a b c:Rat):AV:=.agg [zs a.num,zl a.num,zs a.den,zl a.den,zs b.num,zl b.num,zs b.den,zl b.den,zs c.num,zl c.num,zs c.den,zl c.den]
def lF(a b c:Rat):Option (Int × Int) :=
 match dF a with
 |none=>none
 |some x=>if b=0 then some x else
  match dF b,dF c with
  |some y,some z=>if c<0 then none else
   match kX z with
   |none=>none
   |some s=>match pX y s with
    |none=>none
    |some p=>rP x p
  |_,_=>none
def hw(a b c d:Int):Nat→Int
 |0=>0|1=>qX a c|2=>max (qX a c) (qX a d)|3=>max (max (qX a c) (qX a d)) (qX b c)|_=>max (max (max (qX a c) (qX a d)) (qX b c)) (qX b d)
def kI:Nat→Int|0=>0|1=>1|_=>2
theorem hw1(a b c d:Int):hw a b c d 1=qX a c:=rfl
theorem hw2(a b c d:Int):hw a b c d 2=max (qX a c) (qX a d):=rfl
theorem k1:some (AV.int .i64 (IntKind.i64.wrap (0+1)))=some (AV.int .i64 (kI 1)):=by rw [KN];rfl
theorem k2:some (AV.int .i64 (IntKind.i64.wrap (1+1)))=some (AV.int .i64 (kI 2)):=by rw [GX];rfl
@[reducible] def Q5(a b c d e:Rat):AV:=.agg [zs a.num,zl a.num,zs a.den,zl a.den,zs b.num,zl b.num,zs b.den,zl b.den,zs c.num,zl c.num,zs c.den,zl c.den,zs d.num,zl d.num,zs d.den,zl d.den,zs e.num,zl e.num,zs e.den,zl e.den]
def CZ(x:Int × Int):Prop:=-2305843009213693952≤x.1∧x.1≤x.2∧x.2≤2305843009213693952
theorem iL(a:Rat):CZ ((dF a).getD (0,0)):=Qn a
theorem xK(x y:Int × Int):CZ ((pX x y).getD (0,0)):=DF _ rfl (by have:=Fg x.1 y.1;omega)
theorem OW{x:Int × Int}(h:CZ x):CZ ((kX x).getD (0,0)):=by
 unfold kX;split
 ·exact ⟨by decide,by decide,by decide⟩
 ·rename_i g;refine DF _ rfl ?_;have:=KC (l:=max x.1 0) (h:=x.2) (by omega) (by unfold CZ at h;omega);have:=(OM (n:=x.2) (by omega)).1;omega
theorem BJ{x y:Int × Int}(h1:CZ x)(h2:CZ y):CZ ((rP x y).getD (0,0)):=DF _ rfl (by unfold CZ at *;omega)
theorem E5(a b c:Rat):CZ ((lF a b c).getD (0,0)):=by
 have h0:CZ (0,0):=⟨by decide,by decide,by decide⟩
 unfold lF;have ha:=iL a;have hb:=iL b;have hc:=iL c;split
 ·exact h0
 ·rename_i x hx;rw [hx] at ha;split
  ·exact ha
  ·split
   ·rename_i y z hy hz;split
    ·exact h0
    ·split
     ·exact h0
     ·split
      ·exact h0
      ·rename_i s hs _ p hp;refine BJ ha ?_;have:=xK y s;rw [hp] at this;exact this
   ·exact h0
theorem aaS{o:Option (Int × Int)}(e:(none:Option (Int × Int))=o):aA [AV.agg [Cell.v (Value.int .i64 0),Cell.v (Value.int .i64 0)],AV.c (Cell.v (Value.bool false))]=Ov o:=by subst e;rfl
end Go.Sw
namespace Go.Sw
open Go
theorem lu(a:Rat):-1≤aU a∧aU a≤1:=by unfold aU;split<;>(try split)<;>omega
theorem zh(a b:Rat):-1≤gG a b∧gG a b≤1:=by unfold gG;split<;>(try split)<;>omega
theorem lT{x y:Int}(h1 : -1≤x∧x≤1)(h2 : -1≤y∧y≤1):-1≤x*y∧x*y≤1:=by
 have a:x = -1∨x=0∨x=1:=by omega
 rcases a with rfl|rfl|rfl<;>omega
theorem adO(a b:Rat):IntKind.i64.wrap (aU a*aU b)=aU a*aU b:=by
 have:=lT (lu a) (lu b);exact bQ (by omega) (by omega)
theorem aci(a b c:Rat):IntKind.i64.wrap (aU a*gG b c)=aU a*gG b c:=by
 have:=lT (lu a) (zh b c);exact bQ (by omega) (by omega)
def uh(a b c:Rat):Int :=
 if aU a=aU b*aU c∨aU b*aU c=0 then aU a
 else if aU a=0 then aU b*aU c
 else aU a*gG (a*a) (b*b*c)
theorem ady{a b c:Rat}(g1:¬aU a=aU b*aU c)(g2:¬aU b*aU c=0)(g3:¬aU a=0):uh a b c=aU a*gG (a*a) (b*b*c):=by
 unfold uh;rw [if_neg (λh=>h.elim g1 g2),if_neg g3]
theorem MW(n:Int)(h1 : -9223372036854775808≤n)(h2:n≤9223372036854775807):rz (n:Rat)≤4:=by
 have:=ou n;have:=jf h1 h2;omega
theorem ade(n d:Int)(h0:d≠0)(h1 : -9223372036854775808≤n∧n≤9223372036854775807)(h2 : -9223372036854775808≤d∧d≤9223372036854775807):rz ((n:Rat) / (d:Rat))≤6:=by
 have:=Dp (n:=n) h0;have:=jf h1.1 h1.2;have:=jf h2.1 h2.2;omega
theorem II{a b x k L:Rat}(h1:a≤x)(h2:x≤b)(p:L≤a*k)(q:L≤b*k):L≤x*k:=by
 rcases Rat.le_total (a:=0) (b:=k) with hk|hk
 ·have:=Rat.mul_le_mul_of_nonneg_right h1 hk;grind
 ·have:=Rat.mul_le_mul_of_nonneg_right h2 (show 0≤-k by grind);grind
theorem QN{a b c d x y L:Rat}(h1:a≤x)(h2:x≤b)(h3:c≤y)(h4:y≤d)(p1:L≤a*c)(p2:L≤a*d)(p3:L≤b*c)(p4:L≤b*d):L≤x*y:=by
 apply II h1 h2
 ·rw [Rat.mul_comm];exact II h3 h4 (by rw [Rat.mul_comm];exact p1) (by rw [Rat.mul_comm];exact p2)
 ·rw [Rat.mul_comm];exact II h3 h4 (by rw [Rat.mul_comm];exact p3) (by rw [Rat.mul_comm];exact p4)
theorem YM{a b c d x y L:Rat}(h1:a≤x)(h2:x≤b)(h3:c≤y)(h4:y≤d)(p1:a*c≤L)(p2:a*d≤L)(p3:b*c≤L)(p4:b*d≤L):x*y≤L:=by
 have:=QN (L:=-L) (a:=-b) (b:=-a) (x:=-x) (y:=y) (c:=c) (d:=d) (by grind) (by grind) h3 h4 (by grind) (by grind) (by grind) (by grind)
 grind
theorem YP(x y:Int):((Di x y:Int):Rat)*65536≤(x:Rat)*(y:Rat):=by
 have h:((Di x y*65536:Int):Rat)≤((x*y:Int):Rat):=Rat.intCast_le_intCast.2 (by unfold Di;omega);rw [Rat.intCast_mul,Rat.intCast_mul] at h;exact h
theorem Xg(x y:Int):(x:Rat)*(y:Rat)≤((qX x y:Int):Rat)*65536:=by
 have h:((x*y:Int):Rat)≤((qX x y*65536:Int):Rat):=Rat.intCast_le_intCast.2 (by unfold qX;omega);rw [Rat.intCast_mul,Rat.intCast_mul] at h;exact h
def con(p:Int × Int)(q:Rat):Prop:=(p.1:Rat)≤q*65536∧q*65536≤(p.2:Rat)
theorem tu{l h:Int}{p:Int × Int}(e:LU l h=some p):p=(l,h):=by
 unfold LU at e;split at e
 ·injection e with e;exact e.symm
 ·cases e
theorem oC{x y p:Int × Int}{u v:Rat}(e:rP x y=some p)(hu:con x u)(hv:con y v):con p (u+v):=by
 have:=tu e;subst this;unfold con at *;simp only [Rat.intCast_add];obtain ⟨h1,h2⟩:=hu;obtain ⟨h3,h4⟩:=hv;constructor<;>grind
theorem xO{x y p:Int × Int}{u v:Rat}(e:pX x y=some p)(hu:con x u)(hv:con y v):con p (u*v):=by
 have:=tu e;subst this;unfold con at *;obtain ⟨h1,h2⟩:=hu;obtain ⟨h3,h4⟩:=hv;simp only;generalize hl:min (min (Di x.1 y.1) (Di x.1 y.2)) (min (Di x.2 y.1) (Di x.2 y.2))=l;generalize hh:max (max (qX x.1 y.1) (qX x.1 y.2)) (max (qX x.2 y.1) (qX x.2 y.2))=h
 have lo:∀a c:Int,l≤Di a c→(l:Rat)*65536≤(a:Rat)*(c:Rat):=λa c hd=>by
  have k1:=YP a c;have k2:=Rat.intCast_le_intCast.2 hd
  grind
 have hi:∀a c:Int,qX a c≤h→(a:Rat)*(c:Rat)≤(h:Rat)*65536:=λa c hd=>by
  have k1:=Xg a c;have k2:=Rat.intCast_le_intCast.2 hd
  grind
 have b1:=QN h1 h2 h3 h4 (lo _ _ (by omega)) (lo _ _ (by omega)) (lo _ _ (by omega)) (lo _ _ (by omega));have b2:=YM h1 h2 h3 h4 (hi _ _ (by omega)) (hi _ _ (by omega)) (hi _ _ (by omega)) (hi _ _ (by omega));constructor<;>grind
theorem c65:((65536:Int):Rat)=65536:=by decide +kernel
theorem c1:((1:Int):Rat)=1:=by decide +kernel
theorem Q7{x p:Int × Int}{q:Rat}(e:kX x=some p)(hx:con x q)(h0:0≤q):
 (p.1:Rat)*(p.1:Rat)≤q*(65536*65536)∧q*(65536*65536)≤(p.2:Rat)*(p.2:Rat)∧0≤p.1∧p.1≤p.2:=by
 unfold kX at e;split at e
 ·cases e
 ·rename_i g;have:=tu e;subst this;unfold con at hx;obtain ⟨h1,h2⟩:=hx
  have hle:max x.1 0≤x.2:=by
   have:((x.1:Int):Rat)≤(x.2:Rat):=Rat.le_trans h1 h2;have:=Rat.intCast_le_intCast.1 this;omega
  have r1:=Em (n:=max x.1 0) (by omega);have r2:=OM (n:=x.2) (by omega);have r3:=KC (l:=max x.1 0) (h:=x.2) (by omega) hle
  have hm:((max x.1 0:Int):Rat)≤q*65536:=by
   rcases Int.le_total x.1 0 with h|h
   ·rw [show max x.1 0=0 by omega];have:((0:Int):Rat)=0:=rfl;rw [this];grind
   ·rw [show max x.1 0=x.1 by omega];exact h1
  have k1:=Rat.intCast_le_intCast.2 r1.2.1;have k2:=Rat.intCast_le_intCast.2 r2.2.2;rw [Rat.intCast_mul,Rat.intCast_mul,c65] at k1 k2;refine ⟨by simp only;grind,by simp only;grind,r1.1,by simp only;omega⟩
def sub(x y:Int × Int):Prop:=x.1≤y.1∧y.1≤y.2∧y.2≤x.2
theorem Jj{x:Int × Int}{n:Int}(h1:x.1≤n)(h2:n≤x.2):con x ((n:Rat)*(1 / 65536)):=by
 have k1:=Rat.intCast_le_intCast.2 h1;have k2:=Rat.intCast_le_intCast.2 h2;unfold con;constructor<;>grind
theorem jX{a:Rat}{x:Int × Int}(e:dF a=some x):con x a:=by
 have:=tu e;subst this;unfold con ZM;rw [c65];simp only;refine ⟨Rat.floor_le _, ?_⟩;have:=Rat.floor_le (-(a*65536));rw [Rat.intCast_neg]
 grind
theorem JY{x:Int × Int}{q:Rat}(h:con x q):con (-x.2,-x.1) (-q):=by
 unfold con at *;simp only [Rat.intCast_neg];constructor<;>grind
theorem UA{p:Int × Int}{q:Rat}{n:Int}(h:G9 p.1 p.2=(n,true))(hq:con p q):aU q=n:=by
 obtain ⟨h1,h2⟩:=hq;unfold G9 at h;have z:((0:Int):Rat)=0:=rfl;split at h
 ·rename_i g;injection h with h3 h4
  subst h3;have:=Rat.intCast_lt_intCast.2 g;rw [z] at this;exact ng.2 (by grind)
 ·split at h
  ·rename_i g;injection h with h3 h4
   subst h3;have:=Rat.intCast_lt_intCast.2 g;rw [z] at this;have hq:q<0:=by grind
   unfold aU;rw [if_pos hq]
  ·injection h with h3 h4
   subst h3;have g:=of_decide_eq_true h4;rw [g.1,z] at h1;rw [g.2,z] at h2;exact gq.2 (by grind)
theorem eG(q:Rat):(q<0∧aU q = -1)∨(q=0∧aU q=0)∨(0<q∧aU q=1):=by
 unfold aU
 by_cases h1:q<0
 ·rw [if_pos h1];exact .inl ⟨h1,rfl⟩
 ·rw [if_neg h1]
  by_cases h2:q=0
  ·rw [if_pos h2];exact .inr (.inl ⟨h2,rfl⟩)
  ·rw [if_neg h2];exact .inr (.inr ⟨by grind,rfl⟩)
theorem ER{x y:Rat}(h0:0≤x)(h:x<y):x*x<y*y:=by
 have a1:=Rat.mul_le_mul_of_nonneg_left (Rat.le_of_lt h) h0;have a2:=Rat.mul_lt_mul_of_pos_right h (show 0<y by grind)
 grind
theorem wG(x:Rat):0≤x*x:=by
 rcases Rat.le_total (a:=0) (b:=x) with h|h
 ·exact Rat.mul_nonneg h h
 ·have:=Rat.mul_nonneg (show 0≤-x by grind) (show 0≤-x by grind);grind
theorem Hw{a b:Rat}(h:b<a):gG a b=1:=by unfold gG;rw [if_neg (by grind),if_pos h]
theorem IW{a b:Rat}(h:a<b):gG a b = -1:=by unfold gG;rw [if_pos h]
theorem NZ{a b:Rat}(h:a=b):gG a b=0:=EZ.2 h
theorem KT{A B C s1 s2:Rat}{n:Int}(p1:0≤s1)(p2:s1≤s2)(q1:s1*s1≤C)(q2:C≤s2*s2)(h1:aU (A+B*s1)=n)(h2:aU (A+B*s2)=n):uh A B C=n:=by
 have hC:0≤C:=Rat.le_trans (wG s1) q1;have bb:=wG B;have m1:B*B*(s1*s1)≤B*B*C:=Rat.mul_le_mul_of_nonneg_left q1 bb;have m2:B*B*C≤B*B*(s2*s2):=Rat.mul_le_mul_of_nonneg_left q2 bb;have p3:0≤s2:=Rat.le_trans p1 p2;unfold uh;rcases eG C with ⟨c1,c2⟩|⟨c1,c2⟩|⟨c1,c2⟩
 ·grind
 ·rw [c2,Int.mul_zero,if_pos (.inr rfl)]
  have:s1=0:=by
   rcases eG s1 with ⟨k,_⟩|⟨k,_⟩|⟨k,_⟩
   ·grind
   ·exact k
   ·have:=Rat.mul_pos k k;grind
  subst this;rw [← h1];congr 1;grind
 ·have p4:0<s2:=by
   rcases eG s2 with ⟨k,_⟩|⟨k,_⟩|⟨k,_⟩
   ·grind
   ·subst k;grind
   ·exact k
  rw [c2,Int.mul_one];rcases eG B with ⟨b1,b2⟩|⟨b1,b2⟩|⟨b1,b2⟩<;>rcases eG A with ⟨a1,a2⟩|⟨a1,a2⟩|⟨a1,a2⟩<;>rw [a2,b2]
  ·have k:=Rat.mul_nonneg (show 0≤-B by grind) p1;have:A+B*s1<0:=by grind
   rw [← h1];unfold aU;rw [if_pos this];rfl
  ·have k:=Rat.mul_pos (show 0 < -B by grind) p4;have:A+B*s2<0:=by grind
   rw [← h2];unfold aU;rw [if_pos this];rfl
  ·have k1:=Rat.mul_nonneg (show 0≤-B by grind) p1;have k2:=Rat.mul_nonneg (show 0≤-B by grind) p3;rcases eG (A+B*s1) with ⟨u1,u2⟩|⟨u1,u2⟩|⟨u1,u2⟩
   ·rw [h1] at u2;subst u2;have:=ER (x:=A) (y:=-B*s1) (by grind) (by grind);rw [IW (by grind)];rfl
   ·rw [h1] at u2;subst u2;have v:=gq.1 h2
    have e:A*A=B*B*(s1*s1):=by have:A = -B*s1:=by grind
                               subst this;grind
    have e2:A*A=B*B*(s2*s2):=by have:A = -B*s2:=by grind
                                subst this;grind
    rw [NZ (by grind)];rfl
   ·rw [h1] at u2;subst u2;have v:=ng.1 h2;have:=ER (x:=-B*s2) (y:=A) (by grind) (by grind);rw [Hw (by grind)];rfl
  ·subst b1;rw [← h1];have:A+0*s1=A:=by grind
   rw [this,a2];rfl
  ·subst b1;rw [← h1];have:A+0*s1=A:=by grind
   rw [this,a2];rfl
  ·subst b1;rw [← h1];have:A+0*s1=A:=by grind
   rw [this,a2];rfl
  ·have k1:=Rat.mul_nonneg (show 0≤B by grind) p1;have k2:=Rat.mul_nonneg (show 0≤B by grind) p3;rcases eG (A+B*s1) with ⟨u1,u2⟩|⟨u1,u2⟩|⟨u1,u2⟩
   ·rw [h1] at u2;subst u2
    have v:A+B*s2<0:=by
     rcases eG (A+B*s2) with ⟨t1,t2⟩|⟨t1,t2⟩|⟨t1,t2⟩
     ·exact t1
     ·rw [h2] at t2;cases t2
     ·rw [h2] at t2;cases t2
    have:=ER (x:=B*s2) (y:=-A) (by grind) (by grind);rw [Hw (by grind)];rfl
   ·rw [h1] at u2;subst u2;have v:=gq.1 h2
    have e:A*A=B*B*(s1*s1):=by have:A = -B*s1:=by grind
                               subst this;grind
    have e2:A*A=B*B*(s2*s2):=by have:A = -B*s2:=by grind
                                subst this;grind
    rw [NZ (by grind)];rfl
   ·rw [h1] at u2;subst u2;have:=ER (x:=-A) (y:=B*s1) (by grind) (by grind);rw [IW (by grind)];rfl
  ·have k:=Rat.mul_pos (show 0<B by grind) p4;rw [← h2,ng.2 (by grind)];rfl
  ·have k:=Rat.mul_nonneg (show 0≤B by grind) p1;rw [← h1,ng.2 (by grind)];rfl
theorem Rw{a b c:Rat}{p:Int × Int}(e:lF a b c=some p):
 (b=0∧con p a)∨(0≤c∧∃s1 s2:Rat,0≤s1∧s1≤s2∧s1*s1≤c∧c≤s2*s2∧(∃w z,dF c=some z∧kX z=some w∧s1=(w.1:Rat)*(1 / 65536)∧s2=(w.2:Rat)*(1 / 65536))∧con p (a+b*s1)∧con p (a+b*s2)):=by
 unfold lF at e;cases ha:dF a with
 |none=>rw [ha] at e;cases e
 |some x =>
  rw [ha] at e;simp only at e
  by_cases hb:b=0
  ·rw [if_pos hb] at e;injection e with e
   subst e;exact .inl ⟨hb,jX ha⟩
  ·rw [if_neg hb] at e;right;cases hy:dF b with
   |none=>rw [hy] at e;cases e
   |some y =>
    cases hz:dF c with
    |none=>rw [hy,hz] at e;cases e
    |some z =>
     rw [hy,hz] at e;simp only at e;split at e
     ·cases e
     ·rename_i hc;have h0:0≤c:=by grind
      cases hw:kX z with
      |none=>rw [hw] at e;cases e
      |some w =>
       rw [hw] at e;simp only at e;cases hp:pX y w with
       |none=>rw [hp] at e;cases e
       |some m =>
        rw [hp] at e;simp only at e;obtain ⟨k1,k2,k3,k4⟩:=Q7 hw (jX hz) h0;have j1:=Rat.intCast_le_intCast.2 k3;have j2:=Rat.intCast_le_intCast.2 k4;have z0:((0:Int):Rat)=0:=rfl;rw [z0] at j1;refine ⟨h0,(w.1:Rat)*(1 / 65536),(w.2:Rat)*(1 / 65536),by grind,by grind,by grind,by grind,⟨w,z,rfl,hw,rfl,rfl⟩, ?_, ?_⟩
        ·exact oC e (jX ha) (xO hp (jX hy) (Jj (by omega) (by omega)))
        ·exact oC e (jX ha) (xO hp (jX hy) (Jj (by omega) (by omega)))
theorem N9{a c:Rat}:uh a 0 c=aU a:=by
 unfold uh;have:aU 0=0:=gq.2 rfl;rw [this,Int.zero_mul,if_pos (.inr rfl)]
class RzB (q:Rat) (n:outParam Nat):Prop where
 h:rz q≤n
theorem uF{q:Rat}{n N:Nat}[k:RzB q n](h:n≤N):rz q≤N:=Nat.le_trans k.h h
instance{a b:Rat}{m n:Nat}[h:RzB a m][k:RzB b n]:RzB (a+b) (2*(m+n)+1):=⟨by have:=o8 a b;have:=h.h;have:=k.h;omega⟩
instance{a b:Rat}{m n:Nat}[h:RzB a m][k:RzB b n]:RzB (a-b) (2*(m+n)+1):=⟨by have:=rY a b;have:=h.h;have:=k.h;omega⟩
instance{a b:Rat}{m n:Nat}[h:RzB a m][k:RzB b n]:RzB (a*b) (m+n):=⟨by have:=lX a b;have:=h.h;have:=k.h;omega⟩
theorem TT{A B C t m:Rat}{n:Int}(h0:0≤t)(h1:t*t≤C)(h2:0≤m)(h3:C≤m*m)(k1:aU (A+B*t)=n)(k2:aU (A+B*m)=n):uh A B C=n:=by
 have htm:t≤m:=by
  rcases Rat.le_total (a:=t) (b:=m) with h|h
  ·exact h
  ·rcases Rat.le_total (a:=m) (b:=t) with h'|h'
   ·by_cases e:m=t
    ·grind
    ·have:=ER h2 (show m<t by grind)
     grind
   ·exact h'
 exact KT h0 htm h1 h3 k1 k2
theorem SQ{x y l:Rat}{n:Int}(h0:0≤l)(h1:l≤1)(hx:aU x=n)(hy:aU y=n):aU (x+l*(y-x))=n:=by
 have e:x+l*(y-x)=(1-l)*x+l*y:=by grind
 rw [e];rcases eG x with ⟨a1,a2⟩|⟨a1,a2⟩|⟨a1,a2⟩<;>rcases eG y with ⟨b1,b2⟩|⟨b1,b2⟩|⟨b1,b2⟩<;>rw [a2] at hx<;>rw [b2] at hy<;>subst hx<;>(try (exfalso;omega))
 ·have p1:=Rat.mul_nonneg (show 0≤1-l by grind) (show 0≤-x by grind);have p2:=Rat.mul_nonneg h0 (show 0≤-y by grind)
  have:(1-l)*x+l*y<0:=by
   by_cases hl:l=0
   ·subst hl;grind
   ·have:=Rat.mul_pos (show 0<l by grind) (show 0 < -y by grind)
    grind
  unfold aU;rw [if_pos this]
 ·subst a1 b1;rw [Rat.mul_zero,Rat.mul_zero];exact gq.2 (by grind)
 ·have p1:=Rat.mul_nonneg (show 0≤1-l by grind) (show 0≤x by grind);have p2:=Rat.mul_nonneg h0 (show 0≤y by grind)
  have:0<(1-l)*x+l*y:=by
   by_cases hl:l=0
   ·subst hl;grind
   ·have:=Rat.mul_pos (show 0<l by grind) b1
    grind
  exact ng.2 this
theorem nN{x y k:Rat}(hk:0<k)(h:x*k≤y*k):x≤y:=by
 rcases Rat.le_total (a:=x) (b:=y) with h'|h'
 ·exact h'
 ·by_cases e:x=y
  ·grind
  ·have:=Rat.mul_pos (show 0<x-y by grind) hk;grind
theorem TB{x y k:Rat}(hk:0<k)(h:x*k=y*k):x=y:=by
 have h1:=nN hk (show x*k≤y*k by grind);have h2:=nN hk (show y*k≤x*k by grind)
 grind
theorem yI{x y z s t u:Rat}{n:Int}(h1:s≤u)(h2:u≤t)(hz:z*(t-s)=x*(t-u)+y*(u-s))(hx:aU x=n)(hy:aU y=n)(h3:s<t):aU z=n:=by
 obtain ⟨l,hl⟩:∃l,l*(t-s)=u-s:=⟨(u-s) / (t-s),(by have hne:t-s≠0:=(by grind);grind)⟩
 have hk:0<t-s:=by grind
 have e:z=x+l*(y-x):=TB hk (by grind);rw [e];refine SQ (nN hk (by grind)) (nN hk (by grind)) hx hy
theorem Px{P X W C s t:Rat}{n:Int}(h0:0≤s)(h1:s≤t)(h2:s*s≤C)(h3:C≤t*t)(hW:0≤W)
 (k1:aU (P+2*X*s+W*(s*s))=n) (k2:aU (P+X*(s+t)+W*(s*t))=n) (k3:aU (P+2*X*t+W*(t*t))=n):uh (P+W*C) (2*X) C=n:=by
 by_cases hst:s=t
 ·subst hst;have hC:C=s*s:=by grind
  subst hC;refine KT h0 (Rat.le_refl) (Rat.le_refl) (Rat.le_refl) ?_ ?_<;>rw [← k1]<;>congr 1<;>grind
 ·have hlt:s<t:=by grind
  have ht:0<t:=by grind
  have hsum:0<s+t:=by grind
  have hs0:s+t≠0:=by grind
  obtain ⟨t0,e0⟩:∃t0,t0*(s+t)=C+s*t:=⟨(C+s*t) / (s+t),by grind⟩
  have q1:=Rat.mul_nonneg (show 0≤t-s by grind) h0
  have l1:s≤t0:=by
   rcases Rat.le_total (a:=s) (b:=t0) with h|h
   ·exact h
   ·by_cases e:s=t0
    ·grind
    ·have:=Rat.mul_pos (show 0<s-t0 by grind) hsum;grind
  have l2:t0≤t:=by
   rcases Rat.le_total (a:=t0) (b:=t) with h|h
   ·exact h
   ·by_cases e:t=t0
    ·grind
    ·have:=Rat.mul_pos (show 0<t0-t by grind) hsum;grind
  have l3:t0*t0≤C:=by
   have:=Rat.mul_nonneg (show 0≤t0-s by grind) (show 0≤t-t0 by grind)
   grind
  have m0:aU (P+W*C+2*X*t0)=n:=yI l1 l2 (by grind) k1 k3 hlt
  have up:∃m,0≤m∧C≤m*m∧aU (P+W*C+2*X*m)=n:=by
   rcases Rat.le_total (a:=s*t) (b:=C) with h|h
   ·
    have ht0:t≠0:=by grind
    obtain ⟨u,eu⟩:∃u,u*t=C:=⟨C / t,by grind⟩
    have u1:s≤u:=by
     rcases Rat.le_total (a:=s) (b:=u) with h|h
     ·exact h
     ·by_cases e:s=u
      ·grind
      ·have:=Rat.mul_pos (show 0<s-u by grind) ht;grind
    have u2:u≤t:=by
     rcases Rat.le_total (a:=u) (b:=t) with h|h
     ·exact h
     ·by_cases e:t=u
      ·grind
      ·have:=Rat.mul_pos (show 0<u-t by grind) ht;grind
    refine ⟨(u+t)*(1 / 2),by grind, ?_, ?_⟩
    ·have:=wG (t-u);grind
    ·have:=yI (z:=P+X*(u+t)+W*(u*t)) u1 u2 (by grind) k2 k3 hlt;rw [← this];congr 1;grind
   ·
    by_cases hs:s=0
    ·subst hs;have hC:C=0:=by grind
     subst hC;refine ⟨0,Rat.le_refl,by grind, ?_⟩;rw [← k1];congr 1;grind
    ·have hs1:0<s:=by grind
     obtain ⟨u,eu⟩:∃u,s*u=C:=⟨C / s,by grind⟩
     have u1:s≤u:=by
      rcases Rat.le_total (a:=s) (b:=u) with h|h
      ·exact h
      ·by_cases e:s=u
       ·grind
       ·have:=Rat.mul_pos (show 0<s-u by grind) hs1;grind
     have u2:u≤t:=by
      rcases Rat.le_total (a:=u) (b:=t) with h|h
      ·exact h
      ·by_cases e:t=u
       ·grind
       ·have:=Rat.mul_pos (show 0<u-t by grind) hs1;grind
     refine ⟨(s+u)*(1 / 2),by grind, ?_, ?_⟩
     ·have:=wG (u-s);grind
     ·have:=yI (z:=P+X*(s+u)+W*(s*u)) u1 u2 (by grind) k1 k2 hlt;rw [← this];congr 1;grind
  obtain ⟨m,m1,m2,m3⟩:=up;exact TT (Rat.le_trans h0 l1) l3 m1 m2 m0 m3
def fE(a b c f:Rat):Option (Int × Int) :=
 match lF a b c,dF f with
 |some x,some y=>rP x (-y.2,-y.1)
 |_,_=>none
def jq(ax bx ay bb c X Y Q:Rat):Int × Bool :=
 match fE ax bx c X,fE ay bb c Y,dF Q with
 |some x,some y,some q=>(match pX x x,pX y y with
  |some s,some t=>(match rP s t with
   |some u=>(match rP u (-q.2,-q.1) with
    |some r=>G9 r.1 r.2
    |none=>(0,false))
   |none=>(0,false))
  |_,_=>(0,false))
 |_,_,_=>(0,false)
def Df(c s1 s2:Rat):Prop:=0≤c∧0≤s1∧s1≤s2∧s1*s1≤c∧c≤s2*s2∧∃w z,dF c=some z∧kX z=some w∧s1=(w.1:Rat)*(1 / 65536)∧s2=(w.2:Rat)*(1 / 65536)
theorem Lj{c s1 s2 t1 t2:Rat}(h:Df c s1 s2)(k:Df c t1 t2):s1=t1∧s2=t2:=by
 obtain ⟨_,_,_,_,_,w,z,e1,e2,e3,e4⟩:=h;obtain ⟨_,_,_,_,_,w',z',e1',e2',e3',e4'⟩:=k;rw [e1] at e1';injection e1' with e1'
 subst e1';rw [e2] at e2';injection e2' with e2'
 subst e2';exact ⟨e3.trans e3'.symm,e4.trans e4'.symm⟩
theorem FV{a b c f:Rat}{p:Int × Int}(e:fE a b c f=some p):(b=0∧con p (a-f))∨∃s1 s2,Df c s1 s2∧con p (a-f+b*s1)∧con p (a-f+b*s2):=by
 unfold fE at e;cases h1:lF a b c with
 |none=>rw [h1] at e;cases e
 |some x =>
  cases h2:dF f with
  |none=>rw [h1,h2] at e;cases e
  |some y =>
   rw [h1,h2] at e;simp only at e;have k0:=JY (jX h2);rcases Rw h1 with ⟨hb,k⟩|⟨h0,s1,s2,p1,p2,q1,q2,⟨w,z,e1,e2,e3,e4⟩,k1,k2⟩
   ·refine .inl ⟨hb, ?_⟩;have:=oC e k k0
    rwa [show a + -f=a-f by grind] at this
   ·refine .inr ⟨s1,s2,⟨h0,p1,p2,q1,q2,w,z,e1,e2,e3,e4⟩, ?_, ?_⟩
    ·have:=oC e k1 k0
     rwa [show a+b*s1 + -f=a-f+b*s1 by grind] at this
    ·have:=oC e k2 k0
     rwa [show a+b*s2 + -f=a-f+b*s2 by grind] at this
theorem MQ{ax bx ay bb c X Y Q:Rat}{n:Int}(h:jq ax bx ay bb c X Y Q=(n,true)):
 uh ((ax-X)*(ax-X)+(ay-Y)*(ay-Y)+c*(bx*bx+bb*bb)-Q) ((ax-X)*bx+(ay-Y)*bb+((ax-X)*bx+(ay-Y)*bb)) c=n:=by
 unfold jq at h;cases h1:fE ax bx c X with
 |none=>rw [h1] at h;simp at h
 |some x =>
  cases h2:fE ay bb c Y with
  |none=>rw [h1,h2] at h;simp at h
  |some y =>
   cases h3:dF Q with
   |none=>rw [h1,h2,h3] at h;simp at h
   |some q =>
    rw [h1,h2,h3] at h;simp only at h;cases h4:pX x x with
    |none=>rw [h4] at h;simp at h
    |some s =>
     cases h5:pX y y with
     |none=>rw [h4,h5] at h;simp at h
     |some t =>
      rw [h4,h5] at h;simp only at h;cases h6:rP s t with
      |none=>rw [h6] at h;simp at h
      |some u =>
       rw [h6] at h;simp only at h;cases h7:rP u (-q.2,-q.1) with
       |none=>rw [h7] at h;simp at h
       |some r =>
        rw [h7] at h;simp only at h
        have key:∀u1 u2 v1 v2:Rat,con x u1→con x u2→con y v1→con y v2→aU (u1*u2+v1*v2-Q)=n:=λu1 u2 v1 v2 a b c d=>by
         have:=oC h7 (oC h6 (xO h4 a b) (xO h5 c d)) (JY (jX h3));rw [← UA h this];congr 1;grind
        have fin:∀s1 s2:Rat,Df c s1 s2→con x (ax-X+bx*s1)→con x (ax-X+bx*s2)→con y (ay-Y+bb*s1)→con y (ay-Y+bb*s2) →
         uh ((ax-X)*(ax-X)+(ay-Y)*(ay-Y)+c*(bx*bx+bb*bb)-Q) ((ax-X)*bx+(ay-Y)*bb+((ax-X)*bx+(ay-Y)*bb)) c=n:=λs1 s2 ⟨_,p1,p2,q1,q2,_⟩ a1 a2 b1 b2=>by
         have w1:=wG bx;have w2:=wG bb
         have:=Px (P:=(ax-X)*(ax-X)+(ay-Y)*(ay-Y)-Q) (X:=(ax-X)*bx+(ay-Y)*bb) (W:=bx*bx+bb*bb) (C:=c) (n:=n) p1 p2 q1 q2 (by grind)
          (by rw [← key _ _ _ _ a1 a1 b1 b1];congr 1;grind) (by rw [← key _ _ _ _ a1 a2 b1 b2];congr 1;grind) (by rw [← key _ _ _ _ a2 a2 b2 b2];congr 1;grind)
         rw [← this];congr 1<;>grind
        rcases FV h1 with ⟨b1,k1⟩|⟨s1,s2,hs,k1,k2⟩<;>rcases FV h2 with ⟨b2,j1⟩|⟨t1,t2,ht,j1,j2⟩
        ·subst b1 b2;rw [show (ax-X)*0+(ay-Y)*0+((ax-X)*0+(ay-Y)*0)=(0:Rat) by grind,N9,← key _ _ _ _ k1 k1 j1 j1];congr 1;grind
        ·subst b1;have e:∀s:Rat,ax-X+0*s=ax-X:=λs=>by grind
         exact fin t1 t2 ht (by rw [e];exact k1) (by rw [e];exact k1) j1 j2
        ·subst b2;have e:∀s:Rat,ay-Y+0*s=ay-Y:=λs=>by grind
         exact fin s1 s2 hs k1 k2 (by rw [e];exact j1) (by rw [e];exact j1)
        ·obtain ⟨rfl,rfl⟩:=Lj hs ht;exact fin _ _ hs k1 k2 j1 j2
def aao(n:Int):Bool:=decide (0≤n) && decide ((((oV n.natAbs:Nat):Int))*((oV n.natAbs:Nat):Int)=n)
def Rk(a:Rat):Bool:=aao a.num && aao a.den
def sqR(a:Rat):Rat:=((((oV a.num.natAbs:Nat):Int)):Rat) / ((((oV (a.den:Int).natAbs:Nat):Int)):Rat)
where
 num_den_div {a:Rat}:a=(a.num:Rat) / ((a.den:Int):Rat):=by
  have h1:=jI a;have h2:=jJ a;rw [h1];grind
end Go.Sw
namespace Go.Sw
open Go
@[reducible] def Q2(a b:Rat):AV:=.agg [zs a.num,zl a.num,zs a.den,zl a.den,zs b.num,zl b.num,zs b.den,zl b.den]
@[reducible] def ZQ3:AV:=.agg [.v (.bool false),.sl 1 [],.v (.bool false),.sl 1 [],.v (.bool false),.sl 1 [],.v (.bool false),.sl 1 [],.v (.bool false),.sl 1 [],.v (.bool false),.sl 1 []]
def aad(b c:Rat):Rat:=if b=0∨c=0 then 0 else b
def aai(b c:Rat):Rat:=if b=0∨c=0 then 0 else c
def mkA(a b c:Rat):Rat:=if Rk c=true then a+b*sqR c else a
def mkB(b c:Rat):Rat:=if Rk c=true then 0 else aad b c
def mkC(b c:Rat):Rat:=if Rk c=true then 0 else aai b c
def acI(b c:Rat):Rat:=if b=0 then 0 else c
def ptC(b e c:Rat):Rat:=if b=0∧e=0 then 0 else c
theorem Uh{ax bx ay bb c X Y Q:Rat}(h:(jq ax bx ay bb c X Y Q).2=true):
 (jq ax bx ay bb c X Y Q).1=uh ((ax-X)*(ax-X)+(ay-Y)*(ay-Y)+c*(bx*bx+bb*bb)-Q) ((ax-X)*bx+(ay-Y)*bb+((ax-X)*bx+(ay-Y)*bb)) c :=
 (MQ (n:=(jq ax bx ay bb c X Y Q).1) (Prod.ext rfl h)).symm
section
variable {a b:Rat}
end
end Go.Sw
namespace Go.Sw
open Go
theorem adq:rz 0≤1:=by decide +kernel
end Go.Sw
namespace Go.Sw
open Go Go.RowKit
class DenC (P:Program) [Wld P] (f:FuncId) (xs:List AV) (pre:outParam Prop) (c:outParam Prop) (r s:outParam AV):Prop where
 den:pre→(c→Den P f xs r)∧(¬c→Den P f xs s)
theorem fO{P:Program}[Wld P]{f:FuncId}{xs:List AV}{pre c:Prop}{r s:AV}{k:AV→Prop}[h:DenC P f xs pre c r s](hp:Pr pre)(h1:c→k r)(h2:¬c→k s):CallP (Den P) f xs k:=by
 by_cases hc:c
 ·exact ⟨r,(h.den hp.p).1 hc,h1 hc⟩
 ·exact ⟨s,(h.den hp.p).2 hc,h2 hc⟩
theorem UU{P:Program}[Wld P]{f:FuncId}{xs:List AV}{pre c:Prop}{r s:AV}(h:pre→∀q,(c→q=r)→(¬c→q=s)→Den P f xs q)(hp:pre):(c→Den P f xs r)∧(¬c→Den P f xs s) :=
 ⟨λhc=>h hp r (λ_=>rfl) (λn=>absurd hc n),λhc=>h hp s (λn=>absurd n hc) (λ_=>rfl)⟩
end Go.Sw
namespace Go.Sw
open Go
class SzB (n:Int) (k:outParam Nat):Prop where
 h:sz n≤k
theorem xA{n:Int}{k K:Nat}[i:SzB n k](h:k≤K):sz n≤K:=Nat.le_trans i.h h
instance{q:Rat}{n:Nat}[i:RzB q n]:SzB q.num n:=⟨Nat.le_trans (kQ q) i.h⟩
instance{q:Rat}{n:Nat}[i:RzB q n]:SzB (q.den:Int) n:=⟨Nat.le_trans (mF q) i.h⟩
instance{a b:Int}{m n:Nat}[i:SzB a m][j:SzB b n]:SzB (a*b) (m+n):=⟨by have:=iR a b;have:=i.h;have:=j.h;omega⟩
section
variable {a b c:Rat}
end
section
variable {a b c:Rat} {q:AV}
theorem Y9(h:¬aU a=aU b):aA [AV.c (Cell.v (.int .i64 (iJ (aU a) (aU b))))]=AV.int .i64 (gG a b):=iE (by
 rcases eG a with ⟨a1,a2⟩|⟨a1,a2⟩|⟨a1,a2⟩<;>rcases eG b with ⟨b1,b2⟩|⟨b1,b2⟩|⟨b1,b2⟩<;>rw [a2,b2] at h ⊢<;>first
  |exact absurd rfl h
  |(rw [IW (by grind)];rfl)
  |(rw [Hw (by grind)];rfl))
theorem aas(hb:¬b=0)(e:¬b=0→q=AV.tup [R (a / b),AV.int .i64 0]):aA [R (((a.num*b.den:Int):Rat) / ((a.den*b.num:Int):Rat)),AV.c (Cell.v (.int .i64 0))]=q:=by
 rw [e hb,Jr a b hb];rfl
theorem Pz(h:(a.den:Int)*b.num=0):b=0:=by
 rcases Int.mul_eq_zero.1 h with h|h
 ·exact absurd h (aG a)
 ·exact (Le b).1 h
theorem Oe(h:¬b=0):(a.den:Int)*b.num≠0:=λe=>h (Pz e)
theorem Xt(n:Int):((0:Int):Rat)=(n:Rat) / ((0:Int):Rat):=by rw [← abE n];decide +kernel
end
theorem BO(a b c:Rat):-1≤uh a b c∧uh a b c≤1:=by
 unfold uh;have h1:=lu a;have h2:=lT (lu b) (lu c);have h3:=lT (lu a) (zh (a*a) (b*b*c))
 repeat' split
 all_goals first|exact h1|exact h2|exact h3
theorem acO(a b c:Rat):IntKind.i64.wrap (0-uh a b c) = -uh a b c:=by
 have:=BO a b c;rw [bQ (by omega) (by omega)];omega
theorem aaG{a b c:Rat}{n:Int}(h:uh a b c=n):aA [AV.c (Cell.v (.int .i64 (IntKind.i64.wrap (0-uh a b c))))]=AV.int .i64 (-n):=iE (by rw [acO,h])
theorem ZQ{a b c d e f g h:Rat}{n:Int}(k:(jq a b c d e f g h).2=true)(hn:(jq a b c d e f g h).1=n)(h1 : -1≤n)(h2:n≤1):aA [AV.c (Cell.v (.int .i64 (IntKind.i64.wrap (0-(jq a b c d e f g h).1))))]=AV.int .i64 (-n):=iE (by
 rw [hn,bQ (by omega) (by omega)];omega)
instance{a b:Rat}{m n:Nat}[h:RzB a m][k:RzB b n]:RzB (a / b) (m+n+1):=⟨by
 by_cases hb:b=0
 ·subst hb;have:a / 0=0:=by rw [Rat.div_def,Rat.inv_zero,Rat.mul_zero]
  rw [this];have:=adq;omega
 ·have:=XQ a b hb;have:=h.h;have:=k.h;omega⟩
theorem aaH(a:Rat):((0:Int):Rat)=a / 0:=by
 have:((0:Int):Rat)=0:=rfl;rw [this,Rat.div_def,Rat.inv_zero,Rat.mul_zero]
section
variable {a b c:Rat}
theorem adg(h:aU b*aU c=0):aA [AV.c (Cell.v (.int .i64 (aU a)))]=AV.int .i64 (uh a b c):=iE (by unfold uh;rw [if_pos (.inr h)])
theorem acs(h:aU a=aU b*aU c):aA [AV.c (Cell.v (.int .i64 (aU a)))]=AV.int .i64 (uh a b c):=iE (by unfold uh;rw [if_pos (.inl h)])
theorem ac2(h1:¬aU b*aU c=0)(h2:¬aU a=aU b*aU c)(h3:a=0):aA [AV.c (Cell.v (.int .i64 (aU b*aU c)))]=AV.int .i64 (uh a b c):=iE (by
 unfold uh;rw [if_neg (by rintro (h|h);exact h2 h;exact h1 h),if_pos (gq.2 h3)])
theorem adP(h1:¬aU b*aU c=0)(h2:¬aU a=aU b*aU c)(h3:¬a=0):aA [AV.c (Cell.v (.int .i64 (aU a*gG (a*a) (b*b*c))))]=AV.int .i64 (uh a b c):=iE (by
 rw [ady h2 h1 (λe=>h3 (gq.1 e))])
end
theorem EW(a b c f:Rat):CZ ((fE a b c f).getD (0,0)):=by
 unfold fE;have h1:=E5 a b c;have h2:=iL f;cases h3:lF a b c with
 |none=>unfold CZ;simp only [Option.getD_none];decide
 |some x =>
  cases h4:dF f with
  |none=>unfold CZ;simp only [Option.getD_none];decide
  |some y =>
   rw [h3] at h1;rw [h4] at h2;simp only [Option.getD_some] at h1 h2;exact BJ h1 (by unfold CZ at *;simp only;omega)
theorem TV{a b c f:Rat}(h:(!(lF a b c).isSome)=true∨(!(dF f).isSome)=true):(none:Option (Int × Int))=fE a b c f:=by
 unfold fE;rcases h with h|h
 ·cases h1:lF a b c with
  |none=>rfl
  |some x=>rw [h1] at h;cases h
 ·cases h1:lF a b c with
  |none=>rfl
  |some x=>cases h2:dF f with
   |none=>rfl
   |some y=>rw [h2] at h;cases h
theorem WT{a b c f:Rat}(h:(!(lF a b c).isSome)=false)(k:(!(dF f).isSome)=false):rP ((lF a b c).getD (0,0)) (-((dF f).getD (0,0)).2,-((dF f).getD (0,0)).1)=fE a b c f:=by
 unfold fE;cases h1:lF a b c with
 |none=>rw [h1] at h;cases h
 |some x=>cases h2:dF f with
  |none=>rw [h2] at k;cases k
  |some y=>rfl
section
variable {ax bx ay bb c X Y Q:Rat}
theorem adL{p:Int × Bool}(h:p=(0,false)):aA [AV.c (Cell.v (.int .i64 0)),AV.c (Cell.v (.bool false))]=AV.tup [.int .i64 p.1,.bool p.2]:=by rw [h];rfl
theorem adT(h:(!(fE ax bx c X).isSome)=true∨(!(fE ay bb c Y).isSome)=true∨(!(dF Q).isSome)=true):jq ax bx ay bb c X Y Q=(0,false):=by
 unfold jq;cases h1:fE ax bx c X with
 |none=>rfl
 |some x=>cases h2:fE ay bb c Y with
  |none=>rfl
  |some y=>cases h3:dF Q with
   |none=>rfl
   |some q=>rw [h1,h2,h3] at h;simp at h
theorem Z9{x y q:Int × Int}(h1:(!(fE ax bx c X).isSome)=false)(h2:(!(fE ay bb c Y).isSome)=false)(h3:(!(dF Q).isSome)=false)(e1:x=(fE ax bx c X).getD (0,0))(e2:y=(fE ay bb c Y).getD (0,0))(e3:q=(dF Q).getD (0,0)):
 jq ax bx ay bb c X Y Q=(match pX x x,pX y y with
 |some s,some t=>(match rP s t with
  |some u=>(match rP u (-q.2,-q.1) with
   |some r=>G9 r.1 r.2
   |none=>(0,false))
  |none=>(0,false))
 |_,_=>(0,false)):=by
 subst e1 e2 e3;unfold jq;cases k1:fE ax bx c X with
 |none=>rw [k1] at h1;cases h1
 |some x=>cases k2:fE ay bb c Y with
  |none=>rw [k2] at h2;cases h2
  |some y=>cases k3:dF Q with
   |none=>rw [k3] at h3;cases h3
   |some q=>rfl
end
end Go.Sw
namespace Go.Sw
open Go
def Cau(f:Nat→Rat):Prop:=∀d:Rat,0<d→∃N,∀m n,N≤m→N≤n→f m<f n+d
def PosS(f:Nat→Rat):Prop:=∃d:Rat,0<d∧∃N,∀n,N≤n→d<f n
def NulS(f:Nat→Rat):Prop:=∀d:Rat,0<d→∃N,∀n,N≤n→-d<f n∧f n<d
def Bnd(f:Nat→Rat):Prop:=∃B:Rat,0<B∧∃N,∀n,N≤n→-B<f n∧f n<B
def WA(f:Nat→Rat)(n:Int):Prop:=(n=1∧PosS f)∨(n = -1∧PosS λk=>-f k)∨(n=0∧NulS f)
theorem KG{x y B e:Rat}(h1 : -B<x)(h2:x<B)(h3 : -e<y)(h4:y<e):x*y<B*e:=by
 have p1:=Rat.mul_pos (show 0<B-x by grind) (show 0<e+y by grind);have p2:=Rat.mul_pos (show 0<B+x by grind) (show 0<e-y by grind)
 grind
theorem QM{x y B e:Rat}(h1 : -B<x)(h2:x<B)(h3 : -e<y)(h4:y<e):-(B*e)<x*y:=by
 have:=KG (x:=-x) (y:=y) (B:=B) (e:=e) (by grind) (by grind) h3 h4
 grind
theorem QC{a b:Rat}(h1:0<a)(h2:0<b):0<a / b:=by
 have hb:b≠0:=by grind
 rcases Rat.le_total (a:=a / b) (b:=0) with h|h
 ·have p:=Rat.mul_nonneg (show 0≤-(a / b) by grind) (show 0≤b by grind);have e:a / b*b=a:=by grind
  grind
 ·by_cases e:a / b=0
  ·have e':a / b*b=a:=by grind
   rw [e] at e';grind
  ·grind
theorem NulS.neg{f:Nat→Rat}(h:NulS f):NulS λn=>-f n:=λd hd=>by
 obtain ⟨N,hN⟩:=h d hd;exact ⟨N,λn hn=>by have:=hN n hn;constructor<;>grind⟩
theorem NulS.mul{f g:Nat→Rat}(h:NulS f)(k:Bnd g):NulS λn=>f n*g n:=λd hd=>by
 obtain ⟨B,hB,M,hM⟩:=k;obtain ⟨N,hN⟩:=h (d / B) (QC hd hB);refine ⟨N+M,λn hn=>?_⟩;have a:=hN n (by omega);have b:=hM n (by omega);have e:d / B*B=d:=by have:B≠0:=(by grind);grind
 have p1:=KG a.1 a.2 b.1 b.2;have p2:=QM a.1 a.2 b.1 b.2;rw [e] at p1 p2;exact ⟨p2,p1⟩
theorem NulS.zero:NulS λ_=>0:=λd hd=>⟨0,λn _=>by constructor<;>grind⟩
theorem NulS.cg{f g:Nat→Rat}(h:NulS f)(e:∀n,f n=g n):NulS g:=by rwa [funext e] at h
theorem Cau.const(q:Rat):Cau λ_=>q:=λd hd=>⟨0,λm n _ _=>by grind⟩
theorem Cau.neg{f:Nat→Rat}(h:Cau f):Cau λn=>-f n:=λd hd=>by
 obtain ⟨N,hN⟩:=h d hd;exact ⟨N,λm n hm hn=>by have:=hN n m hn hm;grind⟩
theorem PosS.mul{f g:Nat→Rat}(h:PosS f)(k:PosS g):PosS λn=>f n*g n:=by
 obtain ⟨d,hd,N,hN⟩:=h;obtain ⟨e,he,M,hM⟩:=k;refine ⟨d*e,Rat.mul_pos hd he,N+M,λn hn=>?_⟩;have a:=hN n (by omega);have b:=hM n (by omega);have p1:=Rat.mul_pos (show 0<f n-d by grind) (show 0<g n by grind);have p2:=Rat.mul_pos hd (show 0<g n-e by grind)
 grind
theorem PosS.cg{f g:Nat→Rat}(h:PosS f)(e:∀n,f n=g n):PosS g:=by rwa [funext e] at h
theorem PosS.not{f:Nat→Rat}(h:PosS f)(k:PosS λn=>-f n):False:=by
 obtain ⟨d,hd,N,hN⟩:=h;obtain ⟨e,he,M,hM⟩:=k;have:=hN (N+M) (by omega);have:=hM (N+M) (by omega)
 grind
namespace WA
theorem ex{f:Nat→Rat}(h:Cau f):∃n,WA f n:=by
 by_cases h1:PosS f
 ·exact ⟨1,.inl ⟨rfl,h1⟩⟩
 ·by_cases h2:PosS λn=>-f n
  ·exact ⟨-1,.inr (.inl ⟨rfl,h2⟩)⟩
  ·refine ⟨0,.inr (.inr ⟨rfl,λd hd=>?_⟩)⟩;obtain ⟨N,hN⟩:=h (d*(1 / 2)) (by grind)
   have a1:∃m,N≤m∧f m≤d*(1 / 2):=Classical.byContradiction λhc=>h1 ⟨d*(1 / 2),by grind,N,λn hn=>by
    rcases Rat.le_total (a:=f n) (b:=d*(1 / 2)) with h|h
    ·exact absurd ⟨n,hn,h⟩ hc
    ·by_cases e:f n=d*(1 / 2)
     ·exact absurd ⟨n,hn,by grind⟩ hc
     ·grind⟩
   have a2:∃m,N≤m∧-f m≤d*(1 / 2):=Classical.byContradiction λhc=>h2 ⟨d*(1 / 2),by grind,N,λn hn=>by
    rcases Rat.le_total (a:=-f n) (b:=d*(1 / 2)) with h|h
    ·exact absurd ⟨n,hn,h⟩ hc
    ·by_cases e : -f n=d*(1 / 2)
     ·exact absurd ⟨n,hn,by grind⟩ hc
     ·grind⟩
   obtain ⟨m1,g1,k1⟩:=a1;obtain ⟨m2,g2,k2⟩:=a2;refine ⟨N,λn hn=>?_⟩;have b1:=hN n m1 hn g1;have b2:=hN m2 n g2 hn;constructor<;>grind
theorem cg{f g:Nat→Rat}{n:Int}(h:WA f n)(e:∀k,f k=g k):WA g n:=by rwa [funext e] at h
theorem neg{f:Nat→Rat}{n:Int}(h:WA f n):WA (λk=>-f k) (-n):=by
 rcases h with ⟨rfl,h⟩|⟨rfl,h⟩|⟨rfl,h⟩
 ·exact .inr (.inl ⟨rfl,h.cg λn=>by grind⟩)
 ·exact .inl ⟨rfl,h⟩
 ·exact .inr (.inr ⟨rfl,h.neg⟩)
theorem const(q:Rat):WA (λ_=>q) (aU q):=by
 rcases eG q with ⟨a,e⟩|⟨a,e⟩|⟨a,e⟩<;>rw [e]
 ·exact .inr (.inl ⟨rfl,⟨-q*(1 / 2),by grind,0,λn _=>by grind⟩⟩)
 ·subst a;exact .inr (.inr ⟨rfl,NulS.zero⟩)
 ·exact .inl ⟨rfl,⟨q*(1 / 2),by grind,0,λn _=>by grind⟩⟩
end WA
def acY(n:Nat):Rat:=1 / ((n:Rat)+1)
def rtS(c:Rat)(n:Nat):Rat:=((oV (c*(((n:Rat)+1)*((n:Rat)+1))).floor.toNat:Nat):Rat)*acY n
def v2(A B M:Rat)(n:Nat):Rat:=A+B*rtS M n
def v4(A B C D M N:Rat)(n:Nat):Rat:=v2 A B M n+v2 C D M n*rtS N n
end Go.Sw
