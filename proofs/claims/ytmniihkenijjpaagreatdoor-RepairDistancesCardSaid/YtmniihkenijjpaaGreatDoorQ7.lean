/-
  Rules of the abstract run, plain laws, and what functions answer, for the law RepairDistances.
  Conditions: none.
-/
import Derived.Test.YtmniihkenijjpaaGreatDoorQ6
set_option linter.all false
namespace Go.Sw
open Go
theorem Z0:Z 0=.agg [.v (.bool false),.sl 1 []]:=by
 have:lim 0=[]:=eH;simp [Z,zs,zl,bJ,this]
theorem oU(n:Nat):(lim n).length=0↔n=0:=by rw [List.length_eq_zero_iff,Gu]
theorem ug(n:Nat):(((lim n).length:Nat):Int)=0↔n=0:=by rw [← oU];omega
theorem tX(n:Nat):(((lim n).length:Nat):Int) > 0↔¬n=0:=by rw [← oU];omega
theorem yP(a b:Int):a.natAbs=b.natAbs*(a.natAbs / b.natAbs)+a.natAbs % b.natAbs:=(Nat.div_add_mod _ _).symm
theorem Jk(a:Int):aB [AV.agg [Cell.v (Value.bool false),Cell.sl 1 []],AV.agg [Cell.v (Value.bool false),Cell.sl 1 []],.int .i64 6]=.tup [Z (a.fdiv 0),Z (if (0:Int)=0 then 0 else a.fmod 0),.int .i64 (if (0:Int)=0 then 6 else 0)]:=by
 have h:a.fdiv 0=0:=by simp
 rw [h,if_pos rfl,if_pos rfl,Z0];rfl
theorem vY{a b:Int}(hb:¬b.natAbs=0)(h:a.natAbs % b.natAbs=0∨¬(decide (a<0) != decide (b<0))=true):
 aB [Z (dW (decide (a<0) != decide (b<0)) (a.natAbs / b.natAbs)),Z (dW (decide (a<0)) (a.natAbs % b.natAbs)),.int .i64 0]=.tup [Z (a.fdiv b),Z (if b=0 then 0 else a.fmod b),.int .i64 (if b=0 then 6 else 0)]:=by
 have hb':b≠0:=by omega
 obtain ⟨h1,h2⟩:=YQ (a:=a) hb' (yP a b) (Nat.mod_lt _ (by omega)) (by rcases h with h|h;exact .inl h;right;by_cases h1:a<0<;>by_cases h2:b<0<;>simp_all<;>omega);rw [h1,h2,if_neg hb',if_neg hb'];rfl
theorem Jl{a b:Int}(hb:¬b.natAbs=0)(h0:¬a.natAbs % b.natAbs=0)(h:(decide (a<0) != decide (b<0))=true):
 aB [Z (dW (decide (a<0) != decide (b<0)) (a.natAbs / b.natAbs)-1),Z (dW (decide (a<0)) (a.natAbs % b.natAbs)+b),.int .i64 0]=.tup [Z (a.fdiv b),Z (if b=0 then 0 else a.fmod b),.int .i64 (if b=0 then 6 else 0)]:=by
 have hb':b≠0:=by omega
 obtain ⟨h1,h2⟩:=Xt (a:=a) hb' (yP a b) (Nat.mod_lt _ (by omega)) (by omega) (by by_cases h1:a<0<;>by_cases h2:b<0<;>simp_all);rw [h1,h2,if_neg hb',if_neg hb'];rfl
theorem zG(neg:Bool)(n:Nat)(a:Int)(h:n≤a.natAbs):sz (dW neg n)≤sz a:=nR (by rw [lI];exact h)
def uI:Nat→Nat
 |0=>0
 |n+1=>if (uI n+1)*(uI n+1)≤n+1 then uI n+1 else uI n
theorem La:∀n,uI n*uI n≤n∧n<(uI n+1)*(uI n+1)
 |0=>by simp [uI]
 |n+1=>by
  obtain ⟨h1,h2⟩:=La n;unfold uI;split
  ·rename_i h;refine ⟨h, ?_⟩;have e:(uI n+1+1)*(uI n+1+1)=(uI n+1)*(uI n+1)+2*(uI n+1)+1:=by grind
   omega
  ·exact ⟨by omega,by omega⟩
theorem Rh{n r:Nat}(h1:r*r≤n)(h2:n<(r+1)*(r+1)):r=uI n:=by
 obtain ⟨q1,q2⟩:=La n;rcases Nat.lt_trichotomy r (uI n) with h|h|h
 ·have:=Nat.mul_le_mul (show r+1≤uI n by omega) (show r+1≤uI n by omega);omega
 ·exact h
 ·have:=Nat.mul_le_mul (show uI n+1≤r by omega) (show uI n+1≤r by omega);omega
theorem Vq{n:Nat}(h:n≤1000000000000):IntKind.i64.wrap ((IntKind.i64.wrap ((n:Nat)+1)).tdiv 2)=(((n+1) / 2:Nat):Int):=by
 rw [bY (a:=(n:Nat)+1) (by omega) (by omega),Int.tdiv_eq_ediv_of_nonneg (by omega),bY (by omega) (by omega)];omega
theorem XG{a:Int}(h:a<0):aB [AV.agg [Cell.v (Value.bool false),Cell.sl 1 []],AV.c (Cell.v (Value.int IntKind.i64 7))]=AV.tup [Z (if a<0 then 0 else (uI a.natAbs:Nat)),AV.int IntKind.i64 (if a<0 then 7 else 0)]:=by
 rw [if_pos h,if_pos h,Z0];rfl
theorem V6{a:Int}(h:¬a<0)(h0:a.natAbs=0):aB [AV.agg [Cell.v (Value.bool false),Cell.sl 1 []],AV.c (Cell.v (Value.int IntKind.i64 0))]=AV.tup [Z (if a<0 then 0 else (uI a.natAbs:Nat)),AV.int IntKind.i64 (if a<0 then 7 else 0)]:=by
 rw [if_neg h,if_neg h,h0,show ((uI 0:Nat):Int)=0 from rfl,Z0];rfl
theorem Yb{a:Int}{x:Nat}(h:¬a<0)(hx:0<x∧a.natAbs<(x+1)*(x+1)∧sz x≤200000000)(hge:(((x+a.natAbs / x) / 2:Nat):Int)≥x):
 aB [AV.agg [zs x,zl x],AV.c (Cell.v (Value.int IntKind.i64 0))]=AV.tup [Z (if a<0 then 0 else (uI a.natAbs:Nat)),AV.int IntKind.i64 (if a<0 then 7 else 0)]:=by
 have h1:=JW hx.1 rfl (show x≤(x+a.natAbs / x) / 2 by omega);rw [if_neg h,if_neg h,← Rh h1 hx.2.1];rfl
theorem UE{a:Int}{x:Nat}(h0:¬a.natAbs=0)(hx:0<x∧a.natAbs<(x+1)*(x+1)∧sz x≤200000000)(hge:¬(((x+a.natAbs / x) / 2:Nat):Int)≥x):
 0<(x+a.natAbs / x) / 2∧a.natAbs<((x+a.natAbs / x) / 2+1)*((x+a.natAbs / x) / 2+1)∧sz ((x+a.natAbs / x) / 2:Nat)≤200000000 :=
 ⟨J3 (by omega) hx.1 rfl,DX hx.1 rfl,Nat.le_trans (nR (by rw [Int.natAbs_natCast,Int.natAbs_natCast];omega)) hx.2.2⟩
theorem YD{a:Int}{x:Nat}:sz ((a.natAbs / x:Nat):Int)≤sz a:=nR (by rw [Int.natAbs_natCast];exact Nat.div_le_self _ _)
theorem aX{x:Nat}(h:x+1≤9223372036854775807):some (AV.int .i64 (IntKind.i64.wrap ((x:Nat)+1)))=some (AV.int .i64 ((x+1:Nat):Int)):=by
 rw [bY (by omega) (by omega)];rfl
theorem bE{x y:Bool}(h:x=y):aB [AV.c (Cell.v (Value.bool x))]=AV.bool y:=by rw [h];rfl
theorem iE{k:IntKind}{x y:Int}(h:x=y):aB [AV.c (Cell.v (Value.int k x))]=AV.int k y:=by rw [h];rfl
theorem VO{neg:Bool}{l:List Nat}{x:Nat}(hx:x<l.length)(h:((l.getD x 0:Nat):Int)≥1000000000):false=gV neg l:=L6 hx (by omega)
theorem Ve{neg:Bool}{l:List Nat}{x:Nat}(hx:x≤l.length∧∀j,j<x→l.getD j 0<1000000000)(h:¬((x:Nat):Int)<l.length):gV neg l=(decide ((ah l).length=l.length) && (!neg || decide (0<l.length))) :=
 DZ (BQ λj hj=>hx.2 j (by omega))
@[reducible] def Rr(n1:Bool)(l1:List Nat)(n2:Bool)(l2:List Nat):AV:=.agg [.v (.bool n1),bJ l1,.v (.bool n2),bJ l2]
def iO(n1:Bool)(l1:List Nat)(n2:Bool)(l2:List Nat):Bool:=gV n1 l1 && (gV n2 l2 && (decide (jo (dW n2 (val l2))=1) && decide (((Nat.gcd (val l1) (val l2):Nat):Int)=1)))
theorem uj{neg:Bool}{l:List Nat}(h:gV neg l=true):∃x:Int,neg=decide (x<0)∧l=lim x.natAbs:=⟨_,KY h⟩
theorem yO(n1:Bool)(l1:List Nat)(n2:Bool)(l2:List Nat):gV n1 l1=false∨(∃x:Int,n1=decide (x<0)∧l1=lim x.natAbs∧gV n2 l2=false)∨∃x y:Int,n1=decide (x<0)∧l1=lim x.natAbs∧n2=decide (y<0)∧l2=lim y.natAbs:=by
 cases h1:gV n1 l1 with
 |false=>exact .inl rfl
 |true =>
  obtain ⟨x,rfl,rfl⟩:=uj h1;cases h2:gV n2 l2 with
  |false=>exact .inr (.inl ⟨x,rfl,rfl,rfl⟩)
  |true =>
   obtain ⟨y,rfl,rfl⟩:=uj h2;exact .inr (.inr ⟨x,y,rfl,rfl,rfl,rfl⟩)
theorem kV(x y:Int):iO (decide (x<0)) (lim x.natAbs) (decide (y<0)) (lim y.natAbs)=(decide (jo y=1) && decide (((Nat.gcd x.natAbs y.natAbs:Nat):Int)=1)):=by
 unfold iO;rw [qL,qL,aA,aA,zy];rfl
theorem Ky(q:Rat):iO (decide (q.num<0)) (lim q.num.natAbs) (decide ((q.den:Int)<0)) (lim (q.den:Int).natAbs)=true:=by
 rw [kV,pI.2 (den_pos q),Int.natAbs_natCast];have:=q.reduced;simp [this.gcd_eq_one]
theorem P7{n1:Bool}{l1:List Nat}{n2:Bool}{l2:List Nat}(h:iO n1 l1 n2 l2=true):∃q:Rat,n1=decide (q.num<0)∧l1=lim q.num.natAbs∧n2=decide ((q.den:Int)<0)∧l2=lim (q.den:Int).natAbs:=by
 have h0:=h;unfold iO at h0;simp only [Bool.and_eq_true] at h0;obtain ⟨x,rfl,rfl⟩:=uj h0.1;obtain ⟨y,rfl,rfl⟩:=uj h0.2.1;rw [kV] at h;simp only [Bool.and_eq_true,decide_eq_true_eq] at h;have hy:=pI.1 h.1;have hg:Nat.gcd x.natAbs y.natAbs=1:=by omega
 refine ⟨⟨x,y.natAbs,by omega,hg⟩,rfl,rfl, ?_, ?_⟩
 ·simp only;congr 1;rw [show ((y.natAbs:Nat):Int)=y by omega]
 ·simp only [Int.natAbs_natCast]
@[reducible] def Iv(l h:Int):AV:=.agg [.v (.int .i64 l),.v (.int .i64 h)]
def LG(l h:Int):Int × Bool:=if l > 0 then (1,true) else if h<0 then (-1,true) else (0,decide (l=0∧h=0))
def O5(l h:Int):Option (Int × Int):=if -2305843009213693952≤l∧h≤2305843009213693952 then some (l,h) else none
@[reducible] def Ov(o:Option (Int × Int)):AV:=.tup [Iv (o.getD (0,0)).1 (o.getD (0,0)).2,.bool o.isSome]
theorem OA{l h:Int}(h1 : -2305843009213693952≤l)(h2:h≤2305843009213693952):O5 l h=some (l,h):=if_pos ⟨h1,h2⟩
theorem EL{l h:Int}(h1:¬(-2305843009213693952≤l∧h≤2305843009213693952)):O5 l h=none:=if_neg h1
theorem agJ:min (Int.toNat 32) IntKind.u64.bits=32:=rfl
theorem adX:min (Int.toNat 16) IntKind.u64.bits=16:=rfl
theorem adx:min (Int.toNat 48) IntKind.u64.bits=48:=rfl
theorem Ee(a n:Nat):((a:Nat):Int).fdiv ((n:Nat):Int)=((a / n:Nat):Int):=by rw [Int.fdiv_eq_ediv_of_nonneg _ (by omega)];rfl
theorem wu(n:Nat):IntKind.u64.wrap ((n:Nat):Int)=((n % 18446744073709551616:Nat):Int):=by rw [IntKind.wrap_u64];omega
theorem OZ{a n:Nat}(hn:n≤64)(ha:a<18446744073709551616):Bg .u64 ((a:Nat):Int) ((2 ^ n-1:Nat):Int)=((a % 2 ^ n:Nat):Int):=by
 unfold Bg;have h2:2 ^ n≤2 ^ 64:=Nat.pow_le_pow_right (by decide) hn;have h0:0<2 ^ n:=Nat.pow_pos (by decide)
 have e:(BitVec.ofInt IntKind.u64.bits ((a:Nat):Int) &&& BitVec.ofInt IntKind.u64.bits ((2 ^ n-1:Nat):Int)).toNat=a % 2 ^ n:=by
  show (BitVec.ofInt 64 ((a:Nat):Int) &&& BitVec.ofInt 64 ((2 ^ n-1:Nat):Int)).toNat=a % 2 ^ n;rw [BitVec.ofInt_natCast,BitVec.ofInt_natCast,BitVec.toNat_and,BitVec.toNat_ofNat,BitVec.toNat_ofNat,Nat.mod_eq_of_lt (show a<2 ^ 64 from ha),Nat.mod_eq_of_lt (show 2 ^ n-1<2 ^ 64 by omega),Nat.and_two_pow_sub_one_eq_mod]
 rw [e,wu];have h3:a % 2 ^ n≤a:=Nat.mod_le _ _;rw [Nat.mod_eq_of_lt (by omega)]
theorem Wv{a b n:Nat}(hn:n≤64)(hb:b<2 ^ n)(ha:2 ^ n*a<18446744073709551616):orI .u64 ((2 ^ n*a:Nat):Int) ((b:Nat):Int)=((2 ^ n*a+b:Nat):Int):=by
 unfold orI;have h2:2 ^ n≤2 ^ 64:=Nat.pow_le_pow_right (by decide) hn
 have e:(BitVec.ofInt IntKind.u64.bits ((2 ^ n*a:Nat):Int) ||| BitVec.ofInt IntKind.u64.bits ((b:Nat):Int)).toNat=2 ^ n*a+b:=by
  show (BitVec.ofInt 64 ((2 ^ n*a:Nat):Int) ||| BitVec.ofInt 64 ((b:Nat):Int)).toNat=2 ^ n*a+b;rw [BitVec.ofInt_natCast,BitVec.ofInt_natCast,BitVec.toNat_or,BitVec.toNat_ofNat,BitVec.toNat_ofNat,Nat.mod_eq_of_lt (show 2 ^ n*a<2 ^ 64 from ha),Nat.mod_eq_of_lt (show b<2 ^ 64 by omega),Nat.two_pow_add_eq_or_of_lt hb]
 have hlt:2 ^ n*a+b<18446744073709551616:=by
  have:=(BitVec.ofInt IntKind.u64.bits ((2 ^ n*a:Nat):Int) ||| BitVec.ofInt IntKind.u64.bits ((b:Nat):Int)).isLt;rw [e] at this;exact this
 rw [e,wu,Nat.mod_eq_of_lt hlt]
theorem PZ{a b x0 x1 y0 y1:Nat}(ha:a<18446744073709551616)(hb:b<18446744073709551616)(h1:x0=a % 4294967296)(h2:x1=a / 4294967296)(h3:y0=b % 4294967296)(h4:y1=b / 4294967296):
 (x1*y1+(x1*y0+x0*y0 % 18446744073709551616 / 4294967296) / 4294967296+((x1*y0+x0*y0 % 18446744073709551616 / 4294967296) % 4294967296+x0*y1) / 4294967296)=a*b / 18446744073709551616 ∧
 x0*y0≤18446744065119617025∧x1*y0≤18446744065119617025∧x0*y1≤18446744065119617025∧x1*y1≤18446744065119617025:=by
 have b1:x0*y0≤4294967295*4294967295:=Nat.mul_le_mul (by omega) (by omega);have b2:x1*y0≤4294967295*4294967295:=Nat.mul_le_mul (by omega) (by omega);have b3:x0*y1≤4294967295*4294967295:=Nat.mul_le_mul (by omega) (by omega);have b4:x1*y1≤4294967295*4294967295:=Nat.mul_le_mul (by omega) (by omega);have ea:a=x1*4294967296+x0:=by omega
 have eb:b=y1*4294967296+y0:=by omega
 have e:a*b=x1*y1*18446744073709551616+(x1*y0+x0*y1)*4294967296+x0*y0:=by rw [ea,eb];grind
 rw [e];generalize x0*y0=p at *;generalize x1*y0=q at *;generalize x0*y1=r at *;generalize x1*y1=s at *;exact ⟨by omega,by omega,by omega,by omega,by omega⟩
theorem H9(a:Nat){n:Nat}(hn:n≤64):Bg .u64 ((a:Nat):Int) ((2 ^ n-1:Nat):Int)=((a % 2 ^ n:Nat):Int):=by
 have e:Bg .u64 ((a:Nat):Int) ((2 ^ n-1:Nat):Int)=Bg .u64 ((a % 18446744073709551616:Nat):Int) ((2 ^ n-1:Nat):Int):=by
  unfold Bg
  have:BitVec.ofInt IntKind.u64.bits ((a:Nat):Int)=BitVec.ofInt IntKind.u64.bits ((a % 18446744073709551616:Nat):Int):=by
   show BitVec.ofInt 64 ((a:Nat):Int)=BitVec.ofInt 64 ((a % 18446744073709551616:Nat):Int);rw [BitVec.ofInt_natCast,BitVec.ofInt_natCast];apply BitVec.eq_of_toNat_eq;simp
  rw [this]
 rw [e,OZ hn (Nat.mod_lt _ (by decide)),Nat.mod_mod_of_dvd _ (Nat.pow_dvd_pow 2 hn:2 ^ n ∣ 2 ^ 64)]
theorem aaw(a:Nat):Bg .u64 ((a:Nat):Int) 4294967295=((a % 4294967296:Nat):Int):=H9 a (n:=32) (by decide)
theorem Un(a:Nat):Bg .u64 ((a:Nat):Int) 65535=((a % 65536:Nat):Int):=H9 a (n:=16) (by decide)
theorem e32:(2:Int) ^ 32=((4294967296:Nat):Int):=rfl
theorem e16:(2:Int) ^ 16=((65536:Nat):Int):=rfl
theorem e48:(2:Int) ^ 48=((281474976710656:Nat):Int):=rfl
theorem iE2{k k':IntKind}{x x' y y':Int}(h:x=x')(h':y=y'):aB [AV.c (Cell.v (Value.int k x)),AV.c (Cell.v (Value.int k' y))]=AV.tup [AV.int k x',AV.int k' y']:=by rw [h,h'];rfl
theorem ibE{k:IntKind}{x x':Int}{y y':Bool}(h:x=x')(h':y=y'):aB [AV.c (Cell.v (Value.int k x)),AV.c (Cell.v (Value.bool y))]=AV.tup [AV.int k x',AV.bool y']:=by rw [h,h'];rfl
def Qa(x y:Int):Nat:=x.natAbs*y.natAbs
def JR(x y:Int):Int × Int :=
 let q:Int:=(Qa x y / 65536:Nat)
 let u:Int:=if Qa x y % 65536=0 then q else q+1
 if (decide (x<0) != decide (y<0))=true then (-u,-q) else (q,u)
def uV(x y:Int):Int × Int × Bool :=
 if 1208925819614629174706176≤Qa x y∨2305843009213693952<Qa x y / 65536 then (0,0,false)
 else ((JR x y).1,(JR x y).2,decide (-2305843009213693952≤(JR x y).1∧(JR x y).2≤2305843009213693952))
theorem KF{x y d u:Int}{o:Bool}(h:uV x y=(d,u,o)):aB [AV.c (Cell.v (Value.int .i64 d)),AV.c (Cell.v (Value.int .i64 u)),AV.c (Cell.v (Value.bool o))]=AV.tup [AV.int .i64 (uV x y).1,AV.int .i64 (uV x y).2.1,AV.bool (uV x y).2.2]:=by rw [h];rfl
theorem aen{p:Nat}(h:p / 18446744073709551616 / 65536=0):orI .u64 (IntKind.u64.wrap (((p / 18446744073709551616:Nat):Int)*((281474976710656:Nat):Int))) ((p % 18446744073709551616 / 65536:Nat):Int)=((p / 65536:Nat):Int):=by
 rw [← Int.natCast_mul,wu,Nat.mod_eq_of_lt (by omega),Nat.mul_comm];have:=Wv (n:=48) (a:=p / 18446744073709551616) (b:=p % 18446744073709551616 / 65536) (by decide) (by omega) (by omega);have e:(2:Nat) ^ 48=281474976710656:=rfl;rw [e] at this;rw [this];congr 1;omega
theorem abo{x y:Int}(h:¬(((x.natAbs*y.natAbs / 18446744073709551616 / 65536:Nat):Int))=0):uV x y=(0,0,false):=if_pos (.inl (by unfold Qa;generalize x.natAbs*y.natAbs=p at *;omega))
theorem Wu{x y:Int}(h:(((x.natAbs*y.natAbs / 65536:Nat):Int)) > 2305843009213693952):uV x y=(0,0,false):=if_pos (.inr (by unfold Qa;generalize x.natAbs*y.natAbs=p at *;omega))
theorem aaK{x y d u:Int}{o:Bool}(h1:(((x.natAbs*y.natAbs / 18446744073709551616 / 65536:Nat):Int))=0)(h2:¬(((x.natAbs*y.natAbs / 65536:Nat):Int)) > 2305843009213693952)
 (hd:d=(JR x y).1) (hu:u=(JR x y).2) (ho:o=decide (-2305843009213693952≤(JR x y).1∧(JR x y).2≤2305843009213693952)):uV x y=(d,u,o):=by
 subst hd hu ho;exact if_neg (by unfold Qa;generalize x.natAbs*y.natAbs=p at *;omega)
theorem Uy{x y:Int}{s z:Bool}(hs:(decide (x<0) != decide (y<0))=s)(hz:decide (x.natAbs*y.natAbs % 65536=0)=z):
 JR x y=(if s then (-(if z then ((x.natAbs*y.natAbs / 65536:Nat):Int) else ((x.natAbs*y.natAbs / 65536:Nat):Int)+1),-((x.natAbs*y.natAbs / 65536:Nat):Int)) else (((x.natAbs*y.natAbs / 65536:Nat):Int),if z then ((x.natAbs*y.natAbs / 65536:Nat):Int) else ((x.natAbs*y.natAbs / 65536:Nat):Int)+1)):=by
 unfold JR Qa;rw [hs];subst hz;simp only [decide_eq_true_eq]
theorem w1{q:Int}(h0:0≤q)(h:¬q > 2305843009213693952):IntKind.i64.wrap q=q:=bY (by omega) (by omega)
theorem w2{q:Int}(h0:0≤q)(h:¬q > 2305843009213693952):IntKind.i64.wrap (q+1)=q+1:=bY (by omega) (by omega)
theorem w3{q:Int}(h0:0≤q)(h:¬q > 2305843009213693952):IntKind.i64.wrap (0-q) = -q:=by rw [bY (by omega) (by omega)];omega
theorem w4{q:Int}(h0:0≤q)(h:¬q > 2305843009213693952):IntKind.i64.wrap (0-(q+1)) = -(q+1):=by rw [bY (by omega) (by omega)];omega
theorem Oh{x y:Int}{s z o:Bool}{d u:Int}(h1:(((x.natAbs*y.natAbs / 18446744073709551616 / 65536:Nat):Int))=0)(h2:¬(((x.natAbs*y.natAbs / 65536:Nat):Int)) > 2305843009213693952)
 (hs:(decide (x<0) != decide (y<0))=s) (hz:decide (x.natAbs*y.natAbs % 65536=0)=z) (hd:d=(if s then -(if z then ((x.natAbs*y.natAbs / 65536:Nat):Int) else ((x.natAbs*y.natAbs / 65536:Nat):Int)+1) else ((x.natAbs*y.natAbs / 65536:Nat):Int)))
 (hu:u=(if s then -((x.natAbs*y.natAbs / 65536:Nat):Int) else (if z then ((x.natAbs*y.natAbs / 65536:Nat):Int) else ((x.natAbs*y.natAbs / 65536:Nat):Int)+1))) (ho:o=decide (-2305843009213693952≤d∧u≤2305843009213693952)) :
 aB [AV.c (Cell.v (Value.int .i64 d)),AV.c (Cell.v (Value.int .i64 u)),AV.c (Cell.v (Value.bool o))]=AV.tup [AV.int .i64 (uV x y).1,AV.int .i64 (uV x y).2.1,AV.bool (uV x y).2.2]:=by
 have e1:d=(JR x y).1:=by rw [hd,Uy hs hz];cases s<;>rfl
 have e2:u=(JR x y).2:=by rw [hu,Uy hs hz];cases s<;>rfl
 exact KF (aaK h1 h2 e1 e2 (by rw [ho,e1,e2]))
@[reducible] def upR(a:Rat):Int:=-(-a).floor
theorem U9(a:Rat):a.floor≤upR a:=by
 unfold upR;have h1:=Rat.floor_le (a:=a);have h2:=Rat.floor_le (a:=-a);have:((a.floor+(-a).floor:Int):Rat)≤0:=by rw [Rat.intCast_add];grind
 have:=Rat.intCast_le_intCast.1 (show ((a.floor+(-a).floor:Int):Rat)≤((0:Int):Rat) from this);omega
def dS(a:Rat):Option (Int × Int):=O5 (a*((65536:Int):Rat)).floor (upR (a*((65536:Int):Rat)))
def vF(a b:Int × Int):Option (Int × Int):=O5 (a.1+b.1) (a.2+b.2)
theorem Gx{l h:Int}(o:Option (Int × Int))(e:o=O5 l h)(hlh:l≤h):-2305843009213693952≤(o.getD (0,0)).1∧(o.getD (0,0)).1≤(o.getD (0,0)).2∧(o.getD (0,0)).2≤2305843009213693952:=by
 subst e;unfold O5;split
 ·exact ⟨by simp;omega,by simp;omega,by simp;omega⟩
 ·exact ⟨by simp,by simp,by simp⟩
theorem Ub(a:Rat):-2305843009213693952≤((dS a).getD (0,0)).1∧((dS a).getD (0,0)).1≤((dS a).getD (0,0)).2∧((dS a).getD (0,0)).2≤2305843009213693952:=Gx _ rfl (U9 _)
theorem ovE{l h:Int}{b:Bool}{o:Option (Int × Int)}(e1:l=(o.getD (0,0)).1)(e2:h=(o.getD (0,0)).2)(e3:b=o.isSome):
 aB [AV.agg [Cell.v (Value.int .i64 l),Cell.v (Value.int .i64 h)],AV.c (Cell.v (Value.bool b))]=Ov o:=by subst e1 e2 e3;rfl
theorem ovN{o:Option (Int × Int)}(e:o=none):aB [AV.agg [Cell.v (Value.int .i64 0),Cell.v (Value.int .i64 0)],AV.c (Cell.v (Value.bool false))]=Ov o:=by subst e;rfl
theorem VH(a:Rat):sz a.floor≤rz a:=by
 refine Nat.le_trans (nR ?_) (iM a);rw [← I7,Int.fdiv_eq_ediv_of_nonneg _ (by have:=den_pos a;omega)];exact Int.natAbs_ediv_le_natAbs _ _
theorem aey{a:Rat}(h:¬(-9223372036854775808≤(a*((65536:Int):Rat)).floor∧(a*((65536:Int):Rat)).floor≤9223372036854775807)):dS a=none :=
 EL (by have:=U9 (a*((65536:Int):Rat));omega)
theorem acR{a:Rat}(h:¬(-9223372036854775808≤-(-(a*((65536:Int):Rat))).floor∧-(-(a*((65536:Int):Rat))).floor≤9223372036854775807)):dS a=none :=
 EL (by have:=U9 (a*((65536:Int):Rat));unfold upR at *;omega)
theorem szl(n:Int)(h1 : -9223372036854775808≤n)(h2:n≤9223372036854775807):sz n≤3:=gZ h1 h2
theorem afo:rz ((65536:Int):Rat)≤4:=by have:=jH 65536;have:=gZ (n:=65536) (by omega) (by omega);omega
theorem Wx{l:Int}:List.foldl (λx y=>if y > x then y else x) l [0]=max l 0:=by
 show (if 0 > l then 0 else l)=max l 0;split<;>omega
def rt(n:Int):Int:=if n*65536<0 then 0 else (uI (n*65536).natAbs:Nat)
theorem aeB(n:Int):(if n*65536<0 then 0 else ((uI (n*65536).natAbs:Nat):Int))=rt n:=rfl
def ZO(n:Int):Int:=if rt n*rt n=n*65536 then rt n else rt n+1
theorem Iy{n:Int}(h:0≤n):0≤rt n∧rt n*rt n≤n*65536∧n*65536<(rt n+1)*(rt n+1):=by
 have ⟨h1,h2⟩:=La (n*65536).natAbs;have e:(((n*65536).natAbs:Nat):Int)=n*65536:=by omega
 unfold rt;rw [if_neg (by omega)];refine ⟨by omega, ?_, ?_⟩
 ·have:=Int.ofNat_le.2 h1;rw [Int.natCast_mul] at this;omega
 ·have:=Int.ofNat_lt.2 h2;rw [Int.natCast_mul,Int.natCast_add] at this;simpa [e] using this
theorem Vm{n:Int}(h:0≤n)(h2:n≤2305843009213693952):0≤rt n∧rt n≤549755813888:=by
 have ⟨h0,h1,_⟩:=Iy h;refine ⟨h0, ?_⟩;apply Decidable.byContradiction;intro hc;have:549755813889*549755813889≤rt n*rt n:=Int.mul_le_mul (by omega) (by omega) (by decide) h0;omega
theorem Uw{n:Int}(h:0≤n):rt n≤ZO n∧ZO n≤rt n+1∧n*65536≤ZO n*ZO n:=by
 have ⟨h0,h1,h2⟩:=Iy h;unfold ZO;split
 ·omega
 ·refine ⟨by omega,by omega,by omega⟩
def ny(a:Int × Int):Option (Int × Int):=if a.2<0 then none else O5 (rt (max a.1 0)) (ZO a.2)
theorem MH{l h:Int}(h0:0≤l)(h1:l≤h):rt l≤rt h:=by
 have ⟨a0,a1,a2⟩:=Iy h0;have ⟨b0,b1,b2⟩:=Iy (Int.le_trans h0 h1);apply Decidable.byContradiction;intro hc;have:(rt h+1)*(rt h+1)≤rt l*rt l:=Int.mul_le_mul (by omega) (by omega) (by omega) a0;omega
theorem acW{l h:Int}(h0:¬h<0)(e:rt h*rt h=h*65536):Ov (O5 (rt (max l 0)) (rt h))=Ov (ny (l,h)):=by
 unfold ny ZO;rw [if_neg h0,if_pos e]
theorem aez{l h:Int}(h0:¬h<0)(e:¬rt h*rt h=h*65536):Ov (O5 (rt (max l 0)) (rt h+1))=Ov (ny (l,h)):=by
 unfold ny ZO;rw [if_neg h0,if_neg e]
end Go.Sw
namespace Go.Sw
open Go
set_option linter.unusedSimpArgs false
theorem Na:IntKind.i64.wrap (0+1)=1:=by decide
theorem Hr:IntKind.i64.wrap (1+1)=2:=by decide
theorem NZ{b:Bool}{k:Bool→Prop}(e:b=true)(h:k true):OnB b k:=⟨λ_=>h,λh'=>by rw [e] at h';cases h'⟩
theorem Bv{b:Bool}{k:Bool→Prop}(e:b=false)(h:k false):OnB b k:=⟨λh'=>(by rw [e] at h';cases h'),λ_=>h⟩
def FN(x y:Int):Int:=(x*y) / 65536
def uX(x y:Int):Int:=-((-(x*y)) / 65536)
theorem HY(x y:Int):FN x y≤uX x y:=by unfold FN uX;omega
theorem OH(x y:Int):JR x y=(FN x y,uX x y):=by
 have e:x*y=if (decide (x<0) != decide (y<0))=true then -((Qa x y:Nat):Int) else ((Qa x y:Nat):Int):=by
  unfold Qa;rw [Int.natCast_mul]
  by_cases h1:x<0<;>by_cases h2:y<0<;>simp only [h1,h2]
  ·have e1:(x.natAbs:Int) = -x:=by omega
   have e2:(y.natAbs:Int) = -y:=by omega
   rw [e1,e2];simp [Int.neg_mul,Int.mul_neg,Int.neg_neg]
  ·have e1:(x.natAbs:Int) = -x:=by omega
   have e2:(y.natAbs:Int)=y:=by omega
   rw [e1,e2];simp [Int.neg_mul,Int.mul_neg,Int.neg_neg]
  ·have e1:(x.natAbs:Int)=x:=by omega
   have e2:(y.natAbs:Int) = -y:=by omega
   rw [e1,e2];simp [Int.neg_mul,Int.mul_neg,Int.neg_neg]
  ·have e1:(x.natAbs:Int)=x:=by omega
   have e2:(y.natAbs:Int)=y:=by omega
   rw [e1,e2];simp [Int.neg_mul,Int.mul_neg,Int.neg_neg]
 unfold JR FN uX;generalize Qa x y=p at *;generalize (decide (x<0) != decide (y<0))=s at *;rw [e];cases s<;>by_cases hm:p % 65536=0<;>simp only [hm,if_true,if_false]<;>(refine Prod.ext ?_ ?_<;>simp<;>omega)
theorem EN{x y:Int}(h:(uV x y).2.2=true):(uV x y).1=FN x y∧(uV x y).2.1=uX x y∧-2305843009213693952≤FN x y∧uX x y≤2305843009213693952:=by
 unfold uV at *;rw [OH] at *;split at h
 ·exact absurd h (by simp)
 ·rename_i g;rw [if_neg g];exact ⟨rfl,rfl,of_decide_eq_true h⟩
theorem abv{x y:Int}(h:¬(uV x y).2.2=true):¬(-2305843009213693952≤FN x y∧uX x y≤2305843009213693952):=by
 have q:=OH x y;unfold uV at h;rw [q] at h;split at h
 ·rename_i g;unfold JR at q;generalize Qa x y=p at *;intro ⟨h1,h2⟩;generalize (decide (x<0) != decide (y<0))=s at *;have q1:=congrArg Prod.fst q;have q2:=congrArg Prod.snd q;cases s<;>by_cases hm:p % 65536=0<;>simp only [hm,if_true,if_false] at q1 q2<;>simp at q1 q2<;>omega
 ·intro ⟨h1,h2⟩;exact h (decide_eq_true ⟨h1,h2⟩)
def rG(a b:Int × Int):Option (Int × Int) :=
 O5 (min (min (FN a.1 b.1) (FN a.1 b.2)) (min (FN a.2 b.1) (FN a.2 b.2))) (max (max (uX a.1 b.1) (uX a.1 b.2)) (max (uX a.2 b.1) (uX a.2 b.2)))
theorem nb{b:Bool}(h:(!b)=true):¬b=true:=by cases b<;>simp_all
theorem nb'{b:Bool}(h:(!b)=false):b=true:=by cases b<;>simp_all
theorem Vf(u v:Int):List.foldl (λx y=>if y<x then y else x) u [v]=min u v:=by
 show (if v<u then v else u)=min u v;split<;>omega
theorem TQ(u v:Int):List.foldl (λx y=>if y > x then y else x) u [v]=max u v:=by
 show (if v > u then v else u)=max u v;split<;>omega
theorem vX{a b c d x y:Int}(hx:x=a∨x=b)(hy:y=c∨y=d)(h:(!(uV x y).2.2)=true):rG (a,b) (c,d)=none:=by
 have:=abv (nb h);apply EL;rcases hx with rfl|rfl<;>rcases hy with rfl|rfl<;>simp only<;>omega
theorem Ro{a b c d:Int}(h1:(!(uV a c).2.2)=false)(h2:(!(uV a d).2.2)=false)(h3:(!(uV b c).2.2)=false)(h4:(!(uV b d).2.2)=false):
 aB [AV.agg [Cell.v (Value.int .i64 (min (min (min (min 2305843009213693952 (uV a c).1) (uV a d).1) (uV b c).1) (uV b d).1)),Cell.v (Value.int .i64 (max (max (max (max (-2305843009213693952) (uV a c).2.1) (uV a d).2.1) (uV b c).2.1) (uV b d).2.1))],AV.c (Cell.v (Value.bool true))]=Ov (rG (a,b) (c,d)):=by
 obtain ⟨e1,e2,e3,e4⟩:=EN (nb' h1);obtain ⟨f1,f2,f3,f4⟩:=EN (nb' h2);obtain ⟨g1,g2,g3,g4⟩:=EN (nb' h3);obtain ⟨k1,k2,k3,k4⟩:=EN (nb' h4);have d1:=HY a c;have d2:=HY a d;have d3:=HY b c;have d4:=HY b d;rw [e1,e2,f1,f2,g1,g2,k1,k2];unfold rG;rw [OA (by simp only;omega) (by simp only;omega)];refine ovE ?_ ?_ rfl<;>simp only [Option.getD_some]<;>omega
@[reducible] def Q3(a b c:Rat):AV:=.agg [zs a.num,zl a.num,zs a.den,zl a.den,zs b.num,zl b.num,zs b.den,zl b.den,zs c.num,zl c.num,zs c.den,zl c.den]
def nH(a b c:Rat):Option (Int × Int) :=
 match dS a with
 |none=>none
 |some x=>if b=0 then some x else
  match dS b,dS c with
  |some y,some z=>if c<0 then none else
   match ny z with
   |none=>none
   |some s=>match rG y s with
    |none=>none
    |some p=>vF x p
  |_,_=>none
def hw(a b c d:Int):Nat→Int
 |0=>0|1=>uX a c|2=>max (uX a c) (uX a d)|3=>max (max (uX a c) (uX a d)) (uX b c)|_=>max (max (max (uX a c) (uX a d)) (uX b c)) (uX b d)
def kI:Nat→Int|0=>0|1=>1|_=>2
theorem hw1(a b c d:Int):hw a b c d 1=uX a c:=rfl
theorem hw2(a b c d:Int):hw a b c d 2=max (uX a c) (uX a d):=rfl
theorem k1:some (AV.int .i64 (IntKind.i64.wrap (0+1)))=some (AV.int .i64 (kI 1)):=by rw [Na];rfl
theorem k2:some (AV.int .i64 (IntKind.i64.wrap (1+1)))=some (AV.int .i64 (kI 2)):=by rw [Hr];rfl
@[reducible] def Q5(a b c d e:Rat):AV:=.agg [zs a.num,zl a.num,zs a.den,zl a.den,zs b.num,zl b.num,zs b.den,zl b.den,zs c.num,zl c.num,zs c.den,zl c.den,zs d.num,zl d.num,zs d.den,zl d.den,zs e.num,zl e.num,zs e.den,zl e.den]
def Gw(x:Int × Int):Prop:=-2305843009213693952≤x.1∧x.1≤x.2∧x.2≤2305843009213693952
theorem jB(a:Rat):Gw ((dS a).getD (0,0)):=Ub a
theorem zC(x y:Int × Int):Gw ((rG x y).getD (0,0)):=Gx _ rfl (by have:=HY x.1 y.1;omega)
theorem SV{x:Int × Int}(h:Gw x):Gw ((ny x).getD (0,0)):=by
 unfold ny;split
 ·exact ⟨by decide,by decide,by decide⟩
 ·rename_i g;refine Gx _ rfl ?_;have:=MH (l:=max x.1 0) (h:=x.2) (by omega) (by unfold Gw at h;omega);have:=(Uw (n:=x.2) (by omega)).1;omega
theorem FI{x y:Int × Int}(h1:Gw x)(h2:Gw y):Gw ((vF x y).getD (0,0)):=Gx _ rfl (by unfold Gw at *;omega)
theorem JE(a b c:Rat):Gw ((nH a b c).getD (0,0)):=by
 have h0:Gw (0,0):=⟨by decide,by decide,by decide⟩
 unfold nH;have ha:=jB a;have hb:=jB b;have hc:=jB c;split
 ·exact h0
 ·rename_i x hx;rw [hx] at ha;split
  ·exact ha
  ·split
   ·rename_i y z hy hz;split
    ·exact h0
    ·split
     ·exact h0
     ·split
      ·exact h0
      ·rename_i s hs _ p hp;refine FI ha ?_;have:=zC y s;rw [hp] at this;exact this
   ·exact h0
theorem acU{o:Option (Int × Int)}(e:(none:Option (Int × Int))=o):aB [AV.agg [Cell.v (Value.int .i64 0),Cell.v (Value.int .i64 0)],AV.c (Cell.v (Value.bool false))]=Ov o:=by subst e;rfl
end Go.Sw
namespace Go.Sw
open Go
theorem nC(a:Rat):-1≤bI a∧bI a≤1:=by unfold bI;split<;>(try split)<;>omega
theorem BN(a b:Rat):-1≤iI a b∧iI a b≤1:=by unfold iI;split<;>(try split)<;>omega
theorem nS{x y:Int}(h1 : -1≤x∧x≤1)(h2 : -1≤y∧y≤1):-1≤x*y∧x*y≤1:=by
 have a:x = -1∨x=0∨x=1:=by omega
 rcases a with rfl|rfl|rfl<;>omega
theorem afE(a b:Rat):IntKind.i64.wrap (bI a*bI b)=bI a*bI b:=by
 have:=nS (nC a) (nC b);exact bY (by omega) (by omega)
theorem ag3(a b c:Rat):IntKind.i64.wrap (bI a*iI b c)=bI a*iI b c:=by
 have:=nS (nC a) (BN b c);exact bY (by omega) (by omega)
def qV(a b c:Rat):Int :=
 if bI a=bI b*bI c∨bI b*bI c=0 then bI a
 else if bI a=0 then bI b*bI c
 else bI a*iI (a*a) (b*b*c)
theorem ag5{a b c:Rat}(g1:¬bI a=bI b*bI c)(g2:¬bI b*bI c=0)(g3:¬bI a=0):qV a b c=bI a*iI (a*a) (b*b*c):=by
 unfold qV;rw [if_neg (λh=>h.elim g1 g2),if_neg g3]
theorem Le(n:Int)(h1 : -9223372036854775808≤n)(h2:n≤9223372036854775807):rz (n:Rat)≤4:=by
 have:=jH n;have:=gZ h1 h2;omega
theorem ahd(n d:Int)(h0:d≠0)(h1 : -9223372036854775808≤n∧n≤9223372036854775807)(h2 : -9223372036854775808≤d∧d≤9223372036854775807):rz ((n:Rat) / (d:Rat))≤6:=by
 have:=Fq (n:=n) h0;have:=gZ h1.1 h1.2;have:=gZ h2.1 h2.2;omega
abbrev abe:=Bool × List Nat × Bool × List Nat
def ZK(k:Int)(r:abe):Bool:=decide ((r.2.1.length:Int)≤k) && (decide ((r.2.2.2.length:Int)≤k) && iO r.1 r.2.1 r.2.2.1 r.2.2.2)
theorem aes{k:Int}{r:abe}(h:(r.2.1.length:Int) > k):ZK k r=false:=by
 unfold ZK;rw [decide_eq_false (by omega)];rfl
theorem ac6{k:Int}{r:abe}(h:(r.2.2.2.length:Int) > k):ZK k r=false:=by
 unfold ZK;rw [decide_eq_false (p:=(r.2.2.2.length:Int)≤k) (by omega)];simp
theorem Kt{a b x k L:Rat}(h1:a≤x)(h2:x≤b)(p:L≤a*k)(q:L≤b*k):L≤x*k:=by
 rcases Rat.le_total (a:=0) (b:=k) with hk|hk
 ·have:=Rat.mul_le_mul_of_nonneg_right h1 hk;grind
 ·have:=Rat.mul_le_mul_of_nonneg_right h2 (show 0≤-k by grind);grind
theorem V7{a b c d x y L:Rat}(h1:a≤x)(h2:x≤b)(h3:c≤y)(h4:y≤d)(p1:L≤a*c)(p2:L≤a*d)(p3:L≤b*c)(p4:L≤b*d):L≤x*y:=by
 apply Kt h1 h2
 ·rw [Rat.mul_comm];exact Kt h3 h4 (by rw [Rat.mul_comm];exact p1) (by rw [Rat.mul_comm];exact p2)
 ·rw [Rat.mul_comm];exact Kt h3 h4 (by rw [Rat.mul_comm];exact p3) (by rw [Rat.mul_comm];exact p4)
theorem aaS{a b c d x y L:Rat}(h1:a≤x)(h2:x≤b)(h3:c≤y)(h4:y≤d)(p1:a*c≤L)(p2:a*d≤L)(p3:b*c≤L)(p4:b*d≤L):x*y≤L:=by
 have:=V7 (L:=-L) (a:=-b) (b:=-a) (x:=-x) (y:=y) (c:=c) (d:=d) (by grind) (by grind) h3 h4 (by grind) (by grind) (by grind) (by grind)
 grind
theorem aa3(x y:Int):((FN x y:Int):Rat)*65536≤(x:Rat)*(y:Rat):=by
 have h:((FN x y*65536:Int):Rat)≤((x*y:Int):Rat):=Rat.intCast_le_intCast.2 (by unfold FN;omega);rw [Rat.intCast_mul,Rat.intCast_mul] at h;exact h
theorem aan(x y:Int):(x:Rat)*(y:Rat)≤((uX x y:Int):Rat)*65536:=by
 have h:((x*y:Int):Rat)≤((uX x y*65536:Int):Rat):=Rat.intCast_le_intCast.2 (by unfold uX;omega);rw [Rat.intCast_mul,Rat.intCast_mul] at h;exact h
def con(p:Int × Int)(q:Rat):Prop:=(p.1:Rat)≤q*65536∧q*65536≤(p.2:Rat)
theorem vS{l h:Int}{p:Int × Int}(e:O5 l h=some p):p=(l,h):=by
 unfold O5 at e;split at e
 ·injection e with e;exact e.symm
 ·cases e
theorem qy{x y p:Int × Int}{u v:Rat}(e:vF x y=some p)(hu:con x u)(hv:con y v):con p (u+v):=by
 have:=vS e;subst this;unfold con at *;simp only [Rat.intCast_add];obtain ⟨h1,h2⟩:=hu;obtain ⟨h3,h4⟩:=hv;constructor<;>grind
theorem Ae{x y p:Int × Int}{u v:Rat}(e:rG x y=some p)(hu:con x u)(hv:con y v):con p (u*v):=by
 have:=vS e;subst this;unfold con at *;obtain ⟨h1,h2⟩:=hu;obtain ⟨h3,h4⟩:=hv;simp only;generalize hl:min (min (FN x.1 y.1) (FN x.1 y.2)) (min (FN x.2 y.1) (FN x.2 y.2))=l;generalize hh:max (max (uX x.1 y.1) (uX x.1 y.2)) (max (uX x.2 y.1) (uX x.2 y.2))=h
 have lo:∀a c:Int,l≤FN a c→(l:Rat)*65536≤(a:Rat)*(c:Rat):=λa c hd=>by
  have k1:=aa3 a c;have k2:=Rat.intCast_le_intCast.2 hd
  grind
 have hi:∀a c:Int,uX a c≤h→(a:Rat)*(c:Rat)≤(h:Rat)*65536:=λa c hd=>by
  have k1:=aan a c;have k2:=Rat.intCast_le_intCast.2 hd
  grind
 have b1:=V7 h1 h2 h3 h4 (lo _ _ (by omega)) (lo _ _ (by omega)) (lo _ _ (by omega)) (lo _ _ (by omega));have b2:=aaS h1 h2 h3 h4 (hi _ _ (by omega)) (hi _ _ (by omega)) (hi _ _ (by omega)) (hi _ _ (by omega));constructor<;>grind
theorem c65:((65536:Int):Rat)=65536:=by decide +kernel
theorem c1:((1:Int):Rat)=1:=by decide +kernel
theorem Vu{x p:Int × Int}{q:Rat}(e:ny x=some p)(hx:con x q)(h0:0≤q):
 (p.1:Rat)*(p.1:Rat)≤q*(65536*65536)∧q*(65536*65536)≤(p.2:Rat)*(p.2:Rat)∧0≤p.1∧p.1≤p.2:=by
 unfold ny at e;split at e
 ·cases e
 ·rename_i g;have:=vS e;subst this;unfold con at hx;obtain ⟨h1,h2⟩:=hx
  have hle:max x.1 0≤x.2:=by
   have:((x.1:Int):Rat)≤(x.2:Rat):=Rat.le_trans h1 h2;have:=Rat.intCast_le_intCast.1 this;omega
  have r1:=Iy (n:=max x.1 0) (by omega);have r2:=Uw (n:=x.2) (by omega);have r3:=MH (l:=max x.1 0) (h:=x.2) (by omega) hle
  have hm:((max x.1 0:Int):Rat)≤q*65536:=by
   rcases Int.le_total x.1 0 with h|h
   ·rw [show max x.1 0=0 by omega];have:((0:Int):Rat)=0:=rfl;rw [this];grind
   ·rw [show max x.1 0=x.1 by omega];exact h1
  have k1:=Rat.intCast_le_intCast.2 r1.2.1;have k2:=Rat.intCast_le_intCast.2 r2.2.2;rw [Rat.intCast_mul,Rat.intCast_mul,c65] at k1 k2;refine ⟨by simp only;grind,by simp only;grind,r1.1,by simp only;omega⟩
def sub(x y:Int × Int):Prop:=x.1≤y.1∧y.1≤y.2∧y.2≤x.2
theorem Om{x:Int × Int}{n:Int}(h1:x.1≤n)(h2:n≤x.2):con x ((n:Rat)*(1 / 65536)):=by
 have k1:=Rat.intCast_le_intCast.2 h1;have k2:=Rat.intCast_le_intCast.2 h2;unfold con;constructor<;>grind
theorem lH{a:Rat}{x:Int × Int}(e:dS a=some x):con x a:=by
 have:=vS e;subst this;unfold con upR;rw [c65];simp only;refine ⟨Rat.floor_le _, ?_⟩;have:=Rat.floor_le (-(a*65536));rw [Rat.intCast_neg]
 grind
theorem OG{x:Int × Int}{q:Rat}(h:con x q):con (-x.2,-x.1) (-q):=by
 unfold con at *;simp only [Rat.intCast_neg];constructor<;>grind
theorem XR{p:Int × Int}{q:Rat}{n:Int}(h:LG p.1 p.2=(n,true))(hq:con p q):bI q=n:=by
 obtain ⟨h1,h2⟩:=hq;unfold LG at h;have z:((0:Int):Rat)=0:=rfl;split at h
 ·rename_i g;injection h with h3 h4
  subst h3;have:=Rat.intCast_lt_intCast.2 g;rw [z] at this;exact pU.2 (by grind)
 ·split at h
  ·rename_i g;injection h with h3 h4
   subst h3;have:=Rat.intCast_lt_intCast.2 g;rw [z] at this;have hq:q<0:=by grind
   unfold bI;rw [if_pos hq]
  ·injection h with h3 h4
   subst h3;have g:=of_decide_eq_true h4;rw [g.1,z] at h1;rw [g.2,z] at h2;exact iK.2 (by grind)
theorem fZ(q:Rat):(q<0∧bI q = -1)∨(q=0∧bI q=0)∨(0<q∧bI q=1):=by
 unfold bI
 by_cases h1:q<0
 ·rw [if_pos h1];exact .inl ⟨h1,rfl⟩
 ·rw [if_neg h1]
  by_cases h2:q=0
  ·rw [if_pos h2];exact .inr (.inl ⟨h2,rfl⟩)
  ·rw [if_neg h2];exact .inr (.inr ⟨by grind,rfl⟩)
theorem IJ{x y:Rat}(h0:0≤x)(h:x<y):x*x<y*y:=by
 have a1:=Rat.mul_le_mul_of_nonneg_left (Rat.le_of_lt h) h0;have a2:=Rat.mul_lt_mul_of_pos_right h (show 0<y by grind)
 grind
theorem yN(x:Rat):0≤x*x:=by
 rcases Rat.le_total (a:=0) (b:=x) with h|h
 ·exact Rat.mul_nonneg h h
 ·have:=Rat.mul_nonneg (show 0≤-x by grind) (show 0≤-x by grind);grind
theorem KD{a b:Rat}(h:b<a):iI a b=1:=by unfold iI;rw [if_neg (by grind),if_pos h]
theorem Lm{a b:Rat}(h:a<b):iI a b = -1:=by unfold iI;rw [if_pos h]
theorem Sj{a b:Rat}(h:a=b):iI a b=0:=Hz.2 h
theorem Nc{A B C s1 s2:Rat}{n:Int}(p1:0≤s1)(p2:s1≤s2)(q1:s1*s1≤C)(q2:C≤s2*s2)(h1:bI (A+B*s1)=n)(h2:bI (A+B*s2)=n):qV A B C=n:=by
 have hC:0≤C:=Rat.le_trans (yN s1) q1;have bb:=yN B;have m1:B*B*(s1*s1)≤B*B*C:=Rat.mul_le_mul_of_nonneg_left q1 bb;have m2:B*B*C≤B*B*(s2*s2):=Rat.mul_le_mul_of_nonneg_left q2 bb;have p3:0≤s2:=Rat.le_trans p1 p2;unfold qV;rcases fZ C with ⟨c1,c2⟩|⟨c1,c2⟩|⟨c1,c2⟩
 ·grind
 ·rw [c2,Int.mul_zero,if_pos (.inr rfl)]
  have:s1=0:=by
   rcases fZ s1 with ⟨k,_⟩|⟨k,_⟩|⟨k,_⟩
   ·grind
   ·exact k
   ·have:=Rat.mul_pos k k;grind
  subst this;rw [← h1];congr 1;grind
 ·have p4:0<s2:=by
   rcases fZ s2 with ⟨k,_⟩|⟨k,_⟩|⟨k,_⟩
   ·grind
   ·subst k;grind
   ·exact k
  rw [c2,Int.mul_one];rcases fZ B with ⟨b1,b2⟩|⟨b1,b2⟩|⟨b1,b2⟩<;>rcases fZ A with ⟨a1,a2⟩|⟨a1,a2⟩|⟨a1,a2⟩<;>rw [a2,b2]
  ·have k:=Rat.mul_nonneg (show 0≤-B by grind) p1;have:A+B*s1<0:=by grind
   rw [← h1];unfold bI;rw [if_pos this];rfl
  ·have k:=Rat.mul_pos (show 0 < -B by grind) p4;have:A+B*s2<0:=by grind
   rw [← h2];unfold bI;rw [if_pos this];rfl
  ·have k1:=Rat.mul_nonneg (show 0≤-B by grind) p1;have k2:=Rat.mul_nonneg (show 0≤-B by grind) p3;rcases fZ (A+B*s1) with ⟨u1,u2⟩|⟨u1,u2⟩|⟨u1,u2⟩
   ·rw [h1] at u2;subst u2;have:=IJ (x:=A) (y:=-B*s1) (by grind) (by grind);rw [Lm (by grind)];rfl
   ·rw [h1] at u2;subst u2;have v:=iK.1 h2
    have e:A*A=B*B*(s1*s1):=by have:A = -B*s1:=by grind
                               subst this;grind
    have e2:A*A=B*B*(s2*s2):=by have:A = -B*s2:=by grind
                                subst this;grind
    rw [Sj (by grind)];rfl
   ·rw [h1] at u2;subst u2;have v:=pU.1 h2;have:=IJ (x:=-B*s2) (y:=A) (by grind) (by grind);rw [KD (by grind)];rfl
  ·subst b1;rw [← h1];have:A+0*s1=A:=by grind
   rw [this,a2];rfl
  ·subst b1;rw [← h1];have:A+0*s1=A:=by grind
   rw [this,a2];rfl
  ·subst b1;rw [← h1];have:A+0*s1=A:=by grind
   rw [this,a2];rfl
  ·have k1:=Rat.mul_nonneg (show 0≤B by grind) p1;have k2:=Rat.mul_nonneg (show 0≤B by grind) p3;rcases fZ (A+B*s1) with ⟨u1,u2⟩|⟨u1,u2⟩|⟨u1,u2⟩
   ·rw [h1] at u2;subst u2
    have v:A+B*s2<0:=by
     rcases fZ (A+B*s2) with ⟨t1,t2⟩|⟨t1,t2⟩|⟨t1,t2⟩
     ·exact t1
     ·rw [h2] at t2;cases t2
     ·rw [h2] at t2;cases t2
    have:=IJ (x:=B*s2) (y:=-A) (by grind) (by grind);rw [KD (by grind)];rfl
   ·rw [h1] at u2;subst u2;have v:=iK.1 h2
    have e:A*A=B*B*(s1*s1):=by have:A = -B*s1:=by grind
                               subst this;grind
    have e2:A*A=B*B*(s2*s2):=by have:A = -B*s2:=by grind
                                subst this;grind
    rw [Sj (by grind)];rfl
   ·rw [h1] at u2;subst u2;have:=IJ (x:=-A) (y:=B*s1) (by grind) (by grind);rw [Lm (by grind)];rfl
  ·have k:=Rat.mul_pos (show 0<B by grind) p4;rw [← h2,pU.2 (by grind)];rfl
  ·have k:=Rat.mul_nonneg (show 0≤B by grind) p1;rw [← h1,pU.2 (by grind)];rfl
theorem Rx{a b c:Rat}{p:Int × Int}(e:nH a b c=some p):
 (b=0∧con p a)∨(0≤c∧∃s1 s2:Rat,0≤s1∧s1≤s2∧s1*s1≤c∧c≤s2*s2∧(∃w z,dS c=some z∧ny z=some w∧s1=(w.1:Rat)*(1 / 65536)∧s2=(w.2:Rat)*(1 / 65536))∧con p (a+b*s1)∧con p (a+b*s2)):=by
 unfold nH at e;cases ha:dS a with
 |none=>rw [ha] at e;cases e
 |some x =>
  rw [ha] at e;simp only at e
  by_cases hb:b=0
  ·rw [if_pos hb] at e;injection e with e
   subst e;exact .inl ⟨hb,lH ha⟩
  ·rw [if_neg hb] at e;right;cases hy:dS b with
   |none=>rw [hy] at e;cases e
   |some y =>
    cases hz:dS c with
    |none=>rw [hy,hz] at e;cases e
    |some z =>
     rw [hy,hz] at e;simp only at e;split at e
     ·cases e
     ·rename_i hc;have h0:0≤c:=by grind
      cases hw:ny z with
      |none=>rw [hw] at e;cases e
      |some w =>
       rw [hw] at e;simp only at e;cases hp:rG y w with
       |none=>rw [hp] at e;cases e
       |some m =>
        rw [hp] at e;simp only at e;obtain ⟨k1,k2,k3,k4⟩:=Vu hw (lH hz) h0;have j1:=Rat.intCast_le_intCast.2 k3;have j2:=Rat.intCast_le_intCast.2 k4;have z0:((0:Int):Rat)=0:=rfl;rw [z0] at j1;refine ⟨h0,(w.1:Rat)*(1 / 65536),(w.2:Rat)*(1 / 65536),by grind,by grind,by grind,by grind,⟨w,z,rfl,hw,rfl,rfl⟩, ?_, ?_⟩
        ·exact qy e (lH ha) (Ae hp (lH hy) (Om (by omega) (by omega)))
        ·exact qy e (lH ha) (Ae hp (lH hy) (Om (by omega) (by omega)))
theorem SL{a c:Rat}:qV a 0 c=bI a:=by
 unfold qV;have:bI 0=0:=iK.2 rfl;rw [this,Int.zero_mul,if_pos (.inr rfl)]
class RzB (q:Rat) (n:outParam Nat):Prop where
 h:rz q≤n
theorem uN{q:Rat}{n N:Nat}[k:RzB q n](h:n≤N):rz q≤N:=Nat.le_trans k.h h
instance{a b:Rat}{m n:Nat}[h:RzB a m][k:RzB b n]:RzB (a+b) (2*(m+n)+1):=⟨by have:=jX a b;have:=h.h;have:=k.h;omega⟩
instance{a b:Rat}{m n:Nat}[h:RzB a m][k:RzB b n]:RzB (a-b) (2*(m+n)+1):=⟨by have:=kX a b;have:=h.h;have:=k.h;omega⟩
instance{a b:Rat}{m n:Nat}[h:RzB a m][k:RzB b n]:RzB (a*b) (m+n):=⟨by have:=iW a b;have:=h.h;have:=k.h;omega⟩
theorem WQ{A B C t m:Rat}{n:Int}(h0:0≤t)(h1:t*t≤C)(h2:0≤m)(h3:C≤m*m)(k1:bI (A+B*t)=n)(k2:bI (A+B*m)=n):qV A B C=n:=by
 have htm:t≤m:=by
  rcases Rat.le_total (a:=t) (b:=m) with h|h
  ·exact h
  ·rcases Rat.le_total (a:=m) (b:=t) with h'|h'
   ·by_cases e:m=t
    ·grind
    ·have:=IJ h2 (show m<t by grind)
     grind
   ·exact h'
 exact Nc h0 htm h1 h3 k1 k2
theorem WW{x y l:Rat}{n:Int}(h0:0≤l)(h1:l≤1)(hx:bI x=n)(hy:bI y=n):bI (x+l*(y-x))=n:=by
 have e:x+l*(y-x)=(1-l)*x+l*y:=by grind
 rw [e];rcases fZ x with ⟨a1,a2⟩|⟨a1,a2⟩|⟨a1,a2⟩<;>rcases fZ y with ⟨b1,b2⟩|⟨b1,b2⟩|⟨b1,b2⟩<;>rw [a2] at hx<;>rw [b2] at hy<;>subst hx<;>(try (exfalso;omega))
 ·have p1:=Rat.mul_nonneg (show 0≤1-l by grind) (show 0≤-x by grind);have p2:=Rat.mul_nonneg h0 (show 0≤-y by grind)
  have:(1-l)*x+l*y<0:=by
   by_cases hl:l=0
   ·subst hl;grind
   ·have:=Rat.mul_pos (show 0<l by grind) (show 0 < -y by grind)
    grind
  unfold bI;rw [if_pos this]
 ·subst a1 b1;rw [Rat.mul_zero,Rat.mul_zero];exact iK.2 (by grind)
 ·have p1:=Rat.mul_nonneg (show 0≤1-l by grind) (show 0≤x by grind);have p2:=Rat.mul_nonneg h0 (show 0≤y by grind)
  have:0<(1-l)*x+l*y:=by
   by_cases hl:l=0
   ·subst hl;grind
   ·have:=Rat.mul_pos (show 0<l by grind) b1
    grind
  exact pU.2 this
theorem qh{x y k:Rat}(hk:0<k)(h:x*k≤y*k):x≤y:=by
 rcases Rat.le_total (a:=x) (b:=y) with h'|h'
 ·exact h'
 ·by_cases e:x=y
  ·grind
  ·have:=Rat.mul_pos (show 0<x-y by grind) hk;grind
theorem X6{x y k:Rat}(hk:0<k)(h:x*k=y*k):x=y:=by
 have h1:=qh hk (show x*k≤y*k by grind);have h2:=qh hk (show y*k≤x*k by grind)
 grind
theorem AY{x y z s t u:Rat}{n:Int}(h1:s≤u)(h2:u≤t)(hz:z*(t-s)=x*(t-u)+y*(u-s))(hx:bI x=n)(hy:bI y=n)(h3:s<t):bI z=n:=by
 obtain ⟨l,hl⟩:∃l,l*(t-s)=u-s:=⟨(u-s) / (t-s),(by have hne:t-s≠0:=(by grind);grind)⟩
 have hk:0<t-s:=by grind
 have e:z=x+l*(y-x):=X6 hk (by grind);rw [e];refine WW (qh hk (by grind)) (qh hk (by grind)) hx hy
theorem UA{P X W C s t:Rat}{n:Int}(h0:0≤s)(h1:s≤t)(h2:s*s≤C)(h3:C≤t*t)(hW:0≤W)
 (k1:bI (P+2*X*s+W*(s*s))=n) (k2:bI (P+X*(s+t)+W*(s*t))=n) (k3:bI (P+2*X*t+W*(t*t))=n):qV (P+W*C) (2*X) C=n:=by
 by_cases hst:s=t
 ·subst hst;have hC:C=s*s:=by grind
  subst hC;refine Nc h0 (Rat.le_refl) (Rat.le_refl) (Rat.le_refl) ?_ ?_<;>rw [← k1]<;>congr 1<;>grind
 ·have hlt:s<t:=by grind
  have ht:0<t:=by grind
  have hsum:0<s+t:=by grind
  have hs0:s+t≠0:=by grind
  obtain ⟨t0,e0⟩:∃t0,t0*(s+t)=C+s*t:=⟨(C+s*t) / (s+t),by grind⟩
  have q1:=Rat.mul_nonneg (show 0≤t-s by grind) h0
  have l1:s≤t0:=by
   rcases Rat.le_total (a:=s) (b:=t0) with h|h
   ·exact h
   ·by_cases e:s=t0
    ·grind
    ·have:=Rat.mul_pos (show 0<s-t0 by grind) hsum;grind
  have l2:t0≤t:=by
   rcases Rat.le_total (a:=t0) (b:=t) with h|h
   ·exact h
   ·by_cases e:t=t0
    ·grind
    ·have:=Rat.mul_pos (show 0<t0-t by grind) hsum;grind
  have l3:t0*t0≤C:=by
   have:=Rat.mul_nonneg (show 0≤t0-s by grind) (show 0≤t-t0 by grind)
   grind
  have m0:bI (P+W*C+2*X*t0)=n:=AY l1 l2 (by grind) k1 k3 hlt
  have up:∃m,0≤m∧C≤m*m∧bI (P+W*C+2*X*m)=n:=by
   rcases Rat.le_total (a:=s*t) (b:=C) with h|h
   ·
    have ht0:t≠0:=by grind
    obtain ⟨u,eu⟩:∃u,u*t=C:=⟨C / t,by grind⟩
    have u1:s≤u:=by
     rcases Rat.le_total (a:=s) (b:=u) with h|h
     ·exact h
     ·by_cases e:s=u
      ·grind
      ·have:=Rat.mul_pos (show 0<s-u by grind) ht;grind
    have u2:u≤t:=by
     rcases Rat.le_total (a:=u) (b:=t) with h|h
     ·exact h
     ·by_cases e:t=u
      ·grind
      ·have:=Rat.mul_pos (show 0<u-t by grind) ht;grind
    refine ⟨(u+t)*(1 / 2),by grind, ?_, ?_⟩
    ·have:=yN (t-u);grind
    ·have:=AY (z:=P+X*(u+t)+W*(u*t)) u1 u2 (by grind) k2 k3 hlt;rw [← this];congr 1;grind
   ·
    by_cases hs:s=0
    ·subst hs;have hC:C=0:=by grind
     subst hC;refine ⟨0,Rat.le_refl,by grind, ?_⟩;rw [← k1];congr 1;grind
    ·have hs1:0<s:=by grind
     obtain ⟨u,eu⟩:∃u,s*u=C:=⟨C / s,by grind⟩
     have u1:s≤u:=by
      rcases Rat.le_total (a:=s) (b:=u) with h|h
      ·exact h
      ·by_cases e:s=u
       ·grind
       ·have:=Rat.mul_pos (show 0<s-u by grind) hs1;grind
     have u2:u≤t:=by
      rcases Rat.le_total (a:=u) (b:=t) with h|h
      ·exact h
      ·by_cases e:t=u
       ·grind
       ·have:=Rat.mul_pos (show 0<u-t by grind) hs1;grind
     refine ⟨(s+u)*(1 / 2),by grind, ?_, ?_⟩
     ·have:=yN (u-s);grind
     ·have:=AY (z:=P+X*(s+u)+W*(s*u)) u1 u2 (by grind) k1 k2 hlt;rw [← this];congr 1;grind
  obtain ⟨m,m1,m2,m3⟩:=up;exact WQ (Rat.le_trans h0 l1) l3 m1 m2 m0 m3
def gK(a b c f:Rat):Option (Int × Int) :=
 match nH a b c,dS f with
 |some x,some y=>vF x (-y.2,-y.1)
 |_,_=>none
def kL(ax bx ay bb c X Y Q:Rat):Int × Bool :=
 match gK ax bx c X,gK ay bb c Y,dS Q with
 |some x,some y,some q=>(match rG x x,rG y y with
  |some s,some t=>(match vF s t with
   |some u=>(match vF u (-q.2,-q.1) with
    |some r=>LG r.1 r.2
    |none=>(0,false))
   |none=>(0,false))
  |_,_=>(0,false))
 |_,_,_=>(0,false)
def Gf(c s1 s2:Rat):Prop:=0≤c∧0≤s1∧s1≤s2∧s1*s1≤c∧c≤s2*s2∧∃w z,dS c=some z∧ny z=some w∧s1=(w.1:Rat)*(1 / 65536)∧s2=(w.2:Rat)*(1 / 65536)
theorem O4{c s1 s2 t1 t2:Rat}(h:Gf c s1 s2)(k:Gf c t1 t2):s1=t1∧s2=t2:=by
 obtain ⟨_,_,_,_,_,w,z,e1,e2,e3,e4⟩:=h;obtain ⟨_,_,_,_,_,w',z',e1',e2',e3',e4'⟩:=k;rw [e1] at e1';injection e1' with e1'
 subst e1';rw [e2] at e2';injection e2' with e2'
 subst e2';exact ⟨e3.trans e3'.symm,e4.trans e4'.symm⟩
theorem Hl{a b c f:Rat}{p:Int × Int}(e:gK a b c f=some p):(b=0∧con p (a-f))∨∃s1 s2,Gf c s1 s2∧con p (a-f+b*s1)∧con p (a-f+b*s2):=by
 unfold gK at e;cases h1:nH a b c with
 |none=>rw [h1] at e;cases e
 |some x =>
  cases h2:dS f with
  |none=>rw [h1,h2] at e;cases e
  |some y =>
   rw [h1,h2] at e;simp only at e;have k0:=OG (lH h2);rcases Rx h1 with ⟨hb,k⟩|⟨h0,s1,s2,p1,p2,q1,q2,⟨w,z,e1,e2,e3,e4⟩,k1,k2⟩
   ·refine .inl ⟨hb, ?_⟩;have:=qy e k k0
    rwa [show a + -f=a-f by grind] at this
   ·refine .inr ⟨s1,s2,⟨h0,p1,p2,q1,q2,w,z,e1,e2,e3,e4⟩, ?_, ?_⟩
    ·have:=qy e k1 k0
     rwa [show a+b*s1 + -f=a-f+b*s1 by grind] at this
    ·have:=qy e k2 k0
     rwa [show a+b*s2 + -f=a-f+b*s2 by grind] at this
theorem P8{ax bx ay bb c X Y Q:Rat}{n:Int}(h:kL ax bx ay bb c X Y Q=(n,true)):
 qV ((ax-X)*(ax-X)+(ay-Y)*(ay-Y)+c*(bx*bx+bb*bb)-Q) ((ax-X)*bx+(ay-Y)*bb+((ax-X)*bx+(ay-Y)*bb)) c=n:=by
 unfold kL at h;cases h1:gK ax bx c X with
 |none=>rw [h1] at h;simp at h
 |some x =>
  cases h2:gK ay bb c Y with
  |none=>rw [h1,h2] at h;simp at h
  |some y =>
   cases h3:dS Q with
   |none=>rw [h1,h2,h3] at h;simp at h
   |some q =>
    rw [h1,h2,h3] at h;simp only at h;cases h4:rG x x with
    |none=>rw [h4] at h;simp at h
    |some s =>
     cases h5:rG y y with
     |none=>rw [h4,h5] at h;simp at h
     |some t =>
      rw [h4,h5] at h;simp only at h;cases h6:vF s t with
      |none=>rw [h6] at h;simp at h
      |some u =>
       rw [h6] at h;simp only at h;cases h7:vF u (-q.2,-q.1) with
       |none=>rw [h7] at h;simp at h
       |some r =>
        rw [h7] at h;simp only at h
        have key:∀u1 u2 v1 v2:Rat,con x u1→con x u2→con y v1→con y v2→bI (u1*u2+v1*v2-Q)=n:=λu1 u2 v1 v2 a b c d=>by
         have:=qy h7 (qy h6 (Ae h4 a b) (Ae h5 c d)) (OG (lH h3));rw [← XR h this];congr 1;grind
        have fin:∀s1 s2:Rat,Gf c s1 s2→con x (ax-X+bx*s1)→con x (ax-X+bx*s2)→con y (ay-Y+bb*s1)→con y (ay-Y+bb*s2) →
         qV ((ax-X)*(ax-X)+(ay-Y)*(ay-Y)+c*(bx*bx+bb*bb)-Q) ((ax-X)*bx+(ay-Y)*bb+((ax-X)*bx+(ay-Y)*bb)) c=n:=λs1 s2 ⟨_,p1,p2,q1,q2,_⟩ a1 a2 b1 b2=>by
         have w1:=yN bx;have w2:=yN bb
         have:=UA (P:=(ax-X)*(ax-X)+(ay-Y)*(ay-Y)-Q) (X:=(ax-X)*bx+(ay-Y)*bb) (W:=bx*bx+bb*bb) (C:=c) (n:=n) p1 p2 q1 q2 (by grind)
          (by rw [← key _ _ _ _ a1 a1 b1 b1];congr 1;grind) (by rw [← key _ _ _ _ a1 a2 b1 b2];congr 1;grind) (by rw [← key _ _ _ _ a2 a2 b2 b2];congr 1;grind)
         rw [← this];congr 1<;>grind
        rcases Hl h1 with ⟨b1,k1⟩|⟨s1,s2,hs,k1,k2⟩<;>rcases Hl h2 with ⟨b2,j1⟩|⟨t1,t2,ht,j1,j2⟩
        ·subst b1 b2;rw [show (ax-X)*0+(ay-Y)*0+((ax-X)*0+(ay-Y)*0)=(0:Rat) by grind,SL,← key _ _ _ _ k1 k1 j1 j1];congr 1;grind
        ·subst b1;have e:∀s:Rat,ax-X+0*s=ax-X:=λs=>by grind
         exact fin t1 t2 ht (by rw [e];exact k1) (by rw [e];exact k1) j1 j2
        ·subst b2;have e:∀s:Rat,ay-Y+0*s=ay-Y:=λs=>by grind
         exact fin s1 s2 hs k1 k2 (by rw [e];exact j1) (by rw [e];exact j1)
        ·obtain ⟨rfl,rfl⟩:=O4 hs ht;exact fin _ _ hs k1 k2 j1 j2
def aeu(n:Int):Bool:=decide (0≤n) && decide ((((uI n.natAbs:Nat):Int))*((uI n.natAbs:Nat):Int)=n)
def SS(a:Rat):Bool:=aeu a.num && aeu a.den
def sqR(a:Rat):Rat:=((((uI a.num.natAbs:Nat):Int)):Rat) / ((((uI (a.den:Int).natAbs:Nat):Int)):Rat)
where
 num_den_div {a:Rat}:a=(a.num:Rat) / ((a.den:Int):Rat):=by
  have h1:=jW a;have h2:=kF a;rw [h1];grind
end Go.Sw
namespace Go.Sw
open Go
@[reducible] def Q2(a b:Rat):AV:=.agg [zs a.num,zl a.num,zs a.den,zl a.den,zs b.num,zl b.num,zs b.den,zl b.den]
@[reducible] def ZQ3:AV:=.agg [.v (.bool false),.sl 1 [],.v (.bool false),.sl 1 [],.v (.bool false),.sl 1 [],.v (.bool false),.sl 1 [],.v (.bool false),.sl 1 [],.v (.bool false),.sl 1 []]
def aaP(b c:Rat):Rat:=if b=0∨c=0 then 0 else b
def aby(b c:Rat):Rat:=if b=0∨c=0 then 0 else c
def mkA(a b c:Rat):Rat:=if SS c=true then a+b*sqR c else a
def mkB(b c:Rat):Rat:=if SS c=true then 0 else aaP b c
def mkC(b c:Rat):Rat:=if SS c=true then 0 else aby b c
def ade(b c:Rat):Rat:=if b=0 then 0 else c
def ptC(b e c:Rat):Rat:=if b=0∧e=0 then 0 else c
theorem Yp{ax bx ay bb c X Y Q:Rat}(h:(kL ax bx ay bb c X Y Q).2=true):
 (kL ax bx ay bb c X Y Q).1=qV ((ax-X)*(ax-X)+(ay-Y)*(ay-Y)+c*(bx*bx+bb*bb)-Q) ((ax-X)*bx+(ay-Y)*bb+((ax-X)*bx+(ay-Y)*bb)) c :=
 (P8 (n:=(kL ax bx ay bb c X Y Q).1) (Prod.ext rfl h)).symm
section
variable {a b:Rat}
theorem Xf(h:a.num=b.num):aB [AV.c (Cell.v (.bool (decide ((a.den:Int)=(b.den:Int)))))]=AV.bool (decide (a=b)) :=
 bE (by rw [decide_eq_decide];exact ⟨λh2=>Rat.ext h (by omega),λh2=>by rw [h2]⟩)
theorem Xe(h:¬a.num=b.num):aB [AV.c (Cell.v (.bool false))]=AV.bool (decide (a=b)) :=
 bE (by symm;rw [decide_eq_false_iff_not];exact λe=>h (by rw [e]))
end
end Go.Sw
namespace Go.Sw
open Go
theorem ahf:rz 0≤1:=by decide +kernel
end Go.Sw
namespace Go.Sw
open Go Go.RowKit
class DenC (P:Program) [Wld P] (f:FuncId) (xs:List AV) (pre:outParam Prop) (c:outParam Prop) (r s:outParam AV):Prop where
 den:pre→(c→Den P f xs r)∧(¬c→Den P f xs s)
theorem jr{P:Program}[Wld P]{f:FuncId}{xs:List AV}{pre c:Prop}{r s:AV}{k:AV→Prop}[h:DenC P f xs pre c r s](hp:Pr pre)(h1:c→k r)(h2:¬c→k s):CallP (Den P) f xs k:=by
 by_cases hc:c
 ·exact ⟨r,(h.den hp.p).1 hc,h1 hc⟩
 ·exact ⟨s,(h.den hp.p).2 hc,h2 hc⟩
theorem Xo{P:Program}[Wld P]{f:FuncId}{xs:List AV}{pre c:Prop}{r s:AV}(h:pre→∀q,(c→q=r)→(¬c→q=s)→Den P f xs q)(hp:pre):(c→Den P f xs r)∧(¬c→Den P f xs s) :=
 ⟨λhc=>h hp r (λ_=>rfl) (λn=>absurd hc n),λhc=>h hp s (λn=>absurd n hc) (λ_=>rfl)⟩
end Go.Sw
namespace Go.Sw
open Go
class SzB (n:Int) (k:outParam Nat):Prop where
 h:sz n≤k
theorem vO{n:Int}{k K:Nat}[i:SzB n k](h:k≤K):sz n≤K:=Nat.le_trans i.h h
instance{q:Rat}{n:Nat}[i:RzB q n]:SzB q.num n:=⟨Nat.le_trans (iM q) i.h⟩
instance{q:Rat}{n:Nat}[i:RzB q n]:SzB (q.den:Int) n:=⟨Nat.le_trans (iR q) i.h⟩
instance{a b:Int}{m n:Nat}[i:SzB a m][j:SzB b n]:SzB (a*b) (m+n):=⟨by have:=gU a b;have:=i.h;have:=j.h;omega⟩
section
variable {a b c:Rat}
end
section
variable {a b c:Rat} {q:AV}
theorem ab2(h:¬bI a=bI b):aB [AV.c (Cell.v (.int .i64 (jk (bI a) (bI b))))]=AV.int .i64 (iI a b):=iE (by
 rcases fZ a with ⟨a1,a2⟩|⟨a1,a2⟩|⟨a1,a2⟩<;>rcases fZ b with ⟨b1,b2⟩|⟨b1,b2⟩|⟨b1,b2⟩<;>rw [a2,b2] at h ⊢<;>first
  |exact absurd rfl h
  |(rw [Lm (by grind)];rfl)
  |(rw [KD (by grind)];rfl))
theorem adO(hb:¬b=0)(e:¬b=0→q=AV.tup [R (a / b),AV.int .i64 0]):aB [R (((a.num*b.den:Int):Rat) / ((a.den*b.num:Int):Rat)),AV.c (Cell.v (.int .i64 0))]=q:=by
 rw [e hb,Oe a b hb];rfl
theorem QU(h:(a.den:Int)*b.num=0):b=0:=by
 rcases Int.mul_eq_zero.1 h with h|h
 ·exact absurd h (aH a)
 ·exact (MG b).1 h
theorem VP(h:¬b=0):(a.den:Int)*b.num≠0:=λe=>h (QU e)
theorem abm(n:Int):((0:Int):Rat)=(n:Rat) / ((0:Int):Rat):=by rw [← ZI n];decide +kernel
end
theorem FM(a b c:Rat):-1≤qV a b c∧qV a b c≤1:=by
 unfold qV;have h1:=nC a;have h2:=nS (nC b) (nC c);have h3:=nS (nC a) (BN (a*a) (b*b*c))
 repeat' split
 all_goals first|exact h1|exact h2|exact h3
theorem agZ(a b c:Rat):IntKind.i64.wrap (0-qV a b c) = -qV a b c:=by
 have:=FM a b c;rw [bY (by omega) (by omega)];omega
theorem adg{a b c:Rat}{n:Int}(h:qV a b c=n):aB [AV.c (Cell.v (.int .i64 (IntKind.i64.wrap (0-qV a b c))))]=AV.int .i64 (-n):=iE (by rw [agZ,h])
theorem adh{a b c d e f g h:Rat}{n:Int}(k:(kL a b c d e f g h).2=true)(hn:(kL a b c d e f g h).1=n)(h1 : -1≤n)(h2:n≤1):aB [AV.c (Cell.v (.int .i64 (IntKind.i64.wrap (0-(kL a b c d e f g h).1))))]=AV.int .i64 (-n):=iE (by
 rw [hn,bY (by omega) (by omega)];omega)
instance{a b:Rat}{m n:Nat}[h:RzB a m][k:RzB b n]:RzB (a / b) (m+n+1):=⟨by
 by_cases hb:b=0
 ·subst hb;have:a / 0=0:=by rw [Rat.div_def,Rat.inv_zero,Rat.mul_zero]
  rw [this];have:=ahf;omega
 ·have:=aay a b hb;have:=h.h;have:=k.h;omega⟩
theorem adp(a:Rat):((0:Int):Rat)=a / 0:=by
 have:((0:Int):Rat)=0:=rfl;rw [this,Rat.div_def,Rat.inv_zero,Rat.mul_zero]
section
variable {a b c:Rat}
theorem agG(h:bI b*bI c=0):aB [AV.c (Cell.v (.int .i64 (bI a)))]=AV.int .i64 (qV a b c):=iE (by unfold qV;rw [if_pos (.inr h)])
theorem af7(h:bI a=bI b*bI c):aB [AV.c (Cell.v (.int .i64 (bI a)))]=AV.int .i64 (qV a b c):=iE (by unfold qV;rw [if_pos (.inl h)])
theorem afB(h1:¬bI b*bI c=0)(h2:¬bI a=bI b*bI c)(h3:a=0):aB [AV.c (Cell.v (.int .i64 (bI b*bI c)))]=AV.int .i64 (qV a b c):=iE (by
 unfold qV;rw [if_neg (by rintro (h|h);exact h2 h;exact h1 h),if_pos (iK.2 h3)])
theorem afP(h1:¬bI b*bI c=0)(h2:¬bI a=bI b*bI c)(h3:¬a=0):aB [AV.c (Cell.v (.int .i64 (bI a*iI (a*a) (b*b*c))))]=AV.int .i64 (qV a b c):=iE (by
 rw [ag5 h2 h1 (λe=>h3 (iK.1 e))])
end
theorem I9(a b c f:Rat):Gw ((gK a b c f).getD (0,0)):=by
 unfold gK;have h1:=JE a b c;have h2:=jB f;cases h3:nH a b c with
 |none=>unfold Gw;simp only [Option.getD_none];decide
 |some x =>
  cases h4:dS f with
  |none=>unfold Gw;simp only [Option.getD_none];decide
  |some y =>
   rw [h3] at h1;rw [h4] at h2;simp only [Option.getD_some] at h1 h2;exact FI h1 (by unfold Gw at *;simp only;omega)
theorem X7{a b c f:Rat}(h:(!(nH a b c).isSome)=true∨(!(dS f).isSome)=true):(none:Option (Int × Int))=gK a b c f:=by
 unfold gK;rcases h with h|h
 ·cases h1:nH a b c with
  |none=>rfl
  |some x=>rw [h1] at h;cases h
 ·cases h1:nH a b c with
  |none=>rfl
  |some x=>cases h2:dS f with
   |none=>rfl
   |some y=>rw [h2] at h;cases h
theorem aam{a b c f:Rat}(h:(!(nH a b c).isSome)=false)(k:(!(dS f).isSome)=false):vF ((nH a b c).getD (0,0)) (-((dS f).getD (0,0)).2,-((dS f).getD (0,0)).1)=gK a b c f:=by
 unfold gK;cases h1:nH a b c with
 |none=>rw [h1] at h;cases h
 |some x=>cases h2:dS f with
  |none=>rw [h2] at k;cases k
  |some y=>rfl
section
variable {ax bx ay bb c X Y Q:Rat}
theorem aha{p:Int × Bool}(h:p=(0,false)):aB [AV.c (Cell.v (.int .i64 0)),AV.c (Cell.v (.bool false))]=AV.tup [.int .i64 p.1,.bool p.2]:=by rw [h];rfl
theorem agY(h:(!(gK ax bx c X).isSome)=true∨(!(gK ay bb c Y).isSome)=true∨(!(dS Q).isSome)=true):kL ax bx ay bb c X Y Q=(0,false):=by
 unfold kL;cases h1:gK ax bx c X with
 |none=>rfl
 |some x=>cases h2:gK ay bb c Y with
  |none=>rfl
  |some y=>cases h3:dS Q with
   |none=>rfl
   |some q=>rw [h1,h2,h3] at h;simp at h
theorem aeA{x y q:Int × Int}(h1:(!(gK ax bx c X).isSome)=false)(h2:(!(gK ay bb c Y).isSome)=false)(h3:(!(dS Q).isSome)=false)(e1:x=(gK ax bx c X).getD (0,0))(e2:y=(gK ay bb c Y).getD (0,0))(e3:q=(dS Q).getD (0,0)):
 kL ax bx ay bb c X Y Q=(match rG x x,rG y y with
 |some s,some t=>(match vF s t with
  |some u=>(match vF u (-q.2,-q.1) with
   |some r=>LG r.1 r.2
   |none=>(0,false))
  |none=>(0,false))
 |_,_=>(0,false)):=by
 subst e1 e2 e3;unfold kL;cases k1:gK ax bx c X with
 |none=>rw [k1] at h1;cases h1
 |some x=>cases k2:gK ay bb c Y with
  |none=>rw [k2] at h2;cases h2
  |some y=>cases k3:dS Q with
   |none=>rw [k3] at h3;cases h3
   |some q=>rfl
end
end Go.Sw
namespace Go.Sw
open Go
def Cau(f:Nat→Rat):Prop:=∀d:Rat,0<d→∃N,∀m n,N≤m→N≤n→f m<f n+d
def PosS(f:Nat→Rat):Prop:=∃d:Rat,0<d∧∃N,∀n,N≤n→d<f n
def NulS(f:Nat→Rat):Prop:=∀d:Rat,0<d→∃N,∀n,N≤n→-d<f n∧f n<d
def Bnd(f:Nat→Rat):Prop:=∃B:Rat,0<B∧∃N,∀n,N≤n→-B<f n∧f n<B
def Zt(f:Nat→Rat)(n:Int):Prop:=(n=1∧PosS f)∨(n = -1∧PosS λk=>-f k)∨(n=0∧NulS f)
theorem Nz{x y B e:Rat}(h1 : -B<x)(h2:x<B)(h3 : -e<y)(h4:y<e):x*y<B*e:=by
 have p1:=Rat.mul_pos (show 0<B-x by grind) (show 0<e+y by grind);have p2:=Rat.mul_pos (show 0<B+x by grind) (show 0<e-y by grind)
 grind
theorem VK{x y B e:Rat}(h1 : -B<x)(h2:x<B)(h3 : -e<y)(h4:y<e):-(B*e)<x*y:=by
 have:=Nz (x:=-x) (y:=y) (B:=B) (e:=e) (by grind) (by grind) h3 h4
 grind
theorem U8{a b:Rat}(h1:0<a)(h2:0<b):0<a / b:=by
 have hb:b≠0:=by grind
 rcases Rat.le_total (a:=a / b) (b:=0) with h|h
 ·have p:=Rat.mul_nonneg (show 0≤-(a / b) by grind) (show 0≤b by grind);have e:a / b*b=a:=by grind
  grind
 ·by_cases e:a / b=0
  ·have e':a / b*b=a:=by grind
   rw [e] at e';grind
  ·grind
theorem NulS.neg{f:Nat→Rat}(h:NulS f):NulS λn=>-f n:=λd hd=>by
 obtain ⟨N,hN⟩:=h d hd;exact ⟨N,λn hn=>by have:=hN n hn;constructor<;>grind⟩
theorem NulS.mul{f g:Nat→Rat}(h:NulS f)(k:Bnd g):NulS λn=>f n*g n:=λd hd=>by
 obtain ⟨B,hB,M,hM⟩:=k;obtain ⟨N,hN⟩:=h (d / B) (U8 hd hB);refine ⟨N+M,λn hn=>?_⟩;have a:=hN n (by omega);have b:=hM n (by omega);have e:d / B*B=d:=by have:B≠0:=(by grind);grind
 have p1:=Nz a.1 a.2 b.1 b.2;have p2:=VK a.1 a.2 b.1 b.2;rw [e] at p1 p2;exact ⟨p2,p1⟩
theorem NulS.zero:NulS λ_=>0:=λd hd=>⟨0,λn _=>by constructor<;>grind⟩
theorem NulS.cg{f g:Nat→Rat}(h:NulS f)(e:∀n,f n=g n):NulS g:=by rwa [funext e] at h
theorem Cau.const(q:Rat):Cau λ_=>q:=λd hd=>⟨0,λm n _ _=>by grind⟩
theorem Cau.neg{f:Nat→Rat}(h:Cau f):Cau λn=>-f n:=λd hd=>by
 obtain ⟨N,hN⟩:=h d hd;exact ⟨N,λm n hm hn=>by have:=hN n m hn hm;grind⟩
theorem PosS.mul{f g:Nat→Rat}(h:PosS f)(k:PosS g):PosS λn=>f n*g n:=by
 obtain ⟨d,hd,N,hN⟩:=h;obtain ⟨e,he,M,hM⟩:=k;refine ⟨d*e,Rat.mul_pos hd he,N+M,λn hn=>?_⟩;have a:=hN n (by omega);have b:=hM n (by omega);have p1:=Rat.mul_pos (show 0<f n-d by grind) (show 0<g n by grind);have p2:=Rat.mul_pos hd (show 0<g n-e by grind)
 grind
theorem PosS.cg{f g:Nat→Rat}(h:PosS f)(e:∀n,f n=g n):PosS g:=by rwa [funext e] at h
theorem PosS.not{f:Nat→Rat}(h:PosS f)(k:PosS λn=>-f n):False:=by
 obtain ⟨d,hd,N,hN⟩:=h;obtain ⟨e,he,M,hM⟩:=k;have:=hN (N+M) (by omega);have:=hM (N+M) (by omega)
 grind
namespace Zt
theorem ex{f:Nat→Rat}(h:Cau f):∃n,Zt f n:=by
 by_cases h1:PosS f
 ·exact ⟨1,.inl ⟨rfl,h1⟩⟩
 ·by_cases h2:PosS λn=>-f n
  ·exact ⟨-1,.inr (.inl ⟨rfl,h2⟩)⟩
  ·refine ⟨0,.inr (.inr ⟨rfl,λd hd=>?_⟩)⟩;obtain ⟨N,hN⟩:=h (d*(1 / 2)) (by grind)
   have a1:∃m,N≤m∧f m≤d*(1 / 2):=Classical.byContradiction λhc=>h1 ⟨d*(1 / 2),by grind,N,λn hn=>by
    rcases Rat.le_total (a:=f n) (b:=d*(1 / 2)) with h|h
    ·exact absurd ⟨n,hn,h⟩ hc
    ·by_cases e:f n=d*(1 / 2)
     ·exact absurd ⟨n,hn,by grind⟩ hc
     ·grind⟩
   have a2:∃m,N≤m∧-f m≤d*(1 / 2):=Classical.byContradiction λhc=>h2 ⟨d*(1 / 2),by grind,N,λn hn=>by
    rcases Rat.le_total (a:=-f n) (b:=d*(1 / 2)) with h|h
    ·exact absurd ⟨n,hn,h⟩ hc
    ·by_cases e : -f n=d*(1 / 2)
     ·exact absurd ⟨n,hn,by grind⟩ hc
     ·grind⟩
   obtain ⟨m1,g1,k1⟩:=a1;obtain ⟨m2,g2,k2⟩:=a2;refine ⟨N,λn hn=>?_⟩;have b1:=hN n m1 hn g1;have b2:=hN m2 n g2 hn;constructor<;>grind
theorem cg{f g:Nat→Rat}{n:Int}(h:Zt f n)(e:∀k,f k=g k):Zt g n:=by rwa [funext e] at h
theorem neg{f:Nat→Rat}{n:Int}(h:Zt f n):Zt (λk=>-f k) (-n):=by
 rcases h with ⟨rfl,h⟩|⟨rfl,h⟩|⟨rfl,h⟩
 ·exact .inr (.inl ⟨rfl,h.cg λn=>by grind⟩)
 ·exact .inl ⟨rfl,h⟩
 ·exact .inr (.inr ⟨rfl,h.neg⟩)
theorem const(q:Rat):Zt (λ_=>q) (bI q):=by
 rcases fZ q with ⟨a,e⟩|⟨a,e⟩|⟨a,e⟩<;>rw [e]
 ·exact .inr (.inl ⟨rfl,⟨-q*(1 / 2),by grind,0,λn _=>by grind⟩⟩)
 ·subst a;exact .inr (.inr ⟨rfl,NulS.zero⟩)
 ·exact .inl ⟨rfl,⟨q*(1 / 2),by grind,0,λn _=>by grind⟩⟩
end Zt
def agn(n:Nat):Rat:=1 / ((n:Rat)+1)
def rtS(c:Rat)(n:Nat):Rat:=((uI (c*(((n:Rat)+1)*((n:Rat)+1))).floor.toNat:Nat):Rat)*agn n
def v2(A B M:Rat)(n:Nat):Rat:=A+B*rtS M n
def v4(A B C D M N:Rat)(n:Nat):Rat:=v2 A B M n+v2 C D M n*rtS N n
end Go.Sw
