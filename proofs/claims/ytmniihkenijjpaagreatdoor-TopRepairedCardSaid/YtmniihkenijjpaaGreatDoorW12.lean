/-
  Rules of the abstract run, plain laws, and what functions answer, for the law TopRepaired.
  Conditions: none.
-/
import Derived.Test.YtmniihkenijjpaaGreatDoorW11
set_option linter.all false
namespace Go.Proofs.YtmniihkenijjpaaGreatDoor
open Go Go.RowKit Go.Sw
set_option maxRecDepth 100000
set_option maxHeartbeats 16000000
instance Ws:DenI Tryz.prog 81 [] (True) (Z 1):=⟨λhp=>by
 refine aA Tryz.func81 rfl ?_
 repeat'((try(conv=>whnf));first
  |refine y5 ?_ ?_|apply zaq)
 all_goals(try apply zar)
 all_goals first|rfl|decide⟩
instance WE(n:Int):DenI Tryz.prog 42 [.int .i64 n] (-9223372036854775808<=n/\n<=9223372036854775807) (R (n:Rat)):=⟨λhp=>by
 refine aA Tryz.func42 rfl ?_
 repeat'((try(conv=>whnf));first
  |refine aaj ?_|refine y5 ?_ ?_|apply zaq)
 all_goals(try apply zar)
 all_goals first
  |(show aai _=_;rfl)|(exact hp)⟩
instance VQ(l h:Int):DenI Tryz.prog 333 [.int .i64 l,.int .i64 h] (True) (Ov (ET l h)):=⟨λhp=>by
 refine aA Tryz.func333 rfl ?_
 repeat'((try(conv=>whnf));first
  |(with_reducible first|refine aam ?_|refine aao ?_|refine aah (λ_=>?_) (λ_=>?_))|apply zaq)
 all_goals first
  |(rw[CB ω ω];rfl)|(rw[wS ω];rfl)⟩
instance Y8(l h:Int):DenI Tryz.prog 305 [Iv l h] (-2305843009213693952<=l/\l<=2305843009213693952∧-2305843009213693952<=h/\h<=2305843009213693952) (Iv (-h) (-l)):=⟨λhp=>by
 refine aA Tryz.func305 rfl ?_
 repeat'((try(conv=>whnf));first
  |apply zaq)
 rw[aT ω ω,aT ω ω,Int.zero_sub,Int.zero_sub];rfl⟩
instance Yz(n:Int):DenI Tryz.prog 355 [.int .i64 n] (-9223372036854775808<=n/\n<=9223372036854775807) (.int .u64 n.natAbs):=⟨λhp=>by
 refine aA Tryz.func355 rfl ?_
 repeat'((try(conv=>whnf));first
  |(with_reducible refine aah (λ_=>?_) (λ_=>?_))|apply zaq)
 all_goals(refine iE ?_;simp only[IntKind.wrap_u64];omega)⟩
instance Yh(l h:Int):DenI Tryz.prog 306 [Iv l h] (True) (.tup [.int .i64 (BF l h).1,.bool (BF l h).2]):=⟨λhp=>by
 refine aA Tryz.func306 rfl ?_
 repeat'((try(conv=>whnf));first
  |(with_reducible first|refine aam ?_|refine aao ?_|refine aah (λ_=>?_) (λ_=>?_))|refine zas ζ ?_|apply zaq)
 all_goals(refine Yw ?_ ?_<;>unfold BF<;>(repeat' split)<;>simp_all<;>omega)⟩
instance V6(a b:Nat):DenI Tryz.prog 327 [.int .u64 a,.int .u64 b] (a<18446744073709551616/\b<18446744073709551616) (.tup [.int .u64 (a*b / 18446744073709551616:Nat),.int .u64 (a*b % 18446744073709551616:Nat)]):=⟨λhp=>by
 refine aA Tryz.func327 rfl ?_
 repeat'((try(conv=>whnf));first
  |refine aax ?_ ?_|apply zaq)
 all_goals(try apply zar)
 all_goals first
  |(show(0:Int)<=_;decide)|(simp only[XU,TK,Um,e32,e16,e48,uD,Sl,Gf,wu,<-KD,<-Int.natCast_add];obtain⟨m1,m2,m3,m4,m5⟩:=FD (a:=a) (b:=b) hp.1 hp.2 rfl rfl rfl rfl;refine iE2 ?_ rfl;rw[<-m1];apply congrArg Nat.cast;omega)⟩
instance Uc(x y:Int):DenI Tryz.prog 334 [.int .i64 x,.int .i64 y] ((-9223372036854775808<=x/\x<=9223372036854775807)∧-9223372036854775808<=y/\y<=9223372036854775807) (.tup [.int .i64 (lU x y).1,.int .i64 (lU x y).2.1,.bool (lU x y).2.2]):=⟨λhp=>by
 refine aA Tryz.func334 rfl ?_
 repeat'((try(conv=>whnf));first
  |refine y5 ?_ ?_|(with_reducible first|refine aam ?_|refine aao ?_|refine aah (λ_=>?_) (λ_=>?_)|refine aav (λ_=>?_) (λ_=>?_))|refine zat (λ_=>?_) (λ_=>?_)|refine aax ?_ ?_|apply zaq)
 all_goals(try apply zar)
 all_goals(try simp only[TK,Um,e16,e48,uD,Gf]at *)
 all_goals first
  |exact hp.1|exact hp.2|(show(0:Int)<=_;decide)|(constructor<;>omega)|(refine BH ?_;exact QT ξ)|(rw[Ud ω]at *;refine BH ?_;exact Md (x:=x) (y:=y) ξ)|(rw[Ud ω]at *;have q1:=w1 (q:=((x.natAbs*y.natAbs/65536:Nat):Int)) ω ξ;have q2:=w2 (q:=((x.natAbs*y.natAbs/65536:Nat):Int)) ω ξ;have q3:=w3 (q:=((x.natAbs*y.natAbs/65536:Nat):Int)) ω ξ;have q4:=w4 (q:=((x.natAbs*y.natAbs/65536:Nat):Int)) ω ξ;rename_i g1 g2 g3 g4 hl;(try rw[q1]at hl);(try rw[q2]at hl);(try rw[q3]at hl);(try rw[q4]at hl);(try rw[q1]);(try rw[q2]);(try rw[q3]);(try rw[q4]);clear q1 q2 q3 q4;first|refine Dc (z:=true) g2 g3 g1 (decide_eq_true ω) rfl rfl ?_|refine Dc (z:=false) g2 g3 g1 (decide_eq_false ω) rfl rfl ?_)
 all_goals first|exact decide_eq_decide.2 ω|exact(decide_eq_false ω).symm⟩
instance(k:Nat):DenI Tryz.prog 160 [.bool false,.c (.sl 1 (List.replicate k [Cell.v (.int .u32 0)]++[[Cell.v (.int .u32 1)]]))] True (Z ((1000000000 ^ k:Nat):Int)):=⟨λ_=>by
 have h:=(inferInstance:DenI Tryz.prog 160 [.bool false,.c (lmc (List.replicate k 0++[1]))] _ _).den ((iQ k).append (Lb.cons ω Lb.nil));rw[Ar]at h;unfold lmc at h;rw[dI,List.map_replicate]at h
 exact h⟩
instance Yg(a:Int):DenI Tryz.prog 366 [Z a] (sz a<=100000000) (.tup [Z (if a<0 then 0 else lM a.natAbs),.int .i64 (if a<0 then 7 else 0)]):=⟨λhp=>by
 refine aA Tryz.func366 rfl ?_
 repeat'((try(conv=>whnf));first
  |refine aaj ?_|refine y5 ?_ ?_|(with_reducible refine aah (λ_=>?_) (λ_=>?_))|refine aax ?_ ?_|refine aaW ?_ ?_|apply zaq)
 all_goals(try apply zar)
 all_goals have hl:(lim a.natAbs).length<=100000000:=hp
 all_goals first
  |((conv=>whnf);refine Sw.Loop.inv (α:=Nat) (λx=>[(1,.ptr 1 0),(2,.ptr 2 0),(3,.int .i64 0),(5,.ptr 5 0),(6,.ptr 6 0)]) (λx=>[(1,.var [zs a,zl a]),(2,.var [.v (.bool false),.sl 1 []]),(5,.var [zs x,zl x]),(6,.var [zs 2,zl 2])]) (λx=>0<x/\a.natAbs<(x+1)*(x+1)/\sz x<=200000000) (λx=>x) (1000000000^(((lim a.natAbs).length+1)/2)) ?_ ?_ ?_ (λx hx=>?_))|skip
 all_goals(repeat'((try(conv=>whnf));first
  |refine aaj ?_|refine y5 ?_ ?_|(with_reducible refine aah (λ_=>?_) (λ_=>?_))|refine zas ζ ?_|apply zaq))
 all_goals(try apply zar)
 all_goals first|(show SubE _ _;repeat'(first|exact trivial|refine And.intro ?_ ?_))|(show SubB _ _;repeat'(first|exact trivial|refine And.intro ?_ ?_))|skip
 all_goals(try rfl)
 all_goals(try simp only[dO]at *)
 all_goals(try simp only[aN,au,oL,pJ]at *)
 all_goals(try rw[Ju ω])
 all_goals(try simp only[fB,xC,dY,dK,dZ])
 all_goals(try simp only[Jc (show 0<=a by omega),Ht]at *)
 all_goals first
  |exact Mc ξ|exact J6 ξ ξ|with_reducible exact LK ξ ξ ξ|((conv=>whnf);exact⟨(x+a.natAbs/x)/2,⟨⟨rfl,rfl,rfl,rfl,rfl,trivial⟩,⟨rfl,rfl,rfl,rfl,trivial⟩,Gm ξ ξ ξ,by show(x+a.natAbs/x)/2<x;omega⟩⟩)|exact Ah rfl hl|(show ld _ _=some _;rfl)|(have z1:=@NZ a;have z2:=jM;have z3:=kM;have z4:=fV (n:=2) ω ω;(repeat' apply And.intro)<;>first|assumption|omega|decide|(simp;done)|(have z5:=z1 (x:=x);have z6:=z2 x ((a.natAbs/x:Nat):Int);omega)|skip)⟩
instance SI(a:Rat):DenI Tryz.prog 302 [R a] (rz a<=10000000) (Ov (bD a)):=⟨λhp=>by
 refine aA Tryz.func302 rfl ?_
 repeat'((try(conv=>whnf));first
  |refine aaj ?_|refine y5 ?_ ?_|(with_reducible first|refine aam ?_|refine aao ?_|refine aav (λ_=>?_) (λ_=>?_))|refine zas ζ ?_|apply zaq)
 all_goals(try apply zar)
 all_goals first
  |exact RG (UU ξ)|exact RG (VA ξ)|(rename_i g1 g2;rw[if_pos g1,if_pos g2];rfl)|(have z1:=jh a ((65536:Int):Rat);have z2:=Yd;have z3:=jP (a*((65536:Int):Rat));have z4:=Gs (-(a*((65536:Int):Rat)));omega)⟩
instance f_add(a b c d:Int):DenI Tryz.prog 304 [Iv a b,Iv c d] (-2305843009213693952<=a/\a<=2305843009213693952∧-2305843009213693952<=b/\b<=2305843009213693952∧-2305843009213693952<=c/\c<=2305843009213693952∧-2305843009213693952<=d/\d<=2305843009213693952) (Ov (mg (a,b) (c,d))):=⟨λhp=>by
 refine aA Tryz.func304 rfl ?_
 repeat'((try(conv=>whnf));first
  |refine aaj ?_|apply zaq)
 rw[aT ω ω,aT ω ω];rfl⟩
instance Xc(n:Int):DenI Tryz.prog 356 [.int .i64 n] (0<=n/\n<=2305843009213693952) (.tup [.int .i64 (rt n),.bool (decide (rt n*rt n=n*65536))]):=⟨λhp=>by
 refine aA Tryz.func356 rfl ?_
 repeat'((try(conv=>whnf));first
  |refine aaj ?_|refine y5 ?_ ?_|refine zas ζ ?_|apply zaq)
 all_goals(try apply zar)
 all_goals(have hn:=Jj hp.1 hp.2;have h0:0=0:=rfl)
 all_goals(try simp only[SV,zB])
 all_goals first
  |exact Yw (if_pos (show -9223372036854775808<=rt n/\rt n<=9223372036854775807 by omega)) rfl|omega|(have z1:=fG n 65536;have z2:=szl n ω ω;have z3:=szl 65536 ω ω;have z4:=szl (rt n) ω ω;omega)⟩
instance XI(l h:Int):DenI Tryz.prog 335 [Iv l h] (l<=h∧-2305843009213693952<=l/\l<=2305843009213693952∧-2305843009213693952<=h/\h<=2305843009213693952) (Ov (iJ (l,h))):=⟨λhp=>by
 refine aA Tryz.func335 rfl ?_
 repeat'((try(conv=>whnf));first
  |refine aaj ?_|refine y5 ?_ ?_|(with_reducible first|refine aah (λ_=>?_) (λ_=>?_)|refine aav (λ_=>?_) (λ_=>?_))|apply zaq)
 all_goals(try apply zar)
 all_goals(try rw[Oz]at *)
 all_goals first
  |exact RG (if_pos ξ)|exact Vb ξ ξ|(have hn:=Jj (n:=h) ω ω;rw[aT ω ω];exact TQ ξ ξ)|(constructor<;>omega)⟩
instance YN(a b c d:Int):DenI Tryz.prog 303 [Iv a b,Iv c d] (-2305843009213693952<=a/\a<=2305843009213693952∧-2305843009213693952<=b/\b<=2305843009213693952∧-2305843009213693952<=c/\c<=2305843009213693952∧-2305843009213693952<=d/\d<=2305843009213693952) (Ov (kJ (a,b) (c,d))):=⟨λhp=>by
 refine aA Tryz.func303 rfl ?_
 all_goals(repeat'((try rw[Ci]);(try rw[yE]);(try(conv=>whnf));first
  |refine y5 ?_ ?_|refine cZ rfl ?_|refine dR rfl ?_|refine zat (λ_=>?_) (λ_=>?_)|(with_reducible first|refine aaA ?_|refine aaK ?_)|refine Sw.Loop.unroll ?_|apply zaq))
 all_goals(try apply zar)
 all_goals(try simp only[Jq,GZ])
 all_goals first
  |exact RG (nR (.inl rfl) (.inl rfl) (by with_reducible assumption))|exact RG (nR (.inl rfl) (.inr rfl) (by with_reducible assumption))|exact RG (nR (.inr rfl) (.inl rfl) (by with_reducible assumption))|exact RG (nR (.inr rfl) (.inr rfl) (by with_reducible assumption))|(rename_i g1 g2 g3 g4;exact Gn g1 g2 g3 g4)|(constructor<;>constructor<;>omega)⟩
instance WJ(a b c:Rat):DenI Tryz.prog 307 [Q3 a b c] (rz a<=100000/\rz b<=100000/\rz c<=100000) (Ov (iL a b c)):=⟨λhp=>by
 refine aA Tryz.func307 rfl ?_
 repeat'((try(conv=>whnf));first
  |refine aaj ?_|refine y5 ?_ ?_|(with_reducible first|refine aam ?_|refine aao ?_|refine aah (λ_=>?_) (λ_=>?_))|refine zat (λ_=>?_) (λ_=>?_)|apply zaq)
 all_goals(try apply zar)
 all_goals(try simp only[Prod.eta]at *)
 all_goals first
  |omega|(have z1:=fE a;have z2:=fE b;have z3:=fE c;have z4:=I8 z3;have z5:=qV ((bD b).getD (0,0)) ((iJ ((bD c).getD (0,0))).getD (0,0));unfold wE at *;omega)|refine Ux ?_|(show Ov (bD a)=_;refine congrArg Ov ?_)|(show Ov (mg _ _)=_;refine congrArg Ov ?_)
 all_goals(unfold iL;(try simp only[yD,dQ]at *);rcases h1:bD a with _|x<;>rcases h2:bD b with _|y<;>rcases h3:bD c with _|z<;>simp_all)
 all_goals(rcases h4:iJ z with _|s<;>simp_all)
 all_goals(rcases h5:kJ y s with _|p<;>simp_all)⟩
instance YZ(n:Int):DenI Tryz.prog 202 [.int .i64 n] (True) (.bool false):=⟨λhp=>by
 refine aA Tryz.func202 rfl ?_
 all_goals(repeat'((try(conv=>whnf));first
  |apply zaq))
 all_goals first
  |(refine bE ?_;simp)⟩
instance YJ(m n:Int):DenI Tryz.prog 164 [.int .i64 m,.int .i64 n] (True) (.int .i64 (fC m n)):=⟨λhp=>by
 refine aA Tryz.func164 rfl ?_
 all_goals(repeat'((try(conv=>whnf));first
  |refine aaj ?_|(with_reducible first|refine aao ?_|refine aah (λ_=>?_) (λ_=>?_))|apply zaq))
 all_goals first
  |(refine iE ?_;unfold fC;(repeat' split)<;>omega)⟩
instance Zu(a b:Rat):DenI Tryz.prog 124 [R a,R b] (rz a<=10000000/\rz b<=10000000) (.int .i64 (dU a b)):=⟨λhp=>by
 have i_a:RzB a 10000000:=⟨hp.1⟩
 have i_b:RzB b 10000000:=⟨hp.2⟩
 all_goals refine aA Tryz.func124 rfl ?_
 all_goals(repeat'((try(conv=>whnf));first
  |refine aaj ?_|refine y5 ?_ ?_|(with_reducible refine aav (λ_=>?_) (λ_=>?_))|refine zas ζ ?_|apply zaq))
 all_goals(try apply zar)
 all_goals(try simp only[dO]at *)
 all_goals first
  |with_reducible exact PU ξ|rfl|exact zau⟩
instance Y7(a b:Rat):DenC Tryz.prog 237 [R a,R b] (rz a<=10000000/\rz b<=10000000) (b=0) (.tup [ZR,.int .i64 6]) (.tup [R (a / b),.int .i64 0]):=⟨aib λhp q e1 e2=>by
 have i_a:RzB a 10000000:=⟨hp.1⟩
 have i_b:RzB b 10000000:=⟨hp.2⟩
 all_goals refine aA Tryz.func237 rfl ?_
 all_goals(repeat'((try(conv=>whnf));first
  |refine aaj ?_|refine y5 ?_ ?_|(with_reducible refine aah (λ_=>?_) (λ_=>?_))|refine zas ζ ?_|apply zaq))
 all_goals(try apply zar)
 all_goals(try simp only[dO]at *)
 all_goals first
  |(rw[e1 ξ];rfl)|with_reducible exact Vo ξ e2|(refine⟨Jo ξ, ?_, ?_⟩<;>exact rC ω)|exact zau⟩
instance XJ(n d:Int):DenC Tryz.prog 253 [Z n,Z d] (sz n<=500000000/\sz d<=500000000) (d=0) (.tup [ZR,.int .i64 6]) (.tup [R ((n:Rat) / d),.int .i64 0]):=⟨aib λhp q e1 e2=>by
 have i_n:SzB n 500000000:=⟨hp.1⟩
 have i_d:SzB d 500000000:=⟨hp.2⟩
 all_goals refine aA Tryz.func253 rfl ?_
 all_goals(repeat'((try(conv=>whnf));first
  |refine aaj ?_|refine y5 ?_ ?_|(with_reducible refine aah (λ_=>?_) (λ_=>?_))|apply zaq))
 all_goals(try apply zar)
 all_goals(try simp only[dO]at *)
 all_goals first
  |(rw[e1 ξ];rfl)|(rw[e2 ξ];rfl)|(refine⟨ξ, ?_, ?_⟩<;>exact rC ω)⟩
instance Xt(n d:Int):DenI Tryz.prog 226 [.int .i64 n,.int .i64 d] ((-9223372036854775808<=n/\n<=9223372036854775807)∧-9223372036854775808<=d/\d<=9223372036854775807) (R ((n:Rat) / d)):=⟨λhp=>by
 refine aA Tryz.func226 rfl ?_
 all_goals(repeat'((try(conv=>whnf));first
  |refine y5 ?_ ?_|(with_reducible refine aah (λ_=>?_) (λ_=>?_))|apply zaq))
 all_goals(try apply zar)
 all_goals first
  |rfl|omega|(subst d;exact congrArg R (P6 n))|(have z1:=fV hp.1.1 hp.1.2;have z2:=fV hp.2.1 hp.2.2;omega)⟩
end Go.Proofs.YtmniihkenijjpaaGreatDoor
namespace Go.Sw
open Go
@[reducible] def bF(e:Ent):List Cell:=[.v (.int .i64 e.kind),.v (.string e.layer),.sl 8 (e.pts.map aas),.v (.bool e.rad.a),lmc e.rad.l,.v (.bool e.rad.b),lmc e.rad.m]
def aS(p:P2):Prop:=rz p.1<=12/\rz p.2<=12
def E0:Ent:=⟨0,⟨#[]⟩,[],⟨false,[],false,[]⟩⟩
theorem Q8{e:Ent}(h:e.kind=1/\e.pts.length=2\/e.kind=2/\e.pts.length=3):aH e=[e.pts.getD 0 P0,e.pts.getD (e.pts.length-1) P0]:=by
 obtain⟨kd,ly,pts,rd⟩:=e;simp only at h ⊢;rcases h with⟨rfl,h⟩|⟨rfl,h⟩
 .match pts,h with
  |[a,b],_=>rfl
 .match pts,h with
  |[a,m,b],_=>rfl
theorem Ry{e:Ent}(h:¬(e.kind=1/\e.pts.length=2\/e.kind=2/\e.pts.length=3)):aH e=[]:=by
 rcases dL e with⟨h1,_⟩|⟨a,b,h1,h2,_⟩|⟨a,m,b,h1,h2,_⟩
 .exact h1
 .exact absurd (.inl ⟨h1,by rw[h2];rfl⟩) h
 .exact absurd (.inr ⟨h1,by rw[h2];rfl⟩) h
@[reducible] def uZ(e:Ent):AV:=.tup [.c (.sl (if aH e=[] then 0 else 8) ((aH e).map aas)),.bool (decide (aH e≠[]))]
theorem Ii{e:Ent}{i j:Nat}(h:e.kind=1/\e.pts.length=2\/e.kind=2/\e.pts.length=3)(hi:i=0)(hj:j=e.pts.length-1):aai [AV.c (Cell.sl 8 [aas (e.pts.getD i P0),aas (e.pts.getD j P0)]),AV.bool true]=uZ e:=by
 subst hi hj;unfold uZ;rw[Q8 h];rfl
theorem KI{e:Ent}(h:¬(e.kind=1/\e.pts.length=2\/e.kind=2/\e.pts.length=3)):aai [AV.c (Cell.sl 0 []),AV.bool false]=uZ e:=by
 unfold uZ;rw[Ry h];rfl
theorem yx(e:Ent):((aH e).length=2/\(e.pts.length=2\/e.pts.length=3))\/(aH e).length=0:=by
 rcases dL e with⟨h1,_⟩|⟨a,b,_,h2,h3⟩|⟨a,m,b,_,h2,h3⟩
 .right;rw[h1];rfl
 .left;rw[h2,h3];simp
 .left;rw[h2,h3];simp
theorem EO{e:Ent}{l:List P2}{j:Nat}(h2:l.length=2)(hl:l.length=(aH e).length)(hj:j=e.pts.length-1):aai [AV.agg [.v (.int .i64 e.kind),.v (.string e.layer),.sl 8 (((e.pts.map aas).set 0 (aas (l.getD 0 P0))).set j (aas (l.getD 1 P0))),.v (.bool e.rad.a),lmc e.rad.l,.v (.bool e.rad.b),lmc e.rad.m]]=.agg (bF (dA e l)):=by
 subst hj;obtain⟨kd,ly,pts,rd⟩:=e
 match l,h2 with
 |[x,y],_ =>
 rcases dL ⟨kd,ly,pts,rd⟩with⟨h1,_⟩|⟨a,b,_,h2,h3⟩|⟨a,m,b,_,h2,h3⟩
 .rw[h1]at hl;cases hl
 .simp only at h2;subst h2;rfl
 .simp only at h2;subst h2;rfl
theorem Ip{e:Ent}{l:List P2}(h2:¬(l.length:Int)=2)(hl:l.length=(aH e).length):aai [AV.agg (bF e)]=.agg (bF (dA e l)):=by
 rcases dL e with⟨h1,h⟩|⟨a,b,_,_,h3⟩|⟨a,m,b,_,_,h3⟩
 .rw[h l (by rw[hl,h1];rfl)];rfl
 .rw[h3]at hl;simp at hl;omega
 .rw[h3]at hl;simp at hl;omega
theorem xQ{M:Type}(d:M){f:M->List Cell}{l:List M}{y:M}{j:Int}{k:List Cell->Prop}(n:Nat)(hp:Pr (0<=j/\j<l.length))(hk:k (f ((l.set n y).getD j.toNat d))):Elem ((l.map f).set n (f y)) j k:=by
 rw[<-List.map_set];exact aar d ⟨by rw[Hg];exact hp.p⟩ hk
@[reducible] def ZV:List Cell:=[.v (.bool false),.sl 1 [],.v (.bool false),.sl 1 [],.v (.bool false),.sl 1 [],.v (.bool false),.sl 1 []]
@[reducible] def ZG(p:Option P2):List Cell:=match p with|some v=>aas v|none=>ZV
@[reducible] def mJ(c:Chn):List Cell:=[.v (.int .i64 (c.kind:Nat)),.v (.int .i64 (c.ent:Nat)),.v (.int .i64 (c.fin:Nat))]++ZG c.src++ZG c.dst
@[reducible] def fU(x:Ent × Nat):List Cell:=bF x.1++[.v (.int .i64 (x.2:Nat))]
theorem rP(sq:Rat)(e:Ent):∀(l:List Ent) (i:Nat) (sp:aaI),aQ sq i sp (l++[e])=⟨(joinL sq e.layer (i+l.length) 0 (aQ sq i sp l).sp (aH e)).sp,(aQ sq i sp l).es++[dA e (joinL sq e.layer (i+l.length) 0 (aQ sq i sp l).sp (aH e)).ws],(aQ sq i sp l).cs++(joinL sq e.layer (i+l.length) 0 (aQ sq i sp l).sp (aH e)).cs⟩
 |[],i,sp=>by simp[aQ]
 |x::r,i,sp=>by
  have ih:=rP sq e r (i+1) (joinL sq x.layer i 0 sp (aH x)).sp;simp only[lX,aQ,ih,dK];simp[show i+1+r.length=i+(r.length+1) by omega]
theorem uo(sq:Rat):∀(l:List Ent) (i:Nat) (sp:aaI),(aQ sq i sp l).es.length=l.length
 |[],i,sp=>rfl
 |x::r,i,sp=>by simp[aQ,uo sq r]
def jA(sq:Rat)(es:List Ent)(x:Nat):JA:=aQ sq 0 [] (es.take x)
theorem wP(sq:Rat)(es:List Ent){x:Nat}(h:x<es.length):jA sq es (x+1)=⟨(joinL sq (es.getD x E0).layer x 0 (jA sq es x).sp (aH (es.getD x E0))).sp,(jA sq es x).es++[dA (es.getD x E0) (joinL sq (es.getD x E0).layer x 0 (jA sq es x).sp (aH (es.getD x E0))).ws],(jA sq es x).cs++(joinL sq (es.getD x E0).layer x 0 (jA sq es x).sp (aH (es.getD x E0))).cs⟩:=by
 have h1:es.take (x+1)=es.take x++[es.getD x E0]:=by
  rw[List.take_succ,eY h];simp[jH,h]
 have h2:(es.take x).length=x:=by simp;omega
 unfold jA;rw[h1,rP,h2,nU]
theorem rQ(sq:Rat)(es:List Ent):jA sq es es.length=aQ sq 0 [] es:=by unfold jA;rw[AQ]
def nE(es:List Ent)(x:Nat):Nat:=((es.take x).map λe=>(aH e).length).sum
theorem qA(es:List Ent){x:Nat}(h:x<es.length):nE es (x+1)=nE es x+(aH (es.getD x E0)).length:=by
 have h1:es.take (x+1)=es.take x++[es.getD x E0]:=by
  rw[List.take_succ,eY h];simp[jH,h]
 unfold nE;rw[h1];simp
theorem BZ(es:List Ent):∀x,nE es x<=2*x
 |0=>by simp[nE]
 |x+1=>by
  by_cases h:x<es.length
  .rw[qA es h];have:=BZ es x;have h2:(aH (es.getD x E0)).length<=2:=by rcases yx (es.getD x E0)with h|h<;>omega
   omega
  .have h1:es.take (x+1)=es.take x:=by rw[Kt ω,Kt ω]
   have:=BZ es x;unfold nE at this ⊢;rw[h1];omega
def QF(q:P2->Prop)(sp:aaI):Prop:=∀p∈sp,q p.2
theorem kK{sp:aaI}{s:ByteArray}{v:P2}(h:v∈aan sp s):∃p∈sp,p.2=v:=by
 unfold aan at h;obtain⟨p,hp,rfl⟩:=dw.1 h;exact⟨p,(uP.1 hp).1,rfl⟩
theorem pY(sp:aaI)(s:ByteArray):(aan sp s).length<=sp.length:=by
 unfold aan;rw[aN];exact List.length_filter_le _ _
theorem oZ{q:P2->Prop}{sq:Rat}{sp:aaI}{s:ByteArray}{v:P2}(h:QF q sp)(hv:q v):QF q (aay sq sp s v).1/\q (aay sq sp s v).2/\(aay sq sp s v).1.length<=sp.length+1:=by
 have h2:=um sq sp s v
 have key:QF q (aay sq sp s v).1/\(aay sq sp s v).1.length<=sp.length+1:=by
  unfold aay;split
  .exact⟨h,η⟩
  .refine⟨λp hp=>?_,η⟩;rcases iH.1 hp with hp|hp
   .exact h p hp
   .simp only[qB]at hp;subst hp;exact hv
 obtain⟨p,hp,he⟩:=kK h2;exact⟨key.1,he▸key.1 p hp,key.2⟩
theorem uH{q:P2->Prop}{sq:Rat}{s:ByteArray}{i:Nat}:∀{l:List P2} {k:Nat} {sp:aaI},QF q sp->(∀v∈l,q v)->QF q (joinL sq s i k sp l).sp/\(∀w∈(joinL sq s i k sp l).ws,q w)/\(joinL sq s i k sp l).sp.length<=sp.length+l.length/\(joinL sq s i k sp l).ws.length=l.length/\(joinL sq s i k sp l).cs.length<=l.length
 |[],k,sp,h,_=>⟨h,λw hw=>by simp[joinL]at hw,by simp[joinL],rfl,by simp[joinL]⟩
 |v::r,k,sp,h,hl=>by
  obtain⟨h1,h2,h3⟩:=oZ (sq:=sq) (s:=s) h (hl v η);obtain⟨h4,h5,h6,h7,h8⟩:=uH (sq:=sq) (s:=s) (i:=i) (l:=r) (k:=k+1) h1 (λw hw=>hl w (by simp[hw]));refine⟨h4,λw hw=>?_, ?_,by simp[joinL,h7], ?_⟩
  .simp only[joinL,mQ]at hw;rcases hw with rfl|hw
   .exact h2
   .exact h5 w hw
  .simp only[joinL,dK];omega
  .simp only[joinL,dY,dK];have:(jn i k v (aay sq sp s v).2).length<=1:=by unfold jn;split<;>simp
   omega
theorem eU{e:Ent}{v:P2}(h:v∈aH e):v∈e.pts:=by
 rcases dL e with⟨h1,_⟩|⟨a,b,_,h2,h3⟩|⟨a,m,b,_,h2,h3⟩
 .rw[h1]at h;cases h
 .rw[h3]at h;rw[h2];exact h
 .rw[h3]at h;rw[h2];simp at h ⊢;rcases h with h|h<;>simp[h]
theorem sU{q:P2->Prop}{e:Ent}{l:List P2}(h:∀p∈e.pts,q p)(hl:∀p∈l,q p):∀p∈(dA e l).pts,q p:=by
 unfold dA;split
 .rename_i a b _ _ hp;intro p hp';simp at hp';rcases hp' with rfl|rfl<;>exact hl _ η
 .rename_i a b _ m _ hp;intro p hp';simp at hp';rcases hp' with rfl|rfl|rfl
  .exact hl _ η
  .exact h _ (by rw[hp];simp)
  .exact hl _ η
 .exact h
theorem zu{es:List Ent}{x:Nat}(h:x<es.length):es.getD x E0∈es:=by
 have:es.getD x E0=es[x]:=by simp[jH,h]
 rw[this];exact tq h
theorem yP{q:P2->Prop}{sq:Rat}{es:List Ent}(h:∀e∈es,∀p∈e.pts,q p):∀x,x<=es.length->QF q (jA sq es x).sp/\(∀e∈(jA sq es x).es,∀p∈e.pts,q p)/\(jA sq es x).sp.length<=nE es x/\(jA sq es x).cs.length<=nE es x/\(jA sq es x).es.length=x
 |0,_=>⟨λp hp=>by simp[jA,aQ]at hp,λe he=>by simp[jA,aQ]at he,by simp[jA,aQ],by simp[jA,aQ],by simp[jA,aQ]⟩
 |x+1,hx=>by
  have hlt:x<es.length:=ω
  obtain⟨h1,h2,h3,h4,h5⟩:=yP (sq:=sq) h x ω;have he:=zu hlt;obtain⟨k1,k2,k3,k4,k5⟩:=uH (q:=q) (sq:=sq) (s:=(es.getD x E0).layer) (i:=x) (k:=0) (l:=aH (es.getD x E0)) h1 (λv hv=>h _ he v (eU hv));rw[wP sq es hlt,qA es hlt];refine⟨k1,λe hm=>?_, ?_, ?_, ?_⟩
  .simp only[iH,qB]at hm;rcases hm with hm|rfl
   .exact h2 e hm
   .exact sU (h _ he) k2
  .simp only;omega
  .simp only[dY];omega
  .simp only[dY,List.length_singleton];omega
theorem jk(e:Ent):aH e=[]\/∃a b,aH e=[a,b]:=by
 rcases dL e with⟨h1,_⟩|⟨a,b,_,_,h3⟩|⟨a,m,b,_,_,h3⟩
 .exact .inl h1
 .exact .inr ⟨a,b,h3⟩
 .exact .inr ⟨a,b,h3⟩
theorem LZ{es:List Ent}(h:∀e∈es,(∀p∈e.pts,aS p)/\e.layer.size<=1000/\e.pts.length<=3)(x:Nat):(∀p∈(es.getD x E0).pts,aS p)/\(es.getD x E0).layer.size<=1000/\(es.getD x E0).pts.length<=3:=by
 by_cases hx:x<es.length
 .exact h _ (zu hx)
 .have:es.getD x E0=E0:=by simp[jH,Nat.le_of_not_lt hx]
  rw[this];exact⟨λp hp=>by simp[E0]at hp,ψ,ψ⟩
theorem NK{i k:Nat}{a w:P2}(h:(!(decide (a.1=w.1)&&decide (a.2=w.2)))=true):jn i k a w=[⟨1,i,k,some a,some w⟩]:=by
 unfold jn;rw[if_neg];rintro rfl;simp at h
theorem Oa{i k:Nat}{a w:P2}(h:(!(decide (a.1=w.1)&&decide (a.2=w.2)))=false):jn i k a w=[]:=by
 unfold jn;rw[if_pos];simp at h;exact Prod.ext h.1 h.2
theorem ZE{sp:aaI}{s:ByteArray}(h:QF aS sp)(p:P2)(hp:p∈aan sp s):rz p.1<=12/\rz p.2<=12:=by
 obtain⟨q,hq,rfl⟩:=kK hp;exact h q hq
theorem Qc(sq:Rat)(es:List Ent){x:Nat}(h:x<es.length)(hE:aH (es.getD x E0)=[]):jA sq es (x+1)=⟨(jA sq es x).sp,(jA sq es x).es++[es.getD x E0],(jA sq es x).cs⟩/\nE es (x+1)=nE es x:=by
 rw[wP sq es h,qA es h,hE];refine⟨?_,rfl⟩;have h2:dA (es.getD x E0) []=es.getD x E0:=by rw[<-hE];exact rX _
 simp only[joinL,h2,dB]
theorem QI(sq:Rat)(es:List Ent){x:Nat}{a b:P2}(h:x<es.length)(hE:aH (es.getD x E0)=[a,b]):jA sq es (x+1)=⟨(aay sq (aay sq (jA sq es x).sp (es.getD x E0).layer a).1 (es.getD x E0).layer b).1,(jA sq es x).es++[dA (es.getD x E0) [(aay sq (jA sq es x).sp (es.getD x E0).layer a).2,(aay sq (aay sq (jA sq es x).sp (es.getD x E0).layer a).1 (es.getD x E0).layer b).2]],(jA sq es x).cs++(jn x 0 a (aay sq (jA sq es x).sp (es.getD x E0).layer a).2++jn x 1 b (aay sq (aay sq (jA sq es x).sp (es.getD x E0).layer a).1 (es.getD x E0).layer b).2)⟩/\nE es (x+1)=nE es x+1+1:=by
 rw[wP sq es h,qA es h,hE];refine⟨?_,rfl⟩;simp[joinL]
def N0:Ent×Nat:=(E0,0)
def L8(e:Ent):Prop:=(∀p∈e.pts,aS p)/\e.layer.size<=1000/\e.pts.length<=3
theorem Yj:L8 E0:=⟨λp hp=>by simp[E0]at hp,ψ,ψ⟩
theorem CS{l:List (Ent×Nat)}(h:∀x∈l,L8 x.1)(x:Nat):L8 (l.getD x N0).1:=by
 by_cases hx:x<l.length
 .have:l.getD x N0=l[x]:=by simp[jH,hx]
  rw[this];exact h _ (tq hx)
 .have:l.getD x N0=N0:=by simp[jH,Nat.le_of_not_lt hx]
  rw[this];exact Yj
theorem F5{v w:P2}:(decide (v.1=w.1)&&decide (v.2=w.2))=decide (v=w):=by
 rw[FN];simp[Prod.ext_iff]
theorem ny{l:List (Ent×Nat)}{x:Nat}(h:x<l.length):l[x]?=some (l.getD x N0):=by simp[jH,h]
theorem ED{l:List (Ent×Nat)}{s:ByteArray}{i k:Nat}{v:P2}{x:Nat}(h:x<l.length)(hE:aH (l.getD x N0).1=[]):metAt l s i k v x=false:=by
 unfold metAt;rw[ny h];simp only[];rw[hE];simp
theorem FK{l:List (Ent×Nat)}{s:ByteArray}{i k:Nat}{v a b:P2}{x:Nat}(h:x<l.length)(hE:aH (l.getD x N0).1=[a,b]):metAt l s i k v x=(eqS (l.getD x N0).1.layer s&&(((x != i||0 != k)&&decide (v=a)) ||((x != i||1 != k)&&decide (v=b)))):=by
 unfold metAt;rw[ny h];simp only[];rw[hE]
theorem uw{l:List (Ent×Nat)}{s:ByteArray}{i k:Nat}{v:P2}{x:Nat}(h:x<l.length)(hE:(!((l.getD x N0).1.layer.toList == s.toList))=true):metAt l s i k v x=false:=by
 unfold metAt;rw[ny h];simp only[eqS];simp only[qJ]at hE;rw[hE];simp
theorem wK{l:List (Ent×Nat)}{s:ByteArray}{i k:Nat}{v a b:P2}{x:Nat}(h:x<l.length)(hE:aH (l.getD x N0).1=[a,b])(hL:(!((l.getD x N0).1.layer.toList == s.toList))=false):metAt l s i k v x=(((x != i||0 != k)&&(decide (v.1=a.1)&&decide (v.2=a.2))) ||((x != i||1 != k)&&(decide (v.1=b.1)&&decide (v.2=b.2)))):=by
 rw[FK h hE,F5,F5];simp only[Bool.not_eq_false']at hL;simp only[eqS,hL,JW]
theorem IV{l:List (Ent×Nat)}{s:ByteArray}{i k:Nat}{v:P2}{x:Nat}(h:x<l.length)(hm:metAt l s i k v x=true):tN l s i k v=true:=by
 unfold tN;exact KF.2 ⟨x,by simpa using h,hm⟩
theorem Gz{l:List (Ent×Nat)}{s:ByteArray}{i k:Nat}{v:P2}(hm:∀j<l.length,metAt l s i k v j=false):tN l s i k v=false:=by
 unfold tN;rw[yF];intro j hj;rw[hm j (by simpa using hj)];simp
theorem oh{l:List (Ent×Nat)}{s:ByteArray}{i k:Nat}{v:P2}{x:Nat}(hm:∀j<x,metAt l s i k v j=false)(h:metAt l s i k v x=false):∀j<x+1,metAt l s i k v j=false:=λj hj=>by
 rcases sW j x with h1|h1
 .exact hm j h1
 .have:j=x:=ω
  subst this;exact h
def GL(l:List (Ent×Nat))(x:Nat):List Chn:=(List.range x).flatMap (opn l)
theorem DV(l:List (Ent×Nat)):GL l l.length=uG l:=rfl
theorem DT{l:List (Ent×Nat)}{x:Nat}(h:x<l.length)(hE:aH (l.getD x N0).1=[]):GL l (x+1)=GL l x:=by
 unfold GL;rw[List.range_succ,Kw]
 have:opn l x=[]:=by
  unfold opn;rw[ny h];simp only[];rw[hE]
 simp[this]
theorem DK{l:List (Ent×Nat)}{x:Nat}{a b:P2}(h:x<l.length)(hE:aH (l.getD x N0).1=[a,b]):GL l (x+1)=GL l x++(o8 l (l.getD x N0).1.layer (l.getD x N0).2 x 0 a++o8 l (l.getD x N0).1.layer (l.getD x N0).2 x 1 b):=by
 unfold GL;rw[List.range_succ,Kw]
 have:opn l x=o8 l (l.getD x N0).1.layer (l.getD x N0).2 x 0 a++o8 l (l.getD x N0).1.layer (l.getD x N0).2 x 1 b:=by
  unfold opn;rw[ny h];simp only[];rw[hE]
 simp[this]
theorem wJ{l:List (Ent×Nat)}{s:ByteArray}{n i k:Nat}{v:P2}(h:(!tN l s i k v)=true):o8 l s n i k v=[⟨4,n,k,some v,some v⟩]:=by
 unfold o8;rw[if_neg];simpa using h
theorem vT{l:List (Ent×Nat)}{s:ByteArray}{n i k:Nat}{v:P2}(h:(!tN l s i k v)=false):o8 l s n i k v=[]:=by
 unfold o8;rw[if_pos];simpa using h
theorem zy{l:List (Ent×Nat)}{s:ByteArray}{n i k:Nat}{v:P2}:(o8 l s n i k v).length<=1:=by
 unfold o8;split<;>simp
theorem qL(l:List (Ent×Nat)):∀x,x<=l.length->(GL l x).length<=2*x
 |0,_=>by simp[GL]
 |x+1,h=>by
  have ih:=qL l x ω;rcases jk (l.getD x N0).1 with hE|⟨a,b,hE⟩
  .rw[DT ω hE];omega
  .rw[DK ω hE];have h1:=zy (l:=l) (s:=(l.getD x N0).1.layer) (n:=(l.getD x N0).2) (i:=x) (k:=0) (v:=a);have h2:=zy (l:=l) (s:=(l.getD x N0).1.layer) (n:=(l.getD x N0).2) (i:=x) (k:=1) (v:=b);simp only[dY];omega
abbrev fJ(a b c:P2):Rat:=cD a.1 a.2 b.1 b.2 c.1 c.2
abbrev Nb(a b c:P2):Rat:=cU a.1 a.2 b.1 b.2 c.1 c.2
abbrev MP(a b c:P2):Rat:=cV a.1 a.2 b.1 b.2 c.1 c.2
def TF(a b c:P2):Rat:=a.1+Nb a b c/(fJ a b c+fJ a b c)
def Uh(a b c:P2):Rat:=a.2+MP a b c/(fJ a b c+fJ a b c)
def JZ(a b c:P2):Rat:=Nb a b c/(fJ a b c+fJ a b c)*(Nb a b c/(fJ a b c+fJ a b c))+MP a b c/(fJ a b c+fJ a b c)*(MP a b c/(fJ a b c+fJ a b c))
@[reducible] def ctr(a b c:P2):P2:=(TF a b c,Uh a b c)
abbrev vJ(k:P2)(q:Rat)(p:P2):Prop:=(p.1-k.1)*(p.1-k.1)+(p.2-k.2)*(p.2-k.2)=q
def TB(k:P2)(q:Rat)(cw:Bool)(a c p:P2):Bool:=decide (vJ k q p)&&decide ((if cw=true then sZ k c p a else sZ k a p c)<=0)
theorem Na{x y X Y Q:Rat}:decide (-(aC ((x-X)*(x-X)+(y-Y)*(y-Y)-Q))=0)=decide (vJ (X,Y) Q (x,y)):=by
 rw[decide_eq_decide];constructor
 .intro h;have:=(dQ (a:=(x-X)*(x-X)+(y-Y)*(y-Y)-Q)).1 ω;unfold vJ;simp only;grind
 .intro h;unfold vJ at h;simp only at h;have:aC ((x-X)*(x-X)+(y-Y)*(y-Y)-Q)=0:=dQ.2 ν;omega
theorem Q9(a b:Rat):nG a b 0=aC a:=by
 unfold nG;have:aC b*aC 0=0:=by rw[dQ.2 rfl];omega
 rw[if_pos (.inr this)]
set_option synthInstance.maxSize 4000 in
set_option synthInstance.maxHeartbeats 400000 in
theorem Ad{a b c:P2}(h1:aS a)(h2:aS b)(h3:aS c):rz (TF a b c)<=7000/\rz (Uh a b c)<=7000/\rz (JZ a b c)<=27000:=by
 obtain⟨a1,a2⟩:=a;obtain⟨b1,b2⟩:=b;obtain⟨c1,c2⟩:=c;have i1:RzB a1 12:=⟨h1.1⟩
 have i2:RzB a2 12:=⟨h1.2⟩
 have i3:RzB b1 12:=⟨h2.1⟩
 have i4:RzB b2 12:=⟨h2.2⟩
 have i5:RzB c1 12:=⟨h3.1⟩
 have i6:RzB c2 12:=⟨h3.2⟩
 simp only[TF,Uh,JZ,Nb,MP,fJ,cU,cV,cD];exact⟨oN ω,oN ω,oN ω⟩
theorem FZ(a b c:P2):dW a b c=fJ a b c:=by unfold dW fJ cD;grind
theorem N8{a b c:P2}(h:¬fJ a b c=0):vJ (ctr a b c) (JZ a b c) a/\vJ (ctr a b c) (JZ a b c) b/\vJ (ctr a b c) (JZ a b c) c/\0<JZ a b c :=
 ⟨Rj h rfl rfl,PW h rfl rfl,Ri h rfl rfl,Ro h⟩
theorem Nc{a b c p:P2}(h:¬fJ a b c=0):vJ (ctr a b c) (JZ a b c) p↔Nb a b c*(p.1-a.1)+MP a b c*(p.2-a.2)=fJ a b c*((p.1-a.1)*(p.1-a.1)+(p.2-a.2)*(p.2-a.2)):=by
 have h2:=vk h;unfold vJ ctr TF Uh JZ;generalize fJ a b c=D at *;generalize Nb a b c=U at *;generalize MP a b c=V at *;obtain⟨a1,a2⟩:=a;obtain⟨p1,p2⟩:=p;simp only;have e1:U/(D+D)*(D+D)=U:=ν
 have e2:V/(D+D)*(D+D)=V:=ν
 generalize U/(D+D)=u at *;generalize V/(D+D)=v at *;subst e1 e2;constructor
 .intro e;have e3:u*(p1-a1)+u*(p1-a1)+(v*(p2-a2)+v*(p2-a2))=(p1-a1)*(p1-a1)+(p2-a2)*(p2-a2):=ν
  have e4:D*(u*(p1-a1)+u*(p1-a1)+(v*(p2-a2)+v*(p2-a2)))=D*((p1-a1)*(p1-a1)+(p2-a2)*(p2-a2)):=by rw[e3]
  grind
 .intro e;have e4:D*((u*(p1-a1)+u*(p1-a1)+(v*(p2-a2)+v*(p2-a2)))-((p1-a1)*(p1-a1)+(p2-a2)*(p2-a2)))=0:=ν
  rcases Rat.mul_eq_zero.1 e4 with h3|h3
  .exact absurd h3 h
  .grind
theorem uj(a:Int):fD (-a) = -fD a:=by unfold fD;(repeat' split)<;>omega
theorem FI(k p:P2):bT k p p=0:=by
 have:=eP k p p;omega
theorem JF(k p:P2):y7 k p p=0:=by unfold y7;rw[FI];rfl
theorem Ru(k f p:P2):0<=y7 k f p:=by unfold y7;(repeat' split)<;>omega
theorem Ce(k f p:P2):0<=y7 k f p/\y7 k f p<=2:=by unfold y7;(repeat' split)<;>omega
theorem xU(k f p q:P2):sZ k f p q = -sZ k f q p:=by
 unfold sZ;rw[eP k p q]
 by_cases h:y7 k f p=y7 k f q
 .rw[if_pos h,if_pos h.symm,uj]
 .rw[if_neg h,if_neg (λe=>h e.symm),<-uj];congr 1;omega
theorem Fz(k f q:P2):sZ k f f q<=0:=by
 unfold sZ;rw[JF];have:=Ru k f q;split
 .rename_i e
  have h0:bT k q f=0:=by
   unfold y7 at e
   (repeat' split at e)<;>first|assumption|omega
  rw[eP,h0];decide
 .rw[zI];omega
theorem H8(k f q:P2):sZ k f q q<=0:=by
 have:=xU k f q q;omega
theorem MR{k f p q:P2}(h:sZ k f p q=0):bT k p q=0:=by
 unfold sZ at h;split at h
 .exact oM.1 h
 .rw[oM]at h;omega
theorem cwE{a b c d e f:Rat}:decide (dU ((c-a)*(f-b)) ((d-b)*(e-a))>0)=decide (0<cD a b c d e f):=by
 rw[decide_eq_decide,yN];unfold cD;constructor<;>intro h<;>grind
theorem ZP{a b c d e f:Rat}:decide ((d-b)*(e-a)<(c-a)*(f-b))=decide (0<cD a b c d e f):=by
 rw[decide_eq_decide];unfold cD;constructor<;>intro h<;>grind
theorem Qm{k a p c:P2}{q:Rat}(hq:0<q)(e1:vJ k q a)(e2:vJ k q p)(e3:vJ k q c)(h1:p≠a)(h2:p≠c)(h3:a≠c):dW a p c≠0:=by
 have n1:=SG hq e1;have n2:=SG hq e2;have n3:=SG hq e3;have d1:bT k a p≠0:=λg=>h1 (lC e1 e2 n1 n2 g).symm
 have d2:bT k p c≠0:=λg=>h2 (lC e2 e3 n2 n3 g)
 have d3:bT k a c≠0:=λg=>h3 (lC e1 e3 n1 n3 g)
 have a1:=eP k a p;have a2:=eP k p c;have a3:=eP k a c;have x1:dW a c p = -dW a p c:=by unfold dW;grind
 have x2:dW c a p=dW a p c:=by unfold dW;grind
 have x3:dW p a c = -dW a p c:=by unfold dW;grind
 have x4:dW p c a=dW a p c:=by unfold dW;grind
 have x5:dW c p a = -dW a p c:=by unfold dW;grind
 intro hz;have l1:bT k a p<0->bT k p c<0->False:=λg1 g2=>by have:=Oq e1 e2 e3 n1 n2 n3 g1 g2;grind
 have l2:bT k a c<0->bT k c p<0->False:=λg1 g2=>by have:=Oq e1 e3 e2 n1 n3 n2 g1 g2;grind
 have l3:bT k c a<0->bT k a p<0->False:=λg1 g2=>by have:=Oq e3 e1 e2 n3 n1 n2 g1 g2;grind
 have l4:bT k p a<0->bT k a c<0->False:=λg1 g2=>by have:=Oq e2 e1 e3 n2 n1 n3 g1 g2;grind
 have l5:bT k p c<0->bT k c a<0->False:=λg1 g2=>by have:=Oq e2 e3 e1 n2 n3 n1 g1 g2;grind
 have l6:bT k c p<0->bT k p a<0->False:=λg1 g2=>by have:=Oq e3 e2 e1 n3 n2 n1 g1 g2;grind
 clear e1 e2 e3 n1 n2 n3 x1 x2 x3 x4 x5 hz;generalize bT k a p=A at *;generalize bT k p c=B at *;generalize bT k a c=C at *;generalize bT k p a=A' at *;generalize bT k c p=B' at *;generalize bT k c a=C' at *
 by_cases g1:A<0<;>by_cases g2:B<0<;>by_cases g3:C<0
 .exact l1 g1 g2
 .exact l1 g1 g2
 .exact l2 g3 ω
 .exact l3 ω g1
 .exact l4 ω g3
 .exact l5 g2 ω
 .exact l6 ω ω
 .exact l6 ω ω
theorem zo{k a p c:P2}{q:Rat}(hq:0<q)(e1:vJ k q a)(e2:vJ k q p)(e3:vJ k q c)(h3:a≠c):sZ k a p c<=0↔(p=a\/p=c\/0<dW a p c):=by
 have n1:=SG hq e1;have n2:=SG hq e2;have n3:=SG hq e3;constructor
 .intro h
  by_cases h1:p=a
  .exact .inl h1
  by_cases h2:p=c
  .exact .inr (.inl h2)
  refine .inr (.inr ?_);have hne:=Qm hq e1 e2 e3 h1 h2 h3;refine Decidable.byContradiction λhn=>?_
  have hx:0<dW a c p:=by
   have:dW a c p = -dW a p c:=by unfold dW;grind
   grind
  have h4:=BN e1 e3 e2 n1 n3 n2 hx;have h5:=xU k a p c;have h6:sZ k a p c=0:=ω
  exact h2 (lC e2 e3 n2 n3 (MR h6))
 .rintro (rfl|rfl|h)
  .exact Fz k p c
  .exact H8 k a p
  .exact BN e1 e2 e3 n1 n2 n3 h
theorem DI(a b c:P2):fJ c b a = -fJ a b c:=by unfold fJ cD;grind
theorem Ld{a b c p:P2}(h:¬fJ a b c=0):TB (ctr a b c) (JZ a b c) (!decide (0<fJ a b c)) a c p=vg a b c p:=by
 obtain⟨e1,e2,e3,hq⟩:=N8 h;have hac:a≠c:=λe=>h (by subst e;unfold fJ cD;grind)
 unfold TB vg;rw[FN];simp only[bG,decide_eq_true_eq,ne_eq];rw[<-Nc (p:=p) h]
 have key:∀ep:vJ (ctr a b c) (JZ a b c) p,((if(!decide (0<fJ a b c))=true then sZ (ctr a b c) c p a else sZ (ctr a b c) a p c)<=0↔(p=a\/p=c\/0<dW a p c*dW a b c)):=by
  intro ep;rw[FZ a b c]
  by_cases hd:0<fJ a b c
  .rw[if_neg (by simp[hd]),zo hq e1 ep e3 hac]
   have:0<dW a p c↔0<dW a p c*fJ a b c:=⟨λh=>qm h hd,λh=>by
    refine Decidable.byContradiction λhn=>?_
    have:=oG (show 0≤-dW a p c by grind) (show 0<=fJ a b c by grind)
    grind⟩
   rw[this]
  .have hd':fJ a b c<0:=ν
   rw[if_pos (by simp[hd]),zo hq e3 ep e1 (λe=>hac e.symm)];have hx:dW c p a = -dW a p c:=by unfold dW;grind
   have:0<dW c p a↔0<dW a p c*fJ a b c:=⟨λh=>by
    have:=qm (show 0 < -dW a p c by grind) (show 0 < -fJ a b c by grind)
    grind,λh=>by
    refine Decidable.byContradiction λhn=>?_
    have:=oG (show 0<=dW a p c by grind) (show 0≤-fJ a b c by grind)
    grind⟩
   rw[this];constructor
   .rintro (h|h|h)
    .exact .inr (.inl h)
    .exact .inl h
    .exact .inr (.inr h)
   .rintro (h|h|h)
    .exact .inr (.inl h)
    .exact .inl h
    .exact .inr (.inr h)
 constructor
 .rintro ⟨g1,g2⟩;exact⟨h,g1,(key g1).1 g2⟩
 .rintro ⟨_,g1,g2⟩;exact⟨g1,(key g1).2 g2⟩
def Kz(a b c p:P2):Rat:=Nb a b c*(p.1-a.1)+MP a b c*(p.2-a.2)-fJ a b c*((p.1-a.1)*(p.1-a.1)+(p.2-a.2)*(p.2-a.2))
theorem ru{a b c p:P2}:vg a b c p=true↔(fJ a b c≠0/\Kz a b c p=0/\(p=a\/p=c\/0<dW a p c*dW a b c)):=by
 unfold vg Kz;rw[decide_eq_true_eq];constructor
 .rintro ⟨h1,h2,h3⟩;exact⟨h1,by rw[h2];grind,h3⟩
 .rintro ⟨h1,h2,h3⟩;exact⟨h1,ν,h3⟩
theorem Jh(a b c p:P2):Kz c b a p = -Kz a b c p:=by
 obtain⟨a1,a2⟩:=a;obtain⟨b1,b2⟩:=b;obtain⟨c1,c2⟩:=c;obtain⟨p1,p2⟩:=p;simp only[Kz,Nb,MP,fJ,cU,cV,cD]
 grind
theorem JQ(a b c p:P2):vg c b a p=vg a b c p:=by
 rw[FN,ru,ru,Jh,DI]
 have x1:dW c p a*dW c b a=dW a p c*dW a b c:=by
  have e1:dW c p a = -dW a p c:=by unfold dW;grind
  have e2:dW c b a = -dW a b c:=by unfold dW;grind
  rw[e1,e2];grind
 rw[x1];constructor
 .rintro ⟨h1,h2,h3⟩;exact⟨λe=>h1 (by rw[e];decide +kernel),ν,by rcases h3 with h|h|h<;>simp[h]⟩
 .rintro ⟨h1,h2,h3⟩;exact⟨λe=>h1 ν,by rw[h2];decide +kernel,by rcases h3 with h|h|h<;>simp[h]⟩
theorem Z9{n1 n2 n3 b1 b2 b3 m1 m2 m3 k1 k2 k3:Rat}:(n1*b2-n2*b1)*(k1*(b2*m3-b3*m2)-k2*(b1*m3-b3*m1)+k3*(b1*m2-b2*m1)) =
 (k1*b2-k2*b1)*(n1*(b2*m3-b3*m2)-n2*(b1*m3-b3*m1)+n3*(b1*m2-b2*m1))-(m1*b2-m2*b1)*(n1*(b2*k3-b3*k2)-n2*(b1*k3-b3*k1)+n3*(b1*k2-b2*k1)):=ν
theorem LP(a b c p:P2):Kz a b c p = -((b.1-a.1)*((c.2-a.2)*((p.1-a.1)*(p.1-a.1)+(p.2-a.2)*(p.2-a.2))-((c.1-a.1)*(c.1-a.1)+(c.2-a.2)*(c.2-a.2))*(p.2-a.2))-(b.2-a.2)*((c.1-a.1)*((p.1-a.1)*(p.1-a.1)+(p.2-a.2)*(p.2-a.2))-((c.1-a.1)*(c.1-a.1)+(c.2-a.2)*(c.2-a.2))*(p.1-a.1))+((b.1-a.1)*(b.1-a.1)+(b.2-a.2)*(b.2-a.2))*((c.1-a.1)*(p.2-a.2)-(c.2-a.2)*(p.1-a.1))):=by
 simp only[Kz,Nb,MP,fJ,cU,cV,cD];generalize b.1-a.1=b1;generalize b.2-a.2=b2;generalize c.1-a.1=c1;generalize c.2-a.2=c2;generalize p.1-a.1=p1;generalize p.2-a.2=p2
 grind
theorem Q7{a n b m k:P2}(h:fJ a n b≠0)(h1:Kz a n b m=0)(h2:Kz a n b k=0):Kz a k b m=0:=by
 rw[LP]at h1 h2 ⊢;have hD:fJ a n b=(n.1-a.1)*(b.2-a.2)-(n.2-a.2)*(b.1-a.1):=rfl;rw[hD]at h;clear hD;generalize n.1-a.1=n1 at *;generalize n.2-a.2=n2 at *;generalize b.1-a.1=b1 at *;generalize b.2-a.2=b2 at *;generalize m.1-a.1=m1 at *;generalize m.2-a.2=m2 at *;generalize k.1-a.1=k1 at *;generalize k.2-a.2=k2 at *;generalize n1*n1+n2*n2=n3 at *;generalize b1*b1+b2*b2=b3 at *;generalize m1*m1+m2*m2=m3 at *;generalize k1*k1+k2*k2=k3 at *;have id:=Z9 (n1:=n1) (n2:=n2) (n3:=n3) (b1:=b1) (b2:=b2) (b3:=b3) (m1:=m1) (m2:=m2) (m3:=m3) (k1:=k1) (k2:=k2) (k3:=k3);generalize k1*(b2*m3-b3*m2)-k2*(b1*m3-b3*m1)+k3*(b1*m2-b2*m1)=X at *;generalize n1*(b2*m3-b3*m2)-n2*(b1*m3-b3*m1)+n3*(b1*m2-b2*m1)=Y at *;generalize n1*(b2*k3-b3*k2)-n2*(b1*k3-b3*k1)+n3*(b1*k2-b2*k1)=Z at *;have y0:Y=0:=ν
 have z0:Z=0:=ν
 subst y0 z0;have id2:(n1*b2-n2*b1)*X=0:=by rw[id];grind
 rcases Rat.mul_eq_zero.1 id2 with g|g
 .exact absurd g h
 .rw[g];decide +kernel
theorem Lh{x y z:Rat}(h1:0<x*y)(h2:0<y*z):0<x*z:=by
 have h3:=qm h1 h2;have hy:y≠0:=λe=>by rw[e]at h2;grind
 have h4:0<=y*y:=RY y;refine Decidable.byContradiction λhn=>?_
 have h5:=oG (show 0≤-(x*z) by grind) h4
 grind
theorem OI{a b:P2}:dW a a b=0:=by unfold dW;grind
theorem OJ{a b:P2}:dW a b b=0:=by unfold dW;grind
theorem G9{a n b m k:P2}(h1:vg a n b m=true)(h2:vg a n b k=true)(hm:fJ a m b≠0)(hk:fJ a k b≠0):vg a k b m=true:=by
 rw[ru]at h1 h2 ⊢;obtain⟨p1,p2,p3⟩:=h1;obtain⟨_,q2,q3⟩:=h2;refine⟨hk,Q7 p1 p2 q2,.inr (.inr ?_)⟩;rw[<-FZ]at hm hk
 have p4:0<dW a m b*dW a n b:=by
  rcases p3 with rfl|rfl|h
  .exact absurd OI hm
  .exact absurd OJ hm
  .exact h
 have q4:0<dW a k b*dW a n b:=by
  rcases q3 with rfl|rfl|h
  .exact absurd OI hk
  .exact absurd OJ hk
  .exact h
 exact Lh p4 ν
theorem Gi{a b c:P2}:fJ c b a=0↔fJ a b c=0:=by
 rw[DI];constructor<;>intro h
 .rw[<-Rat.neg_neg (fJ a b c),h];decide +kernel
 .rw[h];decide +kernel
def sA(a m b c n d:P2):Prop:=((a=c/\b=d)\/(a=d/\b=c))/\((fJ a m b=0/\fJ c n d=0/\m=n)\/(fJ a m b≠0/\fJ c n d≠0/\vg c n d m=true/\vg a m b n=true))
theorem qN{a m b c n d:P2}:sA a m b c n d->sA a m b d n c:=by
 rintro ⟨h1,h2⟩;refine⟨h1.symm, ?_⟩;rw[JQ c n d m];rcases h2 with⟨g1,g2,g3⟩|⟨g1,g2,g3,g4⟩
 .exact .inl ⟨g1,Gi.2 g2,g3⟩
 .exact .inr ⟨g1,λe=>g2 (Gi.1 e),g3,g4⟩
theorem xw{a m b c n d:P2}:sA a m b c n d->sA c n d a m b:=by
 rintro ⟨h1,h2⟩;refine⟨by rcases h1 with⟨rfl,rfl⟩|⟨rfl,rfl⟩<;>simp, ?_⟩;rcases h2 with⟨g1,g2,g3⟩|⟨g1,g2,g3,g4⟩
 .exact .inl ⟨g2,g1,g3.symm⟩
 .exact .inr ⟨g2,g1,g4,g3⟩
theorem uO{a m b n k:P2}:sA a m b a n b->sA a n b a k b->sA a m b a k b:=by
 rintro ⟨_,h2⟩ ⟨_,k2⟩;refine⟨.inl ⟨rfl,rfl⟩, ?_⟩;rcases h2 with⟨g1,g2,g3⟩|⟨g1,g2,g3,g4⟩<;>rcases k2 with⟨f1,f2,f3⟩|⟨f1,f2,f3,f4⟩
 .exact .inl ⟨g1,f2,g3.trans f3⟩
 .exact absurd g2 f1
 .exact absurd f1 g2
 .exact .inr ⟨g1,f2,G9 g3 f4 g1 f2,G9 f4 g3 f2 g1⟩
theorem ug{a m b n u k v:P2}(h:sA a m b a n b)(k':sA a n b u k v):sA a m b u k v:=by
 rcases k'.1 with⟨rfl,rfl⟩|⟨rfl,rfl⟩
 .exact uO h k'
 .exact qN (uO h (qN k'))
theorem F8{a m b c n d u k v:P2}(h:sA a m b c n d)(k':sA c n d u k v):sA a m b u k v:=by
 rcases h.1 with⟨rfl,rfl⟩|⟨rfl,rfl⟩
 .exact ug h k'
 .exact ug (qN h) (xw (qN (xw k')))
def sE(e f:Ent):Prop:=eqS e.layer f.layer=true/\e.kind=f.kind /\
 match e.pts,f.pts with
 |[a],[b]=>a=b/\e.rad=f.rad
 |[a,b],[c,d]=>(a=c/\b=d)\/(a=d/\b=c)
 |[a,m,b],[c,n,d]=>sA a m b c n d
 |_,_=>False
theorem rF{a b c d:P2}:mP a b c d=true↔(a=c/\b=d)\/(a=d/\b=c):=by unfold mP;rw[decide_eq_true_eq]
theorem Rh{kd:Int}{ly:ByteArray}{a m b:P2}{rd:Rq}:tZ ⟨kd,ly,[a,m,b],rd⟩=decide (fJ a m b=0):=rfl
theorem RQ{a m b c n d:P2}:(mP a b c d&&(if(decide (fJ a m b=0)||decide (fJ c n d=0))=true then decide (fJ a m b=0)&&decide (fJ c n d=0)&&decide (m=n)else vg c n d m&&vg a m b n))=true↔sA a m b c n d:=by
 unfold sA;rw[bG,rF];refine and_congr Iff.rfl ?_
 by_cases h1:fJ a m b=0<;>by_cases h2:fJ c n d=0<;>simp[h1,h2]
theorem jC{e f:Ent}:aZ e f=true↔sE e f:=by
 obtain⟨k1,l1,p1,r1⟩:=e;obtain⟨k2,l2,p2,r2⟩:=f;unfold aZ sE;rw[bG,bG,decide_eq_true_eq,and_assoc];refine and_congr Iff.rfl (and_congr Iff.rfl ?_);simp only
 match p1,p2 with
 |[a],[b]=>simp
 |[a,b],[c,d]=>exact rF
 |[a,m,b],[c,n,d]=>exact RQ
 |[],_=>simp
 |[_],[]=>simp
 |[_],_::_::_=>simp
 |[_,_],[]=>simp
 |[_,_],[_]=>simp
 |[_,_],_::_::_::_=>simp
 |[_,_,_],[]=>simp
 |[_,_,_],[_]=>simp
 |[_,_,_],[_,_]=>simp
 |[_,_,_],_::_::_::_::_=>simp
 |_::_::_::_::_,_=>simp
theorem Gx(s t:ByteArray):eqS s t=eqS t s:=by unfold eqS;rw[FN,beq_iff_eq,beq_iff_eq];exact eq_comm
theorem EX{s t u:ByteArray}(h:eqS s t=true)(k:eqS t u=true):eqS s u=true:=by
 unfold eqS at *;rw[eq_of_beq h];exact k
theorem Cj{e f:Ent}:sE e f->sE f e:=by
 obtain⟨k1,l1,p1,r1⟩:=e;obtain⟨k2,l2,p2,r2⟩:=f;unfold sE;simp only;rintro ⟨h1,h2,h3⟩;refine⟨by rw[Gx];exact h1,h2.symm, ?_⟩
 match p1,p2,h3 with
 |[a],[b],h3=>exact⟨h3.1.symm,h3.2.symm⟩
 |[a,b],[c,d],h3=>rcases h3 with⟨rfl,rfl⟩|⟨rfl,rfl⟩<;>simp
 |[a,m,b],[c,n,d],h3=>exact xw h3
theorem GN{e f g:Ent}:sE e f->sE f g->sE e g:=by
 obtain⟨k1,l1,p1,r1⟩:=e;obtain⟨k2,l2,p2,r2⟩:=f;obtain⟨k3,l3,p3,r3⟩:=g;unfold sE;simp only;rintro ⟨h1,h2,h3⟩ ⟨g1,g2,g3⟩;refine⟨EX h1 g1,h2.trans g2, ?_⟩
 match p1,p2,p3,h3,g3 with
 |[a],[b],[c],h3,g3=>exact⟨h3.1.trans g3.1,h3.2.trans g3.2⟩
 |[a,b],[c,d],[u,v],h3,g3=>rcases h3 with⟨rfl,rfl⟩|⟨rfl,rfl⟩<;>rcases g3 with⟨rfl,rfl⟩|⟨rfl,rfl⟩<;>simp
 |[a,m,b],[c,n,d],[u,k,v],h3,g3=>exact F8 h3 g3
theorem mX(e f:Ent):aZ e f=aZ f e:=by
 rw[FN,jC,jC];exact⟨Cj,Cj⟩
theorem yQ{e f g:Ent}(h:aZ e f=true)(k:aZ f g=true):aZ e g=true:=jC.2 (GN (jC.1 h) (jC.1 k))
theorem Py{a b c p:P2}(h:fJ a b c=0):vg a b c p=false:=by
 rw[Bool.eq_false_iff];intro e;exact(ru.1 e).1 h
@[reducible] def kX(q:Rat):Rq:=⟨decide (q.num<0),lim q.num.natAbs,decide ((q.den:Int)<0),lim (q.den:Int).natAbs⟩
theorem nS{α:Type}{p:List α->Prop}(h0:p [])(h1:∀l e,p l->p (l++[e]))(l:List α):p l:=by
 have key:∀r:List α,p r.reverse:=λr=>by
  induction r with
  |nil=>exact h0
  |cons e r ih=>rw[List.reverse_cons];exact h1 _ _ ih
 have:=key l.reverse
 rwa [List.reverse_reverse]at this
theorem lu(l:List Ent)(e:Ent):kR (l++[e])=kR l++[(e,(kR l).any λp=>!p.2&&aZ e p.1)]:=by
 unfold kR;rw[List.foldl_append];rfl
theorem nK(l:List Ent):(kR l).map (·.1)=l:=by
 induction l using nS with
 |h0=>rfl
 |h1 l e ih=>rw[lu,dI,ih];rfl
theorem rV(l:List Ent):(kR l).length=l.length:=by
 have:=congrArg List.length (nK l);simpa using this
theorem Fg(l:List Ent):∀p∈kR l,p.2=true->∃q∈kR l,q.2=false/\aZ p.1 q.1=true:=by
 induction l using nS with
 |h0=>intro p hp;simp[kR]at hp
 |h1 l e ih =>
  intro p hp h;rw[lu]at hp ⊢;rcases iH.1 hp with hp|hp
  .obtain⟨q,q1,q2,q3⟩:=ih p hp h;exact⟨q,ng _ q1,q2,q3⟩
  .simp only[qB]at hp;subst hp;obtain⟨q,q1,q2⟩:=KF.1 h;rw[bG,qJ]at q2;exact⟨q,ng _ q1,q2.1,q2.2⟩
theorem NI(l:List Ent)(e:Ent):((kR l).any λp=>!p.2&&aZ e p.1)=l.any λf=>aZ f e:=by
 rw[FN,KF,KF];constructor
 .rintro ⟨p,h1,h2⟩;rw[bG]at h2;refine⟨p.1, ?_,by rw[mX];exact h2.2⟩;have:=List.mem_map_of_mem (f:=(·.1)) h1
  rwa [nK]at this
 .rintro ⟨f,h1,h2⟩;rw[<-nK l]at h1;obtain⟨p,h3,rfl⟩:=dw.1 h1;cases h4:p.2 with
  |false=>exact⟨p,h3,by rw[h4,mX,h2];rfl⟩
  |true =>
   obtain⟨q,q1,q2,q3⟩:=Fg l p h3 h4;refine⟨q,q1, ?_⟩;rw[q2,yQ (by rw[mX];exact h2) q3];rfl
theorem sS(l:List Ent)(e:Ent):bn (l++[e])=bn l++[l.any λf=>aZ f e]:=by
 unfold bn;rw[lu,dI,<-NI];rfl
theorem eX(l:List Ent):(bn l).length=l.length:=by unfold bn;rw[aN,rV]
theorem NG{l:List Ent}{k:Nat}(h:k<l.length):(kR l)[k]?=some (l.getD k E0,(bn l).getD k false):=by
 have h1:k<(kR l).length:=by rw[rV];exact h
 have e1:((kR l).map (·.1))[k]?=l[k]?:=by rw[nK]
 rw[rE,eY h1,eY h]at e1;simp only[oJ,ji]at e1;rw[eY h1];congr 1;refine Prod.ext ?_ ?_
 .rw[e1];simp[jH,h]
 .simp[bn,jH,h1]
theorem KP{l:List Ent}{x:Nat}(h:x<l.length):l.take (x+1)=l.take x++[l.getD x E0]:=by
 rw[List.take_succ,eY h];simp[jH,h]
def qg(l:List Ent)(x:Nat):List Bool:=bn (l.take x)++List.replicate (l.length-x) false
theorem Nu{l:List Ent}{x:Nat}(h:x<=l.length):(qg l x).length=l.length:=by
 unfold qg;rw[dY,eX,qy,xC];omega
theorem Vl(l:List Ent):qg l 0=List.replicate l.length false:=rfl
theorem KO(l:List Ent):qg l l.length=bn l:=by unfold qg;rw[AQ,Nat.sub_self];simp
def lQ(l:List Ent)(x k:Nat):Bool:=((kR (l.take x)).take k).any λp=>!p.2&&aZ (l.getD x E0) p.1
theorem uS{l:List Ent}{x k:Nat}(hx:x<l.length)(hk:k<x):lQ l x (k+1)=(lQ l x k ||(!(qg l x).getD k false&&aZ (l.getD x E0) (l.getD k E0))):=by
 have hk':k<(l.take x).length:=by simp;omega
 unfold lQ;rw[List.take_succ,List.any_append,NG hk'];have e1:(l.take x).getD k E0=l.getD k E0:=by simp[jH,hk,tH]
 have e2:(qg l x).getD k false=(bn (l.take x)).getD k false:=by
  unfold qg;simp only[jH];rw[zQ (by rw[eX];exact hk')]
 rw[e1,e2];simp
theorem zi{l:List Ent}{x:Nat}(hx:x<=l.length):lQ l x x=((kR (l.take x)).any λp=>!p.2&&aZ (l.getD x E0) p.1):=by
 unfold lQ;rw[Kt (by rw[rV,qy];omega)]
theorem EC{l:List Ent}{x k:Nat}(hx:x<l.length)(hk:k<x)(h:lQ l x (k+1)=true):lQ l x x=true:=by
 rw[zi ω];unfold lQ at h;obtain⟨p,h1,h2⟩:=KF.1 h;exact KF.2 ⟨p,List.mem_of_mem_take h1,h2⟩
theorem yg{l:List Ent}{x:Nat}(hx:x<l.length):qg l (x+1)=(qg l x).set x (lQ l x x):=by
 unfold qg
 have h1:bn (l.take (x+1))=bn (l.take x)++[lQ l x x]:=by
  rw[KP hx];unfold bn;rw[lu,dI,zi ω];rfl
 have h2:List.replicate (l.length-x) false=false::List.replicate (l.length-(x+1)) false:=by
  rw[show l.length-x=(l.length-(x+1))+1 by omega];rfl
 have h3:(bn (l.take x)).length=x:=by rw[eX,qy];omega
 rw[h1,h2,List.set_append_right _ _ ω,h3,Nat.sub_self];simp
theorem Ut{l:List Ent}{x:Nat}(hx:x<l.length)(h:lQ l x x=false):qg l (x+1)=qg l x:=by
 rw[yg hx,h];have h3:(bn (l.take x)).length=x:=by rw[eX,qy];omega
 have h2:List.replicate (l.length-x) false=false::List.replicate (l.length-(x+1)) false:=by
  rw[show l.length-x=(l.length-(x+1))+1 by omega];rfl
 unfold qg;rw[h2,List.set_append_right _ _ ω,h3,Nat.sub_self];simp
theorem Uu{l:List Ent}{x k:Nat}(hx:x<l.length)(hk:k<x)(h:lQ l x (k+1)=true):qg l (x+1)=(qg l x).set x true:=by
 rw[yg hx,EC hx hk h]
structure EntR where
 kind:Int
 layer:ByteArray
 pts:List (Rq×Rq)
 rad:Rq
structure LayD where
 name:ByteArray
 kind:Int
 depth:Int
@[reducible] def QU(r:Rq):List Cell:=[.v (.bool r.a),lmc r.l,.v (.bool r.b),lmc r.m]
@[reducible] def jB(p:Rq × Rq):List Cell:=[.v (.bool p.1.a),lmc p.1.l,.v (.bool p.1.b),lmc p.1.m,.v (.bool p.2.a),lmc p.2.l,.v (.bool p.2.b),lmc p.2.m]
@[reducible] def bU(e:EntR):List Cell:=[.v (.int .i64 e.kind),.v (.string e.layer),.sl 8 (e.pts.map jB),.v (.bool e.rad.a),lmc e.rad.l,.v (.bool e.rad.b),lmc e.rad.m]
@[reducible] def bI(l:LayD):List Cell:=[.v (.string l.name),.v (.int .i64 l.kind),.v (.int .i64 l.depth)]
def vR(r:Rq):Bool:=gB r.a r.l r.b r.m
def qR(r:Rq):Rat:=((bH r.a (val r.l):Int):Rat)/((bH r.b (val r.m):Int):Rat)
def zN(r:Rq):Prop:=r.l.length<=6/\r.m.length<=6
theorem QS(q:Rat):((q.num:Int):Rat)/((q.den:Int):Rat)=q:=by
 have h:=Rat.num_divInt_den q
 rwa [Rat.divInt_eq_div]at h
theorem C9(q:Rat):qR (kX q)=q:=by
 unfold qR kX;simp only;rw[au,qE,au,qE,QS]
theorem TV(q:Rat):vR (kX q)=true:=Bg q
theorem yc{r:Rq}(h:vR r=true):r=kX (qR r):=by
 obtain⟨q,h1,h2,h3,h4⟩:=FH h;obtain⟨a,l,b,m⟩:=r;simp only at h1 h2 h3 h4;subst h1 h2 h3 h4;exact(congrArg kX (C9 q)).symm
theorem wo{q:Rat}(h:zN (kX q)):rz q<=12:=by
 obtain⟨h1,h2⟩:=h;have h1':(lim q.num.natAbs).length<=6:=h1;have h2':(lim (q.den:Int).natAbs).length<=6:=h2;unfold rz sz;omega
@[reducible] def zG:Rat:=((1:Int):Rat) / ((1000:Int):Rat)
def Qg(a:Rat):Option Nat:=(List.range 31).find? λn=>decide (10^n%a.den=0)
def Bd(q:Rat):Bool:=decide (¬((10000000:Int):Rat)<q)&&(decide (¬q < -((10000000:Int):Rat))&&(Qg (q*zG)).isSome)
def fK(r:Rq):Bool:=vR r&&Bd (qR r)
theorem qP(q:Rat):fK (kX q)=Bd q:=by unfold fK;rw[TV,C9];rfl
def jl(e:EntR):Bool:=decide (e.kind=1/\e.pts.length=2\/e.kind=2/\e.pts.length=3\/e.kind=3/\e.pts.length=1)&&(e.pts.all (λp=>fK p.1&&fK p.2)&&(decide (¬e.kind=3) ||(fK e.rad&&decide (0<qR e.rad))))
def qQ(e:EntR):Prop:=(∀p∈e.pts,zN p.1/\zN p.2)/\zN e.rad/\e.pts.length<=5/\e.layer.size<=60
def SN(c:Nat):Bool:=decide (97<=c/\c<=122)||decide (65<=c/\c<=90)
def WZ(c:Nat):Bool:=decide (48<=c/\c<=57)
def KT(c:Nat):Bool:=SN c ||(WZ c ||(decide (c=95)||decide (c=45)))
def Wq(s:ByteArray):Nat:=((oI s).takeWhile KT).length
def ES(s:ByteArray):Bool:=decide (0<s.size)&&(decide (s.size<=24)&&(SN ((oI s).getD 0 0)&&decide (Wq s=s.size)))
theorem O4(p:Nat->Bool):∀(l:List Nat) (x:Nat),x<=l.length->(∀j<x,p (l.getD j 0)=true)->(x<l.length->p (l.getD x 0)=false)->(l.takeWhile p).length=x
 |[],x,h,_,_=>by simp at h;subst h;rfl
 |c::r,0,_,_,h2=>by
  have:=h2 η;simp only[List.getD_cons_zero]at this;simp[List.takeWhile_cons,this]
 |c::r,x+1,h,h1,h2=>by
  have h3:=h1 0 ω;simp only[List.getD_cons_zero]at h3;rw[List.takeWhile_cons,if_pos h3,dK];rw[O4 p r x (by simpa using h) (λj hj=>by simpa using h1 (j+1) ω) (λhx=>by simpa using h2 (by simpa using hx))]
theorem PS{s:ByteArray}{x:Nat}(h:x<=s.size)(h1:∀j<x,KT ((oI s).getD j 0)=true)(h2:x<s.size->KT ((oI s).getD x 0)=false):Wq s=x :=
 O4 KT (oI s) x (by rw[nX];exact h) h1 (λhx=>h2 (by rwa [nX]at hx))
theorem Jy{s:ByteArray}(h:(!(s.toList ==(ByteArray.mk #[]).toList))=true):0<s.size:=by
 rw[Dh]at h;have h1:¬oI s=oI (ByteArray.mk #[]):=by simpa using h
 refine Decidable.byContradiction λhn=>h1 ?_
 have:(oI s).length=0:=by rw[nX];omega
 rw[zA this];rfl
theorem MF{s:ByteArray}(h:(!(s.toList ==(ByteArray.mk #[]).toList))=false):s.size=0:=by
 rw[Dh]at h;have h1:oI s=oI (ByteArray.mk #[]):=by simpa using h
 rw[<-nX,h1];rfl
theorem Pz{s:ByteArray}(h:s.size=0\/¬s.size<=24\/SN ((oI s).getD 0 0)=false):ES s=false:=by
 unfold ES;rcases h with h|h|h
 .rw[h];rfl
 .rw[decide_eq_false h];simp
 .rw[h];simp
theorem RD{s:ByteArray}(h1:0<s.size)(h2:s.size<=24)(h3:SN ((oI s).getD 0 0)=true):ES s=decide (Wq s=s.size):=by
 unfold ES;rw[decide_eq_true h1,decide_eq_true h2,h3];simp
def Ih(l:LayD):Bool:=ES l.name&&decide (((l.kind=1\/l.kind=3)/\1<=l.depth/\l.depth<=10000000)\/((l.kind=2\/l.kind=4)/\l.depth=0))
def zO{α:Type}(n:Nat)(f:Nat->Option α):Option α:=(List.range n).findSome? f
theorem kS{α:Type}{n:Nat}{f:Nat->Option α}(h:∀j<n,f j=none):zO n f=none:=by
 unfold zO;rw[List.findSome?_eq_none_iff];intro x hx;exact h x (by simpa using hx)
theorem nT{α:Type}{f:Nat->Option α}{x:Nat}{r:α}:∀{n:Nat},x<n->(∀j<x,f j=none)->f x=some r->zO n f=some r
 |0,hx,_,_=>by omega
 |n+1,hx,h,hr=>by
  unfold zO;rw[List.range_succ,List.findSome?_append];rcases sW x n with h1|h1
  .have:=nT (n:=n) h1 h hr;unfold zO at this;rw[this];rfl
  .have:x=n:=ω
   subst this;have h2:=kS h;unfold zO at h2;rw[h2,List.findSome?_cons,hr];rfl
theorem dn{p:Nat->Prop}{x:Nat}(h:∀j<x,p j)(h1:p x):∀j<x+1,p j:=λj hj=>by
 rcases sW j x with g|g
 .exact h j g
 .have:j=x:=ω
  subst this;exact h1
def L0:LayD:=⟨⟨#[]⟩,0,0⟩
def lZ:EntR:=⟨0,⟨#[]⟩,[],⟨false,[],false,[]⟩⟩
def mG(ls:List LayD)(s:ByteArray):Int:=match zO ls.length (λi=>if eqS (ls.getD i L0).name s=true then some i else none)with
 |some i=>((i:Nat):Int)
 |none=>-1
theorem wR{ls:List LayD}{s:ByteArray}{x:Nat}(hx:x<ls.length)(h:∀j<x,eqS (ls.getD j L0).name s=false)(h1:eqS (ls.getD x L0).name s=true):mG ls s=(x:Nat):=by
 unfold mG;rw[nT (x:=x) (r:=x) hx (λj hj=>by rw[h j hj];rfl) (by rw[h1];rfl)]
theorem Qi{ls:List LayD}{s:ByteArray}(h:∀j<ls.length,eqS (ls.getD j L0).name s=false):mG ls s = -1:=by
 unfold mG;rw[kS (λj hj=>by rw[h j hj];rfl)]
theorem uV(ls:List LayD)(s:ByteArray):∀n≤ls.length,(∀j<n,eqS (ls.getD j L0).name s=false)\/∃x<n,(∀j<x,eqS (ls.getD j L0).name s=false)/\eqS (ls.getD x L0).name s=true
 |0,_ => .inl λj hj=>absurd hj (EK _)
 |n+1,h=>by
  rcases uV ls s n ω with g|⟨x,g1,g2,g3⟩
  .cases e:eqS (ls.getD n L0).name s with
   |false=>exact .inl (dn g e)
   |true=>exact .inr ⟨n,ω,g,e⟩
  .exact .inr ⟨x,ω,g2,g3⟩
def pI(ls:List LayD)(i:Nat):Option Int:=if Ih (ls.getD i L0)=false then some 1 else if mG ls (ls.getD i L0).name<i then some 5 else none
def lV(ls:List LayD):Int:=if Ih (ls.getD (ls.length-1) L0)=false then 1 else if mG ls (ls.getD (ls.length-1) L0).name<((ls.length-1:Nat):Int)then 5 else 0
theorem getD_take'{α:Type}{l:List α}{d:α}{i n:Nat}(h:i<n):(l.take n).getD i d=l.getD i d:=by
 simp[jH,h,tH]
theorem Io{ls:List LayD}{i:Nat}(h:i<ls.length):mG (ls.take (i+1)) (ls.getD i L0).name=mG ls (ls.getD i L0).name:=by
 have hl:(ls.take (i+1)).length=i+1:=by simp;omega
 have hself:eqS (ls.getD i L0).name (ls.getD i L0).name=true:=by unfold eqS;simp
 rcases uV ls (ls.getD i L0).name (i+1) ω with g|⟨x,g1,g2,g3⟩
 .have:=g i ω;rw[hself]at this;cases this
 .rw[wR (x:=x) ω g2 g3];exact wR ω (λj hj=>by rw[getD_take' ω];exact g2 j hj) (by rw[getD_take' g1];exact g3)
theorem zS{ls:List LayD}{i:Nat}(h:i<ls.length):lV (ls.take (i+1))=(pI ls i).getD 0:=by
 have hl:(ls.take (i+1)).length=i+1:=by simp;omega
 unfold lV pI;rw[hl,show i+1-1=i by omega,getD_take' ω,Io h];split
 .rfl
 .split<;>rfl
def oH(ls:List LayD)(es:List EntR)(i:Nat):Option Int:=if mG ls (es.getD i lZ).layer<0 then some 4 else if jl (es.getD i lZ)=false then some 1 else none
def gJ(ls:List LayD)(es:List EntR):Int :=
 if 20<ls.length\/200<es.length then 3
 else match zO ls.length (pI ls)with
  |some r=>r
  |none=>match zO es.length (oH ls es)with
   |some r=>r
   |none=>0
theorem Nl{ls:List LayD}{es:List EntR}(h:20<ls.length\/200<es.length):gJ ls es=3:=by unfold gJ;rw[if_pos h]
theorem Lc{ls:List LayD}{es:List EntR}{x:Nat}{r:Int}(h:¬(20<ls.length\/200<es.length))(hx:x<ls.length)(h1:∀j<x,pI ls j=none)(h2:pI ls x=some r):gJ ls es=r:=by
 unfold gJ;rw[if_neg h,nT hx h1 h2]
theorem Nz{ls:List LayD}{es:List EntR}{x:Nat}{r:Int}(h:¬(20<ls.length\/200<es.length))(h0:∀j<ls.length,pI ls j=none)(hx:x<es.length)(h1:∀j<x,oH ls es j=none)(h2:oH ls es x=some r):gJ ls es=r:=by
 unfold gJ;rw[if_neg h,kS h0];simp only;rw[nT hx h1 h2]
theorem GV{ls:List LayD}{es:List EntR}(h:¬(20<ls.length\/200<es.length))(h0:∀j<ls.length,pI ls j=none)(h1:∀j<es.length,oH ls es j=none):gJ ls es=0:=by
 unfold gJ;rw[if_neg h,kS h0];simp only;rw[kS h1]
def okV(e:Ent):Prop:=(e.kind=1/\e.pts.length=2\/e.kind=2/\e.pts.length=3\/e.kind=3/\e.pts.length=1/\∃q:Rat,0<q/\rz q<=12/\e.rad=kX q)/\L8 e
@[reducible] def dF(e:Ent):EntR:=⟨e.kind,e.layer,e.pts.map λp=>(kX p.1,kX p.2),e.rad⟩
theorem RI(e:Ent):bU (dF e)=bF e:=by
 unfold bU dF bF;simp only[List.map_map];rfl
theorem LV{e:EntR}(hs:qQ e)(h:jl e=true):∃x:Ent,e=dF x/\okV x:=by
 obtain⟨kd,ly,pts,rd⟩:=e;obtain⟨s1,s2,s3,s4⟩:=hs;unfold jl at h;simp only[bG,decide_eq_true_eq,gQ]at h;obtain⟨h1,h2,h3⟩:=h;simp only at s1 s2 s3 s4 h1 h2 h3
 have hp:∀p∈pts,p=(kX (qR p.1),kX (qR p.2)):=λp hp=>by
  obtain⟨a1,a2⟩:=h2 p hp;unfold fK at a1 a2;rw[bG]at a1 a2;exact Prod.ext (yc a1.1) (yc a2.1)
 have he:(pts.map λp=>(qR p.1,qR p.2)).map (λp:P2=>(kX p.1,kX p.2))=pts:=by
  rw[List.map_map];exact(List.map_congr_left (λp hp'=>(hp p hp').symm)).trans (List.map_id pts)
 refine⟨⟨kd,ly,pts.map λp=>(qR p.1,qR p.2),rd⟩, ?_, ?_, ?_, ?_, ?_⟩
 .unfold dF;simp only;rw[he]
 .simp only[aN];rcases h1 with g|g|g
  .exact .inl g
  .exact .inr (.inl g)
  .refine .inr (.inr ⟨g.1,g.2,qR rd, ?_⟩);rcases Bool.or_eq_true_iff.1 h3 with f|f
   .rw[decide_eq_true_eq]at f;exact absurd g.1 f
   .rw[bG,decide_eq_true_eq]at f;have f1:=f.1;unfold fK at f1;rw[bG]at f1;have e1:=yc f1.1;exact⟨f.2,wo (e1▸s2),e1⟩
 .intro p hp';obtain⟨u,hu,rfl⟩:=dw.1 hp';have e1:=hp u hu;have e2:=s1 u hu;exact⟨wo (by have:=e2.1;rw[e1]at this;exact this),wo (by have:=e2.2;rw[e1]at this;exact this)⟩
 .show ly.size<=1000;omega
 .simp only[aN];omega
theorem Bv{α:Type}{n:Nat}{f:Nat->Option α}(h:zO n f=none):∀j<n,f j=none:=by
 unfold zO at h;rw[List.findSome?_eq_none_iff]at h;exactλj hj=>h j (by simpa using hj)
theorem Bz{α:Type}{n:Nat}{f:Nat->Option α}{r:α}(h:zO n f=some r):∃j<n,f j=some r:=by
 unfold zO at h;obtain⟨j,h1,h2⟩:=List.exists_of_findSome?_eq_some h;exact⟨j,by simpa using h1,h2⟩
theorem OL{ls:List LayD}{es:List EntR}(h:gJ ls es=0):ls.length<=20/\es.length<=200/\(∀j<ls.length,pI ls j=none)/\∀j<es.length,oH ls es j=none:=by
 unfold gJ at h;split at h
 .cases h
 .rename_i g;split at h
  .rename_i r e;obtain⟨j,_,h2⟩:=Bz e;subst h;unfold pI at h2;split at h2
   .cases h2
   .split at h2<;>cases h2
  .rename_i e;split at h
   .rename_i r e';obtain⟨j,_,h2⟩:=Bz e';subst h;unfold oH at h2;split at h2
    .cases h2
    .split at h2<;>cases h2
   .rename_i e';exact⟨ω,ω,Bv e,Bv e'⟩
theorem Gy{ls:List LayD}{es:List EntR}(hs:∀e∈es,qQ e)(h:gJ ls es=0):∃xs:List Ent,es=xs.map dF/\∀x∈xs,okV x:=by
 have h4:=(OL h).2.2.2
 have key:∀e∈es,∃x:Ent,e=dF x/\okV x:=λe he=>by
  obtain⟨j,hj,rfl⟩:=xH he;refine LV (hs _ he) ?_;have h5:=h4 j hj;unfold oH at h5;have e1:es.getD j lZ=es[j]:=by simp[jH,hj]
  rw[e1]at h5;split at h5
  .cases h5
  .split at h5
   .cases h5
   .rename_i g;simpa using g
 clear h h4 hs;induction es with
 |nil=>exact⟨[],rfl,λx hx=>by simp at hx⟩
 |cons e r ih =>
  obtain⟨x,h1,h2⟩:=key e η;obtain⟨xs,h3,h4⟩:=ih (λe he=>key e (by simp[he]));refine⟨x::xs,by rw[dJ,<-h1,<-h3],λy hy=>?_⟩;rcases mQ.1 hy with rfl|hy
  .exact h2
  .exact h4 y hy
theorem Af{sq:Rat}{es:List Ent}{e:Ent}(h:e∈(aQ sq 0 [] es).es):∀v∈aH e,v∈aan (aQ sq 0 [] es).sp e.layer:=by
 have hj:=nH sq 0 [] es;obtain⟨j,hj1,rfl⟩:=xH h;have hl:=hj.len;obtain⟨ws,h1,h2,h3⟩:=hj.ent j (es[j]' ω) _ (eY _) (eY hj1);rw[h2];have h4:=jV h1;rw[h4.1,h4.2.1];exact h3
theorem zip_fst{l:List Ent}{x:Ent×Nat}(h:x∈l.zipIdx):x.1∈l:=by
 have:=List.mem_map_of_mem (f:=(·.1)) h;simpa using this
theorem su{l:List (Ent×Nat)}{x:Ent×Nat}(h:x∈kE l):x∈l:=by
 unfold kE at h;obtain⟨y,h1,rfl⟩:=dw.1 h;have h2:=(uP.1 h1).1;exact(List.of_mem_zip h2).1
theorem zn{α β:Type}:∀{l:List α} {m:List β} {a:α} {b:β},l.length=m.length->(l++[a]).zip (m++[b])=l.zip m++[(a,b)]
 |[],[],a,b,_=>rfl
 |x::l,y::m,a,b,h=>by
  rw[lX,lX,List.zip_cons_cons,zn (by simpa using h)];rfl
theorem uQ(l:List (Ent×Nat))(x:Ent×Nat):kE (l++[x])=kE l++(if(l.any λf=>aZ f.1 x.1)=true then[]else[x]):=by
 unfold kE
 have e1:bn ((l++[x]).map (·.1))=bn (l.map (·.1))++[l.any λf=>aZ f.1 x.1]:=by
  rw[dI,dJ,eF,sS,List.any_map];rfl
 rw[e1,zn (by rw[eX,aN]),KG,dI];congr 1;cases(l.any λf=>aZ f.1 x.1)<;>simp
theorem NY(l:List (Ent×Nat)):(kE l).Pairwise λa b=>aZ a.1 b.1=false:=by
 induction l using nS with
 |h0=>exact List.Pairwise.nil
 |h1 l x ih =>
  rw[uQ];split
  .simpa using ih
  .rename_i g;refine List.pairwise_append.2 ⟨ih,List.pairwise_singleton _ _,λa ha b hb=>?_⟩;simp at hb;subst hb;cases e:aZ a.1 b.1 with
   |false=>rfl
   |true=>exact absurd (KF.2 ⟨a,su ha,e⟩) g
theorem J4(l:List (Ent×Nat)):l.Pairwise (λa b=>aZ a.1 b.1=false)->kE l=l/\∀b∈bn (l.map (·.1)),b=false:=by
 induction l using nS with
 |h0=>intro _;exact⟨rfl,λb hb=>by simp[bn,kR]at hb⟩
 |h1 l x ih =>
  intro h;obtain⟨h1,_,h3⟩:=List.pairwise_append.1 h;obtain⟨g1,g2⟩:=ih h1
  have g:(l.any λf=>aZ f.1 x.1)=false:=by
   rw[yF];intro f hf;rw[h3 f hf x η];decide
  refine⟨by rw[uQ,g1,g];rfl,λb hb=>?_⟩;rw[dI,dJ,eF,sS,List.any_map]at hb;rcases iH.1 hb with hb|hb
  .exact g2 b hb
  .simp at hb;rw[hb];have:=g;simpa using this
theorem IJ{l:List (Ent×Nat)}(h:∀b∈bn (l.map (·.1)),b=false):Jr l=[]:=by
 unfold Jr;rw[List.map_eq_nil_iff,List.filter_eq_nil_iff];intro x hx;have:=h x.2 (List.of_mem_zip hx).2;rw[this];decide
theorem EP{l:List (Ent×Nat)}:∀c∈uG l,c.kind=4:=by
 intro c hc;unfold uG at hc;obtain⟨i,_,h⟩:=List.mem_flatMap.1 hc;unfold opn at h;split at h
 .cases h
 .split at h
  .rcases iH.1 h with h|h<;>(unfold o8 at h;split at h<;>simp at h;subst h;rfl)
  .cases h
theorem RX{α β:Type}{f:α->β}{r:β->β->Prop}{l:List α}(h:l.Pairwise λa b=>r (f a) (f b)):(l.map f).Pairwise r:=List.pairwise_map.2 h
theorem Gg(sq:Rat)(es:List Ent):∀e∈(aG sq es).es,e∈(aQ sq 0 [] es).es/\gu e=0:=by
 intro e he;unfold aG at he;simp only at he;obtain⟨x,hx,rfl⟩:=dw.1 he;have h1:=su hx;unfold jE at h1;obtain⟨h2,h3⟩:=uP.1 h1;exact⟨zip_fst h2,by simpa using h3⟩
theorem Qj{l:List Ent}{r:Ent->Ent->Prop}(h:l.Pairwise r):l.zipIdx.Pairwise λa b=>r a.1 b.1:=by
 have:(l.zipIdx.map (·.1)).Pairwise r:=by simpa using h
 exact List.pairwise_map.1 this
theorem Px(l:List Ent):l.zipIdx.map (·.1)=l:=by simp
theorem EJ(sq:Rat)(es:List Ent):(aG sq (aG sq es).es).es=(aG sq es).es/\∀c∈(aG sq (aG sq es).es).cs,c.kind=4:=by
 have hre:=Gg sq es
 have hpw:(aG sq es).es.Pairwise λa b=>aZ a b=false:=by
  unfold aG;simp only;exact RX (NY _)
 generalize(aG sq es).es=rs at hre hpw ⊢;have hR:ApS sq (aQ sq 0 [] es).sp:=zH (λs=>by simp[aan]);obtain⟨j1,j2⟩:=pR hR (i:=0) (sp:=[]) (l:=rs) (λs w hw=>by simp[aan]at hw) (λe he v hv=>Af (hre e he).1 v hv)
 have hk:jE rs.zipIdx=rs.zipIdx:=by
  unfold jE;rw[List.filter_eq_self];intro x hx;rw[(hre x.1 (zip_fst hx)).2];rfl
 have hlo:jF rs.zipIdx=[]:=by
  unfold jF;rw[List.map_eq_nil_iff,List.filter_eq_nil_iff];intro x hx;rw[(hre x.1 (zip_fst hx)).2];decide
 obtain⟨l1,l2⟩:=J4 rs.zipIdx (Qj hpw);unfold aG;simp only;rw[j1,j2,hk,l1,hlo,IJ l2,Px];refine⟨rfl,λc hc=>?_⟩;simp only[lS]at hc;exact EP c hc
theorem Nh{sq:Rat}{es:List Ent}{q:P2->Prop}(hq:∀e∈es,∀p∈e.pts,q p){e':Ent}(h:e'∈(aG sq es).es):∃e∈es,e'.layer=e.layer/\e'.kind=e.kind/\e'.pts.length=e.pts.length/\e'.rad=e.rad/\∀p∈e'.pts,q p:=by
 have h1:=(Gg sq es e' h).1;have hj:=nH sq 0 [] es;have h2:=(yP (sq:=sq) hq es.length (gW _)).2.1;rw[rQ]at h2;obtain⟨j,hj1,hj2⟩:=xH h1;have hl:=hj.len;obtain⟨ws,g1,g2,g3⟩:=hj.ent j (es[j]' ω) e' (eY _) (by rw[eY hj1,hj2]);obtain⟨m1,m2,m3,m4,m5⟩:=jV g1;refine⟨es[j]' ω,tq _, ?_, ?_, ?_, ?_,h2 e' h1⟩<;>rw[g2]<;>assumption
end Go.Sw
