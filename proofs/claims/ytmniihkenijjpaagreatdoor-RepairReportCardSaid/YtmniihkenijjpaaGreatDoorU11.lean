/-
  Rules of the abstract run, plain laws, and what functions answer, for the law RepairReport.
  Conditions: none.
-/
import Derived.Test.YtmniihkenijjpaaGreatDoorU10
set_option linter.all false
namespace Go.Proofs.YtmniihkenijjpaaGreatDoor
open Go Go.RowKit Go.Sw
set_option maxRecDepth 100000
set_option maxHeartbeats 16000000
instance aaT(a:Int):DenI Tryz.prog 315 [Z a] (sz a<=100000000) (.tup [Z (if a<0 then 0 else fV a.natAbs),.int .i64 (if a<0 then 7 else 0)]):=⟨λhp=>by
 refine au Tryz.func315 rfl ?_
 repeat'((try(conv=>whnf));first
  |apply zaf|refine zaa ?_ ?_|(with_reducible first|apply zab|apply zac|refine zad (λ_=>?_) (λ_=>?_)|refine zae (λ_=>?_) (λ_=>?_))|refine zat (λ_=>?_) (λ_=>?_)|refine zah ?_ ?_|refine zas ζ ?_|refine zal ?_ ?_|refine zam ?_ ?_|(with_reducible first|refine zak ?_ ?_|apply zaj|apply zai)|apply zaq)
 all_goals(try apply zar)
 all_goals have hl:(lim a.natAbs).length<=100000000:=hp
 all_goals first
  |((conv=>whnf);refine Sw.Loop.inv (α:=Nat) (λx=>[(1,.ptr 1 0),(2,.ptr 2 0),(3,.int .i64 0),(4,.ptr 4 0),(5,.ptr 5 0)]) (λx=>[(1,.var [zs a,zl a]),(2,.var [.v (.bool false),.sl 1 []]),(4,.var [zs x,zl x]),(5,.var [zs 2,zl 2])]) (λx=>0<x/\a.natAbs<(x+1)*(x+1)/\sz x<=200000000) (λx=>x) (1000000000^(((lim a.natAbs).length+1)/2)) ?_ ?_ ?_ (λx hx=>?_))|skip
 all_goals(repeat'((try(conv=>whnf));first
  |apply zaf|refine zaa ?_ ?_|(with_reducible first|apply zab|apply zac|refine zad (λ_=>?_) (λ_=>?_)|refine zae (λ_=>?_) (λ_=>?_))|refine zat (λ_=>?_) (λ_=>?_)|refine zah ?_ ?_|refine zas ζ ?_|refine zal ?_ ?_|refine zam ?_ ?_|(with_reducible first|refine zak ?_ ?_|apply zaj|apply zai)|apply zaq))
 all_goals(try apply zar)
 all_goals first|(show SubE _ _;repeat'(first|exact trivial|refine And.intro ?_ ?_))|(show SubB _ _;repeat'(first|exact trivial|refine And.intro ?_ ?_))|skip
 all_goals(try rfl)
 all_goals(try simp only[aW]at *)
 all_goals(try simp only[aG,aB,lQ,kZ]at *)
 all_goals(try rw[DT ω])
 all_goals(try simp only[DY (show 0<=a by omega),Dc]at *)
 all_goals first
  |exact Gx ξ|exact CX ξ ξ|with_reducible exact G5 ξ ξ ξ|((conv=>whnf);exact⟨(x+a.natAbs/x)/2,⟨⟨rfl,rfl,rfl,rfl,rfl,trivial⟩,⟨rfl,rfl,rfl,rfl,trivial⟩,Et ξ ξ ξ,by show(x+a.natAbs/x)/2<x;omega⟩⟩)|(refine(congrArg (λc=>some (Bk.var c)) ?_:some (Bk.var _)=some (Bk.var _));exact JD _)|exact wQ rfl hl|(have z1:=@IU a;have z2:=gQ;have z3:=gG;have z4:=dV (n:=2) ω ω;(repeat' apply And.intro)<;>first|assumption|omega|decide|(simp only[dh,rV,bF,bn,bG];omega)|(simp;done)|(have z5:=z1 (x:=x);have z6:=z2 x ((a.natAbs/x:Nat):Int);omega)|skip)⟩
instance Zu(l h:Int):DenI Tryz.prog 333 [.int .i64 l,.int .i64 h] (True) (Ov (JW l h)):=⟨λhp=>by
 refine au Tryz.func333 rfl ?_
 repeat'((try(conv=>whnf));first
  |(with_reducible first|apply zab|apply zac|refine zad (λ_=>?_) (λ_=>?_))|apply zaq)
 all_goals first
  |(rw[G7 ω ω];rfl)|(rw[AL ω];rfl)⟩
instance aeU(l h:Int):DenI Tryz.prog 305 [Iv l h] (-2305843009213693952<=l/\l<=2305843009213693952∧-2305843009213693952<=h/\h<=2305843009213693952) (Iv (-h) (-l)):=⟨λhp=>by
 refine au Tryz.func305 rfl ?_
 repeat'((try(conv=>whnf));first
  |apply zaq)
 rw[aS ω ω,aS ω ω,Int.zero_sub,Int.zero_sub];rfl⟩
instance afp(n:Int):DenI Tryz.prog 355 [.int .i64 n] (-9223372036854775808<=n/\n<=9223372036854775807) (.int .u64 n.natAbs):=⟨λhp=>by
 refine au Tryz.func355 rfl ?_
 repeat'((try(conv=>whnf));first
  |(with_reducible refine zad (λ_=>?_) (λ_=>?_))|apply zaq)
 all_goals(refine iE ?_;simp only[IntKind.wrap_u64];omega)⟩
instance acB(l h:Int):DenI Tryz.prog 306 [Iv l h] (True) (.tup [.int .i64 (FN l h).1,.bool (FN l h).2]):=⟨λhp=>by
 refine au Tryz.func306 rfl ?_
 repeat'((try(conv=>whnf));first
  |(with_reducible first|apply zab|apply zac|refine zad (λ_=>?_) (λ_=>?_))|refine zas ζ ?_|apply zaq)
 all_goals(refine ibE ?_ ?_<;>unfold FN<;>(repeat' split)<;>simp_all<;>omega)⟩
instance abg(a b:Nat):DenI Tryz.prog 327 [.int .u64 a,.int .u64 b] (a<18446744073709551616/\b<18446744073709551616) (.tup [.int .u64 (a*b / 18446744073709551616:Nat),.int .u64 (a*b % 18446744073709551616:Nat)]):=⟨λhp=>by
 refine au Tryz.func327 rfl ?_
 repeat'((try(conv=>whnf));first
  |refine zah ?_ ?_|apply zaq)
 all_goals(try apply zar)
 all_goals first
  |(show(0:Int)<=_;decide)|(simp only[adH,Yr,Z9,e32,e16,e48,zQ,VH,KF,wu,<-J4,<-Int.natCast_add];obtain⟨m1,m2,m3,m4,m5⟩:=I8 (a:=a) (b:=b) hp.1 hp.2 rfl rfl rfl rfl;refine iE2 ?_ rfl;rw[<-m1];apply congrArg Nat.cast;omega)⟩
instance aay(x y:Int):DenI Tryz.prog 334 [.int .i64 x,.int .i64 y] ((-9223372036854775808<=x/\x<=9223372036854775807)∧-9223372036854775808<=y/\y<=9223372036854775807) (.tup [.int .i64 (pI x y).1,.int .i64 (pI x y).2.1,.bool (pI x y).2.2]):=⟨λhp=>by
 refine au Tryz.func334 rfl ?_
 repeat'((try(conv=>whnf));first
  |refine zaa ?_ ?_|(with_reducible first|apply zab|apply zac|refine zad (λ_=>?_) (λ_=>?_)|refine zae (λ_=>?_) (λ_=>?_))|refine zat (λ_=>?_) (λ_=>?_)|refine zah ?_ ?_|apply zaq)
 all_goals(try apply zar)
 all_goals(try simp only[Yr,Z9,e16,e48,zQ,KF]at *)
 all_goals first
  |exact hp.1|exact hp.2|(show(0:Int)<=_;decide)|(constructor<;>omega)|(refine EX ?_;exact Vm ξ)|(rw[Yl ω]at *;refine EX ?_;exact Qh (x:=x) (y:=y) ξ)|(rw[Yl ω]at *;have q1:=w1 (q:=((x.natAbs*y.natAbs/65536:Nat):Int)) ω ξ;have q2:=w2 (q:=((x.natAbs*y.natAbs/65536:Nat):Int)) ω ξ;have q3:=w3 (q:=((x.natAbs*y.natAbs/65536:Nat):Int)) ω ξ;have q4:=w4 (q:=((x.natAbs*y.natAbs/65536:Nat):Int)) ω ξ;rename_i g1 g2 g3 g4 hl;(try rw[q1]at hl);(try rw[q2]at hl);(try rw[q3]at hl);(try rw[q4]at hl);(try rw[q1]);(try rw[q2]);(try rw[q3]);(try rw[q4]);clear q1 q2 q3 q4;first|refine Gj (z:=true) g2 g3 g1 (decide_eq_true ω) rfl rfl ?_|refine Gj (z:=false) g2 g3 g1 (decide_eq_false ω) rfl rfl ?_)
 all_goals first|exact decide_eq_decide.2 ω|exact(decide_eq_false ω).symm⟩
instance(k:Nat):DenI Tryz.prog 160 [.bool false,.c (.sl 1 (List.replicate k [Cell.v (.int .u32 0)]++[[Cell.v (.int .u32 1)]]))] True (Z ((1000000000 ^ k:Nat):Int)):=⟨λ_=>by
 have h:=(inferInstance:DenI Tryz.prog 160 [.bool false,.c (lmc (List.replicate k 0++[1]))] _ _).den ((fD k).append (Lb.cons ω Lb.nil));rw[wX]at h;unfold lmc at h;rw[bH,List.map_replicate]at h
 exact h⟩
instance acR(a:Int):DenI Tryz.prog 366 [Z a] (sz a<=100000000) (.tup [Z (if a<0 then 0 else fV a.natAbs),.int .i64 (if a<0 then 7 else 0)]):=⟨λhp=>by
 refine au Tryz.func366 rfl ?_
 repeat'((try(conv=>whnf));first
  |apply zaf|refine zaa ?_ ?_|(with_reducible refine zad (λ_=>?_) (λ_=>?_))|refine zah ?_ ?_|refine zal ?_ ?_|apply zaq)
 all_goals(try apply zar)
 all_goals have hl:(lim a.natAbs).length<=100000000:=hp
 all_goals first
  |((conv=>whnf);refine Sw.Loop.inv (α:=Nat) (λx=>[(1,.ptr 1 0),(2,.ptr 2 0),(3,.int .i64 0),(5,.ptr 5 0),(6,.ptr 6 0)]) (λx=>[(1,.var [zs a,zl a]),(2,.var [.v (.bool false),.sl 1 []]),(5,.var [zs x,zl x]),(6,.var [zs 2,zl 2])]) (λx=>0<x/\a.natAbs<(x+1)*(x+1)/\sz x<=200000000) (λx=>x) (1000000000^(((lim a.natAbs).length+1)/2)) ?_ ?_ ?_ (λx hx=>?_))|skip
 all_goals(repeat'((try(conv=>whnf));first
  |apply zaf|refine zaa ?_ ?_|(with_reducible refine zad (λ_=>?_) (λ_=>?_))|refine zas ζ ?_|apply zaq))
 all_goals(try apply zar)
 all_goals first|(show SubE _ _;repeat'(first|exact trivial|refine And.intro ?_ ?_))|(show SubB _ _;repeat'(first|exact trivial|refine And.intro ?_ ?_))|skip
 all_goals(try rfl)
 all_goals(try simp only[aW]at *)
 all_goals(try simp only[aG,aB,lQ,kZ]at *)
 all_goals(try rw[DT ω])
 all_goals(try simp only[dh,rV,bF,bn,bG])
 all_goals(try simp only[DY (show 0<=a by omega),Dc]at *)
 all_goals first
  |exact Gx ξ|exact CX ξ ξ|with_reducible exact G5 ξ ξ ξ|((conv=>whnf);exact⟨(x+a.natAbs/x)/2,⟨⟨rfl,rfl,rfl,rfl,rfl,trivial⟩,⟨rfl,rfl,rfl,rfl,trivial⟩,Et ξ ξ ξ,by show(x+a.natAbs/x)/2<x;omega⟩⟩)|exact wQ rfl hl|(show ld _ _=some _;rfl)|(have z1:=@IU a;have z2:=gQ;have z3:=gG;have z4:=dV (n:=2) ω ω;(repeat' apply And.intro)<;>first|assumption|omega|decide|(simp;done)|(have z5:=z1 (x:=x);have z6:=z2 x ((a.natAbs/x:Nat):Int);omega)|skip)⟩
instance Yc(a:Rat):DenI Tryz.prog 302 [R a] (rz a<=10000000) (Ov (bZ a)):=⟨λhp=>by
 refine au Tryz.func302 rfl ?_
 repeat'((try(conv=>whnf));first
  |apply zaf|refine zaa ?_ ?_|(with_reducible first|apply zab|apply zac|refine zae (λ_=>?_) (λ_=>?_))|refine zas ζ ?_|apply zaq)
 all_goals(try apply zar)
 all_goals first
  |exact Vr (Zo ξ)|exact Vr (aaA ξ)|(rename_i g1 g2;rw[if_pos g1,if_pos g2];rfl)|(have z1:=gK a ((65536:Int):Rat);have z2:=adK;have z3:=fG (a*((65536:Int):Rat));have z4:=LG (-(a*((65536:Int):Rat)));omega)⟩
instance f_add(a b c d:Int):DenI Tryz.prog 304 [Iv a b,Iv c d] (-2305843009213693952<=a/\a<=2305843009213693952∧-2305843009213693952<=b/\b<=2305843009213693952∧-2305843009213693952<=c/\c<=2305843009213693952∧-2305843009213693952<=d/\d<=2305843009213693952) (Ov (pY (a,b) (c,d))):=⟨λhp=>by
 refine au Tryz.func304 rfl ?_
 repeat'((try(conv=>whnf));first
  |apply zaf|apply zaq)
 rw[aS ω ω,aS ω ω];rfl⟩
instance ab5(n:Int):DenI Tryz.prog 356 [.int .i64 n] (0<=n/\n<=2305843009213693952) (.tup [.int .i64 (rt n),.bool (decide (rt n*rt n=n*65536))]):=⟨λhp=>by
 refine au Tryz.func356 rfl ?_
 repeat'((try(conv=>whnf));first
  |apply zaf|refine zaa ?_ ?_|refine zas ζ ?_|apply zaq)
 all_goals(try apply zar)
 all_goals(have hn:=LZ hp.1 hp.2;have h0:0=0:=rfl)
 all_goals(try simp only[aae,DU])
 all_goals first
  |exact ibE (if_pos (show -9223372036854775808<=rt n/\rt n<=9223372036854775807 by omega)) rfl|omega|(have z1:=eF n 65536;have z2:=szl n ω ω;have z3:=szl 65536 ω ω;have z4:=szl (rt n) ω ω;omega)⟩
instance acw(l h:Int):DenI Tryz.prog 335 [Iv l h] (l<=h∧-2305843009213693952<=l/\l<=2305843009213693952∧-2305843009213693952<=h/\h<=2305843009213693952) (Ov (jY (l,h))):=⟨λhp=>by
 refine au Tryz.func335 rfl ?_
 repeat'((try(conv=>whnf));first
  |apply zaf|refine zaa ?_ ?_|(with_reducible first|refine zad (λ_=>?_) (λ_=>?_)|refine zae (λ_=>?_) (λ_=>?_))|apply zaq)
 all_goals(try apply zar)
 all_goals(try rw[RZ]at *)
 all_goals first
  |exact Vr (if_pos ξ)|exact aaI ξ ξ|(have hn:=LZ (n:=h) ω ω;rw[aS ω ω];exact aao ξ ξ)|(constructor<;>omega)⟩
instance aeO(a b c d:Int):DenI Tryz.prog 303 [Iv a b,Iv c d] (-2305843009213693952<=a/\a<=2305843009213693952∧-2305843009213693952<=b/\b<=2305843009213693952∧-2305843009213693952<=c/\c<=2305843009213693952∧-2305843009213693952<=d/\d<=2305843009213693952) (Ov (nS (a,b) (c,d))):=⟨λhp=>by
 refine au Tryz.func303 rfl ?_
 all_goals(repeat'((try rw[Ez]);(try rw[Aw]);(try(conv=>whnf));first
  |refine zaa ?_ ?_|refine dS rfl ?_|refine dY rfl ?_|refine zat (λ_=>?_) (λ_=>?_)|(with_reducible first|apply zaj|apply zai)|refine Sw.Loop.unroll ?_|apply zaq))
 all_goals(try apply zar)
 all_goals(try simp only[KY,Oi])
 all_goals first
  |exact Vr (qZ (.inl rfl) (.inl rfl) (by with_reducible assumption))|exact Vr (qZ (.inl rfl) (.inr rfl) (by with_reducible assumption))|exact Vr (qZ (.inr rfl) (.inl rfl) (by with_reducible assumption))|exact Vr (qZ (.inr rfl) (.inr rfl) (by with_reducible assumption))|(rename_i g1 g2 g3 g4;exact O4 g1 g2 g3 g4)|(constructor<;>constructor<;>omega)⟩
instance aaW(a b c:Rat):DenI Tryz.prog 307 [Q3 a b c] (rz a<=100000/\rz b<=100000/\rz c<=100000) (Ov (jV a b c)):=⟨λhp=>by
 refine au Tryz.func307 rfl ?_
 repeat'((try(conv=>whnf));first
  |apply zaf|refine zaa ?_ ?_|(with_reducible first|apply zab|apply zac|refine zad (λ_=>?_) (λ_=>?_))|refine zat (λ_=>?_) (λ_=>?_)|apply zaq)
 all_goals(try apply zar)
 all_goals(try simp only[Prod.eta]at *)
 all_goals first
  |omega|(have z1:=gV a;have z2:=gV b;have z3:=gV c;have z4:=NH z3;have z5:=uZ ((bZ b).getD (0,0)) ((jY ((bZ c).getD (0,0))).getD (0,0));unfold Ai at *;omega)|refine aaR ?_|(show Ov (bZ a)=_;refine congrArg Ov ?_)|(show Ov (pY _ _)=_;refine congrArg Ov ?_)
 all_goals(unfold jV;(try simp only[xQ,fE]at *);rcases h1:bZ a with _|x<;>rcases h2:bZ b with _|y<;>rcases h3:bZ c with _|z<;>simp_all)
 all_goals(rcases h4:jY z with _|s<;>simp_all)
 all_goals(rcases h5:nS y s with _|p<;>simp_all)⟩
instance afw(n:Int):DenI Tryz.prog 202 [.int .i64 n] (True) (.bool false):=⟨λhp=>by
 refine au Tryz.func202 rfl ?_
 all_goals(repeat'((try(conv=>whnf));first
  |apply zaq))
 all_goals first
  |(refine bE ?_;simp)⟩
instance afy(m n:Int):DenI Tryz.prog 164 [.int .i64 m,.int .i64 n] (True) (.int .i64 (gU m n)):=⟨λhp=>by
 refine au Tryz.func164 rfl ?_
 all_goals(repeat'((try(conv=>whnf));first
  |apply zaf|(with_reducible first|apply zac|refine zad (λ_=>?_) (λ_=>?_))|apply zaq))
 all_goals first
  |(refine iE ?_;unfold gU;(repeat' split)<;>omega)⟩
instance aeI(a b:Rat):DenI Tryz.prog 124 [R a,R b] (rz a<=10000000/\rz b<=10000000) (.int .i64 (dG a b)):=⟨λhp=>by
 have i_a:RzB a 10000000:=⟨hp.1⟩
 have i_b:RzB b 10000000:=⟨hp.2⟩
 all_goals refine au Tryz.func124 rfl ?_
 all_goals(repeat'((try(conv=>whnf));first
  |apply zaf|refine zaa ?_ ?_|(with_reducible refine zae (λ_=>?_) (λ_=>?_))|refine zas ζ ?_|apply zaq))
 all_goals(try apply zar)
 all_goals(try simp only[aW]at *)
 all_goals first
  |with_reducible exact V5 ξ|rfl|exact zav⟩
instance aeC(a b:Rat):DenC Tryz.prog 237 [R a,R b] (rz a<=10000000/\rz b<=10000000) (b=0) (.tup [ZR,.int .i64 6]) (.tup [R (a / b),.int .i64 0]):=⟨denC λhp q e1 e2=>by
 have i_a:RzB a 10000000:=⟨hp.1⟩
 have i_b:RzB b 10000000:=⟨hp.2⟩
 all_goals refine au Tryz.func237 rfl ?_
 all_goals(repeat'((try(conv=>whnf));first
  |apply zaf|refine zaa ?_ ?_|(with_reducible refine zad (λ_=>?_) (λ_=>?_))|refine zas ζ ?_|apply zaq))
 all_goals(try apply zar)
 all_goals(try simp only[aW]at *)
 all_goals first
  |exact za0|with_reducible exact TF ξ e2|(refine⟨KN ξ, ?_, ?_⟩<;>exact eY ω)|exact zav⟩
instance abz(n d:Int):DenC Tryz.prog 253 [Z n,Z d] (sz n<=500000000/\sz d<=500000000) (d=0) (.tup [ZR,.int .i64 6]) (.tup [R ((n:Rat) / d),.int .i64 0]):=⟨denC λhp q e1 e2=>by
 have i_n:SzB n 500000000:=⟨hp.1⟩
 have i_d:SzB d 500000000:=⟨hp.2⟩
 all_goals refine au Tryz.func253 rfl ?_
 all_goals(repeat'((try(conv=>whnf));first
  |apply zaf|refine zaa ?_ ?_|(with_reducible refine zad (λ_=>?_) (λ_=>?_))|apply zaq))
 all_goals(try apply zar)
 all_goals(try simp only[aW]at *)
 all_goals first
  |exact za0|exact za6|(refine⟨ξ, ?_, ?_⟩<;>exact eY ω)⟩
instance adz(n d:Int):DenI Tryz.prog 226 [.int .i64 n,.int .i64 d] ((-9223372036854775808<=n/\n<=9223372036854775807)∧-9223372036854775808<=d/\d<=9223372036854775807) (R ((n:Rat) / d)):=⟨λhp=>by
 refine au Tryz.func226 rfl ?_
 all_goals(repeat'((try(conv=>whnf));first
  |refine zaa ?_ ?_|(with_reducible refine zad (λ_=>?_) (λ_=>?_))|apply zaq))
 all_goals(try apply zar)
 all_goals first
  |rfl|omega|(subst d;exact congrArg R (Xk n))|(have z1:=dV hp.1.1 hp.1.2;have z2:=dV hp.2.1 hp.2.2;omega)⟩
instance ac2(a b:Rat):DenI Tryz.prog 74 [R a,R b] (rz a<=10000000/\rz b<=10000000) (.bool (decide (a=b))):=⟨λhp=>by
 have i_a:RzB a 10000000:=⟨hp.1⟩
 have i_b:RzB b 10000000:=⟨hp.2⟩
 all_goals refine au Tryz.func74 rfl ?_
 all_goals(repeat'((try(conv=>whnf));first
  |apply zaf|refine zaa ?_ ?_|refine zao ?_ (λ_=>?_) (λ_=>?_)|(with_reducible first|apply zab|apply zac|refine zad (λ_=>?_) (λ_=>?_)|refine zae (λ_=>?_) (λ_=>?_))|refine zat (λ_=>?_) (λ_=>?_)|refine zah ?_ ?_|refine zas ζ ?_|refine zal ?_ ?_|refine zam ?_ ?_|(with_reducible first|refine zak ?_ ?_|apply zaj|apply zai)|apply zaq))
 all_goals(try apply zar)
 all_goals(try simp only[aW]at *)
 all_goals first
  |with_reducible exact QI ξ|with_reducible exact Q7 ξ|exact zav|skip⟩
instance acN(a:Int):DenI Tryz.prog 278 [Z a] (sz a<=10000000) (.tup [Z (if a<0 then 0 else (fV a.natAbs:Nat)),.bool (lK a)]):=⟨λhp=>by
 have i_a:SzB a 10000000:=⟨hp⟩
 all_goals refine au Tryz.func278 rfl ?_
 all_goals(repeat'((try(conv=>whnf));first
  |apply zaf|refine zaa ?_ ?_|refine zao ?_ (λ_=>?_) (λ_=>?_)|(with_reducible first|apply zab|apply zac|refine zad (λ_=>?_) (λ_=>?_)|refine zae (λ_=>?_) (λ_=>?_))|refine zat (λ_=>?_) (λ_=>?_)|refine zah ?_ ?_|refine zas ζ ?_|refine zal ?_ ?_|refine zam ?_ ?_|(with_reducible first|refine zak ?_ ?_|apply zaj|apply zai)|apply zaq))
 all_goals(try apply zar)
 all_goals(try simp only[aW]at *)
 all_goals first
  |with_reducible exact XI ξ|with_reducible exact Wy ξ|exact zav|skip⟩
instance adD(n d:Int):DenC Tryz.prog 279 [Z n,Z d] (sz n<=500000000/\sz d<=500000000) (d=0) (.tup [ZR,.int .i64 6]) (.tup [R ((n:Rat) / d),.int .i64 0]):=⟨denC λhp q e1 e2=>by
 have i_n:SzB n 500000000:=⟨hp.1⟩
 have i_d:SzB d 500000000:=⟨hp.2⟩
 all_goals refine au Tryz.func279 rfl ?_
 all_goals(repeat'((try(conv=>whnf));first
  |apply zaf|refine zaa ?_ ?_|refine zao ?_ (λ_=>?_) (λ_=>?_)|(with_reducible first|apply zab|apply zac|refine zad (λ_=>?_) (λ_=>?_)|refine zae (λ_=>?_) (λ_=>?_))|refine zat (λ_=>?_) (λ_=>?_)|refine zah ?_ ?_|refine zas ζ ?_|refine zal ?_ ?_|refine zam ?_ ?_|(with_reducible first|refine zak ?_ ?_|apply zaj|apply zai)|apply zaq))
 all_goals(try apply zar)
 all_goals(try simp only[aW]at *)
 all_goals first
  |exact za0|exact za6|(refine⟨ξ, ?_, ?_⟩<;>exact eY ω)|exact zav|skip⟩
instance afz(a b:Rat):DenC Tryz.prog 246 [R a,R b] (rz a<=10000000/\rz b<=10000000) (b=0) (.tup [ZR,.int .i64 6]) (.tup [R (a / b),.int .i64 0]):=⟨denC λhp q e1 e2=>by
 have i_a:RzB a 10000000:=⟨hp.1⟩
 have i_b:RzB b 10000000:=⟨hp.2⟩
 all_goals refine au Tryz.func246 rfl ?_
 all_goals(repeat'((try(conv=>whnf));first
  |apply zaf|refine zaa ?_ ?_|refine zao ?_ (λ_=>?_) (λ_=>?_)|(with_reducible first|apply zab|apply zac|refine zad (λ_=>?_) (λ_=>?_)|refine zae (λ_=>?_) (λ_=>?_))|refine zat (λ_=>?_) (λ_=>?_)|refine zah ?_ ?_|refine zas ζ ?_|refine zal ?_ ?_|refine zam ?_ ?_|(with_reducible first|refine zak ?_ ?_|apply zaj|apply zai)|apply zaq))
 all_goals(try apply zar)
 all_goals(try simp only[aW]at *)
 all_goals first
  |(rw[e1 (Dv ξ)];rfl)|with_reducible exact Zq ξ e2|exact zav|skip⟩
instance adE(a:Rat):DenC Tryz.prog 243 [R a] (rz a<=1000000) (jW a=true) (.tup [R (qg a),.bool true]) (.tup [ZR,.bool false]):=⟨denC λhp q e1 e2=>by
 have i_a:RzB a 1000000:=⟨hp⟩
 all_goals refine au Tryz.func243 rfl ?_
 all_goals(repeat'((try(conv=>whnf));first
  |apply zaf|refine zaa ?_ ?_|refine zao ?_ (λ_=>?_) (λ_=>?_)|(with_reducible first|apply zab|apply zac|refine zad (λ_=>?_) (λ_=>?_)|refine zae (λ_=>?_) (λ_=>?_))|refine zat (λ_=>?_) (λ_=>?_)|refine zah ?_ ?_|refine zas ζ ?_|refine zal ?_ ?_|refine zam ?_ ?_|(with_reducible first|refine zak ?_ ?_|apply zaj|apply zai)|apply zaq))
 all_goals(try apply zar)
 all_goals(try simp only[aW]at *)
 all_goals first
  |with_reducible exact WX ξ ξ e1|(rw[e2 (Lj (.inl ξ))];rfl)|(rw[e2 (Lj (.inr ξ))];rfl)|exact zav|skip⟩
instance adg:DenI Tryz.prog 361 [] (True) (R 0):=⟨λhp=>by
 refine au Tryz.func361 rfl ?_
 all_goals(repeat'((try(conv=>whnf));first
  |refine zaa ?_ ?_|apply zaq))
 all_goals(try apply zar)
 all_goals first
  |rfl|omega⟩
instance acO(a:Rat):DenI Tryz.prog 345 [R a] (rz a<=4000000) (Q3 a 0 0):=⟨λhp=>by
 have i_a:RzB a 4000000:=⟨hp⟩
 all_goals refine au Tryz.func345 rfl ?_
 all_goals(repeat'((try(conv=>whnf));first
  |apply zaf|refine zas ζ ?_|apply zaq))
 all_goals first
  |rfl⟩
instance aek(a b c:Rat):DenI Tryz.prog 346 [R a,R b,R c] (rz a<=4000000/\rz b<=4000000/\rz c<=4000000) (Q3 (a) (xU b c) (wU b c)):=⟨λhp=>by
 have i_a:RzB a 4000000:=⟨hp.1⟩
 have i_b:RzB b 4000000:=⟨hp.2.1⟩
 have i_c:RzB c 4000000:=⟨hp.2.2⟩
 all_goals refine au Tryz.func346 rfl ?_
 all_goals(repeat'((try(conv=>whnf));first
  |apply zaf|refine zaa ?_ ?_|(with_reducible first|apply zab|apply zac|refine zad (λ_=>?_) (λ_=>?_))|apply zaq))
 all_goals(try apply zar)
 all_goals(try simp only[aW]at *)
 all_goals first
  |exact za1|exact zav⟩
instance Yn(a:Rat):DenI Tryz.prog 340 [R a] (rz a<=4000000) (R (a*a)):=⟨λhp=>by
 have i_a:RzB a 4000000:=⟨hp⟩
 all_goals refine au Tryz.func340 rfl ?_
 all_goals(repeat'((try(conv=>whnf));first
  |refine zaa ?_ ?_|apply zaq))
 all_goals(try apply zar)
 all_goals first
  |rfl|exact zav⟩
instance abx(a b c:Rat):DenI Tryz.prog 316 [Q3 a b c] (rz a<=4000000/\rz b<=4000000/\rz c<=4000000) (R (a*a-b*b*c)):=⟨λhp=>by
 have i_a:RzB a 4000000:=⟨hp.1⟩
 have i_b:RzB b 4000000:=⟨hp.2.1⟩
 have i_c:RzB c 4000000:=⟨hp.2.2⟩
 all_goals refine au Tryz.func316 rfl ?_
 all_goals(repeat'((try(conv=>whnf));first
  |refine zaa ?_ ?_|refine zas ζ ?_|apply zaq))
 all_goals(try apply zar)
 all_goals first
  |rfl|exact zav⟩
instance ZF(a b c d e f:Rat):DenI Tryz.prog 359 [Q3 a b c,Q3 d e f] (rz a<=4000000/\rz b<=4000000/\rz c<=4000000/\rz d<=4000000/\rz e<=4000000/\rz f<=4000000) (.tup [R (if b=0 then f else c),.bool (decide (b=0) || decide (e=0) || decide (c=f))]):=⟨λhp=>by
 have i_a:RzB a 4000000:=⟨hp.1⟩
 have i_b:RzB b 4000000:=⟨hp.2.1⟩
 have i_c:RzB c 4000000:=⟨hp.2.2.1⟩
 have i_d:RzB d 4000000:=⟨hp.2.2.2.1⟩
 have i_e:RzB e 4000000:=⟨hp.2.2.2.2.1⟩
 have i_f:RzB f 4000000:=⟨hp.2.2.2.2.2⟩
 all_goals refine au Tryz.func359 rfl ?_
 all_goals(repeat'((try(conv=>whnf));first
  |apply zaf|refine zaa ?_ ?_|(with_reducible first|apply zab|apply zac|refine zad (λ_=>?_) (λ_=>?_))|refine zas ζ ?_|apply zaq))
 all_goals(try apply zar)
 all_goals(try simp only[aW]at *)
 all_goals first
  |exact za1|exact zav⟩
instance adn:DenI Tryz.prog 216 [] (True) (R 0):=⟨λhp=>by
 refine au Tryz.func216 rfl ?_
 all_goals(repeat'((try(conv=>whnf));first
  |refine zaa ?_ ?_|apply zaq))
 all_goals(try apply zar)
 all_goals first
  |rfl|omega⟩
instance afY(a b:Rat):DenI Tryz.prog 171 [Q2 a b] (rz a<=4000000/\rz b<=4000000) (Q5 a 0 b 0 0):=⟨λhp=>by
 have i_a:RzB a 4000000:=⟨hp.1⟩
 have i_b:RzB b 4000000:=⟨hp.2⟩
 all_goals refine au Tryz.func171 rfl ?_
 all_goals(repeat'((try(conv=>whnf));first
  |apply zaf|refine zas ζ ?_|apply zaq))
 all_goals first
  |rfl⟩
instance ae2(m n:Int):DenI Tryz.prog 88 [.int .i64 m,.int .i64 n] ((-9223372036854775808<=m/\m<=9223372036854775807)∧-9223372036854775808<=n/\n<=9223372036854775807) (Q2 (m:Rat) (n:Rat)):=⟨λhp=>by
 refine au Tryz.func88 rfl ?_
 all_goals(repeat'((try(conv=>whnf));first
  |refine zaa ?_ ?_|apply zaq))
 all_goals(try apply zar)
 all_goals first
  |rfl|omega⟩
instance aej(a b c:Rat):DenI Tryz.prog 322 [R a,R b,R c] (rz a<=4000000/\rz b<=4000000/\rz c<=4000000) (Q3 a b (yG b c)):=⟨λhp=>by
 have i_a:RzB a 4000000:=⟨hp.1⟩
 have i_b:RzB b 4000000:=⟨hp.2.1⟩
 have i_c:RzB c 4000000:=⟨hp.2.2⟩
 all_goals refine au Tryz.func322 rfl ?_
 all_goals(repeat'((try(conv=>whnf));first
  |apply zaf|refine zaa ?_ ?_|(with_reducible refine zad (λ_=>?_) (λ_=>?_))|apply zaq))
 all_goals(try apply zar)
 all_goals(try simp only[aW]at *)
 all_goals first
  |exact za1|exact zav⟩
instance ac1(x y:Rat):DenI Tryz.prog 342 [Q2 x y] (rz x<=4000000/\rz y<=4000000) (Q2 (-x) (-y)):=⟨λhp=>by
 have i_x:RzB x 4000000:=⟨hp.1⟩
 have i_y:RzB y 4000000:=⟨hp.2⟩
 all_goals refine au Tryz.func342 rfl ?_
 all_goals(repeat'((try(conv=>whnf));first
  |refine zaa ?_ ?_|refine zas ζ ?_|apply zaq))
 all_goals(try apply zar)
 all_goals first
  |rfl|exact zav⟩
instance abP(a b c d:Rat):DenI Tryz.prog 27 [Q2 a b,Q2 c d] (rz a<=4000000/\rz b<=4000000/\rz c<=4000000/\rz d<=4000000) (.bool (decide (a=c) && decide (b=d))):=⟨λhp=>by
 have i_a:RzB a 4000000:=⟨hp.1⟩
 have i_b:RzB b 4000000:=⟨hp.2.1⟩
 have i_c:RzB c 4000000:=⟨hp.2.2.1⟩
 have i_d:RzB d 4000000:=⟨hp.2.2.2⟩
 all_goals refine au Tryz.func27 rfl ?_
 all_goals(repeat'((try(conv=>whnf));first
  |refine zaa ?_ ?_|(with_reducible first|apply zab|apply zac|refine zad (λ_=>?_) (λ_=>?_))|apply zaq))
 all_goals(try apply zar)
 all_goals first
  |exact za1|exact zav⟩
end Go.Proofs.YtmniihkenijjpaaGreatDoor
namespace Go.Proofs.YtmniihkenijjpaaGreatDoor
open Go Go.RowKit Go.Sw
set_option maxRecDepth 100000
set_option maxHeartbeats 16000000
set_option synthInstance.maxSize 4000
set_option synthInstance.maxHeartbeats 400000
instance aeW(a b:Rat):DenI Tryz.prog 214 [R a,R b] (rz a<=4000000/\rz b<=4000000) (R (a+b)):=⟨λhp=>by
 have i_a:RzB a 4000000:=⟨hp.1⟩
 have i_b:RzB b 4000000:=⟨hp.2⟩
 all_goals refine au Tryz.func214 rfl ?_
 all_goals(repeat'((try(conv=>whnf));first
  |refine zaa ?_ ?_|apply zaq))
 all_goals(try apply zar)
 all_goals first
  |rfl|exact zav⟩
instance ae8(a b:Rat):DenI Tryz.prog 213 [R a,R b] (rz a<=4000000/\rz b<=4000000) (R (a-b)):=⟨λhp=>by
 have i_a:RzB a 4000000:=⟨hp.1⟩
 have i_b:RzB b 4000000:=⟨hp.2⟩
 all_goals refine au Tryz.func213 rfl ?_
 all_goals(repeat'((try(conv=>whnf));first
  |refine zaa ?_ ?_|apply zaq))
 all_goals(try apply zar)
 all_goals first
  |rfl|exact zav⟩
instance ae1(a b:Rat):DenI Tryz.prog 215 [R a,R b] (rz a<=4000000/\rz b<=4000000) (R (a*b)):=⟨λhp=>by
 have i_a:RzB a 4000000:=⟨hp.1⟩
 have i_b:RzB b 4000000:=⟨hp.2⟩
 all_goals refine au Tryz.func215 rfl ?_
 all_goals(repeat'((try(conv=>whnf));first
  |refine zaa ?_ ?_|apply zaq))
 all_goals(try apply zar)
 all_goals first
  |rfl|exact zav⟩
instance afc(a b:Rat):DenI Tryz.prog 217 [R a,R b] (rz a<=4000000/\rz b<=4000000/\¬b=0) (R (a / b)):=⟨λhp=>by
 have i_a:RzB a 4000000:=⟨hp.1⟩
 have i_b:RzB b 4000000:=⟨hp.2.1⟩
 have hpre:=hp.2.2
 all_goals refine au Tryz.func217 rfl ?_
 all_goals(repeat'((try(conv=>whnf));first
  |refine zao ?_ (λ_=>?_) (λ_=>?_)|apply zaq))
 all_goals(try apply zar)
 all_goals first
  |rfl|exact zav|(exfalso;simp_all;done)⟩
instance afe(a b c d:Rat):DenC Tryz.prog 170 [Q2 a b,Q2 c d] (rz a<=1000/\rz b<=1000/\rz c<=1000/\rz d<=1000) ((b-d)=0/\(c-a)=0) (.tup [ZQ3,.int .i64 6]) (.tup [Q3 (b-d) (c-a) ((b-d)*a+(c-a)*b),.int .i64 0]):=⟨denC λhp q e1 e2=>by
 have i_a:RzB a 1000:=⟨hp.1⟩
 have i_b:RzB b 1000:=⟨hp.2.1⟩
 have i_c:RzB c 1000:=⟨hp.2.2.1⟩
 have i_d:RzB d 1000:=⟨hp.2.2.2⟩
 all_goals refine au Tryz.func170 rfl ?_
 all_goals(repeat'((try(conv=>whnf));first
  |apply zaf|refine zaa ?_ ?_|(with_reducible first|apply zab|apply zac|refine zad (λ_=>?_) (λ_=>?_))|refine zas ζ ?_|apply zaq))
 all_goals(try apply zar)
 all_goals(try simp only[aW]at *)
 all_goals first
  |(rw[e1 ⟨ξ,ξ⟩];rfl)|(rw[e2 (λh=>absurd h.1 ξ)];rfl)|(rw[e2 (λh=>absurd h.2 ξ)];rfl)|exact zav⟩
instance aco(a b c d e f:Rat):DenC Tryz.prog 173 [Q2 a b,Q2 c d,Q2 e f] (rz a<=200/\rz b<=200/\rz c<=200/\rz d<=200/\rz e<=200/\rz f<=200) (((c-a)*(f-b)-(d-b)*(e-a))=0) (.tup [ZQ3,.int .i64 6]) (.tup [Q3 (a+((((c-a)*(c-a)+(d-b)*(d-b))*(f-b)-((e-a)*(e-a)+(f-b)*(f-b))*(d-b)) / (((c-a)*(f-b)-(d-b)*(e-a))+((c-a)*(f-b)-(d-b)*(e-a))))) (b+((((e-a)*(e-a)+(f-b)*(f-b))*(c-a)-((c-a)*(c-a)+(d-b)*(d-b))*(e-a)) / (((c-a)*(f-b)-(d-b)*(e-a))+((c-a)*(f-b)-(d-b)*(e-a))))) (((((c-a)*(c-a)+(d-b)*(d-b))*(f-b)-((e-a)*(e-a)+(f-b)*(f-b))*(d-b)) / (((c-a)*(f-b)-(d-b)*(e-a))+((c-a)*(f-b)-(d-b)*(e-a))))*((((c-a)*(c-a)+(d-b)*(d-b))*(f-b)-((e-a)*(e-a)+(f-b)*(f-b))*(d-b)) / (((c-a)*(f-b)-(d-b)*(e-a))+((c-a)*(f-b)-(d-b)*(e-a))))+((((e-a)*(e-a)+(f-b)*(f-b))*(c-a)-((c-a)*(c-a)+(d-b)*(d-b))*(e-a)) / (((c-a)*(f-b)-(d-b)*(e-a))+((c-a)*(f-b)-(d-b)*(e-a))))*((((e-a)*(e-a)+(f-b)*(f-b))*(c-a)-((c-a)*(c-a)+(d-b)*(d-b))*(e-a)) / (((c-a)*(f-b)-(d-b)*(e-a))+((c-a)*(f-b)-(d-b)*(e-a))))),.int .i64 0]):=⟨denC λhp q e1 e2=>by
 have i_a:RzB a 200:=⟨hp.1⟩
 have i_b:RzB b 200:=⟨hp.2.1⟩
 have i_c:RzB c 200:=⟨hp.2.2.1⟩
 have i_d:RzB d 200:=⟨hp.2.2.2.1⟩
 have i_e:RzB e 200:=⟨hp.2.2.2.2.1⟩
 have i_f:RzB f 200:=⟨hp.2.2.2.2.2⟩
 all_goals refine au Tryz.func173 rfl ?_
 all_goals(repeat'((try(conv=>whnf));first
  |apply zaf|refine zaa ?_ ?_|(with_reducible refine zad (λ_=>?_) (λ_=>?_))|refine zas ζ ?_|apply zaq))
 all_goals(try apply zar)
 all_goals(try simp only[aW]at *)
 all_goals first
  |exact za0|exact za6|(refine⟨dX ω,dX ω,ν⟩)|exact zav⟩
instance aeK(a b:Rat):DenI Tryz.prog 206 [R a,R b] (rz a<=4000000/\rz b<=4000000) (R (a+b)):=⟨λhp=>by
 have i_a:RzB a 4000000:=⟨hp.1⟩
 have i_b:RzB b 4000000:=⟨hp.2⟩
 all_goals refine au Tryz.func206 rfl ?_
 all_goals(repeat'((try(conv=>whnf));first
  |refine zaa ?_ ?_|apply zaq))
 all_goals(try apply zar)
 all_goals first
  |rfl|exact zav⟩
instance afB(a b:Rat):DenI Tryz.prog 203 [R a,R b] (rz a<=4000000/\rz b<=4000000) (R (a-b)):=⟨λhp=>by
 have i_a:RzB a 4000000:=⟨hp.1⟩
 have i_b:RzB b 4000000:=⟨hp.2⟩
 all_goals refine au Tryz.func203 rfl ?_
 all_goals(repeat'((try(conv=>whnf));first
  |refine zaa ?_ ?_|apply zaq))
 all_goals(try apply zar)
 all_goals first
  |rfl|exact zav⟩
instance afr(a b:Rat):DenI Tryz.prog 204 [R a,R b] (rz a<=4000000/\rz b<=4000000) (R (a*b)):=⟨λhp=>by
 have i_a:RzB a 4000000:=⟨hp.1⟩
 have i_b:RzB b 4000000:=⟨hp.2⟩
 all_goals refine au Tryz.func204 rfl ?_
 all_goals(repeat'((try(conv=>whnf));first
  |refine zaa ?_ ?_|apply zaq))
 all_goals(try apply zar)
 all_goals first
  |rfl|exact zav⟩
instance abW(a b:Rat):DenI Tryz.prog 207 [R a,R b] (rz a<=4000000/\rz b<=4000000) (R (a / b)):=⟨λhp=>by
 have i_a:RzB a 4000000:=⟨hp.1⟩
 have i_b:RzB b 4000000:=⟨hp.2⟩
 all_goals refine au Tryz.func207 rfl ?_
 all_goals(repeat'((try(conv=>whnf));first
  |refine zaa ?_ ?_|refine zao ?_ (λ_=>?_) (λ_=>?_)|(with_reducible refine zae (λ_=>?_) (λ_=>?_))|apply zaq))
 all_goals(try apply zar)
 all_goals(try simp only[aW]at *)
 all_goals first
  |rfl|(subst b;exact congrArg R (aaj a))|omega|(exfalso;simp at *;done)⟩
instance ab7(a:Rat):DenI Tryz.prog 205 [R a] (rz a<=4000000) (.bool (decide (a=0))):=⟨λhp=>by
 have i_a:RzB a 4000000:=⟨hp⟩
 all_goals refine au Tryz.func205 rfl ?_
 all_goals(repeat'((try(conv=>whnf));first
  |apply zaf|apply zaq))
 all_goals(try simp only[aW]at *)
 all_goals first
  |rfl⟩
instance ado(a b c d e f:Rat):DenC Tryz.prog 165 [Q2 a b,Q2 c d,Q2 e f] (rz a<=200/\rz b<=200/\rz c<=200/\rz d<=200/\rz e<=200/\rz f<=200) (((c-a)*(f-b)-(d-b)*(e-a))=0) (.tup [ZQ3,.int .i64 6]) (.tup [Q3 (a+((((c-a)*(c-a)+(d-b)*(d-b))*(f-b)-((e-a)*(e-a)+(f-b)*(f-b))*(d-b)) / (((c-a)*(f-b)-(d-b)*(e-a))+((c-a)*(f-b)-(d-b)*(e-a))))) (b+((((e-a)*(e-a)+(f-b)*(f-b))*(c-a)-((c-a)*(c-a)+(d-b)*(d-b))*(e-a)) / (((c-a)*(f-b)-(d-b)*(e-a))+((c-a)*(f-b)-(d-b)*(e-a))))) (((((c-a)*(c-a)+(d-b)*(d-b))*(f-b)-((e-a)*(e-a)+(f-b)*(f-b))*(d-b)) / (((c-a)*(f-b)-(d-b)*(e-a))+((c-a)*(f-b)-(d-b)*(e-a))))*((((c-a)*(c-a)+(d-b)*(d-b))*(f-b)-((e-a)*(e-a)+(f-b)*(f-b))*(d-b)) / (((c-a)*(f-b)-(d-b)*(e-a))+((c-a)*(f-b)-(d-b)*(e-a))))+((((e-a)*(e-a)+(f-b)*(f-b))*(c-a)-((c-a)*(c-a)+(d-b)*(d-b))*(e-a)) / (((c-a)*(f-b)-(d-b)*(e-a))+((c-a)*(f-b)-(d-b)*(e-a))))*((((e-a)*(e-a)+(f-b)*(f-b))*(c-a)-((c-a)*(c-a)+(d-b)*(d-b))*(e-a)) / (((c-a)*(f-b)-(d-b)*(e-a))+((c-a)*(f-b)-(d-b)*(e-a))))),.int .i64 0]):=⟨denC λhp q e1 e2=>by
 have i_a:RzB a 200:=⟨hp.1⟩
 have i_b:RzB b 200:=⟨hp.2.1⟩
 have i_c:RzB c 200:=⟨hp.2.2.1⟩
 have i_d:RzB d 200:=⟨hp.2.2.2.1⟩
 have i_e:RzB e 200:=⟨hp.2.2.2.2.1⟩
 have i_f:RzB f 200:=⟨hp.2.2.2.2.2⟩
 all_goals refine au Tryz.func165 rfl ?_
 all_goals(repeat'((try(conv=>whnf));first
  |refine zaa ?_ ?_|(with_reducible refine zad (λ_=>?_) (λ_=>?_))|refine zas ζ ?_|apply zaq))
 all_goals(try apply zar)
 all_goals first
  |exact za0|exact za6|exact zav⟩
end Go.Proofs.YtmniihkenijjpaaGreatDoor
namespace Go.Sw
open Go
@[reducible] def aK(e:Ent):List Cell:=[.v (.int .i64 e.kind),.v (.string e.layer),.sl 8 (e.pts.map vecC),.v (.bool e.rad.a),lmc e.rad.l,.v (.bool e.rad.b),lmc e.rad.m]
def aF(p:P2):Prop:=rz p.1<=12/\rz p.2<=12
def E0:Ent:=⟨0,⟨#[]⟩,[],⟨false,[],false,[]⟩⟩
theorem MC{e:Ent}(h:e.kind=1/\e.pts.length=2\/e.kind=2/\e.pts.length=3):aA e=[e.pts.getD 0 P0,e.pts.getD (e.pts.length-1) P0]:=by
 obtain⟨kd,ly,pts,rd⟩:=e;simp only at h ⊢;rcases h with⟨rfl,h⟩|⟨rfl,h⟩
 .match pts,h with
  |[a,b],_=>rfl
 .match pts,h with
  |[a,m,b],_=>rfl
theorem Nz{e:Ent}(h:¬(e.kind=1/\e.pts.length=2\/e.kind=2/\e.pts.length=3)):aA e=[]:=by
 rcases eX e with⟨h1,_⟩|⟨a,b,h1,h2,_⟩|⟨a,m,b,h1,h2,_⟩
 .exact h1
 .exact absurd (.inl ⟨h1,by rw[h2];rfl⟩) h
 .exact absurd (.inr ⟨h1,by rw[h2];rfl⟩) h
@[reducible] def xZ(e:Ent):AV:=.tup [.c (.sl (if aA e=[] then 0 else 8) ((aA e).map vecC)),.bool (decide (aA e≠[]))]
theorem Dw{e:Ent}{i j:Nat}(h:e.kind=1/\e.pts.length=2\/e.kind=2/\e.pts.length=3)(hi:i=0)(hj:j=e.pts.length-1):packA [AV.c (Cell.sl 8 [vecC (e.pts.getD i P0),vecC (e.pts.getD j P0)]),AV.bool true]=xZ e:=by
 subst hi hj;unfold xZ;rw[MC h];rfl
theorem Hl{e:Ent}(h:¬(e.kind=1/\e.pts.length=2\/e.kind=2/\e.pts.length=3)):packA [AV.c (Cell.sl 0 []),AV.bool false]=xZ e:=by
 unfold xZ;rw[Nz h];rfl
theorem qV(e:Ent):((aA e).length=2/\(e.pts.length=2\/e.pts.length=3))\/(aA e).length=0:=by
 rcases eX e with⟨h1,_⟩|⟨a,b,_,h2,h3⟩|⟨a,m,b,_,h2,h3⟩
 .right;rw[h1];rfl
 .left;rw[h2,h3];simp
 .left;rw[h2,h3];simp
theorem zf{e:Ent}{l:List P2}{j:Nat}(h2:l.length=2)(hl:l.length=(aA e).length)(hj:j=e.pts.length-1):packA [AV.agg [.v (.int .i64 e.kind),.v (.string e.layer),.sl 8 (((e.pts.map vecC).set 0 (vecC (l.getD 0 P0))).set j (vecC (l.getD 1 P0))),.v (.bool e.rad.a),lmc e.rad.l,.v (.bool e.rad.b),lmc e.rad.m]]=.agg (aK (dQ e l)):=by
 subst hj;obtain⟨kd,ly,pts,rd⟩:=e
 match l,h2 with
 |[x,y],_ =>
 rcases eX ⟨kd,ly,pts,rd⟩with⟨h1,_⟩|⟨a,b,_,h2,h3⟩|⟨a,m,b,_,h2,h3⟩
 .rw[h1]at hl;cases hl
 .simp only at h2;subst h2;rfl
 .simp only at h2;subst h2;rfl
theorem Em{e:Ent}{l:List P2}(h2:¬(l.length:Int)=2)(hl:l.length=(aA e).length):packA [AV.agg (aK e)]=.agg (aK (dQ e l)):=by
 rcases eX e with⟨h1,h⟩|⟨a,b,_,_,h3⟩|⟨a,m,b,_,_,h3⟩
 .rw[h l (by rw[hl,h1];rfl)];rfl
 .rw[h3]at hl;simp at hl;omega
 .rw[h3]at hl;simp at hl;omega
theorem um{M:Type}(d:M){f:M->List Cell}{l:List M}{y:M}{j:Int}{k:List Cell->Prop}(n:Nat)(hp:Pr (0<=j/\j<l.length))(hk:k (f ((l.set n y).getD j.toNat d))):Elem ((l.map f).set n (f y)) j k:=by
 rw[<-List.map_set];exact zan d ⟨by rw[kF];exact hp.p⟩ hk
end Go.Sw
