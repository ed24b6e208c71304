/-
  Rules of the abstract run, plain laws, and what functions answer, for the law RepairOpen.
  Conditions: none.
-/
import Derived.Test.YtmniihkenijjpaaGreatDoorT10
set_option linter.all false
namespace Go.Proofs.YtmniihkenijjpaaGreatDoor
open Go Go.RowKit Go.Sw
set_option maxRecDepth 100000
set_option maxHeartbeats 8000000
instance agf(l h:Int):DenI Tryz.prog 333 [.int .i64 l,.int .i64 h] (True) (Ov (Tc l h)):=⟨λhp=>by
 refine amV Tryz.func333 rfl ?_
 repeat'((try(conv=>whnf));first
  |(with_reducible first|refine onB_t ?_|refine onB_f ?_|refine onB_d (λ_=>?_) (λ_=>?_))|refine Ends.mk ?_)
 all_goals first
  |(rw[anG (by omega) (by omega)];rfl)|(rw[anq (by omega)];rfl)⟩
instance alJ(l h:Int):DenI Tryz.prog 305 [Iv l h] (-2305843009213693952≤l∧l≤2305843009213693952∧-2305843009213693952≤h∧h≤2305843009213693952) (Iv (-h) (-l)):=⟨λhp=>by
 refine amV Tryz.func305 rfl ?_
 repeat'((try(conv=>whnf));first
  |refine Ends.mk ?_)
 rw[bW (by omega) (by omega),bW (by omega) (by omega),Int.zero_sub,Int.zero_sub];rfl⟩
instance alz(n:Int):DenI Tryz.prog 355 [.int .i64 n] (-9223372036854775808≤n∧n≤9223372036854775807) (.int .u64 n.natAbs):=⟨λhp=>by
 refine amV Tryz.func355 rfl ?_
 repeat'((try(conv=>whnf));first
  |(with_reducible refine onB_d (λ_=>?_) (λ_=>?_))|refine Ends.mk ?_)
 all_goals(refine iE ?_;simp only[IntKind.wrap_u64];omega)⟩
instance akf(l h:Int):DenI Tryz.prog 306 [Iv l h] (True) (.tup [.int .i64 (anH l h).1,.bool (anH l h).2]):=⟨λhp=>by
 refine amV Tryz.func306 rfl ?_
 repeat'((try(conv=>whnf));first
  |(with_reducible first|refine onB_t ?_|refine onB_f ?_|refine onB_d (λ_=>?_) (λ_=>?_))|refine Drw.mk (by kernel_rfl) ?_|refine Ends.mk ?_)
 all_goals(refine LQ ?_ ?_<;>unfold anH<;>(repeat' split)<;>simp_all<;>omega)⟩
instance aib(a b:Nat):DenI Tryz.prog 327 [.int .u64 a,.int .u64 b] (a<18446744073709551616∧b<18446744073709551616) (.tup [.int .u64 (a*b / 18446744073709551616:Nat),.int .u64 (a*b % 18446744073709551616:Nat)]):=⟨λhp=>by
 refine amV Tryz.func327 rfl ?_
 repeat'((try(conv=>whnf));first
  |refine obl_i ?_ ?_|refine Ends.mk ?_)
 all_goals(try refine Pr.mk ?_)
 all_goals first
  |(show(0:Int)≤_;decide)|(simp only[aiH,ag3,agu,e32,e16,e48,Fv,aef,XW,wu,←X3,←Int.natCast_add];obtain⟨m1,m2,m3,m4,m5⟩:=UE (a:=a) (b:=b) hp.1 hp.2 rfl rfl rfl rfl;refine iE2 ?_ rfl;rw[←m1];apply congrArg Nat.cast;omega)⟩
instance afV(x y:Int):DenI Tryz.prog 334 [.int .i64 x,.int .i64 y] ((-9223372036854775808≤x∧x≤9223372036854775807)∧-9223372036854775808≤y∧y≤9223372036854775807) (.tup [.int .i64 (wE x y).1,.int .i64 (wE x y).2.1,.bool (wE x y).2.2]):=⟨λhp=>by
 refine amV Tryz.func334 rfl ?_
 repeat'((try(conv=>whnf));first
  |refine call_i ?_ ?_|(with_reducible first|refine onB_t ?_|refine onB_f ?_|refine onB_d (λ_=>?_) (λ_=>?_)|refine onB_n (λ_=>?_) (λ_=>?_))|refine OnB.mk (λ_=>?_) (λ_=>?_)|refine obl_i ?_ ?_|refine Ends.mk ?_)
 all_goals(try refine Pr.mk ?_)
 all_goals(try simp only[ag3,agu,e16,e48,Fv,XW]at *)
 all_goals first
  |exact hp.1|exact hp.2|(show(0:Int)≤_;decide)|(constructor<;>omega)|(refine PG ?_;exact ae5 (by assumption))|(rw[afN (by omega)]at *;refine PG ?_;exact aaU (x:=x) (y:=y) (by assumption))|(rw[afN (by omega)]at *;have q1:=w1 (q:=((x.natAbs*y.natAbs/65536:Nat):Int)) (by omega) (by assumption);have q2:=w2 (q:=((x.natAbs*y.natAbs/65536:Nat):Int)) (by omega) (by assumption);have q3:=w3 (q:=((x.natAbs*y.natAbs/65536:Nat):Int)) (by omega) (by assumption);have q4:=w4 (q:=((x.natAbs*y.natAbs/65536:Nat):Int)) (by omega) (by assumption);rename_i g1 g2 g3 g4 hl;(try rw[q1]at hl);(try rw[q2]at hl);(try rw[q3]at hl);(try rw[q4]at hl);(try rw[q1]);(try rw[q2]);(try rw[q3]);(try rw[q4]);clear q1 q2 q3 q4;first|refine PX (z:=true) g2 g3 g1 (decide_eq_true (by omega)) rfl rfl ?_|refine PX (z:=false) g2 g3 g1 (decide_eq_false (by omega)) rfl rfl ?_)
 all_goals first|exact decide_eq_decide.2 (by omega)|exact(decide_eq_false (by omega)).symm⟩
instance(k:Nat):DenI Tryz.prog 160 [.bool false,.c (.sl 1 (List.replicate k [Cell.v (.int .u32 0)]++[[Cell.v (.int .u32 1)]]))] True (Z ((1000000000 ^ k:Nat):Int)):=⟨λ_=>by
 have h:=(inferInstance:DenI Tryz.prog 160 [.bool false,.c (lmc (List.replicate k 0++[1]))] _ _).den ((jy k).append (Lb.cons (by omega) Lb.nil));rw[NJ]at h;unfold lmc at h;rw[fO,List.map_replicate]at h
 exact h⟩
instance ai3(a:Int):DenI Tryz.prog 366 [Z a] (sz a≤100000000) (.tup [Z (if a<0 then 0 else vT a.natAbs),.int .i64 (if a<0 then 7 else 0)]):=⟨λhp=>by
 refine amV Tryz.func366 rfl ?_
 repeat'((try(conv=>whnf));first
  |refine call_0 ?_|refine call_i ?_ ?_|(with_reducible refine onB_d (λ_=>?_) (λ_=>?_))|refine obl_i ?_ ?_|refine mks_i ?_ ?_|refine Ends.mk ?_)
 all_goals(try refine Pr.mk ?_)
 all_goals have hl:(lim a.natAbs).length≤100000000:=hp
 all_goals first
  |((conv=>whnf);refine Sw.Loop.inv (α:=Nat) (λx=>[(1,.ptr 1 0),(2,.ptr 2 0),(3,.int .i64 0),(5,.ptr 5 0),(6,.ptr 6 0)]) (λx=>[(1,.var [zs a,zl a]),(2,.var [.v (.bool false),.sl 1 []]),(5,.var [zs x,zl x]),(6,.var [zs 2,zl 2])]) (λx=>0<x∧a.natAbs<(x+1)*(x+1)∧sz x≤200000000) (λx=>x) (1000000000^(((lim a.natAbs).length+1)/2)) ?_ ?_ ?_ (λx hx=>?_))|skip
 all_goals(repeat'((try(conv=>whnf));first
  |refine call_0 ?_|refine call_i ?_ ?_|(with_reducible refine onB_d (λ_=>?_) (λ_=>?_))|refine Drw.mk (by kernel_rfl) ?_|refine Ends.mk ?_))
 all_goals(try refine Pr.mk ?_)
 all_goals first|(show SubE _ _;repeat'(first|exact trivial|refine And.intro ?_ ?_))|(show SubB _ _;repeat'(first|exact trivial|refine And.intro ?_ ?_))|skip
 all_goals(try rfl)
 all_goals(try simp only[am3]at *)
 all_goals(try simp only[bK,aF,uY,vI]at *)
 all_goals(try rw[XU (by omega)])
 all_goals(try simp only[fU,BI,gY,iH,jf])
 all_goals(try simp only[Xz (show 0≤a by omega),WA]at *)
 all_goals first
  |exact aaI (by assumption)|exact WU (by assumption) (by assumption)|with_reducible exact aa5 (by assumption) (by assumption) (by assumption)|((conv=>whnf);exact⟨(x+a.natAbs/x)/2,⟨⟨rfl,rfl,rfl,rfl,rfl,trivial⟩,⟨rfl,rfl,rfl,rfl,trivial⟩,YO (by assumption) (by assumption) (by assumption),by show(x+a.natAbs/x)/2<x;omega⟩⟩)|exact Py rfl hl|(show ld _ _=some _;rfl)|(have z1:=@aap a;have z2:=kJ;have z3:=jJ;have z4:=iL (n:=2) (by omega) (by omega);(repeat' apply And.intro)<;>first|assumption|omega|decide|(simp;done)|(have z5:=z1 (x:=x);have z6:=z2 x ((a.natAbs/x:Nat):Int);omega)|skip)⟩
instance afw(a:Rat):DenI Tryz.prog 302 [R a] (rz a≤10000000) (Ov (anl a)):=⟨λhp=>by
 refine amV Tryz.func302 rfl ?_
 repeat'((try(conv=>whnf));first
  |refine call_0 ?_|refine call_i ?_ ?_|(with_reducible first|refine onB_t ?_|refine onB_f ?_|refine onB_n (λ_=>?_) (λ_=>?_))|refine Drw.mk (by kernel_rfl) ?_|refine Ends.mk ?_)
 all_goals(try refine Pr.mk ?_)
 all_goals first
  |exact jM (ahu (by assumption))|exact jM (afD (by assumption))|(rename_i g1 g2;rw[if_pos g1,if_pos g2];rfl)|(have z1:=am7 a ((65536:Int):Rat);have z2:=aiB;have z3:=am6 (a*((65536:Int):Rat));have z4:=Wi (-(a*((65536:Int):Rat)));omega)⟩
instance f_add(a b c d:Int):DenI Tryz.prog 304 [Iv a b,Iv c d] (-2305843009213693952≤a∧a≤2305843009213693952∧-2305843009213693952≤b∧b≤2305843009213693952∧-2305843009213693952≤c∧c≤2305843009213693952∧-2305843009213693952≤d∧d≤2305843009213693952) (Ov (anM (a,b) (c,d))):=⟨λhp=>by
 refine amV Tryz.func304 rfl ?_
 repeat'((try(conv=>whnf));first
  |refine call_0 ?_|refine Ends.mk ?_)
 rw[bW (by omega) (by omega),bW (by omega) (by omega)];rfl⟩
instance ajn(n:Int):DenI Tryz.prog 356 [.int .i64 n] (0≤n∧n≤2305843009213693952) (.tup [.int .i64 (rt n),.bool (decide (rt n*rt n=n*65536))]):=⟨λhp=>by
 refine amV Tryz.func356 rfl ?_
 repeat'((try(conv=>whnf));first
  |refine call_0 ?_|refine call_i ?_ ?_|refine Drw.mk (by kernel_rfl) ?_|refine Ends.mk ?_)
 all_goals(try refine Pr.mk ?_)
 all_goals(have hn:=Yi hp.1 hp.2;have h0:0=0:=rfl)
 all_goals(try simp only[ahb,MC])
 all_goals first
  |exact LQ (if_pos (show -9223372036854775808≤rt n∧rt n≤9223372036854775807 by omega)) rfl|omega|(have z1:=iJ n 65536;have z2:=szl n (by omega) (by omega);have z3:=szl 65536 (by omega) (by omega);have z4:=szl (rt n) (by omega) (by omega);omega)⟩
instance aj9(l h:Int):DenI Tryz.prog 335 [Iv l h] (l≤h∧-2305843009213693952≤l∧l≤2305843009213693952∧-2305843009213693952≤h∧h≤2305843009213693952) (Ov (ano (l,h))):=⟨λhp=>by
 refine amV Tryz.func335 rfl ?_
 repeat'((try(conv=>whnf));first
  |refine call_0 ?_|refine call_i ?_ ?_|(with_reducible first|refine onB_d (λ_=>?_) (λ_=>?_)|refine onB_n (λ_=>?_) (λ_=>?_))|refine Ends.mk ?_)
 all_goals(try refine Pr.mk ?_)
 all_goals(try rw[aaX]at *)
 all_goals first
  |exact jM (if_pos (by assumption))|exact agE (by assumption) (by assumption)|(have hn:=Yi (n:=h) (by omega) (by omega);rw[bW (by omega) (by omega)];exact ag4 (by assumption) (by assumption))|(constructor<;>omega)⟩
instance akW(a b c d:Int):DenI Tryz.prog 303 [Iv a b,Iv c d] (-2305843009213693952≤a∧a≤2305843009213693952∧-2305843009213693952≤b∧b≤2305843009213693952∧-2305843009213693952≤c∧c≤2305843009213693952∧-2305843009213693952≤d∧d≤2305843009213693952) (Ov (sU (a,b) (c,d))):=⟨λhp=>by
 refine amV Tryz.func303 rfl ?_
 all_goals(repeat'((try rw[Ro]);(try rw[MQ]);(try(conv=>whnf));first
  |refine call_i ?_ ?_|refine RD rfl ?_|refine CQ rfl ?_|refine OnB.mk (λ_=>?_) (λ_=>?_)|(with_reducible first|refine elem_0 ?_|refine elem_1 ?_)|refine Sw.Loop.unroll ?_|refine Ends.mk ?_))
 all_goals(try refine Pr.mk ?_)
 all_goals(try simp only[Y9,Wq])
 all_goals first
  |exact jM (yJ (.inl rfl) (.inl rfl) (by with_reducible assumption))|exact jM (yJ (.inl rfl) (.inr rfl) (by with_reducible assumption))|exact jM (yJ (.inr rfl) (.inl rfl) (by with_reducible assumption))|exact jM (yJ (.inr rfl) (.inr rfl) (by with_reducible assumption))|(rename_i g1 g2 g3 g4;exact WB g1 g2 g3 g4)|(constructor<;>constructor<;>omega)⟩
instance ahQ(a b c:Rat):DenI Tryz.prog 307 [Q3 a b c] (rz a≤100000∧rz b≤100000∧rz c≤100000) (Ov (oM a b c)):=⟨λhp=>by
 refine amV Tryz.func307 rfl ?_
 repeat'((try(conv=>whnf));first
  |refine call_0 ?_|refine call_i ?_ ?_|(with_reducible first|refine onB_t ?_|refine onB_f ?_|refine onB_d (λ_=>?_) (λ_=>?_))|refine OnB.mk (λ_=>?_) (λ_=>?_)|refine Ends.mk ?_)
 all_goals(try refine Pr.mk ?_)
 all_goals(try simp only[Prod.eta]at *)
 all_goals first
  |omega|(have z1:=jW a;have z2:=jW b;have z3:=jW c;have z4:=Xw z3;have z5:=BN ((anl b).getD (0,0)) ((ano ((anl c).getD (0,0))).getD (0,0));unfold IU at *;omega)|refine agw ?_|(show Ov (anl a)=_;refine congrArg Ov ?_)|(show Ov (anM _ _)=_;refine congrArg Ov ?_)
 all_goals(unfold oM;(try simp only[anz,anx]at *);rcases h1:anl a with _|x<;>rcases h2:anl b with _|y<;>rcases h3:anl c with _|z<;>simp_all)
 all_goals(rcases h4:ano z with _|s<;>simp_all)
 all_goals(rcases h5:sU y s with _|p<;>simp_all)⟩
instance alf(n:Int):DenI Tryz.prog 202 [.int .i64 n] (True) (.bool false):=⟨λhp=>by
 refine amV Tryz.func202 rfl ?_
 all_goals(repeat'((try(conv=>whnf));first
  |refine Ends.mk ?_))
 all_goals first
  |(refine bE ?_;simp)⟩
instance alv(m n:Int):DenI Tryz.prog 164 [.int .i64 m,.int .i64 n] (True) (.int .i64 (jS m n)):=⟨λhp=>by
 refine amV Tryz.func164 rfl ?_
 all_goals(repeat'((try(conv=>whnf));first
  |refine call_0 ?_|(with_reducible first|refine onB_f ?_|refine onB_d (λ_=>?_) (λ_=>?_))|refine Ends.mk ?_))
 all_goals first
  |(refine iE ?_;unfold jS;(repeat' split)<;>omega)⟩
instance alQ(a b:Rat):DenI Tryz.prog 124 [R a,R b] (rz a≤10000000∧rz b≤10000000) (.int .i64 (ang a b)):=⟨λhp=>by
 have i_a:RzB a 10000000:=⟨hp.1⟩
 have i_b:RzB b 10000000:=⟨hp.2⟩
 all_goals refine amV Tryz.func124 rfl ?_
 all_goals(repeat'((try(conv=>whnf));first
  |refine call_0 ?_|refine call_i ?_ ?_|(with_reducible refine onB_n (λ_=>?_) (λ_=>?_))|refine Drw.mk (by kernel_rfl) ?_|refine Ends.mk ?_))
 all_goals(try refine Pr.mk ?_)
 all_goals(try simp only[am3]at *)
 all_goals first
  |with_reducible exact aeG (by assumption)|rfl|((repeat' apply And.intro)<;>first|assumption|exact jh (by omega)|exact jl (by omega)|exact iU (amR _) (amR _))⟩
instance al5(a b:Rat):DenC Tryz.prog 237 [R a,R b] (rz a≤10000000∧rz b≤10000000) (b=0) (.tup [ZR,.int .i64 6]) (.tup [R (a / b),.int .i64 0]):=⟨denC λhp q e1 e2=>by
 have i_a:RzB a 10000000:=⟨hp.1⟩
 have i_b:RzB b 10000000:=⟨hp.2⟩
 all_goals refine amV Tryz.func237 rfl ?_
 all_goals(repeat'((try(conv=>whnf));first
  |refine call_0 ?_|refine call_i ?_ ?_|(with_reducible refine onB_d (λ_=>?_) (λ_=>?_))|refine Drw.mk (by kernel_rfl) ?_|refine Ends.mk ?_))
 all_goals(try refine Pr.mk ?_)
 all_goals(try simp only[am3]at *)
 all_goals first
  |(rw[e1 (by assumption)];rfl)|with_reducible exact acn (by assumption) e2|(refine⟨VF (by assumption), ?_, ?_⟩<;>exact jl (by omega))|((repeat' apply And.intro)<;>first|assumption|exact jh (by omega)|exact jl (by omega)|exact iU (amR _) (amR _))⟩
instance ajR(n d:Int):DenC Tryz.prog 253 [Z n,Z d] (sz n≤500000000∧sz d≤500000000) (d=0) (.tup [ZR,.int .i64 6]) (.tup [R ((n:Rat) / d),.int .i64 0]):=⟨denC λhp q e1 e2=>by
 have i_n:SzB n 500000000:=⟨hp.1⟩
 have i_d:SzB d 500000000:=⟨hp.2⟩
 all_goals refine amV Tryz.func253 rfl ?_
 all_goals(repeat'((try(conv=>whnf));first
  |refine call_0 ?_|refine call_i ?_ ?_|(with_reducible refine onB_d (λ_=>?_) (λ_=>?_))|refine Ends.mk ?_))
 all_goals(try refine Pr.mk ?_)
 all_goals(try simp only[am3]at *)
 all_goals first
  |(rw[e1 (by assumption)];rfl)|(rw[e2 (by assumption)];rfl)|(refine⟨by assumption, ?_, ?_⟩<;>exact jl (by omega))⟩
instance aiz(n d:Int):DenI Tryz.prog 226 [.int .i64 n,.int .i64 d] ((-9223372036854775808≤n∧n≤9223372036854775807)∧-9223372036854775808≤d∧d≤9223372036854775807) (R ((n:Rat) / d)):=⟨λhp=>by
 refine amV Tryz.func226 rfl ?_
 all_goals(repeat'((try(conv=>whnf));first
  |refine call_i ?_ ?_|(with_reducible refine onB_d (λ_=>?_) (λ_=>?_))|refine Ends.mk ?_))
 all_goals(try refine Pr.mk ?_)
 all_goals first
  |rfl|omega|(subst d;exact congrArg R (aeM n))|(have z1:=iL hp.1.1 hp.1.2;have z2:=iL hp.2.1 hp.2.2;omega)⟩
instance aiA(a b:Rat):DenI Tryz.prog 74 [R a,R b] (rz a≤10000000∧rz b≤10000000) (.bool (decide (a=b))):=⟨λhp=>by
 have i_a:RzB a 10000000:=⟨hp.1⟩
 have i_b:RzB b 10000000:=⟨hp.2⟩
 all_goals refine amV Tryz.func74 rfl ?_
 all_goals(repeat'((try(conv=>whnf));first
  |refine call_0 ?_|refine call_i ?_ ?_|refine call_c ?_ (λ_=>?_) (λ_=>?_)|(with_reducible first|refine onB_t ?_|refine onB_f ?_|refine onB_d (λ_=>?_) (λ_=>?_)|refine onB_n (λ_=>?_) (λ_=>?_))|refine OnB.mk (λ_=>?_) (λ_=>?_)|refine obl_i ?_ ?_|refine Drw.mk (by kernel_rfl) ?_|refine mks_i ?_ ?_|refine slp_i ?_ ?_|(with_reducible first|refine elem_u ?_ ?_|refine elem_0 ?_|refine elem_1 ?_)|refine Ends.mk ?_))
 all_goals(try refine Pr.mk ?_)
 all_goals(try simp only[am3]at *)
 all_goals first
  |with_reducible exact aav (by assumption)|with_reducible exact abA (by assumption)|((repeat' apply And.intro)<;>first|assumption|exact jh (by omega)|exact jl (by omega)|exact iU (amR _) (amR _))|skip⟩
instance ajQ(n d:Int):DenC Tryz.prog 279 [Z n,Z d] (sz n≤500000000∧sz d≤500000000) (d=0) (.tup [ZR,.int .i64 6]) (.tup [R ((n:Rat) / d),.int .i64 0]):=⟨denC λhp q e1 e2=>by
 have i_n:SzB n 500000000:=⟨hp.1⟩
 have i_d:SzB d 500000000:=⟨hp.2⟩
 all_goals refine amV Tryz.func279 rfl ?_
 all_goals(repeat'((try(conv=>whnf));first
  |refine call_0 ?_|refine call_i ?_ ?_|refine call_c ?_ (λ_=>?_) (λ_=>?_)|(with_reducible first|refine onB_t ?_|refine onB_f ?_|refine onB_d (λ_=>?_) (λ_=>?_)|refine onB_n (λ_=>?_) (λ_=>?_))|refine OnB.mk (λ_=>?_) (λ_=>?_)|refine obl_i ?_ ?_|refine Drw.mk (by kernel_rfl) ?_|refine mks_i ?_ ?_|refine slp_i ?_ ?_|(with_reducible first|refine elem_u ?_ ?_|refine elem_0 ?_|refine elem_1 ?_)|refine Ends.mk ?_))
 all_goals(try refine Pr.mk ?_)
 all_goals(try simp only[am3]at *)
 all_goals first
  |(rw[e1 (by assumption)];rfl)|(rw[e2 (by assumption)];rfl)|(refine⟨by assumption, ?_, ?_⟩<;>exact jl (by omega))|((repeat' apply And.intro)<;>first|assumption|exact jh (by omega)|exact jl (by omega)|exact iU (amR _) (amR _))|skip⟩
instance alS(a b:Rat):DenC Tryz.prog 246 [R a,R b] (rz a≤10000000∧rz b≤10000000) (b=0) (.tup [ZR,.int .i64 6]) (.tup [R (a / b),.int .i64 0]):=⟨denC λhp q e1 e2=>by
 have i_a:RzB a 10000000:=⟨hp.1⟩
 have i_b:RzB b 10000000:=⟨hp.2⟩
 all_goals refine amV Tryz.func246 rfl ?_
 all_goals(repeat'((try(conv=>whnf));first
  |refine call_0 ?_|refine call_i ?_ ?_|refine call_c ?_ (λ_=>?_) (λ_=>?_)|(with_reducible first|refine onB_t ?_|refine onB_f ?_|refine onB_d (λ_=>?_) (λ_=>?_)|refine onB_n (λ_=>?_) (λ_=>?_))|refine OnB.mk (λ_=>?_) (λ_=>?_)|refine obl_i ?_ ?_|refine Drw.mk (by kernel_rfl) ?_|refine mks_i ?_ ?_|refine slp_i ?_ ?_|(with_reducible first|refine elem_u ?_ ?_|refine elem_0 ?_|refine elem_1 ?_)|refine Ends.mk ?_))
 all_goals(try refine Pr.mk ?_)
 all_goals(try simp only[am3]at *)
 all_goals first
  |(rw[e1 (MJ (by assumption))];rfl)|with_reducible exact afz (by assumption) e2|((repeat' apply And.intro)<;>first|assumption|exact jh (by omega)|exact jl (by omega)|exact iU (amR _) (amR _))|skip⟩
instance ajD:DenI Tryz.prog 361 [] (True) (R 0):=⟨λhp=>by
 refine amV Tryz.func361 rfl ?_
 all_goals(repeat'((try(conv=>whnf));first
  |refine call_i ?_ ?_|refine Ends.mk ?_))
 all_goals(try refine Pr.mk ?_)
 all_goals first
  |rfl|omega⟩
instance akn(a:Rat):DenI Tryz.prog 345 [R a] (rz a≤4000000) (Q3 a 0 0):=⟨λhp=>by
 have i_a:RzB a 4000000:=⟨hp⟩
 all_goals refine amV Tryz.func345 rfl ?_
 all_goals(repeat'((try(conv=>whnf));first
  |refine call_0 ?_|refine Drw.mk (by kernel_rfl) ?_|refine Ends.mk ?_))
 all_goals first
  |rfl⟩
instance al9(a b c:Rat):DenI Tryz.prog 346 [R a,R b,R c] (rz a≤4000000∧rz b≤4000000∧rz c≤4000000) (Q3 (a) (Eb b c) (Ea b c)):=⟨λhp=>by
 have i_a:RzB a 4000000:=⟨hp.1⟩
 have i_b:RzB b 4000000:=⟨hp.2.1⟩
 have i_c:RzB c 4000000:=⟨hp.2.2⟩
 all_goals refine amV Tryz.func346 rfl ?_
 all_goals(repeat'((try(conv=>whnf));first
  |refine call_0 ?_|refine call_i ?_ ?_|(with_reducible first|refine onB_t ?_|refine onB_f ?_|refine onB_d (λ_=>?_) (λ_=>?_))|refine Ends.mk ?_))
 all_goals(try refine Pr.mk ?_)
 all_goals(try simp only[am3]at *)
 all_goals first
  |(simp only[Eb,Ea,aj,aH,ZY,Fb,aG, *,true_or,or_true,if_true,if_false,or_self,and_self,and_true,true_and,and_false,false_and,not_true,not_false_iff,AB,decide_true,decide_false,Vf,Vg,NH,G7];rfl)|((repeat' apply And.intro)<;>first|assumption|exact jh (by omega)|exact jl (by omega)|exact iU (amR _) (amR _))⟩
instance ahq(a:Rat):DenI Tryz.prog 340 [R a] (rz a≤4000000) (R (a*a)):=⟨λhp=>by
 have i_a:RzB a 4000000:=⟨hp⟩
 all_goals refine amV Tryz.func340 rfl ?_
 all_goals(repeat'((try(conv=>whnf));first
  |refine call_i ?_ ?_|refine Ends.mk ?_))
 all_goals(try refine Pr.mk ?_)
 all_goals first
  |rfl|((repeat' apply And.intro)<;>first|assumption|exact jh (by omega)|exact jl (by omega)|exact iU (amR _) (amR _))⟩
instance ajX(a b c:Rat):DenI Tryz.prog 316 [Q3 a b c] (rz a≤4000000∧rz b≤4000000∧rz c≤4000000) (R (a*a-b*b*c)):=⟨λhp=>by
 have i_a:RzB a 4000000:=⟨hp.1⟩
 have i_b:RzB b 4000000:=⟨hp.2.1⟩
 have i_c:RzB c 4000000:=⟨hp.2.2⟩
 all_goals refine amV Tryz.func316 rfl ?_
 all_goals(repeat'((try(conv=>whnf));first
  |refine call_i ?_ ?_|refine Drw.mk (by kernel_rfl) ?_|refine Ends.mk ?_))
 all_goals(try refine Pr.mk ?_)
 all_goals first
  |rfl|((repeat' apply And.intro)<;>first|assumption|exact jh (by omega)|exact jl (by omega)|exact iU (amR _) (amR _))⟩
instance ag1(a b c d e f:Rat):DenI Tryz.prog 359 [Q3 a b c,Q3 d e f] (rz a≤4000000∧rz b≤4000000∧rz c≤4000000∧rz d≤4000000∧rz e≤4000000∧rz f≤4000000) (.tup [R (if b=0 then f else c),.bool (decide (b=0) || decide (e=0) || decide (c=f))]):=⟨λhp=>by
 have i_a:RzB a 4000000:=⟨hp.1⟩
 have i_b:RzB b 4000000:=⟨hp.2.1⟩
 have i_c:RzB c 4000000:=⟨hp.2.2.1⟩
 have i_d:RzB d 4000000:=⟨hp.2.2.2.1⟩
 have i_e:RzB e 4000000:=⟨hp.2.2.2.2.1⟩
 have i_f:RzB f 4000000:=⟨hp.2.2.2.2.2⟩
 all_goals refine amV Tryz.func359 rfl ?_
 all_goals(repeat'((try(conv=>whnf));first
  |refine call_0 ?_|refine call_i ?_ ?_|(with_reducible first|refine onB_t ?_|refine onB_f ?_|refine onB_d (λ_=>?_) (λ_=>?_))|refine Drw.mk (by kernel_rfl) ?_|refine Ends.mk ?_))
 all_goals(try refine Pr.mk ?_)
 all_goals(try simp only[am3]at *)
 all_goals first
  |(simp only[Eb,Ea,aj,aH,ZY,Fb,aG, *,true_or,or_true,if_true,if_false,or_self,and_self,and_true,true_and,and_false,false_and,not_true,not_false_iff,AB,decide_true,decide_false,Vf,Vg,NH,G7];rfl)|((repeat' apply And.intro)<;>first|assumption|exact jh (by omega)|exact jl (by omega)|exact iU (amR _) (amR _))⟩
instance akx:DenI Tryz.prog 216 [] (True) (R 0):=⟨λhp=>by
 refine amV Tryz.func216 rfl ?_
 all_goals(repeat'((try(conv=>whnf));first
  |refine call_i ?_ ?_|refine Ends.mk ?_))
 all_goals(try refine Pr.mk ?_)
 all_goals first
  |rfl|omega⟩
instance amq(a b:Rat):DenI Tryz.prog 171 [Q2 a b] (rz a≤4000000∧rz b≤4000000) (Q5 a 0 b 0 0):=⟨λhp=>by
 have i_a:RzB a 4000000:=⟨hp.1⟩
 have i_b:RzB b 4000000:=⟨hp.2⟩
 all_goals refine amV Tryz.func171 rfl ?_
 all_goals(repeat'((try(conv=>whnf));first
  |refine call_0 ?_|refine Drw.mk (by kernel_rfl) ?_|refine Ends.mk ?_))
 all_goals first
  |rfl⟩
instance alT(m n:Int):DenI Tryz.prog 88 [.int .i64 m,.int .i64 n] ((-9223372036854775808≤m∧m≤9223372036854775807)∧-9223372036854775808≤n∧n≤9223372036854775807) (Q2 (m:Rat) (n:Rat)):=⟨λhp=>by
 refine amV Tryz.func88 rfl ?_
 all_goals(repeat'((try(conv=>whnf));first
  |refine call_i ?_ ?_|refine Ends.mk ?_))
 all_goals(try refine Pr.mk ?_)
 all_goals first
  |rfl|omega⟩
instance alC(a b c:Rat):DenI Tryz.prog 322 [R a,R b,R c] (rz a≤4000000∧rz b≤4000000∧rz c≤4000000) (Q3 a b (Fb b c)):=⟨λhp=>by
 have i_a:RzB a 4000000:=⟨hp.1⟩
 have i_b:RzB b 4000000:=⟨hp.2.1⟩
 have i_c:RzB c 4000000:=⟨hp.2.2⟩
 all_goals refine amV Tryz.func322 rfl ?_
 all_goals(repeat'((try(conv=>whnf));first
  |refine call_0 ?_|refine call_i ?_ ?_|(with_reducible refine onB_d (λ_=>?_) (λ_=>?_))|refine Ends.mk ?_))
 all_goals(try refine Pr.mk ?_)
 all_goals(try simp only[am3]at *)
 all_goals first
  |(simp only[Eb,Ea,aj,aH,ZY,Fb,aG, *,true_or,or_true,if_true,if_false,or_self,and_self,and_true,true_and,and_false,false_and,not_true,not_false_iff,AB,decide_true,decide_false,Vf,Vg,NH,G7];rfl)|((repeat' apply And.intro)<;>first|assumption|exact jh (by omega)|exact jl (by omega)|exact iU (amR _) (amR _))⟩
instance aiV(x y:Rat):DenI Tryz.prog 342 [Q2 x y] (rz x≤4000000∧rz y≤4000000) (Q2 (-x) (-y)):=⟨λhp=>by
 have i_x:RzB x 4000000:=⟨hp.1⟩
 have i_y:RzB y 4000000:=⟨hp.2⟩
 all_goals refine amV Tryz.func342 rfl ?_
 all_goals(repeat'((try(conv=>whnf));first
  |refine call_i ?_ ?_|refine Drw.mk (by kernel_rfl) ?_|refine Ends.mk ?_))
 all_goals(try refine Pr.mk ?_)
 all_goals first
  |rfl|((repeat' apply And.intro)<;>first|assumption|exact jh (by omega)|exact jl (by omega)|exact iU (amR _) (amR _))⟩
instance aj0(a b c d:Rat):DenI Tryz.prog 27 [Q2 a b,Q2 c d] (rz a≤4000000∧rz b≤4000000∧rz c≤4000000∧rz d≤4000000) (.bool (decide (a=c) && decide (b=d))):=⟨λhp=>by
 have i_a:RzB a 4000000:=⟨hp.1⟩
 have i_b:RzB b 4000000:=⟨hp.2.1⟩
 have i_c:RzB c 4000000:=⟨hp.2.2.1⟩
 have i_d:RzB d 4000000:=⟨hp.2.2.2⟩
 all_goals refine amV Tryz.func27 rfl ?_
 all_goals(repeat'((try(conv=>whnf));first
  |refine call_i ?_ ?_|(with_reducible first|refine onB_t ?_|refine onB_f ?_|refine onB_d (λ_=>?_) (λ_=>?_))|refine Ends.mk ?_))
 all_goals(try refine Pr.mk ?_)
 all_goals first
  |(simp only[Eb,Ea,aj,aH,ZY,Fb,aG, *,true_or,or_true,if_true,if_false,or_self,and_self,and_true,true_and,and_false,false_and,not_true,not_false_iff,AB,decide_true,decide_false,Vf,Vg,NH,G7];rfl)|((repeat' apply And.intro)<;>first|assumption|exact jh (by omega)|exact jl (by omega)|exact iU (amR _) (amR _))⟩
end Go.Proofs.YtmniihkenijjpaaGreatDoor
namespace Go.Proofs.YtmniihkenijjpaaGreatDoor
open Go Go.RowKit Go.Sw
set_option maxRecDepth 100000
set_option maxHeartbeats 8000000
set_option synthInstance.maxSize 4000
set_option synthInstance.maxHeartbeats 400000
instance aln(a b:Rat):DenI Tryz.prog 214 [R a,R b] (rz a≤4000000∧rz b≤4000000) (R (a+b)):=⟨λhp=>by
 have i_a:RzB a 4000000:=⟨hp.1⟩
 have i_b:RzB b 4000000:=⟨hp.2⟩
 all_goals refine amV Tryz.func214 rfl ?_
 all_goals(repeat'((try(conv=>whnf));first
  |refine call_i ?_ ?_|refine Ends.mk ?_))
 all_goals(try refine Pr.mk ?_)
 all_goals first
  |rfl|((repeat' apply And.intro)<;>first|assumption|exact jh (by omega)|exact jl (by omega)|exact iU (amR _) (amR _))⟩
instance ak6(a b:Rat):DenI Tryz.prog 213 [R a,R b] (rz a≤4000000∧rz b≤4000000) (R (a-b)):=⟨λhp=>by
 have i_a:RzB a 4000000:=⟨hp.1⟩
 have i_b:RzB b 4000000:=⟨hp.2⟩
 all_goals refine amV Tryz.func213 rfl ?_
 all_goals(repeat'((try(conv=>whnf));first
  |refine call_i ?_ ?_|refine Ends.mk ?_))
 all_goals(try refine Pr.mk ?_)
 all_goals first
  |rfl|((repeat' apply And.intro)<;>first|assumption|exact jh (by omega)|exact jl (by omega)|exact iU (amR _) (amR _))⟩
instance ak7(a b:Rat):DenI Tryz.prog 215 [R a,R b] (rz a≤4000000∧rz b≤4000000) (R (a*b)):=⟨λhp=>by
 have i_a:RzB a 4000000:=⟨hp.1⟩
 have i_b:RzB b 4000000:=⟨hp.2⟩
 all_goals refine amV Tryz.func215 rfl ?_
 all_goals(repeat'((try(conv=>whnf));first
  |refine call_i ?_ ?_|refine Ends.mk ?_))
 all_goals(try refine Pr.mk ?_)
 all_goals first
  |rfl|((repeat' apply And.intro)<;>first|assumption|exact jh (by omega)|exact jl (by omega)|exact iU (amR _) (amR _))⟩
instance al4(a b:Rat):DenI Tryz.prog 217 [R a,R b] (rz a≤4000000∧rz b≤4000000∧¬b=0) (R (a / b)):=⟨λhp=>by
 have i_a:RzB a 4000000:=⟨hp.1⟩
 have i_b:RzB b 4000000:=⟨hp.2.1⟩
 have hpre:=hp.2.2
 all_goals refine amV Tryz.func217 rfl ?_
 all_goals(repeat'((try(conv=>whnf));first
  |refine call_c ?_ (λ_=>?_) (λ_=>?_)|refine Ends.mk ?_))
 all_goals(try refine Pr.mk ?_)
 all_goals first
  |rfl|((repeat' apply And.intro)<;>first|assumption|exact jh (by omega)|exact jl (by omega)|exact iU (amR _) (amR _))|(exfalso;simp_all;done)⟩
instance akG(a b c d:Rat):DenC Tryz.prog 170 [Q2 a b,Q2 c d] (rz a≤1000∧rz b≤1000∧rz c≤1000∧rz d≤1000) ((b-d)=0∧(c-a)=0) (.tup [IW,.int .i64 6]) (.tup [Q3 (b-d) (c-a) ((b-d)*a+(c-a)*b),.int .i64 0]):=⟨denC λhp q e1 e2=>by
 have i_a:RzB a 1000:=⟨hp.1⟩
 have i_b:RzB b 1000:=⟨hp.2.1⟩
 have i_c:RzB c 1000:=⟨hp.2.2.1⟩
 have i_d:RzB d 1000:=⟨hp.2.2.2⟩
 all_goals refine amV Tryz.func170 rfl ?_
 all_goals(repeat'((try(conv=>whnf));first
  |refine call_0 ?_|refine call_i ?_ ?_|(with_reducible first|refine onB_t ?_|refine onB_f ?_|refine onB_d (λ_=>?_) (λ_=>?_))|refine Drw.mk (by kernel_rfl) ?_|refine Ends.mk ?_))
 all_goals(try refine Pr.mk ?_)
 all_goals(try simp only[am3]at *)
 all_goals first
  |(rw[e1 ⟨by assumption,by assumption⟩];rfl)|(rw[e2 (λh=>absurd h.1 (by assumption))];rfl)|(rw[e2 (λh=>absurd h.2 (by assumption))];rfl)|((repeat' apply And.intro)<;>first|assumption|exact jh (by omega)|exact jl (by omega)|exact iU (amR _) (amR _))⟩
instance aiM(a b c d e f:Rat):DenC Tryz.prog 173 [Q2 a b,Q2 c d,Q2 e f] (rz a≤200∧rz b≤200∧rz c≤200∧rz d≤200∧rz e≤200∧rz f≤200) (((c-a)*(f-b)-(d-b)*(e-a))=0) (.tup [IW,.int .i64 6]) (.tup [Q3 (a+((((c-a)*(c-a)+(d-b)*(d-b))*(f-b)-((e-a)*(e-a)+(f-b)*(f-b))*(d-b)) / (((c-a)*(f-b)-(d-b)*(e-a))+((c-a)*(f-b)-(d-b)*(e-a))))) (b+((((e-a)*(e-a)+(f-b)*(f-b))*(c-a)-((c-a)*(c-a)+(d-b)*(d-b))*(e-a)) / (((c-a)*(f-b)-(d-b)*(e-a))+((c-a)*(f-b)-(d-b)*(e-a))))) (((((c-a)*(c-a)+(d-b)*(d-b))*(f-b)-((e-a)*(e-a)+(f-b)*(f-b))*(d-b)) / (((c-a)*(f-b)-(d-b)*(e-a))+((c-a)*(f-b)-(d-b)*(e-a))))*((((c-a)*(c-a)+(d-b)*(d-b))*(f-b)-((e-a)*(e-a)+(f-b)*(f-b))*(d-b)) / (((c-a)*(f-b)-(d-b)*(e-a))+((c-a)*(f-b)-(d-b)*(e-a))))+((((e-a)*(e-a)+(f-b)*(f-b))*(c-a)-((c-a)*(c-a)+(d-b)*(d-b))*(e-a)) / (((c-a)*(f-b)-(d-b)*(e-a))+((c-a)*(f-b)-(d-b)*(e-a))))*((((e-a)*(e-a)+(f-b)*(f-b))*(c-a)-((c-a)*(c-a)+(d-b)*(d-b))*(e-a)) / (((c-a)*(f-b)-(d-b)*(e-a))+((c-a)*(f-b)-(d-b)*(e-a))))),.int .i64 0]):=⟨denC λhp q e1 e2=>by
 have i_a:RzB a 200:=⟨hp.1⟩
 have i_b:RzB b 200:=⟨hp.2.1⟩
 have i_c:RzB c 200:=⟨hp.2.2.1⟩
 have i_d:RzB d 200:=⟨hp.2.2.2.1⟩
 have i_e:RzB e 200:=⟨hp.2.2.2.2.1⟩
 have i_f:RzB f 200:=⟨hp.2.2.2.2.2⟩
 all_goals refine amV Tryz.func173 rfl ?_
 all_goals(repeat'((try(conv=>whnf));first
  |refine call_0 ?_|refine call_i ?_ ?_|(with_reducible refine onB_d (λ_=>?_) (λ_=>?_))|refine Drw.mk (by kernel_rfl) ?_|refine Ends.mk ?_))
 all_goals(try refine Pr.mk ?_)
 all_goals(try simp only[am3]at *)
 all_goals first
  |(rw[e1 (by assumption)];rfl)|(rw[e2 (by assumption)];rfl)|(refine⟨jh (by omega),jh (by omega),by grind⟩)|((repeat' apply And.intro)<;>first|assumption|exact jh (by omega)|exact jl (by omega)|exact iU (amR _) (amR _))⟩
instance amg(a b:Rat):DenI Tryz.prog 206 [R a,R b] (rz a≤4000000∧rz b≤4000000) (R (a+b)):=⟨λhp=>by
 have i_a:RzB a 4000000:=⟨hp.1⟩
 have i_b:RzB b 4000000:=⟨hp.2⟩
 all_goals refine amV Tryz.func206 rfl ?_
 all_goals(repeat'((try(conv=>whnf));first
  |refine call_i ?_ ?_|refine Ends.mk ?_))
 all_goals(try refine Pr.mk ?_)
 all_goals first
  |rfl|((repeat' apply And.intro)<;>first|assumption|exact jh (by omega)|exact jl (by omega)|exact iU (amR _) (amR _))⟩
instance al0(a b:Rat):DenI Tryz.prog 203 [R a,R b] (rz a≤4000000∧rz b≤4000000) (R (a-b)):=⟨λhp=>by
 have i_a:RzB a 4000000:=⟨hp.1⟩
 have i_b:RzB b 4000000:=⟨hp.2⟩
 all_goals refine amV Tryz.func203 rfl ?_
 all_goals(repeat'((try(conv=>whnf));first
  |refine call_i ?_ ?_|refine Ends.mk ?_))
 all_goals(try refine Pr.mk ?_)
 all_goals first
  |rfl|((repeat' apply And.intro)<;>first|assumption|exact jh (by omega)|exact jl (by omega)|exact iU (amR _) (amR _))⟩
instance amc(a b:Rat):DenI Tryz.prog 204 [R a,R b] (rz a≤4000000∧rz b≤4000000) (R (a*b)):=⟨λhp=>by
 have i_a:RzB a 4000000:=⟨hp.1⟩
 have i_b:RzB b 4000000:=⟨hp.2⟩
 all_goals refine amV Tryz.func204 rfl ?_
 all_goals(repeat'((try(conv=>whnf));first
  |refine call_i ?_ ?_|refine Ends.mk ?_))
 all_goals(try refine Pr.mk ?_)
 all_goals first
  |rfl|((repeat' apply And.intro)<;>first|assumption|exact jh (by omega)|exact jl (by omega)|exact iU (amR _) (amR _))⟩
instance akd(a b:Rat):DenI Tryz.prog 207 [R a,R b] (rz a≤4000000∧rz b≤4000000) (R (a / b)):=⟨λhp=>by
 have i_a:RzB a 4000000:=⟨hp.1⟩
 have i_b:RzB b 4000000:=⟨hp.2⟩
 all_goals refine amV Tryz.func207 rfl ?_
 all_goals(repeat'((try(conv=>whnf));first
  |refine call_i ?_ ?_|refine call_c ?_ (λ_=>?_) (λ_=>?_)|(with_reducible refine onB_n (λ_=>?_) (λ_=>?_))|refine Ends.mk ?_))
 all_goals(try refine Pr.mk ?_)
 all_goals(try simp only[am3]at *)
 all_goals first
  |rfl|(subst b;exact congrArg R (af2 a))|omega|(exfalso;simp at *;done)⟩
instance ajN(a:Rat):DenI Tryz.prog 205 [R a] (rz a≤4000000) (.bool (decide (a=0))):=⟨λhp=>by
 have i_a:RzB a 4000000:=⟨hp⟩
 all_goals refine amV Tryz.func205 rfl ?_
 all_goals(repeat'((try(conv=>whnf));first
  |refine call_0 ?_|refine Ends.mk ?_))
 all_goals(try simp only[am3]at *)
 all_goals first
  |rfl⟩
instance ajO(a b c d e f:Rat):DenC Tryz.prog 165 [Q2 a b,Q2 c d,Q2 e f] (rz a≤200∧rz b≤200∧rz c≤200∧rz d≤200∧rz e≤200∧rz f≤200) (((c-a)*(f-b)-(d-b)*(e-a))=0) (.tup [IW,.int .i64 6]) (.tup [Q3 (a+((((c-a)*(c-a)+(d-b)*(d-b))*(f-b)-((e-a)*(e-a)+(f-b)*(f-b))*(d-b)) / (((c-a)*(f-b)-(d-b)*(e-a))+((c-a)*(f-b)-(d-b)*(e-a))))) (b+((((e-a)*(e-a)+(f-b)*(f-b))*(c-a)-((c-a)*(c-a)+(d-b)*(d-b))*(e-a)) / (((c-a)*(f-b)-(d-b)*(e-a))+((c-a)*(f-b)-(d-b)*(e-a))))) (((((c-a)*(c-a)+(d-b)*(d-b))*(f-b)-((e-a)*(e-a)+(f-b)*(f-b))*(d-b)) / (((c-a)*(f-b)-(d-b)*(e-a))+((c-a)*(f-b)-(d-b)*(e-a))))*((((c-a)*(c-a)+(d-b)*(d-b))*(f-b)-((e-a)*(e-a)+(f-b)*(f-b))*(d-b)) / (((c-a)*(f-b)-(d-b)*(e-a))+((c-a)*(f-b)-(d-b)*(e-a))))+((((e-a)*(e-a)+(f-b)*(f-b))*(c-a)-((c-a)*(c-a)+(d-b)*(d-b))*(e-a)) / (((c-a)*(f-b)-(d-b)*(e-a))+((c-a)*(f-b)-(d-b)*(e-a))))*((((e-a)*(e-a)+(f-b)*(f-b))*(c-a)-((c-a)*(c-a)+(d-b)*(d-b))*(e-a)) / (((c-a)*(f-b)-(d-b)*(e-a))+((c-a)*(f-b)-(d-b)*(e-a))))),.int .i64 0]):=⟨denC λhp q e1 e2=>by
 have i_a:RzB a 200:=⟨hp.1⟩
 have i_b:RzB b 200:=⟨hp.2.1⟩
 have i_c:RzB c 200:=⟨hp.2.2.1⟩
 have i_d:RzB d 200:=⟨hp.2.2.2.1⟩
 have i_e:RzB e 200:=⟨hp.2.2.2.2.1⟩
 have i_f:RzB f 200:=⟨hp.2.2.2.2.2⟩
 all_goals refine amV Tryz.func165 rfl ?_
 all_goals(repeat'((try(conv=>whnf));first
  |refine call_i ?_ ?_|(with_reducible refine onB_d (λ_=>?_) (λ_=>?_))|refine Drw.mk (by kernel_rfl) ?_|refine Ends.mk ?_))
 all_goals(try refine Pr.mk ?_)
 all_goals first
  |(rw[e1 (by assumption)];rfl)|(rw[e2 (by assumption)];rfl)|((repeat' apply And.intro)<;>first|assumption|exact jh (by omega)|exact jl (by omega)|exact iU (amR _) (amR _))⟩
end Go.Proofs.YtmniihkenijjpaaGreatDoor
namespace Go.Sw
open Go
@[reducible] def cO(e:Ent):List Cell:=[.v (.int .i64 e.kind),.v (.string e.layer),.sl 8 (e.pts.map vecC),.v (.bool e.rad.a),lmc e.rad.l,.v (.bool e.rad.b),lmc e.rad.m]
def aV(p:P2):Prop:=rz p.1≤12∧rz p.2≤12
def E0:Ent:=⟨0,⟨#[]⟩,[],⟨false,[],false,[]⟩⟩
theorem ac3{e:Ent}(h:e.kind=1∧e.pts.length=2∨e.kind=2∧e.pts.length=3):aS e=[e.pts.getD 0 P0,e.pts.getD (e.pts.length-1) P0]:=by
 obtain⟨kd,ly,pts,rd⟩:=e;simp only at h ⊢;rcases h with⟨rfl,h⟩|⟨rfl,h⟩
 ·match pts,h with
  |[a,b],_=>rfl
 ·match pts,h with
  |[a,m,b],_=>rfl
theorem afi{e:Ent}(h:¬(e.kind=1∧e.pts.length=2∨e.kind=2∧e.pts.length=3)):aS e=[]:=by
 rcases iV e with⟨h1,_⟩|⟨a,b,h1,h2,_⟩|⟨a,m,b,h1,h2,_⟩
 ·exact h1
 ·exact absurd (.inl ⟨h1,by rw[h2];rfl⟩) h
 ·exact absurd (.inr ⟨h1,by rw[h2];rfl⟩) h
@[reducible] def Dq(e:Ent):AV:=.tup [.c (.sl (if aS e=[] then 0 else 8) ((aS e).map vecC)),.bool (decide (aS e≠[]))]
theorem KX{e:Ent}{i j:Nat}(h:e.kind=1∧e.pts.length=2∨e.kind=2∧e.pts.length=3)(hi:i=0)(hj:j=e.pts.length-1):packA [AV.c (Cell.sl 8 [vecC (e.pts.getD i P0),vecC (e.pts.getD j P0)]),AV.bool true]=Dq e:=by
 subst hi hj;unfold Dq;rw[ac3 h];rfl
theorem Qn{e:Ent}(h:¬(e.kind=1∧e.pts.length=2∨e.kind=2∧e.pts.length=3)):packA [AV.c (Cell.sl 0 []),AV.bool false]=Dq e:=by
 unfold Dq;rw[afi h];rfl
theorem Ej(e:Ent):((aS e).length=2∧(e.pts.length=2∨e.pts.length=3))∨(aS e).length=0:=by
 rcases iV e with⟨h1,_⟩|⟨a,b,_,h2,h3⟩|⟨a,m,b,_,h2,h3⟩
 ·right;rw[h1];rfl
 ·left;rw[h2,h3];simp
 ·left;rw[h2,h3];simp
theorem Ul{e:Ent}{l:List P2}{j:Nat}(h2:l.length=2)(hl:l.length=(aS e).length)(hj:j=e.pts.length-1):packA [AV.agg [.v (.int .i64 e.kind),.v (.string e.layer),.sl 8 (((e.pts.map vecC).set 0 (vecC (l.getD 0 P0))).set j (vecC (l.getD 1 P0))),.v (.bool e.rad.a),lmc e.rad.l,.v (.bool e.rad.b),lmc e.rad.m]]=.agg (cO (iI e l)):=by
 subst hj;obtain⟨kd,ly,pts,rd⟩:=e
 match l,h2 with
 |[x,y],_ =>
 rcases iV ⟨kd,ly,pts,rd⟩with⟨h1,_⟩|⟨a,b,_,h2,h3⟩|⟨a,m,b,_,h2,h3⟩
 ·rw[h1]at hl;cases hl
 ·simp only at h2;subst h2;rfl
 ·simp only at h2;subst h2;rfl
theorem Vl{e:Ent}{l:List P2}(h2:¬(l.length:Int)=2)(hl:l.length=(aS e).length):packA [AV.agg (cO e)]=.agg (cO (iI e l)):=by
 rcases iV e with⟨h1,h⟩|⟨a,b,_,_,h3⟩|⟨a,m,b,_,_,h3⟩
 ·rw[h l (by rw[hl,h1];rfl)];rfl
 ·rw[h3]at hl;simp at hl;omega
 ·rw[h3]at hl;simp at hl;omega
theorem KG{M:Type}(d:M){f:M→List Cell}{l:List M}{y:M}{j:Int}{k:List Cell→Prop}(n:Nat)(hp:Pr (0≤j∧j<l.length))(hk:k (f ((l.set n y).getD j.toNat d))):Elem ((l.map f).set n (f y)) j k:=by
 rw[←List.map_set];exact elem_map d ⟨by rw[JB];exact hp.p⟩ hk
end Go.Sw
