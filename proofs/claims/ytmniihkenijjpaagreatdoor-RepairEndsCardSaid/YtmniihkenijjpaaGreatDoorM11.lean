/-
  Rules of the abstract run, plain laws, and what functions answer, for the law RepairEnds.
  Conditions: none.
-/
import Derived.Test.YtmniihkenijjpaaGreatDoorM10
import Derived.Test.YtmniihkenijjpaaGreatDoorChecked
set_option linter.all false
namespace Go.Proofs.YtmniihkenijjpaaGreatDoor
open Go Go.RowKit Go.Sw
set_option maxRecDepth 20000
namespace TfPA
end TfPA
end Go.Proofs.YtmniihkenijjpaaGreatDoor
namespace Go.Proofs.YtmniihkenijjpaaGreatDoor
open Go Go.RowKit Go.Sw
set_option maxRecDepth 100000
set_option maxHeartbeats 8000000
instance(a b:List Nat):DenI Tryz.prog 197 [.c (aX a),.c (aX b)] (a.length≤100000000000∧b.length≤100000000000∧Lb a∧Lb b∧0<val b) (.tup [.c (aX (pad (SE a b) (val a / val b))),.c (aX (pad (PG a b) (val a % val b)))]):=⟨λhp=>adr (by kernel_rfl) λw X u v hX hu hv=>(sQ hX hu.ul hv.ul hp.1 hp.2.1 hp.2.2.1 hp.2.2.2.1 hp.2.2.2.2).mono λe w' ⟨u,he,⟨qs,rs,r0,r1,h1,h2,h3,h4,h5,h6,h7,h8,h9⟩,hb⟩=>⟨u,he,by subst h1;obtain ⟨e1,e2⟩:=Rf h4 h5 h6 h7 h8 h9;rw [← e1,← e2];exact ac6 (.c h2.rep) (.c h3.rep),hb⟩⟩
instance adz(a b:Int):DenI Tryz.prog 234 [Z a,Z b] (sz a≤1000000000∧sz b≤1000000000) (Z (a-b)):=⟨λhp=>by
 refine aB Tryz.func234 rfl ?_
 repeat' ((try (conv=>whnf));first
  |(with_reducible refine aO ?_)
  |(with_reducible refine aT ?_)
  |(with_reducible refine dn (λ_=>?_) (λ_=>?_)))
 all_goals (try ((conv=>whnf);first|rw [XB (by assumption)]|rw [XI (by assumption)]))
 all_goals (repeat' ((try (conv=>whnf));first
  |refine ak ?_ ?_
  |refine Ends.mk ?_))
 all_goals (try refine Pr.mk ?_)
 all_goals first
  |(rw [iO];exact hp)
  |(refine Vw ?_;omega)⟩
instance acz(a:Int):DenI Tryz.prog 331 [Z a] (True) (.tup [.int .i64 (if -9223372036854775808≤a∧a≤9223372036854775807 then a else 0),.bool (decide (-9223372036854775808≤a∧a≤9223372036854775807))]):=⟨λhp=>by
 refine aB Tryz.func331 rfl ?_
 repeat' ((try (conv=>whnf));first
  |refine aI ?_
  |refine ak ?_ ?_
  |(with_reducible refine aO ?_)
  |(with_reducible refine aT ?_)
  |(with_reducible refine au (λ_=>?_) (λ_=>?_))
  |refine Drw.mk (by kernel_rfl) ?_
  |refine Ends.mk ?_)
 all_goals (try refine Pr.mk ?_)
 all_goals first
  |omega
  |with_reducible exact aag (by assumption)
  |with_reducible exact aaV (by assumption)
  |(have hb:=abL (by assumption) (by assumption);have hq:=abD hb;((conv=>whnf);refine Sw.Loop.inv (α:=Nat) (λx=>[(1,.ptr 1 0),(4,.int .u64 (val ((lim a.natAbs).drop x):Nat)),(5,.int .i64 ((x:Int)-1))]) (λx=>[(1,.var [zs a,zl a])]) (λx=>x≤(lim a.natAbs).length) (λx=>x) ((lim a.natAbs).length) ?_ ?_ ?_ (λx hx=>?_)))
 all_goals (repeat' ((try (conv=>whnf));first
  |(with_reducible refine au (λ_=>?_) (λ_=>?_))
  |(with_reducible refine dH ?_ ?_)
  |refine Ends.mk ?_))
 all_goals (try refine Pr.mk ?_)
 all_goals first|(show SubE _ _;repeat' (first|exact trivial|refine And.intro ?_ ?_))|(show SubB _ _;repeat' (first|exact trivial|refine And.intro ?_ ?_))|skip
 all_goals (try rfl)
 all_goals (try simp (disch:=omega) only [List.length_map,List.length_take,Int.toNat_natCast,List.length_replicate,bQ,dZ,wu64,IK,Ec,WR,nS,oq] at *)
 all_goals first
  |omega
  |rfl
  |(rw [kJ (Nat.le_refl _)];rfl)
  |(refine abu hb ?_;rw [show x=0 by omega,List.drop_zero,aH];first|exact Jc (by omega) (by omega)|exact Pg (by omega) (by omega))
  |(have hd:=tV (l:=lim a.natAbs) (k:=x) (by omega) hx;have hle:=Gh (lim a.natAbs) (x-1);have hg:=(bY a.natAbs).getD (x-1);((conv=>whnf);exact ⟨x-1,⟨⟨rfl,iS (by (try simp (disch:=omega) only [dZ,wu64,bQ,nS,oq,Ec,En,Ru,Og,Qd,OY,QO])<;>omega),IB (by omega) (by omega),trivial⟩,⟨rfl,trivial⟩,(by omega),by show x-1<x;omega⟩⟩))⟩
instance Zg(a b:Int):DenI Tryz.prog 200 [Z a,Z b] (sz a≤1000000000∧sz b≤1000000000) (.tup [Z (a.fdiv b),Z (if b=0 then 0 else a.fmod b),.int .i64 (if b=0 then 6 else 0)]):=⟨λhp=>by
 refine aB Tryz.func200 rfl ?_
 repeat' ((try (conv=>whnf));first
  |refine ak ?_ ?_
  |(with_reducible refine aO ?_)
  |(with_reducible refine aT ?_)
  |(with_reducible refine au (λ_=>?_) (λ_=>?_))
  |refine OnB.mk (λ_=>?_) (λ_=>?_)
  |refine Drw.mk (by kernel_rfl) ?_
  |refine Ends.mk ?_)
 all_goals (try refine Pr.mk ?_)
 all_goals (try simp (disch:=assumption) only [aH,jP,tN,vT,vY,List.length_map,dqI,drI] at *)
 all_goals (try simp (disch:=assumption) only [aH,jP,tN,vT,vY,List.length_map,dqI,drI] at *)
 all_goals first
  |omega
  |(have hb0:b=0:=(by omega);subst hb0;exact Ol a)
  |with_reducible exact rF _ _
  |with_reducible exact Rn hp.1 hp.2 (by assumption)
  |with_reducible exact ⟨acp hp.1 _,adv⟩
  |with_reducible exact ⟨adH hp.1 _,hp.2⟩
  |with_reducible exact Om (by assumption) (by assumption) (TA (r:=a.natAbs % b.natAbs) (by omega) (by assumption))
  |with_reducible exact EX (by assumption) (.inr (VQ (r:=a.natAbs % b.natAbs) (by omega) (by assumption)))
  |with_reducible exact EX (by assumption) (.inl (by omega))⟩
instance ac4(a b:Int):DenI Tryz.prog 156 [Z a,Z b] (sz a≤1000000000∧sz b≤1000000000) (Z ((Nat.gcd a.natAbs b.natAbs:Nat):Int)):=⟨λhp=>by
 refine aB Tryz.func156 rfl ?_
 repeat' ((try (conv=>whnf));first
  |refine ak ?_ ?_
  |refine Drw.mk (by kernel_rfl) ?_)
 all_goals (try refine Pr.mk ?_)
 all_goals first
  |((conv=>whnf);refine Sw.Loop.inv (α:=Nat × Nat) (λx=>[(4,.ptr 4 0),(5,.ptr 5 0),(6,.ptr 6 0)]) (λx=>[(4,.var [.v (.bool false),.sl 1 []]),(5,.var [zs (x.1:Nat),zl (x.1:Nat)]),(6,.var [zs (x.2:Nat),zl (x.2:Nat)])]) (λx=>Nat.gcd x.1 x.2=Nat.gcd a.natAbs b.natAbs∧sz ((x.1:Nat):Int)≤1000000000∧sz ((x.2:Nat):Int)≤1000000000) (λx=>x.2) (a.natAbs,b.natAbs) ?_ ?_ ?_ (λx hx=>?_))
  |skip
 all_goals (repeat' ((try (conv=>whnf));first
  |refine aI ?_
  |refine ak ?_ ?_
  |(with_reducible refine aO ?_)
  |(with_reducible refine aT ?_)
  |(with_reducible refine au (λ_=>?_) (λ_=>?_))
  |refine bH ?_ ?_
  |refine Drw.mk (by kernel_rfl) ?_
  |refine Ends.mk ?_))
 all_goals (try refine Pr.mk ?_)
 all_goals first
  |((conv=>whnf);refine Sw.Loop.inv (α:=Nat × Nat) (λy=>[(4,.ptr 4 0),(7,.int .u64 (y.1:Nat)),(9,.int .u64 (y.2:Nat))]) (λy=>[(4,.var [.v (.bool false),.sl 1 []])]) (λy=>y.1<1000000000000000000∧y.2<1000000000000000000∧Nat.gcd y.1 y.2=Nat.gcd a.natAbs b.natAbs) (λy=>y.2) x ?_ ?_ ?_ (λy hy=>?_))
  |skip
 all_goals (repeat' ((try (conv=>whnf));first
  |refine ak ?_ ?_
  |(with_reducible refine au (λ_=>?_) (λ_=>?_))
  |refine bH ?_ ?_
  |refine Drw.mk (by kernel_rfl) ?_
  |refine Ends.mk ?_))
 all_goals (try refine Pr.mk ?_)
 all_goals first|(show SubE _ _;repeat' (first|exact trivial|refine And.intro ?_ ?_))|(show SubB _ _;repeat' (first|exact trivial|refine And.intro ?_ ?_))|skip
 all_goals (try rfl)
 all_goals (try simp only [List.length_map] at *)
 all_goals first
  |with_reducible exact bY _
  |with_reducible exact rF _ _
  |exact Qx _ _ (by rw [aH];rfl)
  |exact ⟨trivial,hp.1,hp.2⟩
  |exact wif (by assumption)
  |exact ⟨JC (by assumption),JC (by assumption),hx.1⟩
  |with_reducible exact acQ hx.2.1 hx.2.2 (by assumption)
  |omega
  |with_reducible exact Va (abP (by assumption)) hx.1 (aH _)
  |with_reducible exact Va (by omega) hy.2.2 (jM _ _ (by omega))
  |(have h1:=hy.1;have h2:=hy.2.1;have h3:y.1 % y.2<y.2:=Nat.mod_lt _ (by omega);((conv=>whnf);exact ⟨(y.2,y.1 % y.2),⟨⟨rfl,rfl,gm2,trivial⟩,⟨rfl,trivial⟩,⟨by show y.2<_;omega,by show y.1 % y.2<_;omega,tq hy.2.2 rfl⟩,h3⟩⟩))
  |(have h0:=acF (by assumption);have h3:x.1 % x.2<x.2:=Nat.mod_lt _ h0;((conv=>whnf);exact ⟨(x.2,x.1 % x.2),⟨⟨rfl,rfl,rfl,trivial⟩,⟨rfl,rfl,Qx _ _ (gst (by assumption)),trivial⟩,⟨tq hx.1 rfl,hx.2.2,Nat.le_trans (lQ (by rw [Int.natAbs_natCast,Int.natAbs_natCast];exact Nat.le_of_lt h3)) hx.2.2⟩,h3⟩⟩))
  |(have h0:=hx.2.1;unfold sz at h0;omega)⟩
instance acZ : DenI Tryz.prog 158 [] (True) (Z 1):=⟨λhp=>by
 refine aB Tryz.func158 rfl ?_
 repeat' ((try (conv=>whnf));first
  |refine ak ?_ ?_
  |refine Ends.mk ?_)
 all_goals (try refine Pr.mk ?_)
 all_goals first|rfl|decide⟩
instance abV(n:Int):DenI Tryz.prog 222 [Z n] (True) (R (n:Rat)):=⟨λhp=>by
 refine aB Tryz.func222 rfl ?_
 repeat' ((try (conv=>whnf));first
  |refine aI ?_
  |refine Drw.mk (by kernel_rfl) ?_
  |refine Ends.mk ?_)
 rfl⟩
instance abR(a b:Int):DenI Tryz.prog 159 [Z a,Z b] (sz a≤1000000000∧sz b≤1000000000) (Z (a.fdiv b)):=⟨λhp=>by
 refine aB Tryz.func159 rfl ?_
 repeat' ((try (conv=>whnf));first
  |refine ak ?_ ?_
  |refine Ends.mk ?_)
 all_goals (try refine Pr.mk ?_)
 all_goals first|rfl|exact hp⟩
instance aaE(n d:Int):DenI Tryz.prog 121 [Z n,Z d] (d≠0∧sz n≤1000000000∧sz d≤1000000000) (R ((n:Rat) / d)):=⟨λhp=>by
 refine aB Tryz.func121 rfl ?_
 repeat' ((try (conv=>whnf));first
  |refine aI ?_
  |refine ak ?_ ?_
  |(with_reducible refine au (λ_=>?_) (λ_=>?_))
  |(with_reducible refine dn (λ_=>?_) (λ_=>?_))
  |refine Drw.mk (by kernel_rfl) ?_
  |refine Ends.mk ?_)
 all_goals (try refine Pr.mk ?_)
 all_goals obtain ⟨h0,h1,h2⟩:=hp
 all_goals (try simp only [gu] at *)
 all_goals first
  |(show aA _=_;first|(by_cases hd:d<0;(obtain ⟨q1,q2⟩:=U0 (n:=n) (d:=d) hd;first|exact JD q1 q2|(refine JD ?_ ?_<;>simp_all));(obtain ⟨q1,q2⟩:=Dj (n:=n) (d:=d) (by omega);first|exact JD q1 q2|(refine JD ?_ ?_<;>simp_all))))
  |((try simp only [iO]);(repeat' apply And.intro)<;>first|assumption|exact Xr (by (try simp only [iO]);assumption) (by (try simp only [iO]);assumption))⟩
instance adt(n:Int):DenI Tryz.prog 179 [.int .i64 n] (-9223372036854775808≤n∧n≤9223372036854775807) (R (n:Rat)):=⟨λhp=>by
 refine aB Tryz.func179 rfl ?_
 repeat' ((try (conv=>whnf));first
  |refine aI ?_
  |refine ak ?_ ?_
  |refine Ends.mk ?_)
 all_goals (try refine Pr.mk ?_)
 all_goals first
  |(show aA _=_;rfl)
  |((repeat' apply And.intro)<;>first|assumption|omega|exact Int.mul_ne_zero (aG _) (aG _)|exact aG _|grind [iR,nU,uZ,iO,kQ,mF,o8,lX,oG,rY,ou,jf,pq])⟩
instance ads(a:Rat):DenI Tryz.prog 49 [R a] (True) (.int .i64 (aU a)):=⟨λhp=>by
 refine aB Tryz.func49 rfl ?_
 repeat' ((try (conv=>whnf));first
  |refine aI ?_
  |refine Ends.mk ?_)
 all_goals (try simp only [gu] at *)
 all_goals first
  |(show aA _=_;rfl)⟩
instance aeZ(a:Rat):DenI Tryz.prog 180 [R a] (rz a≤100000000) (R (-a)):=⟨λhp=>by
 refine aB Tryz.func180 rfl ?_
 repeat' ((try (conv=>whnf));first
  |refine ak ?_ ?_
  |refine Drw.mk (by kernel_rfl) ?_
  |refine Ends.mk ?_)
 all_goals (try refine Pr.mk ?_)
 all_goals first
  |(show aA _=_;rfl)
  |((repeat' apply And.intro)<;>first|assumption|omega|exact Int.mul_ne_zero (aG _) (aG _)|exact aG _|grind [iR,nU,uZ,iO,kQ,mF,o8,lX,oG,rY,ou,jf,pq])⟩
instance ael(a b:Rat):DenI Tryz.prog 91 [R a,R b] (rz a≤100000000∧rz b≤100000000) (R (a*b)):=⟨λhp=>by
 refine aB Tryz.func91 rfl ?_
 repeat' ((try (conv=>whnf));first
  |refine ak ?_ ?_
  |refine Drw.mk (by kernel_rfl) ?_
  |refine Ends.mk ?_)
 all_goals (try refine Pr.mk ?_)
 all_goals first
  |(show aA _=_;exact congrArg R (mul_div a b))
  |((repeat' apply And.intro)<;>first|assumption|omega|exact Int.mul_ne_zero (aG _) (aG _)|exact aG _|grind [iR,nU,uZ,iO,kQ,mF,o8,lX,oG,rY,ou,jf,pq])⟩
instance aeG(a b:Rat):DenI Tryz.prog 163 [R a,R b] (rz a≤100000000∧rz b≤100000000) (R (a+b)):=⟨λhp=>by
 refine aB Tryz.func163 rfl ?_
 repeat' ((try (conv=>whnf));first
  |refine aI ?_
  |refine ak ?_ ?_
  |(with_reducible refine au (λ_=>?_) (λ_=>?_))
  |refine Drw.mk (by kernel_rfl) ?_
  |refine Ends.mk ?_)
 all_goals (try refine Pr.mk ?_)
 all_goals (try simp only [gu] at *)
 all_goals first
  |(show aA _=_;first|exact congrArg R (add_div a b)|exact congrArg R (O6 a b (by assumption)))
  |((repeat' apply And.intro)<;>first|assumption|omega|exact Int.mul_ne_zero (aG _) (aG _)|exact aG _|grind [iR,nU,uZ,iO,kQ,mF,o8,lX,oG,rY,ou,jf,pq])⟩
instance aeX(a b:Rat):DenI Tryz.prog 162 [R a,R b] (rz a≤100000000∧rz b≤100000000) (R (a-b)):=⟨λhp=>by
 refine aB Tryz.func162 rfl ?_
 repeat' ((try (conv=>whnf));first
  |refine ak ?_ ?_
  |refine Drw.mk (by kernel_rfl) ?_
  |refine Ends.mk ?_)
 all_goals (try refine Pr.mk ?_)
 all_goals first
  |(show aA _=_;exact congrArg R (Rat.sub_eq_add_neg a b).symm)
  |((repeat' apply And.intro)<;>first|assumption|omega|exact Int.mul_ne_zero (aG _) (aG _)|exact aG _|grind [iR,nU,uZ,iO,kQ,mF,o8,lX,oG,rY,ou,jf,pq])⟩
instance abZ(a:Rat):DenI Tryz.prog 332 [R a] (rz a≤100000000) (Z a.floor):=⟨λhp=>by
 refine aB Tryz.func332 rfl ?_
 repeat' ((try (conv=>whnf));first
  |refine ak ?_ ?_
  |refine Ends.mk ?_)
 all_goals (try refine Pr.mk ?_)
 all_goals first
  |(show aA _=_;exact congrArg Z (EO a))
  |((repeat' apply And.intro)<;>first|assumption|omega|exact Int.mul_ne_zero (aG _) (aG _)|exact aG _|grind [iR,nU,uZ,iO,kQ,mF,o8,lX,oG,rY,ou,jf,pq])⟩
instance ab5:DenI Tryz.prog 81 [] (True) (Z 1):=⟨λhp=>by
 refine aB Tryz.func81 rfl ?_
 repeat' ((try (conv=>whnf));first
  |refine ak ?_ ?_
  |refine Ends.mk ?_)
 all_goals (try refine Pr.mk ?_)
 all_goals first|rfl|decide⟩
instance ace(n:Int):DenI Tryz.prog 42 [.int .i64 n] (-9223372036854775808≤n∧n≤9223372036854775807) (R (n:Rat)):=⟨λhp=>by
 refine aB Tryz.func42 rfl ?_
 repeat' ((try (conv=>whnf));first
  |refine aI ?_
  |refine ak ?_ ?_
  |refine Ends.mk ?_)
 all_goals (try refine Pr.mk ?_)
 all_goals first
  |(show aA _=_;rfl)
  |(exact hp)⟩
instance abq(l h:Int):DenI Tryz.prog 333 [.int .i64 l,.int .i64 h] (True) (Ov (LU l h)):=⟨λhp=>by
 refine aB Tryz.func333 rfl ?_
 repeat' ((try (conv=>whnf));first
  |(with_reducible refine aO ?_)
  |(with_reducible refine aT ?_)
  |(with_reducible refine au (λ_=>?_) (λ_=>?_))
  |refine Ends.mk ?_)
 all_goals first
  |(rw [Jf (by omega) (by omega)];rfl)
  |(rw [Ce (by omega)];rfl)⟩
instance aef(l h:Int):DenI Tryz.prog 305 [Iv l h] (-2305843009213693952≤l∧l≤2305843009213693952∧-2305843009213693952≤h∧h≤2305843009213693952) (Iv (-h) (-l)):=⟨λhp=>by
 refine aB Tryz.func305 rfl ?_
 repeat' ((try (conv=>whnf));first
  |refine Ends.mk ?_)
 rw [bQ (by omega) (by omega),bQ (by omega) (by omega),Int.zero_sub,Int.zero_sub];rfl⟩
instance aeN(n:Int):DenI Tryz.prog 355 [.int .i64 n] (-9223372036854775808≤n∧n≤9223372036854775807) (.int .u64 n.natAbs):=⟨λhp=>by
 refine aB Tryz.func355 rfl ?_
 repeat' ((try (conv=>whnf));first
  |(with_reducible refine au (λ_=>?_) (λ_=>?_))
  |refine Ends.mk ?_)
 all_goals (refine iE ?_;simp only [IntKind.wrap_u64];omega)⟩
instance acy(l h:Int):DenI Tryz.prog 306 [Iv l h] (True) (.tup [.int .i64 (G9 l h).1,.bool (G9 l h).2]):=⟨λhp=>by
 refine aB Tryz.func306 rfl ?_
 repeat' ((try (conv=>whnf));first
  |(with_reducible refine aO ?_)
  |(with_reducible refine aT ?_)
  |(with_reducible refine au (λ_=>?_) (λ_=>?_))
  |refine Drw.mk (by kernel_rfl) ?_
  |refine Ends.mk ?_)
 all_goals (refine ibE ?_ ?_<;>unfold G9<;>(repeat' split)<;>simp_all<;>omega)⟩
instance acf(a b:Nat):DenI Tryz.prog 327 [.int .u64 a,.int .u64 b] (a<18446744073709551616∧b<18446744073709551616) (.tup [.int .u64 (a*b / 18446744073709551616:Nat),.int .u64 (a*b % 18446744073709551616:Nat)]):=⟨λhp=>by
 refine aB Tryz.func327 rfl ?_
 repeat' ((try (conv=>whnf));first
  |refine bH ?_ ?_
  |refine Ends.mk ?_)
 all_goals (try refine Pr.mk ?_)
 all_goals first
  |(show (0:Int)≤_;decide)
  |(simp only [ac5,abO,abo,e32,e16,e48,AU,Xp,OG,wu,← Int.natCast_mul,← Int.natCast_add];obtain ⟨m1,m2,m3,m4,m5⟩:=Lp (a:=a) (b:=b) hp.1 hp.2 rfl rfl rfl rfl;refine iE2 ?_ rfl;rw [← m1];apply congrArg Nat.cast;omega)⟩
instance aa6(x y:Int):DenI Tryz.prog 334 [.int .i64 x,.int .i64 y] ((-9223372036854775808≤x∧x≤9223372036854775807)∧-9223372036854775808≤y∧y≤9223372036854775807) (.tup [.int .i64 (qZ x y).1,.int .i64 (qZ x y).2.1,.bool (qZ x y).2.2]):=⟨λhp=>by
 refine aB Tryz.func334 rfl ?_
 repeat' ((try (conv=>whnf));first
  |refine ak ?_ ?_
  |(with_reducible refine aO ?_)
  |(with_reducible refine aT ?_)
  |(with_reducible refine au (λ_=>?_) (λ_=>?_))
  |(with_reducible refine dn (λ_=>?_) (λ_=>?_))
  |refine OnB.mk (λ_=>?_) (λ_=>?_)
  |refine bH ?_ ?_
  |refine Ends.mk ?_)
 all_goals (try refine Pr.mk ?_)
 all_goals (try simp only [abO,abo,e16,e48,AU,OG] at *)
 all_goals first
  |exact hp.1
  |exact hp.2
  |(show (0:Int)≤_;decide)
  |(constructor<;>omega)
  |(refine Ik ?_;exact XK (by assumption))
  |(rw [abN (by omega)] at *;refine Ik ?_;exact TK (x:=x) (y:=y) (by assumption))
  |(rw [abN (by omega)] at *;have q1:=w1 (q:=((x.natAbs*y.natAbs / 65536:Nat):Int)) (by omega) (by assumption);have q2:=w2 (q:=((x.natAbs*y.natAbs / 65536:Nat):Int)) (by omega) (by assumption);have q3:=w3 (q:=((x.natAbs*y.natAbs / 65536:Nat):Int)) (by omega) (by assumption);have q4:=w4 (q:=((x.natAbs*y.natAbs / 65536:Nat):Int)) (by omega) (by assumption);rename_i g1 g2 g3 g4 hl;(try rw [q1] at hl);(try rw [q2] at hl);(try rw [q3] at hl);(try rw [q4] at hl);(try rw [q1]);(try rw [q2]);(try rw [q3]);(try rw [q4]);clear q1 q2 q3 q4;first|refine JQ (z:=true) g2 g3 g1 (decide_eq_true (by omega)) rfl rfl ?_|refine JQ (z:=false) g2 g3 g1 (decide_eq_false (by omega)) rfl rfl ?_)
 all_goals first|exact decide_eq_decide.2 (by omega)|exact (decide_eq_false (by omega)).symm⟩
instance(k:Nat):DenI Tryz.prog 160 [.bool false,.c (.sl 1 (List.replicate k [Cell.v (.int .u32 0)]++[[Cell.v (.int .u32 1)]]))] True (Z ((1000000000 ^ k:Nat):Int)):=⟨λ_=>by
 have h:=(inferInstance:DenI Tryz.prog 160 [.bool false,.c (aX (List.replicate k 0++[1]))] _ _).den ((lI k).append (Lb.cons (by omega) Lb.nil));rw [H8] at h;unfold aX at h;rw [List.map_append,List.map_replicate] at h
 exact h⟩
instance acU(a:Int):DenI Tryz.prog 366 [Z a] (sz a≤100000000) (.tup [Z (if a<0 then 0 else oV a.natAbs),.int .i64 (if a<0 then 7 else 0)]):=⟨λhp=>by
 refine aB Tryz.func366 rfl ?_
 repeat' ((try (conv=>whnf));first
  |refine aI ?_
  |refine ak ?_ ?_
  |(with_reducible refine au (λ_=>?_) (λ_=>?_))
  |refine bH ?_ ?_
  |refine iD ?_ ?_
  |refine Ends.mk ?_)
 all_goals (try refine Pr.mk ?_)
 all_goals have hl:(lim a.natAbs).length≤100000000:=hp
 all_goals first
  |((conv=>whnf);refine Sw.Loop.inv (α:=Nat) (λx=>[(1,.ptr 1 0),(2,.ptr 2 0),(3,.int .i64 0),(5,.ptr 5 0),(6,.ptr 6 0)]) (λx=>[(1,.var [zs a,zl a]),(2,.var [.v (.bool false),.sl 1 []]),(5,.var [zs x,zl x]),(6,.var [zs 2,zl 2])]) (λx=>0<x∧a.natAbs<(x+1)*(x+1)∧sz x≤200000000) (λx=>x) (1000000000 ^ (((lim a.natAbs).length+1) / 2)) ?_ ?_ ?_ (λx hx=>?_))
  |skip
 all_goals (repeat' ((try (conv=>whnf));first
  |refine aI ?_
  |refine ak ?_ ?_
  |(with_reducible refine au (λ_=>?_) (λ_=>?_))
  |refine Drw.mk (by kernel_rfl) ?_
  |refine Ends.mk ?_))
 all_goals (try refine Pr.mk ?_)
 all_goals first|(show SubE _ _;repeat' (first|exact trivial|refine And.intro ?_ ?_))|(show SubB _ _;repeat' (first|exact trivial|refine And.intro ?_ ?_))|skip
 all_goals (try rfl)
 all_goals (try simp only [gu] at *)
 all_goals (try simp only [List.length_map,aH,vT,vY] at *)
 all_goals (try rw [Pj (by omega)])
 all_goals (try simp only [Int.toNat_natCast,List.length_replicate,List.length_append,List.length_cons,List.length_nil])
 all_goals (try simp only [Pn (show 0≤a by omega),QJ] at *)
 all_goals first
  |exact TG (by assumption)
  |exact N7 (by assumption) (by assumption)
  |with_reducible exact VJ (by assumption) (by assumption) (by assumption)
  |((conv=>whnf);exact ⟨(x+a.natAbs / x) / 2,⟨⟨rfl,rfl,rfl,rfl,rfl,trivial⟩,⟨rfl,rfl,rfl,rfl,trivial⟩,Sv (by assumption) (by assumption) (by assumption),by show (x+a.natAbs / x) / 2<x;omega⟩⟩)
  |exact IV rfl hl
  |(show ld _ _=some _;rfl)
  |(have z1:=@TP a;have z2:=nU;have z3:=pq;have z4:=jf (n:=2) (by omega) (by omega);(repeat' apply And.intro)<;>first|assumption|omega|decide|(simp;done)|(have z5:=z1 (x:=x);have z6:=z2 x ((a.natAbs / x:Nat):Int);omega)|skip)⟩
instance Zj(a:Rat):DenI Tryz.prog 302 [R a] (rz a≤10000000) (Ov (dF a)):=⟨λhp=>by
 refine aB Tryz.func302 rfl ?_
 repeat' ((try (conv=>whnf));first
  |refine aI ?_
  |refine ak ?_ ?_
  |(with_reducible refine aO ?_)
  |(with_reducible refine aT ?_)
  |(with_reducible refine dn (λ_=>?_) (λ_=>?_))
  |refine Drw.mk (by kernel_rfl) ?_
  |refine Ends.mk ?_)
 all_goals (try refine Pr.mk ?_)
 all_goals first
  |exact Xn (abJ (by assumption))
  |exact Xn (aal (by assumption))
  |(rename_i g1 g2;rw [if_pos g1,if_pos g2];rfl)
  |(have z1:=lX a ((65536:Int):Rat);have z2:=acR;have z3:=oG (a*((65536:Int):Rat));have z4:=PD (-(a*((65536:Int):Rat)));omega)⟩
instance f_add(a b c d:Int):DenI Tryz.prog 304 [Iv a b,Iv c d] (-2305843009213693952≤a∧a≤2305843009213693952∧-2305843009213693952≤b∧b≤2305843009213693952∧-2305843009213693952≤c∧c≤2305843009213693952∧-2305843009213693952≤d∧d≤2305843009213693952) (Ov (rP (a,b) (c,d))):=⟨λhp=>by
 refine aB Tryz.func304 rfl ?_
 repeat' ((try (conv=>whnf));first
  |refine aI ?_
  |refine Ends.mk ?_)
 rw [bQ (by omega) (by omega),bQ (by omega) (by omega)];rfl⟩
instance acG(n:Int):DenI Tryz.prog 356 [.int .i64 n] (0≤n∧n≤2305843009213693952) (.tup [.int .i64 (rt n),.bool (decide (rt n*rt n=n*65536))]):=⟨λhp=>by
 refine aB Tryz.func356 rfl ?_
 repeat' ((try (conv=>whnf));first
  |refine aI ?_
  |refine ak ?_ ?_
  |refine Drw.mk (by kernel_rfl) ?_
  |refine Ends.mk ?_)
 all_goals (try refine Pr.mk ?_)
 all_goals (have hn:=O7 hp.1 hp.2;have h0:0=0:=rfl)
 all_goals (try simp only [aak,FN])
 all_goals first
  |exact ibE (if_pos (show -9223372036854775808≤rt n∧rt n≤9223372036854775807 by omega)) rfl
  |omega
  |(have z1:=iR n 65536;have z2:=szl n (by omega) (by omega);have z3:=szl 65536 (by omega) (by omega);have z4:=szl (rt n) (by omega) (by omega);omega)⟩
instance adR(l h:Int):DenI Tryz.prog 335 [Iv l h] (l≤h∧-2305843009213693952≤l∧l≤2305843009213693952∧-2305843009213693952≤h∧h≤2305843009213693952) (Ov (kX (l,h))):=⟨λhp=>by
 refine aB Tryz.func335 rfl ?_
 repeat' ((try (conv=>whnf));first
  |refine aI ?_
  |refine ak ?_ ?_
  |(with_reducible refine au (λ_=>?_) (λ_=>?_))
  |(with_reducible refine dn (λ_=>?_) (λ_=>?_))
  |refine Ends.mk ?_)
 all_goals (try refine Pr.mk ?_)
 all_goals (try rw [VH] at *)
 all_goals first
  |exact Xn (if_pos (by assumption))
  |exact Z8 (by assumption) (by assumption)
  |(have hn:=O7 (n:=h) (by omega) (by omega);rw [bQ (by omega) (by omega)];exact ZH (by assumption) (by assumption))
  |(constructor<;>omega)⟩
instance aek(a b c d:Int):DenI Tryz.prog 303 [Iv a b,Iv c d] (-2305843009213693952≤a∧a≤2305843009213693952∧-2305843009213693952≤b∧b≤2305843009213693952∧-2305843009213693952≤c∧c≤2305843009213693952∧-2305843009213693952≤d∧d≤2305843009213693952) (Ov (pX (a,b) (c,d))):=⟨λhp=>by
 refine aB Tryz.func303 rfl ?_
 all_goals (repeat' ((try rw [KN]);(try rw [GX]);(try (conv=>whnf));first
  |refine ak ?_ ?_
  |refine VF rfl ?_
  |refine Eb rfl ?_
  |refine OnB.mk (λ_=>?_) (λ_=>?_)
  |(with_reducible refine dA ?_)
  |(with_reducible refine dN ?_)
  |refine Sw.Loop.unroll ?_
  |refine Ends.mk ?_))
 all_goals (try refine Pr.mk ?_)
 all_goals (try simp only [Oj,P7])
 all_goals first
  |exact Xn (tZ (.inl rfl) (.inl rfl) (by with_reducible assumption))
  |exact Xn (tZ (.inl rfl) (.inr rfl) (by with_reducible assumption))
  |exact Xn (tZ (.inr rfl) (.inl rfl) (by with_reducible assumption))
  |exact Xn (tZ (.inr rfl) (.inr rfl) (by with_reducible assumption))
  |(rename_i g1 g2 g3 g4;exact OA g1 g2 g3 g4)
  |(constructor<;>constructor<;>omega)⟩
instance ab3(a b c:Rat):DenI Tryz.prog 307 [Q3 a b c] (rz a≤100000∧rz b≤100000∧rz c≤100000) (Ov (lF a b c)):=⟨λhp=>by
 refine aB Tryz.func307 rfl ?_
 repeat' ((try (conv=>whnf));first
  |refine aI ?_
  |refine ak ?_ ?_
  |(with_reducible refine aO ?_)
  |(with_reducible refine aT ?_)
  |(with_reducible refine au (λ_=>?_) (λ_=>?_))
  |refine OnB.mk (λ_=>?_) (λ_=>?_)
  |refine Ends.mk ?_)
 all_goals (try refine Pr.mk ?_)
 all_goals (try simp only [Prod.eta] at *)
 all_goals first
  |omega
  |(have z1:=iL a;have z2:=iL b;have z3:=iL c;have z4:=OW z3;have z5:=xK ((dF b).getD (0,0)) ((kX ((dF c).getD (0,0))).getD (0,0));unfold CZ at *;omega)
  |refine aaS ?_
  |(show Ov (dF a)=_;refine congrArg Ov ?_)
  |(show Ov (rP _ _)=_;refine congrArg Ov ?_)
 all_goals (unfold lF;(try simp only [FI,gq] at *);rcases h1:dF a with _|x<;>rcases h2:dF b with _|y<;>rcases h3:dF c with _|z<;>simp_all)
 all_goals (rcases h4:kX z with _|s<;>simp_all)
 all_goals (rcases h5:pX y s with _|p<;>simp_all)⟩
end Go.Proofs.YtmniihkenijjpaaGreatDoor
