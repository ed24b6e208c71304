/-
  Rules of the abstract run, plain laws, and what functions answer, for the law RepairJoins.
  Conditions: none.
-/
import Derived.Test.YtmniihkenijjpaaGreatDoorX13
set_option linter.all false
namespace Go.Proofs.YtmniihkenijjpaaGreatDoor
open Go Go.RowKit Go.Sw
set_option maxRecDepth 100000
set_option maxHeartbeats 8000000
instance aiA(m n:Int):DenI Tryz.prog 88 [.int .i64 m,.int .i64 n] ((-9223372036854775808≤m∧m≤9223372036854775807)∧-9223372036854775808≤n∧n≤9223372036854775807) (Q2 (m:Rat) (n:Rat)):=⟨λhp=>by
 refine aC Tryz.func88 rfl ?_
 all_goals(repeat'((try(conv=>whnf));first
  |refine aj ?_ ?_|refine Ends.mk ?_))
 all_goals(try refine Pr.mk ?_)
 all_goals first
  |rfl|omega⟩
instance agZ(a b c d:Rat):DenI Tryz.prog 27 [Q2 a b,Q2 c d] (rz a≤4000000∧rz b≤4000000∧rz c≤4000000∧rz d≤4000000) (.bool (decide (a=c) && decide (b=d))):=⟨λhp=>by
 have i_a:RzB a 4000000:=⟨hp.1⟩
 have i_b:RzB b 4000000:=⟨hp.2.1⟩
 have i_c:RzB c 4000000:=⟨hp.2.2.1⟩
 have i_d:RzB d 4000000:=⟨hp.2.2.2⟩
 all_goals refine aC Tryz.func27 rfl ?_
 all_goals(repeat'((try(conv=>whnf));first
  |refine aj ?_ ?_|(with_reducible first|refine aQ ?_|refine aP ?_|refine au (λ_=>?_) (λ_=>?_))|refine Ends.mk ?_))
 all_goals(try refine Pr.mk ?_)
 all_goals first
  |(simp only[ac4,abj,mkA,mkB,mkC,ae1,ptC, *,true_or,or_true,if_true,if_false,or_self,and_self,and_true,true_and,and_false,false_and,not_true,not_false_iff,Lc,decide_true,decide_false,Bool.or_true,Bool.true_or,Bool.or_false,Xp];rfl)|((repeat' apply And.intro)<;>first|assumption|exact xI (by omega)|exact zf (by omega)|exact uD (aJ _) (aJ _))⟩
end Go.Proofs.YtmniihkenijjpaaGreatDoor
namespace Go.Proofs.YtmniihkenijjpaaGreatDoor
open Go Go.RowKit Go.Sw
set_option maxRecDepth 100000
set_option maxHeartbeats 8000000
set_option synthInstance.maxSize 4000
set_option synthInstance.maxHeartbeats 400000
instance ais(a b:Rat):DenI Tryz.prog 206 [R a,R b] (rz a≤4000000∧rz b≤4000000) (R (a+b)):=⟨λhp=>by
 have i_a:RzB a 4000000:=⟨hp.1⟩
 have i_b:RzB b 4000000:=⟨hp.2⟩
 all_goals refine aC Tryz.func206 rfl ?_
 all_goals(repeat'((try(conv=>whnf));first
  |refine aj ?_ ?_|refine Ends.mk ?_))
 all_goals(try refine Pr.mk ?_)
 all_goals first
  |rfl|((repeat' apply And.intro)<;>first|assumption|exact xI (by omega)|exact zf (by omega)|exact uD (aJ _) (aJ _))⟩
instance aiQ(a b:Rat):DenI Tryz.prog 203 [R a,R b] (rz a≤4000000∧rz b≤4000000) (R (a-b)):=⟨λhp=>by
 have i_a:RzB a 4000000:=⟨hp.1⟩
 have i_b:RzB b 4000000:=⟨hp.2⟩
 all_goals refine aC Tryz.func203 rfl ?_
 all_goals(repeat'((try(conv=>whnf));first
  |refine aj ?_ ?_|refine Ends.mk ?_))
 all_goals(try refine Pr.mk ?_)
 all_goals first
  |rfl|((repeat' apply And.intro)<;>first|assumption|exact xI (by omega)|exact zf (by omega)|exact uD (aJ _) (aJ _))⟩
instance aiR(a b:Rat):DenI Tryz.prog 204 [R a,R b] (rz a≤4000000∧rz b≤4000000) (R (a*b)):=⟨λhp=>by
 have i_a:RzB a 4000000:=⟨hp.1⟩
 have i_b:RzB b 4000000:=⟨hp.2⟩
 all_goals refine aC Tryz.func204 rfl ?_
 all_goals(repeat'((try(conv=>whnf));first
  |refine aj ?_ ?_|refine Ends.mk ?_))
 all_goals(try refine Pr.mk ?_)
 all_goals first
  |rfl|((repeat' apply And.intro)<;>first|assumption|exact xI (by omega)|exact zf (by omega)|exact uD (aJ _) (aJ _))⟩
instance agw(a b:Rat):DenI Tryz.prog 207 [R a,R b] (rz a≤4000000∧rz b≤4000000) (R (a / b)):=⟨λhp=>by
 have i_a:RzB a 4000000:=⟨hp.1⟩
 have i_b:RzB b 4000000:=⟨hp.2⟩
 all_goals refine aC Tryz.func207 rfl ?_
 all_goals(repeat'((try(conv=>whnf));first
  |refine aj ?_ ?_|refine kH ?_ (λ_=>?_) (λ_=>?_)|(with_reducible refine cZ (λ_=>?_) (λ_=>?_))|refine Ends.mk ?_))
 all_goals(try refine Pr.mk ?_)
 all_goals(try simp only[iD]at *)
 all_goals first
  |rfl|(subst b;exact congrArg R (aeL a))|omega|(exfalso;simp at *;done)⟩
instance ahp(a:Rat):DenI Tryz.prog 205 [R a] (rz a≤4000000) (.bool (decide (a=0))):=⟨λhp=>by
 have i_a:RzB a 4000000:=⟨hp⟩
 all_goals refine aC Tryz.func205 rfl ?_
 all_goals(repeat'((try(conv=>whnf));first
  |refine aG ?_|refine Ends.mk ?_))
 all_goals(try simp only[iD]at *)
 all_goals first
  |rfl⟩
instance agp(a b c d e f:Rat):DenC Tryz.prog 165 [Q2 a b,Q2 c d,Q2 e f] (rz a≤200∧rz b≤200∧rz c≤200∧rz d≤200∧rz e≤200∧rz f≤200) (((c-a)*(f-b)-(d-b)*(e-a))=0) (.tup [ZQ3,.int .i64 6]) (.tup [Q3 (a+((((c-a)*(c-a)+(d-b)*(d-b))*(f-b)-((e-a)*(e-a)+(f-b)*(f-b))*(d-b)) / (((c-a)*(f-b)-(d-b)*(e-a))+((c-a)*(f-b)-(d-b)*(e-a))))) (b+((((e-a)*(e-a)+(f-b)*(f-b))*(c-a)-((c-a)*(c-a)+(d-b)*(d-b))*(e-a)) / (((c-a)*(f-b)-(d-b)*(e-a))+((c-a)*(f-b)-(d-b)*(e-a))))) (((((c-a)*(c-a)+(d-b)*(d-b))*(f-b)-((e-a)*(e-a)+(f-b)*(f-b))*(d-b)) / (((c-a)*(f-b)-(d-b)*(e-a))+((c-a)*(f-b)-(d-b)*(e-a))))*((((c-a)*(c-a)+(d-b)*(d-b))*(f-b)-((e-a)*(e-a)+(f-b)*(f-b))*(d-b)) / (((c-a)*(f-b)-(d-b)*(e-a))+((c-a)*(f-b)-(d-b)*(e-a))))+((((e-a)*(e-a)+(f-b)*(f-b))*(c-a)-((c-a)*(c-a)+(d-b)*(d-b))*(e-a)) / (((c-a)*(f-b)-(d-b)*(e-a))+((c-a)*(f-b)-(d-b)*(e-a))))*((((e-a)*(e-a)+(f-b)*(f-b))*(c-a)-((c-a)*(c-a)+(d-b)*(d-b))*(e-a)) / (((c-a)*(f-b)-(d-b)*(e-a))+((c-a)*(f-b)-(d-b)*(e-a))))),.int .i64 0]):=⟨Yf λhp q e1 e2=>by
 have i_a:RzB a 200:=⟨hp.1⟩
 have i_b:RzB b 200:=⟨hp.2.1⟩
 have i_c:RzB c 200:=⟨hp.2.2.1⟩
 have i_d:RzB d 200:=⟨hp.2.2.2.1⟩
 have i_e:RzB e 200:=⟨hp.2.2.2.2.1⟩
 have i_f:RzB f 200:=⟨hp.2.2.2.2.2⟩
 all_goals refine aC Tryz.func165 rfl ?_
 all_goals(repeat'((try(conv=>whnf));first
  |refine aj ?_ ?_|(with_reducible refine au (λ_=>?_) (λ_=>?_))|refine Drw.mk (by kernel_rfl) ?_|refine Ends.mk ?_))
 all_goals(try refine Pr.mk ?_)
 all_goals first
  |(rw[e1 (by assumption)];rfl)|(rw[e2 (by assumption)];rfl)|((repeat' apply And.intro)<;>first|assumption|exact xI (by omega)|exact zf (by omega)|exact uD (aJ _) (aJ _))⟩
end Go.Proofs.YtmniihkenijjpaaGreatDoor
namespace Go.Proofs.YtmniihkenijjpaaGreatDoor
open Go Go.RowKit Go.Sw
set_option maxRecDepth 100000
set_option maxHeartbeats 8000000
instance agi(neg:Bool)(l:List Nat):DenI Tryz.prog 221 [Zr neg l] (l.length≤9223372036854775807) (.bool (gV neg l)):=⟨λhp=>by
 refine aC Tryz.func221 rfl ?_
 all_goals first
  |((conv=>whnf);refine Sw.Loop.inv (α:=Nat) (λx=>[(1,.ptr 1 0),(2,.bool false),(7,.c (aV l)),(8,.int .i64 (l.length:Nat)),(9,.int .i64 x)]) (λx=>[(1,.var [.v (.bool neg),aV l])]) (λx=>x≤l.length∧∀j,j<x→l.getD j 0<1000000000) (λx=>l.length-x) 0 ?_ ?_ ?_ (λx hx=>?_))
 all_goals(repeat'((try(conv=>whnf));first
  |(with_reducible first|refine au (λ_=>?_) (λ_=>?_)|refine bZ ?_ ?_)|refine Ends.mk ?_))
 all_goals(try refine Pr.mk ?_)
 all_goals first|(show SubE _ _;repeat'(first|exact trivial|refine And.intro ?_ ?_))|(show SubB _ _;repeat'(first|exact trivial|refine And.intro ?_ ?_))|skip
 all_goals(try rfl)
 all_goals(try simp only[aZ,gU]at *)
 all_goals first
  |exact bE (Ua (x:=x) (by omega) (by assumption))|((conv=>whnf);exact⟨x+1,⟨⟨rfl,rfl,rfl,rfl,bQ (by omega),trivial⟩,⟨rfl,trivial⟩,⟨by omega,λj hj=>by rcases Nat.lt_succ_iff_lt_or_eq.1 hj with h|h;exact hx.2 j h;subst h;omega⟩,by show l.length-(x+1)<l.length-x;omega⟩⟩)|omega|exact⟨by omega,λj hj=>by omega⟩|rfl|(rw[bP (by omega) (by omega)];omega)|(have w:(IntKind.i64.wrap ((l.length:Int)-1)).toNat=l.length-1:=(by rw[bP (by omega) (by omega)];omega);rw[w];exact bE (ND (CG λj hj=>hx.2 j (by omega)) (by omega)))|exact bE (LY (by omega))⟩
instance aja(n1:Bool)(l1:List Nat)(n2:Bool)(l2:List Nat):DenI Tryz.prog 178 [Rr n1 l1 n2 l2] (l1.length≤1000000000∧l2.length≤1000000000) (.bool (jv n1 l1 n2 l2)):=⟨λhp=>by
 rcases zA n1 l1 n2 l2 with h|⟨x,rfl,rfl,h⟩|⟨x,y,rfl,rfl,rfl,rfl⟩
 all_goals refine aC Tryz.func178 rfl ?_
 all_goals(repeat'((try(conv=>whnf));first
  |refine aG ?_|refine aj ?_ ?_|(with_reducible first|refine aQ ?_|refine aP ?_|refine au (λ_=>?_) (λ_=>?_))|refine OnB.mk (λ_=>?_) (λ_=>?_)|refine Ends.mk ?_))
 all_goals(try refine Pr.mk ?_)
 all_goals(try simp only[iD]at *)
 all_goals first
  |(simp only[qQ]at *;exfalso;simp_all;done)|(exfalso;simp_all;done)|exact bE (agV (x:=x) (y:=y) (by omega))|exact bE (agN (x:=x) (y:=y) (by omega))|exact bE (by unfold jv;simp_all)|exact hp|(first|exact dh hp.1 (by decide)|exact dh hp.2 (by decide))⟩
end Go.Proofs.YtmniihkenijjpaaGreatDoor
namespace Go.Proofs.YtmniihkenijjpaaGreatDoor
open Go Go.RowKit Go.Sw
set_option maxRecDepth 100000
set_option maxHeartbeats 8000000
set_option synthInstance.maxSize 4000
set_option synthInstance.maxHeartbeats 400000
instance aga(a b c:Rat):DenI Tryz.prog 269 [R a,R b,R c] (rz a≤1000000∧rz b≤1000000∧rz c≤1000000) (.int .i64 (rD a b c)):=⟨λhp=>by
 have i_a:RzB a 1000000:=⟨hp.1⟩
 have i_b:RzB b 1000000:=⟨hp.2.1⟩
 have i_c:RzB c 1000000:=⟨hp.2.2⟩
 all_goals refine aC Tryz.func269 rfl ?_
 all_goals(repeat'((try(conv=>whnf));first
  |refine aG ?_|refine aj ?_ ?_|(with_reducible first|refine aQ ?_|refine aP ?_|refine au (λ_=>?_) (λ_=>?_))|refine Drw.mk (by kernel_rfl) ?_|refine Ends.mk ?_))
 all_goals(try refine Pr.mk ?_)
 all_goals(try simp only[iD]at *)
 all_goals(try simp only[aho,ahh]at *)
 all_goals first
  |with_reducible exact agq (by assumption)|with_reducible exact agT (by assumption)|with_reducible exact ahk (by assumption) (by assumption) (by assumption)|with_reducible exact agK (by assumption) (by assumption) (by assumption)|((repeat' apply And.intro)<;>first|assumption|exact xI (by omega)|exact zf (by omega)|exact uD (aJ _) (aJ _))⟩
instance afX(a b c f:Rat):DenI Tryz.prog 301 [R a,R b,R c,R f] (rz a≤40000∧rz b≤40000∧rz c≤40000∧rz f≤40000) (Ov (gJ a b c f)):=⟨λhp=>by
 have i_a:RzB a 40000:=⟨hp.1⟩
 have i_b:RzB b 40000:=⟨hp.2.1⟩
 have i_c:RzB c 40000:=⟨hp.2.2.1⟩
 have i_f:RzB f 40000:=⟨hp.2.2.2⟩
 all_goals refine aC Tryz.func301 rfl ?_
 all_goals(repeat'((try(conv=>whnf));first
  |refine aj ?_ ?_|(with_reducible first|refine aQ ?_|refine aP ?_)|refine OnB.mk (λ_=>?_) (λ_=>?_)|refine Drw.mk (by kernel_rfl) ?_|refine Ends.mk ?_))
 all_goals(try refine Pr.mk ?_)
 all_goals(try simp only[Prod.eta]at *)
 all_goals first
  |omega|(have z1:=J9 a b c;have z2:=jH f;unfold Gw at *;omega)|(refine ae4 (Y2 ?_);first|exact .inl (by assumption)|exact .inr (by assumption))|(refine zF ?_ (congrArg Ov (acN (by assumption) (by assumption)));rfl)⟩
instance afh(X Y Q ax bx ay bb c:Rat):DenI Tryz.prog 268 [Q3 X Y Q,Q5 ax bx ay bb c] (rz X≤40000∧rz Y≤40000∧rz Q≤40000∧rz ax≤40000∧rz bx≤40000∧rz ay≤40000∧rz bb≤40000∧rz c≤40000) (.tup [.int .i64 (kE ax bx ay bb c X Y Q).1,.bool (kE ax bx ay bb c X Y Q).2]):=⟨λhp=>by
 have i_X:RzB X 40000:=⟨hp.1⟩
 have i_Y:RzB Y 40000:=⟨hp.2.1⟩
 have i_Q:RzB Q 40000:=⟨hp.2.2.1⟩
 have i_ax:RzB ax 40000:=⟨hp.2.2.2.1⟩
 have i_bx:RzB bx 40000:=⟨hp.2.2.2.2.1⟩
 have i_ay:RzB ay 40000:=⟨hp.2.2.2.2.2.1⟩
 have i_bb:RzB bb 40000:=⟨hp.2.2.2.2.2.2.1⟩
 have i_c:RzB c 40000:=⟨hp.2.2.2.2.2.2.2⟩
 all_goals refine aC Tryz.func268 rfl ?_
 all_goals(repeat'((try(conv=>whnf));first
  |refine aG ?_|refine aj ?_ ?_|(with_reducible first|refine aQ ?_|refine aP ?_)|refine OnB.mk (λ_=>?_) (λ_=>?_)|refine Drw.mk (by kernel_rfl) ?_|refine Ends.mk ?_))
 all_goals(try refine Pr.mk ?_)
 all_goals(try simp only[Prod.eta]at *)
 all_goals first
  |omega|(have z1:=J7 ax bx c X;have z2:=J7 ay bb c Y;have z3:=jH Q;unfold Gw at *;omega)|(have z1:=Ar ((gJ ax bx c X).getD (0,0)) ((gJ ax bx c X).getD (0,0));have z2:=Ar ((gJ ay bb c Y).getD (0,0)) ((gJ ay bb c Y).getD (0,0));have z3:=jH Q;have z4:=Ho z1 z2;unfold Gw at *;omega)|(refine ahR (ahw ?_);first|exact .inl (by assumption)|exact .inr (.inl (by assumption))|exact .inr (.inr (by assumption)))|(rw[adN (ax:=ax) (bx:=bx) (ay:=ay) (bb:=bb) (c:=c) (X:=X) (Y:=Y) (Q:=Q) (by assumption) (by assumption) (by assumption) rfl rfl rfl];generalize(gJ ax bx c X).getD (0,0)=u at *;generalize(gJ ay bb c Y).getD (0,0)=v at *;generalize(dS Q).getD (0,0)=w at *;rcases k1:sH u u with _|s<;>rcases k2:sH v v with _|t<;>first|rfl|(exfalso;simp_all;done)|(simp only[k1,k2,Eo,Option.isSome_some]at *;rcases k3:vK s t with _|m<;>first|rfl|(exfalso;simp_all;done)|(simp only[k3,Eo,Option.isSome_some]at *;rcases k4:vK m (-w.2,-w.1)with _|r<;>first|rfl|(exfalso;simp_all;done))))⟩
instance adM(X Y Q ax bx ay bb c:Rat):DenI Tryz.prog 238 [Q3 X Y Q,Q5 ax bx ay bb c] (rz X≤7000∧rz Y≤7000∧rz Q≤27000∧rz ax≤12∧rz bx≤12∧rz ay≤12∧rz bb≤12∧rz c≤12) (.int .i64 (-(rD ((ax-X)*(ax-X)+(ay-Y)*(ay-Y)+c*(bx*bx+bb*bb)-Q) ((ax-X)*bx+(ay-Y)*bb+((ax-X)*bx+(ay-Y)*bb)) c))):=⟨λhp=>by
 obtain⟨q0,q1,q2,q3,q4,q5,q6,q7⟩:=hp;have i_X:RzB X 7000:=⟨q0⟩
 have i_Y:RzB Y 7000:=⟨q1⟩
 have i_Q:RzB Q 27000:=⟨q2⟩
 have i_ax:RzB ax 12:=⟨q3⟩
 have i_bx:RzB bx 12:=⟨q4⟩
 have i_ay:RzB ay 12:=⟨q5⟩
 have i_bb:RzB bb 12:=⟨q6⟩
 have i_c:RzB c 12:=⟨q7⟩
 all_goals refine aC Tryz.func238 rfl ?_
 all_goals(repeat'((try(conv=>whnf));first
  |refine aj ?_ ?_|refine OnB.mk (λ_=>?_) (λ_=>?_)|refine Drw.mk (by kernel_rfl) ?_|refine Ends.mk ?_))
 all_goals(try refine Pr.mk ?_)
 all_goals first
  |(exact aei (by assumption) (YG (by assumption)) (Gp _ _ _).1 (Gp _ _ _).2)|(refine aeu ?_;rfl)|((repeat' apply And.intro)<;>first|assumption|exact xI (by omega)|exact zf (by omega)|exact uD (aJ _) (aJ _))⟩
instance aii(X Y Q x y:Rat):DenI Tryz.prog 238 [Q3 X Y Q,Q5 x 0 y 0 0] (rz X≤7000∧rz Y≤7000∧rz Q≤27000∧rz x≤12∧rz y≤12) (.int .i64 (-(bG ((x-X)*(x-X)+(y-Y)*(y-Y)-Q)))):=⟨λ⟨h1,h2,h3,h4,h5⟩=>by
 have h:=(adM X Y Q x 0 y 0 0).den ⟨h1,h2,h3,h4,by decide +kernel,h5,by decide +kernel,by decide +kernel⟩;rw[abp,show(x-X)*(x-X)+(y-Y)*(y-Y)+0*(0*0+0*0)-Q=(x-X)*(x-X)+(y-Y)*(y-Y)-Q by grind]at h
 exact h⟩
@[reducible] def DN(X Y Q:Rat)(cw:Bool)(a b e f:Rat):List Cell:=[.v (.bool true),zs (0:Rat).num,zl (0:Rat).num,zs (0:Rat).den,zl (0:Rat).den,zs (0:Rat).num,zl (0:Rat).num,zs (0:Rat).den,zl (0:Rat).den,zs (0:Rat).num,zl (0:Rat).num,zs (0:Rat).den,zl (0:Rat).den,zs X.num,zl X.num,zs X.den,zl X.den,zs Y.num,zl Y.num,zs Y.den,zl Y.den,zs Q.num,zl Q.num,zs Q.den,zl Q.den,.v (.bool cw),zs a.num,zl a.num,zs a.den,zl a.den,zs (0:Rat).num,zl (0:Rat).num,zs (0:Rat).den,zl (0:Rat).den,zs b.num,zl b.num,zs b.den,zl b.den,zs (0:Rat).num,zl (0:Rat).num,zs (0:Rat).den,zl (0:Rat).den,zs (0:Rat).num,zl (0:Rat).num,zs (0:Rat).den,zl (0:Rat).den,zs e.num,zl e.num,zs e.den,zl e.den,zs (0:Rat).num,zl (0:Rat).num,zs (0:Rat).den,zl (0:Rat).den,zs f.num,zl f.num,zs f.den,zl f.den,zs (0:Rat).num,zl (0:Rat).num,zs (0:Rat).den,zl (0:Rat).den,zs (0:Rat).num,zl (0:Rat).num,zs (0:Rat).den,zl (0:Rat).den]
instance aiW:DenI Tryz.prog 367 [] (True) (R 0):=⟨λhp=>by
 refine aC Tryz.func367 rfl ?_
 all_goals(repeat'((try(conv=>whnf));first
  |refine aj ?_ ?_|refine Ends.mk ?_))
 all_goals(try refine Pr.mk ?_)
 all_goals first
  |rfl|omega⟩
instance ahI(a:Rat):DenI Tryz.prog 358 [R a] (rz a≤4000000) (Q3 a 0 0):=⟨λhp=>by
 have i_a:RzB a 4000000:=⟨hp⟩
 all_goals refine aC Tryz.func358 rfl ?_
 all_goals(repeat'((try(conv=>whnf));first
  |refine aG ?_|refine Drw.mk (by kernel_rfl) ?_|refine Ends.mk ?_))
 all_goals first
  |rfl⟩
instance ai6:DenI Tryz.prog 208 [] (True) (R 0):=⟨λhp=>by
 refine aC Tryz.func208 rfl ?_
 all_goals(repeat'((try(conv=>whnf));first
  |refine aj ?_ ?_|refine Ends.mk ?_))
 all_goals(try refine Pr.mk ?_)
 all_goals first
  |rfl|omega⟩
instance ai4(a b:Rat):DenI Tryz.prog 167 [Q2 a b] (rz a≤4000000∧rz b≤4000000) (Q5 a 0 b 0 0):=⟨λhp=>by
 have i_a:RzB a 4000000:=⟨hp.1⟩
 have i_b:RzB b 4000000:=⟨hp.2⟩
 all_goals refine aC Tryz.func167 rfl ?_
 all_goals(repeat'((try(conv=>whnf));first
  |refine aG ?_|refine Drw.mk (by kernel_rfl) ?_|refine Ends.mk ?_))
 all_goals first
  |rfl⟩
instance aik(a:Rat):DenI Tryz.prog 313 [R a,R 0,R 0] (rz a≤4000000) (Q3 a 0 0):=⟨λhp=>by
 have i_a:RzB a 4000000:=⟨hp⟩
 all_goals refine aC Tryz.func313 rfl ?_
 all_goals(repeat'((try(conv=>whnf));first
  |refine aG ?_|(with_reducible refine au (λ_=>?_) (λ_=>?_))|refine Ends.mk ?_))
 all_goals(try simp only[iD]at *)
 all_goals first
  |rfl⟩
instance q_x(a d:Rat):DenI Tryz.prog 272 [Q5 a 0 d 0 0] (rz a≤4000000∧rz d≤4000000) (Q3 a 0 0):=⟨λhp=>by
 have i_a:RzB a 4000000:=⟨hp.1⟩
 have i_d:RzB d 4000000:=⟨hp.2⟩
 all_goals refine aC Tryz.func272 rfl ?_
 all_goals(repeat'((try(conv=>whnf));first
  |refine aj ?_ ?_|refine Ends.mk ?_))
 all_goals(try refine Pr.mk ?_)
 all_goals first
  |rfl|((repeat' apply And.intro)<;>first|assumption|exact xI (by omega)|exact zf (by omega)|exact uD (aJ _) (aJ _))⟩
instance q_y(a d:Rat):DenI Tryz.prog 273 [Q5 a 0 d 0 0] (rz a≤4000000∧rz d≤4000000) (Q3 d 0 0):=⟨λhp=>by
 have i_a:RzB a 4000000:=⟨hp.1⟩
 have i_d:RzB d 4000000:=⟨hp.2⟩
 all_goals refine aC Tryz.func273 rfl ?_
 all_goals(repeat'((try(conv=>whnf));first
  |refine aj ?_ ?_|refine Ends.mk ?_))
 all_goals(try refine Pr.mk ?_)
 all_goals first
  |rfl|((repeat' apply And.intro)<;>first|assumption|exact xI (by omega)|exact zf (by omega)|exact uD (aJ _) (aJ _))⟩
instance aia(a d:Rat):DenI Tryz.prog 271 [Q3 a 0 0,Q3 d 0 0] (rz a≤4000000∧rz d≤4000000) (.int .i64 (iV a d)):=⟨λhp=>by
 have i_a:RzB a 4000000:=⟨hp.1⟩
 have i_d:RzB d 4000000:=⟨hp.2⟩
 all_goals refine aC Tryz.func271 rfl ?_
 all_goals(repeat'((try(conv=>whnf));first
  |refine aG ?_|refine aj ?_ ?_|(with_reducible first|refine aQ ?_|refine aP ?_|refine au (λ_=>?_) (λ_=>?_))|refine Ends.mk ?_))
 all_goals(try refine Pr.mk ?_)
 all_goals(try simp only[iD]at *)
 all_goals first
  |rfl|((repeat' apply And.intro)<;>first|assumption|exact xI (by omega)|exact zf (by omega)|exact uD (aJ _) (aJ _))|(exfalso;simp_all;done)⟩
instance agM(a d:Rat):DenI Tryz.prog 339 [Q3 a 0 0,R d] (rz a≤4000000∧rz d≤4000000) (.int .i64 (iV a d)):=⟨λhp=>by
 have i_a:RzB a 4000000:=⟨hp.1⟩
 have i_d:RzB d 4000000:=⟨hp.2⟩
 all_goals refine aC Tryz.func339 rfl ?_
 all_goals(repeat'((try(conv=>whnf));first
  |refine aj ?_ ?_|refine Drw.mk (by kernel_rfl) ?_|refine Ends.mk ?_))
 all_goals(try refine Pr.mk ?_)
 all_goals first
  |rfl|((repeat' apply And.intro)<;>first|assumption|exact xI (by omega)|exact zf (by omega)|exact uD (aJ _) (aJ _))⟩
instance agH(X Y Q x y:Rat):DenI Tryz.prog 314 [Q3 X Y Q,Q5 x 0 y 0 0] (rz X≤1000000∧rz Y≤1000000∧rz Q≤1000000∧rz x≤1000000∧rz y≤1000000) (.int .i64 (hf (X,Y) (x,y))):=⟨λhp=>by
 have i_X:RzB X 1000000:=⟨hp.1⟩
 have i_Y:RzB Y 1000000:=⟨hp.2.1⟩
 have i_Q:RzB Q 1000000:=⟨hp.2.2.1⟩
 have i_x:RzB x 1000000:=⟨hp.2.2.2.1⟩
 have i_y:RzB y 1000000:=⟨hp.2.2.2.2⟩
 all_goals refine aC Tryz.func314 rfl ?_
 all_goals(repeat'((try(conv=>whnf));first
  |refine aj ?_ ?_|(with_reducible first|refine aQ ?_|refine aP ?_|refine au (λ_=>?_) (λ_=>?_))|refine Drw.mk (by kernel_rfl) ?_|refine Ends.mk ?_))
 all_goals(try refine Pr.mk ?_)
 all_goals(try simp only[iD]at *)
 all_goals first
  |(refine iE ?_;unfold hf;grind)|((repeat' apply And.intro)<;>first|assumption|exact xI (by omega)|exact zf (by omega)|exact uD (aJ _) (aJ _))⟩
instance ahH(X Y Q x y u v:Rat):DenI Tryz.prog 277 [Q3 X Y Q,Q5 x 0 y 0 0,Q5 u 0 v 0 0] (rz X≤1000000∧rz Y≤1000000∧rz Q≤1000000∧rz x≤1000000∧rz y≤1000000∧rz u≤1000000∧rz v≤1000000) (.int .i64 (fC (X,Y) (x,y) (u,v))):=⟨λhp=>by
 have i_X:RzB X 1000000:=⟨hp.1⟩
 have i_Y:RzB Y 1000000:=⟨hp.2.1⟩
 have i_Q:RzB Q 1000000:=⟨hp.2.2.1⟩
 have i_x:RzB x 1000000:=⟨hp.2.2.2.1⟩
 have i_y:RzB y 1000000:=⟨hp.2.2.2.2.1⟩
 have i_u:RzB u 1000000:=⟨hp.2.2.2.2.2.1⟩
 have i_v:RzB v 1000000:=⟨hp.2.2.2.2.2.2⟩
 have z1:=DJ (X,Y) (x,y);have z2:=DJ (X,Y) (u,v);have z3:=BF x u
 all_goals refine aC Tryz.func277 rfl ?_
 all_goals(repeat'((try(conv=>whnf));first
  |refine aj ?_ ?_|(with_reducible first|refine au (λ_=>?_) (λ_=>?_)|refine cZ (λ_=>?_) (λ_=>?_))|refine Drw.mk (by kernel_rfl) ?_|refine Ends.mk ?_))
 all_goals(try refine Pr.mk ?_)
 all_goals first
  |(refine iE ?_;(try rw[bP (by omega) (by omega)]);unfold fC;grind)|((repeat' apply And.intro)<;>first|assumption|exact xI (by omega)|exact zf (by omega)|exact uD (aJ _) (aJ _))⟩
instance ah0(X Y Q x y u v:Rat):DenI Tryz.prog 275 [Q3 X Y Q,Q5 x 0 y 0 0,Q5 u 0 v 0 0] (rz X≤1000000∧rz Y≤1000000∧rz Q≤1000000∧rz x≤1000000∧rz y≤1000000∧rz u≤1000000∧rz v≤1000000) (.int .i64 (JW (X,Y) (x,y) (u,v))):=⟨λhp=>by
 have i_X:RzB X 1000000:=⟨hp.1⟩
 have i_Y:RzB Y 1000000:=⟨hp.2.1⟩
 have i_Q:RzB Q 1000000:=⟨hp.2.2.1⟩
 have i_x:RzB x 1000000:=⟨hp.2.2.2.1⟩
 have i_y:RzB y 1000000:=⟨hp.2.2.2.2.1⟩
 have i_u:RzB u 1000000:=⟨hp.2.2.2.2.2.1⟩
 have i_v:RzB v 1000000:=⟨hp.2.2.2.2.2.2⟩
 all_goals refine aC Tryz.func275 rfl ?_
 all_goals(repeat'((try(conv=>whnf));first
  |refine aj ?_ ?_|(with_reducible refine au (λ_=>?_) (λ_=>?_))|refine Ends.mk ?_))
 all_goals(try refine Pr.mk ?_)
 all_goals first
  |(refine iE ?_;unfold JW;grind)|((repeat' apply And.intro)<;>first|assumption|exact xI (by omega)|exact zf (by omega)|exact uD (aJ _) (aJ _))⟩
instance ahY(n:Int):DenI Tryz.prog 276 [.int .i64 n] (True) (.int .i64 (jr n)):=⟨λhp=>by
 refine aC Tryz.func276 rfl ?_
 all_goals(repeat'((try(conv=>whnf));first
  |refine Ends.mk ?_))
 all_goals first
  |(refine iE ?_;simp only[List.foldl_cons,List.foldl_nil];unfold jr;(repeat' split)<;>omega)⟩
instance aiI(X Y Q x y u v s t:Rat):DenI Tryz.prog 242 [Q3 X Y Q,Q5 x 0 y 0 0,Q5 u 0 v 0 0,Q5 s 0 t 0 0] (rz X≤1000000∧rz Y≤1000000∧rz Q≤1000000∧rz x≤1000000∧rz y≤1000000∧rz u≤1000000∧rz v≤1000000∧rz s≤1000000∧rz t≤1000000) (.int .i64 (Dx (X,Y) (x,y) (u,v) (s,t))):=⟨λhp=>by
 have i_X:RzB X 1000000:=⟨hp.1⟩
 have i_Y:RzB Y 1000000:=⟨hp.2.1⟩
 have i_Q:RzB Q 1000000:=⟨hp.2.2.1⟩
 have i_x:RzB x 1000000:=⟨hp.2.2.2.1⟩
 have i_y:RzB y 1000000:=⟨hp.2.2.2.2.1⟩
 have i_u:RzB u 1000000:=⟨hp.2.2.2.2.2.1⟩
 have i_v:RzB v 1000000:=⟨hp.2.2.2.2.2.2.1⟩
 have i_s:RzB s 1000000:=⟨hp.2.2.2.2.2.2.2.1⟩
 have i_t:RzB t 1000000:=⟨hp.2.2.2.2.2.2.2.2⟩
 have z4:=Qa (X,Y) (x,y) (u,v);have z5:=Qa (X,Y) (x,y) (s,t)
 all_goals refine aC Tryz.func242 rfl ?_
 all_goals(repeat'((try(conv=>whnf));first
  |refine aG ?_|refine aj ?_ ?_|(with_reducible refine cZ (λ_=>?_) (λ_=>?_))|refine Drw.mk (by kernel_rfl) ?_|refine Ends.mk ?_))
 all_goals(try refine Pr.mk ?_)
 all_goals first
  |(refine iE ?_;unfold Dx;rw[if_neg (by assumption),bP (by omega) (by omega)])|(refine iE ?_;unfold Dx;rw[if_pos (by assumption)])|((repeat' apply And.intro)<;>first|assumption|exact xI (by omega)|exact zf (by omega)|exact uD (aJ _) (aJ _))⟩
instance ah9(X Y Q a b e f:Rat):DenI Tryz.prog 274 [.agg (DN X Y Q true a b e f)] (rz X≤1000000∧rz Y≤1000000∧rz Q≤1000000∧rz a≤1000000∧rz b≤1000000∧rz e≤1000000∧rz f≤1000000) (.agg (DN X Y Q false e f a b)):=⟨λhp=>by
 have i_X:RzB X 1000000:=⟨hp.1⟩
 have i_Y:RzB Y 1000000:=⟨hp.2.1⟩
 have i_Q:RzB Q 1000000:=⟨hp.2.2.1⟩
 have i_a:RzB a 1000000:=⟨hp.2.2.2.1⟩
 have i_b:RzB b 1000000:=⟨hp.2.2.2.2.1⟩
 have i_e:RzB e 1000000:=⟨hp.2.2.2.2.2.1⟩
 have i_f:RzB f 1000000:=⟨hp.2.2.2.2.2.2⟩
 all_goals refine aC Tryz.func274 rfl ?_
 all_goals(repeat'((try(conv=>whnf));first
  |(with_reducible refine aQ ?_)|refine Ends.mk ?_))
 all_goals first
  |rfl⟩
instance agv(X Y Q a b e f:Rat):DenI Tryz.prog 241 [.agg (DN X Y Q true a b e f)] (rz X≤1000000∧rz Y≤1000000∧rz Q≤1000000∧rz a≤1000000∧rz b≤1000000∧rz e≤1000000∧rz f≤1000000) (.agg (DN X Y Q false e f a b)):=⟨λhp=>by
 have i_X:RzB X 1000000:=⟨hp.1⟩
 have i_Y:RzB Y 1000000:=⟨hp.2.1⟩
 have i_Q:RzB Q 1000000:=⟨hp.2.2.1⟩
 have i_a:RzB a 1000000:=⟨hp.2.2.2.1⟩
 have i_b:RzB b 1000000:=⟨hp.2.2.2.2.1⟩
 have i_e:RzB e 1000000:=⟨hp.2.2.2.2.2.1⟩
 have i_f:RzB f 1000000:=⟨hp.2.2.2.2.2.2⟩
 all_goals refine aC Tryz.func241 rfl ?_
 all_goals(repeat'((try(conv=>whnf));first
  |refine aj ?_ ?_|(with_reducible refine aQ ?_)|refine Ends.mk ?_))
 all_goals(try refine Pr.mk ?_)
 all_goals first
  |rfl|((repeat' apply And.intro)<;>first|assumption|exact xI (by omega)|exact zf (by omega)|exact uD (aJ _) (aJ _))⟩
instance ahV(X Y Q a b e f:Rat):DenI Tryz.prog 241 [.agg (DN X Y Q false a b e f)] (rz X≤1000000∧rz Y≤1000000∧rz Q≤1000000∧rz a≤1000000∧rz b≤1000000∧rz e≤1000000∧rz f≤1000000) (.agg (DN X Y Q false a b e f)):=⟨λhp=>by
 have i_X:RzB X 1000000:=⟨hp.1⟩
 have i_Y:RzB Y 1000000:=⟨hp.2.1⟩
 have i_Q:RzB Q 1000000:=⟨hp.2.2.1⟩
 have i_a:RzB a 1000000:=⟨hp.2.2.2.1⟩
 have i_b:RzB b 1000000:=⟨hp.2.2.2.2.1⟩
 have i_e:RzB e 1000000:=⟨hp.2.2.2.2.2.1⟩
 have i_f:RzB f 1000000:=⟨hp.2.2.2.2.2.2⟩
 all_goals refine aC Tryz.func241 rfl ?_
 all_goals(repeat'((try(conv=>whnf));first
  |(with_reducible refine aP ?_)|refine Ends.mk ?_))
 all_goals first
  |rfl⟩
end Go.Proofs.YtmniihkenijjpaaGreatDoor
