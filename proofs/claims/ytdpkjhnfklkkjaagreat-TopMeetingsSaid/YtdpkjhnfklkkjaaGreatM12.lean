/-
  Rules of the abstract run, plain laws, and what functions answer, for the law TopMeetings.
  Conditions: none.
-/
import Derived.Test.YtdpkjhnfklkkjaaGreatM11
set_option linter.all false
namespace Go.Proofs.YtdpkjhnfklkkjaaGreat
open Go Go.RowKit Go.Sw Go.Proofs.Tryz
set_option maxRecDepth 100000
set_option maxHeartbeats 16000000
instance ak7:DenI prog 207 [] (True) (R 0):=⟨λhp=>by
 refine aS func207 rfl ?_
 all_goals(repeat'((try(conv=>whnf));first
  |refine ak ?_ ?_|apply zaa))
 all_goals(try apply zab)
 all_goals first
  |rfl|omega⟩
instance ak9(a:Rat):DenI prog 115 [R a] (rz a<=4000000) (Q3 a 0 0):=⟨λhp=>by
 have:RzB a 4000000:=⟨hp⟩
 all_goals refine aS func115 rfl ?_
 all_goals(repeat'((try(conv=>whnf));first
  |refine aC ?_|refine zac ζ ?_|apply zaa))
 all_goals first
  |rfl⟩
instance ane(a b c:Rat):DenI prog 118 [R a,R b,R c] (rz a<=4000000/\rz b<=4000000/\rz c<=4000000) (Q3 (a) (bH b c) (bM b c)):=⟨λhp=>by
 have:RzB a 4000000:=⟨hp.1⟩
 have:RzB b 4000000:=⟨hp.2.1⟩
 have:RzB c 4000000:=⟨hp.2.2⟩
 all_goals refine aS func118 rfl ?_
 all_goals(repeat'((try(conv=>whnf));first
  |refine aC ?_|refine ak ?_ ?_|(with_reducible first|refine aN ?_|refine aI ?_|refine aO (λ_=>?_) (λ_=>?_))|apply zaa))
 all_goals(try apply zab)
 all_goals(try simp only[bn]at *)
 all_goals first
  |exact zah|exact zaf⟩
instance ahn(a:Rat):DenI prog 322 [R a] (rz a<=4000000) (R (a*a)):=⟨λhp=>by
 have:RzB a 4000000:=⟨hp⟩
 all_goals refine aS func322 rfl ?_
 all_goals(repeat'((try(conv=>whnf));first
  |refine ak ?_ ?_|apply zaa))
 all_goals(try apply zab)
 all_goals first
  |rfl|exact zaf⟩
instance aj2(a b c:Rat):DenI prog 288 [Q3 a b c] (rz a<=4000000/\rz b<=4000000/\rz c<=4000000) (R (a*a-b*b*c)):=⟨λhp=>by
 have:RzB a 4000000:=⟨hp.1⟩
 have:RzB b 4000000:=⟨hp.2.1⟩
 have:RzB c 4000000:=⟨hp.2.2⟩
 all_goals refine aS func288 rfl ?_
 all_goals(repeat'((try(conv=>whnf));first
  |refine ak ?_ ?_|refine zac ζ ?_|apply zaa))
 all_goals(try apply zab)
 all_goals first
  |rfl|exact zaf⟩
instance ahC(a b c d e f:Rat):DenI prog 342 [Q3 a b c,Q3 d e f] (rz a<=4000000/\rz b<=4000000/\rz c<=4000000/\rz d<=4000000/\rz e<=4000000/\rz f<=4000000) (.tup [R (if b=0 then f else c),.bool (decide (b=0) || decide (e=0) || decide (c=f))]):=⟨λhp=>by
 have:RzB a 4000000:=⟨hp.1⟩
 have:RzB b 4000000:=⟨hp.2.1⟩
 have:RzB c 4000000:=⟨hp.2.2.1⟩
 have:RzB d 4000000:=⟨hp.2.2.2.1⟩
 have:RzB e 4000000:=⟨hp.2.2.2.2.1⟩
 have:RzB f 4000000:=⟨hp.2.2.2.2.2⟩
 all_goals refine aS func342 rfl ?_
 all_goals(repeat'((try(conv=>whnf));first
  |refine aC ?_|refine ak ?_ ?_|(with_reducible first|refine aN ?_|refine aI ?_|refine aO (λ_=>?_) (λ_=>?_))|refine zac ζ ?_|apply zaa))
 all_goals(try apply zab)
 all_goals(try simp only[bn]at *)
 all_goals first
  |exact zah|exact zaf⟩
instance alK:DenI prog 166 [] (True) (R 0):=⟨λhp=>by
 refine aS func166 rfl ?_
 all_goals(repeat'((try(conv=>whnf));first
  |refine ak ?_ ?_|apply zaa))
 all_goals(try apply zab)
 all_goals first
  |rfl|omega⟩
instance aok(a b:Rat):DenI prog 92 [Q2 a b] (rz a<=4000000/\rz b<=4000000) (Q5 a 0 b 0 0):=⟨λhp=>by
 have:RzB a 4000000:=⟨hp.1⟩
 have:RzB b 4000000:=⟨hp.2⟩
 all_goals refine aS func92 rfl ?_
 all_goals(repeat'((try(conv=>whnf));first
  |refine aC ?_|refine zac ζ ?_|apply zaa))
 all_goals first
  |rfl⟩
instance anp(a b c:Rat):DenI prog 182 [R a,R b,R c] (rz a<=4000000/\rz b<=4000000/\rz c<=4000000) (Q3 a b (bC b c)):=⟨λhp=>by
 have:RzB a 4000000:=⟨hp.1⟩
 have:RzB b 4000000:=⟨hp.2.1⟩
 have:RzB c 4000000:=⟨hp.2.2⟩
 all_goals refine aS func182 rfl ?_
 all_goals(repeat'((try(conv=>whnf));first
  |refine aC ?_|refine ak ?_ ?_|(with_reducible refine aO (λ_=>?_) (λ_=>?_))|apply zaa))
 all_goals(try apply zab)
 all_goals(try simp only[bn]at *)
 all_goals first
  |exact zah|exact zaf⟩
instance v_x(a b d e c:Rat):DenI prog 101 [Q5 a b d e c] (rz a<=4000000/\rz b<=4000000/\rz d<=4000000/\rz e<=4000000/\rz c<=4000000) (Q3 a b (bC b c)):=⟨λhp=>by
 have:RzB a 4000000:=⟨hp.1⟩
 have:RzB b 4000000:=⟨hp.2.1⟩
 have:RzB d 4000000:=⟨hp.2.2.1⟩
 have:RzB e 4000000:=⟨hp.2.2.2.1⟩
 have:RzB c 4000000:=⟨hp.2.2.2.2⟩
 all_goals refine aS func101 rfl ?_
 all_goals(repeat'((try(conv=>whnf));first
  |refine ak ?_ ?_|apply zaa))
 all_goals(try apply zab)
 all_goals first
  |rfl|exact zaf⟩
instance v_y(a b d e c:Rat):DenI prog 102 [Q5 a b d e c] (rz a<=4000000/\rz b<=4000000/\rz d<=4000000/\rz e<=4000000/\rz c<=4000000) (Q3 d e (bC e c)):=⟨λhp=>by
 have:RzB a 4000000:=⟨hp.1⟩
 have:RzB b 4000000:=⟨hp.2.1⟩
 have:RzB d 4000000:=⟨hp.2.2.1⟩
 have:RzB e 4000000:=⟨hp.2.2.2.1⟩
 have:RzB c 4000000:=⟨hp.2.2.2.2⟩
 all_goals refine aS func102 rfl ?_
 all_goals(repeat'((try(conv=>whnf));first
  |refine ak ?_ ?_|apply zaa))
 all_goals(try apply zab)
 all_goals first
  |rfl|exact zaf⟩
instance aoi(a b d e c x y:Rat):DenI prog 323 [Q5 a b d e c,Q2 x y] (rz a<=4000000/\rz b<=4000000/\rz d<=4000000/\rz e<=4000000/\rz c<=4000000/\rz x<=4000000/\rz y<=4000000) (Q5 (a+x) b (d+y) e c):=⟨λhp=>by
 have:RzB a 4000000:=⟨hp.1⟩
 have:RzB b 4000000:=⟨hp.2.1⟩
 have:RzB d 4000000:=⟨hp.2.2.1⟩
 have:RzB e 4000000:=⟨hp.2.2.2.1⟩
 have:RzB c 4000000:=⟨hp.2.2.2.2.1⟩
 have:RzB x 4000000:=⟨hp.2.2.2.2.2.1⟩
 have:RzB y 4000000:=⟨hp.2.2.2.2.2.2⟩
 all_goals refine aS func323 rfl ?_
 all_goals(repeat'((try(conv=>whnf));first
  |refine ak ?_ ?_|refine zac ζ ?_|apply zaa))
 all_goals(try apply zab)
 all_goals first
  |rfl|exact zaf⟩
instance aj6(x y:Rat):DenI prog 324 [Q2 x y] (rz x<=4000000/\rz y<=4000000) (Q2 (-x) (-y)):=⟨λhp=>by
 have:RzB x 4000000:=⟨hp.1⟩
 have:RzB y 4000000:=⟨hp.2⟩
 all_goals refine aS func324 rfl ?_
 all_goals(repeat'((try(conv=>whnf));first
  |refine ak ?_ ?_|refine zac ζ ?_|apply zaa))
 all_goals(try apply zab)
 all_goals first
  |rfl|exact zaf⟩
end Go.Proofs.YtdpkjhnfklkkjaaGreat
namespace Go.Proofs.YtdpkjhnfklkkjaaGreat
open Go Go.RowKit Go.Sw Go.Proofs.Tryz
set_option maxRecDepth 100000
set_option maxHeartbeats 16000000
set_option synthInstance.maxSize 4000
set_option synthInstance.maxHeartbeats 400000
instance anb(a b:Rat):DenI prog 165 [R a,R b] (rz a<=4000000/\rz b<=4000000) (R (a+b)):=⟨λhp=>by
 have:RzB a 4000000:=⟨hp.1⟩
 have:RzB b 4000000:=⟨hp.2⟩
 all_goals refine aS func165 rfl ?_
 all_goals(repeat'((try(conv=>whnf));first
  |refine ak ?_ ?_|apply zaa))
 all_goals(try apply zab)
 all_goals first
  |rfl|exact zaf⟩
instance anz(a b:Rat):DenI prog 164 [R a,R b] (rz a<=4000000/\rz b<=4000000) (R (a-b)):=⟨λhp=>by
 have:RzB a 4000000:=⟨hp.1⟩
 have:RzB b 4000000:=⟨hp.2⟩
 all_goals refine aS func164 rfl ?_
 all_goals(repeat'((try(conv=>whnf));first
  |refine ak ?_ ?_|apply zaa))
 all_goals(try apply zab)
 all_goals first
  |rfl|exact zaf⟩
instance ant(a b:Rat):DenI prog 84 [R a,R b] (rz a<=4000000/\rz b<=4000000) (R (a*b)):=⟨λhp=>by
 have:RzB a 4000000:=⟨hp.1⟩
 have:RzB b 4000000:=⟨hp.2⟩
 all_goals refine aS func84 rfl ?_
 all_goals(repeat'((try(conv=>whnf));first
  |refine ak ?_ ?_|apply zaa))
 all_goals(try apply zab)
 all_goals first
  |rfl|exact zaf⟩
instance amJ(a b:Rat):DenI prog 168 [R a,R b] (rz a<=4000000/\rz b<=4000000/\¬b=0) (R (a / b)):=⟨λhp=>by
 have:RzB a 4000000:=⟨hp.1⟩
 have:RzB b 4000000:=⟨hp.2.1⟩
 have hpre:=hp.2.2
 all_goals refine aS func168 rfl ?_
 all_goals(repeat'((try(conv=>whnf));first
  |refine aQ ?_ (λ_=>?_) (λ_=>?_)|apply zaa))
 all_goals(try apply zab)
 all_goals first
  |rfl|exact zaf|(exfalso;simp_all;done)⟩
instance amR(a b c d:Rat):DenC prog 91 [Q2 a b,Q2 c d] (rz a<=1000/\rz b<=1000/\rz c<=1000/\rz d<=1000) ((b-d)=0/\(c-a)=0) (.tup [ZQ3,.int .i64 6]) (.tup [Q3 (b-d) (c-a) ((b-d)*a+(c-a)*b),.int .i64 0]):=⟨Ew λhp q e1 e2=>by
 have:RzB a 1000:=⟨hp.1⟩
 have:RzB b 1000:=⟨hp.2.1⟩
 have:RzB c 1000:=⟨hp.2.2.1⟩
 have:RzB d 1000:=⟨hp.2.2.2⟩
 all_goals refine aS func91 rfl ?_
 all_goals(repeat'((try(conv=>whnf));first
  |refine aC ?_|refine ak ?_ ?_|(with_reducible first|refine aN ?_|refine aI ?_|refine aO (λ_=>?_) (λ_=>?_))|refine zac ζ ?_|apply zaa))
 all_goals(try apply zab)
 all_goals(try simp only[bn]at *)
 all_goals first
  |(rw[e1 ⟨ξ,ξ⟩];rfl)|(rw[e2 (λh=>absurd h.1 ξ)];rfl)|(rw[e2 (λh=>absurd h.2 ξ)];rfl)|exact zaf⟩
instance alf(a b c d e f:Rat):DenI prog 33 [Q3 a b c,Q3 d e f] (rz a<=100000/\rz b<=100000/\rz c<=100000/\rz d<=100000/\rz e<=100000/\rz f<=100000) (.bool ((decide (a*e=b*d) && (decide (a*f=c*d) && decide (b*f=c*e))))):=⟨λhp=>by
 have:RzB a 100000:=⟨hp.1⟩
 have:RzB b 100000:=⟨hp.2.1⟩
 have:RzB c 100000:=⟨hp.2.2.1⟩
 have:RzB d 100000:=⟨hp.2.2.2.1⟩
 have:RzB e 100000:=⟨hp.2.2.2.2.1⟩
 have:RzB f 100000:=⟨hp.2.2.2.2.2⟩
 all_goals refine aS func33 rfl ?_
 all_goals(repeat'((try(conv=>whnf));first
  |refine ak ?_ ?_|(with_reducible first|refine aN ?_|refine aI ?_|refine aO (λ_=>?_) (λ_=>?_))|refine zac ζ ?_|apply zaa))
 all_goals(try apply zab)
 all_goals(try simp only[bn]at *)
 all_goals first
  |exact zah|exact zaf⟩
instance aj7(a b c d e f:Rat):DenI prog 32 [Q3 a b c,Q3 d e f] (rz a<=100000/\rz b<=100000/\rz c<=100000/\rz d<=100000/\rz e<=100000/\rz f<=100000) (.bool ((decide (a=d) && (decide (b=e) && decide (c=f))))):=⟨λhp=>by
 have:RzB a 100000:=⟨hp.1⟩
 have:RzB b 100000:=⟨hp.2.1⟩
 have:RzB c 100000:=⟨hp.2.2.1⟩
 have:RzB d 100000:=⟨hp.2.2.2.1⟩
 have:RzB e 100000:=⟨hp.2.2.2.2.1⟩
 have:RzB f 100000:=⟨hp.2.2.2.2.2⟩
 all_goals refine aS func32 rfl ?_
 all_goals(repeat'((try(conv=>whnf));first
  |refine ak ?_ ?_|(with_reducible first|refine aN ?_|refine aI ?_|refine aO (λ_=>?_) (λ_=>?_))|apply zaa))
 all_goals(try apply zab)
 all_goals(try simp only[bn]at *)
 all_goals first
  |exact zah|exact zaf⟩
instance akb(a b c d e f:Rat):DenC prog 94 [Q2 a b,Q2 c d,Q2 e f] (rz a<=200/\rz b<=200/\rz c<=200/\rz d<=200/\rz e<=200/\rz f<=200) (((c-a)*(f-b)-(d-b)*(e-a))=0) (.tup [ZQ3,.int .i64 6]) (.tup [Q3 (a+((((c-a)*(c-a)+(d-b)*(d-b))*(f-b)-((e-a)*(e-a)+(f-b)*(f-b))*(d-b)) / (((c-a)*(f-b)-(d-b)*(e-a))+((c-a)*(f-b)-(d-b)*(e-a))))) (b+((((e-a)*(e-a)+(f-b)*(f-b))*(c-a)-((c-a)*(c-a)+(d-b)*(d-b))*(e-a)) / (((c-a)*(f-b)-(d-b)*(e-a))+((c-a)*(f-b)-(d-b)*(e-a))))) (((((c-a)*(c-a)+(d-b)*(d-b))*(f-b)-((e-a)*(e-a)+(f-b)*(f-b))*(d-b)) / (((c-a)*(f-b)-(d-b)*(e-a))+((c-a)*(f-b)-(d-b)*(e-a))))*((((c-a)*(c-a)+(d-b)*(d-b))*(f-b)-((e-a)*(e-a)+(f-b)*(f-b))*(d-b)) / (((c-a)*(f-b)-(d-b)*(e-a))+((c-a)*(f-b)-(d-b)*(e-a))))+((((e-a)*(e-a)+(f-b)*(f-b))*(c-a)-((c-a)*(c-a)+(d-b)*(d-b))*(e-a)) / (((c-a)*(f-b)-(d-b)*(e-a))+((c-a)*(f-b)-(d-b)*(e-a))))*((((e-a)*(e-a)+(f-b)*(f-b))*(c-a)-((c-a)*(c-a)+(d-b)*(d-b))*(e-a)) / (((c-a)*(f-b)-(d-b)*(e-a))+((c-a)*(f-b)-(d-b)*(e-a))))),.int .i64 0]):=⟨Ew λhp q e1 e2=>by
 have:RzB a 200:=⟨hp.1⟩
 have:RzB b 200:=⟨hp.2.1⟩
 have:RzB c 200:=⟨hp.2.2.1⟩
 have:RzB d 200:=⟨hp.2.2.2.1⟩
 have:RzB e 200:=⟨hp.2.2.2.2.1⟩
 have:RzB f 200:=⟨hp.2.2.2.2.2⟩
 all_goals refine aS func94 rfl ?_
 all_goals(repeat'((try(conv=>whnf));first
  |refine aC ?_|refine ak ?_ ?_|(with_reducible refine aO (λ_=>?_) (λ_=>?_))|refine zac ζ ?_|apply zaa))
 all_goals(try apply zab)
 all_goals(try simp only[bn]at *)
 all_goals first
  |(rw[e1 ξ];rfl)|(rw[e2 ξ];rfl)|(refine⟨bF ω,bF ω,ν⟩)|exact zaf⟩
instance ana(a b:Rat):DenI prog 154 [R a,R b] (rz a<=4000000/\rz b<=4000000) (R (a+b)):=⟨λhp=>by
 have:RzB a 4000000:=⟨hp.1⟩
 have:RzB b 4000000:=⟨hp.2⟩
 all_goals refine aS func154 rfl ?_
 all_goals(repeat'((try(conv=>whnf));first
  |refine ak ?_ ?_|apply zaa))
 all_goals(try apply zab)
 all_goals first
  |rfl|exact zaf⟩
instance anE(a b:Rat):DenI prog 153 [R a,R b] (rz a<=4000000/\rz b<=4000000) (R (a-b)):=⟨λhp=>by
 have:RzB a 4000000:=⟨hp.1⟩
 have:RzB b 4000000:=⟨hp.2⟩
 all_goals refine aS func153 rfl ?_
 all_goals(repeat'((try(conv=>whnf));first
  |refine ak ?_ ?_|apply zaa))
 all_goals(try apply zab)
 all_goals first
  |rfl|exact zaf⟩
instance amM(a b:Rat):DenI prog 137 [R a,R b] (rz a<=4000000/\rz b<=4000000) (R (a*b)):=⟨λhp=>by
 have:RzB a 4000000:=⟨hp.1⟩
 have:RzB b 4000000:=⟨hp.2⟩
 all_goals refine aS func137 rfl ?_
 all_goals(repeat'((try(conv=>whnf));first
  |refine ak ?_ ?_|apply zaa))
 all_goals(try apply zab)
 all_goals first
  |rfl|exact zaf⟩
instance alT(a b:Rat):DenI prog 280 [R a,R b] (rz a<=4000000/\rz b<=4000000) (R (a / b)):=⟨λhp=>by
 have:RzB a 4000000:=⟨hp.1⟩
 have:RzB b 4000000:=⟨hp.2⟩
 all_goals refine aS func280 rfl ?_
 all_goals(repeat'((try(conv=>whnf));first
  |refine ak ?_ ?_|refine aQ ?_ (λ_=>?_) (λ_=>?_)|(with_reducible refine aP (λ_=>?_) (λ_=>?_))|apply zaa))
 all_goals(try apply zab)
 all_goals(try simp only[bn]at *)
 all_goals first
  |rfl|(subst b;exact congrArg R (aiN a))|omega|(exfalso;simp at *;done)⟩
instance p_eq(a b:Rat):DenI prog 136 [R a,R b] (rz a<=4000000/\rz b<=4000000) (.bool (decide (a=b))):=⟨λhp=>by
 have:RzB a 4000000:=⟨hp.1⟩
 have:RzB b 4000000:=⟨hp.2⟩
 all_goals refine aS func136 rfl ?_
 all_goals(repeat'((try(conv=>whnf));first
  |refine ak ?_ ?_|apply zaa))
 all_goals(try apply zab)
 all_goals(try simp only[bn]at *)
 all_goals first
  |rfl|exact zaf⟩
instance an9(a b c d e f:Rat):DenI prog 69 [Q3 a b c,Q3 d e f] (rz a<=100000/\rz b<=100000/\rz c<=100000/\rz d<=100000/\rz e<=100000/\rz f<=100000) (.bool ((decide (a*e=d*b) && (decide (a*f=d*c) && decide (b*f=e*c))))):=⟨λhp=>by
 have:RzB a 100000:=⟨hp.1⟩
 have:RzB b 100000:=⟨hp.2.1⟩
 have:RzB c 100000:=⟨hp.2.2.1⟩
 have:RzB d 100000:=⟨hp.2.2.2.1⟩
 have:RzB e 100000:=⟨hp.2.2.2.2.1⟩
 have:RzB f 100000:=⟨hp.2.2.2.2.2⟩
 all_goals refine aS func69 rfl ?_
 all_goals(repeat'((try(conv=>whnf));first
  |refine ak ?_ ?_|(with_reducible first|refine aN ?_|refine aI ?_|refine aO (λ_=>?_) (λ_=>?_))|refine zac ζ ?_|apply zaa))
 all_goals(try apply zab)
 all_goals first
  |exact zah|exact zaf⟩
instance aon(a b c d e f:Rat):DenI prog 68 [Q3 a b c,Q3 d e f] (rz a<=100000/\rz b<=100000/\rz c<=100000/\rz d<=100000/\rz e<=100000/\rz f<=100000) (.bool ((decide (a=d) && (decide (b=e) && decide (c=f))))):=⟨λhp=>by
 have:RzB a 100000:=⟨hp.1⟩
 have:RzB b 100000:=⟨hp.2.1⟩
 have:RzB c 100000:=⟨hp.2.2.1⟩
 have:RzB d 100000:=⟨hp.2.2.2.1⟩
 have:RzB e 100000:=⟨hp.2.2.2.2.1⟩
 have:RzB f 100000:=⟨hp.2.2.2.2.2⟩
 all_goals refine aS func68 rfl ?_
 all_goals(repeat'((try(conv=>whnf));first
  |refine ak ?_ ?_|(with_reducible first|refine aN ?_|refine aI ?_|refine aO (λ_=>?_) (λ_=>?_))|apply zaa))
 all_goals(try apply zab)
 all_goals first
  |exact zah|exact zaf⟩
instance alI(a b c:Rat):DenI prog 155 [R a,R b,R c] (rz a<=100000/\rz b<=100000/\rz c<=100000) (.int .i64 (fP a b c)):=⟨λhp=>by
 have:RzB a 100000:=⟨hp.1⟩
 have:RzB b 100000:=⟨hp.2.1⟩
 have:RzB c 100000:=⟨hp.2.2⟩
 all_goals refine aS func155 rfl ?_
 all_goals(repeat'((try(conv=>whnf));first
  |refine aC ?_|refine ak ?_ ?_|(with_reducible first|refine aN ?_|refine aI ?_|refine aO (λ_=>?_) (λ_=>?_))|refine zac ζ ?_|apply zaa))
 all_goals(try apply zab)
 all_goals(try simp only[bn]at *)
 all_goals(try simp only[Ue,LC]at *)
 all_goals first
  |with_reducible exact ahl ξ|with_reducible exact agN ξ|with_reducible exact agl ξ ξ ξ|with_reducible exact aaP ξ ξ ξ|exact zaf⟩
instance aku(a b c f:Rat):DenI prog 233 [R a,R b,R c,R f] (rz a<=20000/\rz b<=20000/\rz c<=20000/\rz f<=20000) (Ov (iU a b c f)):=⟨λhp=>by
 have:RzB a 20000:=⟨hp.1⟩
 have:RzB b 20000:=⟨hp.2.1⟩
 have:RzB c 20000:=⟨hp.2.2.1⟩
 have:RzB f 20000:=⟨hp.2.2.2⟩
 all_goals refine aS func233 rfl ?_
 all_goals(repeat'((try(conv=>whnf));first
  |refine ak ?_ ?_|(with_reducible first|refine aN ?_|refine aI ?_)|refine zad (λ_=>?_) (λ_=>?_)|refine zac ζ ?_|apply zaa))
 all_goals(try apply zab)
 all_goals(try simp only[Prod.eta]at *)
 all_goals first
  |omega|(have z1:=yH a b c;have z2:=gJ f;unfold yT at *;omega)|(refine afP (abN ?_);first|exact .inl ξ|exact .inr ξ)|(refine Eq.trans ?_ (congrArg Ov (ae3 ξ ξ));rfl)⟩
instance ajg(X Y Q ax bx ay bb c:Rat):DenI prog 152 [Q3 X Y Q,Q5 ax bx ay bb c] (rz X<=20000/\rz Y<=20000/\rz Q<=20000/\rz ax<=20000/\rz bx<=20000/\rz ay<=20000/\rz bb<=20000/\rz c<=20000) (.tup [.int .i64 (l7 ax bx ay bb c X Y Q).1,.bool (l7 ax bx ay bb c X Y Q).2]):=⟨λhp=>by
 have:RzB X 20000:=⟨hp.1⟩
 have:RzB Y 20000:=⟨hp.2.1⟩
 have:RzB Q 20000:=⟨hp.2.2.1⟩
 have:RzB ax 20000:=⟨hp.2.2.2.1⟩
 have:RzB bx 20000:=⟨hp.2.2.2.2.1⟩
 have:RzB ay 20000:=⟨hp.2.2.2.2.2.1⟩
 have:RzB bb 20000:=⟨hp.2.2.2.2.2.2.1⟩
 have:RzB c 20000:=⟨hp.2.2.2.2.2.2.2⟩
 all_goals refine aS func152 rfl ?_
 all_goals(repeat'((try(conv=>whnf));first
  |refine aC ?_|refine ak ?_ ?_|(with_reducible first|refine aN ?_|refine aI ?_)|refine zad (λ_=>?_) (λ_=>?_)|refine zac ζ ?_|apply zaa))
 all_goals(try apply zab)
 all_goals(try simp only[Prod.eta]at *)
 all_goals first
  |omega|(have z1:=Ko ax bx c X;have z2:=Ko ay bb c Y;have z3:=gJ Q;unfold yT at *;omega)|(have z1:=oM ((iU ax bx c X).getD (0,0)) ((iU ax bx c X).getD (0,0));have z2:=oM ((iU ay bb c Y).getD (0,0)) ((iU ay bb c Y).getD (0,0));have z3:=gJ Q;have z4:=tH z1 z2;unfold yT at *;omega)|(refine amg (ajP ?_);first|exact .inl ξ|exact .inr (.inl ξ)|exact .inr (.inr ξ))|(rw[agt (ax:=ax) (bx:=bx) (ay:=ay) (bb:=bb) (c:=c) (X:=X) (Y:=Y) (Q:=Q) ξ ξ ξ rfl rfl rfl];generalize(iU ax bx c X).getD (0,0)=u at *;generalize(iU ay bb c Y).getD (0,0)=v at *;generalize(dh Q).getD (0,0)=w at *;rcases k1:jL u u with _|s<;>rcases k2:jL v v with _|t<;>first|rfl|(exfalso;simp_all;done)|(simp only[k1,k2,Bd,Option.isSome_some]at *;rcases k3:jR s t with _|m<;>first|rfl|(exfalso;simp_all;done)|(simp only[k3,Bd,Option.isSome_some]at *;rcases k4:jR m (-w.2,-w.1)with _|r<;>first|rfl|(exfalso;simp_all;done))))⟩
instance alb(la lb lc ax bx ay bb c:Rat):DenI prog 86 [Q3 la lb lc,Q5 ax bx ay bb c] (rz la<=5000/\rz lb<=5000/\rz lc<=5000/\rz ax<=5000/\rz bx<=5000/\rz ay<=5000/\rz bb<=5000/\rz c<=5000) (.int .i64 (fP (la*ax+lb*ay-lc) (la*bx+lb*bb) c)):=⟨λhp=>by
 have:RzB la 5000:=⟨hp.1⟩
 have:RzB lb 5000:=⟨hp.2.1⟩
 have:RzB lc 5000:=⟨hp.2.2.1⟩
 have:RzB ax 5000:=⟨hp.2.2.2.1⟩
 have:RzB bx 5000:=⟨hp.2.2.2.2.1⟩
 have:RzB ay 5000:=⟨hp.2.2.2.2.2.1⟩
 have:RzB bb 5000:=⟨hp.2.2.2.2.2.2.1⟩
 have:RzB c 5000:=⟨hp.2.2.2.2.2.2.2⟩
 all_goals refine aS func86 rfl ?_
 all_goals(repeat'((try(conv=>whnf));first
  |refine ak ?_ ?_|refine zad (λ_=>?_) (λ_=>?_)|refine zac ζ ?_|apply zaa))
 all_goals(try apply zab)
 all_goals first
  |rfl|(refine iE (adN ?_);simp_all;done)|exact zaf⟩
instance akC(la lb lc x y:Rat):DenI prog 224 [Q3 la lb lc,Q2 x y] (rz la<=1000/\rz lb<=1000/\rz lc<=1000/\rz x<=1000/\rz y<=1000) (Q2 (x-(la*x+lb*y-lc) / (la*la+lb*lb)*la) (y-(la*x+lb*y-lc) / (la*la+lb*lb)*lb)):=⟨λhp=>by
 have:RzB la 1000:=⟨hp.1⟩
 have:RzB lb 1000:=⟨hp.2.1⟩
 have:RzB lc 1000:=⟨hp.2.2.1⟩
 have:RzB x 1000:=⟨hp.2.2.2.1⟩
 have:RzB y 1000:=⟨hp.2.2.2.2⟩
 all_goals refine aS func224 rfl ?_
 all_goals(repeat'((try(conv=>whnf));first
  |refine ak ?_ ?_|refine zac ζ ?_|apply zaa))
 all_goals(try apply zab)
 all_goals first
  |rfl|exact zaf⟩
instance ajs(a b c:Rat):DenI prog 155 [R a,R b,R c] (rz a<=400000/\rz b<=400000/\rz c<=400000) (.int .i64 (fP a b c)):=⟨λhp=>by
 have:RzB a 400000:=⟨hp.1⟩
 have:RzB b 400000:=⟨hp.2.1⟩
 have:RzB c 400000:=⟨hp.2.2⟩
 all_goals refine aS func155 rfl ?_
 all_goals(repeat'((try(conv=>whnf));first
  |refine aC ?_|refine ak ?_ ?_|(with_reducible first|refine aN ?_|refine aI ?_|refine aO (λ_=>?_) (λ_=>?_))|refine zac ζ ?_|apply zaa))
 all_goals(try apply zab)
 all_goals(try simp only[bn]at *)
 all_goals(try simp only[Ue,LC]at *)
 all_goals first
  |with_reducible exact ahl ξ|with_reducible exact agN ξ|with_reducible exact agl ξ ξ ξ|with_reducible exact aaP ξ ξ ξ|exact zaf⟩
end Go.Proofs.YtdpkjhnfklkkjaaGreat
namespace Go.Sw
open Go
def Cau(f:Nat->Rat):Prop:=∀d:Rat,0<d->∃N,∀m n,N<=m->N<=n->f m<f n+d
def PosS(f:Nat->Rat):Prop:=∃d:Rat,0<d/\∃N,∀n,N<=n->d<f n
def NulS(f:Nat->Rat):Prop:=∀d:Rat,0<d->∃N,∀n,N<=n→-d<f n/\f n<d
def Bnd(f:Nat->Rat):Prop:=∃B:Rat,0<B/\∃N,∀n,N<=n→-B<f n/\f n<B
def SgS(f:Nat->Rat)(n:Int):Prop:=(n=1/\PosS f)\/(n = -1/\PosS λk=>-f k)\/(n=0/\NulS f)
theorem AX{x y B e:Rat}(h1 : -B<x)(h2:x<B)(h3 : -e<y)(h4:y<e):x*y<B*e:=by
 have p1:=F9 (show 0<B-x by grind) (show 0<e+y by grind);have p2:=F9 (show 0<B+x by grind) (show 0<e-y by grind)
 grind
theorem Yn{x y B e:Rat}(h1 : -B<x)(h2:x<B)(h3 : -e<y)(h4:y<e):-(B*e)<x*y:=by
 have:=AX (x:=-x) (y:=y) (B:=B) (e:=e) ν ν h3 h4
 grind
theorem yw{a b:Rat}(h1:0<a)(h2:0<b):0<a/b:=by
 have hb:b≠0:=ν
 rcases EO (a:=a/b) (b:=0)with h|h
 .have p:=AQ (show 0≤-(a/b) by grind) (show 0<=b by grind);have e:a/b*b=a:=ν
  grind
 .by_cases e:a/b=0
  .have e':a/b*b=a:=ν
   rw[e]at e';grind
  .grind
theorem NulS.add{f g:Nat->Rat}(h:NulS f)(k:NulS g):NulS λn=>f n+g n:=λd hd=>by
 obtain⟨N,hN⟩:=h (d*(1/2)) ν;obtain⟨M,hM⟩:=k (d*(1/2)) ν;refine⟨N+M,λn hn=>?_⟩;have a:=hN n ω;have b:=hM n ω;constructor<;>grind
theorem NulS.neg{f:Nat->Rat}(h:NulS f):NulS λn=>-f n:=λd hd=>by
 obtain⟨N,hN⟩:=h d hd;exact⟨N,λn hn=>by have:=hN n hn;constructor<;>grind⟩
theorem NulS.sub{f g:Nat->Rat}(h:NulS f)(k:NulS g):NulS λn=>f n-g n:=λd hd=>by
 obtain⟨N,hN⟩:=h.add k.neg d hd;exact⟨N,λn hn=>by have:=hN n hn;simp only at this;constructor<;>grind⟩
theorem NulS.mul{f g:Nat->Rat}(h:NulS f)(k:Bnd g):NulS λn=>f n*g n:=λd hd=>by
 obtain⟨B,hB,M,hM⟩:=k;obtain⟨N,hN⟩:=h (d/B) (yw hd hB);refine⟨N+M,λn hn=>?_⟩;have a:=hN n ω;have b:=hM n ω;have e:d/B*B=d:=by have:B≠0:=ν;grind
 have p1:=AX a.1 a.2 b.1 b.2;have p2:=Yn a.1 a.2 b.1 b.2;rw[e]at p1 p2;exact⟨p2,p1⟩
theorem NulS.zero:NulS λ_=>0:=λd hd=>⟨0,λn _=>by constructor<;>grind⟩
theorem NulS.cg{f g:Nat->Rat}(h:NulS f)(e:∀n,f n=g n):NulS g:=by rwa [funext e]at h
theorem Cau.bnd{f:Nat->Rat}(h:Cau f):Bnd f:=by
 obtain⟨N,hN⟩:=h 1 ν;rcases EO (a:=0) (b:=f N)with h0|h0
 .refine⟨f N+1,ν,N,λn hn=>?_⟩;have a:=hN n N hn (jg _);have b:=hN N n (jg _) hn;constructor<;>grind
 .refine⟨-f N+1,ν,N,λn hn=>?_⟩;have a:=hN n N hn (jg _);have b:=hN N n (jg _) hn;constructor<;>grind
theorem Cau.const(q:Rat):Cau λ_=>q:=λd hd=>⟨0,λm n _ _=>by grind⟩
theorem Cau.add{f g:Nat->Rat}(h:Cau f)(k:Cau g):Cau λn=>f n+g n:=λd hd=>by
 obtain⟨N,hN⟩:=h (d*(1/2)) ν;obtain⟨M,hM⟩:=k (d*(1/2)) ν;refine⟨N+M,λm n hm hn=>?_⟩;have a:=hN m n ω ω;have b:=hM m n ω ω
 grind
theorem Cau.neg{f:Nat->Rat}(h:Cau f):Cau λn=>-f n:=λd hd=>by
 obtain⟨N,hN⟩:=h d hd;exact⟨N,λm n hm hn=>by have:=hN n m hn hm;grind⟩
theorem Cau.sub{f g:Nat->Rat}(h:Cau f)(k:Cau g):Cau λn=>f n-g n:=λd hd=>by
 obtain⟨N,hN⟩:=h.add k.neg d hd;exact⟨N,λm n hm hn=>by have:=hN m n hm hn;simp only at this;grind⟩
theorem Cau.mul{f g:Nat->Rat}(h:Cau f)(k:Cau g):Cau λn=>f n*g n:=λd hd=>by
 obtain⟨B,hB,M1,h1⟩:=h.bnd;obtain⟨D,hD,M2,h2⟩:=k.bnd;obtain⟨N1,k1⟩:=h (d*(1/2)/D) (yw ν hD);obtain⟨N2,k2⟩:=k (d*(1/2)/B) (yw ν hB);refine⟨M1+M2+N1+N2,λm n hm hn=>?_⟩;have a1:=h1 m ω;have a2:=h2 n ω;have b1:=k1 m n ω ω;have b2:=k1 n m ω ω;have c1:=k2 m n ω ω;have c2:=k2 n m ω ω;have e1:D*(d*(1/2)/D)=d*(1/2):=by have:D≠0:=ν;grind
 have e2:B*(d*(1/2)/B)=d*(1/2):=by have:B≠0:=ν;grind
 have p1:=AX (x:=f m) (y:=g m-g n) (e:=d*(1/2)/B) a1.1 a1.2 ν ν;have p2:=AX (x:=g n) (y:=f m-f n) (e:=d*(1/2)/D) a2.1 a2.2 ν ν;rw[e2]at p1;rw[e1]at p2
 grind
theorem PosS.add{f g:Nat->Rat}(h:PosS f)(k:PosS g):PosS λn=>f n+g n:=by
 obtain⟨d,hd,N,hN⟩:=h;obtain⟨e,he,M,hM⟩:=k;exact⟨d,hd,N+M,λn hn=>by have:=hN n ω;have:=hM n ω;grind⟩
theorem PosS.nul{f g:Nat->Rat}(h:PosS f)(k:NulS g):PosS λn=>f n+g n:=by
 obtain⟨d,hd,N,hN⟩:=h;obtain⟨M,hM⟩:=k (d*(1/2)) ν;exact⟨d*(1/2),ν,N+M,λn hn=>by have:=hN n ω;have:=hM n ω;grind⟩
theorem PosS.mul{f g:Nat->Rat}(h:PosS f)(k:PosS g):PosS λn=>f n*g n:=by
 obtain⟨d,hd,N,hN⟩:=h;obtain⟨e,he,M,hM⟩:=k;refine⟨d*e,F9 hd he,N+M,λn hn=>?_⟩;have a:=hN n ω;have b:=hM n ω;have p1:=F9 (show 0<f n-d by grind) (show 0<g n by grind);have p2:=F9 hd (show 0<g n-e by grind)
 grind
theorem PosS.cg{f g:Nat->Rat}(h:PosS f)(e:∀n,f n=g n):PosS g:=by rwa [funext e]at h
theorem PosS.not{f:Nat->Rat}(h:PosS f)(k:PosS λn=>-f n):False:=by
 obtain⟨d,hd,N,hN⟩:=h;obtain⟨e,he,M,hM⟩:=k;have:=hN (N+M) ω;have:=hM (N+M) ω
 grind
theorem PosS.nn{f:Nat->Rat}(h:PosS f)(k:NulS f):False:=by
 obtain⟨d,hd,N,hN⟩:=h;obtain⟨M,hM⟩:=k d hd;have:=hN (N+M) ω;have:=hM (N+M) ω
 grind
namespace SgS
theorem ex{f:Nat->Rat}(h:Cau f):∃n,SgS f n:=by
 by_cases h1:PosS f
 .exact⟨1,.inl ⟨rfl,h1⟩⟩
 .by_cases h2:PosS λn=>-f n
  .exact⟨-1,.inr (.inl ⟨rfl,h2⟩)⟩
  .refine⟨0,.inr (.inr ⟨rfl,λd hd=>?_⟩)⟩;obtain⟨N,hN⟩:=h (d*(1/2)) ν
   have a1:∃m,N<=m/\f m<=d*(1/2):=Classical.byContradiction λhc=>h1 ⟨d*(1/2),ν,N,λn hn=>by
    rcases EO (a:=f n) (b:=d*(1/2))with h|h
    .exact absurd ⟨n,hn,h⟩ hc
    .by_cases e:f n=d*(1/2)
     .exact absurd ⟨n,hn,ν⟩ hc
     .grind⟩
   have a2:∃m,N<=m∧-f m<=d*(1/2):=Classical.byContradiction λhc=>h2 ⟨d*(1/2),ν,N,λn hn=>by
    rcases EO (a:=-f n) (b:=d*(1/2))with h|h
    .exact absurd ⟨n,hn,h⟩ hc
    .by_cases e : -f n=d*(1/2)
     .exact absurd ⟨n,hn,ν⟩ hc
     .grind⟩
   obtain⟨m1,g1,k1⟩:=a1;obtain⟨m2,g2,k2⟩:=a2;refine⟨N,λn hn=>?_⟩;have b1:=hN n m1 hn g1;have b2:=hN m2 n g2 hn;constructor<;>grind
theorem uniq{f:Nat->Rat}{m n:Int}(h:SgS f m)(k:SgS f n):m=n:=by
 rcases h with⟨rfl,h⟩|⟨rfl,h⟩|⟨rfl,h⟩<;>rcases k with⟨rfl,k⟩|⟨rfl,k⟩|⟨rfl,k⟩<;>first
  |rfl|exact(h.not k).elim|exact(k.not h).elim|exact(h.nn k).elim|exact(k.nn h).elim|exact(h.nn k.neg).elim|exact(k.nn h.neg).elim
theorem cg{f g:Nat->Rat}{n:Int}(h:SgS f n)(e:∀k,f k=g k):SgS g n:=by rwa [funext e]at h
theorem pos{f:Nat->Rat}(h:SgS f 1):PosS f:=by
 rcases h with⟨e,h⟩|⟨e,h⟩|⟨e,h⟩
 .exact h
 .exact absurd e ψ
 .exact absurd e ψ
theorem npos{f:Nat->Rat}(h:SgS f (-1)):PosS λn=>-f n:=by
 rcases h with⟨e,h⟩|⟨e,h⟩|⟨e,h⟩
 .exact absurd e ψ
 .exact h
 .exact absurd e ψ
theorem nul{f:Nat->Rat}(h:SgS f 0):NulS f:=by
 rcases h with⟨e,h⟩|⟨e,h⟩|⟨e,h⟩
 .exact absurd e ψ
 .exact absurd e ψ
 .exact h
theorem of_pos{f:Nat->Rat}(h:PosS f):SgS f 1:=.inl ⟨rfl,h⟩
theorem of_npos{f:Nat->Rat}(h:PosS λn=>-f n):SgS f (-1):=.inr (.inl ⟨rfl,h⟩)
theorem of_nul{f:Nat->Rat}(h:NulS f):SgS f 0:=.inr (.inr ⟨rfl,h⟩)
theorem lim{f:Nat->Rat}{n:Int}(h:SgS f n):n=1\/n = -1\/n=0:=by
 rcases h with⟨e,h⟩|⟨e,h⟩|⟨e,h⟩<;>simp[e]
theorem neg{f:Nat->Rat}{n:Int}(h:SgS f n):SgS (λk=>-f k) (-n):=by
 rcases h with⟨rfl,h⟩|⟨rfl,h⟩|⟨rfl,h⟩
 .exact .inr (.inl ⟨rfl,h.cg λn=>by grind⟩)
 .exact .inl ⟨rfl,h⟩
 .exact .inr (.inr ⟨rfl,h.neg⟩)
theorem nadd{f g:Nat->Rat}{n:Int}(h:SgS f n)(k:NulS g):SgS (λk=>f k+g k) n:=by
 rcases h with⟨rfl,h⟩|⟨rfl,h⟩|⟨rfl,h⟩
 .exact .inl ⟨rfl,h.nul k⟩
 .exact .inr (.inl ⟨rfl,(h.nul k.neg).cg λn=>by grind⟩)
 .exact .inr (.inr ⟨rfl,h.add k⟩)
theorem near{f g:Nat->Rat}{n:Int}(h:SgS f n)(k:NulS λi=>g i-f i):SgS g n:=(h.nadd k).cg λn=>by grind
theorem same{f g:Nat->Rat}{n:Int}(h:SgS f n)(k:SgS g n):SgS (λk=>f k+g k) n:=by
 rcases h with⟨rfl,h⟩|⟨rfl,h⟩|⟨rfl,h⟩
 .exact .inl ⟨rfl,h.add k.pos⟩
 .exact .inr (.inl ⟨rfl,(h.add k.npos).cg λn=>by grind⟩)
 .exact .inr (.inr ⟨rfl,h.add k.nul⟩)
theorem mul{f g:Nat->Rat}{m n:Int}(hf:Cau f)(hg:Cau g)(h:SgS f m)(k:SgS g n):SgS (λk=>f k*g k) (m*n):=by
 rcases h with⟨rfl,h⟩|⟨rfl,h⟩|⟨rfl,h⟩
 .rw[Int.one_mul];rcases k with⟨rfl,k⟩|⟨rfl,k⟩|⟨rfl,k⟩
  .exact .inl ⟨rfl,h.mul k⟩
  .exact .inr (.inl ⟨rfl,(h.mul k).cg λn=>by grind⟩)
  .exact .inr (.inr ⟨rfl,(k.mul hf.bnd).cg λn=>by grind⟩)
 .rcases k with⟨rfl,k⟩|⟨rfl,k⟩|⟨rfl,k⟩
  .exact .inr (.inl ⟨rfl,(h.mul k).cg λn=>by grind⟩)
  .exact .inl ⟨rfl,(h.mul k).cg λn=>by grind⟩
  .exact .inr (.inr ⟨rfl,(k.mul hf.bnd).cg λn=>by grind⟩)
 .rw[Int.zero_mul];exact .inr (.inr ⟨rfl,h.mul hg.bnd⟩)
theorem const(q:Rat):SgS (λ_=>q) (bD q):=by
 rcases fF q with⟨a,e⟩|⟨a,e⟩|⟨a,e⟩<;>rw[e]
 .exact .inr (.inl ⟨rfl,⟨-q*(1/2),ν,0,λn _=>by grind⟩⟩)
 .subst a;exact .inr (.inr ⟨rfl,NulS.zero⟩)
 .exact .inl ⟨rfl,⟨q*(1/2),ν,0,λn _=>by grind⟩⟩
end SgS
def rE(n:Nat):Rat:=1/((n:Rat)+1)
theorem xY(n:Nat):(0:Rat)<=(n:Rat):=IL.2 (show(0:Int)<=(n:Int) by omega)
theorem tJ(n:Nat):0<rE n:=yw ν (by have:=xY n;grind)
theorem QM(n:Nat):rE n*((n:Rat)+1)=1:=by
 have h:(n:Rat)+1≠0:=by have:=xY n;grind
 unfold rE;grind
theorem eps_nul:NulS rE:=λd hd=>by
 refine⟨d.den,λn hn=>⟨by have:=tJ n;grind, ?_⟩⟩;have h1:=lM d;have h2:(1:Rat)<=(d.num:Rat):=IL.2 (show(1:Int)<=d.num by have:=(ab9 d).2 hd;omega);have h3:((d.den:Int):Rat)<=(n:Rat):=IL.2 (show(d.den:Int)<=(n:Int) by omega);have h4:=AQ (show 0<=d by grind) (show 0<=(n:Rat)-((d.den:Int):Rat) by grind);have h5:=QM n;have h6:=tJ n;rcases EO (a:=d) (b:=rE n)with h|h
 .have h7:=AQ (show 0<=rE n-d by grind) (show 0<=(n:Rat)+1 by have:=xY n;grind)
  grind
 .by_cases e:rE n=d
  .rw[e]at h5;grind
  .grind
def nK(c:Rat)(n:Nat):Rat:=((iC (c*(((n:Rat)+1)*((n:Rat)+1))).floor.toNat:Nat):Rat)*rE n
theorem wS{c:Rat}(hc:0<=c)(n:Nat):0<=nK c n/\nK c n*nK c n<=c/\c<(nK c n+rE n)*(nK c n+rE n):=by
 have hn:=xY n;have he:=tJ n;have hm:=QM n;generalize hx:c*(((n:Rat)+1)*((n:Rat)+1))=x;have hx0:0<=x:=by rw[<-hx];exact AQ hc (AQ ν ν)
 have f1:=Rat.floor_le (a:=x);have f2:=Rat.lt_floor_add_one (a:=x);have f0:0<=x.floor:=Rat.le_floor_iff.2 (by simpa using hx0);obtain⟨i1,i2⟩:=sO x.floor.toNat
 unfold nK;rw[hx];generalize iC x.floor.toNat=k at *
 have j1:(k:Rat)*(k:Rat)<=x:=by
  have:((k*k:Nat):Int)<=x.floor:=ω
  have:=IL.2 this;have e:(((k*k:Nat):Int):Rat)=(k:Rat)*(k:Rat):=by simp[Rat.natCast_mul,Rat.intCast_natCast]
  rw[e]at this;exact Rat.le_trans this f1
 have j2:x<((k:Rat)+1)*((k:Rat)+1):=by
  have:x.floor+1<=(((k+1)*(k+1):Nat):Int):=ω
  have:=IL.2 this;have e:((((k+1)*(k+1):Nat):Int):Rat)=((k:Rat)+1)*((k:Rat)+1):=by simp[Rat.natCast_mul,Rat.natCast_add,Rat.intCast_natCast]
  rw[e]at this;have e2:((x.floor+1:Int):Rat)=(x.floor:Rat)+1:=by rw[Rat.intCast_add];rfl
  grind
 have hk:=xY k;have ee:=F9 he he;have q1:c=x*(rE n*rE n):=by rw[<-hx];grind
 refine⟨AQ hk ν, ?_, ?_⟩
 .have:=AQ (show 0<=x-(k:Rat)*(k:Rat) by grind) (show 0<=rE n*rE n by grind);rw[q1];grind
 .have:=F9 (show 0<((k:Rat)+1)*((k:Rat)+1)-x by grind) ee;rw[q1];grind
theorem BL{x y:Rat}(hy:0<=y)(h:x*x<y*y):x<y:=by
 rcases EO (a:=y) (b:=x)with k|k
 .have p1:=AQ (show 0<=x-y by grind) hy;have p2:=AQ (show 0<=x-y by grind) (show 0<=x by grind)
  grind
 .by_cases e:x=y
  .subst e;grind
  .grind
theorem jO{c:Rat}(hc:0<=c):Cau (nK c):=λd hd=>by
 obtain⟨N,hN⟩:=eps_nul d hd;refine⟨N,λm n hm hn=>?_⟩;obtain⟨a1,a2,a3⟩:=wS hc m;obtain⟨b1,b2,b3⟩:=wS hc n;have:=BL (x:=nK c m) (y:=nK c n+rE n) (by have:=tJ n;grind) ν;have:=(hN n hn).2
 grind
theorem CG{c:Rat}(hc:0<=c):NulS λn=>nK c n*nK c n-c:=by
 have k:NulS λn=>rE n*(nK c n+nK c n+rE n):=eps_nul.mul (((jO hc).add (jO hc)).add (f:=λn=>nK c n+nK c n) (g:=rE) (λd hd=>by
  obtain⟨N,hN⟩:=eps_nul d hd
  exact⟨N,λm n hm hn=>by have:=(hN m hm).2;have:=tJ n;grind⟩)).bnd
 intro d hd;obtain⟨N,hN⟩:=k d hd;refine⟨N,λn hn=>?_⟩;obtain⟨a1,a2,a3⟩:=wS hc n;have:=hN n hn;simp only at this;constructor<;>grind
theorem XY{c:Rat}(hc:0<=c):SgS (nK c) (bD c):=by
 obtain⟨n,hn⟩:=SgS.ex (jO hc);have h1:SgS (λ_=>c) (n*n):=(hn.mul (jO hc) (jO hc) hn).near ((CG hc).neg.cg λk=>by grind);have h2:=h1.uniq (SgS.const c)
 have h3:n≠-1:=by
  rintro rfl;obtain⟨d,hd,N,hN⟩:=hn.npos;have:=hN N (jg _);have:=(wS hc N).1
  grind
 rcases hn.lim with rfl|rfl|rfl
 .rw[<-h2];exact hn
 .exact absurd rfl h3
 .rw[<-h2];exact hn
theorem Gn{F G:Nat->Rat}{x y z:Int}{c:Rat}(hF:Cau F)(hG:Cau G)(hc:0<=c)(h1:SgS F x)(h2:SgS G y)(h3:SgS (λn=>F n*F n-c*(G n*G n)) z):
 SgS (λn=>F n+G n*nK c n) (if x=y*bD c\/y*bD c=0 then x else if x=0 then y*bD c else x*z):=by
 have hr:=jO hc;have hy:=h2.mul hG hr (XY hc);generalize y*bD c=t at *;split
 .rename_i h;rcases h with rfl|rfl
  .exact h1.same hy
  .exact h1.nadd hy.nul
 .rename_i h;split
  .rename_i h0;subst h0;exact(hy.nadd h1.nul).cg λn=>by grind
  .rename_i h0;have hv:Cau λn=>F n+G n*nK c n:=hF.add (hG.mul hr)
   have hw:Cau λn=>F n-G n*nK c n:=hF.sub (hG.mul hr)
   have ht:t = -x:=by
    rcases h1.lim with rfl|rfl|rfl<;>rcases hy.lim with rfl|rfl|rfl<;>first|rfl|(exfalso;revert h h0;decide)
   subst ht
   have kw:SgS (λn=>F n-G n*nK c n) x:=by
    have:=h1.same (g:=λn=>-(G n*nK c n)) (by have:=hy.neg;rwa [Int.neg_neg]at this);exact this.cg λn=>by grind
   obtain⟨n,hn⟩:=SgS.ex hv;have p:=hn.mul hv hw kw;have q:SgS (λk=>F k*F k-c*(G k*G k)) (n*x):=p.near (((CG hc).mul (hG.mul hG).bnd).cg λk=>by grind);have e:=q.uniq h3;have:n=x*z:=by rw[<-e];rcases h1.lim with rfl|rfl|rfl<;>rcases hn.lim with rfl|rfl|rfl<;>first|rfl|(exfalso;exact h0 rfl)
   rw[<-this];exact hn
theorem WS{A B C:Rat}(hC:0<=C):SgS (λn=>A+B*nK C n) (fP A B C):=by
 have h:=Gn (Cau.const A) (Cau.const B) hC (SgS.const A) (SgS.const B) (SgS.const _)
 have e:(if bD A=bD B*bD C\/bD B*bD C=0 then bD A else if bD A=0 then bD B*bD C else bD A*bD (A*A-C*(B*B)))=fP A B C:=by
  unfold fP
  have:bD (A*A-C*(B*B))=jJ (A*A) (B*B*C):=by
   rcases fF (A*A-C*(B*B))with⟨a,e⟩|⟨a,e⟩|⟨a,e⟩<;>rw[e]
   .rw[wP ν]
   .rw[Iq ν]
   .rw[xA ν]
  rw[this]
 rw[<-e];exact h
def C9(A B C D M N:Rat):Int :=
 if fP A B M=fP C D M*bD N\/fP C D M*bD N=0 then fP A B M
 else if fP A B M=0 then fP C D M*bD N
 else fP A B M*fP (A*A+B*B*M-N*(C*C+D*D*M)) (A*B-N*(C*D)+(A*B-N*(C*D))) M
def v2(A B M:Rat)(n:Nat):Rat:=A+B*nK M n
def v4(A B C D M N:Rat)(n:Nat):Rat:=v2 A B M n+v2 C D M n*nK N n
theorem XC{A B M:Rat}(hM:0<=M):Cau (v2 A B M):=(Cau.const A).add ((Cau.const B).mul (jO hM))
theorem FC{A B M:Rat}(hM:0<=M):SgS (v2 A B M) (fP A B M):=WS hM
theorem acT{A B C D M N:Rat}(hM:0<=M)(hN:0<=N):SgS (v4 A B C D M N) (C9 A B C D M N):=by
 refine Gn (XC hM) (XC hM) hN (FC hM) (FC hM) ?_;refine(WS (A:=A*A+B*B*M-N*(C*C+D*D*M)) (B:=A*B-N*(C*D)+(A*B-N*(C*D))) hM).near ?_;exact((CG hM).mul (Cau.const (B*B-N*(D*D))).bnd).cg λn=>by unfold v2;grind
theorem Bnd.nul{f:Nat->Rat}(h:NulS f):Bnd f:=by
 obtain⟨N,hN⟩:=h 1 ν;exact⟨1,ν,N,hN⟩
theorem Bnd.add{f g:Nat->Rat}(h:Bnd f)(k:Bnd g):Bnd λn=>f n+g n:=by
 obtain⟨B,hB,N,hN⟩:=h;obtain⟨D,hD,M,hM⟩:=k;refine⟨B+D,ν,N+M,λn hn=>?_⟩;have:=hN n ω;have:=hM n ω;constructor<;>grind
theorem Bnd.cg{f g:Nat->Rat}(h:Bnd f)(e:∀n,f n=g n):Bnd g:=by rwa [funext e]at h
def ConS(p:Int×Int)(f:Nat->Rat):Prop:=∃g:Nat->Rat,NulS (λn=>g n-f n)/\∀n,con p (g n)
theorem ConS.const{p:Int×Int}{q:Rat}(h:con p q):ConS p λ_=>q:=⟨λ_=>q,NulS.zero.cg λn=>by grind,λ_=>h⟩
theorem ConS.cg{p:Int×Int}{f g:Nat->Rat}(h:ConS p f)(e:∀n,f n=g n):ConS p g:=by rwa [funext e]at h
theorem ConS.add{x y p:Int×Int}{f g:Nat->Rat}(e:jR x y=some p)(h:ConS x f)(k:ConS y g):ConS p λn=>f n+g n:=by
 obtain⟨u,hu,cu⟩:=h;obtain⟨v,hv,cv⟩:=k;exact⟨λn=>u n+v n,(hu.add hv).cg λn=>by grind,λn=>nJ e (cu n) (cv n)⟩
theorem ConS.mul{x y p:Int×Int}{f g:Nat->Rat}(e:jL x y=some p)(hf:Cau f)(hg:Cau g)(h:ConS x f)(k:ConS y g):ConS p λn=>f n*g n:=by
 obtain⟨u,hu,cu⟩:=h;obtain⟨v,hv,cv⟩:=k;have bv:Bnd v:=(hg.bnd.add (Bnd.nul hv)).cg λn=>by grind
 exact⟨λn=>u n*v n,((hu.mul bv).add (hv.mul hf.bnd)).cg λn=>by grind,λn=>sN e (cu n) (cv n)⟩
theorem ConS.rt{x p:Int×Int}{c:Rat}(e:jr x=some p)(hx:con x c)(h0:0<=c):ConS p (nK c):=by
 obtain⟨k1,k2,k3,k4⟩:=JI e hx h0;have j1:=IL.2 k3;have j2:=IL.2 k4;have z0:((0:Int):Rat)=0:=rfl;rw[z0]at j1;obtain⟨s,hs⟩:∃s:Rat,s*65536=(p.1:Rat):=⟨(p.1:Rat)*(1/65536),ν⟩
 obtain⟨t,ht⟩:∃t:Rat,t*65536=(p.2:Rat):=⟨(p.2:Rat)*(1/65536),ν⟩
 rw[<-hs]at k1 j1 j2;rw[<-ht]at k2 j2;have a1:s*s<=c:=ν
 have a2:c<=t*t:=ν
 have s0:0<=s:=ν
 have t0:0<=t:=ν
 have hi:∀n,nK c n<=t:=λn=>by
  obtain⟨b1,b2,b3⟩:=wS h0 n;rcases EO (a:=nK c n) (b:=t)with h|h
  .exact h
  .by_cases q:nK c n=t
   .grind
   .have:=Fa t0 (show t<nK c n by grind)
    grind
 have lo:∀n,s<nK c n+rE n:=λn=>by
  obtain⟨b1,b2,b3⟩:=wS h0 n;exact BL (by have:=tJ n;grind) ν
 refine⟨λn=>if nK c n<s then s else nK c n,λd hd=>?_,λn=>?_⟩
 .obtain⟨N,hN⟩:=eps_nul d hd;refine⟨N,λn hn=>?_⟩;have:=hN n hn;have:=lo n
  by_cases hl:nK c n<s
  .simp only[if_pos hl];constructor<;>grind
  .simp only[if_neg hl];constructor<;>grind
 .have:=hi n;unfold con
  by_cases hl:nK c n<s
  .simp only[if_pos hl];constructor<;>grind
  .simp only[if_neg hl];constructor<;>grind
theorem ConS.sg{p:Int×Int}{f:Nat->Rat}{n:Int}(h:zi p.1 p.2=(n,true))(k:ConS p f):SgS f n:=by
 obtain⟨g,hg,cg⟩:=k;have z:((0:Int):Rat)=0:=rfl
 have key:SgS g n:=by
  unfold zi at h;split at h
  .rename_i hl;injection h with h3 h4
   subst h3;have:=Rat.intCast_lt_intCast.2 hl;rw[z]at this;refine .of_pos ⟨(p.1:Rat)*(1/131072),ν,0,λn _=>?_⟩;have:=(cg n).1
   grind
  .split at h
   .rename_i hl;injection h with h3 h4
    subst h3;have:=Rat.intCast_lt_intCast.2 hl;rw[z]at this;refine .of_npos ⟨-(p.2:Rat)*(1/131072),ν,0,λn _=>?_⟩;have:=(cg n).2
    grind
   .injection h with h3 h4
    subst h3;have hz:=of_decide_eq_true h4;refine .of_nul λd hd=>⟨0,λn _=>?_⟩
    obtain⟨a,b⟩:=cg n;rw[hz.1,z]at a;rw[hz.2,z]at b;constructor<;>grind
 exact key.near (hg.neg.cg λn=>by grind)
theorem ConS.root{a b c:Rat}{p:Int×Int}(h0:0<=c)(e:bQ a b c=some p):ConS p (v2 a b c):=by
 unfold bQ at e;cases ha:dh a with
 |none=>rw[ha]at e;cases e
 |some x =>
  rw[ha]at e;simp only at e
  by_cases hb:b=0
  .rw[if_pos hb]at e;injection e with e
   subst e;exact(ConS.const (gq ha)).cg λn=>by unfold v2;rw[hb];grind
  .rw[if_neg hb]at e;cases hy:dh b with
   |none=>rw[hy]at e;cases e
   |some y =>
    cases hz:dh c with
    |none=>rw[hy,hz]at e;cases e
    |some z =>
     rw[hy,hz]at e;simp only at e;split at e
     .cases e
     .cases hw:jr z with
      |none=>rw[hw]at e;cases e
      |some w =>
       rw[hw]at e;simp only at e;cases hp:jL y w with
       |none=>rw[hp]at e;cases e
       |some m =>
        rw[hp]at e;simp only at e;exact ConS.add e (ConS.const (gq ha)) (ConS.mul hp (Cau.const b) (jO h0) (ConS.const (gq hy)) (ConS.rt hw (gq hz) h0))
theorem ConS.lt{p q:Int×Int}{f g:Nat->Rat}(h:ConS p f)(k:ConS q g)(hl:p.2<q.1):SgS (λn=>f n-g n) (-1):=by
 obtain⟨u,hu,cu⟩:=h;obtain⟨v,hv,cv⟩:=k;have:=Rat.intCast_lt_intCast.2 hl
 have key:SgS (λn=>u n-v n) (-1):=.of_npos ⟨((q.1:Rat)-(p.2:Rat))*(1/131072),ν,0,λn _=>by
  have:=(cu n).2;have:=(cv n).1
  grind⟩
 exact key.near ((hv.sub hu).cg λn=>by grind)
def m4I(M N:Rat):Option ((Int×Int)×(Int×Int)) :=
 match dh M,dh N with
 |some x,some y=>(match jr x,jr y with|some m,some n=>some (m,n)|_,_=>none)
 |_,_=>none
def mI(q:Rat)(m:Int×Int):Option (Int×Int):=match dh q with|some x=>jL x m|none=>none
def sZ(A B C D M N:Rat):Option (Int×Int) :=
 match m4I M N with
 |some (m,n)=>(match mI B m,mI C n,jL m n with
  |some b,some c,some k=>(match mI D k,dh A with
   |some d,some a=>(match jR a b,jR c d with
    |some x,some y=>jR x y
    |_,_=>none)
   |_,_=>none)
  |_,_,_=>none)
 |none=>none
theorem OW{q:Rat}{m p:Int×Int}{f:Nat->Rat}(hf:Cau f)(e:mI q m=some p)(k:ConS m f):ConS p λn=>q*f n:=by
 unfold mI at e;cases h:dh q with
 |none=>rw[h]at e;cases e
 |some x=>rw[h]at e;exact ConS.mul e (Cau.const q) hf (ConS.const (gq h)) k
theorem OH{A B C D M N:Rat}{p:Int×Int}(hM:0<=M)(hN:0<=N)(e:sZ A B C D M N=some p):ConS p (v4 A B C D M N):=by
 unfold sZ m4I at e;have cM:=jO hM;have cN:=jO hN;cases h1:dh M with
 |none=>rw[h1]at e;cases e
 |some x =>
 cases h2:dh N with
 |none=>rw[h1,h2]at e;cases e
 |some y =>
 rw[h1,h2]at e;simp only at e;cases h3:jr x with
 |none=>rw[h3]at e;cases e
 |some m =>
 cases h4:jr y with
 |none=>rw[h3,h4]at e;cases e
 |some n =>
 rw[h3,h4]at e;simp only at e;have r1:=ConS.rt h3 (gq h1) hM;have r2:=ConS.rt h4 (gq h2) hN;cases h5:mI B m with
 |none=>rw[h5]at e;cases e
 |some b =>
 cases h6:mI C n with
 |none=>rw[h5,h6]at e;cases e
 |some c =>
 cases h7:jL m n with
 |none=>rw[h5,h6,h7]at e;cases e
 |some k =>
 rw[h5,h6,h7]at e;simp only at e;cases h8:mI D k with
 |none=>rw[h8]at e;cases e
 |some d =>
 cases h9:dh A with
 |none=>rw[h8,h9]at e;cases e
 |some a =>
 rw[h8,h9]at e;simp only at e;cases h10:jR a b with
 |none=>rw[h10]at e;cases e
 |some u =>
 cases h11:jR c d with
 |none=>rw[h10,h11]at e;cases e
 |some v =>
 rw[h10,h11]at e;simp only at e;have q1:=ConS.add h10 (ConS.const (gq h9)) (OW cM h5 r1);have q2:=ConS.add h11 (OW cN h6 r2) (OW (cM.mul cN) h8 (ConS.mul h7 cM cN r1 r2));exact(ConS.add e q1 q2).cg λn=>by unfold v4 v2;grind
theorem Ug{A B C D M N:Rat}{p:Int×Int}{n:Int}(hM:0<=M)(hN:0<=N)(e:sZ A B C D M N=some p)(h:zi p.1 p.2=(n,true)):C9 A B C D M N=n :=
 (acT hM hN).uniq ((OH hM hN e).sg h)
def cmp4(a b c d e f:Rat):Int:=C9 (a-d) b (-e) 0 c f
theorem lY{a b c d e f:Rat}(hc:0<=c)(hf:0<=f):SgS (λn=>v2 a b c n-v2 d e f n) (cmp4 a b c d e f) :=
 (acT hc hf).cg λn=>by unfold v4 v2;grind
theorem DI{a b c d e f:Rat}{p q:Int×Int}(hc:0<=c)(hf:0<=f)(h1:bQ a b c=some p)(h2:bQ d e f=some q)(hl:p.2<q.1):cmp4 a b c d e f = -1 :=
 (lY hc hf).uniq (ConS.lt (ConS.root hc h1) (ConS.root hf h2) hl)
theorem Ej{a b c d e f:Rat}(hc:0<=c)(hf:0<=f):cmp4 d e f a b c = -cmp4 a b c d e f :=
 (lY hf hc).uniq ((lY hc hf).neg.cg λn=>by grind)
theorem Mc{a b c d e f:Rat}{p q:Int×Int}(hc:0<=c)(hf:0<=f)(h1:bQ a b c=some p)(h2:bQ d e f=some q)(hl:q.2<p.1):cmp4 a b c d e f=1:=by
 have:=DI hf hc h2 h1 hl;rw[Ej hc hf]at this;omega
theorem Xd{a b c d e:Rat}(hc:0<=c):cmp4 a b c d e c=fP (a-d) (b-e) c :=
 (lY hc hc).uniq ((FC hc).cg λn=>by unfold v2;grind)
theorem Xv(a d:Rat):bD (a-d)=jJ a d:=by
 rcases fF (a-d)with⟨h,e⟩|⟨h,e⟩|⟨h,e⟩<;>rw[e]
 .rw[wP ν]
 .rw[Iq ν]
 .rw[xA ν]
theorem Y9{a c d f:Rat}(hc:0<=c)(hf:0<=f):cmp4 a 0 c d 0 f=jJ a d:=by
 rw[<-Xv];exact(lY hc hf).uniq ((SgS.const (a-d)).cg λn=>by unfold v2;grind)
theorem w51:IntKind.i64.wrap (5+1)=6:=ψ
end Go.Sw
