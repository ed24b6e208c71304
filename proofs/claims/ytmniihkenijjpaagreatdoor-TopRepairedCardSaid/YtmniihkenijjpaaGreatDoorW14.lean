/-
  Rules of the abstract run, plain laws, and what functions answer, for the law TopRepaired.
  Conditions: none.
-/
import Derived.Test.YtmniihkenijjpaaGreatDoorW13
import Derived.Shelf.SlicesE.Clone
set_option linter.all false
namespace Go.Proofs.YtmniihkenijjpaaGreatDoor
open Go Go.RowKit Go.Sw
set_option maxRecDepth 100000
set_option maxHeartbeats 16000000
set_option synthInstance.maxSize 4000
set_option synthInstance.maxHeartbeats 400000
@[reducible] def tX(X Y Q:Rat)(cw:Bool)(a b e f:Rat):List Cell:=[.v (.bool true),zs (0:Rat).num,zl (0:Rat).num,zs (0:Rat).den,zl (0:Rat).den,zs (0:Rat).num,zl (0:Rat).num,zs (0:Rat).den,zl (0:Rat).den,zs (0:Rat).num,zl (0:Rat).num,zs (0:Rat).den,zl (0:Rat).den,zs X.num,zl X.num,zs X.den,zl X.den,zs Y.num,zl Y.num,zs Y.den,zl Y.den,zs Q.num,zl Q.num,zs Q.den,zl Q.den,.v (.bool cw),zs a.num,zl a.num,zs a.den,zl a.den,zs (0:Rat).num,zl (0:Rat).num,zs (0:Rat).den,zl (0:Rat).den,zs b.num,zl b.num,zs b.den,zl b.den,zs (0:Rat).num,zl (0:Rat).num,zs (0:Rat).den,zl (0:Rat).den,zs (0:Rat).num,zl (0:Rat).num,zs (0:Rat).den,zl (0:Rat).den,zs e.num,zl e.num,zs e.den,zl e.den,zs (0:Rat).num,zl (0:Rat).num,zs (0:Rat).den,zl (0:Rat).den,zs f.num,zl f.num,zs f.den,zl f.den,zs (0:Rat).num,zl (0:Rat).num,zs (0:Rat).den,zl (0:Rat).den,zs (0:Rat).num,zl (0:Rat).num,zs (0:Rat).den,zl (0:Rat).den]
instance ZU:DenI Tryz.prog 367 [] (True) (R 0):=⟨λhp=>by
 refine aA Tryz.func367 rfl ?_
 all_goals(repeat'((try(conv=>whnf));first
  |refine y5 ?_ ?_|apply zaq))
 all_goals(try apply zar)
 all_goals first
  |rfl|omega⟩
instance XV(a:Rat):DenI Tryz.prog 358 [R a] (rz a<=4000000) (Q3 a 0 0):=⟨λhp=>by
 have i_a:RzB a 4000000:=⟨hp⟩
 all_goals refine aA Tryz.func358 rfl ?_
 all_goals(repeat'((try(conv=>whnf));first
  |refine aaj ?_|refine zas ζ ?_|apply zaq))
 all_goals first
  |rfl⟩
instance ZX:DenI Tryz.prog 208 [] (True) (R 0):=⟨λhp=>by
 refine aA Tryz.func208 rfl ?_
 all_goals(repeat'((try(conv=>whnf));first
  |refine y5 ?_ ?_|apply zaq))
 all_goals(try apply zar)
 all_goals first
  |rfl|omega⟩
instance aac(a b:Rat):DenI Tryz.prog 167 [Q2 a b] (rz a<=4000000/\rz b<=4000000) (Q5 a 0 b 0 0):=⟨λhp=>by
 have i_a:RzB a 4000000:=⟨hp.1⟩
 have i_b:RzB b 4000000:=⟨hp.2⟩
 all_goals refine aA Tryz.func167 rfl ?_
 all_goals(repeat'((try(conv=>whnf));first
  |refine aaj ?_|refine zas ζ ?_|apply zaq))
 all_goals first
  |rfl⟩
instance Zx(a:Rat):DenI Tryz.prog 313 [R a,R 0,R 0] (rz a<=4000000) (Q3 a 0 0):=⟨λhp=>by
 have i_a:RzB a 4000000:=⟨hp⟩
 all_goals refine aA Tryz.func313 rfl ?_
 all_goals(repeat'((try(conv=>whnf));first
  |refine aaj ?_|(with_reducible refine aah (λ_=>?_) (λ_=>?_))|apply zaq))
 all_goals(try simp only[dO]at *)
 all_goals first
  |rfl⟩
instance q_x(a d:Rat):DenI Tryz.prog 272 [Q5 a 0 d 0 0] (rz a<=4000000/\rz d<=4000000) (Q3 a 0 0):=⟨λhp=>by
 have i_a:RzB a 4000000:=⟨hp.1⟩
 have i_d:RzB d 4000000:=⟨hp.2⟩
 all_goals refine aA Tryz.func272 rfl ?_
 all_goals(repeat'((try(conv=>whnf));first
  |refine y5 ?_ ?_|apply zaq))
 all_goals(try apply zar)
 all_goals first
  |rfl|exact zau⟩
instance q_y(a d:Rat):DenI Tryz.prog 273 [Q5 a 0 d 0 0] (rz a<=4000000/\rz d<=4000000) (Q3 d 0 0):=⟨λhp=>by
 have i_a:RzB a 4000000:=⟨hp.1⟩
 have i_d:RzB d 4000000:=⟨hp.2⟩
 all_goals refine aA Tryz.func273 rfl ?_
 all_goals(repeat'((try(conv=>whnf));first
  |refine y5 ?_ ?_|apply zaq))
 all_goals(try apply zar)
 all_goals first
  |rfl|exact zau⟩
instance Y2(a d:Rat):DenI Tryz.prog 271 [Q3 a 0 0,Q3 d 0 0] (rz a<=4000000/\rz d<=4000000) (.int .i64 (dU a d)):=⟨λhp=>by
 have i_a:RzB a 4000000:=⟨hp.1⟩
 have i_d:RzB d 4000000:=⟨hp.2⟩
 all_goals refine aA Tryz.func271 rfl ?_
 all_goals(repeat'((try(conv=>whnf));first
  |refine aaj ?_|refine y5 ?_ ?_|(with_reducible first|refine aam ?_|refine aao ?_|refine aah (λ_=>?_) (λ_=>?_))|apply zaq))
 all_goals(try apply zar)
 all_goals(try simp only[dO]at *)
 all_goals first
  |rfl|exact zau|(exfalso;simp_all;done)⟩
instance WW(a d:Rat):DenI Tryz.prog 339 [Q3 a 0 0,R d] (rz a<=4000000/\rz d<=4000000) (.int .i64 (dU a d)):=⟨λhp=>by
 have i_a:RzB a 4000000:=⟨hp.1⟩
 have i_d:RzB d 4000000:=⟨hp.2⟩
 all_goals refine aA Tryz.func339 rfl ?_
 all_goals(repeat'((try(conv=>whnf));first
  |refine y5 ?_ ?_|refine zas ζ ?_|apply zaq))
 all_goals(try apply zar)
 all_goals first
  |rfl|exact zau⟩
instance XO(X Y Q x y:Rat):DenI Tryz.prog 314 [Q3 X Y Q,Q5 x 0 y 0 0] (rz X<=1000000/\rz Y<=1000000/\rz Q<=1000000/\rz x<=1000000/\rz y<=1000000) (.int .i64 (hf (X,Y) (x,y))):=⟨λhp=>by
 have i_X:RzB X 1000000:=⟨hp.1⟩
 have i_Y:RzB Y 1000000:=⟨hp.2.1⟩
 have i_Q:RzB Q 1000000:=⟨hp.2.2.1⟩
 have i_x:RzB x 1000000:=⟨hp.2.2.2.1⟩
 have i_y:RzB y 1000000:=⟨hp.2.2.2.2⟩
 all_goals refine aA Tryz.func314 rfl ?_
 all_goals(repeat'((try(conv=>whnf));first
  |refine y5 ?_ ?_|(with_reducible first|refine aam ?_|refine aao ?_|refine aah (λ_=>?_) (λ_=>?_))|refine zas ζ ?_|apply zaq))
 all_goals(try apply zar)
 all_goals(try simp only[dO]at *)
 all_goals first
  |(refine iE ?_;unfold hf;grind)|exact zau⟩
instance Ya(X Y Q x y u v:Rat):DenI Tryz.prog 277 [Q3 X Y Q,Q5 x 0 y 0 0,Q5 u 0 v 0 0] (rz X<=1000000/\rz Y<=1000000/\rz Q<=1000000/\rz x<=1000000/\rz y<=1000000/\rz u<=1000000/\rz v<=1000000) (.int .i64 (bT (X,Y) (x,y) (u,v))):=⟨λhp=>by
 have i_X:RzB X 1000000:=⟨hp.1⟩
 have i_Y:RzB Y 1000000:=⟨hp.2.1⟩
 have i_Q:RzB Q 1000000:=⟨hp.2.2.1⟩
 have i_x:RzB x 1000000:=⟨hp.2.2.2.1⟩
 have i_y:RzB y 1000000:=⟨hp.2.2.2.2.1⟩
 have i_u:RzB u 1000000:=⟨hp.2.2.2.2.2.1⟩
 have i_v:RzB v 1000000:=⟨hp.2.2.2.2.2.2⟩
 have z1:=tK (X,Y) (x,y);have z2:=tK (X,Y) (u,v);have z3:=rH x u
 all_goals refine aA Tryz.func277 rfl ?_
 all_goals(repeat'((try(conv=>whnf));first
  |refine y5 ?_ ?_|(with_reducible first|refine aah (λ_=>?_) (λ_=>?_)|refine aav (λ_=>?_) (λ_=>?_))|refine zas ζ ?_|apply zaq))
 all_goals(try apply zar)
 all_goals first
  |(refine iE ?_;(try rw[aT ω ω]);unfold bT;grind)|exact zau⟩
instance Y3(X Y Q x y u v:Rat):DenI Tryz.prog 275 [Q3 X Y Q,Q5 x 0 y 0 0,Q5 u 0 v 0 0] (rz X<=1000000/\rz Y<=1000000/\rz Q<=1000000/\rz x<=1000000/\rz y<=1000000/\rz u<=1000000/\rz v<=1000000) (.int .i64 (y7 (X,Y) (x,y) (u,v))):=⟨λhp=>by
 have i_X:RzB X 1000000:=⟨hp.1⟩
 have i_Y:RzB Y 1000000:=⟨hp.2.1⟩
 have i_Q:RzB Q 1000000:=⟨hp.2.2.1⟩
 have i_x:RzB x 1000000:=⟨hp.2.2.2.1⟩
 have i_y:RzB y 1000000:=⟨hp.2.2.2.2.1⟩
 have i_u:RzB u 1000000:=⟨hp.2.2.2.2.2.1⟩
 have i_v:RzB v 1000000:=⟨hp.2.2.2.2.2.2⟩
 all_goals refine aA Tryz.func275 rfl ?_
 all_goals(repeat'((try(conv=>whnf));first
  |refine y5 ?_ ?_|(with_reducible refine aah (λ_=>?_) (λ_=>?_))|apply zaq))
 all_goals(try apply zar)
 all_goals first
  |(refine iE ?_;unfold y7;grind)|exact zau⟩
instance YH(n:Int):DenI Tryz.prog 276 [.int .i64 n] (True) (.int .i64 (fD n)):=⟨λhp=>by
 refine aA Tryz.func276 rfl ?_
 all_goals(repeat'((try(conv=>whnf));first
  |apply zaq))
 all_goals first
  |(refine iE ?_;simp only[List.foldl_cons,List.foldl_nil];unfold fD;(repeat' split)<;>omega)⟩
instance YO(X Y Q x y u v s t:Rat):DenI Tryz.prog 242 [Q3 X Y Q,Q5 x 0 y 0 0,Q5 u 0 v 0 0,Q5 s 0 t 0 0] (rz X<=1000000/\rz Y<=1000000/\rz Q<=1000000/\rz x<=1000000/\rz y<=1000000/\rz u<=1000000/\rz v<=1000000/\rz s<=1000000/\rz t<=1000000) (.int .i64 (sZ (X,Y) (x,y) (u,v) (s,t))):=⟨λhp=>by
 have i_X:RzB X 1000000:=⟨hp.1⟩
 have i_Y:RzB Y 1000000:=⟨hp.2.1⟩
 have i_Q:RzB Q 1000000:=⟨hp.2.2.1⟩
 have i_x:RzB x 1000000:=⟨hp.2.2.2.1⟩
 have i_y:RzB y 1000000:=⟨hp.2.2.2.2.1⟩
 have i_u:RzB u 1000000:=⟨hp.2.2.2.2.2.1⟩
 have i_v:RzB v 1000000:=⟨hp.2.2.2.2.2.2.1⟩
 have i_s:RzB s 1000000:=⟨hp.2.2.2.2.2.2.2.1⟩
 have i_t:RzB t 1000000:=⟨hp.2.2.2.2.2.2.2.2⟩
 have z4:=Ce (X,Y) (x,y) (u,v);have z5:=Ce (X,Y) (x,y) (s,t)
 all_goals refine aA Tryz.func242 rfl ?_
 all_goals(repeat'((try(conv=>whnf));first
  |refine aaj ?_|refine y5 ?_ ?_|(with_reducible refine aav (λ_=>?_) (λ_=>?_))|refine zas ζ ?_|apply zaq))
 all_goals(try apply zar)
 all_goals first
  |(refine iE ?_;unfold sZ;rw[if_neg ξ,aT ω ω])|(refine iE ?_;unfold sZ;rw[if_pos ξ])|exact zau⟩
instance Zd(X Y Q a b e f:Rat):DenI Tryz.prog 274 [.agg (tX X Y Q true a b e f)] (rz X<=1000000/\rz Y<=1000000/\rz Q<=1000000/\rz a<=1000000/\rz b<=1000000/\rz e<=1000000/\rz f<=1000000) (.agg (tX X Y Q false e f a b)):=⟨λhp=>by
 have i_X:RzB X 1000000:=⟨hp.1⟩
 have i_Y:RzB Y 1000000:=⟨hp.2.1⟩
 have i_Q:RzB Q 1000000:=⟨hp.2.2.1⟩
 have i_a:RzB a 1000000:=⟨hp.2.2.2.1⟩
 have i_b:RzB b 1000000:=⟨hp.2.2.2.2.1⟩
 have i_e:RzB e 1000000:=⟨hp.2.2.2.2.2.1⟩
 have i_f:RzB f 1000000:=⟨hp.2.2.2.2.2.2⟩
 all_goals refine aA Tryz.func274 rfl ?_
 all_goals(repeat'((try(conv=>whnf));first
  |(with_reducible refine aam ?_)|apply zaq))
 all_goals first
  |rfl⟩
instance Yf(X Y Q a b e f:Rat):DenI Tryz.prog 241 [.agg (tX X Y Q true a b e f)] (rz X<=1000000/\rz Y<=1000000/\rz Q<=1000000/\rz a<=1000000/\rz b<=1000000/\rz e<=1000000/\rz f<=1000000) (.agg (tX X Y Q false e f a b)):=⟨λhp=>by
 have i_X:RzB X 1000000:=⟨hp.1⟩
 have i_Y:RzB Y 1000000:=⟨hp.2.1⟩
 have i_Q:RzB Q 1000000:=⟨hp.2.2.1⟩
 have i_a:RzB a 1000000:=⟨hp.2.2.2.1⟩
 have i_b:RzB b 1000000:=⟨hp.2.2.2.2.1⟩
 have i_e:RzB e 1000000:=⟨hp.2.2.2.2.2.1⟩
 have i_f:RzB f 1000000:=⟨hp.2.2.2.2.2.2⟩
 all_goals refine aA Tryz.func241 rfl ?_
 all_goals(repeat'((try(conv=>whnf));first
  |refine y5 ?_ ?_|(with_reducible refine aam ?_)|apply zaq))
 all_goals(try apply zar)
 all_goals first
  |rfl|exact zau⟩
instance X9(X Y Q a b e f:Rat):DenI Tryz.prog 241 [.agg (tX X Y Q false a b e f)] (rz X<=1000000/\rz Y<=1000000/\rz Q<=1000000/\rz a<=1000000/\rz b<=1000000/\rz e<=1000000/\rz f<=1000000) (.agg (tX X Y Q false a b e f)):=⟨λhp=>by
 have i_X:RzB X 1000000:=⟨hp.1⟩
 have i_Y:RzB Y 1000000:=⟨hp.2.1⟩
 have i_Q:RzB Q 1000000:=⟨hp.2.2.1⟩
 have i_a:RzB a 1000000:=⟨hp.2.2.2.1⟩
 have i_b:RzB b 1000000:=⟨hp.2.2.2.2.1⟩
 have i_e:RzB e 1000000:=⟨hp.2.2.2.2.2.1⟩
 have i_f:RzB f 1000000:=⟨hp.2.2.2.2.2.2⟩
 all_goals refine aA Tryz.func241 rfl ?_
 all_goals(repeat'((try(conv=>whnf));first
  |(with_reducible refine aao ?_)|apply zaq))
 all_goals first
  |rfl⟩
instance Xl:DenI Tryz.prog 166 [] (True) (.agg [.v (.bool false),zs (0:Rat).num,zl (0:Rat).num,zs (0:Rat).den,zl (0:Rat).den,zs (0:Rat).num,zl (0:Rat).num,zs (0:Rat).den,zl (0:Rat).den,zs (0:Rat).num,zl (0:Rat).num,zs (0:Rat).den,zl (0:Rat).den,zs (0:Rat).num,zl (0:Rat).num,zs (0:Rat).den,zl (0:Rat).den,zs (0:Rat).num,zl (0:Rat).num,zs (0:Rat).den,zl (0:Rat).den,zs (0:Rat).num,zl (0:Rat).num,zs (0:Rat).den,zl (0:Rat).den,.v (.bool false),.v (.bool false),.sl 1 [],.v (.bool false),.sl 1 [],.v (.bool false),.sl 1 [],.v (.bool false),.sl 1 [],.v (.bool false),.sl 1 [],.v (.bool false),.sl 1 [],.v (.bool false),.sl 1 [],.v (.bool false),.sl 1 [],.v (.bool false),.sl 1 [],.v (.bool false),.sl 1 [],.v (.bool false),.sl 1 [],.v (.bool false),.sl 1 [],.v (.bool false),.sl 1 [],.v (.bool false),.sl 1 [],.v (.bool false),.sl 1 [],.v (.bool false),.sl 1 [],.v (.bool false),.sl 1 [],.v (.bool false),.sl 1 [],.v (.bool false),.sl 1 [],.v (.bool false),.sl 1 []]):=⟨λhp=>by
 refine aA Tryz.func166 rfl ?_
 all_goals(repeat'((try(conv=>whnf));first
  |refine y5 ?_ ?_|apply zaq))
 all_goals(try apply zar)
 all_goals(try simp only[dO]at *)
 all_goals first
  |rfl|omega⟩
instance Zz(a b c d e f:Rat):DenC Tryz.prog 125 [Q2 a b,Q2 c d,Q2 e f] (rz a<=100/\rz b<=100/\rz c<=100/\rz d<=100/\rz e<=100/\rz f<=100) (cD a b c d e f=0) (.tup [.agg [.v (.bool false),.v (.bool false),.sl 1 [],.v (.bool false),.sl 1 [],.v (.bool false),.sl 1 [],.v (.bool false),.sl 1 [],.v (.bool false),.sl 1 [],.v (.bool false),.sl 1 [],.v (.bool false),.sl 1 [],.v (.bool false),.sl 1 [],.v (.bool false),.sl 1 [],.v (.bool false),.sl 1 [],.v (.bool false),.sl 1 [],.v (.bool false),.sl 1 [],.v (.bool false),.v (.bool false),.sl 1 [],.v (.bool false),.sl 1 [],.v (.bool false),.sl 1 [],.v (.bool false),.sl 1 [],.v (.bool false),.sl 1 [],.v (.bool false),.sl 1 [],.v (.bool false),.sl 1 [],.v (.bool false),.sl 1 [],.v (.bool false),.sl 1 [],.v (.bool false),.sl 1 [],.v (.bool false),.sl 1 [],.v (.bool false),.sl 1 [],.v (.bool false),.sl 1 [],.v (.bool false),.sl 1 [],.v (.bool false),.sl 1 [],.v (.bool false),.sl 1 [],.v (.bool false),.sl 1 [],.v (.bool false),.sl 1 [],.v (.bool false),.sl 1 [],.v (.bool false),.sl 1 []],.int .i64 6]) (.tup [.agg (tX (TF (a,b) (c,d) (e,f)) (Uh (a,b) (c,d) (e,f)) (JZ (a,b) (c,d) (e,f)) (!decide (0<cD a b c d e f)) a b e f),.int .i64 0]):=⟨aib λhp q e1 e2=>by
 have i_a:RzB a 100:=⟨hp.1⟩
 have i_b:RzB b 100:=⟨hp.2.1⟩
 have i_c:RzB c 100:=⟨hp.2.2.1⟩
 have i_d:RzB d 100:=⟨hp.2.2.2.1⟩
 have i_e:RzB e 100:=⟨hp.2.2.2.2.1⟩
 have i_f:RzB f 100:=⟨hp.2.2.2.2.2⟩
 all_goals refine aA Tryz.func125 rfl ?_
 all_goals(repeat'((try(conv=>whnf));first
  |refine aaj ?_|refine y5 ?_ ?_|refine aa5 ?_ (λ_=>?_) (λ_=>?_)|(with_reducible refine aav (λ_=>?_) (λ_=>?_))|refine zas ζ ?_|apply zaq))
 all_goals(try apply zar)
 all_goals(try simp only[dO]at *)
 all_goals first
  |(exfalso;omega)|exact zav|(rw[e2 (by unfold cD;assumption),ZP];rfl)|(rw[e1 (by unfold cD;assumption)];rfl)|exact zau⟩
instance Yq(X Y Q a b e f x y:Rat)(cw:Bool):DenI Tryz.prog 209 [.agg (tX X Y Q cw a b e f),Q5 x 0 y 0 0] (rz X<=7000/\rz Y<=7000/\rz Q<=27000/\rz a<=12/\rz b<=12/\rz e<=12/\rz f<=12/\rz x<=12/\rz y<=12) (.bool (decide (vJ (X,Y) Q (x,y)))):=⟨λhp=>by
 obtain⟨q0,q1,q2,q3,q4,q5,q6,q7,q8⟩:=hp;have i_X:RzB X 7000:=⟨q0⟩
 have i_Y:RzB Y 7000:=⟨q1⟩
 have i_Q:RzB Q 27000:=⟨q2⟩
 have i_a:RzB a 12:=⟨q3⟩
 have i_b:RzB b 12:=⟨q4⟩
 have i_e:RzB e 12:=⟨q5⟩
 have i_f:RzB f 12:=⟨q6⟩
 have i_x:RzB x 12:=⟨q7⟩
 have i_y:RzB y 12:=⟨q8⟩
 all_goals refine aA Tryz.func209 rfl ?_
 all_goals(repeat'((try(conv=>whnf));first
  |refine y5 ?_ ?_|(with_reducible refine aam ?_)|apply zaq))
 all_goals(try apply zar)
 all_goals first
  |exact bE Na|exact⟨ξ,ξ,ξ,ξ,ξ⟩⟩
instance Za(X Y Q a b e f x y:Rat)(cw:Bool):DenI Tryz.prog 210 [.agg (tX X Y Q cw a b e f),Q5 x 0 y 0 0] (rz X<=7000/\rz Y<=7000/\rz Q<=27000/\rz a<=12/\rz b<=12/\rz e<=12/\rz f<=12/\rz x<=12/\rz y<=12) (.bool (decide ((if cw=true then sZ (X,Y) (e,f) (x,y) (a,b) else sZ (X,Y) (a,b) (x,y) (e,f))<=0))):=⟨λhp=>by
 obtain⟨q0,q1,q2,q3,q4,q5,q6,q7,q8⟩:=hp;have i_X:RzB X 7000:=⟨q0⟩
 have i_Y:RzB Y 7000:=⟨q1⟩
 have i_Q:RzB Q 27000:=⟨q2⟩
 have i_a:RzB a 12:=⟨q3⟩
 have i_b:RzB b 12:=⟨q4⟩
 have i_e:RzB e 12:=⟨q5⟩
 have i_f:RzB f 12:=⟨q6⟩
 have i_x:RzB x 12:=⟨q7⟩
 have i_y:RzB y 12:=⟨q8⟩
 cases cw
 all_goals refine aA Tryz.func210 rfl ?_
 all_goals(repeat'((try(conv=>whnf));first
  |refine y5 ?_ ?_|refine zat (λ_=>?_) (λ_=>?_)|apply zaq))
 all_goals(try apply zar)
 all_goals(try simp only[dO]at *)
 all_goals first
  |rfl|exact zau|(exfalso;simp_all;done)⟩
instance ZO(X Y Q a b e f x y:Rat)(cw:Bool):DenI Tryz.prog 168 [.agg (tX X Y Q cw a b e f),Q5 x 0 y 0 0] (rz X<=7000/\rz Y<=7000/\rz Q<=27000/\rz a<=12/\rz b<=12/\rz e<=12/\rz f<=12/\rz x<=12/\rz y<=12) (.bool (TB (X,Y) Q cw (a,b) (e,f) (x,y))):=⟨λhp=>by
 obtain⟨q0,q1,q2,q3,q4,q5,q6,q7,q8⟩:=hp;have i_X:RzB X 7000:=⟨q0⟩
 have i_Y:RzB Y 7000:=⟨q1⟩
 have i_Q:RzB Q 27000:=⟨q2⟩
 have i_a:RzB a 12:=⟨q3⟩
 have i_b:RzB b 12:=⟨q4⟩
 have i_e:RzB e 12:=⟨q5⟩
 have i_f:RzB f 12:=⟨q6⟩
 have i_x:RzB x 12:=⟨q7⟩
 have i_y:RzB y 12:=⟨q8⟩
 all_goals refine aA Tryz.func168 rfl ?_
 all_goals(repeat'((try(conv=>whnf));first
  |refine y5 ?_ ?_|(with_reducible first|refine aam ?_|refine aao ?_|refine aah (λ_=>?_) (λ_=>?_))|apply zaq))
 all_goals(try apply zar)
 all_goals first
  |(refine bE ?_;unfold TB;have hk:decide (vJ (X,Y) Q (x,y))=true:=decide_eq_true ξ;rw[hk];rfl)|(refine bE ?_;unfold TB;have hk:decide (vJ (X,Y) Q (x,y))=false:=decide_eq_false ξ;rw[hk];rfl)|exact zau⟩
end Go.Proofs.YtmniihkenijjpaaGreatDoor
namespace Go.Sw
open Go Go.RowKit
theorem aix{P:Program}{ρ:Operand->Value}{w:World}{d:Option Tmp}{ty:TypeId}{pos:String}{af:Array Edge}{gd:Option (Nat×Bool)}{t e:TypeId}{s:Nat}{x y:Operand}{g n c:Nat}{k:IntKind}{j:Nat}(ht:sliceOf P t=some (e,s))(hx:ρ x=.slice (some ⟨g,0,none⟩) n c)(hy:ρ y=.int k (j:Nat))(h1:j<n):
 (execOp ρ ⟨d,.indexAddr t x y,ty,pos,af,gd⟩).run P w=.ok (.value (.pointer (some ⟨g,j*s,none⟩))) w:=by
 have:=aip (w:=w) (d:=d) (ty:=ty) (pos:=pos) (af:=af) (gd:=gd) ht hx rfl hy rfl h1
 rwa [Addr.add_lit,nU]at this
def ajs(P:Program)(kT T:TypeId)(s:Nat)(st:JS)(w:World)(X:List Nat)(us:List Value)(more:List Bx)(mo:Nat×Array MapEntry×Nat)(r:AV)(u:Value)(w':World):Prop :=
 ∃(more':List Bx) (mo':Nat×Array MapEntry×Nat),mo'.1=mo.1/\w'.heap[mo.1]?=some (.map mo'.2.1 mo'.2.2)/\(∀q∈more',(q.1∈bl more\/w.heap.size<=q.1)/\w'.heap[q.1]?=some (.cells q.2.2 q.2.1 (0,0)))/\(more'.Pairwise λa b=>a.1≠b.1) /\
  (w'.os=w.os/\w'.tape=w.tape/\w'.output=w.output/\w.heap.size<=w'.heap.size/\∀k,k<w.heap.size->k≠mo.1->k ∉ bl more->w'.heap[k]?=w.heap[k]?)/\RepR w' (bl more'++X) u r/\(aeY P kT T s st).rep w' (bl more'++X) us more' mo'
theorem RepR.ext{w w':World}{X X':List Nat}{u:Value}{r:AV}(h:RepR w X u r)(e:Ext w X w' X'):RepR w' X' u r:=by
 cases h with
 |d h=>exact .d (h.ext e)
 |tup hl h=>exact .tup hl λi u v a b=>(h i u v a b).ext e
theorem ajk{P:Program}{kT T:TypeId}{s:Nat}{st:JS}{w w':World}{X:List Nat}{us:List Value}{more:List Bx}{mo:Nat×Array MapEntry×Nat}{r:AV}{u:Value}{m:Nat}(hB:Below w.heap.size w w')(hmore:∀q∈more,q.1∈X/\w.heap[q.1]?=some (.cells q.2.2 q.2.1 (0,0)))(hnd:more.Pairwise λa b=>a.1≠b.1)
 (hmap:w.heap[mo.1]?=some (.map mo.2.1 mo.2.2)) (hrep:aia P kT T s st w X us more mo) (hn:st.n<=m) (hR:RepR w X u r):ajs P kT T s ⟨st.sq,st.f,m⟩ w X us more mo r u w':=by
 have hext:Ext w X w' (bl more++X):=⟨hB.size,λk hk hx _=>⟨hB.block k hk,λhm=>by
  rcases iH.1 hm with hm|hm
  .obtain⟨q,hq,rfl⟩:=dw.1 hm;exact hx (hmore q hq).1
  .exact hx hm⟩⟩
 refine⟨more,mo,rfl,(hB.block _ (lt_of_heap hmap)).trans hmap,λq hq=>⟨.inl (dw.2 ⟨q,hq,rfl⟩),(hB.block _ (lt_of_heap (hmore q hq).2)).trans (hmore q hq).2⟩,hnd,⟨hB.os,hB.tape,hB.output,hB.size,λk hk _ _=>hB.block k hk⟩,hR.ext hext, ?_⟩;obtain⟨us',h1,h2,h3,h4,val,og,h5,h6,h7⟩:=hrep;exact⟨us',h1,h2.ext hext,h3,aU h4 hn,val,og,h5,λk=>(h6 k).ext hext,h7⟩
theorem aiI{sq:Rat}{sp:aaI}{s:ByteArray}{v:P2}{n:Nat}(h:0<=aaS sq v (aan sp s) (aan sp s).length):(jst sq (aay sq sp s v).1 n)=jst sq sp n/\(aay sq sp s v).2=(aan sp s).getD (aaS sq v (aan sp s) (aan sp s).length).toNat P0:=by
 obtain⟨_,_,h3⟩:=acA sq v (aan sp s) _ (gW _);rw[AQ,if_neg ω]at h3;unfold aay;rw[h3];exact⟨rfl,rfl⟩
theorem ajn{sq:Rat}{sp:aaI}{s:ByteArray}{v:P2}{n:Nat}(h:aaS sq v (aan sp s) (aan sp s).length<0):(jst sq (aay sq sp s v).1 (n+1))=(jst sq sp n).add s (aas v)/\(aay sq sp s v).2=v:=by
 obtain⟨_,_,h3⟩:=acA sq v (aan sp s) _ (gW _);rw[AQ,if_pos h]at h3;unfold aay;rw[h3,ah5];exact⟨rfl,rfl⟩
open Go.Proofs Go.Shelf Go.Lib
set_option maxRecDepth 100000 in
theorem afC{P:Program}{ρ:Ren}(L:SlLaysE0.n41 P ρ)(i0:TypeInfo)(z:Value)(size bytes:Nat)(hi:P.info? (ρ.t 23)=some i0)(hz0:i0.zero=some z)(hz1:i0.size=size)(hz2:i0.bytes=bytes)(hzs:z.cells.size=size)(hsz:0<size)
 (z23:∀w,(Go.sizeOf (ρ.t 23)).run P w=.ok size w) (a:Addr) (n c:Nat) (news:List Value) (w:World) (hl:news.length=n*size) (hn:n<=maxLen) (hbig:n*bytes<=140737488355328)
 (hc:∀j u,news[j]?=some u->w.cell? (a.add j)=some u) (h1:∀u∈news,u.oneCell'=true) :
 Calls P (ρ.f 41) #[.slice (some a) n c] w λe w'=>∃v',e=.returned v'/\w'.ownsRow w.heap.size (ρ.t 23) size v' n news/\Below w.heap.size w w':=by
 have mixed:=L.mixed;have t4:=L.t4;have a4:=L.a4;have z4:=L.z4;have v4:=L.v4;have t22:=L.t22;have a22:=L.a22;have z22:=L.z22;have v22:=L.v22;have q22:∀(w:World) (a:Option Addr) (n c n' c':Nat),(binOp .eql (ρ.t 22) (.slice a n c) (.slice none n' c')).run P w=.ok (.bool a.isNone) w:=λw a n c n' c'=>Lib.run_eql_slice_nil w _ _ a n c n' c' L.t22
 have u22:∀w,Sem.run P (underlying (ρ.t 22)) w=.ok (TypeDesc.slice (ρ.t 23)) w:=run_underlying t22;have A:Aside (∀j u,news[j]?=some u->w.cell? (a.add j)=some u):=hc;clear hc;obtain⟨_,_,FG⟩:=L.f41
 go_enter FG,SlBodyN.n41_ntmps ρ
 go_wp2_with (at_builtin;refine wpList_append_own _ rfl _ _ (ρ.t 22) rfl w.heap.size (ρ.t 23) i0 z size bytes t22 hi hz0 hz1 hz2 hzs hsz _ _ _ rfl (World.ownsRow_made w #[] 0 (gW _) (lN _) η) a n c news rfl ?qc1 ?qc2 ?qc3 ?qc4 ?qc5 ?qc6 ?_)
 case qc1=>exact hl
 case qc2=>exactλj u hj=>Lib.cell?_alloc_some _ (A.out j u hj)
 case qc3=>exact h1
 case qc4=>rw[nU];exact hn
 case qc5=>rw[nU];exact hbig
 case qc6=>simp
 intro v' w1 hown hgrow hnil
 go_wp2
 go_ret
 exact⟨v',rfl,by simpa using hown,((Below.refl _ w).alloc (gW _) _).grown hgrow η (by intro k hk;simp[Value.ownBlock]at hk;omega)⟩
theorem Fe{P:Program}[Wld P]{ρ:Ren}(L:SlLaysE0.n41 P ρ)(hb:aaM P (ρ.f 41)=true)(i0:TypeInfo)(z:Value){k:Nat}(hi:P.info? (ρ.t 23)=some i0)(hz0:i0.zero=some z)(hz1:i0.size=k)(hby:i0.bytes<=1000000)(hzs:z.cells.size=k)(hk:0<k)
 (z23:∀w,(Go.sizeOf (ρ.t 23)).run P w=.ok k w) {es:List (List Cell)} (hn:es.length<=1000000):Den P (ρ.f 41) [.c (.sl k es)] (.c (.sl k es)):=by
 refine Den.of ⟨hb,λw X vs hW hX hl hr=>?_⟩ rfl
 match vs,hl with
 |[u],_ =>
 have hu:RepC w X u (.sl k es):=by
  have:=hr 0 u _ rfl rfl;cases this with
  |c h=>exact h
 obtain⟨A,cap,uss,rfl,hcap,hmx,hc,hS⟩:=RepS.of_sl hu
 have hone:∀us∈uss,∀u∈us,u.oneCell'=true:=λus hu=>by
  obtain⟨j,hj,rfl⟩:=xH hu;exact(hS.get j _ _ (eY hj) (eY (by rw[<-hS.len];exact hj))).one
 have hfl:uss.flatten.length=es.length*k:=by rw[aaD hS.sz,hS.len]
 cases A with
 |none =>
  have h0:uss.flatten=[]:=by
   by_cases h:uss.flatten=[]
   .exact h
   .obtain⟨ad,h1,_⟩:=hc h;cases h1
  rw[h0]at hfl
  have:es=[]:=by
   rcases rG es.length with h|h
   .exact zA h
   .have:=Nat.mul_pos h hk;simp at hfl;omega
  subst this;refine Calls.mono (AnyE.slices_Clone_nil L _ _ w) ?_;rintro e w' ⟨rfl,rfl⟩;exact⟨_,rfl,(RepR.d (.c (RepC.nil _ _ _))).f,Below.refl _ _⟩
 |some a =>
  refine Calls.mono (afC L i0 z k i0.bytes hi hz0 hz1 rfl hzs hk z23 a es.length cap uss.flatten w hfl (by unfold maxLen;omega) (aU (Eb hn hby) ω) (λj u hj=>?_) (λu hu=>?_)) ?_
  .obtain⟨ad,h1,_,_,h2⟩:=hc (λh=>by rw[h]at hj;cases hj);cases h1;exact h2 j u hj
  .obtain⟨us,h1,h2⟩:=List.mem_flatten.1 hu;exact hone us h1 u h2
  .rintro e w' ⟨v',rfl,hown,hB⟩;have hext:=Ext.call X hB;have hS':=hS.ext hext;refine⟨v',rfl,(RepR.d (.c ?_)).f,hB⟩;rcases hown with⟨_,⟨rfl,h0⟩|⟨g,cap',cur,rfl,h1,h2,h3,h4,h5,h6⟩⟩
   .have:es=[]:=zA h0;subst this;exact RepC.nil _ _ _
   .refine RepS.sl hS' (λhne=>?_) h3 (by unfold maxLen at h4;omega)
    have hgl:g<w'.heap.size:=by
     rcases sW g w'.heap.size with h'|h'
     .exact h'
     .rw[Array.getElem?_eq_none h']at h2;cases h2
    refine⟨_,rfl,hgl,λhm=>?_,λj u hj=>?_⟩
    .have:=hX g hm;omega
    .rw[<-h6,tH]at hj;split at hj
     .rw[Addr.add_lit,nU,cell_of_row w' g j cur _ _ h2,<-Array.getElem?_toList];exact hj
     .cases hj
theorem RepC.sl_nil{w:World}{X:List Nat}{u:Value}{s k:Nat}(h:RepC w X u (.sl s [])):RepC w X u (.sl k []):=by
 cases h with
 |sl A n cap s uss es hn hu hc hcap hmx hs hr =>
  exact .sl A n cap k uss [] hn hu hc hcap hmx (λi us e a b=>by simp at b) (λi us e a b=>by simp at b)
theorem Rf{P:Program}[Wld P]{f:FuncId}{xs:List AV}{s k:Nat}{es:List (List Cell)}{y:AV}(hn:abA xs=true)(h:s=k\/es=[])(hd:Den P f xs (.tup [.c (.sl s es),y])):Den P f xs (.tup [.c (.sl k es),y]):=by
 rcases h with rfl|rfl
 .exact hd
 .obtain⟨hb,hd⟩:=hd.old hn;refine Den.of ⟨hb,λw X vs hW hX hl hr=>(hd w X vs hW hX hl hr).mono ?_⟩ hn;rintro e w' ⟨u,rfl,hR,hB⟩;refine⟨u,rfl, ?_,hB⟩;obtain⟨us,vs',G,h1,h2,h3,h4⟩:=hR;rcases h1 with⟨rfl,h1⟩|⟨_,_,h1⟩
  .cases h1;cases h4 with
   |d hd t =>
    cases hd with
    |c hc=>exact⟨_,_,G,.inl ⟨rfl,rfl⟩,h2,h3,.d (.c hc.sl_nil) t⟩
  .cases h1
theorem aew{P:Program}[Wld P]{ρ:Ren}(L:SlLaysE0.n41 P ρ)(hb:aaM P (ρ.f 41)=true)(i0:TypeInfo)(z:Value){k:Nat}(hi:P.info? (ρ.t 23)=some i0)(hz0:i0.zero=some z)(hz1:i0.size=k)(hby:i0.bytes<=1000000)(hzs:z.cells.size=k)(hk:0<k)
 (z23:∀w,(Go.sizeOf (ρ.t 23)).run P w=.ok k w) {es:List (List Cell)} (hn:es.length<=1000000):Den P (ρ.f 41) [.c (.sl k es)] (.own (ρ.t 23) k es):=by
 refine Den.of ⟨hb,λw X vs hW hX hl hr=>?_⟩ rfl
 match vs,hl with
 |[u],_ =>
 have hu:RepC w X u (.sl k es):=by
  have:=hr 0 u _ rfl rfl;cases this with
  |c h=>exact h
 obtain⟨A,cap,uss,rfl,hcap,hmx,hc,hS⟩:=RepS.of_sl hu
 have hone:∀us∈uss,∀u∈us,u.oneCell'=true:=λus hu=>by
  obtain⟨j,hj,rfl⟩:=xH hu;exact(hS.get j _ _ (eY hj) (eY (by rw[<-hS.len];exact hj))).one
 have hfl:uss.flatten.length=es.length*k:=by rw[aaD hS.sz,hS.len]
 cases A with
 |none =>
  have h0:uss.flatten=[]:=by
   by_cases h:uss.flatten=[]
   .exact h
   .obtain⟨ad,h1,_⟩:=hc h;cases h1
  rw[h0]at hfl
  have:es=[]:=by
   rcases rG es.length with h|h
   .exact zA h
   .have:=Nat.mul_pos h hk;simp at hfl;omega
  subst this;refine Calls.mono (AnyE.slices_Clone_nil L _ _ w) ?_;rintro e w' ⟨rfl,rfl⟩;exact⟨_,rfl,⟨[_],[_],[],.inr ⟨rfl,rfl,rfl⟩,η,List.nodup_nil,.own0 hk .nil⟩,Below.refl _ _⟩
 |some a =>
  refine Calls.mono (afC L i0 z k i0.bytes hi hz0 hz1 rfl hzs hk z23 a es.length cap uss.flatten w hfl (by unfold maxLen;omega) (aU (Eb hn hby) ω) (λj u hj=>?_) (λu hu=>?_)) ?_
  .obtain⟨ad,h1,_,_,h2⟩:=hc (λh=>by rw[h]at hj;cases hj);cases h1;exact h2 j u hj
  .obtain⟨us,h1,h2⟩:=List.mem_flatten.1 hu;exact hone us h1 u h2
  .rintro e w' ⟨v',rfl,hown,hB⟩;refine⟨v',rfl, ?_,hB⟩;rcases hown with⟨_,⟨rfl,h0⟩|⟨g,cap',cur,rfl,h1,h2,h3,h4,h5,h6⟩⟩
   .have:es=[]:=zA h0;subst this;exact⟨[_],[_],[],.inr ⟨rfl,rfl,rfl⟩,η,List.nodup_nil,.own0 hk .nil⟩
   .have hS':=hS.ext ((Ext.call X hB).add h1);have hcur:cur=(uss.flatten++cur.toList.drop (es.length*k)).toArray:=by rw[<-h6,FP]
    have hlen:(uss.flatten++cur.toList.drop (es.length*k)).length=cur.size:=by rw[<-h6,FP];simp
    exact⟨[_],[_],[g],.inr ⟨rfl,rfl,rfl⟩,by simpa using h1,η,.own hk (by rw[<-hcur];exact h2) hS' (by rw[hlen];exact h5.symm) h4 h3 .nil⟩
end Go.Sw
namespace Go.Sw
open Go
def jZ(tol:Rat)(es:List Ent):List (Ent×Nat):=(aQ (tol*tol) 0 [] es).es.zipIdx
def jK(tol:Rat)(es:List Ent):List (Ent×Nat):=jE (jZ tol es)
def jL(tol:Rat)(es:List Ent):List (Ent×Nat):=kE (jK tol es)
def xI(tol:Rat)(es:List Ent)(x:Nat):List Chn:=(aQ (tol*tol) 0 [] es).cs++jF (jZ tol es)++FV (jK tol es) x
theorem OO(tol:Rat)(es:List Ent):xI tol es 0=(aQ (tol*tol) 0 [] es).cs++jF (jZ tol es):=by unfold xI FV;simp
theorem BK(tol:Rat)(es:List Ent):(jZ tol es).length=es.length:=by unfold jZ;rw[List.length_zipIdx,uo]
theorem zW(tol:Rat)(es:List Ent):(jK tol es).length<=es.length:=by
 have:=(vF (jZ tol es) (jZ tol es).length).1;rw[Dn,BK]at this;exact this
theorem Aq(tol:Rat)(es:List Ent):(jL tol es).length<=es.length:=by
 have:=(wV (jK tol es) (jK tol es).length).1;rw[vU]at this;have h2:=zW tol es;exact aU this h2
theorem OV{tol:Rat}{es:List Ent}(h:∀e∈es,okV e):∀x∈jZ tol es,okV x.1:=λx hx=>Ql h _ (zip_fst hx)
theorem OE{tol:Rat}{es:List Ent}(h:∀e∈es,okV e):∀x∈jK tol es,okV x.1:=MW (OV h)
theorem Un{tol:Rat}{es:List Ent}(h:∀e∈es,okV e):∀x∈jL tol es,okV x.1:=left_ok (OE h)
theorem Ed{tol:Rat}{es:List Ent}(h:∀e∈es,okV e)(x:Nat):(aQ (tol*tol) 0 [] es).cs.length<=2*es.length/\(jF (jZ tol es)).length<=es.length/\(xI tol es x).length<=4*es.length:=by
 have h1:=yP (q:=aS) (sq:=tol*tol) (es:=es) (λe he=>(h e he).2.1) es.length (gW _);have h2:=BZ es es.length;rw[rQ]at h1;have h3:=(vF (jZ tol es) (jZ tol es).length).2;rw[BR,BK]at h3;have h4:=(wV (jK tol es) x).2;have h5:=zW tol es;have h6:=h1.2.2.2.1;refine⟨ω,h3, ?_⟩;unfold xI;rw[dY,dY];omega
theorem wX(tol:Rat)(es:List Ent):(aG (tol*tol) es).es=(jL tol es).map (·.1)/\(aG (tol*tol) es).cs=xI tol es (jK tol es).length++uG (jL tol es):=by
 refine⟨rfl, ?_⟩;unfold xI;rw[LC];rfl
theorem Dl{tol:Rat}{es:List Ent}(h:es.length<=12)(h4:∀e∈es,okV e):(aG (tol*tol) es).cs.length<=1000:=by
 rw[(wX tol es).2];have h1:=(Ed (tol:=tol) h4 (jK tol es).length).2.2;have h2:=qL (jL tol es) (jL tol es).length (gW _);have h3:=Aq tol es;rw[DV]at h2;rw[dY];omega
theorem VK{tol:Rat}{es:List Ent}{x:Nat}(h:x<(jK tol es).length)(hb:(bn ((jK tol es).map (·.1))).getD x false=true):zL (jK tol es) (x+1)=zL (jK tol es) x/\xI tol es (x+1)=xI tol es x++[⟨3,((jK tol es).getD x N0).2,0,none,none⟩]:=by
 obtain⟨h1,h2⟩:=Ub h hb;refine⟨h1, ?_⟩;unfold xI;rw[h2,jf,jf,jf]
theorem VZ{tol:Rat}{es:List Ent}{x:Nat}(h:x<(jK tol es).length)(hb:(bn ((jK tol es).map (·.1))).getD x false=false):zL (jK tol es) (x+1)=zL (jK tol es) x++[(jK tol es).getD x N0]/\xI tol es (x+1)=xI tol es x:=by
 obtain⟨h1,h2⟩:=Vp h hb;refine⟨h1, ?_⟩;unfold xI;rw[h2]
theorem Em{l:List (Ent×Nat)}{x:Nat}(h:x<l.length):((l.take (x+1)).map (·.1)).map bF=((l.take x).map (·.1)).map bF++[bF (l.getD x N0).1]:=by
 rw[Yc h,dI];rfl
def C0:Chn:=⟨0,0,0,none,none⟩
def zX(cs:List Chn):Bool:=cs.all λc=>decide (c.kind=4)
def KX(cs:List Chn):Int:=match zO cs.length (λi=>if(cs.getD i C0).kind=4 then none else some i)with
 |some i=>((i:Nat):Int)
 |none=>-1
theorem JK{cs:List Chn}{x:Nat}(hx:x<cs.length)(h:∀j<x,(cs.getD j C0).kind=4)(h1:¬(cs.getD x C0).kind=4):KX cs=(x:Nat):=by
 unfold KX;rw[nT (x:=x) (r:=x) hx (λj hj=>by rw[if_pos (h j hj)]) (by rw[if_neg h1])]
theorem O1{cs:List Chn}(h:∀j<cs.length,(cs.getD j C0).kind=4):KX cs = -1:=by
 unfold KX;rw[kS (λj hj=>by rw[if_pos (h j hj)])]
theorem OH(cs:List Chn):decide (KX cs>=0) = !zX cs:=by
 unfold zX;cases e:zO cs.length (λi=>if(cs.getD i C0).kind=4 then none else some i)with
 |none =>
  have h1:=Bv e
  have h2:(cs.all λc=>decide (c.kind=4))=true:=by
   rw[gQ];intro c hc;obtain⟨j,hj,rfl⟩:=xH hc;have h3:=h1 j hj;have e1:cs.getD j C0=cs[j]:=by simp[jH,hj]
   rw[e1]at h3;split at h3
   .rename_i g;simpa using g
   .cases h3
  rw[h2];unfold KX;rw[e];rfl
 |some i =>
  obtain⟨j,hj,h3⟩:=Bz e
  have h2:(cs.all λc=>decide (c.kind=4))=false:=by
   rw[List.all_eq_false];have e1:cs.getD j C0=cs[j]:=by simp[jH,hj]
   rw[e1]at h3;split at h3
   .cases h3
   .rename_i g;exact⟨cs[j],tq hj,by simpa using g⟩
  rw[h2];unfold KX;rw[e];simp
def Kr(r:Rq):Bool:=decide (r.l.length<=6)&&decide (r.m.length<=6)
theorem qG{r:Rq}:Kr r=true↔zN r:=by
 unfold Kr zN;simp
theorem Qh{r:Rq}(h:¬(r.l.length<=6/\r.m.length<=6)):Kr r=false:=by
 rw[<-Bool.not_eq_true,qG];exact h
def vsB(p:Rq×Rq):Bool:=Kr p.1&&Kr p.2
def qp(e:EntR):Bool:=(decide (e.pts.length<=5)&&(decide (e.layer.size<=60)&&Kr e.rad))&&e.pts.all vsB
def yt(ls:List LayD)(es:List EntR):Bool:=decide (ls.length<=25)&&(ls.all (λl=>decide (l.name.size<=60))&&es.all qp)
theorem qF{α:Type}{l:List α}{p:α->Bool}(d:α):l.all p=true↔∀j<l.length,p (l.getD j d)=true:=by
 rw[gQ];constructor
 .intro h j hj;have:l.getD j d∈l:=by simp[List.getD,hj]
  exact h _ this
 .intro h x hx;obtain⟨j,hj,rfl⟩:=xH hx;have:=h j hj;simpa[List.getD,hj]using this
theorem zV{α:Type}{l:List α}{p:α->Bool}(d:α){j:Nat}(h:j<l.length)(h1:p (l.getD j d)=false):l.all p=false:=by
 rw[<-Bool.not_eq_true,qF d];intro h2;have:=h2 j h;rw[h1]at this;cases this
theorem Qy{ls:List LayD}{es:List EntR}(h:¬ls.length<=25):yt ls es=false:=by unfold yt;rw[decide_eq_false h];rfl
theorem Qx{ls:List LayD}{es:List EntR}{x:Nat}(hx:x<ls.length)(h:¬(ls.getD x L0).name.size<=60):yt ls es=false:=by
 unfold yt;rw[zV L0 hx (decide_eq_false h)];simp
theorem wW{ls:List LayD}{es:List EntR}{x:Nat}(hx:x<es.length)(h:qp (es.getD x lZ)=false):yt ls es=false:=by
 unfold yt;rw[zV lZ hx h];simp
theorem Vt{ls:List LayD}{es:List EntR}(h:ls.length<=25)(h1:∀j<ls.length,(ls.getD j L0).name.size<=60)(h2:∀j<es.length,qp (es.getD j lZ)=true):yt ls es=true:=by
 unfold yt;rw[decide_eq_true h,(qF lZ).2 h2,(qF L0).2 (λj hj=>decide_eq_true (h1 j hj))];rfl
theorem Bj{e:EntR}(h:¬e.pts.length<=5\/¬e.layer.size<=60\/Kr e.rad=false):qp e=false:=by
 unfold qp;rcases h with h|h|h
 .rw[decide_eq_false h];rfl
 .rw[decide_eq_false h];simp
 .rw[h];simp
theorem QE{e:EntR}{k:Nat}(hk:k<e.pts.length)(h:vsB (e.pts.getD k nM)=false):qp e=false:=by
 unfold qp;rw[zV nM hk h];simp
theorem Rk{e:EntR}(h1:e.pts.length<=5)(h2:e.layer.size<=60)(h3:Kr e.rad=true)(h4:∀k<e.pts.length,vsB (e.pts.getD k nM)=true):qp e=true:=by
 unfold qp;rw[decide_eq_true h1,decide_eq_true h2,h3,(qF nM).2 h4];rfl
theorem NP{e:EntR}(h:qp e=true):qQ e:=by
 unfold qp at h;simp only[bG,decide_eq_true_eq,gQ]at h;obtain⟨⟨h1,h2,h3⟩,h4⟩:=h;refine⟨λp hp=>?_,qG.1 h3,h1,h2⟩;have:=h4 p hp;unfold vsB at this;rw[bG,qG,qG]at this;exact this
theorem QB{ls:List LayD}{es:List EntR}(h:yt ls es=true):ls.length<=25/\(∀l∈ls,l.name.size<=1000)/\∀e∈es,qQ e:=by
 unfold yt at h;simp only[bG,decide_eq_true_eq,gQ]at h;exact⟨h.1,λl hl=>aU (h.2.1 l hl) ψ,λe he=>NP (h.2.2 e he)⟩
def ptQ(p:P2):Prop:=aS p/\(zN (kX p.1)/\zN (kX p.2))/\(Bd p.1&&Bd p.2)=true
theorem Ja{ls:List LayD}{es:List EntR}{j:Nat}(h:oH ls es j=none):¬mG ls (es.getD j lZ).layer<0/\jl (es.getD j lZ)=true:=by
 unfold oH at h;split at h
 .cases h
 .rename_i g;split at h
  .cases h
  .rename_i f;exact⟨g,by simpa using f⟩
theorem Ph{es:List Ent}{e:Ent}(h:e∈es):∃j<es.length,(es.map dF).getD j lZ=dF e:=by
 obtain⟨j,hj,rfl⟩:=xH h;exact⟨j,hj,by simp[List.getD,hj]⟩
theorem N7{es:List Ent}{j:Nat}(h:j<es.length):∃e∈es,(es.map dF).getD j lZ=dF e:=⟨es[j],tq h,by simp[List.getD,h]⟩
theorem Ej{ls:List LayD}{es:List Ent}{q:Rat}(h3:es.length<=12)(h4:∀e∈es,okV e)(h5:∀e∈es,qQ (dF e))(h8:gJ ls (es.map dF)=0):
 (aG (q*q) es).es.length<=12/\(∀e∈(aG (q*q) es).es,okV e)/\(∀e∈(aG (q*q) es).es,qQ (dF e))/\gJ ls ((aG (q*q) es).es.map dF)=0:=by
 have hv:=OL h8
 have hlen:(aG (q*q) es).es.length<=12:=by
  rw[(wX q es).1,aN];exact aU (Aq q es) h3
 have hall:∀e∈es,¬mG ls e.layer<0/\jl (dF e)=true:=λe he=>by
  obtain⟨j,hj,e1⟩:=Ph he;have:=Ja (hv.2.2.2 j (by rw[aN];exact hj));rw[e1]at this;exact this
 have hq:∀e∈es,∀p∈e.pts,ptQ p:=λe he p hp=>by
  have hr:(kX p.1,kX p.2)∈(dF e).pts:=dw.2 ⟨p,hp,rfl⟩;refine⟨(h4 e he).2.1 p hp,(h5 e he).1 _ hr, ?_⟩;have h6:=(hall e he).2;unfold jl at h6;simp only[bG,gQ]at h6;have h7:=h6.2.1 _ hr;rw[qP,qP]at h7;rw[bG];exact h7
 have key:∀e'∈(aG (q*q) es).es,okV e'/\qQ (dF e')/\¬mG ls e'.layer<0/\jl (dF e')=true:=λe' he'=>by
  obtain⟨e,he,k1,k2,k3,k4,k5⟩:=Nh hq he'
  have hl:(dF e').pts.length=(dF e).pts.length:=by
   show(e'.pts.map _).length=(e.pts.map _).length;rw[aN,aN,k3]
  have hb:=(hall e he).2;refine⟨⟨?_,λp hp=>(k5 p hp).1,by rw[k1];exact(h4 e he).2.2.1,by rw[k3];exact(h4 e he).2.2.2⟩,⟨λp hp=>?_, ?_, ?_, ?_⟩,by rw[k1];exact(hall e he).1, ?_⟩
  .have:=(h4 e he).1;rw[k2,k3,k4];exact this
  .obtain⟨u,hu,rfl⟩:=dw.1 hp;exact(k5 u hu).2.1
  .show zN e'.rad;rw[k4];exact(h5 e he).2.1
  .rw[hl];exact(h5 e he).2.2.1
  .show e'.layer.size<=60;rw[k1];exact(h5 e he).2.2.2
  .unfold jl at hb ⊢;simp only[bG,gQ]at hb ⊢;refine⟨?_,λp hp=>?_, ?_⟩
   .refine decide_eq_true ?_;have h6:=of_decide_eq_true hb.1;rw[hl];show e'.kind=1/\_\/e'.kind=2/\_\/e'.kind=3/\_;rw[k2];exact h6
   .obtain⟨u,hu,rfl⟩:=dw.1 hp;have:=(k5 u hu).2.2;rw[bG]at this;rw[qP,qP];exact this
   .have h7:=hb.2.2;simp only[zx,bG,decide_eq_true_eq]at h7 ⊢;show¬e'.kind=3\/fK e'.rad=true/\0<qR e'.rad;rw[k2,k4];exact h7
 refine⟨hlen,λe he=>(key e he).1,λe he=>(key e he).2.1,GV ?_ hv.2.2.1 λj hj=>?_⟩
 .rw[aN];have:=hv.1;omega
 .rw[aN]at hj;obtain⟨e,he,e1⟩:=N7 hj;obtain⟨_,_,g1,g2⟩:=key e he;unfold oH;rw[e1,if_neg g1,g2];rfl
theorem Cm{cs:List Chn}(h:∀c∈cs,c.kind=4):zX cs=true:=by
 unfold zX;rw[gQ];exactλc hc=>decide_eq_true (h c hc)
end Go.Sw
namespace Go.Proofs.YtmniihkenijjpaaGreatDoor
open Go Go.RowKit Go.Sw
set_option maxRecDepth 100000
set_option maxHeartbeats 16000000
set_option synthInstance.maxSize 4000
set_option synthInstance.maxHeartbeats 400000
end Go.Proofs.YtmniihkenijjpaaGreatDoor
