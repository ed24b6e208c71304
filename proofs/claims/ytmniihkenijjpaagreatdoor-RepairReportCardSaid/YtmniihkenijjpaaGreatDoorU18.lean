/-
  Rules of the abstract run, plain laws, and what functions answer, for the law RepairReport.
  Conditions: none.
-/
import Derived.Test.YtmniihkenijjpaaGreatDoorU17
import Derived.Shelf.LaysM
import Derived.Shelf.Strconv.Itoa1
import Derived.Shelf.Strconv.Itoa2
import Derived.Lib.Walk
import Derived.Lib.ItoaMem
import Derived.Lib.ItoaLen
import Derived.Lib.AppendIntMem
import Derived.WalkKit
import Derived.BigCall
import Derived.BigGuard
import Derived.Shelf.SlicesE.Clone
set_option linter.all false
namespace Go.Proofs.YtmniihkenijjpaaGreatDoor
open Go Go.RowKit Go.Sw Go.Shelf
set_option maxRecDepth 100000
set_option maxHeartbeats 16000000
set_option synthInstance.maxSize 4000
set_option synthInstance.maxHeartbeats 400000
instance af4(ls:List LayD)(es:List EntR)(e:EntR):DenI Tryz.prog 64 [.agg [(.sl 3 (ls.map aV)),.sl 7 (es.map aY)],.agg (aY e)] (ls.length<=1000/\kE e) (.int .i64 (Ur ls e)):=⟨λhp=>by
 obtain⟨hp1,hp2⟩:=hp
 all_goals refine aC Tryz.func64 rfl ?_
 all_goals(repeat'((try(conv=>whnf));first
  |refine zaa ?_ ?_|(with_reducible refine zad (λ_=>?_) (λ_=>?_))|refine zat (λ_=>?_) (λ_=>?_)|apply zaq))
 all_goals(try apply zar)
 all_goals first
  |assumption|(refine iE ?_;unfold Ur;rw[if_pos ξ];done)|(refine iE ?_;unfold Ur;rw[if_neg ξ,if_pos χ];done)|(refine iE ?_;unfold Ur;rw[if_neg ξ,if_neg χ];done)⟩
instance adv(ls:List LayD):DenI Tryz.prog 63 [.c (.sl 3 (ls.map aV))] (0<ls.length/\ls.length<=1000/\(∀l∈ls,l.name.size<=1000)) (.int .i64 (pJ ls)):=⟨λhp=>by
 obtain⟨hp1,hp2,hp3⟩:=hp;have hw:(IntKind.i64.wrap ((ls.length:Int)-1))=((ls.length-1:Nat):Int):=by rw[aS ω ω];omega
 all_goals refine aC Tryz.func63 rfl ?_
 all_goals(repeat'((try(conv=>whnf));first
  |refine zaa ?_ ?_|(with_reducible refine zad (λ_=>?_) (λ_=>?_))|refine zat (λ_=>?_) (λ_=>?_)|refine zan L0 ?_ ?_|apply zaq))
 all_goals(try apply zar)
 all_goals(try simp only[aG,dh]at *)
 all_goals(try simp only[hw,dh]at *)
 all_goals first
  |omega|(have z:=TK hp3 (ls.length-1);omega)|(refine iE ?_;unfold pJ;rw[if_pos χ];done)|(refine iE ?_;unfold pJ;rw[if_neg χ,if_pos ξ];done)|(refine iE ?_;unfold pJ;rw[if_neg χ,if_neg ξ];done)⟩
instance(priority:=2000) afd(ls:List LayD)(a b:Nat):DenI Tryz.prog 63 [.c (.sl 3 (((ls.map aV).take b).drop a))] (a=0/\0<b/\b<=ls.length/\ls.length<=1000/\(∀l∈ls,l.name.size<=1000)) (.int .i64 (pJ (ls.take b))):=⟨λ⟨h1,h2,h3,h4,h5⟩=>by
 have h:=(adv (ls.take b)).den ⟨by rw[kM];omega,by rw[kM];omega,λl hl=>h5 l (Uh hl)⟩;rw[List.map_take]at h;subst h1
 exact h⟩
instance ZE(ls:List LayD)(es:List EntR):DenI Tryz.prog 20 [.agg [(.sl 3 (ls.map aV)),.sl 7 (es.map aY)]] (ls.length<=1000/\es.length<=1000/\(∀l∈ls,l.name.size<=1000)/\∀e∈es,kE e) (.int .i64 (dZ ls es)):=⟨λhp=>by
 obtain⟨hp1,hp2,hp3,hp4⟩:=hp
 all_goals refine aC Tryz.func20 rfl ?_
 all_goals(repeat'((try(conv=>whnf));first
  |(with_reducible first|apply zab|apply zac|refine zad (λ_=>?_) (λ_=>?_))|apply zaq))
 all_goals(try simp only[aG,dh]at *)
 all_goals first
  |((conv=>whnf);refine Sw.Loop.inv (α:=Nat) (λx=>[(1,.ptr 1 0),(20,.int .i64 (ls.length:Nat)),(21,.int .i64 (x:Nat))]) (λx=>[(1,.var [(.sl 3 (ls.map aV)),.sl 7 (es.map aY)])]) (λx=>x<=ls.length/\∀j<x,lu ls j=none) (λx=>ls.length-x) 0 ?_ ?_ ?_ (λx hx=>?_))|skip
 all_goals(repeat'((try(conv=>whnf));first
  |refine zaa ?_ ?_|(with_reducible first|refine zad (λ_=>?_) (λ_=>?_)|refine zae (λ_=>?_) (λ_=>?_))|refine zam ?_ ?_|apply zaq))
 all_goals(try apply zar)
 all_goals(try simp only[aG,dh]at *)
 all_goals first
  |((conv=>whnf);refine Sw.Loop.inv (α:=Nat) (λy=>[(1,.ptr 1 0),(35,.c (.sl 7 (es.map aY))),(36,.int .i64 (es.length:Nat)),(37,.int .i64 (y:Nat))]) (λy=>[(1,.var [(.sl 3 (ls.map aV)),.sl 7 (es.map aY)])]) (λy=>y<=es.length/\∀j<y,kN ls es j=none) (λy=>es.length-y) 0 ?_ ?_ ?_ (λy hy=>?_))|skip
 all_goals(repeat'((try(conv=>whnf));first
  |refine zaa ?_ ?_|(with_reducible first|refine zad (λ_=>?_) (λ_=>?_)|refine zae (λ_=>?_) (λ_=>?_))|refine zan ni ?_ ?_|apply zaq))
 all_goals(try apply zar)
 all_goals(try simp only[aG,dh]at *)
 all_goals(try simp only[uJ,DJ,dh,Ox]at *)
 all_goals(try simp(disch:=omega) only[aS]at *)
 all_goals(try(have ht:((x:Int)+1).toNat=x+1:=ω;simp only[ht]at *;clear ht))
 all_goals first
  |omega|trivial|exact⟨jd _,λj hj=>absurd hj (Bd _)⟩|(refine⟨ω,ω,ω,ω, ?_⟩;intro h;first|exact h|rfl|(cases h))|exact⟨trivial,ω,ω,ω,hp3⟩|exact⟨ω,LM hp4 ω⟩|(refine iE ?_;rw[Gt ω];done)|(refine iE ?_;rw[AB ω ω hx.2 ((NP ω).2 ξ)];done)|(refine iE ?_;have hxx:x=ls.length:=ω;subst hxx;rw[zU ω hx.2 ω hy.2 (OL.2 ξ)];done)|exact zbg|((conv=>whnf);exact⟨y+1,⟨⟨rfl,rfl,rfl,aH ω,trivial⟩,⟨rfl,trivial⟩,⟨ω,bU hy.2 (OL.1 ξ)⟩,(by show es.length-(y+1)<es.length-y;omega)⟩⟩)|((conv=>whnf);exact⟨x+1,⟨⟨rfl,rfl,aH ω,trivial⟩,⟨rfl,trivial⟩,⟨ω,bU hx.2 ((NP ω).1 ξ)⟩,(by show ls.length-(x+1)<ls.length-x;omega)⟩⟩)⟩
instance afu(l:List Nat):DenI Tryz.prog 106 [.c (lmc l),.c (lmc l)] (True) (.int .i64 0):=⟨λhp=>by
 refine den_len ζ (λhl=>?_);simp only[lenA,lenC,cellsOf,aG,and_true,true_and]at hl
 all_goals refine aC Tryz.func106 rfl ?_
 all_goals(repeat'((try(conv=>whnf));first
  |(with_reducible first|refine zad (λ_=>?_) (λ_=>?_)|refine zae (λ_=>?_) (λ_=>?_))|apply zaq))
 all_goals(try simp only[aG,dh]at *)
 all_goals first
  |((conv=>whnf);refine Sw.Loop.inv (α:=Nat) (λx=>[(0,.c (lmc l)),(1,.c (lmc l)),(5,.int .i64 ((x:Nat)-1:Int))]) (λx=>[]) (λx=>x<=l.length/\True) (λx=>x) l.length ?_ ?_ ?_ (λx hx=>?_))|skip
 all_goals(repeat'((try(conv=>whnf));first
  |(with_reducible refine zad (λ_=>?_) (λ_=>?_))|refine zas ζ ?_|(with_reducible refine zak ?_ ?_)|apply zaq))
 all_goals(try apply zar)
 all_goals(try simp only[aG,dh]at *)
 all_goals first
  |omega|trivial|exact⟨gW _,trivial⟩|(refine⟨rfl,rfl, ?_,trivial⟩;show some (AV.int .i64 _)=some (AV.int .i64 _);rw[aS ω ω])|((conv=>whnf);exact⟨x-1,⟨⟨rfl,rfl,(by show some (AV.int .i64 _)=some (AV.int .i64 _);rw[aS ω ω];congr 2;omega),trivial⟩,trivial,⟨ω,trivial⟩,(by show x-1<x;omega)⟩⟩)⟩
instance aeJ(n:Bool)(l:List Nat):DenI Tryz.prog 111 [Zr n l,Zr n l] (True) (.bool true):=⟨λhp=>by
 refine aC Tryz.func111 rfl ?_
 all_goals(repeat'((try(conv=>whnf));first
  |apply zaf|(with_reducible first|apply zab|apply zac)|refine zat (λ_=>?_) (λ_=>?_)|apply zaq))
 all_goals first
  |rfl|(exfalso;simp at *;done)⟩
instance aew(r:Rq):DenI Tryz.prog 74 [.agg (Gs r),.agg (Gs r)] (True) (.bool true):=⟨λhp=>by
 refine aC Tryz.func74 rfl ?_
 all_goals(repeat'((try(conv=>whnf));first
  |apply zaf|(with_reducible apply zab)|apply zaq))
 all_goals first
  |rfl⟩
instance afQ(p:Rq × Rq):DenI Tryz.prog 27 [.agg (iY p),.agg (iY p)] (True) (.bool true):=⟨λhp=>by
 refine aC Tryz.func27 rfl ?_
 all_goals(repeat'((try(conv=>whnf));first
  |apply zaf|(with_reducible apply zab)|apply zaq))
 all_goals first
  |rfl⟩
instance Kz(e:Ent):DenI Tryz.prog 26 [.agg (aK e)] (e.pts.length<=1000000) (xZ e):=⟨λhp=>by
 refine aC Tryz.func26 rfl ?_
 all_goals(repeat'((try(conv=>whnf));first
  |(with_reducible first|apply zab|apply zac|refine zad (λ_=>?_) (λ_=>?_))|refine zas ζ ?_|refine zan P0 ?_ ?_|apply zaq))
 all_goals(try apply zar)
 all_goals(try simp only[aG]at *)
 all_goals first
  |(exfalso;omega)|exact Dw ω (by first|rfl|omega) (by first|rfl|omega)|exact Hl ω|omega⟩
instance(priority:=3000) Bq(e:Ent):DenI Tryz.prog 26 [.agg (aK e)] (e.pts.length<=1000000) (.tup [.c (.sl 8 ((aA e).map vecC)),.bool (decide (aA e≠[]))]):=⟨λhp=>O5 rfl (by by_cases h:aA e=[]<;>simp [h]) ((Kz e).den hp)⟩
@[reducible] def sgR(a b c d:Rat):List Cell:=[.v (.bool false),zs (b-d:Rat).num,zl (b-d:Rat).num,zs (b-d:Rat).den,zl (b-d:Rat).den,zs (c-a:Rat).num,zl (c-a:Rat).num,zs (c-a:Rat).den,zl (c-a:Rat).den,zs ((b-d)*a+(c-a)*b:Rat).num,zl ((b-d)*a+(c-a)*b:Rat).num,zs ((b-d)*a+(c-a)*b:Rat).den,zl ((b-d)*a+(c-a)*b:Rat).den,.v (.bool false),.sl 1 [],.v (.bool false),.sl 1 [],.v (.bool false),.sl 1 [],.v (.bool false),.sl 1 [],.v (.bool false),.sl 1 [],.v (.bool false),.sl 1 [],.v (.bool false),zs (a:Rat).num,zl (a:Rat).num,zs (a:Rat).den,zl (a:Rat).den,zs (0:Rat).num,zl (0:Rat).num,zs (0:Rat).den,zl (0:Rat).den,zs (b:Rat).num,zl (b:Rat).num,zs (b:Rat).den,zl (b:Rat).den,zs (0:Rat).num,zl (0:Rat).num,zs (0:Rat).den,zl (0:Rat).den,zs (0:Rat).num,zl (0:Rat).num,zs (0:Rat).den,zl (0:Rat).den,zs (c:Rat).num,zl (c:Rat).num,zs (c:Rat).den,zl (c:Rat).den,zs (0:Rat).num,zl (0:Rat).num,zs (0:Rat).den,zl (0:Rat).den,zs (d:Rat).num,zl (d:Rat).num,zs (d:Rat).den,zl (d:Rat).den,zs (0:Rat).num,zl (0:Rat).num,zs (0:Rat).den,zl (0:Rat).den,zs (0:Rat).num,zl (0:Rat).num,zs (0:Rat).den,zl (0:Rat).den]
instance adf(a:Rat):DenI Tryz.prog 212 [R a] (rz a<=1000000) (R (-a)):=⟨λhp=>by
 have i_a:RzB a 1000000:=⟨hp⟩
 all_goals refine aC Tryz.func212 rfl ?_
 all_goals(repeat'((try(conv=>whnf));first
  |refine zaa ?_ ?_|apply zaq))
 all_goals(try apply zar)
 all_goals first
  |rfl|exact zav⟩
instance acG(a b:Rat):DenI Tryz.prog 244 [R a,R b] (rz a<=1000000/\rz b<=1000000) (R (a+b)):=⟨λhp=>by
 have i_a:RzB a 1000000:=⟨hp.1⟩
 have i_b:RzB b 1000000:=⟨hp.2⟩
 all_goals refine aC Tryz.func244 rfl ?_
 all_goals(repeat'((try(conv=>whnf));first
  |refine zaa ?_ ?_|apply zaq))
 all_goals(try apply zar)
 all_goals first
  |rfl|exact zav⟩
instance acI(a b:Rat):DenI Tryz.prog 245 [R a,R b] (rz a<=1000000/\rz b<=1000000) (R (a*b)):=⟨λhp=>by
 have i_a:RzB a 1000000:=⟨hp.1⟩
 have i_b:RzB b 1000000:=⟨hp.2⟩
 all_goals refine aC Tryz.func245 rfl ?_
 all_goals(repeat'((try(conv=>whnf));first
  |refine zaa ?_ ?_|apply zaq))
 all_goals(try apply zar)
 all_goals first
  |rfl|exact zav⟩
instance ac4(a b c d q:Rat):DenI Tryz.prog 211 [R a,R b,R c,R d,R (q*q)] (rz a<=100/\rz b<=100/\rz c<=100/\rz d<=100/\rz q<=100) (Q5 (a+b*qg (q*q)) 0 (c+d*qg (q*q)) 0 0):=⟨λhp=>by
 have i_a:RzB a 100:=⟨hp.1⟩
 have i_b:RzB b 100:=⟨hp.2.1⟩
 have i_c:RzB c 100:=⟨hp.2.2.1⟩
 have i_d:RzB d 100:=⟨hp.2.2.2.1⟩
 have i_q:RzB q 100:=⟨hp.2.2.2.2⟩
 all_goals refine aC Tryz.func211 rfl ?_
 all_goals(repeat'((try(conv=>whnf));first
  |refine zaa ?_ ?_|refine zao ?_ (λ_=>?_) (λ_=>?_)|(with_reducible first|apply zab|apply zac)|refine zas ζ ?_|apply zaq))
 all_goals(try apply zar)
 all_goals first
  |(exfalso;rename ¬jW _=true=>h;exact h (Cc _))|(have i:RzB (qg (q*q)) 200:=⟨aP (V8 (Cc q)) (dX ω)⟩;(repeat' apply And.intro)<;>exact dX ω)|rfl⟩
instance acT(X Y q:Rat):DenI Tryz.prog 169 [Q3 X Y (q*q)] (rz X<=50/\rz Y<=50/\rz q<=50) (.tup [Q5 (X + -((1:Int):Rat)*qg (q*q)) 0 (Y+((0:Int):Rat)*qg (q*q)) 0 0,Q5 (X+((1:Int):Rat)*qg (q*q)) 0 (Y+((0:Int):Rat)*qg (q*q)) 0 0]):=⟨λhp=>by
 have i_X:RzB X 50:=⟨hp.1⟩
 have i_Y:RzB Y 50:=⟨hp.2.1⟩
 have i_q:RzB q 50:=⟨hp.2.2⟩
 all_goals refine aC Tryz.func169 rfl ?_
 all_goals(repeat'((try(conv=>whnf));first
  |refine zaa ?_ ?_|refine zas ζ ?_|apply zaq))
 all_goals(try apply zar)
 all_goals first
  |exact⟨ω,(by(try rw[fG]);decide +kernel),ω,by decide +kernel,ω⟩|rfl|exact zav|omega⟩
instance abf(X Y q:Rat):DenI Tryz.prog 127 [Q3 X Y (q*q)] (rz X<=50/\rz Y<=50/\rz q<=50) (.c (.sl 66 [xk X Y (q*q) false (X + -((1:Int):Rat)*qg (q*q)) (Y+((0:Int):Rat)*qg (q*q)) (X+((1:Int):Rat)*qg (q*q)) (Y+((0:Int):Rat)*qg (q*q)),xk X Y (q*q) false (X+((1:Int):Rat)*qg (q*q)) (Y+((0:Int):Rat)*qg (q*q)) (X + -((1:Int):Rat)*qg (q*q)) (Y+((0:Int):Rat)*qg (q*q))])):=⟨λhp=>by
 have i_X:RzB X 50:=⟨hp.1⟩
 have i_Y:RzB Y 50:=⟨hp.2.1⟩
 have i_q:RzB q 50:=⟨hp.2.2⟩
 all_goals refine aC Tryz.func127 rfl ?_
 all_goals(repeat'((try(conv=>whnf));first
  |refine zaa ?_ ?_|apply zaq))
 all_goals(try apply zar)
 all_goals first
  |rfl|exact zav⟩
instance abt(a b c d:Rat):DenC Tryz.prog 128 [Q2 a b,Q2 c d] (rz a<=50/\rz b<=50/\rz c<=50/\rz d<=50) ((b-d)=0/\(c-a)=0) (.tup [.agg [.v (.bool false),.v (.bool false),.sl 1 [],.v (.bool false),.sl 1 [],.v (.bool false),.sl 1 [],.v (.bool false),.sl 1 [],.v (.bool false),.sl 1 [],.v (.bool false),.sl 1 [],.v (.bool false),.sl 1 [],.v (.bool false),.sl 1 [],.v (.bool false),.sl 1 [],.v (.bool false),.sl 1 [],.v (.bool false),.sl 1 [],.v (.bool false),.sl 1 [],.v (.bool false),.v (.bool false),.sl 1 [],.v (.bool false),.sl 1 [],.v (.bool false),.sl 1 [],.v (.bool false),.sl 1 [],.v (.bool false),.sl 1 [],.v (.bool false),.sl 1 [],.v (.bool false),.sl 1 [],.v (.bool false),.sl 1 [],.v (.bool false),.sl 1 [],.v (.bool false),.sl 1 [],.v (.bool false),.sl 1 [],.v (.bool false),.sl 1 [],.v (.bool false),.sl 1 [],.v (.bool false),.sl 1 [],.v (.bool false),.sl 1 [],.v (.bool false),.sl 1 [],.v (.bool false),.sl 1 [],.v (.bool false),.sl 1 [],.v (.bool false),.sl 1 [],.v (.bool false),.sl 1 []],.int .i64 6]) (.tup [.agg (sgR a b c d),.int .i64 0]):=⟨denC λhp q e1 e2=>by
 have i_a:RzB a 50:=⟨hp.1⟩
 have i_b:RzB b 50:=⟨hp.2.1⟩
 have i_c:RzB c 50:=⟨hp.2.2.1⟩
 have i_d:RzB d 50:=⟨hp.2.2.2⟩
 all_goals refine den_of (τ:=tab) fJ aQ Tryz.func128 rfl ζ ζ ζ ?_
 all_goals(repeat'((try(conv=>whnf));first
  |refine zaa ?_ ?_|refine zao ?_ (λ_=>?_) (λ_=>?_)|(with_reducible refine zae (λ_=>?_) (λ_=>?_))|refine zas ζ ?_|apply zaq))
 all_goals(try apply zar)
 all_goals(try simp only[aW]at *)
 all_goals first
  |(exfalso;omega)|exact zay|exact za0|exact za6|exact zav⟩
instance aeR(l:ByteArray)(a b:P2)(r:Rq):DenC Tryz.prog 98 [.agg [.v (.int .i64 1),.v (.string l),.sl 8 [vecC a,vecC b],.v (.bool r.a),lmc r.l,.v (.bool r.b),lmc r.m]] (aF a/\aF b) ((a.2-b.2)=0/\(b.1-a.1)=0) (.tup [.c (.sl 0 []),.int .i64 6]) (.tup [.c (.sl 66 [sgR a.1 a.2 b.1 b.2]),.int .i64 0]):=⟨denC λhp q e1 e2=>by
 obtain⟨g1,g2⟩:=hp
 all_goals refine den_of (τ:=tab) fJ aQ Tryz.func98 rfl ζ ζ ζ ?_
 all_goals(repeat'((try(conv=>whnf));first
  |refine zao ?_ (λ_=>?_) (λ_=>?_)|(with_reducible first|refine zad (λ_=>?_) (λ_=>?_)|refine zae (λ_=>?_) (λ_=>?_))|refine zas ζ ?_|(with_reducible first|apply zaj|apply zai)|apply zaq))
 all_goals(try apply zar)
 all_goals(try simp only[aW]at *)
 all_goals first
  |exact zay|(exfalso;omega)|exact za0|exact za6|exact⟨aP g1.1 ψ,aP g1.2 ψ,aP g2.1 ψ,aP g2.2 ψ⟩⟩
instance afa(l:ByteArray)(a m b:P2)(r:Rq):DenC Tryz.prog 98 [.agg [.v (.int .i64 2),.v (.string l),.sl 8 [vecC a,vecC m,vecC b],.v (.bool r.a),lmc r.l,.v (.bool r.b),lmc r.m]] (aF a/\aF m/\aF b) (fZ a m b=0) (.tup [.c (.sl 0 []),.int .i64 6]) (.tup [.c (.sl 66 [xk (Vh a m b) (WJ a m b) (GN a m b) (!decide (0<fZ a m b)) a.1 a.2 b.1 b.2]),.int .i64 0]):=⟨denC λhp q e1 e2=>by
 obtain⟨g1,g2,g3⟩:=hp
 all_goals refine den_of (τ:=tab) fJ aQ Tryz.func98 rfl ζ ζ ζ ?_
 all_goals(repeat'((try(conv=>whnf));first
  |refine zao ?_ (λ_=>?_) (λ_=>?_)|(with_reducible first|refine zad (λ_=>?_) (λ_=>?_)|refine zae (λ_=>?_) (λ_=>?_))|refine zas ζ ?_|(with_reducible first|apply zaj|apply zai|refine EP ?_)|apply zaq))
 all_goals(try apply zar)
 all_goals(try simp only[aW]at *)
 all_goals first
  |exact zay|(exfalso;omega)|exact za0|exact za6|exact⟨aP g1.1 ψ,aP g1.2 ψ,aP g2.1 ψ,aP g2.2 ψ⟩|exact⟨aP g1.1 ψ,aP g1.2 ψ,aP g2.1 ψ,aP g2.2 ψ,aP g3.1 ψ,aP g3.2 ψ⟩⟩
instance aeQ(l:ByteArray)(a:P2)(q:Rat):DenI Tryz.prog 98 [.agg [.v (.int .i64 3),.v (.string l),.sl 8 [vecC a],zs q.num,zl q.num,zs q.den,zl q.den]] (aF a/\rz q<=12) (.tup [.c (.sl 66 [xk a.1 a.2 (q*q) false (a.1 + -((1:Int):Rat)*qg (q*q)) (a.2+((0:Int):Rat)*qg (q*q)) (a.1+((1:Int):Rat)*qg (q*q)) (a.2+((0:Int):Rat)*qg (q*q)),xk a.1 a.2 (q*q) false (a.1+((1:Int):Rat)*qg (q*q)) (a.2+((0:Int):Rat)*qg (q*q)) (a.1 + -((1:Int):Rat)*qg (q*q)) (a.2+((0:Int):Rat)*qg (q*q))]),.int .i64 0]):=⟨λhp=>by
 obtain⟨g1,g2⟩:=hp
 all_goals refine aC Tryz.func98 rfl ?_
 all_goals(repeat'((try(conv=>whnf));first
  |refine zaa ?_ ?_|(with_reducible refine zad (λ_=>?_) (λ_=>?_))|refine zas ζ ?_|(with_reducible apply zaj)|apply zaq))
 all_goals(try apply zar)
 all_goals(try simp only[aW]at *)
 all_goals first
  |exact zay|rfl|exact aP g2 ψ|exact⟨aP g1.1 ψ,aP g1.2 ψ,aP g2 ψ⟩⟩
instance adW(l:ByteArray)(a b:P2)(r:Rq):DenI Tryz.prog 26 [.agg [.v (.int .i64 1),.v (.string l),.sl 8 [vecC a,vecC b],.v (.bool r.a),lmc r.l,.v (.bool r.b),lmc r.m]] True (.tup [.c (.sl 8 [vecC a,vecC b]),.bool true]):=⟨λ_=>by
 have h:=(Bq ⟨1,l,[a,b],r⟩).den (by show _<=1000000;simp);simp only[aA]at h
 exact h⟩
instance ac0(l:ByteArray)(a m b:P2)(r:Rq):DenI Tryz.prog 26 [.agg [.v (.int .i64 2),.v (.string l),.sl 8 [vecC a,vecC m,vecC b],.v (.bool r.a),lmc r.l,.v (.bool r.b),lmc r.m]] True (.tup [.c (.sl 8 [vecC a,vecC b]),.bool true]):=⟨λ_=>by
 have h:=(Bq ⟨2,l,[a,m,b],r⟩).den (by show _<=1000000;simp);simp only[aA]at h
 exact h⟩
instance abC(l:ByteArray)(a:P2)(q:Rat):DenI Tryz.prog 26 [.agg [.v (.int .i64 3),.v (.string l),.sl 8 [vecC a],zs q.num,zl q.num,zs q.den,zl q.den]] True (.tup [.c (.sl 8 []),.bool false]):=⟨λ_=>by
 have h:=(Bq ⟨3,l,[a],iR q⟩).den (by show _<=1000000;simp);simp only[aA]at h
 exact h⟩
instance Y4(l:ByteArray)(a b:P2)(r:Rq):DenI Tryz.prog 58 [.agg [.v (.int .i64 1),.v (.string l),.sl 8 [vecC a,vecC b],.v (.bool r.a),lmc r.l,.v (.bool r.b),lmc r.m]] (aF a/\aF b) (.int .i64 (dJ ⟨1,l,[a,b],r⟩:Nat)):=⟨λhp=>by
 obtain⟨g1,g2⟩:=hp
 all_goals refine aC Tryz.func58 rfl ?_
 all_goals(repeat'((try(conv=>whnf));first
  |apply zaf|refine zaa ?_ ?_|refine zao ?_ (λ_=>?_) (λ_=>?_)|(with_reducible first|apply zab|refine zae (λ_=>?_) (λ_=>?_))|refine zat (λ_=>?_) (λ_=>?_)|refine zas ζ ?_|(with_reducible first|apply zaj|apply zai)|apply zaq))
 all_goals(try apply zar)
 all_goals(try simp only[aW]at *)
 all_goals first
  |exact zay|(exfalso;omega)|exact Ul (e:=⟨1,l,[a,b],r⟩) (a:=a) (b:=b) rfl ξ|exact aaq ξ|(exfalso;have h1:=XO (a:=a) (b:=b) ξ;unfold pE at h1;simp_all;done)|exact⟨aP g1.1 ψ,aP g1.2 ψ,aP g2.1 ψ,aP g2.2 ψ⟩|exact⟨g1,g2⟩⟩
instance Y9(l:ByteArray)(a m b:P2)(r:Rq):DenI Tryz.prog 58 [.agg [.v (.int .i64 2),.v (.string l),.sl 8 [vecC a,vecC m,vecC b],.v (.bool r.a),lmc r.l,.v (.bool r.b),lmc r.m]] (aF a/\aF m/\aF b) (.int .i64 (dJ ⟨2,l,[a,m,b],r⟩:Nat)):=⟨λhp=>by
 obtain⟨g1,g2,g3⟩:=hp
 all_goals refine aC Tryz.func58 rfl ?_
 all_goals(repeat'((try(conv=>whnf));first
  |apply zaf|refine zaa ?_ ?_|refine zao ?_ (λ_=>?_) (λ_=>?_)|(with_reducible first|apply zab|refine zae (λ_=>?_) (λ_=>?_))|refine zat (λ_=>?_) (λ_=>?_)|refine zas ζ ?_|(with_reducible first|apply zaj|apply zai)|apply zaq))
 all_goals(try apply zar)
 all_goals(try simp only[aW]at *)
 all_goals first
  |exact zay|(exfalso;omega)|exact Ul (e:=⟨2,l,[a,m,b],r⟩) (a:=a) (b:=b) rfl ξ|exact U5 ξ ξ|exact Xx ξ ξ|exact⟨aP g1.1 ψ,aP g1.2 ψ,aP g3.1 ψ,aP g3.2 ψ⟩|exact⟨g1,g2,g3⟩⟩
instance aaO(l:ByteArray)(a:P2)(q:Rat):DenI Tryz.prog 58 [.agg [.v (.int .i64 3),.v (.string l),.sl 8 [vecC a],zs q.num,zl q.num,zs q.den,zl q.den]] (aF a/\rz q<=12) (.int .i64 (dJ ⟨3,l,[a],iR q⟩:Nat)):=⟨λhp=>by
 obtain⟨g1,g2⟩:=hp
 all_goals refine aC Tryz.func58 rfl ?_
 all_goals(repeat'((try(conv=>whnf));first
  |apply zaf|refine zaa ?_ ?_|(with_reducible first|apply zac|refine zae (λ_=>?_) (λ_=>?_))|refine zas ζ ?_|apply zaq))
 all_goals(try apply zar)
 all_goals(try simp only[aW]at *)
 all_goals first
  |exact zay|exact Yw|exact⟨g1,g2⟩⟩
instance(priority:=2000) abe(e:Ent):DenI Tryz.prog 58 [.agg (aK e)] (okV e) (.int .i64 (dJ e:Nat)):=⟨λh1=>by
 rcases jI h1 with⟨l1,a,b,r1,rfl,g1,g3,_⟩|⟨l1,a,m,b,r1,rfl,g1,g2,g3,_⟩|⟨l1,a,q1,rfl,g1,_,g7,_⟩
 .exact(Y4 l1 a b r1).den ⟨g1,g3⟩
 .exact(Y9 l1 a m b r1).den ⟨g1,g2,g3⟩
 .exact(aaO l1 a q1).den ⟨g1,g7⟩⟩
instance afh(l:ByteArray)(a m b:P2)(r:Rq)(v:P2):DenI Tryz.prog 131 [.agg [.v (.int .i64 2),.v (.string l),.sl 8 [vecC a,vecC m,vecC b],.v (.bool r.a),lmc r.l,.v (.bool r.b),lmc r.m],.agg (vecC v)] (aF a/\aF m/\aF b/\aF v) (.bool (uD a m b v)):=⟨λhp=>by
 obtain⟨g1,g2,g3,g4⟩:=hp
 all_goals refine aC Tryz.func131 rfl ?_
 all_goals(repeat'((try(conv=>whnf));first
  |refine zaa ?_ ?_|refine zao ?_ (λ_=>?_) (λ_=>?_)|(with_reducible first|apply zab|apply zac|refine zad (λ_=>?_) (λ_=>?_))|refine zas ζ ?_|(with_reducible apply zaj)|apply zaq))
 all_goals(try apply zar)
 all_goals(try simp only[aW]at *)
 all_goals first
  |exact zay|(exfalso;omega)|exact bE (Tm (a:=a) (b:=m) (c:=b) (p:=v) ξ)|exact bE (Nh (a:=a) (b:=m) (c:=b) (p:=v) ξ).symm|exact⟨g1,g2,g3⟩|exact⟨(sK g1 g2 g3).1,(sK g1 g2 g3).2.1,(sK g1 g2 g3).2.2,g1.1,g1.2,g3.1,g3.2,g4.1,g4.2⟩|exact⟨aP g4.1 ψ,aP g4.2 ψ⟩⟩
instance af7(a b c d:P2):DenI Tryz.prog 130 [.c (.sl 8 [vecC a,vecC b]),.c (.sl 8 [vecC c,vecC d])] (aF a/\aF b/\aF c/\aF d) (.bool (nP [a,b] [c,d])):=⟨λhp=>by
 obtain⟨z0,z1,z2,z3⟩:=hp;have h:=(nY (h:=DX [a,b] [c,d])).den ⟨η,η,λp h=>by simp at h;rcases h with rfl|rfl<;>assumption,λp h=>by simp at h;rcases h with rfl|rfl<;>assumption⟩
 simpa using h⟩
instance af8(a m b c n d:P2):DenI Tryz.prog 130 [.c (.sl 8 [vecC a,vecC m,vecC b]),.c (.sl 8 [vecC c,vecC n,vecC d])] (aF a/\aF m/\aF b/\aF c/\aF n/\aF d) (.bool (nP [a,m,b] [c,n,d])):=⟨λhp=>by
 obtain⟨z0,z1,z2,z3,z4,z5⟩:=hp;have h:=(nY (h:=DX [a,m,b] [c,n,d])).den ⟨η,η,λp h=>by simp at h;rcases h with rfl|rfl|rfl<;>assumption,λp h=>by simp at h;rcases h with rfl|rfl|rfl<;>assumption⟩
 simpa using h⟩
instance VG(l1 l2:ByteArray)(a b c d:P2)(r1:Rq)(r2:Rq):DenI Tryz.prog 99 [.agg [.v (.int .i64 1),.v (.string l1),.sl 8 [vecC a,vecC b],.v (.bool r1.a),lmc r1.l,.v (.bool r1.b),lmc r1.m],.agg [.v (.int .i64 1),.v (.string l2),.sl 8 [vecC c,vecC d],.v (.bool r2.a),lmc r2.l,.v (.bool r2.b),lmc r2.m]] (aF a/\aF b/\aF c/\aF d) (.bool (aZ ⟨1,l1,[a,b],r1⟩ ⟨1,l2,[c,d],r2⟩)):=⟨λhp=>by
 obtain⟨g1,g2,g3,g4⟩:=hp
 all_goals refine aC Tryz.func99 rfl ?_
 all_goals(repeat'((try(conv=>whnf));first
  |apply zaf|refine zaa ?_ ?_|(with_reducible first|apply zab|apply zac|refine zad (λ_=>?_) (λ_=>?_)|refine zae (λ_=>?_) (λ_=>?_))|refine zat (λ_=>?_) (λ_=>?_)|refine zas ζ ?_|(with_reducible first|apply zaj|apply zai)|apply zaq))
 all_goals(try apply zar)
 all_goals(try simp only[aW]at *)
 all_goals first
  |exact zay|exact⟨g1,g2,g3,g4⟩|exact bE (MR ξ)|exact bE (Zi ξ)⟩
instance VU(l1 l2:ByteArray)(a b c n d:P2)(r1:Rq)(r2:Rq):DenI Tryz.prog 99 [.agg [.v (.int .i64 1),.v (.string l1),.sl 8 [vecC a,vecC b],.v (.bool r1.a),lmc r1.l,.v (.bool r1.b),lmc r1.m],.agg [.v (.int .i64 2),.v (.string l2),.sl 8 [vecC c,vecC n,vecC d],.v (.bool r2.a),lmc r2.l,.v (.bool r2.b),lmc r2.m]] (aF a/\aF b/\aF c/\aF n/\aF d) (.bool (aZ ⟨1,l1,[a,b],r1⟩ ⟨2,l2,[c,n,d],r2⟩)):=⟨λhp=>by
 obtain⟨g1,g2,g3,g4,g5⟩:=hp
 all_goals refine aC Tryz.func99 rfl ?_
 all_goals(repeat'((try(conv=>whnf));first
  |refine zaa ?_ ?_|(with_reducible first|apply zab|apply zac|refine zad (λ_=>?_) (λ_=>?_)|refine zae (λ_=>?_) (λ_=>?_))|refine zat (λ_=>?_) (λ_=>?_)|refine zas ζ ?_|(with_reducible apply zaj)|apply zaq))
 all_goals(try apply zar)
 all_goals(try simp only[aW]at *)
 all_goals first
  |exact zay|(exfalso;omega)|(refine bE ?_;rw[gY (by show¬((1:Int)=2);decide)];done)⟩
instance U1(l1 l2:ByteArray)(a b c:P2)(r1:Rq)(q2:Rat):DenI Tryz.prog 99 [.agg [.v (.int .i64 1),.v (.string l1),.sl 8 [vecC a,vecC b],.v (.bool r1.a),lmc r1.l,.v (.bool r1.b),lmc r1.m],.agg [.v (.int .i64 3),.v (.string l2),.sl 8 [vecC c],zs q2.num,zl q2.num,zs q2.den,zl q2.den]] (aF a/\aF b/\aF c/\rz q2<=12) (.bool (aZ ⟨1,l1,[a,b],r1⟩ ⟨3,l2,[c],iR q2⟩)):=⟨λhp=>by
 obtain⟨g1,g2,g3,g4⟩:=hp
 all_goals refine aC Tryz.func99 rfl ?_
 all_goals(repeat'((try(conv=>whnf));first
  |refine zaa ?_ ?_|(with_reducible first|apply zab|apply zac|refine zad (λ_=>?_) (λ_=>?_)|refine zae (λ_=>?_) (λ_=>?_))|refine zat (λ_=>?_) (λ_=>?_)|refine zas ζ ?_|(with_reducible apply zaj)|apply zaq))
 all_goals(try apply zar)
 all_goals(try simp only[aW]at *)
 all_goals first
  |exact zay|(exfalso;omega)|(refine bE ?_;rw[gY (by show¬((1:Int)=3);decide)];done)⟩
instance Ws(l1 l2:ByteArray)(a m b c d:P2)(r1:Rq)(r2:Rq):DenI Tryz.prog 99 [.agg [.v (.int .i64 2),.v (.string l1),.sl 8 [vecC a,vecC m,vecC b],.v (.bool r1.a),lmc r1.l,.v (.bool r1.b),lmc r1.m],.agg [.v (.int .i64 1),.v (.string l2),.sl 8 [vecC c,vecC d],.v (.bool r2.a),lmc r2.l,.v (.bool r2.b),lmc r2.m]] (aF a/\aF m/\aF b/\aF c/\aF d) (.bool (aZ ⟨2,l1,[a,m,b],r1⟩ ⟨1,l2,[c,d],r2⟩)):=⟨λhp=>by
 obtain⟨g1,g2,g3,g4,g5⟩:=hp
 all_goals refine aC Tryz.func99 rfl ?_
 all_goals(repeat'((try(conv=>whnf));first
  |refine zaa ?_ ?_|(with_reducible first|apply zab|apply zac|refine zad (λ_=>?_) (λ_=>?_)|refine zae (λ_=>?_) (λ_=>?_))|refine zat (λ_=>?_) (λ_=>?_)|refine zas ζ ?_|(with_reducible apply zaj)|apply zaq))
 all_goals(try apply zar)
 all_goals(try simp only[aW]at *)
 all_goals first
  |(exfalso;omega)|(refine bE ?_;rw[gY (by show¬((2:Int)=1);decide)];done)⟩
instance WS(l1 l2:ByteArray)(a m b c n d:P2)(r1:Rq)(r2:Rq):DenI Tryz.prog 99 [.agg [.v (.int .i64 2),.v (.string l1),.sl 8 [vecC a,vecC m,vecC b],.v (.bool r1.a),lmc r1.l,.v (.bool r1.b),lmc r1.m],.agg [.v (.int .i64 2),.v (.string l2),.sl 8 [vecC c,vecC n,vecC d],.v (.bool r2.a),lmc r2.l,.v (.bool r2.b),lmc r2.m]] (aF a/\aF m/\aF b/\aF c/\aF n/\aF d) (.bool (aZ ⟨2,l1,[a,m,b],r1⟩ ⟨2,l2,[c,n,d],r2⟩)):=⟨λhp=>by
 obtain⟨g1,g2,g3,g4,g5,g6⟩:=hp
 all_goals refine aC Tryz.func99 rfl ?_
 all_goals(repeat'((try(conv=>whnf));first
  |apply zaf|refine zaa ?_ ?_|(with_reducible first|apply zab|apply zac|refine zad (λ_=>?_) (λ_=>?_)|refine zae (λ_=>?_) (λ_=>?_))|refine zat (λ_=>?_) (λ_=>?_)|refine zas ζ ?_|(with_reducible first|apply zaj|apply zai)|apply zaq))
 all_goals(try apply zar)
 all_goals(try simp only[aW]at *)
 all_goals first
  |exact zay|(exfalso;omega)|exact⟨g1,g3,g4,g6⟩|exact⟨g1,g2,g3,g4,g5,g6⟩|exact⟨g1,g2,g3,g5⟩|exact⟨g4,g5,g6,g2⟩|exact bE (MR ξ)|(refine bE ?_;rw[<-ZB ξ];simp_all;done)⟩
instance X5(l1 l2:ByteArray)(a m b c:P2)(r1:Rq)(q2:Rat):DenI Tryz.prog 99 [.agg [.v (.int .i64 2),.v (.string l1),.sl 8 [vecC a,vecC m,vecC b],.v (.bool r1.a),lmc r1.l,.v (.bool r1.b),lmc r1.m],.agg [.v (.int .i64 3),.v (.string l2),.sl 8 [vecC c],zs q2.num,zl q2.num,zs q2.den,zl q2.den]] (aF a/\aF m/\aF b/\aF c/\rz q2<=12) (.bool (aZ ⟨2,l1,[a,m,b],r1⟩ ⟨3,l2,[c],iR q2⟩)):=⟨λhp=>by
 obtain⟨g1,g2,g3,g4,g5⟩:=hp
 all_goals refine aC Tryz.func99 rfl ?_
 all_goals(repeat'((try(conv=>whnf));first
  |refine zaa ?_ ?_|(with_reducible first|apply zab|apply zac|refine zad (λ_=>?_) (λ_=>?_)|refine zae (λ_=>?_) (λ_=>?_))|refine zat (λ_=>?_) (λ_=>?_)|refine zas ζ ?_|(with_reducible apply zaj)|apply zaq))
 all_goals(try apply zar)
 all_goals(try simp only[aW]at *)
 all_goals first
  |(exfalso;omega)|(refine bE ?_;rw[gY (by show¬((2:Int)=3);decide)];done)⟩
instance VB(l1 l2:ByteArray)(a c d:P2)(q1:Rat)(r2:Rq):DenI Tryz.prog 99 [.agg [.v (.int .i64 3),.v (.string l1),.sl 8 [vecC a],zs q1.num,zl q1.num,zs q1.den,zl q1.den],.agg [.v (.int .i64 1),.v (.string l2),.sl 8 [vecC c,vecC d],.v (.bool r2.a),lmc r2.l,.v (.bool r2.b),lmc r2.m]] (aF a/\aF c/\aF d/\rz q1<=12) (.bool (aZ ⟨3,l1,[a],iR q1⟩ ⟨1,l2,[c,d],r2⟩)):=⟨λhp=>by
 obtain⟨g1,g2,g3,g4⟩:=hp
 all_goals refine aC Tryz.func99 rfl ?_
 all_goals(repeat'((try(conv=>whnf));first
  |refine zaa ?_ ?_|(with_reducible first|apply zab|apply zac|refine zad (λ_=>?_) (λ_=>?_)|refine zae (λ_=>?_) (λ_=>?_))|refine zat (λ_=>?_) (λ_=>?_)|refine zas ζ ?_|(with_reducible apply zaj)|apply zaq))
 all_goals(try apply zar)
 all_goals(try simp only[aW]at *)
 all_goals first
  |exact zay|(exfalso;omega)|(refine bE ?_;rw[gY (by show¬((3:Int)=1);decide)];done)⟩
instance WE(l1 l2:ByteArray)(a c n d:P2)(q1:Rat)(r2:Rq):DenI Tryz.prog 99 [.agg [.v (.int .i64 3),.v (.string l1),.sl 8 [vecC a],zs q1.num,zl q1.num,zs q1.den,zl q1.den],.agg [.v (.int .i64 2),.v (.string l2),.sl 8 [vecC c,vecC n,vecC d],.v (.bool r2.a),lmc r2.l,.v (.bool r2.b),lmc r2.m]] (aF a/\aF c/\aF n/\aF d/\rz q1<=12) (.bool (aZ ⟨3,l1,[a],iR q1⟩ ⟨2,l2,[c,n,d],r2⟩)):=⟨λhp=>by
 obtain⟨g1,g2,g3,g4,g5⟩:=hp
 all_goals refine aC Tryz.func99 rfl ?_
 all_goals(repeat'((try(conv=>whnf));first
  |refine zaa ?_ ?_|(with_reducible first|apply zab|apply zac|refine zad (λ_=>?_) (λ_=>?_)|refine zae (λ_=>?_) (λ_=>?_))|refine zat (λ_=>?_) (λ_=>?_)|refine zas ζ ?_|(with_reducible apply zaj)|apply zaq))
 all_goals(try apply zar)
 all_goals(try simp only[aW]at *)
 all_goals first
  |exact zay|(exfalso;omega)|(refine bE ?_;rw[gY (by show¬((3:Int)=2);decide)];done)⟩
instance Wp(l1 l2:ByteArray)(a c:P2)(q1:Rat)(q2:Rat):DenI Tryz.prog 99 [.agg [.v (.int .i64 3),.v (.string l1),.sl 8 [vecC a],zs q1.num,zl q1.num,zs q1.den,zl q1.den],.agg [.v (.int .i64 3),.v (.string l2),.sl 8 [vecC c],zs q2.num,zl q2.num,zs q2.den,zl q2.den]] (aF a/\aF c/\rz q1<=12/\rz q2<=12) (.bool (aZ ⟨3,l1,[a],iR q1⟩ ⟨3,l2,[c],iR q2⟩)):=⟨λhp=>by
 obtain⟨g1,g2,g3,g4⟩:=hp
 all_goals refine aC Tryz.func99 rfl ?_
 all_goals(repeat'((try(conv=>whnf));first
  |refine zaa ?_ ?_|(with_reducible first|apply zab|apply zac|refine zad (λ_=>?_) (λ_=>?_)|refine zae (λ_=>?_) (λ_=>?_))|refine zat (λ_=>?_) (λ_=>?_)|refine zas ζ ?_|(with_reducible apply zaj)|apply zaq))
 all_goals(try apply zar)
 all_goals(try simp only[aW]at *)
 all_goals first
  |exact zay|(exfalso;omega)|exact⟨aP g1.1 ψ,aP g1.2 ψ,aP g2.1 ψ,aP g2.2 ψ⟩|exact bE (MR ξ)|exact⟨aP g3 ψ,aP g4 ψ⟩|(refine bE ?_;rw[<-Zz ξ];simp_all;done)⟩
instance(priority:=2000) abp(e f:Ent):DenI Tryz.prog 99 [.agg (aK e),.agg (aK f)] (okV e/\okV f) (.bool (aZ e f)):=⟨λ⟨h1,h2⟩=>by
 rcases jI h1 with⟨l1,a,b,r1,rfl,g1,g3,_⟩|⟨l1,a,m,b,r1,rfl,g1,g2,g3,_⟩|⟨l1,a,q1,rfl,g1,_,g7,_⟩<;>rcases jI h2 with⟨l2,c,d,r2,rfl,g4,g6,_⟩|⟨l2,c,n,d,r2,rfl,g4,g5,g6,_⟩|⟨l2,c,q2,rfl,g4,_,g8,_⟩
 .exact(VG l1 l2 a b c d r1 r2).den ⟨g1,g3,g4,g6⟩
 .exact(VU l1 l2 a b c n d r1 r2).den ⟨g1,g3,g4,g5,g6⟩
 .exact(U1 l1 l2 a b c r1 q2).den ⟨g1,g3,g4,g8⟩
 .exact(Ws l1 l2 a m b c d r1 r2).den ⟨g1,g2,g3,g4,g6⟩
 .exact(WS l1 l2 a m b c n d r1 r2).den ⟨g1,g2,g3,g4,g5,g6⟩
 .exact(X5 l1 l2 a m b c r1 q2).den ⟨g1,g2,g3,g4,g8⟩
 .exact(VB l1 l2 a c d q1 r2).den ⟨g1,g4,g6,g7⟩
 .exact(WE l1 l2 a c n d q1 r2).den ⟨g1,g4,g5,g6,g7⟩
 .exact(Wp l1 l2 a c q1 q2).den ⟨g1,g4,g7,g8⟩⟩
instance PW(l:List Ent):DenI Tryz.prog 59 [.c (.sl 7 (l.map aK))] (l.length<=1000/\∀e∈l,okV e) (.c (.sl 1 ((bJ l).map bC))):=⟨λ⟨h1,h4⟩=>by
 refine aC Tryz.func59 rfl ?_
 (conv=>whnf)
 refine Sw.Loop.ghost 3 100 4 1 ?_ rfl rfl rfl ψ;refine Sw.Loop.inv (α:=Nat) (λx=>[(0,.c (.sl 7 (l.map aK))),(3,.gs 100 ((bJ (l.take x)).map bC).length),(4,.int .i64 (x:Nat))]) (λx=>[(100,.grow 4 1 ((bJ (l.take x)).map bC))]) (λx=>x<=l.length) (λx=>l.length-x) 0 ?_ ?_ ?_ (λx hx=>?_)
 .exact⟨rfl,rfl,rfl,trivial⟩
 .exact⟨rfl,trivial⟩
 .exact jd _
 all_goals(repeat'((try(conv=>whnf));first
  |(with_reducible refine zad (λ_=>?_) (λ_=>?_))|refine zah ?_ ?_|apply zaq))
 all_goals(try apply zar)
 all_goals(try simp only[aG,dh]at *)
 all_goals first
  |((conv=>whnf);refine Sw.Loop.inv (α:=Nat) (λy=>[(0,.c (.sl 7 (l.map aK))),(3,.gs 100 ((bJ (l.take x)).map bC).length),(4,.int .i64 (x:Nat)),(5,.bool ((l.take y).any λf=>aZ f (l.getD x E0))),(6,.int .i64 (y:Nat))]) (λy=>[(100,.grow 4 1 ((bJ (l.take x)).map bC))]) (λy=>y<=x) (λy=>x-y) 0 ?_ ?_ ?_ (λy hy=>?_))|skip
 all_goals(repeat'((try(conv=>whnf));first
  |refine zaa ?_ ?_|(with_reducible first|apply zab|apply zac|refine zad (λ_=>?_) (λ_=>?_))|refine zat (λ_=>?_) (λ_=>?_)|refine zah ?_ ?_|refine zas ζ ?_|refine zan E0 ?_ ?_))
 all_goals(try apply zar)
 all_goals(try simp only[aG,dh]at *)
 all_goals(try(have hrl:(bJ (l.take x)).length<=x:=by rw[fF,kM];omega))
 all_goals first
  |omega|exact za5|exact⟨rfl,rfl,rfl,rfl,rfl,trivial⟩|exact⟨rfl,trivial⟩|exact⟨nM h4 ω,nM h4 ω⟩|((with_reducible show packA _=_);have hxx:x=l.length:=ω;subst hxx;rw[xY];rfl)|((conv=>whnf);exact⟨y+1,⟨⟨rfl,rfl,rfl,(by show some (AV.bool _)=some (AV.bool _);rw[anS ω];simp_all;done),aH ω,trivial⟩,⟨rfl,trivial⟩,ω,(by show x-(y+1)<x-y;omega)⟩⟩)|(have hy2:y=x:=ω;subst hy2;have hm:=rpS (l:=l) (x:=y) ω;(conv=>whnf);exact⟨y+1,⟨⟨rfl,(by(simp only[hm,bH,bK,bV,bI,bF,aG,bn,bG]);(first|done|rfl)),aH ω,trivial⟩,⟨(by(simp only[hm,bH,bK,bV,bI]);(first|done|rfl)),trivial⟩,ω,(by show l.length-(y+1)<l.length-y;omega)⟩⟩)⟩
instance QD(l:List Ent):DenI Tryz.prog 60 [.c (.sl 7 (l.map aK))] (l.length<=1000/\∀e∈l,okV e) (.c (.sl 2 ((zu l).map Lr))):=⟨λ⟨h1,h4⟩=>by
 refine aC Tryz.func60 rfl ?_
 (conv=>whnf)
 refine Sw.Loop.ghost 3 100 68 2 ?_ rfl rfl rfl ψ;refine Sw.Loop.inv (α:=Nat) (λx=>[(0,.c (.sl 7 (l.map aK))),(3,.gs 100 ((uM l x 0).map Lr).length),(4,.int .i64 (x:Nat))]) (λx=>[(100,.grow 68 2 ((uM l x 0).map Lr))]) (λx=>x<=l.length) (λx=>l.length-x) 0 ?_ ?_ ?_ (λx hx=>?_)
 .exact⟨rfl,rfl,rfl,trivial⟩
 .exact⟨rfl,trivial⟩
 .exact jd _
 all_goals(repeat'((try(conv=>whnf));first
  |refine zaa ?_ ?_|(with_reducible refine zad (λ_=>?_) (λ_=>?_))|refine zah ?_ ?_|refine zan E0 ?_ ?_|apply zaq))
 all_goals(try apply zar)
 all_goals(try simp only[aG,dh]at *)
 all_goals first
  |((conv=>whnf);refine Sw.Loop.inv (α:=Nat) (λn=>[(0,.c (.sl 7 (l.map aK))),(3,.gs 100 ((uM l x n).map Lr).length),(4,.int .i64 (x:Nat)),(5,.c (.sl 8 ((aA (l.getD x E0)).map vecC))),(7,.int .i64 (n:Nat))]) (λn=>[(100,.grow 68 2 ((uM l x n).map Lr))]) (λn=>n<=(aA (l.getD x E0)).length) (λn=>(aA (l.getD x E0)).length-n) 0 ?_ ?_ ?_ (λn hn=>?_))|skip
 all_goals(repeat'((try(conv=>whnf));first
  |(with_reducible refine zad (λ_=>?_) (λ_=>?_))))
 all_goals(try simp only[aG,dh]at *)
 all_goals first
  |((conv=>whnf);refine Sw.Loop.inv (α:=Nat) (λk=>[(0,.c (.sl 7 (l.map aK))),(3,.gs 100 ((uM l x n).map Lr).length),(4,.int .i64 (x:Nat)),(5,.c (.sl 8 ((aA (l.getD x E0)).map vecC))),(7,.int .i64 (n:Nat)),(8,.bool (KQ l x n ((aA (l.getD x E0)).getD n P0) k 0)),(9,.int .i64 (k:Nat))]) (λk=>[(100,.grow 68 2 ((uM l x n).map Lr))]) (λk=>k<=l.length) (λk=>l.length-k) 0 ?_ ?_ ?_ (λk hk=>?_))|skip
 all_goals(repeat'((try(conv=>whnf));first
  |refine zaa ?_ ?_|(with_reducible refine zad (λ_=>?_) (λ_=>?_))|refine zat (λ_=>?_) (λ_=>?_)|refine zah ?_ ?_|refine zan E0 ?_ ?_))
 all_goals(try apply zar)
 all_goals(try simp only[aG,dh]at *)
 all_goals first
  |((conv=>whnf);refine Sw.Loop.inv (α:=Nat) (λm=>[(0,.c (.sl 7 (l.map aK))),(3,.gs 100 ((uM l x n).map Lr).length),(4,.int .i64 (x:Nat)),(5,.c (.sl 8 ((aA (l.getD x E0)).map vecC))),(7,.int .i64 (n:Nat)),(8,.bool (KQ l x n ((aA (l.getD x E0)).getD n P0) k m)),(9,.int .i64 (k:Nat)),(10,.c (.sl 8 ((aA (l.getD k E0)).map vecC))),(12,.int .i64 (m:Nat))]) (λm=>[(100,.grow 68 2 ((uM l x n).map Lr))]) (λm=>m<=(aA (l.getD k E0)).length) (λm=>(aA (l.getD k E0)).length-m) 0 ?_ ?_ ?_ (λm hm=>?_))|skip
 all_goals(repeat'((try(conv=>whnf));first
  |refine zaa ?_ ?_|(with_reducible first|apply zab|apply zac|refine zad (λ_=>?_) (λ_=>?_)|refine zae (λ_=>?_) (λ_=>?_))|refine zat (λ_=>?_) (λ_=>?_)|refine zas ζ ?_|refine zan E0 ?_ ?_|refine zan P0 ?_ ?_))
 all_goals(try apply zar)
 all_goals(try simp only[aG,dh]at *)
 all_goals(try(have hl0:=vP (l:=l) x (n:=0)))
 all_goals(try(have hl1:=vP (l:=l) x (n:=n);have hl2:=nI (l.getD x E0)))
 all_goals(try(have hl3:=nI (l.getD k E0)))
 all_goals first
  |omega|exact za5|exact⟨rfl,rfl,rfl,rfl,rfl,trivial⟩|exact⟨rfl,rfl,rfl,rfl,rfl,rfl,rfl,trivial⟩|exact⟨rfl,rfl,rfl,rfl,rfl,rfl,rfl,rfl,rfl,trivial⟩|exact⟨rfl,trivial⟩|exact aP (nM h4 (x:=x) ω).2.2.2 ψ|exact aP (nM h4 (x:=k) ω).2.2.2 ψ|((with_reducible show _/\_);have e1:=(nM h4 (x:=x) ω).2.1 _ (dF (wZ (l:=(aA (l.getD x E0))) (x:=n) ω));have e2:=(nM h4 (x:=k) ω).2.1 _ (dF (wZ (l:=(aA (l.getD k E0))) (x:=m) ω));exact⟨aP e1.1 ψ,aP e1.2 ψ,aP e2.1 ψ,aP e2.2 ψ⟩)|exact zba|((conv=>whnf);exact⟨m+1,⟨⟨rfl,rfl,rfl,rfl,rfl,(by show some (AV.bool _)=some (AV.bool _);rw[Yx];unfold Oo eqS;(try simp only[Int.natCast_inj]at *);simp_all;done),rfl,rfl,aH ω,trivial⟩,⟨rfl,trivial⟩,ω,(by show(aA (l.getD k E0)).length-(m+1)<(aA (l.getD k E0)).length-m;omega)⟩⟩)|(have hkk:=Y8 (l:=l) (i:=x) (n:=n) (k:=k) (m:=m) (v:=((aA (l.getD x E0)).getD n P0)) ω;(conv=>whnf);exact⟨k+1,⟨⟨rfl,rfl,rfl,rfl,rfl,(by show some (AV.bool _)=some (AV.bool _);rw[hkk]),aH ω,trivial⟩,⟨rfl,trivial⟩,ω,(by show l.length-(k+1)<l.length-k;omega)⟩⟩)|(have hkl:k=l.length:=ω;subst hkl;have hm:=ZA (l:=l) (x:=x) (n:=n) ξ;(conv=>whnf);exact⟨n+1,⟨⟨rfl,(by(simp only[hm,bH,bK,bV,bI,bF,aG,bn,bG]);(first|done|rfl)),rfl,rfl,aH ω,trivial⟩,⟨(by(simp only[hm,bH,bK,bV,bI]);(first|done|rfl)),trivial⟩,ω,(by show(aA (l.getD x E0)).length-(n+1)<(aA (l.getD x E0)).length-n;omega)⟩⟩)|(have hkl:k=l.length:=ω;subst hkl;have hm:=Zf (l:=l) (x:=x) (n:=n) ξ;(conv=>whnf);exact⟨n+1,⟨⟨rfl,(by(simp only[hm]);(first|done|rfl)),rfl,rfl,aH ω,trivial⟩,⟨(by(simp only[hm]);(first|done|rfl)),trivial⟩,ω,(by show(aA (l.getD x E0)).length-(n+1)<(aA (l.getD x E0)).length-n;omega)⟩⟩)|(have hm:=UK (l:=l) (x:=x) (n:=n) ω;(conv=>whnf);exact⟨x+1,⟨⟨rfl,(by(simp only[hm]);(first|done|rfl)),aH ω,trivial⟩,⟨(by(simp only[hm]);(first|done|rfl)),trivial⟩,ω,(by show l.length-(x+1)<l.length-x;omega)⟩⟩)⟩
def CP:Tab:=(25,.row 2 [(0,1,false),(1,1,false)] [.v (.slice none 0 0),.v (.slice none 0 0)]) ::(2000000000,.flag)::QC
theorem oG:tabOk Tryz.prog CP=true:=ζ
def XQ:Go.Shelf.Ren:=⟨λn=>if n=41 then 53 else n,λn=>if n=22 then 22 else if n=23 then 89 else n,id⟩
theorem Wv:Go.Proofs.SlLaysE0.n41 Tryz.prog XQ where
 mixed:=aQ
 f41:=⟨ "slices.Clone[[]swarf/api.LayerDef,swarf/api.LayerDef]",ψ,uo Tryz.func53 (congrArg some (Eq.refl _))⟩
 t4:=Tryz.underlying4
 a4:=Tryz.isAgg4
 z4:=Tryz.sizeOf4
 v4:=Tryz.zeroValue4
 t22:=Tryz.underlying22
 a22:=Tryz.isAgg22
 z22:=Tryz.sizeOf22
 v22:=Tryz.zeroValue22
theorem Qp:∃i0,Tryz.prog.info? 89=some i0/\i0.zero=some (.agg #[.string ByteArray.empty,.int .i64 0,.int .i64 0])/\i0.size=3/\i0.bytes=32:=info_parts ζ
instance afb(es:List (List Cell)):DenI Tryz.prog 53 [.c (.sl 3 es)] (es.length<=1000000) (.c (.sl 3 es)):=⟨λhp=>by
 obtain⟨i0,h1,h2,h3,h4⟩:=Qp
 exact Jt Wv ζ i0 _ h1 h2 h3 ω rfl ψ Tryz.sizeOf89 hp⟩
theorem qP(es:List Ent):(es.map bW).map aY=es.map aK:=by
 rw[List.map_map];exact List.map_congr_left λe _=>OZ e
instance(priority:=2000) Vk(ls:List LayD)(es:List Ent):DenI Tryz.prog 20 [.agg [(.sl 3 (ls.map aV)),.sl 7 (es.map aK)]] (ls.length<=1000/\es.length<=1000/\(∀l∈ls,l.name.size<=1000)/\∀e∈es,kE (bW e)) (.int .i64 (dZ ls (es.map bW))):=⟨λ⟨h1,h2,h3,h4⟩=>by
 have h:=(ZE ls (es.map bW)).den ⟨h1,by rw[aG];exact h2,h3,λe he=>by obtain⟨x,hx,rfl⟩:=dR.1 he;exact h4 x hx⟩;rw[qP]at h
 exact h⟩
theorem SN(ls:List LayD)(es:List Ent)(tol:Rat)(h1:ls.length<=1000)(h2:(∀l∈ls,l.name.size<=1000))(h3:es.length<=12)(h4:∀e∈es,okV e)(h5:∀e∈es,kE (bW e))(h6n:rz tol<=12)(h7:¬tol<0)(h8:dZ ls (es.map bW)=0):
 Den Tryz.prog 13 [.agg [(.sl 3 (ls.map aV)),.sl 7 (es.map aK)],R tol] (.tup [.agg [(.sl 3 (ls.map aV)),.sl 7 ((aO (tol*tol) es).es.map aK)],.c (.sl 19 ((aO (tol*tol) es).cs.map jF)),.int .i64 0]):=by
 haveI i_v:DenI Tryz.prog 20 [.agg [(.sl 3 (ls.map aV)),.sl 7 (es.map aK)]] (ls.length<=1000/\es.length<=1000/\(∀l∈ls,l.name.size<=1000)/\∀e∈es,kE (bW e)) (.int .i64 0):=⟨λhp=>by have:=(Vk ls es).den hp;rwa [h8]at this⟩
 have hz1:(bT (tol*tol) 0 [] es).es.zipIdx.length<=12:=by have:=wY tol es;unfold jZ at this;omega
 have hz2:∀x∈(bT (tol*tol) 0 [] es).es.zipIdx,okV x.1:=UE (tol:=tol) h4;have hk1:=aP (xP tol es) h3;have hk2:=KG (tol:=tol) h4;have hl1:=aP (sJ tol es) h3;have hl2:=N9 (tol:=tol) h4;have hr:=rH (tol:=tol) h4;have hr1:(bT (tol*tol) 0 [] es).cs.length<=24:=by have:=(hr 0).1;omega
 have hr2:(mO (bT (tol*tol) 0 [] es).es.zipIdx).length<=12:=by have:=(hr 0).2.1;unfold jZ at this;omega
 have hr3:=vX (jL tol es) (jL tol es).length (gW _);rw[H9]at hr3;refine Den.of ⟨ζ,λw X vs ho hX hl hR=>?_⟩ rfl
 haveI:WOk Tryz.prog w:=⟨ho⟩
 refine enter Tryz.func13 rfl rfl (by rw[hl];rfl) λa hF=>?_
 have hc:=args_conc (N:=90) hX hl hR hF;refine cut_ok (τ:=CP) oG aQ 9 _ (QA:=λz e b=>z=.normal/\SubE [(4,.ptr 4 0),(9,.gs 2000030 ((pU tol es (jK tol es).length).map jF).length),(11,.gs 100 ((jL tol es).map iP).length),(14,.ptr 14 0)] e/\SubB [(4,.var [.v (.slice none 0 0),.v (.slice none 0 0)]),(14,.var [(.sl 3 (ls.map aV)),.v (.slice none 0 0)]),(2000030,.grow 47 19 ((pU tol es (jK tol es).length).map jF)),(100,.grow 86 8 ((jL tol es).map iP))] b) ζ ?_ hc (λe b a w hq hc2=>?_) (λx e b a w hx hq hc=>absurd hq.1 hx)
 case refine_1 =>
  clear hc hF hR hl hX
  all_goals(repeat'((try(conv=>whnf));first
   |apply zaf|refine zaa ?_ ?_|(with_reducible first|refine zad (λ_=>?_) (λ_=>?_)|refine zae (λ_=>?_) (λ_=>?_))|refine zah ?_ ?_))
  all_goals(try apply zar)
  all_goals(try simp only[aG,dh]at *)
  all_goals first
   |((conv=>whnf);refine Sw.Loop.ghost 11 100 86 8 ?_ rfl rfl rfl ψ;refine Sw.Loop.inv (α:=Nat) (λx=>[(2,.ptr 2 0),(4,.ptr 4 0),(8,.c (.sl 8 ((jK tol es).map iP))),(42,.c (.sl 1 ((bJ ((jK tol es).map (·.1))).map bC))),(43,.int .i64 ((jK tol es).length:Nat)),(44,.int .i64 (x:Nat)),(9,.gs 2000030 ((pU tol es x).map jF).length),(11,.gs 100 ((yM (jK tol es) x).map iP).length)]) (λx=>[(2,.var [(.sl 3 (ls.map aV)),.sl 7 (es.map aK)]),(4,.var [.v (.slice none 0 0),.v (.slice none 0 0)]),(2000030,.grow 47 19 ((pU tol es x).map jF)),(100,.grow 86 8 ((yM (jK tol es) x).map iP))]) (λx=>x<=(jK tol es).length) (λx=>(jK tol es).length-x) 0 ?_ ?_ ?_ (λx hx=>?_))|skip
  all_goals(repeat'((try(conv=>whnf));first
   |refine zaa ?_ ?_|(with_reducible refine zad (λ_=>?_) (λ_=>?_))|refine zat (λ_=>?_) (λ_=>?_)|refine zah ?_ ?_|refine zan N0 ?_ ?_|refine zan false ?_ ?_))
  all_goals(try apply zar)
  all_goals(try simp only[aG,dh]at *)
  all_goals(try simp only[aW]at *)
  all_goals first
   |exact zay|(exfalso;rename tol<0=>hx;exact h7 hx)|exact za3|omega|exact⟨h6n,h3,λe he=>(h4 e he).2⟩|exact⟨h1,ω,h2,h5⟩|exact⟨hz1,hz2⟩|exact⟨hk1,hk2⟩|((with_reducible show(_:Nat)<=_);have hrx:=(hr x).2.2;have hlx:=(vV (jK tol es) x).1;simp only[bF,aG,bn,bG];omega)|exact za5|((with_reducible show SubE _ _);exact⟨rfl,rfl,rfl,rfl,(by show some (AV.int .i64 _)=some (AV.int .i64 _);rw[show(bJ (List.map (λx=>x.fst) (mV (bT (tol*tol) 0 [] es).es.zipIdx))).length=(jK tol es).length from by rw[fF,aG];rfl]),rfl,(by show some (AV.gs _ _)=some (AV.gs _ _);simp only[LJ,bF,aG,bn,bG];rfl),rfl,trivial⟩)|(have hkr:(bJ (List.map (λx=>x.fst) (jK tol es))).length=(jK tol es).length:=(by rw[fF,aG]);omega)|((with_reducible show SubB _ _);exact⟨rfl,rfl,(by show some _=some _;simp only[LJ,bH,bK,bV,bI];rfl),rfl,trivial⟩)|(obtain⟨h9,h10⟩:=TJ (tol:=tol) (es:=es) (x:=x) ω ξ;(conv=>whnf);exact⟨x+1,⟨⟨rfl,rfl,rfl,rfl,rfl,aH ω,(by(simp only[h9,h10,bH,bK,bV,bI,bF,aG,bn,bG]);(first|done|rfl)),(by(simp only[h9,h10,bH,bK,bV,bI,bF,aG,bn,bG]);(first|done|rfl)),trivial⟩,⟨rfl,rfl,(by(simp only[h9,h10,bH,bK,bV,bI]);(first|done|rfl)),(by(simp only[h9,h10,bH,bK,bV,bI]);(first|done|rfl)),trivial⟩,ω,(by show(jK tol es).length-(x+1)<(jK tol es).length-x;omega)⟩⟩)|(obtain⟨h9,h10⟩:=UU (tol:=tol) (es:=es) (x:=x) ω ξ;(conv=>whnf);exact⟨x+1,⟨⟨rfl,rfl,rfl,rfl,rfl,aH ω,(by(simp only[h9,h10,bH,bK,bV,bI,bF,aG,bn,bG]);(first|done|rfl)),(by(simp only[h9,h10,bH,bK,bV,bI,bF,aG,bn,bG]);(first|done|rfl)),trivial⟩,⟨rfl,rfl,(by(simp only[h9,h10,bH,bK,bV,bI]);(first|done|rfl)),(by(simp only[h9,h10,bH,bK,bV,bI]);(first|done|rfl)),trivial⟩,ω,(by show(jK tol es).length-(x+1)<(jK tol es).length-x;omega)⟩⟩)|(have hxx:x=(jK tol es).length:=ω;subst hxx;(conv=>whnf);refine⟨rfl,⟨rfl,rfl,(by(try rw[vJ]);rfl),rfl,trivial⟩,⟨rfl,rfl,rfl,(by(try rw[vJ]);rfl),trivial⟩⟩)
 clear hc;obtain⟨_,he,hb⟩:=hq;have hc:=hc2.sub he hb;clear he hb hc2 hF hR hl hX;replace hc:=hc.ghostF (i:=200) (j:=14) (T:=55) (s:=7) (k:=1) rfl rfl rfl rfl ψ rfl;refine awp_ok (τ:=CP) oG aQ _ (QA:=endO CP _ [none,none,none] (.tup [.agg [(.sl 3 (ls.map aV)),.sl 7 ((aO (tol*tol) es).es.map aK)],.c (.sl 19 ((aO (tol*tol) es).cs.map jF)),.int .i64 0])) ζ ?_ hc (λx e b a w' hx hc'=>endO_ok oG hx hc');clear hc ho
 all_goals(repeat'((try(conv=>whnf));first
  |refine zah ?_ ?_))
 all_goals(try apply zar)
 all_goals(try simp only[aG,dh]at *)
 all_goals first
  |((conv=>whnf);refine Sw.Loop.inv (α:=Nat) (λx=>[(4,.ptr 4 0),(9,.gs 2000030 ((pU tol es (jK tol es).length).map jF).length),(11,.gs 100 ((jL tol es).map iP).length),(14,.ptr 14 0),(71,.gs 100 ((jL tol es).map iP).length),(72,.int .i64 ((jL tol es).length:Nat)),(73,.int .i64 (x:Nat))]) (λx=>[(200,.grow 55 7 ((((jL tol es).take x).map (·.1)).map aK)),(14,.varo [(.sl 3 (ls.map aV)),.ob 200 ((((jL tol es).take x).map (·.1)).map aK).length]),(4,.var [.v (.slice none 0 0),.v (.slice none 0 0)]),(2000030,.grow 47 19 ((pU tol es (jK tol es).length).map jF)),(100,.grow 86 8 ((jL tol es).map iP))]) (λx=>x<=(jL tol es).length) (λx=>(jL tol es).length-x) 0 ?_ ?_ ?_ (λx hx=>?_))
 all_goals(repeat'((try(conv=>whnf));first
  |refine zaa ?_ ?_|(with_reducible refine zad (λ_=>?_) (λ_=>?_))|refine zah ?_ ?_|refine zas ζ ?_|refine zan N0 ?_ ?_|apply zaq))
 all_goals(try apply zar)
 all_goals(try simp only[aG,dh]at *)
 all_goals first
  |exact za3|omega|exact⟨hl1,λx hx=>(hl2 x hx).2⟩|((with_reducible show(_:Nat)<=_);have hrx:=(hr (jK tol es).length).2.2;simp only[bF,aG,bn,bG,kM];omega)|((with_reducible show SubE _ _);exact⟨rfl,rfl,rfl,rfl,rfl,rfl,rfl,trivial⟩)|((with_reducible show SubB _ _);exact⟨rfl,rfl,rfl,rfl,rfl,trivial⟩)|((with_reducible show packA _=_);have hxx:x=(jL tol es).length:=ω;subst hxx;rw[xY,(tq tol es).1,(tq tol es).2,bH];rfl)|(have hm:=JJ (l:=(jL tol es)) (x:=x) ω;have hn:(List.take (x+1) (jL tol es)).length=(List.take x (jL tol es)).length+(0+1):=(by simp only[kM];omega);(conv=>whnf);exact⟨x+1,⟨⟨rfl,rfl,rfl,rfl,rfl,rfl,aH ω,trivial⟩,⟨(by(simp only[hm,bH,bK,bV,bI]);(first|done|rfl)),(by(simp only[hm,hn,bH,bK,bV,bI,bF,aG,bn,bG]);(first|done|rfl)),rfl,rfl,rfl,trivial⟩,ω,(by show(jL tol es).length-(x+1)<(jL tol es).length-x;omega)⟩⟩)
instance Hz(ls:List LayD)(es:List Ent)(tol:Rat):DenI Tryz.prog 13 [.agg [(.sl 3 (ls.map aV)),.sl 7 (es.map aK)],R tol] (ls.length<=1000/\(∀l∈ls,l.name.size<=1000)/\es.length<=12/\(∀e∈es,okV e)/\(∀e∈es,kE (bW e))/\rz tol<=12/\¬tol<0/\dZ ls (es.map bW)=0) (.tup [.agg [(.sl 3 (ls.map aV)),.sl 7 ((aO (tol*tol) es).es.map aK)],.c (.sl 19 ((aO (tol*tol) es).cs.map jF)),.int .i64 0]):=⟨λ⟨h1,h2,h3,h4,h5,h6,h7,h8⟩=>SN ls es tol h1 h2 h3 h4 h5 h6 h7 h8⟩
instance aef(kd en fi:Int)(b1 b2 b3 b4 b5 b6 b7 b8:Bool)(l1 l2 l3 l4 l5 l6 l7 l8:List (List Cell)):DenI Tryz.prog 62 [.agg [.v (.int .i64 kd),.v (.int .i64 en),.v (.int .i64 fi),.v (.bool b1),.sl 1 l1,.v (.bool b2),.sl 1 l2,.v (.bool b3),.sl 1 l3,.v (.bool b4),.sl 1 l4,.v (.bool b5),.sl 1 l5,.v (.bool b6),.sl 1 l6,.v (.bool b7),.sl 1 l7,.v (.bool b8),.sl 1 l8]] (True) (.bool (!decide (kd=4))):=⟨λhp=>by
 refine aC Tryz.func62 rfl ?_
 all_goals(repeat'((try(conv=>whnf));first
  |apply zaq))
 all_goals first
  |rfl⟩
instance ae4(cs:List Chn):DenI Tryz.prog 82 [.c (.sl 19 (cs.map jF)),.c (.v (.func (.func 62) #[] #[]))] (cs.length<=1000) (.int .i64 (Uj cs)):=⟨λhp=>by
 refine aC Tryz.func82 rfl ?_
 all_goals first
  |((conv=>whnf);refine Sw.Loop.inv (α:=Nat) (λk=>[(0,.c (.sl 19 (cs.map jF))),(1,.c (.v (.func (.func 62) #[] #[]))),(6,.c (.sl 19 (cs.map jF))),(7,.int .i64 (cs.length:Nat)),(8,.int .i64 (k:Nat))]) (λk=>[]) (λk=>k<=cs.length/\∀j<k,(cs.getD j C0).kind=4) (λk=>cs.length-k) 0 ?_ ?_ ?_ (λk hk=>?_))
 all_goals(repeat'((try(conv=>whnf));first
  |(with_reducible refine zad (λ_=>?_) (λ_=>?_))|refine zan C0 ?_ ?_|apply zaq))
 all_goals(try apply zar)
 all_goals(try simp only[aG,dh]at *)
 all_goals(try(with_reducible show putK _ _ _ _;generalize hcc:cs.getD k C0=c;(try rw[hcc]);obtain⟨kd,en,fi,sr,ds⟩:=c;cases sr<;>cases ds))
 all_goals(repeat'((try(conv=>whnf));first
  |apply zaf|(with_reducible refine zae (λ_=>?_) (λ_=>?_))|apply zaq))
 all_goals(try simp only[aG,dh]at *)
 all_goals first
  |omega|trivial|exact⟨jd _,λj hj=>absurd hj (Bd _)⟩|((conv=>whnf);exact⟨k+1,⟨⟨rfl,rfl,rfl,rfl,aH ω,trivial⟩,trivial,⟨ω,bU hk.2 (by rw[hcc];dsimp only;omega)⟩,(by show cs.length-(k+1)<cs.length-k;omega)⟩⟩)|((with_reducible show packA _=_);rw[Ve (x:=k) ω hk.2 (by rw[hcc];dsimp only;omega)];rfl)|((with_reducible show packA _=_);have hxx:k=cs.length:=ω;subst hxx;rw[aaK hk.2];rfl)⟩
instance aeE(cs:List Chn):DenI Tryz.prog 43 [.c (.sl 19 (cs.map jF)),.c (.v (.func (.func 62) #[] #[]))] (cs.length<=1000) (.bool (!OT cs)):=⟨λhp=>by
 refine aC Tryz.func43 rfl ?_
 all_goals(repeat'((try(conv=>whnf));first
  |refine zaa ?_ ?_|apply zaq))
 all_goals(try apply zar)
 all_goals first
  |omega|exact bE (aah cs)⟩
instance aaF(ls:List LayD)(es:List Ent)(tol:Rat):DenI Tryz.prog 19 [.agg [(.sl 3 (ls.map aV)),.sl 7 (es.map aK)],R tol] (ls.length<=1000/\(∀l∈ls,l.name.size<=1000)/\es.length<=12/\(∀e∈es,okV e)/\(∀e∈es,kE (bW e))/\rz tol<=12/\¬tol<0/\dZ ls (es.map bW)=0) (.bool (OT (aO (tol*tol) es).cs)):=⟨λhp=>by
 have hlen:(aO (tol*tol) es).cs.length<=1000:=Hr hp.2.2.1 hp.2.2.2.1
 all_goals refine aC Tryz.func19 rfl ?_
 all_goals(repeat'((try(conv=>whnf));first
  |refine zaa ?_ ?_|(with_reducible first|apply zab|apply zac|refine zad (λ_=>?_) (λ_=>?_))|apply zaq))
 all_goals(try apply zar)
 all_goals first
  |exact hp|exact hlen|(refine bE ?_;rw[Bool.not_not])|(exfalso;rename ¬0=0=>h;exact h rfl)⟩
end Go.Proofs.YtmniihkenijjpaaGreatDoor
