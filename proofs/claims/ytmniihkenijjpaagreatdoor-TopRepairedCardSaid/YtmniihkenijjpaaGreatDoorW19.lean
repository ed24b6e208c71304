/-
  Rules of the abstract run, plain laws, and what functions answer, for the law TopRepaired.
  Conditions: none.
-/
import Derived.Test.YtmniihkenijjpaaGreatDoorW18
import Derived.Shelf.LaysM
import Derived.Shelf.Strconv.Itoa1
import Derived.Shelf.Strconv.Itoa2
import Derived.Lib.Walk
import Derived.Lib.ItoaMem
import Derived.Lib.ItoaLen
import Derived.Lib.AppendIntMem
import Derived.WalkKit
import Derived.BigCall
import Derived.BigGuard
import Derived.Shelf.SlicesE.Clone
set_option linter.all false
namespace Go.Proofs.YtmniihkenijjpaaGreatDoor
open Go Go.RowKit Go.Sw Go.Shelf
set_option maxRecDepth 100000
set_option maxHeartbeats 16000000
set_option synthInstance.maxSize 4000
set_option synthInstance.maxHeartbeats 400000
theorem NV(a:ByteArray):(a == a)=true:=by
 obtain⟨d⟩:=a;show(d == d)=true;exact beq_self_eq_true d
instance Y0(l:List Nat):DenI Tryz.prog 118 [.c (lmc l),.c (lmc l)] (True) (.bool true):=⟨λhp=>by
 refine aa7 ζ (λhl=>?_);simp only[acz,abX,cellsOf,aN,and_true,true_and]at hl
 all_goals refine aI Tryz.func118 rfl ?_
 all_goals(repeat'((try(conv=>whnf));first
  |(with_reducible refine aav (λ_=>?_) (λ_=>?_))|apply zaq))
 all_goals(try simp only[aN,fB]at *)
 all_goals first
  |((conv=>whnf);refine Sw.Loop.inv (α:=Nat) (λx=>[(0,.c (lmc l)),(1,.c (lmc l)),(12,.int .i64 (l.length:Nat)),(13,.int .i64 (x:Nat))]) (λx=>[]) (λx=>x<=l.length) (λx=>l.length-x) 0 ?_ ?_ ?_ (λx hx=>?_))|skip
 all_goals(repeat'((try(conv=>whnf));first
  |(with_reducible first|refine aah (λ_=>?_) (λ_=>?_)|refine aav (λ_=>?_) (λ_=>?_))|refine zas ζ ?_|(with_reducible refine aaB ?_ ?_)|apply zaq))
 all_goals(try apply zar)
 all_goals(try simp only[aN,fB]at *)
 all_goals first
  |omega|trivial|((conv=>whnf);exact⟨x+1,⟨⟨rfl,rfl,rfl,aK ω,trivial⟩,trivial,ω,(by show l.length-(x+1)<l.length-x;omega)⟩⟩)⟩
instance Zl(ls:List LayD):DenI Tryz.prog 83 [.c (.sl 3 (ls.map bI)),.c (.sl 3 (ls.map bI))] (ls.length<=1000) (.bool true):=⟨λhp=>by
 refine aI Tryz.func83 rfl ?_
 all_goals(repeat'((try(conv=>whnf));first
  |(with_reducible refine aav (λ_=>?_) (λ_=>?_))|apply zaq))
 all_goals(try simp only[aN,fB]at *)
 all_goals first
  |((conv=>whnf);refine Sw.Loop.inv (α:=Nat) (λx=>[(0,.c (.sl 3 (ls.map bI))),(1,.c (.sl 3 (ls.map bI))),(12,.int .i64 (ls.length:Nat)),(13,.int .i64 (x:Nat))]) (λx=>[]) (λx=>x<=ls.length) (λx=>ls.length-x) 0 ?_ ?_ ?_ (λx hx=>?_))|skip
 all_goals(repeat'((try(conv=>whnf));first
  |(with_reducible refine aah (λ_=>?_) (λ_=>?_))|refine zat (λ_=>?_) (λ_=>?_)|refine zas ζ ?_|refine aar L0 ?_ ?_|apply zaq))
 all_goals(try apply zar)
 all_goals(try simp only[aN,fB]at *)
 all_goals first
  |omega|trivial|(exfalso;rename_i q;simp[NV]at q;done)|((conv=>whnf);exact⟨x+1,⟨⟨rfl,rfl,rfl,aK ω,trivial⟩,trivial,ω,(by show ls.length-(x+1)<ls.length-x;omega)⟩⟩)⟩
instance ZF(r:Rq):DenI Tryz.prog 87 [.agg (QU r),.agg (QU r)] (True) (.bool true):=⟨λhp=>by
 refine aI Tryz.func87 rfl ?_
 all_goals(repeat'((try(conv=>whnf));first
  |refine aaj ?_|(with_reducible first|refine aam ?_|refine aao ?_)|refine zat (λ_=>?_) (λ_=>?_)|apply zaq))
 all_goals first
  |rfl|(exfalso;simp at *;done)⟩
instance YD(p:Rq × Rq):DenI Tryz.prog 86 [.agg (jB p),.agg (jB p)] (True) (.bool true):=⟨λhp=>by
 refine aI Tryz.func86 rfl ?_
 all_goals(repeat'((try(conv=>whnf));first
  |refine aaj ?_|(with_reducible refine aam ?_)|apply zaq))
 all_goals first
  |rfl⟩
instance X7(l:List (Rq × Rq)):DenI Tryz.prog 32 [.c (.sl 8 (l.map jB)),.c (.sl 8 (l.map jB)),.c (.v (.func (.func 86) #[] #[]))] (l.length<=1000) (.bool true):=⟨λhp=>by
 refine aI Tryz.func32 rfl ?_
 all_goals(repeat'((try(conv=>whnf));first
  |(with_reducible refine aav (λ_=>?_) (λ_=>?_))|apply zaq))
 all_goals(try simp only[aN,fB]at *)
 all_goals first
  |((conv=>whnf);refine Sw.Loop.inv (α:=Nat) (λx=>[(1,.c (.sl 8 (l.map jB))),(2,.c (.v (.func (.func 86) #[] #[]))),(15,.c (.sl 8 (l.map jB))),(16,.int .i64 (l.length:Nat)),(17,.int .i64 (x:Nat))]) (λx=>[]) (λx=>x<=l.length/\True) (λx=>l.length-x) 0 ?_ ?_ ?_ (λx hx=>?_))|skip
 all_goals(repeat'((try(conv=>whnf));first
  |refine aaj ?_|(with_reducible refine aah (λ_=>?_) (λ_=>?_))|refine zat (λ_=>?_) (λ_=>?_)|refine aar nM ?_ ?_|apply zaq))
 all_goals(try apply zar)
 all_goals(try simp only[aN,fB]at *)
 all_goals first
  |omega|trivial|exact⟨lN _,trivial⟩|((conv=>whnf);exact⟨x+1,⟨⟨rfl,rfl,rfl,rfl,aK ω,trivial⟩,trivial,⟨ω,trivial⟩,(by show l.length-(x+1)<l.length-x;omega)⟩⟩)⟩
instance ZT(e:EntR):DenI Tryz.prog 85 [.agg (bU e),.agg (bU e)] (e.pts.length<=1000) (.bool true):=⟨λhp=>by
 refine aI Tryz.func85 rfl ?_
 all_goals(repeat'((try(conv=>whnf));first
  |refine aaj ?_|refine y5 ?_ ?_|(with_reducible first|refine aam ?_|refine aao ?_|refine aah (λ_=>?_) (λ_=>?_)|refine aav (λ_=>?_) (λ_=>?_))|refine zat (λ_=>?_) (λ_=>?_)|apply zaq))
 all_goals(try apply zar)
 all_goals first
  |rfl|trivial|(exfalso;simp at *;done)⟩
theorem Qz{es:List EntR}{n:Nat}(h:∀e∈es,e.pts.length<=n)(x:Nat):(es.getD x lZ).pts.length<=n:=by
 by_cases hx:x<es.length
 .have h2:es.getD x lZ=es[x]:=by simp[jH,hx]
  rw[h2];exact h _ (tq hx)
 .have h2:es.getD x lZ=lZ:=by simp[jH,Nat.le_of_not_lt hx]
  rw[h2];exact lN _
instance Ym(es:List EntR):DenI Tryz.prog 84 [.c (.sl 7 (es.map bU)),.c (.sl 7 (es.map bU)),.c (.v (.func (.func 85) #[] #[]))] (es.length<=1000/\∀e∈es,e.pts.length<=1000) (.bool true):=⟨λhp=>by
 obtain⟨hp1,hp2⟩:=hp;have hq:=Qz hp2
 all_goals refine aI Tryz.func84 rfl ?_
 all_goals(repeat'((try(conv=>whnf));first
  |(with_reducible refine aav (λ_=>?_) (λ_=>?_))|apply zaq))
 all_goals(try simp only[aN,fB]at *)
 all_goals first
  |((conv=>whnf);refine Sw.Loop.inv (α:=Nat) (λx=>[(1,.c (.sl 7 (es.map bU))),(2,.c (.v (.func (.func 85) #[] #[]))),(15,.c (.sl 7 (es.map bU))),(16,.int .i64 (es.length:Nat)),(17,.int .i64 (x:Nat))]) (λx=>[]) (λx=>x<=es.length/\True) (λx=>es.length-x) 0 ?_ ?_ ?_ (λx hx=>?_))|skip
 all_goals(repeat'((try(conv=>whnf));first
  |refine y5 ?_ ?_|(with_reducible refine aah (λ_=>?_) (λ_=>?_))|refine zat (λ_=>?_) (λ_=>?_)|refine aar lZ ?_ ?_|apply zaq))
 all_goals(try apply zar)
 all_goals(try simp only[aN,fB]at *)
 all_goals first
  |omega|trivial|exact⟨lN _,trivial⟩|exact hq _|((conv=>whnf);exact⟨x+1,⟨⟨rfl,rfl,rfl,rfl,aK ω,trivial⟩,trivial,⟨ω,trivial⟩,(by show es.length-(x+1)<es.length-x;omega)⟩⟩)⟩
instance VL(ls:List LayD)(es:List EntR):DenI Tryz.prog 45 [.agg [(.sl 3 (ls.map bI)),.sl 7 (es.map bU)],.agg [(.sl 3 (ls.map bI)),.sl 7 (es.map bU)]] (ls.length<=1000/\es.length<=1000/\∀e∈es,e.pts.length<=1000) (.bool true):=⟨λhp=>by
 obtain⟨hp1,hp2,hp3⟩:=hp
 all_goals refine aI Tryz.func45 rfl ?_
 all_goals(repeat'((try(conv=>whnf));first
  |refine y5 ?_ ?_|(with_reducible refine aam ?_)|apply zaq))
 all_goals(try apply zar)
 all_goals first
  |rfl|trivial⟩
instance(priority:=2000) XW(ls:List LayD)(es:List Ent):DenI Tryz.prog 45 [.agg [(.sl 3 (ls.map bI)),.sl 7 (es.map bF)],.agg [(.sl 3 (ls.map bI)),.sl 7 (es.map bF)]] (ls.length<=1000/\es.length<=1000/\∀e∈es,(dF e).pts.length<=1000) (.bool true):=⟨λ⟨h1,h2,h3⟩=>by
 have h:=(VL ls (es.map dF)).den ⟨h1,by simpa using h2,by simpa using h3⟩;rw[qO]at h
 exact h⟩
instance Vj(ls:List LayD)(es:List EntR):DenI Tryz.prog 41 [.agg [(.sl 3 (ls.map bI)),.sl 7 (es.map bU)]] (True) (.bool (decide (es.length<=12) && yt ls es)):=⟨λhp=>by
 refine aI Tryz.func41 rfl ?_
 all_goals(repeat'((try(conv=>whnf));first
  |refine y5 ?_ ?_|(with_reducible first|refine aam ?_|refine aao ?_|refine aah (λ_=>?_) (λ_=>?_))|apply zaq))
 all_goals(try apply zar)
 all_goals(try simp only[aN,fB]at *)
 all_goals first
  |omega|(refine bE ?_;rw[decide_eq_true ω];simp;done)|(refine bE ?_;rw[decide_eq_false ω];rfl)⟩
instance(priority:=2000) XZ(ls:List LayD)(es:List Ent):DenI Tryz.prog 41 [.agg [(.sl 3 (ls.map bI)),.sl 7 (es.map bF)]] True (.bool (decide ((es.map dF).length<=12) && yt ls (es.map dF))):=⟨λ_=>by
 have h:=(Vj ls (es.map dF)).den trivial;rw[qO]at h
 exact h⟩
instance Yv(kd en fi:Int)(b1 b2 b3 b4 b5 b6 b7 b8:Bool)(l1 l2 l3 l4 l5 l6 l7 l8:List (List Cell)):DenI Tryz.prog 44 [.agg [.v (.int .i64 kd),.v (.int .i64 en),.v (.int .i64 fi),.v (.bool b1),.sl 1 l1,.v (.bool b2),.sl 1 l2,.v (.bool b3),.sl 1 l3,.v (.bool b4),.sl 1 l4,.v (.bool b5),.sl 1 l5,.v (.bool b6),.sl 1 l6,.v (.bool b7),.sl 1 l7,.v (.bool b8),.sl 1 l8]] (True) (.bool (!decide (kd=4))):=⟨λhp=>by
 refine aI Tryz.func44 rfl ?_
 all_goals(repeat'((try(conv=>whnf));first
  |apply zaq))
 all_goals first
  |rfl⟩
instance YC(cs:List Chn):DenI Tryz.prog 82 [.c (.sl 19 (cs.map mJ)),.c (.v (.func (.func 44) #[] #[]))] (cs.length<=1000) (.int .i64 (KX cs)):=⟨λhp=>by
 refine aI Tryz.func82 rfl ?_
 all_goals first
  |((conv=>whnf);refine Sw.Loop.inv (α:=Nat) (λk=>[(0,.c (.sl 19 (cs.map mJ))),(1,.c (.v (.func (.func 44) #[] #[]))),(6,.c (.sl 19 (cs.map mJ))),(7,.int .i64 (cs.length:Nat)),(8,.int .i64 (k:Nat))]) (λk=>[]) (λk=>k<=cs.length/\∀j<k,(cs.getD j C0).kind=4) (λk=>cs.length-k) 0 ?_ ?_ ?_ (λk hk=>?_))
 all_goals(repeat'((try(conv=>whnf));first
  |(with_reducible refine aah (λ_=>?_) (λ_=>?_))|refine aar C0 ?_ ?_|apply zaq))
 all_goals(try apply zar)
 all_goals(try simp only[aN,fB]at *)
 all_goals(try(with_reducible show ahi _ _ _ _;generalize hcc:cs.getD k C0=c;(try rw[hcc]);obtain⟨kd,en,fi,sr,ds⟩:=c;cases sr<;>cases ds))
 all_goals(repeat'((try(conv=>whnf));first
  |refine aaj ?_|(with_reducible refine aav (λ_=>?_) (λ_=>?_))|apply zaq))
 all_goals(try simp only[aN,fB]at *)
 all_goals first
  |omega|trivial|exact⟨lN _,λj hj=>absurd hj (EK _)⟩|((conv=>whnf);exact⟨k+1,⟨⟨rfl,rfl,rfl,rfl,aK ω,trivial⟩,trivial,⟨ω,dn hk.2 (by rw[hcc];dsimp only;omega)⟩,(by show cs.length-(k+1)<cs.length-k;omega)⟩⟩)|((with_reducible show aai _=_);rw[JK (x:=k) ω hk.2 (by rw[hcc];dsimp only;omega)];rfl)|((with_reducible show aai _=_);have hxx:k=cs.length:=ω;subst hxx;rw[O1 hk.2];rfl)⟩
instance VJ(cs:List Chn):DenI Tryz.prog 43 [.c (.sl 19 (cs.map mJ)),.c (.v (.func (.func 44) #[] #[]))] (cs.length<=1000) (.bool (!zX cs)):=⟨λhp=>by
 refine aI Tryz.func43 rfl ?_
 all_goals(repeat'((try(conv=>whnf));first
  |refine y5 ?_ ?_|apply zaq))
 all_goals(try apply zar)
 all_goals first
  |omega|exact bE (OH cs)⟩
end Go.Proofs.YtmniihkenijjpaaGreatDoor
