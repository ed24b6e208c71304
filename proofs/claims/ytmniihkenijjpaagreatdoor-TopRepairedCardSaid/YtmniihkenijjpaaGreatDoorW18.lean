/-
  Rules of the abstract run, plain laws, and what functions answer, for the law TopRepaired.
  Conditions: none.
-/
import Derived.Test.YtmniihkenijjpaaGreatDoorW17
import Derived.Shelf.LaysM
import Derived.Shelf.Strconv.Itoa1
import Derived.Shelf.Strconv.Itoa2
import Derived.Lib.Walk
import Derived.Lib.ItoaMem
import Derived.Lib.ItoaLen
import Derived.Lib.AppendIntMem
import Derived.WalkKit
import Derived.BigCall
import Derived.BigGuard
import Derived.Shelf.SlicesE.Clone
set_option linter.all false
namespace Go.Proofs.YtmniihkenijjpaaGreatDoor
open Go Go.RowKit Go.Sw Go.Shelf
set_option maxRecDepth 100000
set_option maxHeartbeats 16000000
set_option synthInstance.maxSize 4000
set_option synthInstance.maxHeartbeats 400000
instance ZW(r:Rq):DenI Tryz.prog 112 [.agg (QU r)] (True) (.bool (Kr r)):=⟨λhp=>by
 refine aI Tryz.func112 rfl ?_
 all_goals(repeat'((try(conv=>whnf));first
  |(with_reducible first|refine aam ?_|refine aao ?_|refine aah (λ_=>?_) (λ_=>?_))|apply zaq))
 all_goals(try simp only[aN,fB]at *)
 all_goals first
  |(refine bE ?_;unfold Kr;rw[FN];simp only[bG,decide_eq_true_eq];omega)|(refine bE ?_;exact(Qh ω).symm)⟩
instance ZH(ls:List LayD)(es:List EntR):DenI Tryz.prog 75 [.agg [(.sl 3 (ls.map bI)),.sl 7 (es.map bU)]] (es.length<=12) (.bool (yt ls es)):=⟨λhp=>by
 refine aI Tryz.func75 rfl ?_
 all_goals(repeat'((try(conv=>whnf));first
  |(with_reducible first|refine aam ?_|refine aao ?_|refine aah (λ_=>?_) (λ_=>?_))|apply zaq))
 all_goals(try simp only[aN,fB]at *)
 all_goals first
  |((conv=>whnf);refine Sw.Loop.inv (α:=Nat) (λx=>[(1,.ptr 1 0),(3,.int .i64 (x:Nat))]) (λx=>[(1,.var [(.sl 3 (ls.map bI)),.sl 7 (es.map bU)])]) (λx=>x<=ls.length/\∀j<x,(ls.getD j L0).name.size<=60) (λx=>ls.length-x) 0 ?_ ?_ ?_ (λx hx=>?_))|skip
 all_goals(repeat'((try(conv=>whnf));first
  |(with_reducible refine aah (λ_=>?_) (λ_=>?_))|refine aar L0 ?_ ?_|apply zaq))
 all_goals(try apply zar)
 all_goals(try simp only[aN,fB]at *)
 all_goals first
  |((conv=>whnf);refine Sw.Loop.inv (α:=Nat) (λy=>[(1,.ptr 1 0),(4,.int .i64 (y:Nat))]) (λy=>[(1,.var [(.sl 3 (ls.map bI)),.sl 7 (es.map bU)])]) (λy=>y<=es.length/\∀j<y,qp (es.getD j lZ)=true) (λy=>es.length-y) 0 ?_ ?_ ?_ (λy hy=>?_))|skip
 all_goals(repeat'((try(conv=>whnf));first
  |refine aaj ?_|(with_reducible first|refine aam ?_|refine aao ?_|refine aah (λ_=>?_) (λ_=>?_))|refine zat (λ_=>?_) (λ_=>?_)|refine aar lZ ?_ ?_|apply zaq))
 all_goals(try apply zar)
 all_goals(try simp only[aN,fB]at *)
 all_goals first
  |((conv=>whnf);refine Sw.Loop.inv (α:=Nat) (λz=>[(1,.ptr 1 0),(4,.int .i64 (y:Nat)),(5,.ptr 5 0),(6,.int .i64 (z:Nat))]) (λz=>[(1,.var [(.sl 3 (ls.map bI)),.sl 7 (es.map bU)]),(5,.var (bU (es.getD y lZ)))]) (λz=>z<=(es.getD y lZ).pts.length/\∀k<z,vsB ((es.getD y lZ).pts.getD k nM)=true) (λz=>(es.getD y lZ).pts.length-z) 0 ?_ ?_ ?_ (λz hz=>?_))|skip
 all_goals(repeat'((try(conv=>whnf));first
  |refine aaj ?_|(with_reducible first|refine aam ?_|refine aao ?_|refine aah (λ_=>?_) (λ_=>?_))|refine zat (λ_=>?_) (λ_=>?_)|refine aar nM ?_ ?_|apply zaq))
 all_goals(try apply zar)
 all_goals(try simp only[aN,fB]at *)
 all_goals first
  |trivial|omega|exact⟨lN _,λj hj=>absurd hj (EK _)⟩|(refine bE ?_;rw[Qy ω];done)|(refine bE ?_;rw[Qx (x:=x) ω ω];done)|(refine bE ?_;refine(wW (x:=y) ω (Bj (.inl ?_))).symm;omega)|(refine bE ?_;refine(wW (x:=y) ω (Bj (.inr (.inl ?_)))).symm;omega)|(refine bE ?_;refine(wW (x:=y) ω (QE (k:=z) ω ?_)).symm;unfold vsB;simp_all;done)|(refine bE ?_;refine(wW (x:=y) ω (Bj (.inr (.inr ?_)))).symm;simp_all;done)|(refine bE ?_;have hxx:x=ls.length:=ω;subst hxx;have hyy:y=es.length:=ω;subst hyy;rw[Vt ω hx.2 hy.2];done)|((conv=>whnf);exact⟨z+1,⟨⟨rfl,rfl,rfl,aK ω,trivial⟩,⟨rfl,rfl,trivial⟩,⟨ω,dn hz.2 (by unfold vsB;simp_all;done)⟩,(by show(es.getD y lZ).pts.length-(z+1)<(es.getD y lZ).pts.length-z;omega)⟩⟩)|((conv=>whnf);exact⟨y+1,⟨⟨rfl,aK ω,trivial⟩,⟨rfl,trivial⟩,⟨ω,dn hy.2 (Rk ω ω χ (by have hzz:z=(es.getD y lZ).pts.length:=ω;subst hzz;exact hz.2))⟩,(by show es.length-(y+1)<es.length-y;omega)⟩⟩)|((conv=>whnf);exact⟨x+1,⟨⟨rfl,aK ω,trivial⟩,⟨rfl,trivial⟩,⟨ω,dn hx.2 ω⟩,(by show ls.length-(x+1)<ls.length-x;omega)⟩⟩)⟩
instance(priority:=60) Vy(ls:List LayD)(es:List EntR)(q:Rat):DenI Tryz.prog 13 [.agg [(.sl 3 (ls.map bI)),.sl 7 (es.map bU)],R q] (ls.length<=1000/\es.length<=1000/\(∀l∈ls,l.name.size<=1000)/\(∀e∈es,qQ e)/\(gJ ls es≠0\/q<0)/\rz q<=12) (.tup [.agg [.sl 3 [],.sl 7 []],.c (.sl 0 []),.int .i64 (if gJ ls es≠0 then gJ ls es else 1)]):=⟨λhp=>by
 obtain⟨h1,h2,h3,h4,h5,h6⟩:=hp
 all_goals refine aI Tryz.func13 rfl ?_
 all_goals(repeat'((try(conv=>whnf));first
  |refine aaj ?_|refine y5 ?_ ?_|(with_reducible first|refine aah (λ_=>?_) (λ_=>?_)|refine aav (λ_=>?_) (λ_=>?_))|apply zaq))
 all_goals(try apply zar)
 all_goals(try simp only[dO]at *)
 all_goals first
  |exact⟨h1,h2,h3,h4⟩|(rename ¬gJ ls es=0=>h;rw[if_pos h];rfl)|(rename gJ ls es=0=>h;rw[if_neg (λg=>g h)];rfl)|(exfalso;rename ¬q<0=>h;exact h5.elim (λg=>g ξ) h)⟩
end Go.Proofs.YtmniihkenijjpaaGreatDoor
