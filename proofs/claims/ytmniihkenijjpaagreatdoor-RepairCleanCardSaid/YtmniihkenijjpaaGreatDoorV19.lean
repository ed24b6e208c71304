/-
  Rules of the abstract run, plain laws, and what functions answer, for the law RepairClean.
  Conditions: none.
-/
import Derived.Test.YtmniihkenijjpaaGreatDoorV18
import Derived.Shelf.LaysM
import Derived.Shelf.Strconv.Itoa1
import Derived.Shelf.Strconv.Itoa2
import Derived.Lib.Walk
import Derived.Lib.ItoaMem
import Derived.Lib.ItoaLen
import Derived.Lib.AppendIntMem
import Derived.WalkKit
import Derived.BigCall
import Derived.BigGuard
import Derived.Shelf.SlicesE.Clone
set_option linter.all false
namespace Go.Proofs.YtmniihkenijjpaaGreatDoor
open Go Go.RowKit Go.Sw Go.Shelf
set_option maxRecDepth 100000
set_option maxHeartbeats 8000000
set_option synthInstance.maxSize 4000
set_option synthInstance.maxHeartbeats 400000
def yE:Tab:=(3000000000+55,.flag)::CO
theorem rE:tabOk Tryz.prog yE=true:=ζ
theorem lV{n:Nat}(h:¬((n:Nat):Int)=0):n≠0:=ω
theorem uV{n:Nat}(h:((n:Nat):Int)=0):n=0:=ω
theorem Yw{tol:Rat}{es:List Ent}(h4:∀e∈es,okV e){i:Nat}(h:i<(jL tol es).length):okV ((jL tol es).getD i N0).1:=KT (tol:=tol) h4 _ (by simp[iC,h])
theorem ada{a b:P2}(h:(!(decide (a.1=b.1)&&decide (a.2=b.2)))=true):a≠b:=by
 rintro rfl;simp at h
theorem adg{a b:P2}(h:(!(decide (a.1=b.1)&&decide (a.2=b.2)))=false):a=b:=by
 simp at h;exact Prod.ext h.1 h.2
theorem adb(tol:Rat)(es:List Ent)(x n:Nat)(hp:n<(aA (es.getD x E0)).length)(h6:rz tol<=12)(k1:Jq aF (yS (tol*tol) es x n))(k3:(yS (tol*tol) es x n).length<=1000000)(k6:aF (yV es x n))(hq:yN (tol*tol) es x n=none):Den Tryz.prog 55 [.own 95 9 ((yS (tol*tol) es x n).map o9),.c (.v (.string (es.getD x E0).layer)),.agg (vecC ((yL (tol*tol) es x n).getD n P0)),R tol] (.tup [.own 95 9 ((yS (tol*tol) es x n).map o9),.tup [.agg Pz,.bool false]]):=by
 have h:=LG (yS (tol*tol) es x n) (es.getD x E0).layer (yV es x n) tol k3 k6 h6 k1;rw[<-mF (sq:=tol*tol) hp]at h;have e:nearG (tol*tol) ((yL (tol*tol) es x n).getD n P0) (spotsAt (yS (tol*tol) es x n) (es.getD x E0).layer)=none:=(by rw[mF hp];exact hq)
 rw[e]at h;exact den_lift sN DY (λ_ h=>h.1) h
theorem Yp(tol:Rat)(es:List Ent)(x n:Nat)(hp:n<(aA (es.getD x E0)).length)(h6:rz tol<=12)(k1:Jq aF (yS (tol*tol) es x n))(k3:(yS (tol*tol) es x n).length<=1000000)(k6:aF (yV es x n))(hq:yN (tol*tol) es x n=none):Den Tryz.prog 55 [.c (.sl 9 ((yS (tol*tol) es x n).map o9)),.c (.v (.string (es.getD x E0).layer)),.agg (vecC ((yL (tol*tol) es x n).getD n P0)),R tol] (.tup [.agg Pz,.bool false]):=by
 have h:=(ou (h:=FH (yS (tol*tol) es x n) (es.getD x E0).layer (yV es x n) tol)).den ⟨k3,k6,h6,k1⟩;rw[<-mF (sq:=tol*tol) hp]at h;have e:nearG (tol*tol) ((yL (tol*tol) es x n).getD n P0) (spotsAt (yS (tol*tol) es x n) (es.getD x E0).layer)=none:=(by rw[mF hp];exact hq)
 rw[e]at h;exact h
theorem abV(tol:Rat)(es:List Ent)(x n:Nat)(u:P2)(hp:n<(aA (es.getD x E0)).length)(h6:rz tol<=12)(k1:Jq aF (yS (tol*tol) es x n))(k3:(yS (tol*tol) es x n).length<=1000000)(k6:aF (yV es x n))(hq:yN (tol*tol) es x n=some u):Den Tryz.prog 55 [.own 95 9 ((yS (tol*tol) es x n).map o9),.c (.v (.string (es.getD x E0).layer)),.agg (vecC ((yL (tol*tol) es x n).getD n P0)),R tol] (.tup [.own 95 9 ((yS (tol*tol) es x n).map o9),.tup [.agg (vecC u),.bool true]]):=by
 have h:=LG (yS (tol*tol) es x n) (es.getD x E0).layer (yV es x n) tol k3 k6 h6 k1;rw[<-mF (sq:=tol*tol) hp]at h;have e:nearG (tol*tol) ((yL (tol*tol) es x n).getD n P0) (spotsAt (yS (tol*tol) es x n) (es.getD x E0).layer)=some u:=(by rw[mF hp];exact hq)
 rw[e]at h;exact den_lift sN DY (λ_ h=>h.1) h
theorem Yd(tol:Rat)(es:List Ent)(x n:Nat)(u:P2)(hp:n<(aA (es.getD x E0)).length)(h6:rz tol<=12)(k1:Jq aF (yS (tol*tol) es x n))(k3:(yS (tol*tol) es x n).length<=1000000)(k6:aF (yV es x n))(hq:yN (tol*tol) es x n=some u):Den Tryz.prog 55 [.c (.sl 9 ((yS (tol*tol) es x n).map o9)),.c (.v (.string (es.getD x E0).layer)),.agg (vecC ((yL (tol*tol) es x n).getD n P0)),R tol] (.tup [.agg (vecC u),.bool true]):=by
 have h:=(ou (h:=FH (yS (tol*tol) es x n) (es.getD x E0).layer (yV es x n) tol)).den ⟨k3,k6,h6,k1⟩;rw[<-mF (sq:=tol*tol) hp]at h;have e:nearG (tol*tol) ((yL (tol*tol) es x n).getD n P0) (spotsAt (yS (tol*tol) es x n) (es.getD x E0).layer)=some u:=(by rw[mF hp];exact hq)
 rw[e]at h;exact h
set_option maxHeartbeats 16000000 in
theorem yr1(ls:List LayD)(es:List Ent)(tol:Rat)(h1:ls.length<=1000)(h2:(∀l∈ls,l.name.size<=1000))(h3:es.length<=12)(h4:∀e∈es,okV e)(h5:∀e∈es,kF (dM e))(h6:rz tol<=12)(h7:¬tol<0)(h8:dS ls (es.map dM)=0):awp (Den Tryz.prog) yE (cutC 7 (Tryz.f15.body.getD .skip)) (λz e b=>z=.normal/\SubE [(2,.ptr 2 0),(4,.ptr 4 0),(8,.gs 1001 (jA (tol*tol) es es.length).cs.length),(10,.gs 1003 (jA (tol*tol) es es.length).es.length)] e/\SubB [(2,.var [(.sl 3 (ls.map aW)),.sl 7 (es.map aN)]),(4,.var [.v (.slice none 0 0),.v (.slice none 0 0)]),(1001,.grow 96 19 ((jA (tol*tol) es es.length).cs.map kM)),(1003,.grow 55 7 ((jA (tol*tol) es es.length).es.map aN))] b) (argE 0 [.agg [(.sl 3 (ls.map aW)),.sl 7 (es.map aN)],R tol]) []:=by
 haveI i_v:DenI Tryz.prog 22 [.agg [(.sl 3 (ls.map aW)),.sl 7 (es.map aN)]] (ls.length<=1000/\es.length<=1000/\(∀l∈ls,l.name.size<=1000)/\∀e∈es,kF (dM e)) (.int .i64 0):=⟨λhp=>by have:=(PU ls es).den hp;rwa [h8]at this⟩
 have i_t:RzB tol 12:=⟨h6⟩
 (conv=>whnf)
 all_goals(repeat'((try(conv=>whnf));first
  |apply zaf|refine zaa ?_ ?_|(with_reducible refine zad (λ_=>?_) (λ_=>?_))|(with_reducible refine zae (λ_=>?_) (λ_=>?_))))
 all_goals(try apply zar)
 all_goals(try simp only[aG,dn]at *)
 all_goals first
  |((conv=>whnf);refine Sw.Loop.ghost 8 1001 96 19 ?_ rfl rfl rfl ψ;refine Sw.Loop.ghost 9 1002 95 9 ?_ rfl rfl rfl ψ;refine Sw.Loop.ghost 10 1003 55 7 ?_ rfl rfl rfl ψ;refine Sw.Loop.inv (α:=Nat) (λx=>[(2,.ptr 2 0),(3,.ptr 3 0),(4,.ptr 4 0),(8,.gs 1001 (jA (tol*tol) es x).cs.length),(9,.gs 1002 (jA (tol*tol) es x).sp.length),(10,.gs 1003 (jA (tol*tol) es x).es.length),(11,.int .i64 (x:Nat))]) (λx=>[(2,.var [(.sl 3 (ls.map aW)),.sl 7 (es.map aN)]),(3,.var (ratC tol)),(4,.var [.v (.slice none 0 0),.v (.slice none 0 0)]),(1001,.grow 96 19 ((jA (tol*tol) es x).cs.map kM)),(1002,.grow 95 9 ((jA (tol*tol) es x).sp.map o9)),(1003,.grow 55 7 ((jA (tol*tol) es x).es.map aN))]) (λx=>x<=es.length) (λx=>es.length-x) 0 ?_ ?_ ?_ (λx hx=>?_);exact⟨rfl,rfl,rfl,rfl,rfl,rfl,rfl,trivial⟩;exact⟨rfl,rfl,rfl,rfl,rfl,rfl,trivial⟩;exact jm _;haveI ie:DenI Tryz.prog 26 [.agg (aN (es.getD (Int.toNat ((x:Nat):Int)) E0))] ((es.getD x E0).pts.length<=1000000) (.tup [.own 45 8 ((aA (es.getD x E0)).map vecC),.bool (decide ((aA (es.getD x E0))≠[]))]):=⟨λhp=>(ou (h:=Lj (es.getD x E0))).den hp⟩)|skip
 all_goals(repeat'((try(conv=>whnf));first
  |refine zaa ?_ ?_|(with_reducible refine zad (λ_=>?_) (λ_=>?_))|refine zan E0 ?_ ?_))
 all_goals(try apply zar)
 all_goals(try simp only[aG,dn]at *)
 all_goals first
  |((conv=>whnf);refine Sw.Loop.inv (α:=Nat) (λn=>[(2,.ptr 2 0),(3,.ptr 3 0),(4,.ptr 4 0),(8,.gs 1001 (yC (tol*tol) es x n).length),(9,.gs 1002 (yS (tol*tol) es x n).length),(10,.gs 1003 (jA (tol*tol) es x).es.length),(11,.int .i64 (x:Nat)),(12,.ptr 12 0),(13,.gs 1000055 (yL (tol*tol) es x n).length),(15,.int .i64 (n:Nat))]) (λn=>[(2,.var [(.sl 3 (ls.map aW)),.sl 7 (es.map aN)]),(3,.var (ratC tol)),(4,.var [.v (.slice none 0 0),.v (.slice none 0 0)]),(1001,.grow 96 19 ((yC (tol*tol) es x n).map kM)),(1002,.grow 95 9 ((yS (tol*tol) es x n).map o9)),(1003,.grow 55 7 ((jA (tol*tol) es x).es.map aN)),(12,.var (aN (es.getD x E0))),(1000055,.grow 45 8 ((yL (tol*tol) es x n).map vecC))]) (λn=>n<=(aA (es.getD x E0)).length) (λn=>(aA (es.getD x E0)).length-n) 0 ?_ ?_ ?_ (λn hn=>?_);exact⟨rfl,rfl,rfl,(by rw[Zg];rfl),(by rw[Ze];rfl),rfl,rfl,rfl,(by rw[ZT];first|rfl|(simp only[aG];rfl)),rfl,trivial⟩;exact⟨rfl,rfl,rfl,(by rw[Zg];rfl),(by rw[Ze];rfl),rfl,rfl,(by rw[ZT];rfl),trivial⟩;exact jm _;obtain⟨k1,k2,k3,k4,k5,k6⟩:=ac4 (sq:=tol*tol) h4 (x:=x) (n:=n) ω hn;have k7:=WW (sq:=tol*tol) hn;have k8:=nK (es.getD x E0);rcases hq:(yN (tol*tol) es x n)with _|u)|skip
 all_goals first
  |(haveI im1:DenI Tryz.prog 55 [.own 95 9 ((yS (tol*tol) es x n).map o9),.c (.v (.string (es.getD x E0).layer)),.agg (vecC ((yL (tol*tol) es x n).getD (Int.toNat ((Int.toNat ((n:Nat):Int):Nat):Int)) P0)),R tol] (n<(aA (es.getD x E0)).length) (.tup [.own 95 9 ((yS (tol*tol) es x n).map o9),.tup [.agg Pz,.bool false]]):=⟨λhp=>adb tol es x n hp h6 k1 ω k6 hq⟩;haveI im2:DenI Tryz.prog 55 [.c (.sl 9 ((yS (tol*tol) es x n).map o9)),.c (.v (.string (es.getD x E0).layer)),.agg (vecC ((yL (tol*tol) es x n).getD (Int.toNat ((Int.toNat ((n:Nat):Int):Nat):Int)) P0)),R tol] (n<(aA (es.getD x E0)).length) (.tup [.agg Pz,.bool false]):=⟨λhp=>Yp tol es x n hp h6 k1 ω k6 hq⟩)|(haveI im1:DenI Tryz.prog 55 [.own 95 9 ((yS (tol*tol) es x n).map o9),.c (.v (.string (es.getD x E0).layer)),.agg (vecC ((yL (tol*tol) es x n).getD (Int.toNat ((Int.toNat ((n:Nat):Int):Nat):Int)) P0)),R tol] (n<(aA (es.getD x E0)).length) (.tup [.own 95 9 ((yS (tol*tol) es x n).map o9),.tup [.agg (vecC u),.bool true]]):=⟨λhp=>abV tol es x n u hp h6 k1 ω k6 hq⟩;haveI im2:DenI Tryz.prog 55 [.c (.sl 9 ((yS (tol*tol) es x n).map o9)),.c (.v (.string (es.getD x E0).layer)),.agg (vecC ((yL (tol*tol) es x n).getD (Int.toNat ((Int.toNat ((n:Nat):Int):Nat):Int)) P0)),R tol] (n<(aA (es.getD x E0)).length) (.tup [.agg (vecC u),.bool true]):=⟨λhp=>Yd tol es x n u hp h6 k1 ω k6 hq⟩;have k9:=Xm k1 k6 hq)|skip
 all_goals(repeat'((try(conv=>whnf));first
  |refine zau (λ_=>?_) (λ_=>?_)|refine zaa ?_ ?_|(with_reducible refine zad (λ_=>?_) (λ_=>?_))|refine zat (λ_=>?_) (λ_=>?_)|refine zah ?_ ?_|refine zas ζ ?_|refine zan P0 ?_ ?_))
 all_goals(try apply zar)
 all_goals(try simp only[aG,dn]at *)
 all_goals first
  |omega|((with_reducible show(_:Nat)<=_);exact aO (mZ h4 (x:=x) ω).2.2.2 ψ)|exact⟨h1,ω,h2,h5⟩|(exfalso;rename ¬True=>h;exact h trivial)|(exfalso;rename aK tol<0=>q;exact h7 (wH.1 q))|((with_reducible show(_:Nat)=_);first|rfl|(simp only[bD,aG,aZ,bF];done)|((try simp only[bD,aG,aZ,bF]at *);omega))|((with_reducible show(_:Nat)<=_);(try simp only[bD,aG,aZ,bF,lG]at *);omega)|exact⟨aO (mZ h4 (x:=x) ω).2.2.2 ψ,k7⟩|(exfalso;rename (!false)=false=>q;cases q)|(exfalso;rename (!true)=true=>q;cases q)|((with_reducible show _/\_);have hlt:n<(aA (es.getD x E0)).length:=ω;have hv:=mF (sq:=tol*tol) hlt;exact⟨aO k9.1 ψ,aO k9.2 ψ,by rw[hv];exact aO k6.1 ψ,by rw[hv];exact aO k6.2 ψ⟩)|(have hlt:n<(aA (es.getD x E0)).length:=ω;have hv:=mF (sq:=tol*tol) hlt;obtain⟨e1,e2,e3⟩:=Qi (sq:=tol*tol) hlt hq;(conv=>whnf);exact⟨n+1,⟨⟨rfl,rfl,rfl,(by(simp only[e1,e2,e3,hv,bG,bQ,bU,bI,bD,aG,aZ,bF,ku]);(first|done|rfl)),(by(simp only[e1,e2,e3,hv,bG,bQ,bU,bI,bD,aG,aZ,bF,ku]);(first|done|rfl)),rfl,rfl,rfl,(by(simp only[e1,e2,e3,hv,bG,bQ,bU,bI,bD,aG,aZ,bF,ku]);(first|done|rfl)),aH ω,trivial⟩,⟨rfl,rfl,rfl,(by(simp only[e1,e2,e3,hv,bG,bQ,bU,bI,bD,aG,aZ,bF,ku]);(first|done|rfl)),(by(simp only[e1,e2,e3,hv,bG,bQ,bU,bI,bD,aG,aZ,bF,ku]);(first|done|rfl)),rfl,rfl,(by(simp only[e1,e2,e3,hv,bG,bQ,bU,bI,bD,aG,aZ,bF,ku]);(first|done|rfl)),trivial⟩,ω,(by show(aA (es.getD x E0)).length-(n+1)<(aA (es.getD x E0)).length-n;omega)⟩⟩)|(have hlt:n<(aA (es.getD x E0)).length:=ω;have hv:=mF (sq:=tol*tol) hlt;have hu:=ada ξ;rw[hv]at hu;obtain⟨e1,e2,e3⟩:=Yl (sq:=tol*tol) hlt hq (λe=>hu e.symm);(conv=>whnf);exact⟨n+1,⟨⟨rfl,rfl,rfl,(by(simp only[e1,e2,e3,hv,List.map_set,bG,bQ,bU,bI,bD,aG,aZ,bF,ku]);(first|done|rfl)),(by(simp only[e1,e2,e3,hv,List.map_set,bG,bQ,bU,bI,bD,aG,aZ,bF,ku]);(first|done|rfl)),rfl,rfl,rfl,(by(simp only[e1,e2,e3,hv,List.map_set,bG,bQ,bU,bI,bD,aG,aZ,bF,ku]);(first|done|rfl)),aH ω,trivial⟩,⟨rfl,rfl,rfl,(by(simp only[e1,e2,e3,hv,List.map_set,bG,bQ,bU,bI,bD,aG,aZ,bF,ku]);(first|done|rfl)),(by(simp only[e1,e2,e3,hv,List.map_set,bG,bQ,bU,bI,bD,aG,aZ,bF,ku]);(first|done|rfl)),rfl,rfl,(by(simp only[e1,e2,e3,hv,List.map_set,bG,bQ,bU,bI,bD,aG,aZ,bF,ku]);(first|done|rfl)),trivial⟩,ω,(by show(aA (es.getD x E0)).length-(n+1)<(aA (es.getD x E0)).length-n;omega)⟩⟩)|(have hlt:n<(aA (es.getD x E0)).length:=ω;have hv:=mF (sq:=tol*tol) hlt;have hu:=adg ξ;rw[hv]at hu;rw[hu]at hq;obtain⟨e1,e2,e3⟩:=aae (sq:=tol*tol) hlt hq;(conv=>whnf);exact⟨n+1,⟨⟨rfl,rfl,rfl,(by(simp only[e1,e2,e3,hv,bG,bQ,bU,bI,bD,aG,aZ,bF,ku]);(first|done|rfl)),(by(simp only[e1,e2,e3,hv,bG,bQ,bU,bI,bD,aG,aZ,bF,ku]);(first|done|rfl)),rfl,rfl,rfl,(by(simp only[e1,e2,e3,hv,bG,bQ,bU,bI,bD,aG,aZ,bF,ku]);(first|done|rfl)),aH ω,trivial⟩,⟨rfl,rfl,rfl,(by(simp only[e1,e2,e3,hv,bG,bQ,bU,bI,bD,aG,aZ,bF,ku]);(first|done|rfl)),(by(simp only[e1,e2,e3,hv,bG,bQ,bU,bI,bD,aG,aZ,bF,ku]);(first|done|rfl)),rfl,rfl,(by(simp only[e1,e2,e3,hv,bG,bQ,bU,bI,bD,aG,aZ,bF,ku]);(first|done|rfl)),trivial⟩,ω,(by show(aA (es.getD x E0)).length-(n+1)<(aA (es.getD x E0)).length-n;omega)⟩⟩)|((conv=>whnf);have hxx:x=es.length:=ω;subst hxx;exact⟨rfl,⟨rfl,rfl,rfl,rfl,trivial⟩,⟨rfl,rfl,rfl,rfl,trivial⟩⟩)|(have e9:=VO (sq:=tol*tol) (es:=es) (x:=x) (n:=n) ω ω;(conv=>whnf);exact⟨x+1,⟨⟨rfl,rfl,rfl,(by(simp only[e9,bG,bQ,bU,bI,bD,aG,aZ,bF,ku]);(first|done|rfl)),(by(simp only[e9,bG,bQ,bU,bI,bD,aG,aZ,bF,ku]);(first|done|rfl)),(by(simp only[e9,bG,bQ,bU,bI,bD,aG,aZ,bF,ku]);(first|done|rfl)),aH ω,trivial⟩,⟨rfl,rfl,rfl,(by(simp only[e9,bG,bQ,bU,bI,bD,aG,aZ,bF,ku]);(first|done|rfl)),(by(simp only[e9,bG,bQ,bU,bI,bD,aG,aZ,bF,ku]);(first|done|rfl)),(by(simp only[e9,bG,bQ,bU,bI,bD,aG,aZ,bF,ku]);(first|done|rfl)),trivial⟩,ω,(by show es.length-(x+1)<es.length-x;omega)⟩⟩)
set_option maxHeartbeats 16000000 in
theorem yr2(ls:List LayD)(es:List Ent)(tol:Rat)(h1:ls.length<=1000)(h2:(∀l∈ls,l.name.size<=1000))(h3:es.length<=12)(h4:∀e∈es,okV e)(h5:∀e∈es,kF (dM e))(h6:rz tol<=12)(h7:¬tol<0)(h8:dS ls (es.map dM)=0):awp (Den Tryz.prog) yE (cutC 3 (restC 7 (Tryz.f15.body.getD .skip))) (λz e b=>z=.normal/\SubE [(2,.ptr 2 0),(4,.ptr 4 0),(8,.gs 1001 (pO tol es 0).length),(18,.gs 1004 (jK tol es).length),(19,.gs 1005 (jK tol es).length)] e/\SubB [(2,.var [(.sl 3 (ls.map aW)),.sl 7 (es.map aN)]),(4,.var [.v (.slice none 0 0),.v (.slice none 0 0)]),(1001,.grow 96 19 ((pO tol es 0).map kM)),(1004,.grow 55 7 ((jK tol es).map eC)),(1005,.grow 3 1 ((jK tol es).map nC))] b) [(2,.ptr 2 0),(4,.ptr 4 0),(8,.gs 1001 (jA (tol*tol) es es.length).cs.length),(10,.gs 1003 (jA (tol*tol) es es.length).es.length)] [(2,.var [(.sl 3 (ls.map aW)),.sl 7 (es.map aN)]),(4,.var [.v (.slice none 0 0),.v (.slice none 0 0)]),(1001,.grow 96 19 ((jA (tol*tol) es es.length).cs.map kM)),(1003,.grow 55 7 ((jA (tol*tol) es es.length).es.map aN))]:=by
 (conv=>whnf)
 all_goals(try simp only[aG,dn]at *)
 all_goals first
  |((conv=>whnf);refine Sw.Loop.ghost 18 1004 55 7 ?_ rfl rfl rfl ψ;refine Sw.Loop.ghost 19 1005 3 1 ?_ rfl rfl rfl ψ;refine Sw.Loop.inv (α:=Nat) (λx=>[(2,.ptr 2 0),(4,.ptr 4 0),(8,.gs 1001 (yR tol es x).length),(10,.gs 1003 (jA (tol*tol) es es.length).es.length),(18,.gs 1004 (yK tol es x).length),(19,.gs 1005 (yK tol es x).length),(20,.int .i64 (x:Nat))]) (λx=>[(2,.var [(.sl 3 (ls.map aW)),.sl 7 (es.map aN)]),(4,.var [.v (.slice none 0 0),.v (.slice none 0 0)]),(1001,.grow 96 19 ((yR tol es x).map kM)),(1003,.grow 55 7 ((jA (tol*tol) es es.length).es.map aN)),(1004,.grow 55 7 ((yK tol es x).map eC)),(1005,.grow 3 1 ((yK tol es x).map nC))]) (λx=>x<=es.length) (λx=>es.length-x) 0 ?_ ?_ ?_ (λx hx=>?_);exact⟨rfl,rfl,(by rw[aam];rfl),rfl,(by rw[Sv];rfl),(by rw[Sv];rfl),rfl,trivial⟩;exact⟨rfl,rfl,(by rw[aam];rfl),rfl,(by rw[Sv];rfl),(by rw[Sv];rfl),trivial⟩;exact jm _;have k1:=Xf (tol:=tol) h4 x;have k2:=Wu tol es)
 all_goals(repeat'((try(conv=>whnf));first
  |refine zaa ?_ ?_|(with_reducible first|refine zad (λ_=>?_) (λ_=>?_)|refine zae (λ_=>?_) (λ_=>?_))|refine zah ?_ ?_|refine zan E0 ?_ ?_))
 all_goals(try apply zar)
 all_goals(try simp only[aG,dn]at *)
 all_goals first
  |omega|((with_reducible show(_:Nat)=_);first|rfl|(simp only[bD,aG,aZ,bF];done)|((try simp only[bD,aG,aZ,bF]at *);omega))|((with_reducible show(_:Nat)<=_);(try simp only[bD,aG,aZ,bF,lG]at *);omega)|exact YW h4 ω|((conv=>whnf);have hxx:x=es.length:=ω;subst hxx;obtain⟨e1,e2⟩:=Vw (tol:=tol) (es:=es);exact⟨rfl,⟨rfl,rfl,(by rw[<-e2];rfl),(by rw[<-e1];rfl),(by rw[<-e1];rfl),trivial⟩,⟨rfl,rfl,(by rw[<-e2];rfl),(by rw[<-e1];rfl),(by rw[<-e1];rfl),trivial⟩⟩)|(obtain⟨e1,e2⟩:=ab4 (tol:=tol) (es:=es) (x:=x) ω (lV ξ);(conv=>whnf);exact⟨x+1,⟨⟨rfl,rfl,(by(simp only[e1,e2,bG,bQ,bU,bI,bD,aG,aZ,bF]);(first|done|rfl)),rfl,(by(simp only[e1,e2,bG,bQ,bU,bI,bD,aG,aZ,bF]);(first|done|rfl)),(by(simp only[e1,e2,bG,bQ,bU,bI,bD,aG,aZ,bF]);(first|done|rfl)),aH ω,trivial⟩,⟨rfl,rfl,(by(simp only[e1,e2,bG,bQ,bU,bI,bD,aG,aZ,bF]);(first|done|rfl)),rfl,(by(simp only[e1,e2,bG,bQ,bU,bI,bD,aG,aZ,bF]);(first|done|rfl)),(by(simp only[e1,e2,bG,bQ,bU,bI,bD,aG,aZ,bF]);(first|done|rfl)),trivial⟩,ω,(by show es.length-(x+1)<es.length-x;omega)⟩⟩)|(obtain⟨e1,e2⟩:=adJ (tol:=tol) (es:=es) (x:=x) ω (uV ξ);(conv=>whnf);exact⟨x+1,⟨⟨rfl,rfl,(by(simp only[e1,e2,bG,bQ,bU,bI,bD,aG,aZ,bF]);(first|done|rfl)),rfl,(by(simp only[e1,e2,bG,bQ,bU,bI,bD,aG,aZ,bF]);(first|done|rfl)),(by(simp only[e1,e2,bG,bQ,bU,bI,bD,aG,aZ,bF]);(first|done|rfl)),aH ω,trivial⟩,⟨rfl,rfl,(by(simp only[e1,e2,bG,bQ,bU,bI,bD,aG,aZ,bF]);(first|done|rfl)),rfl,(by(simp only[e1,e2,bG,bQ,bU,bI,bD,aG,aZ,bF]);(first|done|rfl)),(by(simp only[e1,e2,bG,bQ,bU,bI,bD,aG,aZ,bF]);(first|done|rfl)),trivial⟩,ω,(by show es.length-(x+1)<es.length-x;omega)⟩⟩)
set_option maxHeartbeats 16000000 in
theorem yr3(ls:List LayD)(es:List Ent)(tol:Rat)(h1:ls.length<=1000)(h2:(∀l∈ls,l.name.size<=1000))(h3:es.length<=12)(h4:∀e∈es,okV e)(h5:∀e∈es,kF (dM e))(h6:rz tol<=12)(h7:¬tol<0)(h8:dS ls (es.map dM)=0):awp (Den Tryz.prog) yE (cutC 4 (restC 10 (Tryz.f15.body.getD .skip))) (λz e b=>z=.normal/\SubE [(2,.ptr 2 0),(4,.ptr 4 0),(8,.gs 1001 (pO tol es (jK tol es).length).length),(23,.gs 1006 (jL tol es).length),(24,.gs 1007 (jL tol es).length)] e/\SubB [(2,.var [(.sl 3 (ls.map aW)),.sl 7 (es.map aN)]),(4,.var [.v (.slice none 0 0),.v (.slice none 0 0)]),(1001,.grow 96 19 ((pO tol es (jK tol es).length).map kM)),(1006,.grow 55 7 ((jL tol es).map eC)),(1007,.grow 3 1 ((jL tol es).map nC))] b) [(2,.ptr 2 0),(4,.ptr 4 0),(8,.gs 1001 (pO tol es 0).length),(18,.gs 1004 (jK tol es).length),(19,.gs 1005 (jK tol es).length)] [(2,.var [(.sl 3 (ls.map aW)),.sl 7 (es.map aN)]),(4,.var [.v (.slice none 0 0),.v (.slice none 0 0)]),(1001,.grow 96 19 ((pO tol es 0).map kM)),(1004,.grow 55 7 ((jK tol es).map eC)),(1005,.grow 3 1 ((jK tol es).map nC))]:=by
 (conv=>whnf)
 haveI ir:DenI Tryz.prog 59 [.c (.sl 7 ((jK tol es).map eC))] True (.c (.sl 1 ((bJ ((jK tol es).map (·.1))).map bC))):=⟨λ_=>by rw[FD];exact(QF ((jK tol es).map (·.1))).den ⟨by rw[aG];have:=xG tol es;omega,λe he=>by obtain⟨x,hx,rfl⟩:=dW.1 he;exact OB h4 x hx⟩⟩
 have k0:=xG tol es
 all_goals(repeat'((try(conv=>whnf));first
  |apply zaf|refine zah ?_ ?_))
 all_goals(try apply zar)
 all_goals(try simp only[aG,dn]at *)
 all_goals first
  |((conv=>whnf);refine Sw.Loop.ghost 23 1006 55 7 ?_ rfl rfl rfl ψ;refine Sw.Loop.ghost 24 1007 3 1 ?_ rfl rfl rfl ψ;refine Sw.Loop.inv (α:=Nat) (λx=>[(2,.ptr 2 0),(4,.ptr 4 0),(8,.gs 1001 (pO tol es x).length),(18,.gs 1004 (jK tol es).length),(19,.gs 1005 (jK tol es).length),(22,.c (.sl 1 ((bJ ((jK tol es).map (·.1))).map bC))),(23,.gs 1006 (yt (jK tol es) x).length),(24,.gs 1007 (yt (jK tol es) x).length),(25,.int .i64 (x:Nat))]) (λx=>[(2,.var [(.sl 3 (ls.map aW)),.sl 7 (es.map aN)]),(4,.var [.v (.slice none 0 0),.v (.slice none 0 0)]),(1001,.grow 96 19 ((pO tol es x).map kM)),(1004,.froz 7 ((jK tol es).map eC)),(1005,.grow 3 1 ((jK tol es).map nC)),(1006,.grow 55 7 ((yt (jK tol es) x).map eC)),(1007,.grow 3 1 ((yt (jK tol es) x).map nC))]) (λx=>x<=(jK tol es).length) (λx=>(jK tol es).length-x) 0 ?_ ?_ ?_ (λx hx=>?_);exact⟨rfl,rfl,rfl,rfl,rfl,rfl,rfl,rfl,rfl,trivial⟩;exact⟨rfl,rfl,rfl,rfl,rfl,rfl,rfl,trivial⟩;exact jm _;have k1:=vT (jK tol es) x;have k2:=(rO (tol:=tol) h4 x).2.2;have k3:(bJ ((jK tol es).map (·.1))).length=(jK tol es).length:=(by rw[fF,aG]))
 all_goals(repeat'((try(conv=>whnf));first
  |(with_reducible refine zad (λ_=>?_) (λ_=>?_))|refine zat (λ_=>?_) (λ_=>?_)|refine zah ?_ ?_|refine zas ζ ?_|refine zan N0 ?_ ?_|refine zan false ?_ ?_))
 all_goals(try apply zar)
 all_goals(try simp only[aG,dn]at *)
 all_goals first
  |omega|((with_reducible show(_:Nat)=_);first|rfl|(simp only[bD,aG,aZ,bF];done)|((try simp only[bD,aG,aZ,bF]at *);omega))|((with_reducible show(_:Nat)<=_);(try simp only[bD,aG,aZ,bF,lG]at *);omega)|((conv=>whnf);have hxx:x=(jK tol es).length:=ω;subst hxx;have e9:yt (jK tol es) (jK tol es).length=(jL tol es):=uS _;exact⟨rfl,⟨rfl,rfl,rfl,(by rw[<-e9];rfl),(by rw[<-e9];rfl),trivial⟩,⟨rfl,rfl,rfl,(by rw[<-e9];rfl),(by rw[<-e9];rfl),trivial⟩⟩)|(obtain⟨e1,e2⟩:=TM (tol:=tol) (es:=es) (x:=x) ω ξ;(conv=>whnf);exact⟨x+1,⟨⟨rfl,rfl,(by(simp only[e1,e2,bG,bQ,bU,bI,bD,aG,aZ,bF]);(first|done|rfl)),rfl,rfl,rfl,(by(simp only[e1,e2,bG,bQ,bU,bI,bD,aG,aZ,bF]);(first|done|rfl)),(by(simp only[e1,e2,bG,bQ,bU,bI,bD,aG,aZ,bF]);(first|done|rfl)),aH ω,trivial⟩,⟨rfl,rfl,(by(simp only[e1,e2,bG,bQ,bU,bI,bD,aG,aZ,bF]);(first|done|rfl)),rfl,rfl,(by(simp only[e1,e2,bG,bQ,bU,bI,bD,aG,aZ,bF]);(first|done|rfl)),(by(simp only[e1,e2,bG,bQ,bU,bI,bD,aG,aZ,bF]);(first|done|rfl)),trivial⟩,ω,(by show(jK tol es).length-(x+1)<(jK tol es).length-x;omega)⟩⟩)|(obtain⟨e1,e2⟩:=TN (tol:=tol) (es:=es) (x:=x) ω ξ;(conv=>whnf);exact⟨x+1,⟨⟨rfl,rfl,(by(simp only[e1,e2,bG,bQ,bU,bI,bD,aG,aZ,bF]);(first|done|rfl)),rfl,rfl,rfl,(by(simp only[e1,e2,bG,bQ,bU,bI,bD,aG,aZ,bF]);(first|done|rfl)),(by(simp only[e1,e2,bG,bQ,bU,bI,bD,aG,aZ,bF]);(first|done|rfl)),aH ω,trivial⟩,⟨rfl,rfl,(by(simp only[e1,e2,bG,bQ,bU,bI,bD,aG,aZ,bF]);(first|done|rfl)),rfl,rfl,(by(simp only[e1,e2,bG,bQ,bU,bI,bD,aG,aZ,bF]);(first|done|rfl)),(by(simp only[e1,e2,bG,bQ,bU,bI,bD,aG,aZ,bF]);(first|done|rfl)),trivial⟩,ω,(by show(jK tol es).length-(x+1)<(jK tol es).length-x;omega)⟩⟩)
set_option maxHeartbeats 16000000 in
theorem yr4(ls:List LayD)(es:List Ent)(tol:Rat)(h1:ls.length<=1000)(h2:(∀l∈ls,l.name.size<=1000))(h3:es.length<=12)(h4:∀e∈es,okV e)(h5:∀e∈es,kF (dM e))(h6:rz tol<=12)(h7:¬tol<0)(h8:dS ls (es.map dM)=0):awp (Den Tryz.prog) yE (restC 14 (Tryz.f15.body.getD .skip)) (endO yE Tryz.f15 [none,none,none] (.tup [.agg [(.sl 3 (ls.map aW)),.sl 7 ((aU (tol*tol) es).es.map aN)],.c (.sl 19 ((aU (tol*tol) es).cs.map kM)),.int .i64 0])) [(2,.ptr 2 0),(4,.ptr 4 0),(8,.gs 1001 (pO tol es (jK tol es).length).length),(23,.gs 1006 (jL tol es).length),(24,.gs 1007 (jL tol es).length)] [(2,.var [(.sl 3 (ls.map aW)),.sl 7 (es.map aN)]),(4,.var [.v (.slice none 0 0),.v (.slice none 0 0)]),(1001,.grow 96 19 ((pO tol es (jK tol es).length).map kM)),(1006,.grow 55 7 ((jL tol es).map eC)),(1007,.grow 3 1 ((jL tol es).map nC))]:=by
 (conv=>whnf)
 haveI io:DenI Tryz.prog 60 [.c (.sl 7 ((jL tol es).map eC))] True (.c (.sl 2 ((yT ((jL tol es).map (·.1))).map Oq))):=⟨λ_=>by rw[FD];exact(Rw ((jL tol es).map (·.1))).den ⟨by rw[aG];have:=xP tol es;omega,λe he=>by obtain⟨x,hx,rfl⟩:=dW.1 he;exact KT h4 x hx⟩⟩
 have k0:=xP tol es;have fs:=@adu tol es;have fa:=@Xu tol es;have fb:=@acH tol es;have fl:=λx=>VT (tol:=tol) h3 h4 x
 generalize(yT ((jL tol es).map (·.1)))=OR at fs fa fb fl io
 all_goals(repeat'((try(conv=>whnf));first
  |apply zaf|refine zah ?_ ?_))
 all_goals(try apply zar)
 all_goals(try simp only[aG,dn]at *)
 all_goals first
  |((conv=>whnf);refine Sw.Loop.inv (α:=Nat) (λx=>[(2,.ptr 2 0),(4,.ptr 4 0),(8,.gs 1001 (yO tol es x).length),(23,.gs 1006 (jL tol es).length),(24,.gs 1007 (jL tol es).length),(26,.c (.sl 2 (OR.map Oq))),(27,.int .i64 (x:Nat))]) (λx=>[(2,.var [(.sl 3 (ls.map aW)),.sl 7 (es.map aN)]),(4,.var [.v (.slice none 0 0),.v (.slice none 0 0)]),(1001,.grow 96 19 ((yO tol es x).map kM)),(1006,.froz 7 ((jL tol es).map eC)),(1007,.grow 3 1 ((jL tol es).map nC))]) (λx=>x<=OR.length) (λx=>OR.length-x) 0 ?_ ?_ ?_ (λx hx=>?_);exact⟨rfl,rfl,(by rw[Zf];rfl),rfl,rfl,rfl,rfl,trivial⟩;exact⟨rfl,rfl,(by rw[Zf];rfl),rfl,rfl,trivial⟩;exact jm _;have k1:=fl x;haveI ie:DenI Tryz.prog 26 [.agg (aN ((jL tol es).getD (Int.toNat (((OR.getD x (0,0)).1:Nat):Int)) N0).1)] (((jL tol es).getD (OR.getD x (0,0)).1 N0).1.pts.length<=1000000) (.tup [.own 45 8 ((aA ((jL tol es).getD (OR.getD x (0,0)).1 N0).1).map vecC),.bool (decide (aA ((jL tol es).getD (OR.getD x (0,0)).1 N0).1≠[]))]):=⟨λhp=>by rw[dn];exact(ou (h:=Lj ((jL tol es).getD (OR.getD x (0,0)).1 N0).1)).den hp⟩)
 all_goals(repeat'((try(conv=>whnf));first
  |refine zaa ?_ ?_|(with_reducible refine zad (λ_=>?_) (λ_=>?_))|refine zah ?_ ?_|refine zas ζ ?_|refine zan N0 ?_ ?_|refine zan P0 ?_ ?_|refine zan ((0,0):Nat×Nat) ?_ ?_|apply zaq))
 all_goals(try apply zar)
 all_goals(try simp only[aG,dn]at *)
 all_goals first
  |omega|((with_reducible show(_:Nat)=_);first|rfl|(simp only[bD,aG,aZ,bF];done)|((try simp only[bD,aG,aZ,bF]at *);omega))|((with_reducible show(_:Nat)<=_);(try simp only[bD,aG,aZ,bF,lG]at *);omega)|(obtain⟨b1,b2⟩:=@fb x ω;exact⟨ω,ω⟩)|(obtain⟨b1,b2⟩:=@fb x ω;exact aO (Yw h4 b1).2.2.2 ψ)|(have e1:=@fs x ω;(conv=>whnf);exact⟨x+1,⟨⟨rfl,rfl,(by(simp only[e1,bG,bQ,bU,bI,bD,aG,aZ,bF]);(first|done|rfl)),rfl,rfl,rfl,aH ω,trivial⟩,⟨rfl,rfl,(by(simp only[e1,bG,bQ,bU,bI,bD,aG,aZ,bF]);(first|done|rfl)),rfl,rfl,trivial⟩,ω,(by show OR.length-(x+1)<OR.length-x;omega)⟩⟩)|((with_reducible show packA _=_);have hxx:x=OR.length:=ω;subst hxx;rw[fa,FD,<-(wV tol es).1];rfl)
instance ac1(x y u v:Int):DenI Tryz.prog 47 [.int .i64 x,.int .i64 y,.int .i64 u,.int .i64 v] (jq x/\jq y/\jq u/\jq v) (.agg (aN (DZ x y u v))):=⟨λhp=>by
 obtain⟨h1,h2,h3,h4⟩:=hp;unfold jq at *
 all_goals refine aC Tryz.func47 rfl ?_
 all_goals(repeat'((try(conv=>whnf));first
  |refine zaa ?_ ?_|apply zaq))
 all_goals(try apply zar)
 all_goals first
  |exact⟨h1,h2⟩|exact⟨h3,h4⟩|rfl⟩
instance aeO(es:List (List Cell)):DenI Tryz.prog 46 [.c (.sl 7 es)] (True) (.agg [.sl 3 (aLL.map aW),.sl 7 es]):=⟨λhp=>by
 refine aC Tryz.func46 rfl ?_
 all_goals(repeat'((try(conv=>whnf));first
  |apply zaq))
 all_goals first
  |rfl⟩
instance aeW:DenI Tryz.prog 11 [] (True) (.bool true):=⟨λhp=>by
 haveI r1:DenI Tryz.prog 13 [.agg [.sl 3 (aLL.map aW),.sl 7 [aN (DZ 0 0 1000 0),aN (DZ 1003 0 0 1000),aN (DZ 0 1004 0 0)]],R ((5:Int):Rat)] True (.tup [.agg [.sl 3 (aLL.map aW),.sl 7 ((aU (((5:Int):Rat)*((5:Int):Rat)) aw1).es.map aN)],.c (.sl 19 ((aU (((5:Int):Rat)*((5:Int):Rat)) aw1).cs.map kM)),.int .i64 0]):=⟨λ_=>(OX aLL aw1 ((5:Int):Rat)).den ⟨ψ,ψ,ψ,sG.1,sG.2,(CW ψ ψ).1,(CW ψ ψ).2,Me⟩⟩
 haveI r2:DenI Tryz.prog 13 [.agg [.sl 3 (aLL.map aW),.sl 7 [aN (DZ 0 0 1000 0),aN (DZ 1003 0 0 1000),aN (DZ 0 1004 0 0)]],R ((3:Int):Rat)] True (.tup [.agg [.sl 3 (aLL.map aW),.sl 7 ((aU (((3:Int):Rat)*((3:Int):Rat)) aw1).es.map aN)],.c (.sl 19 ((aU (((3:Int):Rat)*((3:Int):Rat)) aw1).cs.map kM)),.int .i64 0]):=⟨λ_=>(OX aLL aw1 ((3:Int):Rat)).den ⟨ψ,ψ,ψ,sG.1,sG.2,(CW ψ ψ).1,(CW ψ ψ).2,Me⟩⟩
 haveI r3:DenI Tryz.prog 13 [.agg [.sl 3 (aLL.map aW),.sl 7 [aN (DZ 0 0 2 0)]],R ((5:Int):Rat)] True (.tup [.agg [.sl 3 (aLL.map aW),.sl 7 ((aU (((5:Int):Rat)*((5:Int):Rat)) aw2).es.map aN)],.c (.sl 19 ((aU (((5:Int):Rat)*((5:Int):Rat)) aw2).cs.map kM)),.int .i64 0]):=⟨λ_=>(OX aLL aw2 ((5:Int):Rat)).den ⟨ψ,ψ,ψ,NS.1,NS.2,(CW ψ ψ).1,(CW ψ ψ).2,aai⟩⟩
 haveI r4:DenI Tryz.prog 19 [.agg [.sl 3 (aLL.map aW),.sl 7 [aN (DZ 0 0 1000 0),aN (DZ 1003 0 0 1000),aN (DZ 0 1004 0 0)]],R ((5:Int):Rat)] True (.bool false):=⟨λ_=>by have h:=(Zy aLL aw1 ((5:Int):Rat)).den ⟨ψ,ψ,ψ,sG.1,sG.2,(CW ψ ψ).1,(CW ψ ψ).2,Me⟩;rw[Zc]at h;exact h⟩
 obtain⟨a1,b1⟩:=Ny YM;obtain⟨a2,b2⟩:=Ny YV;obtain⟨a3,b3⟩:=Ny Yu;have a4:=ZM;have c10:=b1 0 ψ;have c11:=b1 1 ψ;have c21:=b2 1 ψ;have c22:=b2 2 ψ;have c31:=b3 1 ψ;generalize(aU (((5:Int):Rat)*((5:Int):Rat)) aw1).cs=C1 at *;generalize(aU (((3:Int):Rat)*((3:Int):Rat)) aw1).cs=C2 at *;generalize(aU (((5:Int):Rat)*((5:Int):Rat)) aw2).cs=C3 at *;generalize(aU (((5:Int):Rat)*((5:Int):Rat)) aw2).es=E3 at *;generalize(aU (((5:Int):Rat)*((5:Int):Rat)) aw1).es=E1 at *;generalize(aU (((3:Int):Rat)*((3:Int):Rat)) aw1).es=E2 at *;have d10:(C1.getD 0 C0).kind=1/\(C1.getD 0 C0).ent=1:=c10;have d11:(C1.getD 1 C0).kind=1/\(C1.getD 1 C0).ent=2:=c11;have d21:(C2.getD 1 C0).kind=4/\(C2.getD 1 C0).ent=1:=c21;have d22:(C2.getD 2 C0).kind=4/\(C2.getD 2 C0).ent=2:=c22;have d31:(C3.getD 1 C0).kind=2/\(C3.getD 1 C0).ent=0:=c31;clear b1 b2 b3 c10 c11 c21 c22 c31
 all_goals refine aC Tryz.func11 rfl ?_
 all_goals(repeat'((try(conv=>whnf));first
  |apply zaf|refine zaa ?_ ?_|(with_reducible first|apply zab|apply zac|refine zad (λ_=>?_) (λ_=>?_)|refine zae (λ_=>?_) (λ_=>?_))|refine zas ζ ?_|refine zan C0 ?_ ?_|apply zaq))
 all_goals(try apply zar)
 all_goals(try simp only[aG,a1,a2,a3,a4,aZ,bF]at *)
 all_goals(try simp only[OI,show Int.toNat 1=1 from rfl,show Int.toNat 2=2 from rfl]at *)
 all_goals first
  |trivial|omega⟩
instance afn(r:Rq):DenI Tryz.prog 112 [.agg (JI r)] (True) (.bool (Px r)):=⟨λhp=>by
 refine aC Tryz.func112 rfl ?_
 all_goals(repeat'((try(conv=>whnf));first
  |(with_reducible first|apply zab|apply zac|refine zad (λ_=>?_) (λ_=>?_))|apply zaq))
 all_goals(try simp only[aG,dn]at *)
 all_goals first
  |(refine bE ?_;unfold Px;rw[vS];simp only[bY,decide_eq_true_eq];omega)|(refine bE ?_;exact(Wh ω).symm)⟩
instance afx(ls:List LayD)(es:List EntR):DenI Tryz.prog 75 [.agg [(.sl 3 (ls.map aW)),.sl 7 (es.map bH)]] (es.length<=12) (.bool (JH ls es)):=⟨λhp=>by
 refine aC Tryz.func75 rfl ?_
 all_goals(repeat'((try(conv=>whnf));first
  |(with_reducible first|apply zab|apply zac|refine zad (λ_=>?_) (λ_=>?_))|apply zaq))
 all_goals(try simp only[aG,dn]at *)
 all_goals first
  |((conv=>whnf);refine Sw.Loop.inv (α:=Nat) (λx=>[(1,.ptr 1 0),(3,.int .i64 (x:Nat))]) (λx=>[(1,.var [(.sl 3 (ls.map aW)),.sl 7 (es.map bH)])]) (λx=>x<=ls.length/\∀j<x,(ls.getD j L0).name.size<=60) (λx=>ls.length-x) 0 ?_ ?_ ?_ (λx hx=>?_))|skip
 all_goals(repeat'((try(conv=>whnf));first
  |(with_reducible refine zad (λ_=>?_) (λ_=>?_))|refine zan L0 ?_ ?_|apply zaq))
 all_goals(try apply zar)
 all_goals(try simp only[aG,dn]at *)
 all_goals first
  |((conv=>whnf);refine Sw.Loop.inv (α:=Nat) (λy=>[(1,.ptr 1 0),(4,.int .i64 (y:Nat))]) (λy=>[(1,.var [(.sl 3 (ls.map aW)),.sl 7 (es.map bH)])]) (λy=>y<=es.length/\∀j<y,uQ (es.getD j qg)=true) (λy=>es.length-y) 0 ?_ ?_ ?_ (λy hy=>?_))|skip
 all_goals(repeat'((try(conv=>whnf));first
  |apply zaf|(with_reducible first|apply zab|apply zac|refine zad (λ_=>?_) (λ_=>?_))|refine zat (λ_=>?_) (λ_=>?_)|refine zan qg ?_ ?_|apply zaq))
 all_goals(try apply zar)
 all_goals(try simp only[aG,dn]at *)
 all_goals first
  |((conv=>whnf);refine Sw.Loop.inv (α:=Nat) (λz=>[(1,.ptr 1 0),(4,.int .i64 (y:Nat)),(5,.ptr 5 0),(6,.int .i64 (z:Nat))]) (λz=>[(1,.var [(.sl 3 (ls.map aW)),.sl 7 (es.map bH)]),(5,.var (bH (es.getD y qg)))]) (λz=>z<=(es.getD y qg).pts.length/\∀k<z,vsB ((es.getD y qg).pts.getD k mO)=true) (λz=>(es.getD y qg).pts.length-z) 0 ?_ ?_ ?_ (λz hz=>?_))|skip
 all_goals(repeat'((try(conv=>whnf));first
  |apply zaf|(with_reducible first|apply zab|apply zac|refine zad (λ_=>?_) (λ_=>?_))|refine zat (λ_=>?_) (λ_=>?_)|refine zan mO ?_ ?_|apply zaq))
 all_goals(try apply zar)
 all_goals(try simp only[aG,dn]at *)
 all_goals first
  |trivial|omega|exact⟨jm _,λj hj=>absurd hj (yQ _)⟩|(refine bE ?_;rw[VP ω];done)|(refine bE ?_;rw[VQ (x:=x) ω ω];done)|(refine bE ?_;refine(Ac (x:=y) ω (FX (.inl ?_))).symm;omega)|(refine bE ?_;refine(Ac (x:=y) ω (FX (.inr (.inl ?_)))).symm;omega)|(refine bE ?_;refine(Ac (x:=y) ω (WM (k:=z) ω ?_)).symm;unfold vsB;simp_all;done)|(refine bE ?_;refine(Ac (x:=y) ω (FX (.inr (.inr ?_)))).symm;simp_all;done)|(refine bE ?_;have hxx:x=ls.length:=ω;subst hxx;have hyy:y=es.length:=ω;subst hyy;rw[Zk ω hx.2 hy.2];done)|((conv=>whnf);exact⟨z+1,⟨⟨rfl,rfl,rfl,aH ω,trivial⟩,⟨rfl,rfl,trivial⟩,⟨ω,bT hz.2 (by unfold vsB;simp_all;done)⟩,(by show(es.getD y qg).pts.length-(z+1)<(es.getD y qg).pts.length-z;omega)⟩⟩)|((conv=>whnf);exact⟨y+1,⟨⟨rfl,aH ω,trivial⟩,⟨rfl,trivial⟩,⟨ω,bT hy.2 (Wv ω ω χ (by have hzz:z=(es.getD y qg).pts.length:=ω;subst hzz;exact hz.2))⟩,(by show es.length-(y+1)<es.length-y;omega)⟩⟩)|((conv=>whnf);exact⟨x+1,⟨⟨rfl,aH ω,trivial⟩,⟨rfl,trivial⟩,⟨ω,bT hx.2 ω⟩,(by show ls.length-(x+1)<ls.length-x;omega)⟩⟩)⟩
instance afo(ls:List LayD)(es:List EntR):DenI Tryz.prog 33 [.agg [(.sl 3 (ls.map aW)),.sl 7 (es.map bH)]] (True) (.bool (decide (es.length<=12) && JH ls es)):=⟨λhp=>by
 refine aC Tryz.func33 rfl ?_
 all_goals(repeat'((try(conv=>whnf));first
  |refine zaa ?_ ?_|(with_reducible first|apply zab|apply zac|refine zad (λ_=>?_) (λ_=>?_))|apply zaq))
 all_goals(try apply zar)
 all_goals(try simp only[aG,dn]at *)
 all_goals first
  |omega|(refine bE ?_;rw[decide_eq_true ω];simp;done)|(refine bE ?_;rw[decide_eq_false ω];rfl)⟩
instance afr(r:Rq):DenI Tryz.prog 48 [.agg (JI r),.int .i64 3] (True) (.bool (TP 3 (r.a,r.l,r.b,r.m))):=⟨λhp=>by
 refine aC Tryz.func48 rfl ?_
 all_goals(repeat'((try(conv=>whnf));first
  |refine zaa ?_ ?_|(with_reducible first|apply zab|apply zac|refine zad (λ_=>?_) (λ_=>?_))|apply zaq))
 all_goals(try apply zar)
 all_goals(try simp only[aG,dn]at *)
 all_goals first
  |omega|(refine bE ?_;rw[aap (k:=3) (r:=(r.a,r.l,r.b,r.m)) (by show(r.l.length:Int)>3;omega)];done)|(refine bE ?_;rw[Zo (k:=3) (r:=(r.a,r.l,r.b,r.m)) (by show(r.m.length:Int)>3;omega)];done)|(refine bE ?_;unfold TP;simp_all;done)⟩
instance Yb(ls:List LayD)(es:List EntR)(t:Rq):DenI Tryz.prog 12 [.agg [(.sl 3 (ls.map aW)),.sl 7 (es.map bH)],.agg (JI t)] (True) (.bool (smA ls es t)):=⟨λhp=>by
 refine aC Tryz.func12 rfl ?_
 all_goals(repeat'((try(conv=>whnf));first
  |apply zaf|(with_reducible first|apply zab|apply zac)|refine zat (λ_=>?_) (λ_=>?_)|apply zaq))
 all_goals first
  |(refine bE ?_;unfold smA;simp_all;done)⟩
theorem VZ{es:List EntR}(h:∀e∈es,e.pts.length<=1000){x:Nat}(hx:x<es.length):(es.getD x qg).pts.length<=1000:=h _ (by simp[List.getD,hx])
theorem Jp{l:List EntR}{x:Nat}(h:x<l.length):(l.take (x+1)).map bH=(l.take x).map bH++[bH (l.getD x qg)]:=by
 rw[NM,bG];simp[List.getD,h]
theorem RX(ls:List LayD)(es:List EntR)(h1:ls.length<=1000)(h2:es.length<=1000)(h3:∀e∈es,e.pts.length<=1000):
 Den Tryz.prog 14 [.agg [(.sl 3 (ls.map aW)),.sl 7 (es.map bH)]] (.agg [(.sl 3 (ls.map aW)),.sl 7 (es.map bH)]):=by
 refine Den.of ⟨ζ,λw X vs ho hX hl hR=>?_⟩ rfl
 haveI:WOk Tryz.prog w:=⟨ho⟩
 refine enter Tryz.func14 rfl rfl (by rw[hl];rfl) λa hF=>?_
 have hc:=args_conc (N:=29) hX hl hR hF;refine cut_ok (τ:=CO) oG aP 2 _ (QA:=λz e b=>z=.normal/\SubE [(3,.ptr 3 0),(2,.ptr 2 0),(1,.ptr 1 0)] e/\SubB [(1,.var [(.sl 3 (ls.map aW)),.sl 7 (es.map bH)]),(3,.var [(.sl 3 (ls.map aW)),.v (.slice none 0 0)]),(2,.var [.v (.slice none 0 0),.v (.slice none 0 0)])] b) ζ ?_ hc (λe b a w hq hc2=>?_) (λx e b a w hx hq hc=>absurd hq.1 hx)
 case refine_1 =>
  clear hc hF hR hl hX
  all_goals(repeat'((try(conv=>whnf));first
   |refine zaa ?_ ?_))
  all_goals(try apply zar)
  all_goals(try simp only[aG,dn]at *)
  all_goals first
   |omega|exact⟨rfl,⟨rfl,rfl,rfl,trivial⟩,⟨rfl,rfl,rfl,trivial⟩⟩
 clear hc;obtain⟨_,he,hb⟩:=hq;have hc:=hc2.sub he hb;clear he hb hc2 hF hR hl hX;replace hc:=hc.ghostF (i:=200) (j:=3) (T:=55) (s:=7) (k:=1) rfl rfl rfl rfl ψ rfl;refine awp_ok (τ:=CO) oG aP _ (QA:=endO CO _ [none] (.agg [(.sl 3 (ls.map aW)),.sl 7 (es.map bH)])) ζ ?_ hc (λx e b a w' hx hc'=>endO_ok oG hx hc');clear hc ho
 all_goals(try simp only[aG,dn]at *)
 all_goals first
  |((conv=>whnf);refine Sw.Loop.inv (α:=Nat) (λx=>[(2,.ptr 2 0),(3,.ptr 3 0),(11,.c (.sl 7 (es.map bH))),(12,.int .i64 (es.length:Nat)),(13,.int .i64 (x:Nat))]) (λx=>[(200,.grow 55 7 ((es.take x).map bH)),(3,.varo [(.sl 3 (ls.map aW)),.ob 200 ((es.take x).map bH).length]),(2,.var [.v (.slice none 0 0),.v (.slice none 0 0)])]) (λx=>x<=es.length) (λx=>es.length-x) 0 ?_ ?_ ?_ (λx hx=>?_))
 all_goals(repeat'((try(conv=>whnf));first
  |refine zaa ?_ ?_|(with_reducible refine zad (λ_=>?_) (λ_=>?_))|refine zah ?_ ?_|refine zan qg ?_ ?_|apply zaq))
 all_goals(try apply zar)
 all_goals(try simp only[aG,dn]at *)
 all_goals first
  |((with_reducible show(_:Nat)=_);rfl)|omega|(have hz:=VZ h3 (x:=x) ω;omega)|((with_reducible show(_:Nat)<=_);simp only[bD,aG,aZ,bF,lG];omega)|((with_reducible show SubE _ _);exact⟨rfl,rfl,rfl,rfl,rfl,trivial⟩)|((with_reducible show SubB _ _);exact⟨rfl,rfl,rfl,trivial⟩)|(have hm:=Jp (l:=es) (x:=x) ω;have hn:(List.take (x+1) es).length=(List.take x es).length+(0+1):=(by simp only[lG];omega);(conv=>whnf);exact⟨x+1,⟨⟨rfl,rfl,rfl,rfl,aH ω,trivial⟩,⟨(by(simp only[hm,bG,bQ,bU,bI]);(first|done|rfl)),(by(simp only[hm,hn,bG,bQ,bU,bI,bD,aG,aZ,bF]);(first|done|rfl)),rfl,trivial⟩,ω,(by show es.length-(x+1)<es.length-x;omega)⟩⟩)|((with_reducible show packA _=_);have hxx:x=es.length:=ω;subst hxx;rw[x9];rfl)
instance(priority:=900) Yr(ls:List LayD)(es:List EntR):DenI Tryz.prog 14 [.agg [(.sl 3 (ls.map aW)),.sl 7 (es.map bH)]] (ls.length<=1000/\es.length<=1000/\∀e∈es,kF e) (.agg [(.sl 3 (ls.map aW)),.sl 7 (es.map bH)]):=⟨λ⟨h1,h2,h3⟩=>RX ls es h1 h2 λe he=>aO (h3 e he).2.2.1 ψ⟩
instance(priority:=2000) adr(ls:List LayD)(es:List Ent):DenI Tryz.prog 14 [.agg [(.sl 3 (ls.map aW)),.sl 7 (es.map aN)]] (ls.length<=1000/\es.length<=1000/\∀e∈es,kF (dM e)) (.agg [(.sl 3 (ls.map aW)),.sl 7 (es.map aN)]):=⟨λ⟨h1,h2,h3⟩=>by
 have h:=(Yr ls (es.map dM)).den ⟨h1,by rw[aG];exact h2,λe he=>by obtain⟨x,hx,rfl⟩:=dW.1 he;exact h3 x hx⟩;rw[uU]at h
 exact h⟩
instance(priority:=60) ad6(ls:List LayD)(es:List EntR)(q:Rat):DenI Tryz.prog 13 [.agg [(.sl 3 (ls.map aW)),.sl 7 (es.map bH)],R q] (ls.length<=1000/\es.length<=1000/\(∀l∈ls,l.name.size<=1000)/\(∀e∈es,kF e)/\(dS ls es≠0\/q<0)/\rz q<=12) (.tup [.agg [.sl 3 [],.sl 7 []],.c (.sl 0 []),.int .i64 (if dS ls es≠0 then dS ls es else 1)]):=⟨λhp=>by
 obtain⟨h1,h2,h3,h4,h5,h6⟩:=hp
 all_goals refine aC Tryz.func13 rfl ?_
 all_goals(repeat'((try(conv=>whnf));first
  |apply zaf|refine zaa ?_ ?_|(with_reducible first|refine zad (λ_=>?_) (λ_=>?_)|refine zae (λ_=>?_) (λ_=>?_))|apply zaq))
 all_goals(try apply zar)
 all_goals(try simp only[aV]at *)
 all_goals first
  |exact⟨h1,h2,h3,h4⟩|(rename ¬dS ls es=0=>h;rw[if_pos h];rfl)|(rename dS ls es=0=>h;rw[if_neg (λg=>g h)];rfl)|(exfalso;rename ¬q<0=>h;exact h5.elim (λg=>g ξ) h)⟩
instance(priority:=60) adS(ls:List LayD)(es:List EntR)(q:Rat):DenI Tryz.prog 19 [.agg [(.sl 3 (ls.map aW)),.sl 7 (es.map bH)],R q] (ls.length<=1000/\es.length<=1000/\(∀l∈ls,l.name.size<=1000)/\(∀e∈es,kF e)/\(dS ls es≠0\/q<0)/\rz q<=12) (.bool false):=⟨λhp=>by
 refine aC Tryz.func19 rfl ?_
 all_goals(repeat'((try(conv=>whnf));first
  |refine zaa ?_ ?_|(with_reducible first|apply zab|apply zac|refine zad (λ_=>?_) (λ_=>?_))|apply zaq))
 all_goals(try apply zar)
 all_goals(try simp only[aG,dn]at *)
 all_goals first
  |exact hp|rfl|omega⟩
instance Vm(ls:List LayD)(es:List EntR)(q:Rat):DenI Tryz.prog 12 [.agg [(.sl 3 (ls.map aW)),.sl 7 (es.map bH)],R q] True (.bool (smA ls es (jD q))):=⟨λ_=>(Yb ls es (jD q)).den trivial⟩
instance(priority:=2000) ab9(ls:List LayD)(es:List Ent)(q:Rat):DenI Tryz.prog 12 [.agg [(.sl 3 (ls.map aW)),.sl 7 (es.map aN)],R q] True (.bool (smA ls (es.map dM) (jD q))):=⟨λ_=>by
 have h:=(Vm ls (es.map dM) q).den trivial;rw[uU]at h
 exact h⟩
theorem Qg{cs:List Chn}(h:∀j<cs.length,(cs.getD j C0).kind=4):yh cs=true:=by
 unfold yh;rw[jl];intro c hc;obtain⟨j,hj,rfl⟩:=Ew hc;have:=h j hj;simpa[iC,hj]using this
theorem U5{cs:List Chn}{x:Nat}(hx:x<cs.length)(h:(cs.getD x C0).kind≠4):yh cs=false:=by
 unfold yh;rw[List.all_eq_false];exact⟨cs.getD x C0,by simp[iC,hx],by simpa using h⟩
set_option maxHeartbeats 16000000 in
theorem QI(ls:List LayD)(es:List Ent)(tol:Rat)(h1:ls.length<=1000)(h2:(∀l∈ls,l.name.size<=1000))(h3:es.length<=12)(h4:∀e∈es,okV e)(h5:∀e∈es,kF (dM e))(h6:rz tol<=12)(h7:¬tol<0)(h8:dS ls (es.map dM)=0):Den Tryz.prog 15 [.agg [(.sl 3 (ls.map aW)),.sl 7 (es.map aN)],R tol] (.tup [.agg [(.sl 3 (ls.map aW)),.sl 7 ((aU (tol*tol) es).es.map aN)],.c (.sl 19 ((aU (tol*tol) es).cs.map kM)),.int .i64 0]):=by
 refine Den.of ⟨ζ,λw X vs ho hX hl hR=>?_⟩ rfl
 haveI:WOk Tryz.prog w:=⟨ho⟩
 refine enter Tryz.func15 rfl rfl (by rw[hl];rfl) λa hF=>?_
 have hc:=args_conc (N:=234) hX hl hR hF;refine cut_ok (τ:=yE) rE aP 7 _ ζ (yr1 ls es tol h1 h2 h3 h4 h5 h6 h7 h8) hc (λe b a w hq hc2=>?_) (λx e b a w hx hq hc=>absurd hq.1 hx);replace hc2:=hc2.sub hq.2.1 hq.2.2;refine cut_ok (τ:=yE) rE aP 3 _ ζ (yr2 ls es tol h1 h2 h3 h4 h5 h6 h7 h8) hc2 (λe b a w hq hc2=>?_) (λx e b a w hx hq hc=>absurd hq.1 hx);replace hc2:=hc2.sub hq.2.1 hq.2.2;refine cut_ok (τ:=yE) rE aP 4 _ ζ (yr3 ls es tol h1 h2 h3 h4 h5 h6 h7 h8) hc2 (λe b a w hq hc2=>?_) (λx e b a w hx hq hc=>absurd hq.1 hx);replace hc2:=hc2.sub hq.2.1 hq.2.2;exact awp_ok (τ:=yE) rE aP _ ζ (yr4 ls es tol h1 h2 h3 h4 h5 h6 h7 h8) hc2 (λx e b a w' hx hc'=>endO_ok rE hx hc')
instance V8(ls:List LayD)(es:List Ent)(tol:Rat):DenI Tryz.prog 15 [.agg [(.sl 3 (ls.map aW)),.sl 7 (es.map aN)],R tol] (ls.length<=1000/\(∀l∈ls,l.name.size<=1000)/\es.length<=12/\(∀e∈es,okV e)/\(∀e∈es,kF (dM e))/\rz tol<=12/\¬tol<0/\dS ls (es.map dM)=0) (.tup [.agg [(.sl 3 (ls.map aW)),.sl 7 ((aU (tol*tol) es).es.map aN)],.c (.sl 19 ((aU (tol*tol) es).cs.map kM)),.int .i64 0]):=⟨λ⟨h1,h2,h3,h4,h5,h6,h7,h8⟩=>QI ls es tol h1 h2 h3 h4 h5 h6 h7 h8⟩
instance(priority:=60) VD(ls:List LayD)(es:List EntR)(q:Rat):DenI Tryz.prog 15 [.agg [(.sl 3 (ls.map aW)),.sl 7 (es.map bH)],R q] (ls.length<=1000/\es.length<=1000/\(∀l∈ls,l.name.size<=1000)/\(∀e∈es,kF e)/\(dS ls es≠0\/q<0)/\rz q<=12) (.tup [.agg [.sl 3 [],.sl 7 []],.c (.sl 0 []),.int .i64 (if dS ls es≠0 then dS ls es else 1)]):=⟨λhp=>by
 obtain⟨h1,h2,h3,h4,h5,h6⟩:=hp
 all_goals refine aC Tryz.func15 rfl ?_
 all_goals(repeat'((try(conv=>whnf));first
  |apply zaf|refine zaa ?_ ?_|(with_reducible first|refine zad (λ_=>?_) (λ_=>?_)|refine zae (λ_=>?_) (λ_=>?_))|apply zaq))
 all_goals(try apply zar)
 all_goals(try simp only[aV]at *)
 all_goals first
  |exact⟨h1,h2,h3,h4⟩|(rename ¬dS ls es=0=>h;rw[if_pos h];rfl)|(rename dS ls es=0=>h;rw[if_neg (λg=>g h)];rfl)|(exfalso;rename ¬q<0=>h;exact h5.elim (λg=>g ξ) h)⟩
instance(priority:=60) acY(ls:List LayD)(es:List EntR)(q:Rat):DenI Tryz.prog 28 [.agg [(.sl 3 (ls.map aW)),.sl 7 (es.map bH)],R q] (ls.length<=1000/\es.length<=1000/\(∀l∈ls,l.name.size<=1000)/\(∀e∈es,kF e)/\(dS ls es≠0\/q<0)/\rz q<=12) (.bool false):=⟨λhp=>by
 have hv:=Xd ls es;generalize hcd:(if dS ls es≠0 then dS ls es else 1)=cd at hv
 haveI i1:DenI Tryz.prog 15 [.agg [(.sl 3 (ls.map aW)),.sl 7 (es.map bH)],R q] True (.tup [.agg [.sl 3 [],.sl 7 []],.c (.sl 0 []),.int .i64 cd]):=⟨λ_=>by have h:=(VD ls es q).den hp;rwa [hcd]at h⟩
 all_goals refine aC Tryz.func28 rfl ?_
 all_goals(repeat'((try(conv=>whnf));first
  |apply zaf))
 all_goals first
  |((conv=>whnf);refine Sw.Loop.unroll ?_)
 all_goals(repeat'((try rw[Fh]);(try rw[BN]);(try(conv=>whnf));first
  |refine eP (by simp only[aZ,bF];decide) ?_|apply zaq))
 all_goals first
  |(refine bE ?_;simp;omega)⟩
instance ab5(ls:List LayD)(es:List Ent)(tol:Rat):DenI Tryz.prog 28 [.agg [(.sl 3 (ls.map aW)),.sl 7 (es.map aN)],R tol] (ls.length<=1000/\(∀l∈ls,l.name.size<=1000)/\es.length<=12/\(∀e∈es,okV e)/\(∀e∈es,kF (dM e))/\rz tol<=12/\¬tol<0/\dS ls (es.map dM)=0) (.bool (yh (aU (tol*tol) es).cs)):=⟨λhp=>by
 have hlen:(aU (tol*tol) es).cs.length<=1000:=Ib hp.2.2.1 hp.2.2.2.1;have kp:=(V8 ls es tol).den hp;generalize(aU (tol*tol) es).es=E1 at *;generalize(aU (tol*tol) es).cs=C1 at *
 haveI i1:DenI Tryz.prog 15 [.agg [(.sl 3 (ls.map aW)),.sl 7 (es.map aN)],R tol] True (.tup [.agg [(.sl 3 (ls.map aW)),.sl 7 (E1.map aN)],.c (.sl 19 (C1.map kM)),.int .i64 0]):=⟨λ_=>kp⟩
 all_goals refine aC Tryz.func28 rfl ?_
 all_goals(repeat'((try(conv=>whnf));first
  |apply zaf))
 all_goals(try simp only[aG,dn]at *)
 all_goals first
  |((conv=>whnf);refine Sw.Loop.inv (α:=Nat) (λx=>[(6,.c (.sl 19 (C1.map kM))),(7,.int .i64 0),(8,.int .i64 (x:Nat))]) (λx=>[]) (λx=>x<=C1.length/\∀j<x,(C1.getD j C0).kind=4) (λx=>C1.length-x) 0 ?_ ?_ ?_ (λx hx=>?_))
 all_goals(repeat'((try(conv=>whnf));first
  |(with_reducible first|refine zad (λ_=>?_) (λ_=>?_)|refine zae (λ_=>?_) (λ_=>?_))|refine zan C0 ?_ ?_|apply zaq))
 all_goals(try apply zar)
 all_goals(try simp only[aG,dn]at *)
 all_goals first
  |trivial|omega|exact⟨jm _,λj hj=>absurd hj (yQ _)⟩|((conv=>whnf);exact⟨x+1,⟨⟨rfl,rfl,aH ω,trivial⟩,trivial,⟨ω,bT hx.2 (by simp at *;omega)⟩,(by show C1.length-(x+1)<C1.length-x;omega)⟩⟩)|(refine bE ?_;have hxx:x=C1.length:=ω;subst hxx;rw[Qg hx.2];rfl)|(refine bE ?_;rw[U5 (x:=x) ω (by simp at *;omega)])⟩
end Go.Proofs.YtmniihkenijjpaaGreatDoor
