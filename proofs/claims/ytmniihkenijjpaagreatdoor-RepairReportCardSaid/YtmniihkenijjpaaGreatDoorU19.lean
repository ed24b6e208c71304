/-
  Rules of the abstract run, plain laws, and what functions answer, for the law RepairReport.
  Conditions: none.
-/
import Derived.Test.YtmniihkenijjpaaGreatDoorU18
import Derived.Shelf.LaysM
import Derived.Shelf.Strconv.Itoa1
import Derived.Shelf.Strconv.Itoa2
import Derived.Lib.Walk
import Derived.Lib.ItoaMem
import Derived.Lib.ItoaLen
import Derived.Lib.AppendIntMem
import Derived.WalkKit
import Derived.BigCall
import Derived.BigGuard
import Derived.Shelf.SlicesE.Clone
set_option linter.all false
namespace Go.Proofs.YtmniihkenijjpaaGreatDoor
open Go Go.RowKit Go.Sw Go.Shelf
set_option maxRecDepth 100000
set_option maxHeartbeats 16000000
set_option synthInstance.maxSize 4000
set_option synthInstance.maxHeartbeats 400000
theorem ET{α β:Type}{f:α->β}{d:α}{l:List α}{x:Nat}(h:x<l.length):(l.take (x+1)).map f=(l.take x).map f++[f (l.getD x d)]:=by
 rw[J6,fM h,bH];simp[iI,h]
instance afF(p:Rq × Rq):DenI Tryz.prog 56 [.agg (iY p),.agg (iY p)] (True) (.bool true):=⟨λhp=>by
 refine aC Tryz.func56 rfl ?_
 all_goals(repeat'((try(conv=>whnf));first
  |apply zaf|apply zaq))
 all_goals first
  |rfl⟩
instance YM(l:List ChR):DenI Tryz.prog 17 [.c (.sl 19 (l.map uP)),.c (.sl 19 (l.map uP))] (l.length<=1000) (.bool true):=⟨λhp=>by
 refine aC Tryz.func17 rfl ?_
 all_goals(repeat'((try(conv=>whnf));first
  |(with_reducible refine zae (λ_=>?_) (λ_=>?_))|apply zaq))
 all_goals(try simp only[aG,dh]at *)
 all_goals first
  |((conv=>whnf);refine Sw.Loop.inv (α:=Nat) (λx=>[(0,.c (.sl 19 (l.map uP))),(1,.c (.sl 19 (l.map uP))),(5,.int .i64 (x:Nat))]) (λx=>[]) (λx=>x<=l.length/\True) (λx=>l.length-x) 0 ?_ ?_ ?_ (λx hx=>?_))|skip
 all_goals(repeat'((try(conv=>whnf));first
  |apply zaf|(with_reducible first|apply zab|apply zac|refine zad (λ_=>?_) (λ_=>?_)|refine zae (λ_=>?_) (λ_=>?_))|refine zat (λ_=>?_) (λ_=>?_)|refine zas ζ ?_|refine zan ch0 ?_ ?_|apply zaq))
 all_goals(try apply zar)
 all_goals(try simp only[aG,dh]at *)
 all_goals first
  |omega|trivial|exact⟨jd _,trivial⟩|((conv=>whnf);exact⟨x+1,⟨⟨rfl,rfl,aH ω,trivial⟩,trivial,⟨ω,trivial⟩,(by show l.length-(x+1)<l.length-x;omega)⟩⟩)⟩
instance Q9(l:List ChR):DenI Tryz.prog 18 [.c (.sl 19 (l.map uP))] (l.length<=1000) (.c (.sl 19 (l.map uP))):=⟨λh1=>by
 refine aC Tryz.func18 rfl ?_
 (conv=>whnf)
 refine Sw.Loop.ghost 3 100 96 19 ?_ rfl rfl rfl ψ;refine Sw.Loop.inv (α:=Nat) (λx=>[(3,.gs 100 ((l.take x).map uP).length),(6,.c (.sl 19 (l.map uP))),(7,.int .i64 (l.length:Nat)),(8,.int .i64 (x:Nat))]) (λx=>[(100,.grow 96 19 ((l.take x).map uP))]) (λx=>x<=l.length) (λx=>l.length-x) 0 ?_ ?_ ?_ (λx hx=>?_)
 .exact⟨rfl,rfl,(by show some (AV.int .i64 _)=some (AV.int .i64 _);simp only[aG]),rfl,trivial⟩
 .exact⟨rfl,trivial⟩
 .exact jd _
 all_goals(repeat'((try(conv=>whnf));first
  |(with_reducible refine zad (λ_=>?_) (λ_=>?_))|refine zah ?_ ?_|refine zan ch0 ?_ ?_|apply zaq))
 all_goals(try apply zar)
 all_goals(try simp only[aG,dh]at *)
 all_goals(try(have hrl:(l.take x).length<=x:=by rw[kM];omega))
 all_goals first
  |omega|((with_reducible show(_:Nat)<=_);simp only[bF,aG,bn,bG,kM];omega)|((with_reducible show packA _=_);have hxx:x=l.length:=ω;subst hxx;rw[xY];rfl)|(have hm:=ET (f:=uP) (d:=ch0) (l:=l) (x:=x) ω;have hn:(List.take (x+1) l).length=(List.take x l).length+(0+1):=(by simp only[kM];omega);(conv=>whnf);exact⟨x+1,⟨⟨(by(simp only[hm,hn,bH,bK,bV,bI,bF,aG,bn,bG]);(first|done|rfl)),rfl,rfl,aH ω,trivial⟩,⟨(by(simp only[hm,bH,bK,bV,bI]);(first|done|rfl)),trivial⟩,ω,(by show l.length-(x+1)<l.length-x;omega)⟩⟩)⟩
def yI:Tab:=(3000000000+55,.flag)::CP
theorem qG:tabOk Tryz.prog yI=true:=ζ
theorem lY{n:Nat}(h:¬((n:Nat):Int)=0):n≠0:=ω
theorem vM{n:Nat}(h:((n:Nat):Int)=0):n=0:=ω
theorem YX{tol:Rat}{es:List Ent}(h4:∀e∈es,okV e){i:Nat}(h:i<(jL tol es).length):okV ((jL tol es).getD i N0).1:=N9 (tol:=tol) h4 _ (by simp[iI,h])
theorem adQ{a b:P2}(h:(!(decide (a.1=b.1)&&decide (a.2=b.2)))=true):a≠b:=by
 rintro rfl;simp at h
theorem ade{a b:P2}(h:(!(decide (a.1=b.1)&&decide (a.2=b.2)))=false):a=b:=by
 simp at h;exact Prod.ext h.1 h.2
theorem abO(tol:Rat)(es:List Ent)(x n:Nat)(hp:n<(aA (es.getD x E0)).length)(h6:rz tol<=12)(k1:Ju aF (yS (tol*tol) es x n))(k3:(yS (tol*tol) es x n).length<=1000000)(k6:aF (yV es x n))(hq:yN (tol*tol) es x n=none):Den Tryz.prog 55 [.own 95 9 ((yS (tol*tol) es x n).map pK),.c (.v (.string (es.getD x E0).layer)),.agg (vecC ((yL (tol*tol) es x n).getD n P0)),R tol] (.tup [.own 95 9 ((yS (tol*tol) es x n).map pK),.tup [.agg PD,.bool false]]):=by
 have h:=KZ (yS (tol*tol) es x n) (es.getD x E0).layer (yV es x n) tol k3 k6 h6 k1;rw[<-mP (sq:=tol*tol) hp]at h;have e:nearG (tol*tol) ((yL (tol*tol) es x n).getD n P0) (spotsAt (yS (tol*tol) es x n) (es.getD x E0).layer)=none:=(by rw[mP hp];exact hq)
 rw[e]at h;exact den_lift sN Dx (λ_ h=>h.1) h
theorem YO(tol:Rat)(es:List Ent)(x n:Nat)(hp:n<(aA (es.getD x E0)).length)(h6:rz tol<=12)(k1:Ju aF (yS (tol*tol) es x n))(k3:(yS (tol*tol) es x n).length<=1000000)(k6:aF (yV es x n))(hq:yN (tol*tol) es x n=none):Den Tryz.prog 55 [.c (.sl 9 ((yS (tol*tol) es x n).map pK)),.c (.v (.string (es.getD x E0).layer)),.agg (vecC ((yL (tol*tol) es x n).getD n P0)),R tol] (.tup [.agg PD,.bool false]):=by
 have h:=(nY (h:=FT (yS (tol*tol) es x n) (es.getD x E0).layer (yV es x n) tol)).den ⟨k3,k6,h6,k1⟩;rw[<-mP (sq:=tol*tol) hp]at h;have e:nearG (tol*tol) ((yL (tol*tol) es x n).getD n P0) (spotsAt (yS (tol*tol) es x n) (es.getD x E0).layer)=none:=(by rw[mP hp];exact hq)
 rw[e]at h;exact h
theorem abY(tol:Rat)(es:List Ent)(x n:Nat)(u:P2)(hp:n<(aA (es.getD x E0)).length)(h6:rz tol<=12)(k1:Ju aF (yS (tol*tol) es x n))(k3:(yS (tol*tol) es x n).length<=1000000)(k6:aF (yV es x n))(hq:yN (tol*tol) es x n=some u):Den Tryz.prog 55 [.own 95 9 ((yS (tol*tol) es x n).map pK),.c (.v (.string (es.getD x E0).layer)),.agg (vecC ((yL (tol*tol) es x n).getD n P0)),R tol] (.tup [.own 95 9 ((yS (tol*tol) es x n).map pK),.tup [.agg (vecC u),.bool true]]):=by
 have h:=KZ (yS (tol*tol) es x n) (es.getD x E0).layer (yV es x n) tol k3 k6 h6 k1;rw[<-mP (sq:=tol*tol) hp]at h;have e:nearG (tol*tol) ((yL (tol*tol) es x n).getD n P0) (spotsAt (yS (tol*tol) es x n) (es.getD x E0).layer)=some u:=(by rw[mP hp];exact hq)
 rw[e]at h;exact den_lift sN Dx (λ_ h=>h.1) h
theorem aaP(tol:Rat)(es:List Ent)(x n:Nat)(u:P2)(hp:n<(aA (es.getD x E0)).length)(h6:rz tol<=12)(k1:Ju aF (yS (tol*tol) es x n))(k3:(yS (tol*tol) es x n).length<=1000000)(k6:aF (yV es x n))(hq:yN (tol*tol) es x n=some u):Den Tryz.prog 55 [.c (.sl 9 ((yS (tol*tol) es x n).map pK)),.c (.v (.string (es.getD x E0).layer)),.agg (vecC ((yL (tol*tol) es x n).getD n P0)),R tol] (.tup [.agg (vecC u),.bool true]):=by
 have h:=(nY (h:=FT (yS (tol*tol) es x n) (es.getD x E0).layer (yV es x n) tol)).den ⟨k3,k6,h6,k1⟩;rw[<-mP (sq:=tol*tol) hp]at h;have e:nearG (tol*tol) ((yL (tol*tol) es x n).getD n P0) (spotsAt (yS (tol*tol) es x n) (es.getD x E0).layer)=some u:=(by rw[mP hp];exact hq)
 rw[e]at h;exact h
theorem yr1(ls:List LayD)(es:List Ent)(tol:Rat)(h1:ls.length<=1000)(h2:(∀l∈ls,l.name.size<=1000))(h3:es.length<=12)(h4:∀e∈es,okV e)(h5:∀e∈es,kE (bW e))(h6:rz tol<=12)(h7:¬tol<0)(h8:dZ ls (es.map bW)=0):awp (Den Tryz.prog) yI (cutC 7 (Tryz.f15.body.getD .skip)) (λz e b=>z=.normal/\SubE [(2,.ptr 2 0),(4,.ptr 4 0),(8,.gs 1001 (jA (tol*tol) es es.length).cs.length),(10,.gs 1003 (jA (tol*tol) es es.length).es.length)] e/\SubB [(2,.var [(.sl 3 (ls.map aV)),.sl 7 (es.map aK)]),(4,.var [.v (.slice none 0 0),.v (.slice none 0 0)]),(1001,.grow 96 19 ((jA (tol*tol) es es.length).cs.map jF)),(1003,.grow 55 7 ((jA (tol*tol) es es.length).es.map aK))] b) (argE 0 [.agg [(.sl 3 (ls.map aV)),.sl 7 (es.map aK)],R tol]) []:=by
 haveI i_v:DenI Tryz.prog 22 [.agg [(.sl 3 (ls.map aV)),.sl 7 (es.map aK)]] (ls.length<=1000/\es.length<=1000/\(∀l∈ls,l.name.size<=1000)/\∀e∈es,kE (bW e)) (.int .i64 0):=⟨λhp=>by have:=(Qz ls es).den hp;rwa [h8]at this⟩
 have i_t:RzB tol 12:=⟨h6⟩
 (conv=>whnf)
 all_goals(repeat'((try(conv=>whnf));first
  |apply zaf|refine zaa ?_ ?_|(with_reducible refine zad (λ_=>?_) (λ_=>?_))|(with_reducible refine zae (λ_=>?_) (λ_=>?_))))
 all_goals(try apply zar)
 all_goals(try simp only[aG,dh]at *)
 all_goals first
  |((conv=>whnf);refine Sw.Loop.ghost 8 1001 96 19 ?_ rfl rfl rfl ψ;refine Sw.Loop.ghost 9 1002 95 9 ?_ rfl rfl rfl ψ;refine Sw.Loop.ghost 10 1003 55 7 ?_ rfl rfl rfl ψ;refine Sw.Loop.inv (α:=Nat) (λx=>[(2,.ptr 2 0),(3,.ptr 3 0),(4,.ptr 4 0),(8,.gs 1001 (jA (tol*tol) es x).cs.length),(9,.gs 1002 (jA (tol*tol) es x).sp.length),(10,.gs 1003 (jA (tol*tol) es x).es.length),(11,.int .i64 (x:Nat))]) (λx=>[(2,.var [(.sl 3 (ls.map aV)),.sl 7 (es.map aK)]),(3,.var (ratC tol)),(4,.var [.v (.slice none 0 0),.v (.slice none 0 0)]),(1001,.grow 96 19 ((jA (tol*tol) es x).cs.map jF)),(1002,.grow 95 9 ((jA (tol*tol) es x).sp.map pK)),(1003,.grow 55 7 ((jA (tol*tol) es x).es.map aK))]) (λx=>x<=es.length) (λx=>es.length-x) 0 ?_ ?_ ?_ (λx hx=>?_);exact⟨rfl,rfl,rfl,rfl,rfl,rfl,rfl,trivial⟩;exact⟨rfl,rfl,rfl,rfl,rfl,rfl,trivial⟩;exact jd _;haveI ie:DenI Tryz.prog 26 [.agg (aK (es.getD (Int.toNat ((x:Nat):Int)) E0))] ((es.getD x E0).pts.length<=1000000) (.tup [.own 45 8 ((aA (es.getD x E0)).map vecC),.bool (decide ((aA (es.getD x E0))≠[]))]):=⟨λhp=>(nY (h:=O1 (es.getD x E0))).den hp⟩)|skip
 all_goals(repeat'((try(conv=>whnf));first
  |refine zaa ?_ ?_|(with_reducible refine zad (λ_=>?_) (λ_=>?_))|refine zan E0 ?_ ?_))
 all_goals(try apply zar)
 all_goals(try simp only[aG,dh]at *)
 all_goals first
  |((conv=>whnf);refine Sw.Loop.inv (α:=Nat) (λn=>[(2,.ptr 2 0),(3,.ptr 3 0),(4,.ptr 4 0),(8,.gs 1001 (yC (tol*tol) es x n).length),(9,.gs 1002 (yS (tol*tol) es x n).length),(10,.gs 1003 (jA (tol*tol) es x).es.length),(11,.int .i64 (x:Nat)),(12,.ptr 12 0),(13,.gs 1000055 (yL (tol*tol) es x n).length),(15,.int .i64 (n:Nat))]) (λn=>[(2,.var [(.sl 3 (ls.map aV)),.sl 7 (es.map aK)]),(3,.var (ratC tol)),(4,.var [.v (.slice none 0 0),.v (.slice none 0 0)]),(1001,.grow 96 19 ((yC (tol*tol) es x n).map jF)),(1002,.grow 95 9 ((yS (tol*tol) es x n).map pK)),(1003,.grow 55 7 ((jA (tol*tol) es x).es.map aK)),(12,.var (aK (es.getD x E0))),(1000055,.grow 45 8 ((yL (tol*tol) es x n).map vecC))]) (λn=>n<=(aA (es.getD x E0)).length) (λn=>(aA (es.getD x E0)).length-n) 0 ?_ ?_ ?_ (λn hn=>?_);exact⟨rfl,rfl,rfl,(by rw[YN];rfl),(by rw[YE];rfl),rfl,rfl,rfl,(by rw[YC];first|rfl|(simp only[aG];rfl)),rfl,trivial⟩;exact⟨rfl,rfl,rfl,(by rw[YN];rfl),(by rw[YE];rfl),rfl,rfl,(by rw[YC];rfl),trivial⟩;exact jd _;obtain⟨k1,k2,k3,k4,k5,k6⟩:=abV (sq:=tol*tol) h4 (x:=x) (n:=n) ω hn;have k7:=Vl (sq:=tol*tol) hn;have k8:=nI (es.getD x E0);rcases hq:(yN (tol*tol) es x n)with _|u)|skip
 all_goals first
  |(haveI im1:DenI Tryz.prog 55 [.own 95 9 ((yS (tol*tol) es x n).map pK),.c (.v (.string (es.getD x E0).layer)),.agg (vecC ((yL (tol*tol) es x n).getD (Int.toNat ((Int.toNat ((n:Nat):Int):Nat):Int)) P0)),R tol] (n<(aA (es.getD x E0)).length) (.tup [.own 95 9 ((yS (tol*tol) es x n).map pK),.tup [.agg PD,.bool false]]):=⟨λhp=>abO tol es x n hp h6 k1 ω k6 hq⟩;haveI im2:DenI Tryz.prog 55 [.c (.sl 9 ((yS (tol*tol) es x n).map pK)),.c (.v (.string (es.getD x E0).layer)),.agg (vecC ((yL (tol*tol) es x n).getD (Int.toNat ((Int.toNat ((n:Nat):Int):Nat):Int)) P0)),R tol] (n<(aA (es.getD x E0)).length) (.tup [.agg PD,.bool false]):=⟨λhp=>YO tol es x n hp h6 k1 ω k6 hq⟩)|(haveI im1:DenI Tryz.prog 55 [.own 95 9 ((yS (tol*tol) es x n).map pK),.c (.v (.string (es.getD x E0).layer)),.agg (vecC ((yL (tol*tol) es x n).getD (Int.toNat ((Int.toNat ((n:Nat):Int):Nat):Int)) P0)),R tol] (n<(aA (es.getD x E0)).length) (.tup [.own 95 9 ((yS (tol*tol) es x n).map pK),.tup [.agg (vecC u),.bool true]]):=⟨λhp=>abY tol es x n u hp h6 k1 ω k6 hq⟩;haveI im2:DenI Tryz.prog 55 [.c (.sl 9 ((yS (tol*tol) es x n).map pK)),.c (.v (.string (es.getD x E0).layer)),.agg (vecC ((yL (tol*tol) es x n).getD (Int.toNat ((Int.toNat ((n:Nat):Int):Nat):Int)) P0)),R tol] (n<(aA (es.getD x E0)).length) (.tup [.agg (vecC u),.bool true]):=⟨λhp=>aaP tol es x n u hp h6 k1 ω k6 hq⟩;have k9:=VA k1 k6 hq)|skip
 all_goals(repeat'((try(conv=>whnf));first
  |refine zau (λ_=>?_) (λ_=>?_)|refine zaa ?_ ?_|(with_reducible refine zad (λ_=>?_) (λ_=>?_))|refine zat (λ_=>?_) (λ_=>?_)|refine zah ?_ ?_|refine zas ζ ?_|refine zan P0 ?_ ?_))
 all_goals(try apply zar)
 all_goals(try simp only[aG,dh]at *)
 all_goals first
  |omega|((with_reducible show(_:Nat)<=_);exact aP (nM h4 (x:=x) ω).2.2.2 ψ)|exact⟨h1,ω,h2,h5⟩|exact zay|(exfalso;rename aN tol<0=>q;exact h7 (xQ.1 q))|((with_reducible show(_:Nat)=_);first|rfl|(simp only[bF,aG,bn,bG];done)|((try simp only[bF,aG,bn,bG]at *);omega))|exact za9|exact⟨aP (nM h4 (x:=x) ω).2.2.2 ψ,k7⟩|(exfalso;rename (!false)=false=>q;cases q)|(exfalso;rename (!true)=true=>q;cases q)|((with_reducible show _/\_);have hlt:n<(aA (es.getD x E0)).length:=ω;have hv:=mP (sq:=tol*tol) hlt;exact⟨aP k9.1 ψ,aP k9.2 ψ,by rw[hv];exact aP k6.1 ψ,by rw[hv];exact aP k6.2 ψ⟩)|(have hlt:n<(aA (es.getD x E0)).length:=ω;have hv:=mP (sq:=tol*tol) hlt;obtain⟨e1,e2,e3⟩:=Ro (sq:=tol*tol) hlt hq;(conv=>whnf);exact⟨n+1,⟨⟨rfl,rfl,rfl,(by(simp only[e1,e2,e3,hv,bH,bK,bV,bI,bF,aG,bn,bG,kF]);(first|done|rfl)),(by(simp only[e1,e2,e3,hv,bH,bK,bV,bI,bF,aG,bn,bG,kF]);(first|done|rfl)),rfl,rfl,rfl,(by(simp only[e1,e2,e3,hv,bH,bK,bV,bI,bF,aG,bn,bG,kF]);(first|done|rfl)),aH ω,trivial⟩,⟨rfl,rfl,rfl,(by(simp only[e1,e2,e3,hv,bH,bK,bV,bI,bF,aG,bn,bG,kF]);(first|done|rfl)),(by(simp only[e1,e2,e3,hv,bH,bK,bV,bI,bF,aG,bn,bG,kF]);(first|done|rfl)),rfl,rfl,(by(simp only[e1,e2,e3,hv,bH,bK,bV,bI,bF,aG,bn,bG,kF]);(first|done|rfl)),trivial⟩,ω,(by show(aA (es.getD x E0)).length-(n+1)<(aA (es.getD x E0)).length-n;omega)⟩⟩)|(have hlt:n<(aA (es.getD x E0)).length:=ω;have hv:=mP (sq:=tol*tol) hlt;have hu:=adQ ξ;rw[hv]at hu;obtain⟨e1,e2,e3⟩:=YP (sq:=tol*tol) hlt hq (λe=>hu e.symm);(conv=>whnf);exact⟨n+1,⟨⟨rfl,rfl,rfl,(by(simp only[e1,e2,e3,hv,List.map_set,bH,bK,bV,bI,bF,aG,bn,bG,kF]);(first|done|rfl)),(by(simp only[e1,e2,e3,hv,List.map_set,bH,bK,bV,bI,bF,aG,bn,bG,kF]);(first|done|rfl)),rfl,rfl,rfl,(by(simp only[e1,e2,e3,hv,List.map_set,bH,bK,bV,bI,bF,aG,bn,bG,kF]);(first|done|rfl)),aH ω,trivial⟩,⟨rfl,rfl,rfl,(by(simp only[e1,e2,e3,hv,List.map_set,bH,bK,bV,bI,bF,aG,bn,bG,kF]);(first|done|rfl)),(by(simp only[e1,e2,e3,hv,List.map_set,bH,bK,bV,bI,bF,aG,bn,bG,kF]);(first|done|rfl)),rfl,rfl,(by(simp only[e1,e2,e3,hv,List.map_set,bH,bK,bV,bI,bF,aG,bn,bG,kF]);(first|done|rfl)),trivial⟩,ω,(by show(aA (es.getD x E0)).length-(n+1)<(aA (es.getD x E0)).length-n;omega)⟩⟩)|(have hlt:n<(aA (es.getD x E0)).length:=ω;have hv:=mP (sq:=tol*tol) hlt;have hu:=ade ξ;rw[hv]at hu;rw[hu]at hq;obtain⟨e1,e2,e3⟩:=Zl (sq:=tol*tol) hlt hq;(conv=>whnf);exact⟨n+1,⟨⟨rfl,rfl,rfl,(by(simp only[e1,e2,e3,hv,bH,bK,bV,bI,bF,aG,bn,bG,kF]);(first|done|rfl)),(by(simp only[e1,e2,e3,hv,bH,bK,bV,bI,bF,aG,bn,bG,kF]);(first|done|rfl)),rfl,rfl,rfl,(by(simp only[e1,e2,e3,hv,bH,bK,bV,bI,bF,aG,bn,bG,kF]);(first|done|rfl)),aH ω,trivial⟩,⟨rfl,rfl,rfl,(by(simp only[e1,e2,e3,hv,bH,bK,bV,bI,bF,aG,bn,bG,kF]);(first|done|rfl)),(by(simp only[e1,e2,e3,hv,bH,bK,bV,bI,bF,aG,bn,bG,kF]);(first|done|rfl)),rfl,rfl,(by(simp only[e1,e2,e3,hv,bH,bK,bV,bI,bF,aG,bn,bG,kF]);(first|done|rfl)),trivial⟩,ω,(by show(aA (es.getD x E0)).length-(n+1)<(aA (es.getD x E0)).length-n;omega)⟩⟩)|((conv=>whnf);have hxx:x=es.length:=ω;subst hxx;exact⟨rfl,⟨rfl,rfl,rfl,rfl,trivial⟩,⟨rfl,rfl,rfl,rfl,trivial⟩⟩)|(have e9:=Vs (sq:=tol*tol) (es:=es) (x:=x) (n:=n) ω ω;(conv=>whnf);exact⟨x+1,⟨⟨rfl,rfl,rfl,(by(simp only[e9,bH,bK,bV,bI,bF,aG,bn,bG,kF]);(first|done|rfl)),(by(simp only[e9,bH,bK,bV,bI,bF,aG,bn,bG,kF]);(first|done|rfl)),(by(simp only[e9,bH,bK,bV,bI,bF,aG,bn,bG,kF]);(first|done|rfl)),aH ω,trivial⟩,⟨rfl,rfl,rfl,(by(simp only[e9,bH,bK,bV,bI,bF,aG,bn,bG,kF]);(first|done|rfl)),(by(simp only[e9,bH,bK,bV,bI,bF,aG,bn,bG,kF]);(first|done|rfl)),(by(simp only[e9,bH,bK,bV,bI,bF,aG,bn,bG,kF]);(first|done|rfl)),trivial⟩,ω,(by show es.length-(x+1)<es.length-x;omega)⟩⟩)
theorem yr2(ls:List LayD)(es:List Ent)(tol:Rat)(h1:ls.length<=1000)(h2:(∀l∈ls,l.name.size<=1000))(h3:es.length<=12)(h4:∀e∈es,okV e)(h5:∀e∈es,kE (bW e))(h6:rz tol<=12)(h7:¬tol<0)(h8:dZ ls (es.map bW)=0):awp (Den Tryz.prog) yI (cutC 3 (restC 7 (Tryz.f15.body.getD .skip))) (λz e b=>z=.normal/\SubE [(2,.ptr 2 0),(4,.ptr 4 0),(8,.gs 1001 (pU tol es 0).length),(18,.gs 1004 (jK tol es).length),(19,.gs 1005 (jK tol es).length)] e/\SubB [(2,.var [(.sl 3 (ls.map aV)),.sl 7 (es.map aK)]),(4,.var [.v (.slice none 0 0),.v (.slice none 0 0)]),(1001,.grow 96 19 ((pU tol es 0).map jF)),(1004,.grow 55 7 ((jK tol es).map eC)),(1005,.grow 3 1 ((jK tol es).map nC))] b) [(2,.ptr 2 0),(4,.ptr 4 0),(8,.gs 1001 (jA (tol*tol) es es.length).cs.length),(10,.gs 1003 (jA (tol*tol) es es.length).es.length)] [(2,.var [(.sl 3 (ls.map aV)),.sl 7 (es.map aK)]),(4,.var [.v (.slice none 0 0),.v (.slice none 0 0)]),(1001,.grow 96 19 ((jA (tol*tol) es es.length).cs.map jF)),(1003,.grow 55 7 ((jA (tol*tol) es es.length).es.map aK))]:=by
 (conv=>whnf)
 all_goals(try simp only[aG,dh]at *)
 all_goals first
  |((conv=>whnf);refine Sw.Loop.ghost 18 1004 55 7 ?_ rfl rfl rfl ψ;refine Sw.Loop.ghost 19 1005 3 1 ?_ rfl rfl rfl ψ;refine Sw.Loop.inv (α:=Nat) (λx=>[(2,.ptr 2 0),(4,.ptr 4 0),(8,.gs 1001 (yR tol es x).length),(10,.gs 1003 (jA (tol*tol) es es.length).es.length),(18,.gs 1004 (yK tol es x).length),(19,.gs 1005 (yK tol es x).length),(20,.int .i64 (x:Nat))]) (λx=>[(2,.var [(.sl 3 (ls.map aV)),.sl 7 (es.map aK)]),(4,.var [.v (.slice none 0 0),.v (.slice none 0 0)]),(1001,.grow 96 19 ((yR tol es x).map jF)),(1003,.grow 55 7 ((jA (tol*tol) es es.length).es.map aK)),(1004,.grow 55 7 ((yK tol es x).map eC)),(1005,.grow 3 1 ((yK tol es x).map nC))]) (λx=>x<=es.length) (λx=>es.length-x) 0 ?_ ?_ ?_ (λx hx=>?_);exact⟨rfl,rfl,(by rw[ZV];rfl),rfl,(by rw[QE];rfl),(by rw[QE];rfl),rfl,trivial⟩;exact⟨rfl,rfl,(by rw[ZV];rfl),rfl,(by rw[QE];rfl),(by rw[QE];rfl),trivial⟩;exact jd _;have k1:=Vy (tol:=tol) h4 x;have k2:=WB tol es)
 all_goals(repeat'((try(conv=>whnf));first
  |refine zaa ?_ ?_|(with_reducible first|refine zad (λ_=>?_) (λ_=>?_)|refine zae (λ_=>?_) (λ_=>?_))|refine zah ?_ ?_|refine zan E0 ?_ ?_))
 all_goals(try apply zar)
 all_goals(try simp only[aG,dh]at *)
 all_goals first
  |omega|((with_reducible show(_:Nat)=_);first|rfl|(simp only[bF,aG,bn,bG];done)|((try simp only[bF,aG,bn,bG]at *);omega))|exact za9|exact Yo h4 ω|((conv=>whnf);have hxx:x=es.length:=ω;subst hxx;obtain⟨e1,e2⟩:=Xn (tol:=tol) (es:=es);exact⟨rfl,⟨rfl,rfl,(by rw[<-e2];rfl),(by rw[<-e1];rfl),(by rw[<-e1];rfl),trivial⟩,⟨rfl,rfl,(by rw[<-e2];rfl),(by rw[<-e1];rfl),(by rw[<-e1];rfl),trivial⟩⟩)|(obtain⟨e1,e2⟩:=ab3 (tol:=tol) (es:=es) (x:=x) ω (lY ξ);(conv=>whnf);exact⟨x+1,⟨⟨rfl,rfl,(by(simp only[e1,e2,bH,bK,bV,bI,bF,aG,bn,bG]);(first|done|rfl)),rfl,(by(simp only[e1,e2,bH,bK,bV,bI,bF,aG,bn,bG]);(first|done|rfl)),(by(simp only[e1,e2,bH,bK,bV,bI,bF,aG,bn,bG]);(first|done|rfl)),aH ω,trivial⟩,⟨rfl,rfl,(by(simp only[e1,e2,bH,bK,bV,bI,bF,aG,bn,bG]);(first|done|rfl)),rfl,(by(simp only[e1,e2,bH,bK,bV,bI,bF,aG,bn,bG]);(first|done|rfl)),(by(simp only[e1,e2,bH,bK,bV,bI,bF,aG,bn,bG]);(first|done|rfl)),trivial⟩,ω,(by show es.length-(x+1)<es.length-x;omega)⟩⟩)|(obtain⟨e1,e2⟩:=ad6 (tol:=tol) (es:=es) (x:=x) ω (vM ξ);(conv=>whnf);exact⟨x+1,⟨⟨rfl,rfl,(by(simp only[e1,e2,bH,bK,bV,bI,bF,aG,bn,bG]);(first|done|rfl)),rfl,(by(simp only[e1,e2,bH,bK,bV,bI,bF,aG,bn,bG]);(first|done|rfl)),(by(simp only[e1,e2,bH,bK,bV,bI,bF,aG,bn,bG]);(first|done|rfl)),aH ω,trivial⟩,⟨rfl,rfl,(by(simp only[e1,e2,bH,bK,bV,bI,bF,aG,bn,bG]);(first|done|rfl)),rfl,(by(simp only[e1,e2,bH,bK,bV,bI,bF,aG,bn,bG]);(first|done|rfl)),(by(simp only[e1,e2,bH,bK,bV,bI,bF,aG,bn,bG]);(first|done|rfl)),trivial⟩,ω,(by show es.length-(x+1)<es.length-x;omega)⟩⟩)
theorem yr3(ls:List LayD)(es:List Ent)(tol:Rat)(h1:ls.length<=1000)(h2:(∀l∈ls,l.name.size<=1000))(h3:es.length<=12)(h4:∀e∈es,okV e)(h5:∀e∈es,kE (bW e))(h6:rz tol<=12)(h7:¬tol<0)(h8:dZ ls (es.map bW)=0):awp (Den Tryz.prog) yI (cutC 4 (restC 10 (Tryz.f15.body.getD .skip))) (λz e b=>z=.normal/\SubE [(2,.ptr 2 0),(4,.ptr 4 0),(8,.gs 1001 (pU tol es (jK tol es).length).length),(23,.gs 1006 (jL tol es).length),(24,.gs 1007 (jL tol es).length)] e/\SubB [(2,.var [(.sl 3 (ls.map aV)),.sl 7 (es.map aK)]),(4,.var [.v (.slice none 0 0),.v (.slice none 0 0)]),(1001,.grow 96 19 ((pU tol es (jK tol es).length).map jF)),(1006,.grow 55 7 ((jL tol es).map eC)),(1007,.grow 3 1 ((jL tol es).map nC))] b) [(2,.ptr 2 0),(4,.ptr 4 0),(8,.gs 1001 (pU tol es 0).length),(18,.gs 1004 (jK tol es).length),(19,.gs 1005 (jK tol es).length)] [(2,.var [(.sl 3 (ls.map aV)),.sl 7 (es.map aK)]),(4,.var [.v (.slice none 0 0),.v (.slice none 0 0)]),(1001,.grow 96 19 ((pU tol es 0).map jF)),(1004,.grow 55 7 ((jK tol es).map eC)),(1005,.grow 3 1 ((jK tol es).map nC))]:=by
 (conv=>whnf)
 haveI ir:DenI Tryz.prog 59 [.c (.sl 7 ((jK tol es).map eC))] True (.c (.sl 1 ((bJ ((jK tol es).map (·.1))).map bC))):=⟨λ_=>by rw[Fg];exact(PW ((jK tol es).map (·.1))).den ⟨by rw[aG];have:=xP tol es;omega,λe he=>by obtain⟨x,hx,rfl⟩:=dR.1 he;exact KG h4 x hx⟩⟩
 have k0:=xP tol es
 all_goals(repeat'((try(conv=>whnf));first
  |apply zaf|refine zah ?_ ?_))
 all_goals(try apply zar)
 all_goals(try simp only[aG,dh]at *)
 all_goals first
  |((conv=>whnf);refine Sw.Loop.ghost 23 1006 55 7 ?_ rfl rfl rfl ψ;refine Sw.Loop.ghost 24 1007 3 1 ?_ rfl rfl rfl ψ;refine Sw.Loop.inv (α:=Nat) (λx=>[(2,.ptr 2 0),(4,.ptr 4 0),(8,.gs 1001 (pU tol es x).length),(18,.gs 1004 (jK tol es).length),(19,.gs 1005 (jK tol es).length),(22,.c (.sl 1 ((bJ ((jK tol es).map (·.1))).map bC))),(23,.gs 1006 (yM (jK tol es) x).length),(24,.gs 1007 (yM (jK tol es) x).length),(25,.int .i64 (x:Nat))]) (λx=>[(2,.var [(.sl 3 (ls.map aV)),.sl 7 (es.map aK)]),(4,.var [.v (.slice none 0 0),.v (.slice none 0 0)]),(1001,.grow 96 19 ((pU tol es x).map jF)),(1004,.froz 7 ((jK tol es).map eC)),(1005,.grow 3 1 ((jK tol es).map nC)),(1006,.grow 55 7 ((yM (jK tol es) x).map eC)),(1007,.grow 3 1 ((yM (jK tol es) x).map nC))]) (λx=>x<=(jK tol es).length) (λx=>(jK tol es).length-x) 0 ?_ ?_ ?_ (λx hx=>?_);exact⟨rfl,rfl,rfl,rfl,rfl,rfl,rfl,rfl,rfl,trivial⟩;exact⟨rfl,rfl,rfl,rfl,rfl,rfl,rfl,trivial⟩;exact jd _;have k1:=vV (jK tol es) x;have k2:=(rH (tol:=tol) h4 x).2.2;have k3:(bJ ((jK tol es).map (·.1))).length=(jK tol es).length:=(by rw[fF,aG]))
 all_goals(repeat'((try(conv=>whnf));first
  |(with_reducible refine zad (λ_=>?_) (λ_=>?_))|refine zat (λ_=>?_) (λ_=>?_)|refine zah ?_ ?_|refine zas ζ ?_|refine zan N0 ?_ ?_|refine zan false ?_ ?_))
 all_goals(try apply zar)
 all_goals(try simp only[aG,dh]at *)
 all_goals first
  |omega|((with_reducible show(_:Nat)=_);first|rfl|(simp only[bF,aG,bn,bG];done)|((try simp only[bF,aG,bn,bG]at *);omega))|exact za9|((conv=>whnf);have hxx:x=(jK tol es).length:=ω;subst hxx;have e9:yM (jK tol es) (jK tol es).length=(jL tol es):=vJ _;exact⟨rfl,⟨rfl,rfl,rfl,(by rw[<-e9];rfl),(by rw[<-e9];rfl),trivial⟩,⟨rfl,rfl,rfl,(by rw[<-e9];rfl),(by rw[<-e9];rfl),trivial⟩⟩)|(obtain⟨e1,e2⟩:=TJ (tol:=tol) (es:=es) (x:=x) ω ξ;(conv=>whnf);exact⟨x+1,⟨⟨rfl,rfl,(by(simp only[e1,e2,bH,bK,bV,bI,bF,aG,bn,bG]);(first|done|rfl)),rfl,rfl,rfl,(by(simp only[e1,e2,bH,bK,bV,bI,bF,aG,bn,bG]);(first|done|rfl)),(by(simp only[e1,e2,bH,bK,bV,bI,bF,aG,bn,bG]);(first|done|rfl)),aH ω,trivial⟩,⟨rfl,rfl,(by(simp only[e1,e2,bH,bK,bV,bI,bF,aG,bn,bG]);(first|done|rfl)),rfl,rfl,(by(simp only[e1,e2,bH,bK,bV,bI,bF,aG,bn,bG]);(first|done|rfl)),(by(simp only[e1,e2,bH,bK,bV,bI,bF,aG,bn,bG]);(first|done|rfl)),trivial⟩,ω,(by show(jK tol es).length-(x+1)<(jK tol es).length-x;omega)⟩⟩)|(obtain⟨e1,e2⟩:=UU (tol:=tol) (es:=es) (x:=x) ω ξ;(conv=>whnf);exact⟨x+1,⟨⟨rfl,rfl,(by(simp only[e1,e2,bH,bK,bV,bI,bF,aG,bn,bG]);(first|done|rfl)),rfl,rfl,rfl,(by(simp only[e1,e2,bH,bK,bV,bI,bF,aG,bn,bG]);(first|done|rfl)),(by(simp only[e1,e2,bH,bK,bV,bI,bF,aG,bn,bG]);(first|done|rfl)),aH ω,trivial⟩,⟨rfl,rfl,(by(simp only[e1,e2,bH,bK,bV,bI,bF,aG,bn,bG]);(first|done|rfl)),rfl,rfl,(by(simp only[e1,e2,bH,bK,bV,bI,bF,aG,bn,bG]);(first|done|rfl)),(by(simp only[e1,e2,bH,bK,bV,bI,bF,aG,bn,bG]);(first|done|rfl)),trivial⟩,ω,(by show(jK tol es).length-(x+1)<(jK tol es).length-x;omega)⟩⟩)
theorem yr4(ls:List LayD)(es:List Ent)(tol:Rat)(h1:ls.length<=1000)(h2:(∀l∈ls,l.name.size<=1000))(h3:es.length<=12)(h4:∀e∈es,okV e)(h5:∀e∈es,kE (bW e))(h6:rz tol<=12)(h7:¬tol<0)(h8:dZ ls (es.map bW)=0):awp (Den Tryz.prog) yI (restC 14 (Tryz.f15.body.getD .skip)) (endO yI Tryz.f15 [none,none,none] (.tup [.agg [(.sl 3 (ls.map aV)),.sl 7 ((aO (tol*tol) es).es.map aK)],.c (.sl 19 ((aO (tol*tol) es).cs.map jF)),.int .i64 0])) [(2,.ptr 2 0),(4,.ptr 4 0),(8,.gs 1001 (pU tol es (jK tol es).length).length),(23,.gs 1006 (jL tol es).length),(24,.gs 1007 (jL tol es).length)] [(2,.var [(.sl 3 (ls.map aV)),.sl 7 (es.map aK)]),(4,.var [.v (.slice none 0 0),.v (.slice none 0 0)]),(1001,.grow 96 19 ((pU tol es (jK tol es).length).map jF)),(1006,.grow 55 7 ((jL tol es).map eC)),(1007,.grow 3 1 ((jL tol es).map nC))]:=by
 (conv=>whnf)
 haveI io:DenI Tryz.prog 60 [.c (.sl 7 ((jL tol es).map eC))] True (.c (.sl 2 ((zu ((jL tol es).map (·.1))).map Lr))):=⟨λ_=>by rw[Fg];exact(QD ((jL tol es).map (·.1))).den ⟨by rw[aG];have:=sJ tol es;omega,λe he=>by obtain⟨x,hx,rfl⟩:=dR.1 he;exact N9 h4 x hx⟩⟩
 have k0:=sJ tol es;have fs:=@adA tol es;have fa:=@Wi tol es;have fb:=@ab4 tol es;have fl:=λx=>XA (tol:=tol) h3 h4 x
 generalize(zu ((jL tol es).map (·.1)))=OR at fs fa fb fl io
 all_goals(repeat'((try(conv=>whnf));first
  |apply zaf|refine zah ?_ ?_))
 all_goals(try apply zar)
 all_goals(try simp only[aG,dh]at *)
 all_goals first
  |((conv=>whnf);refine Sw.Loop.inv (α:=Nat) (λx=>[(2,.ptr 2 0),(4,.ptr 4 0),(8,.gs 1001 (yO tol es x).length),(23,.gs 1006 (jL tol es).length),(24,.gs 1007 (jL tol es).length),(26,.c (.sl 2 (OR.map Lr))),(27,.int .i64 (x:Nat))]) (λx=>[(2,.var [(.sl 3 (ls.map aV)),.sl 7 (es.map aK)]),(4,.var [.v (.slice none 0 0),.v (.slice none 0 0)]),(1001,.grow 96 19 ((yO tol es x).map jF)),(1006,.froz 7 ((jL tol es).map eC)),(1007,.grow 3 1 ((jL tol es).map nC))]) (λx=>x<=OR.length) (λx=>OR.length-x) 0 ?_ ?_ ?_ (λx hx=>?_);exact⟨rfl,rfl,(by rw[aax];rfl),rfl,rfl,rfl,rfl,trivial⟩;exact⟨rfl,rfl,(by rw[aax];rfl),rfl,rfl,trivial⟩;exact jd _;have k1:=fl x;haveI ie:DenI Tryz.prog 26 [.agg (aK ((jL tol es).getD (Int.toNat (((OR.getD x (0,0)).1:Nat):Int)) N0).1)] (((jL tol es).getD (OR.getD x (0,0)).1 N0).1.pts.length<=1000000) (.tup [.own 45 8 ((aA ((jL tol es).getD (OR.getD x (0,0)).1 N0).1).map vecC),.bool (decide (aA ((jL tol es).getD (OR.getD x (0,0)).1 N0).1≠[]))]):=⟨λhp=>by rw[dh];exact(nY (h:=O1 ((jL tol es).getD (OR.getD x (0,0)).1 N0).1)).den hp⟩)
 all_goals(repeat'((try(conv=>whnf));first
  |refine zaa ?_ ?_|(with_reducible refine zad (λ_=>?_) (λ_=>?_))|refine zah ?_ ?_|refine zas ζ ?_|refine zan N0 ?_ ?_|refine zan P0 ?_ ?_|refine zan ((0,0):Nat×Nat) ?_ ?_|apply zaq))
 all_goals(try apply zar)
 all_goals(try simp only[aG,dh]at *)
 all_goals first
  |omega|((with_reducible show(_:Nat)=_);first|rfl|(simp only[bF,aG,bn,bG];done)|((try simp only[bF,aG,bn,bG]at *);omega))|exact za9|(obtain⟨b1,b2⟩:=@fb x ω;exact⟨ω,ω⟩)|(obtain⟨b1,b2⟩:=@fb x ω;exact aP (YX h4 b1).2.2.2 ψ)|(have e1:=@fs x ω;(conv=>whnf);exact⟨x+1,⟨⟨rfl,rfl,(by(simp only[e1,bH,bK,bV,bI,bF,aG,bn,bG]);(first|done|rfl)),rfl,rfl,rfl,aH ω,trivial⟩,⟨rfl,rfl,(by(simp only[e1,bH,bK,bV,bI,bF,aG,bn,bG]);(first|done|rfl)),rfl,rfl,trivial⟩,ω,(by show OR.length-(x+1)<OR.length-x;omega)⟩⟩)|((with_reducible show packA _=_);have hxx:x=OR.length:=ω;subst hxx;rw[fa,Fg,<-(tq tol es).1];rfl)
instance abJ(x y u v:Int):DenI Tryz.prog 47 [.int .i64 x,.int .i64 y,.int .i64 u,.int .i64 v] (jB x/\jB y/\jB u/\jB v) (.agg (aK (Ce x y u v))):=⟨λhp=>by
 obtain⟨h1,h2,h3,h4⟩:=hp;unfold jB at *
 all_goals refine aC Tryz.func47 rfl ?_
 all_goals(repeat'((try(conv=>whnf));first
  |refine zaa ?_ ?_|apply zaq))
 all_goals(try apply zar)
 all_goals first
  |exact⟨h1,h2⟩|exact⟨h3,h4⟩|rfl⟩
instance aeF(es:List (List Cell)):DenI Tryz.prog 46 [.c (.sl 7 es)] (True) (.agg [.sl 3 (aLL.map aV),.sl 7 es]):=⟨λhp=>by
 refine aC Tryz.func46 rfl ?_
 all_goals(repeat'((try(conv=>whnf));first
  |apply zaq))
 all_goals first
  |rfl⟩
instance aei:DenI Tryz.prog 11 [] (True) (.bool true):=⟨λhp=>by
 haveI r1:DenI Tryz.prog 13 [.agg [.sl 3 (aLL.map aV),.sl 7 [aK (Ce 0 0 1000 0),aK (Ce 1003 0 0 1000),aK (Ce 0 1004 0 0)]],R ((5:Int):Rat)] True (.tup [.agg [.sl 3 (aLL.map aV),.sl 7 ((aO (((5:Int):Rat)*((5:Int):Rat)) aw1).es.map aK)],.c (.sl 19 ((aO (((5:Int):Rat)*((5:Int):Rat)) aw1).cs.map jF)),.int .i64 0]):=⟨λ_=>(Hz aLL aw1 ((5:Int):Rat)).den ⟨ψ,ψ,ψ,sZ.1,sZ.2,(Df ψ ψ).1,(Df ψ ψ).2,OW⟩⟩
 haveI r2:DenI Tryz.prog 13 [.agg [.sl 3 (aLL.map aV),.sl 7 [aK (Ce 0 0 1000 0),aK (Ce 1003 0 0 1000),aK (Ce 0 1004 0 0)]],R ((3:Int):Rat)] True (.tup [.agg [.sl 3 (aLL.map aV),.sl 7 ((aO (((3:Int):Rat)*((3:Int):Rat)) aw1).es.map aK)],.c (.sl 19 ((aO (((3:Int):Rat)*((3:Int):Rat)) aw1).cs.map jF)),.int .i64 0]):=⟨λ_=>(Hz aLL aw1 ((3:Int):Rat)).den ⟨ψ,ψ,ψ,sZ.1,sZ.2,(Df ψ ψ).1,(Df ψ ψ).2,OW⟩⟩
 haveI r3:DenI Tryz.prog 13 [.agg [.sl 3 (aLL.map aV),.sl 7 [aK (Ce 0 0 2 0)]],R ((5:Int):Rat)] True (.tup [.agg [.sl 3 (aLL.map aV),.sl 7 ((aO (((5:Int):Rat)*((5:Int):Rat)) aw2).es.map aK)],.c (.sl 19 ((aO (((5:Int):Rat)*((5:Int):Rat)) aw2).cs.map jF)),.int .i64 0]):=⟨λ_=>(Hz aLL aw2 ((5:Int):Rat)).den ⟨ψ,ψ,ψ,NZ.1,NZ.2,(Df ψ ψ).1,(Df ψ ψ).2,Zk⟩⟩
 haveI r4:DenI Tryz.prog 19 [.agg [.sl 3 (aLL.map aV),.sl 7 [aK (Ce 0 0 1000 0),aK (Ce 1003 0 0 1000),aK (Ce 0 1004 0 0)]],R ((5:Int):Rat)] True (.bool false):=⟨λ_=>by have h:=(aaF aLL aw1 ((5:Int):Rat)).den ⟨ψ,ψ,ψ,sZ.1,sZ.2,(Df ψ ψ).1,(Df ψ ψ).2,OW⟩;rw[YR]at h;exact h⟩
 obtain⟨a1,b1⟩:=O9 YB;obtain⟨a2,b2⟩:=O9 aar;obtain⟨a3,b3⟩:=O9 Yu;have a4:=aaL;have c10:=b1 0 ψ;have c11:=b1 1 ψ;have c21:=b2 1 ψ;have c22:=b2 2 ψ;have c31:=b3 1 ψ;generalize(aO (((5:Int):Rat)*((5:Int):Rat)) aw1).cs=C1 at *;generalize(aO (((3:Int):Rat)*((3:Int):Rat)) aw1).cs=C2 at *;generalize(aO (((5:Int):Rat)*((5:Int):Rat)) aw2).cs=C3 at *;generalize(aO (((5:Int):Rat)*((5:Int):Rat)) aw2).es=E3 at *;generalize(aO (((5:Int):Rat)*((5:Int):Rat)) aw1).es=E1 at *;generalize(aO (((3:Int):Rat)*((3:Int):Rat)) aw1).es=E2 at *;have d10:(C1.getD 0 C0).kind=1/\(C1.getD 0 C0).ent=1:=c10;have d11:(C1.getD 1 C0).kind=1/\(C1.getD 1 C0).ent=2:=c11;have d21:(C2.getD 1 C0).kind=4/\(C2.getD 1 C0).ent=1:=c21;have d22:(C2.getD 2 C0).kind=4/\(C2.getD 2 C0).ent=2:=c22;have d31:(C3.getD 1 C0).kind=2/\(C3.getD 1 C0).ent=0:=c31;clear b1 b2 b3 c10 c11 c21 c22 c31
 all_goals refine aC Tryz.func11 rfl ?_
 all_goals(repeat'((try(conv=>whnf));first
  |apply zaf|refine zaa ?_ ?_|(with_reducible first|apply zab|apply zac|refine zad (λ_=>?_) (λ_=>?_)|refine zae (λ_=>?_) (λ_=>?_))|refine zas ζ ?_|refine zan C0 ?_ ?_|apply zaq))
 all_goals(try apply zar)
 all_goals(try simp only[aG,a1,a2,a3,a4,bn,bG]at *)
 all_goals(try simp only[Ox,show Int.toNat 1=1 from rfl,show Int.toNat 2=2 from rfl]at *)
 all_goals first
  |trivial|omega⟩
instance af5(r:Rq):DenI Tryz.prog 112 [.agg (Gs r)] (True) (.bool (PL r)):=⟨λhp=>by
 refine aC Tryz.func112 rfl ?_
 all_goals(repeat'((try(conv=>whnf));first
  |(with_reducible first|apply zab|apply zac|refine zad (λ_=>?_) (λ_=>?_))|apply zaq))
 all_goals(try simp only[aG,dh]at *)
 all_goals first
  |(refine bE ?_;unfold PL;rw[vG];simp only[bY,decide_eq_true_eq];omega)|(refine bE ?_;exact(Vj ω).symm)⟩
instance afW(ls:List LayD)(es:List EntR):DenI Tryz.prog 75 [.agg [(.sl 3 (ls.map aV)),.sl 7 (es.map aY)]] (es.length<=12) (.bool (Jf ls es)):=⟨λhp=>by
 refine aC Tryz.func75 rfl ?_
 all_goals(repeat'((try(conv=>whnf));first
  |(with_reducible first|apply zab|apply zac|refine zad (λ_=>?_) (λ_=>?_))|apply zaq))
 all_goals(try simp only[aG,dh]at *)
 all_goals first
  |((conv=>whnf);refine Sw.Loop.inv (α:=Nat) (λx=>[(1,.ptr 1 0),(3,.int .i64 (x:Nat))]) (λx=>[(1,.var [(.sl 3 (ls.map aV)),.sl 7 (es.map aY)])]) (λx=>x<=ls.length/\∀j<x,(ls.getD j L0).name.size<=60) (λx=>ls.length-x) 0 ?_ ?_ ?_ (λx hx=>?_))|skip
 all_goals(repeat'((try(conv=>whnf));first
  |(with_reducible refine zad (λ_=>?_) (λ_=>?_))|refine zan L0 ?_ ?_|apply zaq))
 all_goals(try apply zar)
 all_goals(try simp only[aG,dh]at *)
 all_goals first
  |((conv=>whnf);refine Sw.Loop.inv (α:=Nat) (λy=>[(1,.ptr 1 0),(4,.int .i64 (y:Nat))]) (λy=>[(1,.var [(.sl 3 (ls.map aV)),.sl 7 (es.map aY)])]) (λy=>y<=es.length/\∀j<y,uQ (es.getD j ni)=true) (λy=>es.length-y) 0 ?_ ?_ ?_ (λy hy=>?_))|skip
 all_goals(repeat'((try(conv=>whnf));first
  |apply zaf|(with_reducible first|apply zab|apply zac|refine zad (λ_=>?_) (λ_=>?_))|refine zat (λ_=>?_) (λ_=>?_)|refine zan ni ?_ ?_|apply zaq))
 all_goals(try apply zar)
 all_goals(try simp only[aG,dh]at *)
 all_goals first
  |((conv=>whnf);refine Sw.Loop.inv (α:=Nat) (λz=>[(1,.ptr 1 0),(4,.int .i64 (y:Nat)),(5,.ptr 5 0),(6,.int .i64 (z:Nat))]) (λz=>[(1,.var [(.sl 3 (ls.map aV)),.sl 7 (es.map aY)]),(5,.var (aY (es.getD y ni)))]) (λz=>z<=(es.getD y ni).pts.length/\∀k<z,vsB ((es.getD y ni).pts.getD k mQ)=true) (λz=>(es.getD y ni).pts.length-z) 0 ?_ ?_ ?_ (λz hz=>?_))|skip
 all_goals(repeat'((try(conv=>whnf));first
  |apply zaf|(with_reducible first|apply zab|apply zac|refine zad (λ_=>?_) (λ_=>?_))|refine zat (λ_=>?_) (λ_=>?_)|refine zan mQ ?_ ?_|apply zaq))
 all_goals(try apply zar)
 all_goals(try simp only[aG,dh]at *)
 all_goals first
  |trivial|omega|exact⟨jd _,λj hj=>absurd hj (Bd _)⟩|(refine bE ?_;rw[Xt ω];done)|(refine bE ?_;rw[XK (x:=x) ω ω];done)|(refine bE ?_;refine(Ad (x:=y) ω (E5 (.inl ?_))).symm;omega)|(refine bE ?_;refine(Ad (x:=y) ω (E5 (.inr (.inl ?_)))).symm;omega)|(refine bE ?_;refine(Ad (x:=y) ω (XZ (k:=z) ω ?_)).symm;unfold vsB;simp_all;done)|(refine bE ?_;refine(Ad (x:=y) ω (E5 (.inr (.inr ?_)))).symm;simp_all;done)|(refine bE ?_;have hxx:x=ls.length:=ω;subst hxx;have hyy:y=es.length:=ω;subst hyy;rw[Yv ω hx.2 hy.2];done)|((conv=>whnf);exact⟨z+1,⟨⟨rfl,rfl,rfl,aH ω,trivial⟩,⟨rfl,rfl,trivial⟩,⟨ω,bU hz.2 (by unfold vsB;simp_all;done)⟩,(by show(es.getD y ni).pts.length-(z+1)<(es.getD y ni).pts.length-z;omega)⟩⟩)|((conv=>whnf);exact⟨y+1,⟨⟨rfl,aH ω,trivial⟩,⟨rfl,trivial⟩,⟨ω,bU hy.2 (W9 ω ω χ (by have hzz:z=(es.getD y ni).pts.length:=ω;subst hzz;exact hz.2))⟩,(by show es.length-(y+1)<es.length-y;omega)⟩⟩)|((conv=>whnf);exact⟨x+1,⟨⟨rfl,aH ω,trivial⟩,⟨rfl,trivial⟩,⟨ω,bU hx.2 ω⟩,(by show ls.length-(x+1)<ls.length-x;omega)⟩⟩)⟩
instance afZ(ls:List LayD)(es:List EntR):DenI Tryz.prog 33 [.agg [(.sl 3 (ls.map aV)),.sl 7 (es.map aY)]] (True) (.bool (decide (es.length<=12) && Jf ls es)):=⟨λhp=>by
 refine aC Tryz.func33 rfl ?_
 all_goals(repeat'((try(conv=>whnf));first
  |refine zaa ?_ ?_|(with_reducible first|apply zab|apply zac|refine zad (λ_=>?_) (λ_=>?_))|apply zaq))
 all_goals(try apply zar)
 all_goals(try simp only[aG,dh]at *)
 all_goals first
  |omega|(refine bE ?_;rw[decide_eq_true ω];simp;done)|(refine bE ?_;rw[decide_eq_false ω];rfl)⟩
instance afP(r:Rq):DenI Tryz.prog 48 [.agg (Gs r),.int .i64 3] (True) (.bool (Us 3 (r.a,r.l,r.b,r.m))):=⟨λhp=>by
 refine aC Tryz.func48 rfl ?_
 all_goals(repeat'((try(conv=>whnf));first
  |refine zaa ?_ ?_|(with_reducible first|apply zab|apply zac|refine zad (λ_=>?_) (λ_=>?_))|apply zaq))
 all_goals(try apply zar)
 all_goals(try simp only[aG,dh]at *)
 all_goals first
  |omega|(refine bE ?_;rw[YI (k:=3) (r:=(r.a,r.l,r.b,r.m)) (by show(r.l.length:Int)>3;omega)];done)|(refine bE ?_;rw[aaH (k:=3) (r:=(r.a,r.l,r.b,r.m)) (by show(r.m.length:Int)>3;omega)];done)|(refine bE ?_;unfold Us;simp_all;done)⟩
instance YL(ls:List LayD)(es:List EntR)(t:Rq):DenI Tryz.prog 12 [.agg [(.sl 3 (ls.map aV)),.sl 7 (es.map aY)],.agg (Gs t)] (True) (.bool (smA ls es t)):=⟨λhp=>by
 refine aC Tryz.func12 rfl ?_
 all_goals(repeat'((try(conv=>whnf));first
  |apply zaf|(with_reducible first|apply zab|apply zac)|refine zat (λ_=>?_) (λ_=>?_)|apply zaq))
 all_goals first
  |(refine bE ?_;unfold smA;simp_all;done)⟩
theorem XD{es:List EntR}(h:∀e∈es,e.pts.length<=1000){x:Nat}(hx:x<es.length):(es.getD x ni).pts.length<=1000:=h _ (by simp[List.getD,hx])
theorem Jb{l:List EntR}{x:Nat}(h:x<l.length):(l.take (x+1)).map aY=(l.take x).map aY++[aY (l.getD x ni)]:=by
 rw[J6,bH];simp[List.getD,h]
theorem Sr(ls:List LayD)(es:List EntR)(h1:ls.length<=1000)(h2:es.length<=1000)(h3:∀e∈es,e.pts.length<=1000):
 Den Tryz.prog 14 [.agg [(.sl 3 (ls.map aV)),.sl 7 (es.map aY)]] (.agg [(.sl 3 (ls.map aV)),.sl 7 (es.map aY)]):=by
 refine Den.of ⟨ζ,λw X vs ho hX hl hR=>?_⟩ rfl
 haveI:WOk Tryz.prog w:=⟨ho⟩
 refine enter Tryz.func14 rfl rfl (by rw[hl];rfl) λa hF=>?_
 have hc:=args_conc (N:=29) hX hl hR hF;refine cut_ok (τ:=CP) oG aQ 2 _ (QA:=λz e b=>z=.normal/\SubE [(3,.ptr 3 0),(2,.ptr 2 0),(1,.ptr 1 0)] e/\SubB [(1,.var [(.sl 3 (ls.map aV)),.sl 7 (es.map aY)]),(3,.var [(.sl 3 (ls.map aV)),.v (.slice none 0 0)]),(2,.var [.v (.slice none 0 0),.v (.slice none 0 0)])] b) ζ ?_ hc (λe b a w hq hc2=>?_) (λx e b a w hx hq hc=>absurd hq.1 hx)
 case refine_1 =>
  clear hc hF hR hl hX
  all_goals(repeat'((try(conv=>whnf));first
   |refine zaa ?_ ?_))
  all_goals(try apply zar)
  all_goals(try simp only[aG,dh]at *)
  all_goals first
   |omega|exact⟨rfl,⟨rfl,rfl,rfl,trivial⟩,⟨rfl,rfl,rfl,trivial⟩⟩
 clear hc;obtain⟨_,he,hb⟩:=hq;have hc:=hc2.sub he hb;clear he hb hc2 hF hR hl hX;replace hc:=hc.ghostF (i:=200) (j:=3) (T:=55) (s:=7) (k:=1) rfl rfl rfl rfl ψ rfl;refine awp_ok (τ:=CP) oG aQ _ (QA:=endO CP _ [none] (.agg [(.sl 3 (ls.map aV)),.sl 7 (es.map aY)])) ζ ?_ hc (λx e b a w' hx hc'=>endO_ok oG hx hc');clear hc ho
 all_goals(try simp only[aG,dh]at *)
 all_goals first
  |((conv=>whnf);refine Sw.Loop.inv (α:=Nat) (λx=>[(2,.ptr 2 0),(3,.ptr 3 0),(11,.c (.sl 7 (es.map aY))),(12,.int .i64 (es.length:Nat)),(13,.int .i64 (x:Nat))]) (λx=>[(200,.grow 55 7 ((es.take x).map aY)),(3,.varo [(.sl 3 (ls.map aV)),.ob 200 ((es.take x).map aY).length]),(2,.var [.v (.slice none 0 0),.v (.slice none 0 0)])]) (λx=>x<=es.length) (λx=>es.length-x) 0 ?_ ?_ ?_ (λx hx=>?_))
 all_goals(repeat'((try(conv=>whnf));first
  |refine zaa ?_ ?_|(with_reducible refine zad (λ_=>?_) (λ_=>?_))|refine zah ?_ ?_|refine zan ni ?_ ?_|apply zaq))
 all_goals(try apply zar)
 all_goals(try simp only[aG,dh]at *)
 all_goals first
  |exact za3|omega|(have hz:=XD h3 (x:=x) ω;omega)|((with_reducible show(_:Nat)<=_);simp only[bF,aG,bn,bG,kM];omega)|((with_reducible show SubE _ _);exact⟨rfl,rfl,rfl,rfl,rfl,trivial⟩)|((with_reducible show SubB _ _);exact⟨rfl,rfl,rfl,trivial⟩)|(have hm:=Jb (l:=es) (x:=x) ω;have hn:(List.take (x+1) es).length=(List.take x es).length+(0+1):=(by simp only[kM];omega);(conv=>whnf);exact⟨x+1,⟨⟨rfl,rfl,rfl,rfl,aH ω,trivial⟩,⟨(by(simp only[hm,bH,bK,bV,bI]);(first|done|rfl)),(by(simp only[hm,hn,bH,bK,bV,bI,bF,aG,bn,bG]);(first|done|rfl)),rfl,trivial⟩,ω,(by show es.length-(x+1)<es.length-x;omega)⟩⟩)|((with_reducible show packA _=_);have hxx:x=es.length:=ω;subst hxx;rw[xY];rfl)
instance(priority:=900) ZI(ls:List LayD)(es:List EntR):DenI Tryz.prog 14 [.agg [(.sl 3 (ls.map aV)),.sl 7 (es.map aY)]] (ls.length<=1000/\es.length<=1000/\∀e∈es,kE e) (.agg [(.sl 3 (ls.map aV)),.sl 7 (es.map aY)]):=⟨λ⟨h1,h2,h3⟩=>Sr ls es h1 h2 λe he=>aP (h3 e he).2.2.1 ψ⟩
instance(priority:=2000) adV(ls:List LayD)(es:List Ent):DenI Tryz.prog 14 [.agg [(.sl 3 (ls.map aV)),.sl 7 (es.map aK)]] (ls.length<=1000/\es.length<=1000/\∀e∈es,kE (bW e)) (.agg [(.sl 3 (ls.map aV)),.sl 7 (es.map aK)]):=⟨λ⟨h1,h2,h3⟩=>by
 have h:=(ZI ls (es.map bW)).den ⟨h1,by rw[aG];exact h2,λe he=>by obtain⟨x,hx,rfl⟩:=dR.1 he;exact h3 x hx⟩;rw[qP]at h
 exact h⟩
instance(priority:=60) YH(ls:List LayD)(es:List EntR)(q:Rat):DenI Tryz.prog 13 [.agg [(.sl 3 (ls.map aV)),.sl 7 (es.map aY)],R q] (ls.length<=1000/\es.length<=1000/\(∀l∈ls,l.name.size<=1000)/\(∀e∈es,kE e)/\(dZ ls es≠0\/q<0)/\rz q<=12) (.tup [.agg [.sl 3 [],.sl 7 []],.c (.sl 0 []),.int .i64 (if dZ ls es≠0 then dZ ls es else 1)]):=⟨λhp=>by
 obtain⟨h1,h2,h3,h4,h5,h6⟩:=hp
 all_goals refine aC Tryz.func13 rfl ?_
 all_goals(repeat'((try(conv=>whnf));first
  |apply zaf|refine zaa ?_ ?_|(with_reducible first|refine zad (λ_=>?_) (λ_=>?_)|refine zae (λ_=>?_) (λ_=>?_))|apply zaq))
 all_goals(try apply zar)
 all_goals(try simp only[aW]at *)
 all_goals first
  |exact⟨h1,h2,h3,h4⟩|(rename ¬dZ ls es=0=>h;rw[if_pos h];rfl)|(rename dZ ls es=0=>h;rw[if_neg (λg=>g h)];rfl)|(exfalso;rename ¬q<0=>h;exact h5.elim (λg=>g ξ) h)⟩
instance aer(e:EntR):DenI Tryz.prog 61 [.agg (aY e),.agg (aY e)] (e.pts.length<=5) (.bool true):=⟨λhp=>by
 refine aC Tryz.func61 rfl ?_
 all_goals(repeat'((try(conv=>whnf));first
  |apply zaf|(with_reducible first|apply zab|apply zac|refine zad (λ_=>?_) (λ_=>?_)|refine zae (λ_=>?_) (λ_=>?_))|refine zat (λ_=>?_) (λ_=>?_)|apply zaq))
 all_goals(try simp only[aG,dh]at *)
 all_goals first
  |((conv=>whnf);refine Sw.Loop.inv (α:=Nat) (λx=>[(2,.ptr 2 0),(3,.ptr 3 0),(5,.int .i64 (x:Nat))]) (λx=>[(2,.var (aY e)),(3,.var (aY e))]) (λx=>x<=e.pts.length/\True) (λx=>e.pts.length-x) 0 ?_ ?_ ?_ (λx hx=>?_))|skip
 all_goals(repeat'((try(conv=>whnf));first
  |apply zaf|(with_reducible refine zad (λ_=>?_) (λ_=>?_))|refine zat (λ_=>?_) (λ_=>?_)|refine zas ζ ?_|refine zan mQ ?_ ?_|apply zaq))
 all_goals(try apply zar)
 all_goals(try simp only[aG,dh]at *)
 all_goals first
  |omega|trivial|exact⟨jd _,trivial⟩|(exfalso;simp at *;done)|((conv=>whnf);exact⟨x+1,⟨⟨rfl,rfl,aH ω,trivial⟩,⟨rfl,rfl,trivial⟩,⟨ω,trivial⟩,(by show e.pts.length-(x+1)<e.pts.length-x;omega)⟩⟩)⟩
instance UD(ls:List LayD)(es:List EntR):DenI Tryz.prog 16 [.agg [(.sl 3 (ls.map aV)),.sl 7 (es.map aY)],.agg [(.sl 3 (ls.map aV)),.sl 7 (es.map aY)]] (ls.length<=1000/\es.length<=1000/\∀e∈es,kE e) (.bool true):=⟨λhp=>by
 obtain⟨h1,h2,h3⟩:=hp
 all_goals refine aC Tryz.func16 rfl ?_
 all_goals(repeat'((try(conv=>whnf));first
  |(with_reducible first|apply zab|apply zac|refine zae (λ_=>?_) (λ_=>?_))|apply zaq))
 all_goals(try simp only[aG,dh]at *)
 all_goals first
  |((conv=>whnf);refine Sw.Loop.inv (α:=Nat) (λx=>[(2,.ptr 2 0),(3,.ptr 3 0),(5,.int .i64 (x:Nat))]) (λx=>[(2,.var [(.sl 3 (ls.map aV)),.sl 7 (es.map aY)]),(3,.var [(.sl 3 (ls.map aV)),.sl 7 (es.map aY)])]) (λx=>x<=ls.length/\True) (λx=>ls.length-x) 0 ?_ ?_ ?_ (λx hx=>?_))|skip
 all_goals(repeat'((try(conv=>whnf));first
  |(with_reducible refine zad (λ_=>?_) (λ_=>?_))|refine zat (λ_=>?_) (λ_=>?_)|refine zas ζ ?_|refine zan L0 ?_ ?_|apply zaq))
 all_goals(try apply zar)
 all_goals(try simp only[aG,dh]at *)
 all_goals first
  |((conv=>whnf);refine Sw.Loop.inv (α:=Nat) (λy=>[(2,.ptr 2 0),(3,.ptr 3 0),(6,.int .i64 (y:Nat))]) (λy=>[(2,.var [(.sl 3 (ls.map aV)),.sl 7 (es.map aY)]),(3,.var [(.sl 3 (ls.map aV)),.sl 7 (es.map aY)])]) (λy=>y<=es.length/\True) (λy=>es.length-y) 0 ?_ ?_ ?_ (λy hy=>?_))|skip
 all_goals(repeat'((try(conv=>whnf));first
  |refine zaa ?_ ?_|(with_reducible refine zad (λ_=>?_) (λ_=>?_))|refine zat (λ_=>?_) (λ_=>?_)|refine zas ζ ?_|refine zan ni ?_ ?_|apply zaq))
 all_goals(try apply zar)
 all_goals(try simp only[aG,dh]at *)
 all_goals first
  |omega|trivial|exact⟨jd _,trivial⟩|(exfalso;rename (!(_&&(decide True&&(decide True&&true))))=true=>h;have hb:∀z:ByteArray,(z == z)=true:=(λz=>by show(z.data == z.data)=true;simp);rw[hb]at h;cases h)|(have hz:=(LM h3 (x:=y) ω);exact hz.2.2.1)|((conv=>whnf);exact⟨y+1,⟨⟨rfl,rfl,aH ω,trivial⟩,⟨rfl,rfl,trivial⟩,⟨ω,trivial⟩,(by show es.length-(y+1)<es.length-y;omega)⟩⟩)|((conv=>whnf);exact⟨x+1,⟨⟨rfl,rfl,aH ω,trivial⟩,⟨rfl,rfl,trivial⟩,⟨ω,trivial⟩,(by show ls.length-(x+1)<ls.length-x;omega)⟩⟩)⟩
instance(priority:=2000) abN(ls:List LayD)(es:List Ent):DenI Tryz.prog 16 [.agg [(.sl 3 (ls.map aV)),.sl 7 (es.map aK)],.agg [(.sl 3 (ls.map aV)),.sl 7 (es.map aK)]] (ls.length<=1000/\es.length<=1000/\∀e∈es,kE (bW e)) (.bool true):=⟨λ⟨h1,h2,h3⟩=>by
 have h:=(UD ls (es.map bW)).den ⟨h1,by rw[aG];exact h2,λe he=>by obtain⟨x,hx,rfl⟩:=dR.1 he;exact h3 x hx⟩;rw[qP]at h
 exact h⟩
instance XC(ls:List LayD)(es:List EntR)(q:Rat):DenI Tryz.prog 12 [.agg [(.sl 3 (ls.map aV)),.sl 7 (es.map aY)],R q] True (.bool (smA ls es (iR q))):=⟨λ_=>(YL ls es (iR q)).den trivial⟩
instance(priority:=2000) aby(ls:List LayD)(es:List Ent)(q:Rat):DenI Tryz.prog 12 [.agg [(.sl 3 (ls.map aV)),.sl 7 (es.map aK)],R q] True (.bool (smA ls (es.map bW) (iR q))):=⟨λ_=>by
 have h:=(XC ls (es.map bW) q).den trivial;rw[qP]at h
 exact h⟩
theorem S9(ls:List LayD)(es:List Ent)(tol:Rat)(h1:ls.length<=1000)(h2:(∀l∈ls,l.name.size<=1000))(h3:es.length<=12)(h4:∀e∈es,okV e)(h5:∀e∈es,kE (bW e))(h6:rz tol<=12)(h7:¬tol<0)(h8:dZ ls (es.map bW)=0):Den Tryz.prog 15 [.agg [(.sl 3 (ls.map aV)),.sl 7 (es.map aK)],R tol] (.tup [.agg [(.sl 3 (ls.map aV)),.sl 7 ((aO (tol*tol) es).es.map aK)],.c (.sl 19 ((aO (tol*tol) es).cs.map jF)),.int .i64 0]):=by
 refine Den.of ⟨ζ,λw X vs ho hX hl hR=>?_⟩ rfl
 haveI:WOk Tryz.prog w:=⟨ho⟩
 refine enter Tryz.func15 rfl rfl (by rw[hl];rfl) λa hF=>?_
 have hc:=args_conc (N:=234) hX hl hR hF;refine cut_ok (τ:=yI) qG aQ 7 _ ζ (yr1 ls es tol h1 h2 h3 h4 h5 h6 h7 h8) hc (λe b a w hq hc2=>?_) (λx e b a w hx hq hc=>absurd hq.1 hx);replace hc2:=hc2.sub hq.2.1 hq.2.2;refine cut_ok (τ:=yI) qG aQ 3 _ ζ (yr2 ls es tol h1 h2 h3 h4 h5 h6 h7 h8) hc2 (λe b a w hq hc2=>?_) (λx e b a w hx hq hc=>absurd hq.1 hx);replace hc2:=hc2.sub hq.2.1 hq.2.2;refine cut_ok (τ:=yI) qG aQ 4 _ ζ (yr3 ls es tol h1 h2 h3 h4 h5 h6 h7 h8) hc2 (λe b a w hq hc2=>?_) (λx e b a w hx hq hc=>absurd hq.1 hx);replace hc2:=hc2.sub hq.2.1 hq.2.2;exact awp_ok (τ:=yI) qG aQ _ ζ (yr4 ls es tol h1 h2 h3 h4 h5 h6 h7 h8) hc2 (λx e b a w' hx hc'=>endO_ok qG hx hc')
instance Xp(ls:List LayD)(es:List Ent)(tol:Rat):DenI Tryz.prog 15 [.agg [(.sl 3 (ls.map aV)),.sl 7 (es.map aK)],R tol] (ls.length<=1000/\(∀l∈ls,l.name.size<=1000)/\es.length<=12/\(∀e∈es,okV e)/\(∀e∈es,kE (bW e))/\rz tol<=12/\¬tol<0/\dZ ls (es.map bW)=0) (.tup [.agg [(.sl 3 (ls.map aV)),.sl 7 ((aO (tol*tol) es).es.map aK)],.c (.sl 19 ((aO (tol*tol) es).cs.map jF)),.int .i64 0]):=⟨λ⟨h1,h2,h3,h4,h5,h6,h7,h8⟩=>S9 ls es tol h1 h2 h3 h4 h5 h6 h7 h8⟩
instance(priority:=60) VE(ls:List LayD)(es:List EntR)(q:Rat):DenI Tryz.prog 15 [.agg [(.sl 3 (ls.map aV)),.sl 7 (es.map aY)],R q] (ls.length<=1000/\es.length<=1000/\(∀l∈ls,l.name.size<=1000)/\(∀e∈es,kE e)/\(dZ ls es≠0\/q<0)/\rz q<=12) (.tup [.agg [.sl 3 [],.sl 7 []],.c (.sl 0 []),.int .i64 (if dZ ls es≠0 then dZ ls es else 1)]):=⟨λhp=>by
 obtain⟨h1,h2,h3,h4,h5,h6⟩:=hp
 all_goals refine aC Tryz.func15 rfl ?_
 all_goals(repeat'((try(conv=>whnf));first
  |apply zaf|refine zaa ?_ ?_|(with_reducible first|refine zad (λ_=>?_) (λ_=>?_)|refine zae (λ_=>?_) (λ_=>?_))|apply zaq))
 all_goals(try apply zar)
 all_goals(try simp only[aW]at *)
 all_goals first
  |exact⟨h1,h2,h3,h4⟩|(rename ¬dZ ls es=0=>h;rw[if_pos h];rfl)|(rename dZ ls es=0=>h;rw[if_neg (λg=>g h)];rfl)|(exfalso;rename ¬q<0=>h;exact h5.elim (λg=>g ξ) h)⟩
end Go.Proofs.YtmniihkenijjpaaGreatDoor
