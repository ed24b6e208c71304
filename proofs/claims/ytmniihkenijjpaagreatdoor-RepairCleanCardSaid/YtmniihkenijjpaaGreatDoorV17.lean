/-
  Rules of the abstract run, plain laws, and what functions answer, for the law RepairClean.
  Conditions: none.
-/
import Derived.Test.YtmniihkenijjpaaGreatDoorV16
import Derived.Shelf.LaysM
import Derived.Shelf.Strconv.Itoa1
import Derived.Shelf.Strconv.Itoa2
import Derived.Lib.Walk
import Derived.Lib.ItoaMem
import Derived.Lib.ItoaLen
import Derived.Lib.AppendIntMem
import Derived.WalkKit
import Derived.BigCall
import Derived.BigGuard
import Derived.Shelf.SlicesE.Clone
import Derived.Shelf.Strings.Repeat
import Derived.Lib.Builder
import Derived.Shelf.Strings.Builder1
set_option linter.all false
namespace Go.Proofs.YtmniihkenijjpaaGreatDoor
open Go Go.RowKit Go.Sw Go.Shelf
set_option maxRecDepth 100000
set_option maxHeartbeats 8000000
set_option synthInstance.maxSize 4000
set_option synthInstance.maxHeartbeats 400000
instance afl(sq:Rat)(sp:Spots)(n:Nat)(s:ByteArray)(v:P2):DenI Tryz.prog 92 [.gh (jgho Tryz.prog 9 45 8 (jst sq sp n)),.c (.v (.string s)),.agg (vecC v)] (s.size<=1000/\rz v.1<=12/\rz v.2<=12/\rz sq<=1000/\n<=1000000/\(∀p∈spotsAt sp s,rz p.1<=12/\rz p.2<=12)/\(spotsAt sp s).length<=1000000)
 (.tup [.gh (jgho Tryz.prog 9 45 8 (jst sq (joinP sq sp s v).1 (n+1))),.agg (vecC (joinP sq sp s v).2)]):=⟨λ⟨h1,h2,h3,h4,h5,h6,h7⟩=>Z4 sq sp n s v h1 h2 h3 h4 h5 h6 h7⟩
instance ZK(e:Ent)(a b:P2):DenI Tryz.prog 94 [.agg (aN e),.c (.sl 8 ([cellsOf (.agg (vecC a))]++[cellsOf (.agg (vecC b))]))] (e.pts.length<=1000000/\2=(aA e).length) (.agg (aN (dQ e [a,b]))):=⟨λhp=>(inferInstance:DenI Tryz.prog 94 [.agg (aN e),.c (.sl 8 ([a,b].map vecC))] (e.pts.length<=1000000/\[a,b].length=(aA e).length) (.agg (aN (dQ e [a,b])))).den hp⟩
theorem dG{l:List Ent}{e:Ent}{x:Nat}(h:l.length=x):(l++[e]).zipIdx=l.zipIdx++[(e,x)]:=by subst h;simp[List.zipIdx_append]
set_option maxHeartbeats 16000000 in
theorem Xn(tol:Rat)(es:List Ent)(sL:Nat)(ls:List (List Cell))(ht:rz tol<=12)(hle:es.length<=12)(hes:∀e∈es,(∀p∈e.pts,aF p)/\e.layer.size<=1000/\e.pts.length<=3):
 Den Tryz.prog 50 [.agg [.sl sL ls,.sl 7 (es.map aN)],R tol] (.tup [.c (.sl 8 ((bV (tol*tol) 0 [] es).es.zipIdx.map iI)),.own 47 19 ((bV (tol*tol) 0 [] es).cs.map kM)]):=by
 have i_t:RzB tol 12:=⟨ht⟩
 have hsq:rz (tol*tol)<=1000:=dY ω;have hj:=BZ (q:=aF) (sq:=tol*tol) (es:=es) (λe he=>(hes e he).1);refine Den.of ⟨ζ,λw X vs ho hX hl hR=>?_⟩ rfl
 haveI:WOk Tryz.prog w:=⟨ho⟩
 refine enter Tryz.func50 rfl rfl (by rw[hl];rfl) λa hF=>?_
 have hc:=args_conc (N:=76) hX hl hR hF;refine c_seq (awp_ok (τ:=DT) mg aP _ (QA:=λz e b=>z=.normal/\SubE [(2,.ptr 2 0),(3,.ptr 3 0),(4,.c (.v (.slice none 0 0))),(5,.c (.v (.slice none 0 0)))] e/\SubB [(2,.var [.sl sL ls,.sl 7 (es.map aN)]),(3,.var (ratC tol))] b) ζ ?_ hc ?_)
 case refine_1 =>
  all_goals(repeat'((try(conv=>whnf));first
   |apply zaf|refine zaa ?_ ?_|refine zao ?_ (λ_=>?_) (λ_=>?_)|(with_reducible first|apply zab|apply zac|refine zad (λ_=>?_) (λ_=>?_)|refine zae (λ_=>?_) (λ_=>?_))|refine zat (λ_=>?_) (λ_=>?_)|refine zah ?_ ?_|refine zas ζ ?_|refine zal ?_ ?_|refine zam ?_ ?_|(with_reducible first|refine zak ?_ ?_|apply zaj|apply zai)|apply zaq))
  all_goals(try apply zar)
  exact⟨rfl,⟨rfl,rfl,rfl,rfl,trivial⟩,⟨rfl,rfl,trivial⟩⟩
 clear hc;rintro x e b a w1 ⟨rfl,he,hb⟩ hc;replace hc:=hc.sub he hb;clear he hb;refine x_tn ?_;obtain⟨S,M,hs⟩:=hc;refine c_seq (c_reg ?_);refine wp1 rfl ex_makeMap ?_;have hB1:Below w1.heap.size w1 (w1.alloc (.map #[] 0)):=below_alloc w1 _;have hs2:=(hs.below hB1).putV (t:=17) (u:=.map (some w1.heap.size)) (v:=.any) ⟨ψ,rfl⟩ .any;have hm2:(w1.alloc (.map #[] 0)).heap[w1.heap.size]?=some (.map #[] 0):=heap_new w1 _;generalize w1.alloc (.map #[] 0)=w2 at hB1 hs2 hm2 ⊢;generalize hg0:w1.heap.size=g0 at hs2 hm2 ⊢;obtain⟨g3,T3,c3,v3,hh3,hr3⟩:=hs2.var (t:=3) (i:=3) rfl rfl;have hl3:c3.size=4:=by have:=hr3.len;simpa using this
 have hrow:isRow Tryz.prog 30 4=true:=ζ
 have hFm:Frm 76 _ [(3,.pointer (some ⟨g3,0,none⟩)),(17,.map (some g0))]:=(hs2.frm.cons (getD_put_same _ hs.sz ψ)).cons v3;refine wp1 rfl (nD hrow (hFm.ev rfl) hh3 (by simp[hl3])) ?_;have hs3:=hs2.putV (t:=18) (u:=.agg c3) (v:=.any) ⟨ψ,rfl⟩ .any;replace hFm:=hFm.put (d:=18) ψ (.agg c3);refine wp1 rfl (nD hrow (hFm.ev rfl) hh3 (by simp[hl3])) ?_;have hs4:=hs3.putV (t:=19) (u:=.agg c3) (v:=.any) ⟨ψ,rfl⟩ .any;replace hFm:=hFm.put (d:=19) ψ (.agg c3)
 have hd3:RepD w2 (bl S++X) (.agg c3) (R tol):=by
  obtain⟨c3⟩:=c3;exact .agg hr3
 have hden:=((inferInstance:DenI Tryz.prog 91 [R tol,R tol] _ (R (tol*tol))).den (by exact⟨aO ht ψ,aO ht ψ⟩)).old rfl;have hok2:Wld.ok Tryz.prog w2:=Wld.keep (Wld.keep ho hs.ms.st.below) hB1
 have hcall:=hden.2 w2 (bl S++X) [.agg c3,.agg c3] hok2 hs4.bnd rfl (λi u v hu hv=>by
  match i,hu,hv with
  |0,hu,hv=>cases hu;cases hv;exact hd3
  |1,hu,hv=>cases hu;cases hv;exact hd3)
 refine wp1c rfl (Ho ζ (map2 (hFm.ev rfl) (hFm.ev rfl)) rfl) hcall ?_;rintro u5 w3 ⟨hR5,hB3⟩;obtain⟨us5,rfl,hr5⟩:=hR5.agg;have hl5:us5.length=4:=by have:=hr5.len;simpa using this
 have hs5:=(hs4.below hB3).putV (t:=20) (u:=.agg us5.toArray) (v:=.any) ⟨ψ,rfl⟩ .any;replace hFm:=hFm.put (d:=20) ψ (.agg us5.toArray);have hm3:w3.heap[g0]?=some (.map #[] 0):=(hB3.block _ (lt_of_heap hm2)).trans hm2;refine wp1 rfl (ex_build15 (hFm.ev rfl) rfl (hFm.ev rfl) (run_build15 (tab_at fO (t:=133) rfl) rfl hl5)) ?_;have hs6:=hs5.putV (t:=21) (u:=.agg (#[.map (some g0)]++us5.toArray)) (v:=.any) ⟨ψ,rfl⟩ .any;replace hFm:=hFm.put (d:=21) ψ (.agg (#[.map (some g0)]++us5.toArray));refine wp1 rfl (ex_box (hFm.ev rfl)) ?_;have hc:=Sta.ghost0 (i:=22) (T:=133) (us:=.map (some g0)::us5) (G:=jgho Tryz.prog 9 45 8 (jst (tol*tol) [] 0)) (g0:=g0) hs hs6 ω hm3 rfl rfl rfl ⟨ψ,rfl⟩ (jrep0 hr5);rw[show(Value.map (some g0)::us5).toArray=(Value.agg (#[.map (some g0)]++us5.toArray)).cells by simp[Value.cells]]at hc;refine aops_ok mg (k:=λe b=>SubE [(6,.ptr 22 0),(2,.ptr 2 0)] e/\SubB [(22,.gh (jgho Tryz.prog 9 45 8 (jst (tol*tol) [] 0))),(2,.var [.sl sL ls,.sl 7 (es.map aN)])] b) ?_ ζ ?_ hc
 case refine_2 =>
  all_goals(repeat'((try(conv=>whnf));first
   |apply zaf|refine zaa ?_ ?_|refine zao ?_ (λ_=>?_) (λ_=>?_)|(with_reducible first|apply zab|apply zac|refine zad (λ_=>?_) (λ_=>?_)|refine zae (λ_=>?_) (λ_=>?_))|refine zat (λ_=>?_) (λ_=>?_)|refine zah ?_ ?_|refine zas ζ ?_|refine zal ?_ ?_|refine zam ?_ ?_|(with_reducible first|refine zak ?_ ?_|apply zaj|apply zai)|apply zaq))
  all_goals(try apply zar)
  exact⟨⟨rfl,rfl,trivial⟩,⟨rfl,rfl,trivial⟩⟩
 clear hc hFm hs6 hm3 hs5 hl5 hR5 hr5 hB3 hcall hok2 hden hd3 hs4 hs3 hrow hl3 hr3 hh3 v3 hm2 hs2 hg0 hB1 hs hF hR hl hX;rintro e b a w4 ⟨he,hb⟩ hc;replace hc:=hc.sub he hb;clear he hb;refine x_tn ?_;refine awp_ok (τ:=DT) mg aP _ (QA:=endO DT _ [none,some (47,19)] (.tup [.c (.sl 8 ((bV (tol*tol) 0 [] es).es.zipIdx.map iI)),.own 47 19 ((bV (tol*tol) 0 [] es).cs.map kM)])) ζ ?_ hc (λx e b a w' hx hc'=>endO_ok mg hx hc');clear hc ho
 (conv=>whnf);refine Sw.Loop.ghost 7 100 86 8 ?_ rfl rfl rfl ψ
 refine Sw.Loop.ghost 8 101 47 19 ?_ rfl rfl rfl ψ;refine Sw.Loop.inv (α:=Nat) (λx=>[(6,.ptr 22 0),(24,.c (.sl 7 (es.map aN))),(25,.int .i64 (es.length:Nat)),(26,.int .i64 (x:Nat)),(7,.gs 100 ((jA (tol*tol) es x).es.zipIdx.map iI).length),(8,.gs 101 ((jA (tol*tol) es x).cs.map kM).length)]) (λx=>[(22,.gh (jgho Tryz.prog 9 45 8 (jst (tol*tol) (jA (tol*tol) es x).sp (nE es x)))),(100,.grow 86 8 ((jA (tol*tol) es x).es.zipIdx.map iI)),(101,.grow 47 19 ((jA (tol*tol) es x).cs.map kM))]) (λx=>x<=es.length) (λx=>es.length-x) 0 ?_ ?_ ?_ (λx hx=>?_)
 .exact⟨rfl,rfl,by simp only[aG];rfl,rfl,rfl,rfl,trivial⟩
 .exact⟨rfl,rfl,rfl,trivial⟩
 .exact jm _
 obtain⟨j1,j2,j3,j4,j5⟩:=hj x hx;obtain⟨g1,g2,g3'⟩:=QL hes x;have hn2:=DU es x;rcases iY (es.getD x E0)with hE|⟨a,b,hE⟩
 .haveI ie:DenI Tryz.prog 30 [.agg (aN (es.getD (Int.toNat ((x:Nat):Int)) E0))] ((es.getD x E0).pts.length<=1000000) (.tup [.c (.sl 8 []),.bool false]):=⟨λhp=>by have:=(jX (es.getD x E0)).den hp;rw[hE]at this;simpa using this⟩
  all_goals(repeat'((try(conv=>whnf));first
   |apply zaf|refine zaa ?_ ?_|refine zao ?_ (λ_=>?_) (λ_=>?_)|(with_reducible first|apply zab|apply zac|refine zad (λ_=>?_) (λ_=>?_)|refine zae (λ_=>?_) (λ_=>?_))|refine zat (λ_=>?_) (λ_=>?_)|refine zah ?_ ?_|refine zas ζ ?_|refine zal ?_ ?_|refine zam ?_ ?_|(with_reducible first|refine zak ?_ ?_|apply zaj|apply zai)|refine zan E0 ?_ ?_|apply zaq))
  all_goals(try apply zar)
  all_goals first
   |((conv=>whnf);refine Sw.Loop.unroll ?_)|skip
  all_goals(repeat'((try rw[Fh]);(try rw[BN]);(try(conv=>whnf));first
   |apply zaf|refine zaa ?_ ?_|(with_reducible first|apply zab|apply zac)|refine dR (by simp only[aZ,bF];decide) ?_|refine eP (by simp only[aZ,bF];decide) ?_|refine dR ψ ?_|refine eP ψ ?_|(with_reducible first|refine zad (λ_=>?_) (λ_=>?_)|refine zae (λ_=>?_) (λ_=>?_))|refine zat (λ_=>?_) (λ_=>?_)|refine zah ?_ ?_|refine zas ζ ?_|refine zal ?_ ?_|refine zam ?_ ?_|(with_reducible first|refine zak ?_ ?_|apply zaj|apply zai)|apply zaq))
  all_goals(try apply zar)
  all_goals(try simp only[aG,dn]at *)
  all_goals first
   |((with_reducible show(_:Nat)=_);rfl)|omega|((with_reducible show(_:Nat)<=_);simp only[bD,aG,PK,aZ,bF];omega)|((with_reducible show packA _=_);have hxx:x=es.length:=ω;subst hxx;rw[lY];rfl)|(exfalso;rename_i q;simp at q;done)|(obtain⟨hA,hN⟩:=WE (tol*tol) es (x:=x) ω hE;(conv=>whnf);exact⟨x+1,⟨⟨rfl,rfl,rfl,aH ω,(by(simp only[hA,hN,dG j5,bG,bQ,bU,bI,bD,aG,aZ,bF]);(first|done|rfl)),(by(simp only[hA,hN,dG j5,bG,bQ,bU,bI,bD,aG,aZ,bF]);(first|done|rfl)),trivial⟩,⟨(by(simp only[hA,hN,dG j5,bG,bQ,bU,bI]);(first|done|rfl)),(by(simp only[hA,hN,dG j5,bG,bQ,bU,bI]);(first|done|rfl)),(by(simp only[hA,hN,dG j5,bG,bQ,bU,bI]);(first|done|rfl)),trivial⟩,ω,(by show es.length-(x+1)<es.length-x;omega)⟩⟩)|skip
 .haveI ie:DenI Tryz.prog 30 [.agg (aN (es.getD (Int.toNat ((x:Nat):Int)) E0))] ((es.getD x E0).pts.length<=1000000) (.tup [.c (.sl 8 [vecC a,vecC b]),.bool true]):=⟨λhp=>by have:=(jX (es.getD x E0)).den hp;rw[hE]at this;simpa using this⟩
  have ha:aF a:=g1 a (dA (by rw[hE];simp));have hb:aF b:=g1 b (dA (by rw[hE];simp));have f1:=nU (q:=aF) (sq:=tol*tol) (s:=(es.getD x E0).layer) j1 ha;have f2:=nU (q:=aF) (sq:=tol*tol) (s:=(es.getD x E0).layer) f1.1 hb
  all_goals(repeat'((try(conv=>whnf));first
   |apply zaf|refine zaa ?_ ?_|refine zao ?_ (λ_=>?_) (λ_=>?_)|(with_reducible first|apply zab|apply zac|refine zad (λ_=>?_) (λ_=>?_)|refine zae (λ_=>?_) (λ_=>?_))|refine zat (λ_=>?_) (λ_=>?_)|refine zah ?_ ?_|refine zas ζ ?_|refine zal ?_ ?_|refine zam ?_ ?_|(with_reducible first|refine zak ?_ ?_|apply zaj|apply zai)|refine zan E0 ?_ ?_|apply zaq))
  all_goals(try apply zar)
  all_goals first
   |((conv=>whnf);refine Sw.Loop.unroll ?_)|skip
  all_goals(repeat'((try rw[Fh]);(try rw[BN]);(try(conv=>whnf));first
   |apply zaf|refine zaa ?_ ?_|(with_reducible first|apply zab|apply zac)|refine dR (by simp only[aZ,bF];decide) ?_|refine eP (by simp only[aZ,bF];decide) ?_|refine dR ψ ?_|refine eP ψ ?_|(with_reducible first|refine zad (λ_=>?_) (λ_=>?_)|refine zae (λ_=>?_) (λ_=>?_))|refine zat (λ_=>?_) (λ_=>?_)|refine zah ?_ ?_|refine zas ζ ?_|refine zal ?_ ?_|refine zam ?_ ?_|(with_reducible first|refine zak ?_ ?_|apply zaj|apply zai)|apply zaq))
  all_goals(try apply zar)
  all_goals first
   |((conv=>whnf);refine Sw.Loop.unroll ?_)|skip
  all_goals(repeat'((try rw[Fh]);(try rw[BN]);(try(conv=>whnf));first
   |apply zaf|refine zaa ?_ ?_|(with_reducible first|apply zab|apply zac)|refine dR (by simp only[aZ,bF];decide) ?_|refine eP (by simp only[aZ,bF];decide) ?_|refine dR ψ ?_|refine eP ψ ?_|(with_reducible first|refine zad (λ_=>?_) (λ_=>?_)|refine zae (λ_=>?_) (λ_=>?_))|refine zat (λ_=>?_) (λ_=>?_)|refine zah ?_ ?_|refine zas ζ ?_|refine zal ?_ ?_|refine zam ?_ ?_|(with_reducible first|refine zak ?_ ?_|apply zaj|apply zai)|apply zaq))
  all_goals(try apply zar)
  all_goals first
   |((conv=>whnf);refine Sw.Loop.unroll ?_)|skip
  all_goals(repeat'((try rw[Fh]);(try rw[BN]);(try(conv=>whnf));first
   |apply zaf|refine zaa ?_ ?_|(with_reducible first|apply zab|apply zac)|refine dR (by simp only[aZ,bF];decide) ?_|refine eP (by simp only[aZ,bF];decide) ?_|refine dR ψ ?_|refine eP ψ ?_|(with_reducible first|refine zad (λ_=>?_) (λ_=>?_)|refine zae (λ_=>?_) (λ_=>?_))|refine zat (λ_=>?_) (λ_=>?_)|refine zah ?_ ?_|refine zas ζ ?_|refine zal ?_ ?_|refine zam ?_ ?_|(with_reducible first|refine zak ?_ ?_|apply zaj|apply zai)|apply zaq))
  all_goals(try apply zar)
  all_goals(try simp only[aG,dn]at *)
  all_goals first
   |((with_reducible show(_:Nat)=_);rfl)|omega|((with_reducible show(_:Nat)<=_);simp only[bD,aG,PK,aZ,bF];omega)|((with_reducible show packA _=_);have hxx:x=es.length:=ω;subst hxx;rw[lY];rfl)|((with_reducible show _/\_);first|exact⟨g2,ha.1,ha.2,hsq,ω,spq j1,by have:=tN (jA (tol*tol) es x).sp (es.getD x E0).layer;omega⟩|exact⟨g2,hb.1,hb.2,hsq,ω,spq f1.1,by have:=tN (joinP (tol*tol) (jA (tol*tol) es x).sp (es.getD x E0).layer a).1 (es.getD x E0).layer;have:=f1.2.2;omega⟩|exact⟨aO ha.1 ψ,aO ha.2 ψ,aO f1.2.1.1 ψ,aO f1.2.1.2 ψ⟩|exact⟨aO hb.1 ψ,aO hb.2 ψ,aO f2.2.1.1 ψ,aO f2.2.1.2 ψ⟩|exact⟨ω,by rw[hE];rfl⟩)|(exfalso;rename_i q;simp at q;done)|(obtain⟨hA,hN⟩:=V4 (tol*tol) es (x:=x) ω hE;first|(have q1:=PO (i:=x) (k:=0) (a:=a) (w:=(joinP (tol*tol) (jA (tol*tol) es x).sp (es.getD x E0).layer a).2) ξ;have q2:=PO (i:=x) (k:=1) (a:=b) (w:=(joinP (tol*tol) (joinP (tol*tol) (jA (tol*tol) es x).sp (es.getD x E0).layer a).1 (es.getD x E0).layer b).2) ξ;(conv=>whnf);exact⟨x+1,⟨⟨rfl,rfl,rfl,aH ω,(by(simp only[hA,hN,q1,q2,dG j5,mX,pq,jR,bG,bQ,bU,bI,bD,aG,aZ,bF]);(first|done|rfl)),(by(simp only[hA,hN,q1,q2,dG j5,mX,pq,jR,bG,bQ,bU,bI,bD,aG,aZ,bF]);(first|done|rfl)),trivial⟩,⟨(by(simp only[hA,hN,q1,q2,dG j5,mX,pq,jR,bG,bQ,bU,bI]);(first|done|rfl)),(by(simp only[hA,hN,q1,q2,dG j5,mX,pq,jR,bG,bQ,bU,bI]);(first|done|rfl)),(by(simp only[hA,hN,q1,q2,dG j5,mX,pq,jR,bG,bQ,bU,bI]);(first|done|rfl)),trivial⟩,ω,(by show es.length-(x+1)<es.length-x;omega)⟩⟩)|(have q1:=PO (i:=x) (k:=0) (a:=a) (w:=(joinP (tol*tol) (jA (tol*tol) es x).sp (es.getD x E0).layer a).2) ξ;have q2:=Rf (i:=x) (k:=1) (a:=b) (w:=(joinP (tol*tol) (joinP (tol*tol) (jA (tol*tol) es x).sp (es.getD x E0).layer a).1 (es.getD x E0).layer b).2) ξ;(conv=>whnf);exact⟨x+1,⟨⟨rfl,rfl,rfl,aH ω,(by(simp only[hA,hN,q1,q2,dG j5,mX,pq,jR,bG,bQ,bU,bI,bD,aG,aZ,bF]);(first|done|rfl)),(by(simp only[hA,hN,q1,q2,dG j5,mX,pq,jR,bG,bQ,bU,bI,bD,aG,aZ,bF]);(first|done|rfl)),trivial⟩,⟨(by(simp only[hA,hN,q1,q2,dG j5,mX,pq,jR,bG,bQ,bU,bI]);(first|done|rfl)),(by(simp only[hA,hN,q1,q2,dG j5,mX,pq,jR,bG,bQ,bU,bI]);(first|done|rfl)),(by(simp only[hA,hN,q1,q2,dG j5,mX,pq,jR,bG,bQ,bU,bI]);(first|done|rfl)),trivial⟩,ω,(by show es.length-(x+1)<es.length-x;omega)⟩⟩)|(have q1:=Rf (i:=x) (k:=0) (a:=a) (w:=(joinP (tol*tol) (jA (tol*tol) es x).sp (es.getD x E0).layer a).2) ξ;have q2:=PO (i:=x) (k:=1) (a:=b) (w:=(joinP (tol*tol) (joinP (tol*tol) (jA (tol*tol) es x).sp (es.getD x E0).layer a).1 (es.getD x E0).layer b).2) ξ;(conv=>whnf);exact⟨x+1,⟨⟨rfl,rfl,rfl,aH ω,(by(simp only[hA,hN,q1,q2,dG j5,mX,pq,jR,bG,bQ,bU,bI,bD,aG,aZ,bF]);(first|done|rfl)),(by(simp only[hA,hN,q1,q2,dG j5,mX,pq,jR,bG,bQ,bU,bI,bD,aG,aZ,bF]);(first|done|rfl)),trivial⟩,⟨(by(simp only[hA,hN,q1,q2,dG j5,mX,pq,jR,bG,bQ,bU,bI]);(first|done|rfl)),(by(simp only[hA,hN,q1,q2,dG j5,mX,pq,jR,bG,bQ,bU,bI]);(first|done|rfl)),(by(simp only[hA,hN,q1,q2,dG j5,mX,pq,jR,bG,bQ,bU,bI]);(first|done|rfl)),trivial⟩,ω,(by show es.length-(x+1)<es.length-x;omega)⟩⟩)|(have q1:=Rf (i:=x) (k:=0) (a:=a) (w:=(joinP (tol*tol) (jA (tol*tol) es x).sp (es.getD x E0).layer a).2) ξ;have q2:=Rf (i:=x) (k:=1) (a:=b) (w:=(joinP (tol*tol) (joinP (tol*tol) (jA (tol*tol) es x).sp (es.getD x E0).layer a).1 (es.getD x E0).layer b).2) ξ;(conv=>whnf);exact⟨x+1,⟨⟨rfl,rfl,rfl,aH ω,(by(simp only[hA,hN,q1,q2,dG j5,mX,pq,jR,bG,bQ,bU,bI,bD,aG,aZ,bF]);(first|done|rfl)),(by(simp only[hA,hN,q1,q2,dG j5,mX,pq,jR,bG,bQ,bU,bI,bD,aG,aZ,bF]);(first|done|rfl)),trivial⟩,⟨(by(simp only[hA,hN,q1,q2,dG j5,mX,pq,jR,bG,bQ,bU,bI]);(first|done|rfl)),(by(simp only[hA,hN,q1,q2,dG j5,mX,pq,jR,bG,bQ,bU,bI]);(first|done|rfl)),(by(simp only[hA,hN,q1,q2,dG j5,mX,pq,jR,bG,bQ,bU,bI]);(first|done|rfl)),trivial⟩,ω,(by show es.length-(x+1)<es.length-x;omega)⟩⟩))|skip
instance aaT(tol:Rat)(es:List Ent)(sL:Nat)(ls:List (List Cell)):DenI Tryz.prog 50 [.agg [.sl sL ls,.sl 7 (es.map aN)],R tol] (rz tol<=12/\es.length<=12/\∀e∈es,RS e) (.tup [.c (.sl 8 ((bV (tol*tol) 0 [] es).es.zipIdx.map iI)),.own 47 19 ((bV (tol*tol) 0 [] es).cs.map kM)]):=⟨λ⟨h1,h2,h3⟩=>Xn tol es sL ls h1 h2 h3⟩
def Yh:Tab:=(2000000001,.flag)::DT
theorem RV:tabOk Tryz.prog Yh=true:=ζ
instance aaZ(e:Ent)(l:List P2):DenI Tryz.prog 57 [.agg (aN e),.c (.sl 8 (l.map vecC))] (e.pts.length<=1000000/\l.length=(aA e).length) (.agg (aN (dQ e l))):=⟨λhp=>by
 obtain⟨hp1,hp2⟩:=hp;have hsh:=rJ e
 all_goals refine den_of (τ:=Yh) RV aP Tryz.func57 rfl ζ ζ ζ ?_
 all_goals(repeat'((try(conv=>whnf));first
  |(with_reducible refine zad (λ_=>?_) (λ_=>?_))|refine zah ?_ ?_|refine zas ζ ?_|refine uo P0 _ ?_ ?_|refine zan P0 ?_ ?_|apply zaq))
 all_goals(try apply zar)
 all_goals(try simp only[mX,aG]at *)
 all_goals(try simp(disch:=omega) only[aS]at *)
 all_goals first
  |omega|((with_reducible show(_:Nat)=_);simp only[ku,bD,aG,bF,oV])|exact zn ω hp2 ω|exact Dz ξ hp2⟩
theorem uZ{w:World}{X X':List Nat}{s:Nat}{u:Value}(h:RepC w X u (.sl s [])):RepC w X' u (.sl s []):=by
 cases h with
 |sl A n cap s uss es hn hu hc hcap hmx hs hr =>
  have:uss=[]:=BG hu;subst this;exact .sl A n cap s [] [] hn rfl (Cl.nil _ _ _) hcap hmx (λi us e h=>by simp at h) (λi us e h=>by simp at h)
theorem Iw{sq:Rat}{v p:P2}{s:ByteArray}{sp:Spots}{b:Int}(hb:jQ sq v s sp sp.length b)(h:nearG sq v (spotsAt sp s)=some p):∃j:Nat,b=(j:Nat)/\j<sp.length/\(sp.getD j S0).2=p:=by
 unfold jQ at hb;rw[Kr,h]at hb;rcases hb with⟨q1,q2⟩|⟨q1,q2,q3⟩
 .cases q2
 .obtain⟨j,rfl⟩:=Int.eq_ofNat_of_zero_le q1;injection q3 with q3
  exact⟨j,rfl,ω,q3.symm⟩
theorem QB{w:World}{X X':List Nat}{us:List Value}(h:RepL w X us Pz):RepL w X' us Pz:=⟨h.len,λj u c hu hc=>by
 have h1:=h.get j u c hu hc
 match j,hc with
 |0,hc=>cases hc;cases h1 with|v u h=>exact .v _ h
 |2,hc=>cases hc;cases h1 with|v u h=>exact .v _ h
 |4,hc=>cases hc;cases h1 with|v u h=>exact .v _ h
 |6,hc=>cases hc;cases h1 with|v u h=>exact .v _ h
 |1,hc=>cases hc;exact uZ h1
 |3,hc=>cases hc;exact uZ h1
 |5,hc=>cases hc;exact uZ h1
 |7,hc=>cases hc;exact uZ h1⟩
theorem Ld{P:Program}{fn:Func}{R:Ending->World->Prop}{a:Act}{w:World}{r r':ResultVar}{u u':Value}(hr:fn.results.toList=[r,r'])(hd:a.defers=[])(h1:(resRun a.tmps r).run P w=.ok u w)(h2:(resRun a.tmps r').run P w=.ok u' w)(hR:R (.returned (.tuple #[u,u'])) w):bodyPost P fn R .ret a w :=
 ⟨hd,.tuple #[u,u'],by rw[run_results,Sem.run_bind,TL,hr];simp[h1,h2],hR⟩
set_option maxHeartbeats 16000000 in
theorem LG(sp:Spots)(s:ByteArray)(v:P2)(tol:Rat)(h1:sp.length<=1000000)(hv:aF v)(ht:rz tol<=12)(hs:∀p∈sp,aF p.2):
 Den Tryz.prog 55 [.own 95 9 (sp.map o9),.c (.v (.string s)),.agg (vecC v),R tol] (.tup [.own 95 9 (sp.map o9),Tm (nearG (tol*tol) v (spotsAt sp s))]):=by
 refine⟨ζ,λw X g cap uss rest vs ho hX hgX hg hRS hcap hm hn hs0 hl hR=>?_⟩
 haveI:WOk Tryz.prog w:=⟨ho⟩
 have hgw:g<w.heap.size:=hX g hgX;obtain⟨X1,hX1⟩:∃X1,X1=X.filter (λx=>!(Nat.beq x g)):=⟨_,rfl⟩
 have hsub:∀x∈X1,x∈X:=λx hx=>by rw[hX1]at hx;exact(xZ.1 hx).1
 have hgX1:g ∉ X1:=λhx=>by rw[hX1]at hx;have:=(xZ.1 hx).2;simp at this
 have hE1:Ext w X w X1:=Ext.drop hsub
 have hcl:Cl w X1 (some ⟨g,0,none⟩) uss.flatten:=by
  have:=Cl.of_block hg hgX1 uss.flatten.length
  rwa [JR,List.take_left]at this
 have hd0:RepD w X1 (.slice (some ⟨g,0,none⟩) (sp.map o9).length cap) (.c (.sl 9 (sp.map o9))):=.c ((hRS.ext hE1).sl hcl hn (aO hm ψ))
 match vs,hl with
 |[x1,x2,x3],_ =>
 have hargs:∀(i:Nat) u y,[.slice (some ⟨g,0,none⟩) (sp.map o9).length cap,x1,x2,x3][i]?=some u->[.c (.sl 9 (sp.map o9)),.c (.v (.string s)),.agg (vecC v),R tol][i]?=some y->RepD w X1 u y:=λi u y hu hv=>by
  match i,hu,hv with
  |0,hu,hv=>cases hu;cases hv;exact hd0
  |1,hu,hv=>cases hu;cases hv;exact(hR 0 _ _ rfl rfl).ext hE1
  |2,hu,hv=>cases hu;cases hv;exact(hR 1 _ _ rfl rfl).ext hE1
  |3,hu,hv=>cases hu;cases hv;exact(hR 2 _ _ rfl rfl).ext hE1
 cases hnq:nearG (tol*tol) v (spotsAt sp s)with
 |none =>
  have hden:=((FH sp s v tol).den ⟨h1,hv,ht,hs⟩).old rfl;rw[hnq]at hden;refine(hden.2 w X1 [.slice (some ⟨g,0,none⟩) (sp.map o9).length cap,x1,x2,x3] ho (λm hm=>hX m (hsub m hm)) rfl hargs).mono ?_;rintro en w' ⟨u,rfl,hR',hB⟩;refine⟨u,rfl, ?_,⟨hB.os,hB.tape,hB.output,hB.size,λk hk _=>hB.block k hk⟩,rfl,uss,(hB.block g hgw).trans hg,hRS.ext (Ext.call X hB)⟩;have hR2:=hR'.r rfl;cases hR2 with
  |d hd=>cases hd
  |tup hl h =>
   refine .tup hl λi u y hu hv=>?_
   have h0:=h i u y hu hv
   match i,hv with
   |0,hv=>cases hv;cases h0 with|agg h=>exact .agg (QB h)
   |1,hv=>cases hv;cases h0 with|c h=>cases h with|v u h=>exact .c (.v _ h)
 |some p =>
 have i_t:RzB tol 12:=⟨ht⟩
 have hq:rz (tol*tol)<=1000:=dY ω
 have hgd:∀i,aF (sp.getD i S0).2:=λi=>by
  by_cases hi:i<sp.length
  .have:sp.getD i S0=sp[i]:=by simp[iC,hi]
   rw[this];exact hs _ (yw hi)
  .have:sp.getD i S0=S0:=by simp[iC,Nat.le_of_not_lt hi]
   rw[this];exact⟨by decide +kernel,by decide +kernel⟩
 refine enter (vs:=[_,_,_,_]) Tryz.func55 rfl rfl rfl λa hF=>?_
 have hc:=args_conc (N:=67) (w:=w) (X:=X1) (xs:=[.c (.sl 9 (sp.map o9)),.c (.v (.string s)),.agg (vecC v),R tol]) (vs:=[.slice (some ⟨g,0,none⟩) (sp.map o9).length cap,x1,x2,x3]) (a:=a) (λm hm=>hX m (hsub m hm)) rfl hargs hF
 have hc:=Conc.keep [(0,.slice (some ⟨g,0,none⟩) (sp.map o9).length cap)] hc (λt u h=>by
  simp only[tZ,mV]at h;obtain⟨rfl,rfl⟩:=h
  exact hF.get 0 _ rfl)
 letI kp1:Kp:=⟨[(0,.slice (some ⟨g,0,none⟩) (sp.map o9).length cap)],[]⟩
 replace hc : @Conc kp1 67 w X1 _ _ _ _:=hc;refine cut_ok (τ:=uJ) fO aP 4 _ (QA:=λz e bx=>z=.normal/\∃j:Nat,j<sp.length/\(sp.getD j S0).2=p/\SubE [(8,.ptr 8 0),(10,.int .i64 (j:Nat))] e/\SubB [(8,.var Pz)] bx) ζ ?_ hc (λe bx a1 w1 hq1 hc2=>?_) (λx e b a w hx hq hc=>absurd hq.1 hx)
 case refine_1 =>
  clear hc hF hargs hd0 hcl hR hRS hg hcap hm hn hs0 hgX1 hE1 hsub hX hgX hgw hs
  (conv=>whnf)
  refine Sw.Loop.inv (α:=Nat×Int) (λz=>[(0,.c (.sl 9 (sp.map o9))),(1,.c (.v (.string s))),(6,.ptr 6 0),(7,.ptr 7 0),(8,.ptr 8 0),(9,.bool false),(10,.int .i64 z.2),(11,.int .i64 (z.1:Nat))]) (λz=>[(6,.var (vecC v)),(7,.var (ratC tol)),(8,.var Pz)]) (λz=>z.1<=sp.length/\jQ (tol*tol) v s sp z.1 z.2) (λz=>sp.length-z.1) (0,-1) ?_ ?_ ?_ (λz hz=>?_)
  .exact⟨rfl,rfl,rfl,rfl,rfl,rfl,rfl,rfl,trivial⟩
  .exact⟨rfl,rfl,rfl,trivial⟩
  .exact⟨jm _,YJ⟩
  obtain⟨x,b⟩:=z;obtain⟨hx,hb⟩:=hz;simp only at hx hb;have hbx:b = -1\/(0<=b/\b<x):=hb.elim (λh => .inl h.1) (λh => .inr ⟨h.1,h.2.1⟩)
  all_goals(repeat'((try(conv=>whnf));first
   |refine zaa ?_ ?_|(with_reducible first|apply zab|apply zac|refine zad (λ_=>?_) (λ_=>?_))|refine zat (λ_=>?_) (λ_=>?_)|refine zas ζ ?_|refine zan S0 ?_ ?_))
  all_goals(try apply zar)
  all_goals(try simp only[aG,dn]at *)
  all_goals(try simp only[aV]at *)
  all_goals first
   |omega|exact⟨aO (hgd _).1 ψ,aO (hgd _).2 ψ,aO hv.1 ψ,aO hv.2 ψ⟩|exact⟨aO (lW (hgd _).1 (hgd _).2 hv.1 hv.2) ψ,aO hq ψ⟩|exact⟨aO (lW (hgd _).1 (hgd _).2 hv.1 hv.2) ψ,aO (lW (hgd _).1 (hgd _).2 hv.1 hv.2) ψ⟩|((conv=>whnf);exact⟨(x+1,b),⟨⟨rfl,rfl,rfl,rfl,rfl,rfl,rfl,aH ω,trivial⟩,⟨rfl,rfl,rfl,trivial⟩,⟨(by show x+1<=sp.length;omega),TT hb ω ξ⟩,(by show sp.length-(x+1)<sp.length-x;omega)⟩⟩)|((conv=>whnf);exact⟨(x+1,b),⟨⟨rfl,rfl,rfl,rfl,rfl,rfl,rfl,aH ω,trivial⟩,⟨rfl,rfl,rfl,trivial⟩,⟨(by show x+1<=sp.length;omega),L9 hb ω ξ ξ⟩,(by show sp.length-(x+1)<sp.length-x;omega)⟩⟩)|((conv=>whnf);exact⟨(x+1,(x:Int)),⟨⟨rfl,rfl,rfl,rfl,rfl,rfl,rfl,aH ω,trivial⟩,⟨rfl,rfl,rfl,trivial⟩,⟨(by show x+1<=sp.length;omega),GL hb ω ξ ξ (by first|exact .inl ω|exact .inr ξ)⟩,(by show sp.length-(x+1)<sp.length-x;omega)⟩⟩)|((conv=>whnf);exact⟨(x+1,b),⟨⟨rfl,rfl,rfl,rfl,rfl,rfl,rfl,aH ω,trivial⟩,⟨rfl,rfl,rfl,trivial⟩,⟨(by show x+1<=sp.length;omega),Iy hb ω ξ ω ξ⟩,(by show sp.length-(x+1)<sp.length-x;omega)⟩⟩)|((conv=>whnf);have hxx:x=sp.length:=ω;subst hxx;obtain⟨j,rfl,k1,k2⟩:=Iw hb hnq;exact⟨rfl,j,k1,k2,⟨rfl,rfl,trivial⟩,⟨rfl,trivial⟩⟩)|(exfalso;have hxx:x=sp.length:=ω;subst hxx;obtain⟨j,rfl,k1,k2⟩:=Iw hb hnq;omega)
 obtain⟨_,j,hj,hjp,he,hb⟩:=hq1;have hc:=hc2.sub he hb;clear he hb hc2;obtain⟨g8,T8,cs8,v8,hg8,hh8,hr8⟩:=hc.var (t:=8) (i:=8) rfl rfl;have hB:=hc.sz.2.2;have hl8:cs8.size=8:=by have:=hr8.len;simpa using this
 have hFm:Frm 67 a1 [(0,.slice (some ⟨g,0,none⟩) (sp.map o9).length cap),(8,.pointer (some ⟨g8,0,none⟩)),(10,.int .i64 (j:Nat))]:=((hc.frm.cons (hc.get (t:=10) rfl η)).cons v8).cons (hc.kp (.head _));have hsz45:(Tryz.prog.info? 45).map (·.size)=some 8:=ζ
 have hrow:isRow Tryz.prog 45 8=true:=ζ
 obtain⟨_,hsl91,_⟩:=sliceT (tab_at fO (t:=91) rfl);have hjl:j<(sp.map o9).length:=by simpa using hj
 have hju:j<uss.length:=by rw[hRS.len];exact hjl
 have hRj:RepL w X uss[j] (o9 (sp.getD j S0)):=hRS.get j _ _ (gG hju) (by simp[iC,hj]);have hl9:(uss[j]).length=9:=hRj.len;have hfl:(uss.flatten).length=uss.length*9:=flatten_len hRS.sz;have hg1:w1.heap[g]?=some (.cells (uss.flatten++rest).toArray 95 (0,0)):=(hB.block g hgw).trans hg;have hx9:j*9+9<=uss.length*9:=by have:=Nat.mul_le_mul_right 9 (show j+1<=uss.length from hju);omega
 have hcut:(uss.flatten++rest).toArray.extract (j*9+1) (j*9+1+8)=((uss[j]).drop 1).toArray:=by
  apply yc;apply Pg;intro i;simp only[Array.toList_extract,List.extract_eq_drop_take,JR];rw[xJ,BH]
  by_cases hi:i<8
  .rw[if_pos ω,BH,Eu ω,Nat.add_assoc,flatten_at hRS.sz (gG hju) (1+i) ω]
  .rw[if_neg ω,List.getElem?_eq_none (by rw[List.length_drop];omega)]
 have hex:j*9+1+8<=(uss.flatten++rest).toArray.size:=by simp only[IL,bD];omega
 have hrd:RepL w X ((uss[j]).drop 1) (vecC p):=by
  rw[<-hjp];exact hRj.drop 1
 have hld:((uss[j]).drop 1).length=8:=hrd.len;have hst:=run_storeAt (P:=Tryz.prog) (w:=w1) (t:=45) (T:=T8) (g:=g8) (off:=0) (v:=.agg ((uss[j]).drop 1).toArray) (vs:=((uss[j]).drop 1).toArray) (cs:=cs8) rfl (by rw[hsz45];simp[hl9]) (all_one hrd.one) hh8 (by simp[hl9,hl8]);rw[splice_all (by simp[hl9,hl8])]at hst;have hgr:=grownBy_setRow w1 g8 ((uss[j]).drop 1).toArray;have hh8':=setRow_heap w1 g8 cs8 ((uss[j]).drop 1).toArray _ _ hh8;have hB5:Below w.heap.size w (w1.setRow g8 ((uss[j]).drop 1).toArray):=⟨hgr.os.trans hB.os,hgr.tape.trans hB.tape,hgr.output.trans hB.output,aO hB.size hgr.size,λk hk=>(hgr.block k (Au hk hB.size) (λe=>by cases e;omega)).trans (hB.block k hk)⟩
 refine c_seq (c_reg (wp1 rfl (ex_move (hFm.ev rfl)) ?_));replace hFm:=hFm.put (d:=62) ψ (.slice (some ⟨g,0,none⟩) (sp.map o9).length cap);refine wp1 rfl (ex_move (hFm.ev rfl)) ?_;replace hFm:=hFm.put (d:=63) ψ (.int .i64 (j:Nat));refine wp1 rfl (ex_idxq hsl91 (hFm.ev rfl) (hFm.ev rfl) hjl) ?_;replace hFm:=hFm.put (d:=64) ψ (.pointer (some ⟨g,j*9,none⟩));refine wp1 rfl (ex_field_addr (off:=1) ζ (hFm.ev rfl)) ?_;replace hFm:=hFm.put (d:=65) ψ (.pointer (some ⟨g,j*9+1,none⟩));refine wp1 rfl (zC hrow (hFm.ev rfl) hg1 hex) ?_;rw[hcut];replace hFm:=hFm.put (d:=66) ψ (.agg ((uss[j]).drop 1).toArray);refine wp1s rfl (ex_store (hFm.ev rfl) (hFm.ev rfl) hst) ?_;refine wp1 rfl (ex_assign (v:=.bool true) rfl) ?_;replace hFm:=hFm.put (d:=9) ψ (.bool true);refine(show Exit.then _ _ .normal _ _ from x_tn (c_ret ?_));refine Ld rfl hFm.defers (wZ hFm rfl hrow hh8' (by simp[hl9])) (jd hFm rfl) ⟨_,rfl, ?_,⟨hB5.os,hB5.tape,hB5.output,hB5.size,λk hk _=>hB5.block k hk⟩,rfl,uss,(hB5.block g hgw).trans hg,hRS.ext (Ext.call X hB5)⟩;refine RepR.tup (us:=[_,_]) (vs:=[_,_]) rfl λi u y hu hv=>?_
 match i,hu,hv with
 |0,hu,hv=>cases hu;cases hv;exact .agg (hrd.ext (Ext.call X hB5))
 |1,hu,hv=>cases hu;cases hv;exact .c (.v _ rfl)
def abJ:List Cell:=[.v (.string ⟨#[]⟩),.v (.int .i64 0),.v (.string ⟨#[108,105,110,101]⟩),.v (.int .i64 2),.v (.string ⟨#[97,114,99]⟩),.v (.int .i64 3),.v (.string ⟨#[99,105,114,99,108,101]⟩),.v (.int .i64 1)]
def Zb:List Value:=[.string ⟨#[]⟩,.int .i64 0,.string ⟨#[108,105,110,101]⟩,.int .i64 2,.string ⟨#[97,114,99]⟩,.int .i64 3,.string ⟨#[99,105,114,99,108,101]⟩,.int .i64 1]
def Om(w:World):Prop:=∀(j:Nat) u,Zb[j]?=some u->w.cell? ((⟨0,0,none⟩:Addr).add j)=some u
theorem Mc{w w':World}(h:Om w)(hb:Below w.heap.size w w'):Om w':=λj u hu=>by
 have h1:=h j u hu;have hb0:((⟨0,0,none⟩:Addr).add j).block=0:=by unfold Addr.add;split<;>rfl
 have hg:((⟨0,0,none⟩:Addr).add j).block<w.heap.size:=by
  rcases yD ((⟨0,0,none⟩:Addr).add j).block w.heap.size with h'|h'
  .exact h'
  .unfold World.cell? at h1;rw[Array.getElem?_eq_none h']at h1;cases h1
 exact(hb.cell hg).trans h1
instance(priority:=3000) DY:Wld Tryz.prog:=⟨λw=>Lib.TabIs Tryz.prog w "internal/strconv.uint64pow10" .u64 Lib.pow10Tab/\Om w,λh hb=>⟨tab_keep h.1 hb,Mc h.2 hb⟩,[(0,Zb)],λh g us hm=>by
 simp only[tZ,mV]at hm;obtain⟨rfl,rfl⟩:=hm
 exact h.2⟩
instance ou{f:FuncId}{xs:List AV}{pre:Prop}{r:AV}[h : @DenI Tryz.prog sN f xs pre r]:@DenI Tryz.prog DY f xs pre r:=⟨λhp=>den_lift sN DY (λ_ h=>h.1) (h.den hp)⟩
instance aaG{f:FuncId}{xs:List AV}{pre c:Prop}{r s:AV}[h : @DenC Tryz.prog sN f xs pre c r s]:@DenC Tryz.prog DY f xs pre c r s:=⟨λhp=>⟨λhc=>den_lift sN DY (λ_ h=>h.1) ((h.den hp).1 hc),λhc=>den_lift sN DY (λ_ h=>h.1) ((h.den hp).2 hc)⟩⟩
def RG:Tab:=(1000000000,.glob 0 abJ)::tab
theorem SX : @tabOk Tryz.prog DY RG=true:=ζ
theorem aC{f:FuncId}{fn:Func}{c:Code}{xs:List AV}{r:AV}(hf:Tryz.prog.funcs[f]?=some fn)(hb:fn.body=some c)(h:awp (Den Tryz.prog) RG c (endA RG fn r) (argE 0 xs) [])(a:hasBody Tryz.prog f=true:=by kernel_rfl)(t:textOk fn.ntmps c=true:=by kernel_rfl)(l:Nat.ble xs.length fn.ntmps=true:=by kernel_rfl)(n:noTup xs=true:=by rfl):Den Tryz.prog f xs r:=den_of SX aP hf hb a t l h n
instance aby(n:Nat):DenI Tryz.prog 184 [.int .i64 (n:Nat)] (n<=31) (R ((p10 n:Int):Rat)):=⟨λhp=>by
 refine aC Tryz.func184 rfl ?_
 all_goals(repeat'((try(conv=>whnf));first
  |refine zaa ?_ ?_))
 all_goals(try apply zar)
 all_goals first
  |((conv=>whnf);refine Sw.Loop.inv (α:=Nat) (λx=>[(0,.int .i64 (n:Nat)),(2,.ptr 2 0),(3,.ptr 3 0),(4,.int .i64 (x:Nat))]) (λx=>[(2,.var [.v (.bool false),.sl 1 [],.v (.bool false),.sl 1 []]),(3,.var (ratC ((p10 x:Int):Rat)))]) (λx=>x<=n/\True) (λx=>n-x) 0 ?_ ?_ ?_ (λx hx=>?_))|skip
 all_goals(repeat'((try(conv=>whnf));first
  |refine zaa ?_ ?_|(with_reducible refine zad (λ_=>?_) (λ_=>?_))|refine zas ζ ?_|apply zaq))
 all_goals(try apply zar)
 all_goals first|(show SubE _ _;repeat'(first|exact trivial|refine And.intro ?_ ?_))|(show SubB _ _;repeat'(first|exact trivial|refine And.intro ?_ ?_))|skip
 all_goals(try rfl)
 all_goals first
  |omega|exact⟨jm _,trivial⟩|(have z1:=A8 (n:=x) ω;exact⟨ω,aO (FZ 10 ψ ψ) ψ⟩)|((with_reducible show packA _=_);have hxx:x=n:=ω;subst hxx;rfl)|((conv=>whnf);exact⟨x+1,⟨⟨rfl,rfl,rfl,aH ω,trivial⟩,⟨rfl,(by show some (Bk.var (ratC (((p10 x:Int):Rat)*((10:Int):Rat))))=some (Bk.var (ratC ((p10 (x+1):Int):Rat)));rw[QZ]),trivial⟩,⟨ω,trivial⟩,by show n-(x+1)<n-x;omega⟩⟩)⟩
instance acr(n:Int)(k:Nat):DenI Tryz.prog 185 [Z n,.int .i64 (k:Nat)] (sz n<=50/\k<=30) (.str (Jh n k)):=⟨λhp=>by
 have z0:=Bo hp.1;have z1:=zH n;have z2:=E8 hp.1 hp.2;have z3:=GH n;have z4:=Xi n;have hsz:sz n<=100000:=aO hp.1 ψ
 by_cases hn:n<0
 all_goals first
  |(have hh:=KA hn;have he:=adk hn;have hg:=aaz hn)|(have hh:=OC hn;have he:=acK hn;have hg:=X3 hn)
 all_goals refine aC Tryz.func185 rfl ?_
 all_goals(repeat'((try(conv=>whnf));first
  |(with_reducible first|refine dR ξ ?_|refine eP ξ ?_)|refine zaa ?_ ?_|refine zas ζ ?_|refine zam ?_ ?_|(with_reducible refine oL ?_ ?_)))
 all_goals(try apply zar)
 all_goals first
  |((conv=>whnf);refine Sw.Loop.inv (α:=Nat) (λx=>[(1,.int .i64 (k:Nat)),(2,.ptr 2 0),(5,.str (lI x++kQ n)),(6,.str (BL n))]) (λx=>[(2,.var [zs n,zl n])]) (λx=>x<=k+1-(kQ n).size/\True) (λx=>(k+1-(kQ n).size)-x) 0 ?_ ?_ ?_ (λx hx=>?_))|skip
 all_goals(repeat'((try(conv=>whnf));first
  |(with_reducible refine zad (λ_=>?_) (λ_=>?_))|refine zah ?_ ?_|refine zas ζ ?_|refine zam ?_ ?_|apply zaq))
 all_goals(try apply zar)
 all_goals(try simp only[uq,CS,dn,OI]at *)
 all_goals(try(have hE:=zpE (n:=n) (j:=x) (k:=k) hx.1 ξ;simp only[hE]at *))
 all_goals(try simp(disch:=omega) only[aS]at *)
 all_goals first
  |omega|trivial|(refine⟨ω,ω,ω,ω, ?_⟩;intro h;first|exact h|rfl|(cases h))|((with_reducible show(_:Nat)<=_);(try simp only[Po,Ph,jH]);have e1:(ByteArray.mk #[48]).size=1:=rfl;have e2:(ByteArray.mk #[46]).size=1:=rfl;omega)|(refine DK ?_;rw[acw ξ];done)|(refine DK ?_;rw[abY ξ rfl ω rfl];done)|exact⟨jm _,trivial⟩|exact⟨rfl,rfl,(by show some (AV.str _)=some (AV.str _);rw[he]),(by show some (AV.str _)=some (AV.str _);rw[hg]),trivial⟩|((conv=>whnf);exact⟨x+1,⟨⟨rfl,rfl,(by show some (AV.str _)=some (AV.str _);rw[zpS]),rfl,trivial⟩,⟨rfl,trivial⟩,⟨by have hq:((lI x++kQ n).size:Int)<=k:=ξ;rw[Po,jH]at hq;omega,trivial⟩,(by have hq:((lI x++kQ n).size:Int)<=k:=ξ;rw[Po,jH]at hq;show(k+1-(kQ n).size)-(x+1)<(k+1-(kQ n).size)-x;omega)⟩⟩)⟩
instance aed(a:Rat):DenI Tryz.prog 138 [R a] (rz a<=20) (.tup [.str (exS a),.bool (Pv a).isSome]):=⟨λhp=>by
 have ia:RzB a 20:=⟨hp⟩
 all_goals refine aC Tryz.func138 rfl ?_
 all_goals first
  |((conv=>whnf);refine Sw.Loop.inv (α:=Nat) (λx=>[(1,.ptr 1 0),(4,.int .i64 (x:Nat))]) (λx=>[(1,.var (ratC a))]) (λx=>x<=31/\∀j<x,¬10^j%a.den=0) (λx=>31-x) 0 ?_ ?_ ?_ (λx hx=>?_))
 all_goals(repeat'((try(conv=>whnf));first
  |apply zaf|refine zaa ?_ ?_|(with_reducible refine zad (λ_=>?_) (λ_=>?_))|refine zas ζ ?_|apply zaq))
 all_goals(try apply zar)
 all_goals first|(show SubE _ _;repeat'(first|exact trivial|refine And.intro ?_ ?_))|(show SubB _ _;repeat'(first|exact trivial|refine And.intro ?_ ?_))|skip
 all_goals(try rfl)
 all_goals(try simp only[aV]at *)
 all_goals first
  |omega|exact⟨jm _,λj hj=>absurd hj (yQ _)⟩|(have z1:=A8 (n:=x) ω;exact⟨ω,ω⟩)|exact⟨KG hp ω,ω⟩|((conv=>whnf);exact⟨x+1,⟨⟨rfl,aH ω,trivial⟩,⟨rfl,trivial⟩,⟨ω,bT hx.2 (λe=>by have:=(dm1 (a:=a) (x:=x)).2 e;first|contradiction|(simp_all;done))⟩,(by show 31-(x+1)<31-x;omega)⟩⟩)|(exfalso;have z3:=Og (KG (a:=a) (x:=x) hp ω) (k:=x) ω;omega)|((with_reducible show packA _=_);obtain⟨e1,e2⟩:=Si (a:=a) (x:=x) ω hx.2 (by first|assumption|(simp_all;done));rw[e1,e2];rfl)|((with_reducible show packA _=_);obtain⟨e1,e2⟩:=UH (a:=a) (λj hj=>hx.2 j ω);rw[e1,e2];rfl)⟩
instance adf(c:Nat):DenI Tryz.prog 136 [.c (.v (.int .u8 (c:Nat)))] (True) (.bool (Tn c)):=⟨λhp=>by
 refine aC Tryz.func136 rfl ?_
 all_goals(repeat'((try(conv=>whnf));first
  |(with_reducible first|apply zab|apply zac|refine zad (λ_=>?_) (λ_=>?_))|apply zaq))
 all_goals first
  |(refine bE ?_;rw[vS];simp only[Tn,AY,bY,decide_eq_true_eq,uw,iff_true,true_iff,iff_false,false_iff];omega)⟩
instance abR(c:Nat):DenI Tryz.prog 183 [.c (.v (.int .u8 (c:Nat)))] (True) (.bool (Zu c)):=⟨λhp=>by
 refine aC Tryz.func183 rfl ?_
 all_goals(repeat'((try(conv=>whnf));first
  |(with_reducible first|apply zab|apply zac|refine zad (λ_=>?_) (λ_=>?_))|apply zaq))
 all_goals first
  |(refine bE ?_;rw[vS];simp only[Zu,AY,bY,decide_eq_true_eq,uw,iff_true,true_iff,iff_false,false_iff];omega)⟩
instance aa5(s:ByteArray):DenI Tryz.prog 137 [.c (.v (.string s))] (s.size<=1000000) (.int .i64 (rnN s:Nat)):=⟨λhp=>by
 refine aC Tryz.func137 rfl ?_
 all_goals first
  |((conv=>whnf);refine Sw.Loop.inv (α:=Nat) (λx=>[(0,.c (.v (.string s))),(3,.int .i64 (x:Nat))]) (λx=>[]) (λx=>x<=s.size/\∀j<x,J3 ((kL s).getD j 0)=true) (λx=>s.size-x) 0 ?_ ?_ ?_ (λx hx=>?_))
 all_goals(repeat'((try(conv=>whnf));first
  |apply zaf|(with_reducible first|apply zab|apply zac|refine zad (λ_=>?_) (λ_=>?_))|refine zat (λ_=>?_) (λ_=>?_)|(with_reducible refine oL ?_ ?_)|apply zaq))
 all_goals(try apply zar)
 all_goals(try simp only[uq,CS,dn,OI]at *)
 all_goals first
  |omega|trivial|exact⟨jm _,λj hj=>absurd hj (yQ _)⟩|((conv=>whnf);exact⟨x+1,⟨⟨rfl,aH ω,trivial⟩,trivial,⟨ω,bT hx.2 (by unfold J3;simp_all<;>omega)⟩,(by show s.size-(x+1)<s.size-x;omega)⟩⟩)|((with_reducible show packA _=_);refine iE ?_;rw[OW hx.1 hx.2 (λh=>by first|(exfalso;omega)|(unfold J3;simp_all<;>omega))];done)⟩
instance abj(s:ByteArray):DenI Tryz.prog 103 [.c (.v (.string s))] (s.size<=1000000) (.bool (zX s)):=⟨λhp=>by
 refine aC Tryz.func103 rfl ?_
 all_goals(repeat'((try(conv=>whnf));first
  |apply zaf|refine zaa ?_ ?_|(with_reducible first|apply zab|apply zac|refine zad (λ_=>?_) (λ_=>?_))|refine zat (λ_=>?_) (λ_=>?_)|(with_reducible refine oL ?_ ?_)|apply zaq))
 all_goals(try apply zar)
 all_goals(try simp only[uq,CS,dn,OI]at *)
 all_goals first
  |omega|(refine bE ?_;unfold zX;rw[vS];simp_all;done)|(refine bE ?_;unfold zX;rw[vS];simp_all;omega)⟩
instance ae5(n:Nat):DenI Tryz.prog 254 [.int .i64 (n:Nat)] (n<=31) (Z (p10 n)):=⟨λhp=>by
 refine aC Tryz.func254 rfl ?_
 all_goals(repeat'((try(conv=>whnf));first
  |refine zaa ?_ ?_))
 all_goals(try apply zar)
 all_goals first
  |((conv=>whnf);refine Sw.Loop.inv (α:=Nat) (λx=>[(2,.ptr 2 0),(3,.ptr 3 0),(4,.ptr 4 0),(7,.int .i64 (n:Nat)),(8,.int .i64 (x:Nat))]) (λx=>[(2,.var [.v (.bool false),.sl 1 []]),(3,.var [zs (p10 x),zl (p10 x)]),(4,.var [zs 10,zl 10])]) (λx=>x<=n/\True) (λx=>n-x) 0 ?_ ?_ ?_ (λx hx=>?_))|skip
 all_goals(repeat'((try(conv=>whnf));first
  |refine zaa ?_ ?_|(with_reducible refine zad (λ_=>?_) (λ_=>?_))|apply zaq))
 all_goals(try apply zar)
 all_goals first|(show SubE _ _;repeat'(first|exact trivial|refine And.intro ?_ ?_))|(show SubB _ _;repeat'(first|exact trivial|refine And.intro ?_ ?_))|skip
 all_goals(try rfl)
 all_goals first
  |omega|exact⟨jm _,trivial⟩|exact⟨aO (wG ω) ψ,aO (dV (n:=10) ψ ψ) ψ⟩|((with_reducible show packA _=_);have hxx:x=n:=ω;subst hxx;rfl)|((conv=>whnf);exact⟨x+1,⟨⟨rfl,rfl,rfl,rfl,aH ω,trivial⟩,⟨rfl,(by show some (Bk.var [zs (p10 x*10),zl (p10 x*10)])=some (Bk.var [zs (p10 (x+1)),zl (p10 (x+1))]);rw[xR]),rfl,trivial⟩,⟨ω,trivial⟩,by show n-(x+1)<n-x;omega⟩⟩)⟩
instance ad2(a:Rat)(n:Nat):DenI Tryz.prog 223 [R a,.int .i64 (n:Nat)] (rz a<=100/\n<=30) (R (Tz a n)):=⟨λhp=>by
 have z1:=A8 (n:=n) ω;have z2:=wG (n:=n) ω
 all_goals refine aC Tryz.func223 rfl ?_
 all_goals(repeat'((try(conv=>whnf));first
  |refine zaa ?_ ?_|refine zao ?_ (λ_=>?_) (λ_=>?_)|apply zaq))
 all_goals(try apply zar)
 all_goals(try simp only[aV]at *)
 all_goals first
  |rfl|omega|exact⟨aO z2 ψ,aO (dV (n:=1) ψ ψ) ψ⟩|(refine⟨ω, ?_⟩;have:=Nk (n:=n) ω;omega)⟩
instance afc(s:ByteArray):DenI Tryz.prog 225 [.str s] (s.size<=1000) (.tup [.str s,.bool true]):=⟨λhp=>by
 refine aC Tryz.func225 rfl ?_
 all_goals(repeat'((try(conv=>whnf));first
  |(with_reducible refine zad (λ_=>?_) (λ_=>?_))|apply zaq))
 all_goals first
  |rfl|(exfalso;omega)⟩
theorem aal{k:Nat}(hk:k<=40)(w:World):Calls Tryz.prog 256 #[.string ⟨#[48]⟩,.int .i64 k] w λe w'=>e=.returned (.string (lI k))/\Below w.heap.size w w':=by
 refine(Any.strings_Repeat NZ Uk ⟨#[48]⟩ k w ω (by show 1*k<=_;omega)).mono ?_;rintro e w' ⟨rfl,hb⟩;refine⟨?_,hb⟩
 have:Lib.repeatL [(48:UInt8)] k=List.replicate k 48:=by
  have:∀k:Nat,k<=40->Lib.repeatL [(48:UInt8)] k=List.replicate k 48:=by decide +kernel
  exact this k hk
 rw[show(ByteArray.mk #[48]).data.toList=[(48:UInt8)]from rfl,this];rfl
instance aeN(z:Int):DenI Tryz.prog 256 [.c (.v (.string ⟨#[48]⟩)),.c (.v (.int .i64 z))] (0<=z/\z<=40) (.c (.v (.string (lI z.toNat)))):=⟨λhp=>by
 obtain⟨n,rfl⟩:=Int.eq_ofNat_of_zero_le hp.1;refine Den.of ⟨ζ,λw X vs hW hX hl hr=>?_⟩ rfl
 match vs,hl with
 |[u,v],_ =>
 have hu:u=.string ⟨#[48]⟩:=by
  have:=hr 0 u _ rfl rfl;cases this with
  |c h=>cases h;rfl
 have hv:v=.int .i64 (n:Nat):=by
  have:=hr 1 v _ rfl rfl;cases this with
  |c h=>cases h;rfl
 subst hu hv;refine Calls.mono (aal (k:=n) ω w) ?_;rintro e w' ⟨rfl,hb⟩
 exact⟨_,rfl,(RepR.d (.c (.v _ rfl))).f,hb⟩⟩
instance aep(n:Int)(k:Nat):DenI Tryz.prog 224 [Z n,.int .i64 (k:Nat)] (sz n<=50/\k<=30) (.str (Jh n k)):=⟨λhp=>by
 have z0:=Bo hp.1;have z1:=zH n;have z2:=E8 hp.1 hp.2
 by_cases hn:n<0
 all_goals refine aC Tryz.func224 rfl ?_
 all_goals(repeat'((try(conv=>whnf));first
  |apply zaf|refine zaa ?_ ?_|(with_reducible refine zad (λ_=>?_) (λ_=>?_))|refine zah ?_ ?_|refine zas ζ ?_|refine zam ?_ ?_|apply zaq))
 all_goals(try apply zar)
 all_goals(try simp only[aV]at *)
 all_goals(try(exfalso;omega))
 all_goals(try simp only[uq,CS,dn,TW hn]at *)
 all_goals(try simp only[uq,CS,dn,Tv hn]at *)
 all_goals(try simp(disch:=omega) only[aS]at *)
 all_goals(try(have hle:(kQ n).size<=k:=ω;have hB:=Zd (n:=n) (k:=k) hle;simp only[hB]at *))
 all_goals(try(have hle:¬(kQ n).size<=k:=ω;have hB:=TV (n:=n) (k:=k) hle))
 all_goals(try simp(disch:=omega) only[aS]at *)
 all_goals first
  |omega|(refine DK ?_;rw[TY ω];unfold BL;first|rw[if_pos hn]|rw[if_neg hn])|(refine⟨ω,ω,ω,ω, ?_⟩;intro h;first|exact h|rfl|(cases h))|((with_reducible show(_:Nat)<=_);(try simp only[Po,Ph,jH]);have e1:(ByteArray.mk #[45]).size=1:=rfl;have e2:(ByteArray.mk #[46]).size=1:=rfl;have e3:(ByteArray.mk #[]).size=0:=rfl;omega)|(refine DK ?_;rw[MJ ω,show((↑(uO n k).size:Int) - ↑k).toNat=(uO n k).size-k by omega];unfold BL;first|(rw[if_pos hn];rfl)|(rw[if_neg hn];rfl))|(refine DK ?_;rw[MJ ω,hB,show((↑(kQ n).size:Int) - ↑k).toNat=(kQ n).size-k by omega];unfold BL;first|(rw[if_pos hn];rfl)|(rw[if_neg hn];rfl))⟩
instance afJ(x:Nat)(a:Rat):DenI Tryz.prog 200 [Z (p10 x),Z (a.den:Int)] (x<=31/\rz a<=1000) (.tup [Z ((p10 x).fdiv (a.den:Int)),Z ((10 ^ x % a.den:Nat):Int),.int .i64 0]):=⟨λhp=>by
 have h:=(inferInstance:DenI Tryz.prog 200 [Z (p10 x),Z (a.den:Int)] _ _).den (by exact⟨aO (wG hp.1) ψ,aO (fZ a) ω⟩);rw[if_neg (aj a),if_neg (aj a),show(p10 x).fmod (a.den:Int)=((10^x%a.den:Nat):Int) by unfold p10;rw[Int.fmod_eq_emod_of_nonneg _ ω];omega]at h
 exact h⟩
instance afk(a:Rat):DenI Tryz.prog 181 [R a] (rz a<=20) (.tup [.str (exS a),.bool (Pv a).isSome]):=⟨λhp=>by
 refine aC Tryz.func181 rfl ?_
 all_goals(repeat'((try(conv=>whnf));first
  |refine zaa ?_ ?_))
 all_goals(try apply zar)
 all_goals first
  |((conv=>whnf);refine Sw.Loop.inv (α:=Nat) (λx=>[(1,.ptr 1 0),(5,.ptr 5 0),(6,.int .i64 (x:Nat))]) (λx=>[(1,.var (ratC a)),(5,.var [zs (p10 x),zl (p10 x)])]) (λx=>x<=31/\∀j<x,¬10^j%a.den=0) (λx=>31-x) 0 ?_ ?_ ?_ (λx hx=>?_))|skip
 all_goals(repeat'((try(conv=>whnf));first
  |apply zaf|refine zaa ?_ ?_|(with_reducible refine zad (λ_=>?_) (λ_=>?_))|refine zas ζ ?_|apply zaq))
 all_goals(try apply zar)
 all_goals first|(show SubE _ _;repeat'(first|exact trivial|refine And.intro ?_ ?_))|(show SubB _ _;repeat'(first|exact trivial|refine And.intro ?_ ?_))|skip
 all_goals(try rfl)
 all_goals(try simp only[aV]at *)
 all_goals first
  |omega|exact⟨jm _,λj hj=>absurd hj (yQ _)⟩|exact⟨aO (wG ω) ψ,aO (dV (n:=10) ψ ψ) ψ⟩|((conv=>whnf);exact⟨x+1,⟨⟨rfl,rfl,aH ω,trivial⟩,⟨rfl,(by show some (Bk.var [zs (p10 x*10),zl (p10 x*10)])=some (Bk.var [zs (p10 (x+1)),zl (p10 (x+1))]);rw[xR]),trivial⟩,⟨ω,bT hx.2 ω⟩,by show 31-(x+1)<31-x;omega⟩⟩)|exact⟨FT hp ω,ω⟩|exact Og (FT hp ω) ω|(have e:=KI (a:=a) (x:=x) ω hx.2 ω;simp only[exS,e];rfl)|(have e:=TG (a:=a) (λj hj=>hx.2 j ω);simp only[exS,e];rfl)⟩
instance aem(c:Nat):DenI Tryz.prog 175 [.c (.v (.int .u8 (c:Nat)))] (True) (.bool (Tn c)):=⟨λhp=>by
 refine aC Tryz.func175 rfl ?_
 all_goals(repeat'((try(conv=>whnf));first
  |(with_reducible first|apply zab|apply zac|refine zad (λ_=>?_) (λ_=>?_))|apply zaq))
 all_goals first
  |(refine bE ?_;rw[vS];simp only[Tn,AY,bY,decide_eq_true_eq,uw,iff_true,true_iff,iff_false,false_iff];omega)⟩
instance adZ(c:Nat):DenI Tryz.prog 220 [.c (.v (.int .u8 (c:Nat)))] (True) (.bool (Zu c)):=⟨λhp=>by
 refine aC Tryz.func220 rfl ?_
 all_goals(repeat'((try(conv=>whnf));first
  |(with_reducible first|apply zab|apply zac|refine zad (λ_=>?_) (λ_=>?_))|apply zaq))
 all_goals first
  |(refine bE ?_;rw[vS];simp only[Zu,AY,bY,decide_eq_true_eq,uw,iff_true,true_iff,iff_false,false_iff];omega)⟩
instance aej(c:Nat):DenI Tryz.prog 177 [.c (.v (.int .u8 (c:Nat)))] (True) (.bool (J3 c)):=⟨λhp=>by
 refine aC Tryz.func177 rfl ?_
 all_goals(repeat'((try(conv=>whnf));first
  |apply zaf|(with_reducible first|apply zab|apply zac|refine zad (λ_=>?_) (λ_=>?_))|refine zat (λ_=>?_) (λ_=>?_)|apply zaq))
 all_goals first
  |(refine bE ?_;rw[vS];simp only[J3,AY,bY,decide_eq_true_eq,uw,iff_true,true_iff,iff_false,false_iff];omega)|(refine bE ?_;unfold J3;simp_all;done)|(refine bE ?_;unfold J3;simp only[*,Bj];rw[vS];simp only[AY,decide_eq_true_eq];omega)⟩
instance aff(s:ByteArray):DenI Tryz.prog 176 [.c (.v (.string s)),.int .i64 0,.c (.v (.func (.func 177) #[] #[]))] (s.size<=1000000) (.int .i64 (rnN s:Nat)):=⟨λhp=>by
 refine aC Tryz.func176 rfl ?_
 all_goals first
  |((conv=>whnf);refine Sw.Loop.inv (α:=Nat) (λx=>[(0,.c (.v (.string s))),(1,.int .i64 (x:Nat)),(2,.c (.v (.func (.func 177) #[] #[])))]) (λx=>[]) (λx=>x<=s.size/\∀j<x,J3 ((kL s).getD j 0)=true) (λx=>s.size-x) 0 ?_ ?_ ?_ (λx hx=>?_))
 all_goals(repeat'((try(conv=>whnf));first
  |apply zaf|(with_reducible first|apply zab|apply zac|refine zad (λ_=>?_) (λ_=>?_))|refine zat (λ_=>?_) (λ_=>?_)|(with_reducible refine oL ?_ ?_)|apply zaq))
 all_goals(try apply zar)
 all_goals(try simp only[uq,CS,dn,OI]at *)
 all_goals first
  |omega|trivial|exact⟨jm _,λj hj=>absurd hj (yQ _)⟩|((conv=>whnf);exact⟨x+1,⟨⟨rfl,aH ω,rfl,trivial⟩,trivial,⟨ω,bT hx.2 ξ⟩,(by show s.size-(x+1)<s.size-x;omega)⟩⟩)|(refine iE ?_;rw[OW hx.1 hx.2 (λh=>by first|assumption|omega)];done)⟩
instance aeU(s:ByteArray):DenI Tryz.prog 132 [.c (.v (.string s))] (s.size<=1000000) (.bool (zX s)):=⟨λhp=>by
 refine aC Tryz.func132 rfl ?_
 all_goals(repeat'((try(conv=>whnf));first
  |apply zaf|refine zaa ?_ ?_|(with_reducible first|apply zab|apply zac|refine zad (λ_=>?_) (λ_=>?_))|refine zat (λ_=>?_) (λ_=>?_)|(with_reducible refine oL ?_ ?_)|apply zaq))
 all_goals(try apply zar)
 all_goals(try simp only[uq,CS,dn,OI]at *)
 all_goals first
  |omega|(have z:=NT ξ;omega)|(refine bE ?_;have z:=NT ξ;rw[WI z ω ξ];exact decide_eq_decide.2 ω)|(refine bE ?_;rw[Wq (by first|exact .inl (SV ξ)|exact .inr (.inl ω)|exact .inr (.inr ξ))];done)⟩
instance afb(l:LayD):DenI Tryz.prog 100 [.agg (aW l)] (l.name.size<=1000000) (.bool (xI l)):=⟨λhp=>by
 refine aC Tryz.func100 rfl ?_
 all_goals(repeat'((try(conv=>whnf));first
  |refine zaa ?_ ?_|(with_reducible first|apply zab|apply zac|refine zad (λ_=>?_) (λ_=>?_))|refine zat (λ_=>?_) (λ_=>?_)|apply zaq))
 all_goals(try apply zar)
 all_goals first
  |omega|(refine bE ?_;unfold xI;rw[vS];simp_all;done)|(refine bE ?_;unfold xI;rw[vS];simp_all;omega)⟩
instance aeb(l:LayD)(s:ByteArray):DenI Tryz.prog 134 [.agg (aW l),.c (.p [.v (.string s)])] (True) (.bool (eqS l.name s)):=⟨λhp=>by
 refine aC Tryz.func134 rfl ?_
 all_goals(repeat'((try(conv=>whnf));first
  |apply zaq))
 all_goals first
  |rfl⟩
instance afm(ls:List LayD)(s:ByteArray):DenI Tryz.prog 133 [.c (.sl 3 (ls.map aW)),.c (.fn 134 [.p [.v (.string s)]])] (ls.length<=1000) (.int .i64 (mP ls s)):=⟨λhp=>by
 refine aC Tryz.func133 rfl ?_
 all_goals first
  |((conv=>whnf);refine Sw.Loop.inv (α:=Nat) (λk=>[(0,.c (.sl 3 (ls.map aW))),(1,.c (.fn 134 [.p [.v (.string s)]])),(6,.c (.sl 3 (ls.map aW))),(7,.int .i64 (ls.length:Nat)),(8,.int .i64 (k:Nat))]) (λk=>[]) (λk=>k<=ls.length/\∀j<k,eqS (ls.getD j L0).name s=false) (λk=>ls.length-k) 0 ?_ ?_ ?_ (λk hk=>?_))
 all_goals(repeat'((try(conv=>whnf));first
  |apply zaf|(with_reducible refine zad (λ_=>?_) (λ_=>?_))|refine zat (λ_=>?_) (λ_=>?_)|refine zan L0 ?_ ?_|apply zaq))
 all_goals(try apply zar)
 all_goals(try simp only[aG,dn]at *)
 all_goals first
  |omega|trivial|exact⟨jm _,λj hj=>absurd hj (yQ _)⟩|((conv=>whnf);exact⟨k+1,⟨⟨rfl,rfl,rfl,rfl,aH ω,trivial⟩,trivial,⟨ω,bT hk.2 ξ⟩,(by show ls.length-(k+1)<ls.length-k;omega)⟩⟩)|((with_reducible show packA _=_);rw[vW (x:=k) ω hk.2 ξ];rfl)|((with_reducible show packA _=_);have hxx:k=ls.length:=ω;subst hxx;rw[Lr hk.2];rfl)⟩
instance aeo(ls:List LayD)(s:ByteArray):DenI Tryz.prog 101 [.c (.sl 3 (ls.map aW)),.c (.v (.string s))] (ls.length<=1000) (.int .i64 (mP ls s)):=⟨λhp=>by
 refine aC Tryz.func101 rfl ?_
 all_goals(repeat'((try(conv=>whnf));first
  |refine zaa ?_ ?_|apply zaq))
 all_goals(try apply zar)
 all_goals first
  |omega|rfl⟩
instance afv(a:Rat):DenI Tryz.prog 182 [R a] (rz a<=1000) (R (a*zi)):=⟨λhp=>by
 have i_a:RzB a 1000:=⟨hp⟩
 all_goals refine aC Tryz.func182 rfl ?_
 all_goals(repeat'((try(conv=>whnf));first
  |refine zaa ?_ ?_|refine zas ζ ?_|apply zaq))
 all_goals(try apply zar)
 all_goals first
  |(have z1:=zQ;exact⟨ω,aO z1 ψ⟩)|omega|rfl⟩
instance W9(a:Rat):DenI Tryz.prog 135 [R a] (rz a<=12) (.bool (CG a)):=⟨λhp=>by
 have z1:=KC;have z2:=S9 hp;have hv:=qE a
 all_goals refine aC Tryz.func135 rfl ?_
 all_goals(repeat'((try(conv=>whnf));first
  |refine zaa ?_ ?_|(with_reducible first|apply zab|apply zac|refine zad (λ_=>?_) (λ_=>?_))|refine zat (λ_=>?_) (λ_=>?_)|refine zas ζ ?_|apply zaq))
 all_goals(try apply zar)
 all_goals(try simp only[aV]at *)
 all_goals first
  |(exfalso;rename (!fU _ _ _ _)=true=>h;rw[qE]at h;cases h)|omega|(refine⟨?_, ?_⟩<;>first|(rw[fM];omega)|omega)|(have e1:(lim a.num.natAbs).length<=rz a:=fH a;have e2:(lim (a.den:Int).natAbs).length<=rz a:=fZ a;omega)|(refine bE ?_;unfold CG;simp only[*,not_true,not_false_iff,decide_true,decide_false,BJ,PE,Bool.and_false];done)⟩
instance(priority:=50) Xx(r:Rq):DenI Tryz.prog 135 [.agg (JI r)] (Aj r/\vR r=false) (.bool false):=⟨λhp=>by
 obtain⟨hp1,hp2⟩:=hp;unfold vR at hp2;obtain⟨hp3,hp4⟩:=hp1
 all_goals refine aC Tryz.func135 rfl ?_
 all_goals(repeat'((try(conv=>whnf));first
  |apply zaf|refine zaa ?_ ?_|refine zao ?_ (λ_=>?_) (λ_=>?_)|(with_reducible first|apply zab|apply zac|refine zad (λ_=>?_) (λ_=>?_)|refine zae (λ_=>?_) (λ_=>?_))|refine zat (λ_=>?_) (λ_=>?_)|refine zah ?_ ?_|refine zas ζ ?_|refine zal ?_ ?_|refine zam ?_ ?_|(with_reducible first|refine zak ?_ ?_|apply zaj|apply zai)|apply zaq))
 all_goals(try apply zar)
 all_goals first
  |omega|rfl|(exfalso;rename (!fU _ _ _ _)=false=>h;rw[hp2]at h;cases h)|exact⟨ω,ω⟩|skip⟩
instance(priority:=2000) x_len(r:Rq):DenI Tryz.prog 135 [.agg (JI r)] (Aj r) (.bool (eY r)):=⟨λhp=>by
 cases v:vR r with
 |false =>
  have h:=(Xx r).den ⟨hp,v⟩;have e:eY r=false:=by unfold eY;rw[v];rfl
  rw[e];exact h
 |true =>
  have e:=qU v;have e2:eY r=CG (qR r):=by unfold eY;rw[v];rfl
  have hz:rz (qR r)<=12:=xM (e▸hp);have h:=(W9 (qR r)).den hz;rw[e2];generalize qR r=q at e h;subst e
  exact h⟩
instance(priority:=2000) ae6(r:Rq):DenI Tryz.prog 49 [.agg (JI r)] (vR r=true) (.int .i64 (aK (qR r))):=⟨λv=>by
 have e:=qU v;have h:=(inferInstance:DenI Tryz.prog 49 [R (qR r)] _ (.int .i64 (aK (qR r)))).den trivial;generalize qR r=q at e h ⊢;subst e
 exact h⟩
instance(priority:=50) WR(ly:ByteArray)(pts:List (Rq × Rq))(rd:Rq):DenI Tryz.prog 102 [.agg [.v (.int .i64 1),.v (.string ly),.sl 8 (pts.map kK),.v (.bool rd.a),lmc rd.l,.v (.bool rd.b),lmc rd.m]] (kF ⟨1,ly,pts,rd⟩) (.bool (jB ⟨1,ly,pts,rd⟩)):=⟨λhp=>by
 have hpl:pts.length<=5:=hp.2.2.1;have hpr:Aj rd:=hp.2.1
 all_goals refine aC Tryz.func102 rfl ?_
 all_goals(repeat'((try(conv=>whnf));first
  |apply zaf|refine zaa ?_ ?_|refine zao ?_ (λ_=>?_) (λ_=>?_)|(with_reducible first|apply zab|apply zac|refine zad (λ_=>?_) (λ_=>?_)|refine zae (λ_=>?_) (λ_=>?_))|refine zat (λ_=>?_) (λ_=>?_)|refine zah ?_ ?_|refine zas ζ ?_|refine zal ?_ ?_|refine zam ?_ ?_|(with_reducible first|refine zak ?_ ?_|apply zaj|apply zai)|refine zan mO ?_ ?_|apply zaq))
 all_goals(try apply zar)
 all_goals first
  |((conv=>whnf);refine Sw.Loop.inv (α:=Nat) (λx=>[(1,.ptr 1 0),(25,.c (.sl 8 (pts.map kK))),(26,.int .i64 (pts.length:Nat)),(27,.int .i64 (x:Nat))]) (λx=>[(1,.var [.v (.int .i64 1),.v (.string ly),.sl 8 (pts.map kK),.v (.bool rd.a),lmc rd.l,.v (.bool rd.b),lmc rd.m])]) (λx=>x<=pts.length/\∀j<x,(eY (pts.getD j mO).1&&eY (pts.getD j mO).2)=true) (λx=>pts.length-x) 0 ?_ ?_ ?_ (λx hx=>?_))|skip
 all_goals(repeat'((try(conv=>whnf));first
  |apply zaf|refine zaa ?_ ?_|refine zao ?_ (λ_=>?_) (λ_=>?_)|(with_reducible first|apply zab|apply zac|refine zad (λ_=>?_) (λ_=>?_)|refine zae (λ_=>?_) (λ_=>?_))|refine zat (λ_=>?_) (λ_=>?_)|refine zah ?_ ?_|refine zas ζ ?_|refine zal ?_ ?_|refine zam ?_ ?_|(with_reducible first|refine zak ?_ ?_|apply zaj|apply zai)|refine zan mO ?_ ?_|apply zaq))
 all_goals(try apply zar)
 all_goals(try simp only[aG,dn]at *)
 all_goals(try simp only[aV]at *)
 all_goals first
  |(exfalso;omega)|omega|trivial|exact⟨jm _,λj hj=>absurd hj (yQ _)⟩|exact(jv hp (by show _<pts.length;omega)).1|exact(jv hp (by show _<pts.length;omega)).2|exact hpr|exact AL ξ|exact⟨rfl,rfl,by simp only[aG];rfl,rfl,trivial⟩|((with_reducible show packA _=_);refine bE ?_;rw[kE (by simp only[];omega)];done)|((with_reducible show packA _=_);refine bE ?_;rw[oh (x:=x) (by show x<pts.length;omega) χ];done)|((with_reducible show packA _=_);refine bE ?_;have hxx:x=pts.length:=ω;subst hxx;rw[kU (e:=⟨1,ly,pts,rd⟩) (.inl ⟨rfl,by show pts.length=2;omega⟩) hx.2];simp_all;done)|((conv=>whnf);exact⟨x+1,⟨⟨rfl,rfl,rfl,aH ω,trivial⟩,⟨rfl,trivial⟩,⟨ω,bT hx.2 χ⟩,(by show pts.length-(x+1)<pts.length-x;omega)⟩⟩)|skip⟩
instance(priority:=50) UO(ly:ByteArray)(pts:List (Rq × Rq))(rd:Rq):DenI Tryz.prog 102 [.agg [.v (.int .i64 2),.v (.string ly),.sl 8 (pts.map kK),.v (.bool rd.a),lmc rd.l,.v (.bool rd.b),lmc rd.m]] (kF ⟨2,ly,pts,rd⟩) (.bool (jB ⟨2,ly,pts,rd⟩)):=⟨λhp=>by
 have hpl:pts.length<=5:=hp.2.2.1;have hpr:Aj rd:=hp.2.1
 all_goals refine aC Tryz.func102 rfl ?_
 all_goals(repeat'((try(conv=>whnf));first
  |apply zaf|refine zaa ?_ ?_|refine zao ?_ (λ_=>?_) (λ_=>?_)|(with_reducible first|apply zab|apply zac|refine zad (λ_=>?_) (λ_=>?_)|refine zae (λ_=>?_) (λ_=>?_))|refine zat (λ_=>?_) (λ_=>?_)|refine zah ?_ ?_|refine zas ζ ?_|refine zal ?_ ?_|refine zam ?_ ?_|(with_reducible first|refine zak ?_ ?_|apply zaj|apply zai)|refine zan mO ?_ ?_|apply zaq))
 all_goals(try apply zar)
 all_goals first
  |((conv=>whnf);refine Sw.Loop.inv (α:=Nat) (λx=>[(1,.ptr 1 0),(25,.c (.sl 8 (pts.map kK))),(26,.int .i64 (pts.length:Nat)),(27,.int .i64 (x:Nat))]) (λx=>[(1,.var [.v (.int .i64 2),.v (.string ly),.sl 8 (pts.map kK),.v (.bool rd.a),lmc rd.l,.v (.bool rd.b),lmc rd.m])]) (λx=>x<=pts.length/\∀j<x,(eY (pts.getD j mO).1&&eY (pts.getD j mO).2)=true) (λx=>pts.length-x) 0 ?_ ?_ ?_ (λx hx=>?_))|skip
 all_goals(repeat'((try(conv=>whnf));first
  |apply zaf|refine zaa ?_ ?_|refine zao ?_ (λ_=>?_) (λ_=>?_)|(with_reducible first|apply zab|apply zac|refine zad (λ_=>?_) (λ_=>?_)|refine zae (λ_=>?_) (λ_=>?_))|refine zat (λ_=>?_) (λ_=>?_)|refine zah ?_ ?_|refine zas ζ ?_|refine zal ?_ ?_|refine zam ?_ ?_|(with_reducible first|refine zak ?_ ?_|apply zaj|apply zai)|refine zan mO ?_ ?_|apply zaq))
 all_goals(try apply zar)
 all_goals(try simp only[aG,dn]at *)
 all_goals(try simp only[aV]at *)
 all_goals first
  |(exfalso;omega)|omega|trivial|exact⟨jm _,λj hj=>absurd hj (yQ _)⟩|exact(jv hp (by show _<pts.length;omega)).1|exact(jv hp (by show _<pts.length;omega)).2|exact hpr|exact AL ξ|exact⟨rfl,rfl,by simp only[aG];rfl,rfl,trivial⟩|((with_reducible show packA _=_);refine bE ?_;rw[kE (by simp only[];omega)];done)|((with_reducible show packA _=_);refine bE ?_;rw[oh (x:=x) (by show x<pts.length;omega) χ];done)|((with_reducible show packA _=_);refine bE ?_;have hxx:x=pts.length:=ω;subst hxx;rw[kU (e:=⟨2,ly,pts,rd⟩) (.inr (.inl ⟨rfl,by show pts.length=3;omega⟩)) hx.2];simp_all;done)|((conv=>whnf);exact⟨x+1,⟨⟨rfl,rfl,rfl,aH ω,trivial⟩,⟨rfl,trivial⟩,⟨ω,bT hx.2 χ⟩,(by show pts.length-(x+1)<pts.length-x;omega)⟩⟩)|skip⟩
instance(priority:=50) Xp(ly:ByteArray)(pts:List (Rq × Rq))(rd:Rq):DenI Tryz.prog 102 [.agg [.v (.int .i64 3),.v (.string ly),.sl 8 (pts.map kK),.v (.bool rd.a),lmc rd.l,.v (.bool rd.b),lmc rd.m]] (kF ⟨3,ly,pts,rd⟩) (.bool (jB ⟨3,ly,pts,rd⟩)):=⟨λhp=>by
 have hpl:pts.length<=5:=hp.2.2.1;have hpr:Aj rd:=hp.2.1
 all_goals refine aC Tryz.func102 rfl ?_
 all_goals(repeat'((try(conv=>whnf));first
  |apply zaf|refine zaa ?_ ?_|refine zao ?_ (λ_=>?_) (λ_=>?_)|(with_reducible first|apply zab|apply zac|refine zad (λ_=>?_) (λ_=>?_)|refine zae (λ_=>?_) (λ_=>?_))|refine zat (λ_=>?_) (λ_=>?_)|refine zah ?_ ?_|refine zas ζ ?_|refine zal ?_ ?_|refine zam ?_ ?_|(with_reducible first|refine zak ?_ ?_|apply zaj|apply zai)|refine zan mO ?_ ?_|apply zaq))
 all_goals(try apply zar)
 all_goals first
  |((conv=>whnf);refine Sw.Loop.inv (α:=Nat) (λx=>[(1,.ptr 1 0),(25,.c (.sl 8 (pts.map kK))),(26,.int .i64 (pts.length:Nat)),(27,.int .i64 (x:Nat))]) (λx=>[(1,.var [.v (.int .i64 3),.v (.string ly),.sl 8 (pts.map kK),.v (.bool rd.a),lmc rd.l,.v (.bool rd.b),lmc rd.m])]) (λx=>x<=pts.length/\∀j<x,(eY (pts.getD j mO).1&&eY (pts.getD j mO).2)=true) (λx=>pts.length-x) 0 ?_ ?_ ?_ (λx hx=>?_))|skip
 all_goals(repeat'((try(conv=>whnf));first
  |apply zaf|refine zaa ?_ ?_|refine zao ?_ (λ_=>?_) (λ_=>?_)|(with_reducible first|apply zab|apply zac|refine zad (λ_=>?_) (λ_=>?_)|refine zae (λ_=>?_) (λ_=>?_))|refine zat (λ_=>?_) (λ_=>?_)|refine zah ?_ ?_|refine zas ζ ?_|refine zal ?_ ?_|refine zam ?_ ?_|(with_reducible first|refine zak ?_ ?_|apply zaj|apply zai)|refine zan mO ?_ ?_|apply zaq))
 all_goals(try apply zar)
 all_goals(try simp only[aG,dn]at *)
 all_goals(try simp only[aV]at *)
 all_goals first
  |(exfalso;omega)|omega|trivial|exact⟨jm _,λj hj=>absurd hj (yQ _)⟩|exact(jv hp (by show _<pts.length;omega)).1|exact(jv hp (by show _<pts.length;omega)).2|exact hpr|exact AL ξ|exact⟨rfl,rfl,by simp only[aG];rfl,rfl,trivial⟩|((with_reducible show packA _=_);refine bE ?_;rw[kE (by simp only[];omega)];done)|((with_reducible show packA _=_);refine bE ?_;rw[oh (x:=x) (by show x<pts.length;omega) χ];done)|((with_reducible show packA _=_);refine bE ?_;have hxx:x=pts.length:=ω;subst hxx;rw[kU (e:=⟨3,ly,pts,rd⟩) (.inr (.inr ⟨rfl,by show pts.length=1;omega⟩)) hx.2];simp_all;done)|((conv=>whnf);exact⟨x+1,⟨⟨rfl,rfl,rfl,aH ω,trivial⟩,⟨rfl,trivial⟩,⟨ω,bT hx.2 χ⟩,(by show pts.length-(x+1)<pts.length-x;omega)⟩⟩)|skip⟩
instance(priority:=50) Xr(kd:Int)(ly:ByteArray)(pts:List (Rq × Rq))(rd:Rq):DenI Tryz.prog 102 [.agg [.v (.int .i64 kd),.v (.string ly),.sl 8 (pts.map kK),.v (.bool rd.a),lmc rd.l,.v (.bool rd.b),lmc rd.m]] (kd<1\/3<kd) (.bool (jB ⟨kd,ly,pts,rd⟩)):=⟨λhp=>by
 refine aC Tryz.func102 rfl ?_
 all_goals(repeat'((try(conv=>whnf));first
  |apply zaf|refine zaa ?_ ?_|refine zao ?_ (λ_=>?_) (λ_=>?_)|(with_reducible first|apply zab|apply zac|refine zad (λ_=>?_) (λ_=>?_)|refine zae (λ_=>?_) (λ_=>?_))|refine zat (λ_=>?_) (λ_=>?_)|refine zah ?_ ?_|refine zas ζ ?_|refine zal ?_ ?_|refine zam ?_ ?_|(with_reducible first|refine zak ?_ ?_|apply zaj|apply zai)|apply zaq))
 all_goals(try apply zar)
 all_goals first
  |(exfalso;omega)|((with_reducible show packA _=_);refine bE ?_;rw[kE (by simp only[];omega)];done)|skip⟩
instance(priority:=2000) ae4(e:EntR):DenI Tryz.prog 102 [.agg (bH e)] (kF e) (.bool (jB e)):=⟨λhp=>by
 obtain⟨kd,ly,pts,rd⟩:=e;have hk:(kd<1\/3<kd)\/kd=1\/kd=2\/kd=3:=ω
 rcases hk with hk|rfl|rfl|rfl
 .exact(Xr kd ly pts rd).den hk
 .exact(WR ly pts rd).den hp
 .exact(UO ly pts rd).den hp
 .exact(Xp ly pts rd).den hp⟩
instance afd(a:Rat):DenI Tryz.prog 139 [R a] (rz a<=1000) (R (a*zi)):=⟨λhp=>by
 have i_a:RzB a 1000:=⟨hp⟩
 all_goals refine aC Tryz.func139 rfl ?_
 all_goals(repeat'((try(conv=>whnf));first
  |refine zaa ?_ ?_|refine zas ζ ?_|apply zaq))
 all_goals(try apply zar)
 all_goals first
  |(have z1:=zQ;exact⟨ω,aO z1 ψ⟩)|omega|rfl⟩
instance PG(a:Rat):DenI Tryz.prog 104 [R a] (rz a<=12) (.bool (CG a)):=⟨λhp=>by
 have z1:=KC;have z2:=S9 hp;have hv:=qE a
 all_goals refine aC Tryz.func104 rfl ?_
 all_goals(repeat'((try(conv=>whnf));first
  |refine zaa ?_ ?_|(with_reducible first|apply zab|apply zac|refine zad (λ_=>?_) (λ_=>?_))|refine zat (λ_=>?_) (λ_=>?_)|refine zas ζ ?_|apply zaq))
 all_goals(try apply zar)
 all_goals(try simp only[aV]at *)
 all_goals first
  |(exfalso;rename (!fU _ _ _ _)=true=>h;rw[qE]at h;cases h)|omega|(refine⟨?_, ?_⟩<;>first|(rw[fM];omega)|omega)|(have e1:(lim a.num.natAbs).length<=rz a:=fH a;have e2:(lim (a.den:Int).natAbs).length<=rz a:=fZ a;omega)|(refine bE ?_;unfold CG;simp only[*,not_true,not_false_iff,decide_true,decide_false,BJ,PE,Bool.and_false];done)|(refine bE ?_;unfold CG;have hng:(-a>((10000000:Int):Rat))↔(a < -((10000000:Int):Rat)):=ν;simp_all;done)⟩
instance(priority:=50) Ru(r:Rq):DenI Tryz.prog 104 [.agg (JI r)] (Aj r/\vR r=false) (.bool false):=⟨λhp=>by
 obtain⟨hp1,hp2⟩:=hp;unfold vR at hp2;obtain⟨hp3,hp4⟩:=hp1
 all_goals refine aC Tryz.func104 rfl ?_
 all_goals(repeat'((try(conv=>whnf));first
  |refine zaa ?_ ?_|refine zat (λ_=>?_) (λ_=>?_)|apply zaq))
 all_goals(try apply zar)
 all_goals first
  |omega|rfl|(exfalso;rename (!fU _ _ _ _)=false=>h;rw[hp2]at h;cases h)⟩
instance(priority:=2000) abW(r:Rq):DenI Tryz.prog 104 [.agg (JI r)] (Aj r) (.bool (eY r)):=⟨λhp=>by
 cases v:vR r with
 |false =>
  have h:=(Ru r).den ⟨hp,v⟩;have e:eY r=false:=by unfold eY;rw[v];rfl
  rw[e];exact h
 |true =>
  have e:=qU v;have e2:eY r=CG (qR r):=by unfold eY;rw[v];rfl
  have hz:rz (qR r)<=12:=xM (e▸hp);have h:=(PG (qR r)).den hz;rw[e2];generalize qR r=q at e h;subst e
  exact h⟩
instance(priority:=2000) adD(r:Rq):DenI Tryz.prog 21 [.agg (JI r)] (vR r=true) (.int .i64 (aK (qR r))):=⟨λv=>by
 have e:=qU v;have h:=(inferInstance:DenI Tryz.prog 21 [R (qR r)] _ (.int .i64 (aK (qR r)))).den trivial;generalize qR r=q at e h ⊢;subst e
 exact h⟩
instance(priority:=50) Ri(ly:ByteArray)(pts:List (Rq × Rq))(rd:Rq):DenI Tryz.prog 68 [.agg [.v (.int .i64 1),.v (.string ly),.sl 8 (pts.map kK),.v (.bool rd.a),lmc rd.l,.v (.bool rd.b),lmc rd.m]] (kF ⟨1,ly,pts,rd⟩) (.bool (jB ⟨1,ly,pts,rd⟩)):=⟨λhp=>by
 have hpl:pts.length<=5:=hp.2.2.1;have hpr:Aj rd:=hp.2.1
 all_goals refine aC Tryz.func68 rfl ?_
 all_goals(repeat'((try(conv=>whnf));first
  |refine zaa ?_ ?_|(with_reducible first|apply zab|apply zac|refine zad (λ_=>?_) (λ_=>?_)|refine zae (λ_=>?_) (λ_=>?_))|refine zat (λ_=>?_) (λ_=>?_)|apply zaq))
 all_goals(try apply zar)
 all_goals first
  |((conv=>whnf);refine Sw.Loop.inv (α:=Nat) (λx=>[(1,.ptr 1 0),(3,.int .i64 2),(4,.int .i64 (x:Nat))]) (λx=>[(1,.var [.v (.int .i64 1),.v (.string ly),.sl 8 (pts.map kK),.v (.bool rd.a),lmc rd.l,.v (.bool rd.b),lmc rd.m])]) (λx=>x<=pts.length/\∀j<x,(eY (pts.getD j mO).1&&eY (pts.getD j mO).2)=true) (λx=>pts.length-x) 0 ?_ ?_ ?_ (λx hx=>?_))|skip
 all_goals(repeat'((try(conv=>whnf));first
  |refine zaa ?_ ?_|(with_reducible first|apply zab|apply zac|refine zad (λ_=>?_) (λ_=>?_))|refine zat (λ_=>?_) (λ_=>?_)|refine zan mO ?_ ?_|apply zaq))
 all_goals(try apply zar)
 all_goals(try simp only[aG,dn]at *)
 all_goals(try simp only[aV]at *)
 all_goals first
  |(exfalso;omega)|omega|trivial|exact⟨jm _,λj hj=>absurd hj (yQ _)⟩|exact(jv hp (by show _<pts.length;omega)).1|exact(jv hp (by show _<pts.length;omega)).2|((with_reducible show packA _=_);refine bE ?_;rw[kE (by simp only[];omega)];done)|((with_reducible show packA _=_);refine bE ?_;rw[oh (x:=x) (by show x<pts.length;omega) χ];done)|((with_reducible show packA _=_);refine bE ?_;have hxx:x=pts.length:=ω;subst hxx;rw[kU (e:=⟨1,ly,pts,rd⟩) (.inl ⟨rfl,by show pts.length=2;omega⟩) hx.2];simp_all;done)|((conv=>whnf);exact⟨x+1,⟨⟨rfl,rfl,aH ω,trivial⟩,⟨rfl,trivial⟩,⟨ω,bT hx.2 χ⟩,(by show pts.length-(x+1)<pts.length-x;omega)⟩⟩)⟩
instance(priority:=50) Qa(ly:ByteArray)(pts:List (Rq × Rq))(rd:Rq):DenI Tryz.prog 68 [.agg [.v (.int .i64 2),.v (.string ly),.sl 8 (pts.map kK),.v (.bool rd.a),lmc rd.l,.v (.bool rd.b),lmc rd.m]] (kF ⟨2,ly,pts,rd⟩) (.bool (jB ⟨2,ly,pts,rd⟩)):=⟨λhp=>by
 have hpl:pts.length<=5:=hp.2.2.1;have hpr:Aj rd:=hp.2.1
 all_goals refine aC Tryz.func68 rfl ?_
 all_goals(repeat'((try(conv=>whnf));first
  |refine zaa ?_ ?_|(with_reducible first|apply zab|apply zac|refine zad (λ_=>?_) (λ_=>?_)|refine zae (λ_=>?_) (λ_=>?_))|refine zat (λ_=>?_) (λ_=>?_)|apply zaq))
 all_goals(try apply zar)
 all_goals first
  |((conv=>whnf);refine Sw.Loop.inv (α:=Nat) (λx=>[(1,.ptr 1 0),(3,.int .i64 3),(4,.int .i64 (x:Nat))]) (λx=>[(1,.var [.v (.int .i64 2),.v (.string ly),.sl 8 (pts.map kK),.v (.bool rd.a),lmc rd.l,.v (.bool rd.b),lmc rd.m])]) (λx=>x<=pts.length/\∀j<x,(eY (pts.getD j mO).1&&eY (pts.getD j mO).2)=true) (λx=>pts.length-x) 0 ?_ ?_ ?_ (λx hx=>?_))|skip
 all_goals(repeat'((try(conv=>whnf));first
  |refine zaa ?_ ?_|(with_reducible first|apply zab|apply zac|refine zad (λ_=>?_) (λ_=>?_))|refine zat (λ_=>?_) (λ_=>?_)|refine zan mO ?_ ?_|apply zaq))
 all_goals(try apply zar)
 all_goals(try simp only[aG,dn]at *)
 all_goals(try simp only[aV]at *)
 all_goals first
  |(exfalso;omega)|omega|trivial|exact⟨jm _,λj hj=>absurd hj (yQ _)⟩|exact(jv hp (by show _<pts.length;omega)).1|exact(jv hp (by show _<pts.length;omega)).2|((with_reducible show packA _=_);refine bE ?_;rw[kE (by simp only[];omega)];done)|((with_reducible show packA _=_);refine bE ?_;rw[oh (x:=x) (by show x<pts.length;omega) χ];done)|((with_reducible show packA _=_);refine bE ?_;have hxx:x=pts.length:=ω;subst hxx;rw[kU (e:=⟨2,ly,pts,rd⟩) (.inr (.inl ⟨rfl,by show pts.length=3;omega⟩)) hx.2];simp_all;done)|((conv=>whnf);exact⟨x+1,⟨⟨rfl,rfl,aH ω,trivial⟩,⟨rfl,trivial⟩,⟨ω,bT hx.2 χ⟩,(by show pts.length-(x+1)<pts.length-x;omega)⟩⟩)⟩
instance(priority:=50) QM(ly:ByteArray)(pts:List (Rq × Rq))(rd:Rq):DenI Tryz.prog 68 [.agg [.v (.int .i64 3),.v (.string ly),.sl 8 (pts.map kK),.v (.bool rd.a),lmc rd.l,.v (.bool rd.b),lmc rd.m]] (kF ⟨3,ly,pts,rd⟩) (.bool (jB ⟨3,ly,pts,rd⟩)):=⟨λhp=>by
 have hpl:pts.length<=5:=hp.2.2.1;have hpr:Aj rd:=hp.2.1
 all_goals refine aC Tryz.func68 rfl ?_
 all_goals(repeat'((try(conv=>whnf));first
  |refine zaa ?_ ?_|(with_reducible first|apply zab|apply zac|refine zad (λ_=>?_) (λ_=>?_)|refine zae (λ_=>?_) (λ_=>?_))|refine zat (λ_=>?_) (λ_=>?_)|apply zaq))
 all_goals(try apply zar)
 all_goals first
  |((conv=>whnf);refine Sw.Loop.inv (α:=Nat) (λx=>[(1,.ptr 1 0),(3,.int .i64 1),(4,.int .i64 (x:Nat))]) (λx=>[(1,.var [.v (.int .i64 3),.v (.string ly),.sl 8 (pts.map kK),.v (.bool rd.a),lmc rd.l,.v (.bool rd.b),lmc rd.m])]) (λx=>x<=pts.length/\∀j<x,(eY (pts.getD j mO).1&&eY (pts.getD j mO).2)=true) (λx=>pts.length-x) 0 ?_ ?_ ?_ (λx hx=>?_))|skip
 all_goals(repeat'((try(conv=>whnf));first
  |refine zaa ?_ ?_|(with_reducible first|apply zab|apply zac|refine zad (λ_=>?_) (λ_=>?_))|refine zat (λ_=>?_) (λ_=>?_)|refine zan mO ?_ ?_|apply zaq))
 all_goals(try apply zar)
 all_goals(try simp only[aG,dn]at *)
 all_goals(try simp only[aV]at *)
 all_goals first
  |(exfalso;omega)|omega|trivial|exact⟨jm _,λj hj=>absurd hj (yQ _)⟩|exact(jv hp (by show _<pts.length;omega)).1|exact(jv hp (by show _<pts.length;omega)).2|exact AL (by simp_all)|((with_reducible show packA _=_);refine bE ?_;rw[kE (by simp only[];omega)];done)|((with_reducible show packA _=_);refine bE ?_;rw[oh (x:=x) (by show x<pts.length;omega) χ];done)|((with_reducible show packA _=_);refine bE ?_;rw[RY rfl χ];done)|((with_reducible show packA _=_);refine bE ?_;have hxx:x=pts.length:=ω;subst hxx;rw[kU (e:=⟨3,ly,pts,rd⟩) (.inr (.inr ⟨rfl,by show pts.length=1;omega⟩)) hx.2];simp_all;done)|((conv=>whnf);exact⟨x+1,⟨⟨rfl,rfl,aH ω,trivial⟩,⟨rfl,trivial⟩,⟨ω,bT hx.2 χ⟩,(by show pts.length-(x+1)<pts.length-x;omega)⟩⟩)⟩
instance(priority:=50) P9(kd:Int)(ly:ByteArray)(pts:List (Rq × Rq))(rd:Rq):DenI Tryz.prog 68 [.agg [.v (.int .i64 kd),.v (.string ly),.sl 8 (pts.map kK),.v (.bool rd.a),lmc rd.l,.v (.bool rd.b),lmc rd.m]] (kd<1\/3<kd) (.bool (jB ⟨kd,ly,pts,rd⟩)):=⟨λhp=>by
 refine aC Tryz.func68 rfl ?_
 all_goals(repeat'((try(conv=>whnf));first
  |refine zaa ?_ ?_|(with_reducible first|apply zab|apply zac|refine zad (λ_=>?_) (λ_=>?_)|refine zae (λ_=>?_) (λ_=>?_))|refine zat (λ_=>?_) (λ_=>?_)|apply zaq))
 all_goals(try apply zar)
 all_goals first
  |(exfalso;omega)|((with_reducible show packA _=_);refine bE ?_;rw[kE (by simp only[];omega)];done)⟩
instance(priority:=2000) adI(e:EntR):DenI Tryz.prog 68 [.agg (bH e)] (kF e) (.bool (jB e)):=⟨λhp=>by
 obtain⟨kd,ly,pts,rd⟩:=e;have hk:(kd<1\/3<kd)\/kd=1\/kd=2\/kd=3:=ω
 rcases hk with hk|rfl|rfl|rfl
 .exact(P9 kd ly pts rd).den hk
 .exact(Ri ly pts rd).den hp
 .exact(Qa ly pts rd).den hp
 .exact(QM ly pts rd).den hp⟩
instance abA(l:LayD):DenI Tryz.prog 66 [.agg (aW l)] (l.name.size<=1000000) (.bool (xI l)):=⟨λhp=>by
 refine aC Tryz.func66 rfl ?_
 all_goals(repeat'((try(conv=>whnf));first
  |refine zaa ?_ ?_|(with_reducible first|apply zab|apply zac|refine zad (λ_=>?_) (λ_=>?_))|refine zat (λ_=>?_) (λ_=>?_)|apply zaq))
 all_goals(try apply zar)
 all_goals first
  |omega|(refine bE ?_;unfold xI;rw[vS];simp_all;done)|(refine bE ?_;unfold xI;rw[vS];simp_all;omega)⟩
instance abQ(ls:List LayD)(s:ByteArray):DenI Tryz.prog 67 [.c (.sl 3 (ls.map aW)),.c (.v (.string s))] (ls.length<=1000) (.int .i64 (mP ls s)):=⟨λhp=>by
 refine aC Tryz.func67 rfl ?_
 all_goals first
  |((conv=>whnf);refine Sw.Loop.inv (α:=Nat) (λk=>[(0,.c (.sl 3 (ls.map aW))),(1,.c (.v (.string s))),(5,.int .i64 (k:Nat))]) (λk=>[]) (λk=>k<=ls.length/\∀j<k,eqS (ls.getD j L0).name s=false) (λk=>ls.length-k) 0 ?_ ?_ ?_ (λk hk=>?_))
 all_goals(repeat'((try(conv=>whnf));first
  |(with_reducible refine zad (λ_=>?_) (λ_=>?_))|refine zat (λ_=>?_) (λ_=>?_)|refine zan L0 ?_ ?_|apply zaq))
 all_goals(try apply zar)
 all_goals(try simp only[aG,dn]at *)
 all_goals first
  |omega|trivial|exact⟨jm _,λj hj=>absurd hj (yQ _)⟩|((conv=>whnf);exact⟨k+1,⟨⟨rfl,rfl,aH ω,trivial⟩,trivial,⟨ω,bT hk.2 ξ⟩,(by show ls.length-(k+1)<ls.length-k;omega)⟩⟩)|((with_reducible show packA _=_);rw[vW (x:=k) ω hk.2 ξ];rfl)|((with_reducible show packA _=_);have hxx:k=ls.length:=ω;subst hxx;rw[Lr hk.2];rfl)⟩
instance VJ(ls:List LayD)(es:List EntR):DenI Tryz.prog 22 [.agg [(.sl 3 (ls.map aW)),.sl 7 (es.map bH)]] (ls.length<=1000/\es.length<=1000/\(∀l∈ls,l.name.size<=1000)/\∀e∈es,kF e) (.int .i64 (dS ls es)):=⟨λhp=>by
 obtain⟨hp1,hp2,hp3,hp4⟩:=hp
 all_goals refine aC Tryz.func22 rfl ?_
 all_goals(repeat'((try(conv=>whnf));first
  |(with_reducible first|apply zab|apply zac|refine zad (λ_=>?_) (λ_=>?_))|apply zaq))
 all_goals(try simp only[aG,dn]at *)
 all_goals first
  |((conv=>whnf);refine Sw.Loop.inv (α:=Nat) (λx=>[(1,.ptr 1 0),(3,.int .i64 (x:Nat))]) (λx=>[(1,.var [(.sl 3 (ls.map aW)),.sl 7 (es.map bH)])]) (λx=>x<=ls.length/\∀j<x,lu ls j=none) (λx=>ls.length-x) 0 ?_ ?_ ?_ (λx hx=>?_))|skip
 all_goals(repeat'((try(conv=>whnf));first
  |refine zaa ?_ ?_|(with_reducible refine zad (λ_=>?_) (λ_=>?_))|refine zat (λ_=>?_) (λ_=>?_)|refine zas ζ ?_|refine zan L0 ?_ ?_|apply zaq))
 all_goals(try apply zar)
 all_goals(try simp only[aG,dn]at *)
 all_goals first
  |((conv=>whnf);refine Sw.Loop.inv (α:=Nat) (λy=>[(1,.ptr 1 0),(4,.int .i64 (y:Nat))]) (λy=>[(1,.var [(.sl 3 (ls.map aW)),.sl 7 (es.map bH)])]) (λy=>y<=es.length/\∀j<y,mJ ls es j=none) (λy=>es.length-y) 0 ?_ ?_ ?_ (λy hy=>?_))|skip
 all_goals(repeat'((try(conv=>whnf));first
  |refine zaa ?_ ?_|(with_reducible refine zad (λ_=>?_) (λ_=>?_))|refine zat (λ_=>?_) (λ_=>?_)|refine zas ζ ?_|refine zan qg ?_ ?_|apply zaq))
 all_goals(try apply zar)
 all_goals(try simp only[aG,dn]at *)
 all_goals first
  |omega|trivial|exact⟨jm _,λj hj=>absurd hj (yQ _)⟩|(have z:=Un hp3 x;omega)|exact Uc hp4 ω|(refine iE ?_;rw[IJ ω];done)|(refine iE ?_;rw[Ar ω ω hx.2 (VN ξ)];done)|(refine iE ?_;rw[Ar ω ω hx.2 (XM ξ ξ)];done)|(refine iE ?_;have hxx:x=ls.length:=ω;subst hxx;rw[zV ω hx.2 ω hy.2 (Vd ξ)];done)|(refine iE ?_;have hxx:x=ls.length:=ω;subst hxx;rw[zV ω hx.2 ω hy.2 (WU ξ ξ)];done)|(refine iE ?_;have hxx:x=ls.length:=ω;subst hxx;have hyy:y=es.length:=ω;subst hyy;rw[OO ω hx.2 hy.2];done)|((conv=>whnf);exact⟨y+1,⟨⟨rfl,aH ω,trivial⟩,⟨rfl,trivial⟩,⟨ω,bT hy.2 (WJ ξ ξ)⟩,(by show es.length-(y+1)<es.length-y;omega)⟩⟩)|((conv=>whnf);exact⟨x+1,⟨⟨rfl,aH ω,trivial⟩,⟨rfl,trivial⟩,⟨ω,bT hx.2 (XB ξ ξ)⟩,(by show ls.length-(x+1)<ls.length-x;omega)⟩⟩)⟩
instance(priority:=2000) PU(ls:List LayD)(es:List Ent):DenI Tryz.prog 22 [.agg [(.sl 3 (ls.map aW)),.sl 7 (es.map aN)]] (ls.length<=1000/\es.length<=1000/\(∀l∈ls,l.name.size<=1000)/\∀e∈es,kF (dM e)) (.int .i64 (dS ls (es.map dM))):=⟨λ⟨h1,h2,h3,h4⟩=>by
 have h:=(VJ ls (es.map dM)).den ⟨h1,by rw[aG];exact h2,h3,λe he=>by obtain⟨x,hx,rfl⟩:=dW.1 he;exact h4 x hx⟩;have e:(es.map dM).map bH=es.map aN:=by rw[List.map_map];exact List.map_congr_left λe _=>OU e
 rw[e]at h
 exact h⟩
end Go.Proofs.YtmniihkenijjpaaGreatDoor
