/-
  Rules of the abstract run, plain laws, and what functions answer, for the law TopRepaired.
  Conditions: none.
-/
import Derived.Test.YtmniihkenijjpaaGreatDoorW16
import Derived.Shelf.LaysM
import Derived.Shelf.Strconv.Itoa1
import Derived.Shelf.Strconv.Itoa2
import Derived.Lib.Walk
import Derived.Lib.ItoaMem
import Derived.Lib.ItoaLen
import Derived.Lib.AppendIntMem
import Derived.WalkKit
import Derived.BigCall
import Derived.BigGuard
import Derived.Shelf.SlicesE.Clone
import Derived.Shelf.Strings.Repeat
import Derived.Lib.Builder
import Derived.Shelf.Strings.Builder1
set_option linter.all false
namespace Go.Proofs.YtmniihkenijjpaaGreatDoor
open Go Go.RowKit Go.Sw Go.Shelf
set_option maxRecDepth 100000
set_option maxHeartbeats 16000000
set_option synthInstance.maxSize 4000
set_option synthInstance.maxHeartbeats 400000
instance YR(l:List (Ent × Nat)):DenI Tryz.prog 51 [.c (.sl 8 (l.map fU))] (l.length<=12/\∀x∈l,okV x.1) (.tup [.c (.sl 8 ((jE l).map fU)),.c (.sl 19 ((jF l).map mJ))]):=⟨λ⟨h1,h4⟩=>by
 refine aaP (τ:=wZ) gX aP Tryz.func51 rfl ζ ζ ζ ?_
 (conv=>whnf)
 refine Sw.Loop.ghost 4 100 86 8 ?_ rfl rfl rfl ψ;refine Sw.Loop.ghost 5 101 47 19 ?_ rfl rfl rfl ψ;refine Sw.Loop.inv (α:=Nat) (λx=>[(10,.c (.sl 8 (l.map fU))),(11,.int .i64 (l.length:Nat)),(12,.int .i64 (x:Nat)),(4,.gs 100 ((FT l x).map fU).length),(5,.gs 101 ((FQ l x).map mJ).length)]) (λx=>[(100,.grow 86 8 ((FT l x).map fU)),(101,.grow 47 19 ((FQ l x).map mJ))]) (λx=>x<=l.length) (λx=>l.length-x) 0 ?_ ?_ ?_ (λx hx=>?_)
 .exact⟨rfl,by simp only[aN];rfl,rfl,rfl,rfl,trivial⟩
 .exact⟨rfl,rfl,trivial⟩
 .exact lN _
 obtain⟨hk1,hk2⟩:=vF l x
 by_cases hxl:x<l.length
 .have g0:=wG h4 hxl;obtain⟨g1,g2,g3⟩:=g0.2;rcases jk (l.getD x N0).1 with hE|⟨a,b,hE⟩
  .haveI ie:DenI Tryz.prog 30 [.agg (bF (l.getD (Int.toNat ((x:Nat):Int)) N0).1)] ((l.getD x N0).1.pts.length<=1000000) (.tup [.c (.sl 8 []),.bool false]):=⟨λhp=>by have:=(iR (l.getD x N0).1).den hp;rw[hE]at this;simpa using this⟩
   all_goals(repeat'((try(conv=>whnf));first
    |refine y5 ?_ ?_|(with_reducible first|refine aam ?_|refine aao ?_|refine aah (λ_=>?_) (λ_=>?_))|refine zat (λ_=>?_) (λ_=>?_)|refine aax ?_ ?_|refine zas ζ ?_|refine aar N0 ?_ ?_|apply zaq))
   all_goals(try apply zar)
   all_goals(try simp only[aN,fB]at *)
   all_goals first
    |omega|exact za0|exact⟨ξ,g0⟩|(have hf:gu (l.getD x N0).1=5:=(by rw[CJ hE,if_pos ⟨ξ,ξ⟩]);obtain⟨h5,h6⟩:=Jd (l:=l) (x:=x) (k:=4) ω hf;(conv=>whnf);exact⟨x+1,⟨⟨rfl,rfl,aK ω,(by(simp only[h5,h6,dI,dJ,eF,dB,dY,aN,dK,dZ]);(first|done|rfl)),(by(simp only[h5,h6,dI,dJ,eF,dB,dY,aN,dK,dZ]);(first|done|rfl)),trivial⟩,⟨(by(simp only[h5,h6,dI,dJ,eF,dB]);(first|done|rfl)),(by(simp only[h5,h6,dI,dJ,eF,dB]);(first|done|rfl)),trivial⟩,ω,(by show l.length-(x+1)<l.length-x;omega)⟩⟩)|(have hf:gu (l.getD x N0).1=0:=(by rw[CJ hE,if_neg χ]);obtain⟨h5,h6⟩:=O8 (l:=l) (x:=x) ω hf;(conv=>whnf);exact⟨x+1,⟨⟨rfl,rfl,aK ω,(by(simp only[h5,h6,dI,dJ,eF,dB,dY,aN,dK,dZ]);(first|done|rfl)),(by(simp only[h5,h6,dI,dJ,eF,dB,dY,aN,dK,dZ]);(first|done|rfl)),trivial⟩,⟨(by(simp only[h5,h6,dI,dJ,eF,dB]);(first|done|rfl)),(by(simp only[h5,h6,dI,dJ,eF,dB]);(first|done|rfl)),trivial⟩,ω,(by show l.length-(x+1)<l.length-x;omega)⟩⟩)
  .haveI ie:DenI Tryz.prog 30 [.agg (bF (l.getD (Int.toNat ((x:Nat):Int)) N0).1)] ((l.getD x N0).1.pts.length<=1000000) (.tup [.c (.sl 8 [aas a,aas b]),.bool true]):=⟨λhp=>by have:=(iR (l.getD x N0).1).den hp;rw[hE]at this;simpa using this⟩
   have ha:aS a:=g1 a (eU (by rw[hE];simp));have hb:aS b:=g1 b (eU (by rw[hE];simp))
   all_goals(repeat'((try(conv=>whnf));first
    |refine y5 ?_ ?_|(with_reducible first|refine aam ?_|refine aao ?_|refine aah (λ_=>?_) (λ_=>?_))|refine zat (λ_=>?_) (λ_=>?_)|refine aax ?_ ?_|refine zas ζ ?_|(with_reducible first|refine aaA ?_|refine aaK ?_)|refine aar N0 ?_ ?_|apply zaq))
   all_goals(try apply zar)
   all_goals(try simp only[aN,fB]at *)
   all_goals first
    |omega|exact za0|exact⟨ξ,g0⟩|exact⟨aU ha.1 ψ,aU ha.2 ψ,aU hb.1 ψ,aU hb.2 ψ⟩|(have hf:=Om (a:=a) (b:=b) hE ξ;obtain⟨h5,h6⟩:=Jd (l:=l) (x:=x) (k:=1) ω hf;(conv=>whnf);exact⟨x+1,⟨⟨rfl,rfl,aK ω,(by(simp only[h5,h6,dI,dJ,eF,dB,dY,aN,dK,dZ]);(first|done|rfl)),(by(simp only[h5,h6,dI,dJ,eF,dB,dY,aN,dK,dZ]);(first|done|rfl)),trivial⟩,⟨(by(simp only[h5,h6,dI,dJ,eF,dB]);(first|done|rfl)),(by(simp only[h5,h6,dI,dJ,eF,dB]);(first|done|rfl)),trivial⟩,ω,(by show l.length-(x+1)<l.length-x;omega)⟩⟩)|(have hf:gu (l.getD x N0).1=5:=(by rw[Dj (a:=a) (b:=b) hE ξ,if_pos ⟨ξ,ξ⟩]);obtain⟨h5,h6⟩:=Jd (l:=l) (x:=x) (k:=4) ω hf;(conv=>whnf);exact⟨x+1,⟨⟨rfl,rfl,aK ω,(by(simp only[h5,h6,dI,dJ,eF,dB,dY,aN,dK,dZ]);(first|done|rfl)),(by(simp only[h5,h6,dI,dJ,eF,dB,dY,aN,dK,dZ]);(first|done|rfl)),trivial⟩,⟨(by(simp only[h5,h6,dI,dJ,eF,dB]);(first|done|rfl)),(by(simp only[h5,h6,dI,dJ,eF,dB]);(first|done|rfl)),trivial⟩,ω,(by show l.length-(x+1)<l.length-x;omega)⟩⟩)|(have hf:gu (l.getD x N0).1=0:=(by rw[Dj (a:=a) (b:=b) hE ξ,if_neg χ]);obtain⟨h5,h6⟩:=O8 (l:=l) (x:=x) ω hf;(conv=>whnf);exact⟨x+1,⟨⟨rfl,rfl,aK ω,(by(simp only[h5,h6,dI,dJ,eF,dB,dY,aN,dK,dZ]);(first|done|rfl)),(by(simp only[h5,h6,dI,dJ,eF,dB,dY,aN,dK,dZ]);(first|done|rfl)),trivial⟩,⟨(by(simp only[h5,h6,dI,dJ,eF,dB]);(first|done|rfl)),(by(simp only[h5,h6,dI,dJ,eF,dB]);(first|done|rfl)),trivial⟩,ω,(by show l.length-(x+1)<l.length-x;omega)⟩⟩)
 .have hxx:x=l.length:=ω
  subst hxx
  all_goals(repeat'((try(conv=>whnf));first
   |refine y5 ?_ ?_|(with_reducible first|refine aam ?_|refine aao ?_|refine aah (λ_=>?_) (λ_=>?_))|refine zat (λ_=>?_) (λ_=>?_)|refine aax ?_ ?_|refine zas ζ ?_|refine aar N0 ?_ ?_|apply zaq))
  all_goals(try apply zar)
  all_goals first
   |(exfalso;omega)|exact zay|((with_reducible show aai _=_);rw[Dn,BR];rfl)⟩
instance ZM(sq:Rat)(sp:aaI)(n:Nat)(s:ByteArray)(v:P2):DenI Tryz.prog 92 [.gh (aeY Tryz.prog 9 45 8 (jst sq sp n)),.c (.v (.string s)),.agg (aas v)] (s.size<=1000/\rz v.1<=12/\rz v.2<=12/\rz sq<=1000/\n<=1000000/\(∀p∈aan sp s,rz p.1<=12/\rz p.2<=12)/\(aan sp s).length<=1000000)
 (.tup [.gh (aeY Tryz.prog 9 45 8 (jst sq (aay sq sp s v).1 (n+1))),.agg (aas (aay sq sp s v).2)]):=⟨λ⟨h1,h2,h3,h4,h5,h6,h7⟩=>Uy sq sp n s v h1 h2 h3 h4 h5 h6 h7⟩
instance TL(e:Ent)(a b:P2):DenI Tryz.prog 94 [.agg (bF e),.c (.sl 8 ([cellsOf (.agg (aas a))]++[cellsOf (.agg (aas b))]))] (e.pts.length<=1000000/\2=(aH e).length) (.agg (bF (dA e [a,b]))):=⟨λhp=>(inferInstance:DenI Tryz.prog 94 [.agg (bF e),.c (.sl 8 ([a,b].map aas))] (e.pts.length<=1000000/\[a,b].length=(aH e).length) (.agg (bF (dA e [a,b])))).den hp⟩
theorem bQ{l:List Ent}{e:Ent}{x:Nat}(h:l.length=x):(l++[e]).zipIdx=l.zipIdx++[(e,x)]:=by subst h;simp[List.zipIdx_append]
theorem RV(tol:Rat)(es:List Ent)(sL:Nat)(ls:List (List Cell))(ht:rz tol<=12)(hle:es.length<=12)(hes:∀e∈es,(∀p∈e.pts,aS p)/\e.layer.size<=1000/\e.pts.length<=3):
 Den Tryz.prog 50 [.agg [.sl sL ls,.sl 7 (es.map bF)],R tol] (.tup [.c (.sl 8 ((aQ (tol*tol) 0 [] es).es.zipIdx.map fU)),.own 47 19 ((aQ (tol*tol) 0 [] es).cs.map mJ)]):=by
 have i_t:RzB tol 12:=⟨ht⟩
 have hsq:rz (tol*tol)<=1000:=oN ω;have hj:=yP (q:=aS) (sq:=tol*tol) (es:=es) (λe he=>(hes e he).1);refine Den.of ⟨ζ,λw X vs ho hX hl hR=>?_⟩ rfl
 haveI:WOk Tryz.prog w:=⟨ho⟩
 refine enter Tryz.func50 rfl rfl (by rw[hl];rfl) λa hF=>?_
 have hc:=adq (N:=76) hX hl hR hF;refine aak (abr (τ:=Fq) kW aP _ (QA:=λz e b=>z=.normal/\SubE [(2,.ptr 2 0),(3,.ptr 3 0),(4,.c (.v (.slice none 0 0))),(5,.c (.v (.slice none 0 0)))] e/\SubB [(2,.var [.sl sL ls,.sl 7 (es.map bF)]),(3,.var (aeu tol))] b) ζ ?_ hc ?_)
 case refine_1 =>
  all_goals(repeat'((try(conv=>whnf));first
   |refine aaj ?_|refine y5 ?_ ?_|refine aa5 ?_ (λ_=>?_) (λ_=>?_)|(with_reducible first|refine aam ?_|refine aao ?_|refine aah (λ_=>?_) (λ_=>?_)|refine aav (λ_=>?_) (λ_=>?_))|refine zat (λ_=>?_) (λ_=>?_)|refine aax ?_ ?_|refine zas ζ ?_|refine aaW ?_ ?_|refine aa2 ?_ ?_|(with_reducible first|refine aaB ?_ ?_|refine aaA ?_|refine aaK ?_)|apply zaq))
  all_goals(try apply zar)
  exact⟨rfl,⟨rfl,rfl,rfl,rfl,trivial⟩,⟨rfl,rfl,trivial⟩⟩
 clear hc;rintro x e b a w1 ⟨rfl,he,hb⟩ hc;replace hc:=hc.sub he hb;clear he hb;refine aaG ?_;obtain⟨S,M,hs⟩:=hc;refine aak (aal ?_);refine wp1 rfl af9 ?_;have hB1:Below w1.heap.size w1 (w1.alloc (.map #[] 0)):=afJ w1 _;have hs2:=(hs.below hB1).putV (t:=17) (u:=.map (some w1.heap.size)) (v:=.any) ⟨ψ,rfl⟩ .any;have hm2:(w1.alloc (.map #[] 0)).heap[w1.heap.size]?=some (.map #[] 0):=ahu w1 _;generalize w1.alloc (.map #[] 0)=w2 at hB1 hs2 hm2 ⊢;generalize hg0:w1.heap.size=g0 at hs2 hm2 ⊢;obtain⟨g3,T3,c3,v3,hh3,hr3⟩:=hs2.var (t:=3) (i:=3) rfl rfl;have hl3:c3.size=4:=by have:=hr3.len;simpa using this
 have hrow:isRow Tryz.prog 30 4=true:=ζ
 have hFm:Frm 76 _ [(3,.pointer (some ⟨g3,0,none⟩)),(17,.map (some g0))]:=(hs2.frm.cons (aaE _ hs.sz ψ)).cons v3;refine wp1 rfl (kP hrow (hFm.ev rfl) hh3 (by simp[hl3])) ?_;have hs3:=hs2.putV (t:=18) (u:=.agg c3) (v:=.any) ⟨ψ,rfl⟩ .any;replace hFm:=hFm.put (d:=18) ψ (.agg c3);refine wp1 rfl (kP hrow (hFm.ev rfl) hh3 (by simp[hl3])) ?_;have hs4:=hs3.putV (t:=19) (u:=.agg c3) (v:=.any) ⟨ψ,rfl⟩ .any;replace hFm:=hFm.put (d:=19) ψ (.agg c3)
 have hd3:RepD w2 (bl S++X) (.agg c3) (R tol):=by
  obtain⟨c3⟩:=c3;exact .agg hr3
 have hden:=((inferInstance:DenI Tryz.prog 91 [R tol,R tol] _ (R (tol*tol))).den (by exact⟨aU ht ψ,aU ht ψ⟩)).old rfl;have hok2:Wld.ok Tryz.prog w2:=Wld.keep (Wld.keep ho hs.ms.st.below) hB1
 have hcall:=hden.2 w2 (bl S++X) [.agg c3,.agg c3] hok2 hs4.bnd rfl (λi u v hu hv=>by
  match i,hu,hv with
  |0,hu,hv=>cases hu;cases hv;exact hd3
  |1,hu,hv=>cases hu;cases hv;exact hd3)
 refine ajr rfl (DX ζ (ajj (hFm.ev rfl) (hFm.ev rfl)) rfl) hcall ?_;rintro u5 w3 ⟨hR5,hB3⟩;obtain⟨us5,rfl,hr5⟩:=hR5.agg;have hl5:us5.length=4:=by have:=hr5.len;simpa using this
 have hs5:=(hs4.below hB3).putV (t:=20) (u:=.agg us5.toArray) (v:=.any) ⟨ψ,rfl⟩ .any;replace hFm:=hFm.put (d:=20) ψ (.agg us5.toArray);have hm3:w3.heap[g0]?=some (.map #[] 0):=(hB3.block _ (lt_of_heap hm2)).trans hm2;refine wp1 rfl (agc (hFm.ev rfl) rfl (hFm.ev rfl) (afw (aaq gX (t:=133) rfl) rfl hl5)) ?_;have hs6:=hs5.putV (t:=21) (u:=.agg (#[.map (some g0)]++us5.toArray)) (v:=.any) ⟨ψ,rfl⟩ .any;replace hFm:=hFm.put (d:=21) ψ (.agg (#[.map (some g0)]++us5.toArray));refine wp1 rfl (af2 (hFm.ev rfl)) ?_;have hc:=Sta.ghost0 (i:=22) (T:=133) (us:=.map (some g0)::us5) (G:=aeY Tryz.prog 9 45 8 (jst (tol*tol) [] 0)) (g0:=g0) hs hs6 ω hm3 rfl rfl rfl ⟨ψ,rfl⟩ (ajb hr5);rw[show(Value.map (some g0)::us5).toArray=(Value.agg (#[.map (some g0)]++us5.toArray)).cells by simp[Value.cells]]at hc;refine adH kW (k:=λe b=>SubE [(6,.ptr 22 0),(2,.ptr 2 0)] e/\SubB [(22,.gh (aeY Tryz.prog 9 45 8 (jst (tol*tol) [] 0))),(2,.var [.sl sL ls,.sl 7 (es.map bF)])] b) ?_ ζ ?_ hc
 case refine_2 =>
  all_goals(repeat'((try(conv=>whnf));first
   |refine aaj ?_|refine y5 ?_ ?_|refine aa5 ?_ (λ_=>?_) (λ_=>?_)|(with_reducible first|refine aam ?_|refine aao ?_|refine aah (λ_=>?_) (λ_=>?_)|refine aav (λ_=>?_) (λ_=>?_))|refine zat (λ_=>?_) (λ_=>?_)|refine aax ?_ ?_|refine zas ζ ?_|refine aaW ?_ ?_|refine aa2 ?_ ?_|(with_reducible first|refine aaB ?_ ?_|refine aaA ?_|refine aaK ?_)|apply zaq))
  all_goals(try apply zar)
  exact⟨⟨rfl,rfl,trivial⟩,⟨rfl,rfl,trivial⟩⟩
 clear hc hFm hs6 hm3 hs5 hl5 hR5 hr5 hB3 hcall hok2 hden hd3 hs4 hs3 hrow hl3 hr3 hh3 v3 hm2 hs2 hg0 hB1 hs hF hR hl hX;rintro e b a w4 ⟨he,hb⟩ hc;replace hc:=hc.sub he hb;clear he hb;refine aaG ?_;refine abr (τ:=Fq) kW aP _ (QA:=aif Fq _ [none,some (47,19)] (.tup [.c (.sl 8 ((aQ (tol*tol) 0 [] es).es.zipIdx.map fU)),.own 47 19 ((aQ (tol*tol) 0 [] es).cs.map mJ)])) ζ ?_ hc (λx e b a w' hx hc'=>agy kW hx hc');clear hc ho
 (conv=>whnf);refine Sw.Loop.ghost 7 100 86 8 ?_ rfl rfl rfl ψ
 refine Sw.Loop.ghost 8 101 47 19 ?_ rfl rfl rfl ψ;refine Sw.Loop.inv (α:=Nat) (λx=>[(6,.ptr 22 0),(24,.c (.sl 7 (es.map bF))),(25,.int .i64 (es.length:Nat)),(26,.int .i64 (x:Nat)),(7,.gs 100 ((jA (tol*tol) es x).es.zipIdx.map fU).length),(8,.gs 101 ((jA (tol*tol) es x).cs.map mJ).length)]) (λx=>[(22,.gh (aeY Tryz.prog 9 45 8 (jst (tol*tol) (jA (tol*tol) es x).sp (nE es x)))),(100,.grow 86 8 ((jA (tol*tol) es x).es.zipIdx.map fU)),(101,.grow 47 19 ((jA (tol*tol) es x).cs.map mJ))]) (λx=>x<=es.length) (λx=>es.length-x) 0 ?_ ?_ ?_ (λx hx=>?_)
 .exact⟨rfl,rfl,by simp only[aN];rfl,rfl,rfl,rfl,trivial⟩
 .exact⟨rfl,rfl,rfl,trivial⟩
 .exact lN _
 obtain⟨j1,j2,j3,j4,j5⟩:=hj x hx;obtain⟨g1,g2,g3'⟩:=LZ hes x;have hn2:=BZ es x;rcases jk (es.getD x E0)with hE|⟨a,b,hE⟩
 .haveI ie:DenI Tryz.prog 30 [.agg (bF (es.getD (Int.toNat ((x:Nat):Int)) E0))] ((es.getD x E0).pts.length<=1000000) (.tup [.c (.sl 8 []),.bool false]):=⟨λhp=>by have:=(iR (es.getD x E0)).den hp;rw[hE]at this;simpa using this⟩
  all_goals(repeat'((try(conv=>whnf));first
   |refine aaj ?_|refine y5 ?_ ?_|refine aa5 ?_ (λ_=>?_) (λ_=>?_)|(with_reducible first|refine aam ?_|refine aao ?_|refine aah (λ_=>?_) (λ_=>?_)|refine aav (λ_=>?_) (λ_=>?_))|refine zat (λ_=>?_) (λ_=>?_)|refine aax ?_ ?_|refine zas ζ ?_|refine aaW ?_ ?_|refine aa2 ?_ ?_|(with_reducible first|refine aaB ?_ ?_|refine aaA ?_|refine aaK ?_)|refine aar E0 ?_ ?_|apply zaq))
  all_goals(try apply zar)
  all_goals first
   |((conv=>whnf);refine Sw.Loop.unroll ?_)|skip
  all_goals(repeat'((try rw[Ci]);(try rw[yE]);(try(conv=>whnf));first
   |refine aaj ?_|refine y5 ?_ ?_|(with_reducible first|refine aam ?_|refine aao ?_)|refine cZ (by simp only[dK,dZ];decide) ?_|refine dR (by simp only[dK,dZ];decide) ?_|refine cZ ψ ?_|refine dR ψ ?_|(with_reducible first|refine aah (λ_=>?_) (λ_=>?_)|refine aav (λ_=>?_) (λ_=>?_))|refine zat (λ_=>?_) (λ_=>?_)|refine aax ?_ ?_|refine zas ζ ?_|refine aaW ?_ ?_|refine aa2 ?_ ?_|(with_reducible first|refine aaB ?_ ?_|refine aaA ?_|refine aaK ?_)|apply zaq))
  all_goals(try apply zar)
  all_goals(try simp only[aN,fB]at *)
  all_goals first
   |exact zay|omega|((with_reducible show(_:Nat)<=_);simp only[dY,aN,List.length_zipIdx,dK,dZ];omega)|((with_reducible show aai _=_);have hxx:x=es.length:=ω;subst hxx;rw[rQ];rfl)|(exfalso;rename_i q;simp at q;done)|(obtain⟨hA,hN⟩:=Qc (tol*tol) es (x:=x) ω hE;(conv=>whnf);exact⟨x+1,⟨⟨rfl,rfl,rfl,aK ω,(by(simp only[hA,hN,bQ j5,dI,dJ,eF,dB,dY,aN,dK,dZ]);(first|done|rfl)),(by(simp only[hA,hN,bQ j5,dI,dJ,eF,dB,dY,aN,dK,dZ]);(first|done|rfl)),trivial⟩,⟨(by(simp only[hA,hN,bQ j5,dI,dJ,eF,dB]);(first|done|rfl)),(by(simp only[hA,hN,bQ j5,dI,dJ,eF,dB]);(first|done|rfl)),(by(simp only[hA,hN,bQ j5,dI,dJ,eF,dB]);(first|done|rfl)),trivial⟩,ω,(by show es.length-(x+1)<es.length-x;omega)⟩⟩)|skip
 .haveI ie:DenI Tryz.prog 30 [.agg (bF (es.getD (Int.toNat ((x:Nat):Int)) E0))] ((es.getD x E0).pts.length<=1000000) (.tup [.c (.sl 8 [aas a,aas b]),.bool true]):=⟨λhp=>by have:=(iR (es.getD x E0)).den hp;rw[hE]at this;simpa using this⟩
  have ha:aS a:=g1 a (eU (by rw[hE];simp));have hb:aS b:=g1 b (eU (by rw[hE];simp));have f1:=oZ (q:=aS) (sq:=tol*tol) (s:=(es.getD x E0).layer) j1 ha;have f2:=oZ (q:=aS) (sq:=tol*tol) (s:=(es.getD x E0).layer) f1.1 hb
  all_goals(repeat'((try(conv=>whnf));first
   |refine aaj ?_|refine y5 ?_ ?_|refine aa5 ?_ (λ_=>?_) (λ_=>?_)|(with_reducible first|refine aam ?_|refine aao ?_|refine aah (λ_=>?_) (λ_=>?_)|refine aav (λ_=>?_) (λ_=>?_))|refine zat (λ_=>?_) (λ_=>?_)|refine aax ?_ ?_|refine zas ζ ?_|refine aaW ?_ ?_|refine aa2 ?_ ?_|(with_reducible first|refine aaB ?_ ?_|refine aaA ?_|refine aaK ?_)|refine aar E0 ?_ ?_|apply zaq))
  all_goals(try apply zar)
  all_goals first
   |((conv=>whnf);refine Sw.Loop.unroll ?_)|skip
  all_goals(repeat'((try rw[Ci]);(try rw[yE]);(try(conv=>whnf));first
   |refine aaj ?_|refine y5 ?_ ?_|(with_reducible first|refine aam ?_|refine aao ?_)|refine cZ (by simp only[dK,dZ];decide) ?_|refine dR (by simp only[dK,dZ];decide) ?_|refine cZ ψ ?_|refine dR ψ ?_|(with_reducible first|refine aah (λ_=>?_) (λ_=>?_)|refine aav (λ_=>?_) (λ_=>?_))|refine zat (λ_=>?_) (λ_=>?_)|refine aax ?_ ?_|refine zas ζ ?_|refine aaW ?_ ?_|refine aa2 ?_ ?_|(with_reducible first|refine aaB ?_ ?_|refine aaA ?_|refine aaK ?_)|apply zaq))
  all_goals(try apply zar)
  all_goals first
   |((conv=>whnf);refine Sw.Loop.unroll ?_)|skip
  all_goals(repeat'((try rw[Ci]);(try rw[yE]);(try(conv=>whnf));first
   |refine aaj ?_|refine y5 ?_ ?_|(with_reducible first|refine aam ?_|refine aao ?_)|refine cZ (by simp only[dK,dZ];decide) ?_|refine dR (by simp only[dK,dZ];decide) ?_|refine cZ ψ ?_|refine dR ψ ?_|(with_reducible first|refine aah (λ_=>?_) (λ_=>?_)|refine aav (λ_=>?_) (λ_=>?_))|refine zat (λ_=>?_) (λ_=>?_)|refine aax ?_ ?_|refine zas ζ ?_|refine aaW ?_ ?_|refine aa2 ?_ ?_|(with_reducible first|refine aaB ?_ ?_|refine aaA ?_|refine aaK ?_)|apply zaq))
  all_goals(try apply zar)
  all_goals first
   |((conv=>whnf);refine Sw.Loop.unroll ?_)|skip
  all_goals(repeat'((try rw[Ci]);(try rw[yE]);(try(conv=>whnf));first
   |refine aaj ?_|refine y5 ?_ ?_|(with_reducible first|refine aam ?_|refine aao ?_)|refine cZ (by simp only[dK,dZ];decide) ?_|refine dR (by simp only[dK,dZ];decide) ?_|refine cZ ψ ?_|refine dR ψ ?_|(with_reducible first|refine aah (λ_=>?_) (λ_=>?_)|refine aav (λ_=>?_) (λ_=>?_))|refine zat (λ_=>?_) (λ_=>?_)|refine aax ?_ ?_|refine zas ζ ?_|refine aaW ?_ ?_|refine aa2 ?_ ?_|(with_reducible first|refine aaB ?_ ?_|refine aaA ?_|refine aaK ?_)|apply zaq))
  all_goals(try apply zar)
  all_goals(try simp only[aN,fB]at *)
  all_goals first
   |exact zay|omega|((with_reducible show(_:Nat)<=_);simp only[dY,aN,List.length_zipIdx,dK,dZ];omega)|((with_reducible show aai _=_);have hxx:x=es.length:=ω;subst hxx;rw[rQ];rfl)|((with_reducible show _/\_);first|exact⟨g2,ha.1,ha.2,hsq,ω,ZE j1,by have:=pY (jA (tol*tol) es x).sp (es.getD x E0).layer;omega⟩|exact⟨g2,hb.1,hb.2,hsq,ω,ZE f1.1,by have:=pY (aay (tol*tol) (jA (tol*tol) es x).sp (es.getD x E0).layer a).1 (es.getD x E0).layer;have:=f1.2.2;omega⟩|exact⟨aU ha.1 ψ,aU ha.2 ψ,aU f1.2.1.1 ψ,aU f1.2.1.2 ψ⟩|exact⟨aU hb.1 ψ,aU hb.2 ψ,aU f2.2.1.1 ψ,aU f2.2.1.2 ψ⟩|exact⟨ω,by rw[hE];rfl⟩)|(exfalso;rename_i q;simp at q;done)|(obtain⟨hA,hN⟩:=QI (tol*tol) es (x:=x) ω hE;first|(have q1:=NK (i:=x) (k:=0) (a:=a) (w:=(aay (tol*tol) (jA (tol*tol) es x).sp (es.getD x E0).layer a).2) ξ;have q2:=NK (i:=x) (k:=1) (a:=b) (w:=(aay (tol*tol) (aay (tol*tol) (jA (tol*tol) es x).sp (es.getD x E0).layer a).1 (es.getD x E0).layer b).2) ξ;(conv=>whnf);exact⟨x+1,⟨⟨rfl,rfl,rfl,aK ω,(by(simp only[hA,hN,q1,q2,bQ j5,lS,lX,jf,dI,dJ,eF,dB,dY,aN,dK,dZ]);(first|done|rfl)),(by(simp only[hA,hN,q1,q2,bQ j5,lS,lX,jf,dI,dJ,eF,dB,dY,aN,dK,dZ]);(first|done|rfl)),trivial⟩,⟨(by(simp only[hA,hN,q1,q2,bQ j5,lS,lX,jf,dI,dJ,eF,dB]);(first|done|rfl)),(by(simp only[hA,hN,q1,q2,bQ j5,lS,lX,jf,dI,dJ,eF,dB]);(first|done|rfl)),(by(simp only[hA,hN,q1,q2,bQ j5,lS,lX,jf,dI,dJ,eF,dB]);(first|done|rfl)),trivial⟩,ω,(by show es.length-(x+1)<es.length-x;omega)⟩⟩)|(have q1:=NK (i:=x) (k:=0) (a:=a) (w:=(aay (tol*tol) (jA (tol*tol) es x).sp (es.getD x E0).layer a).2) ξ;have q2:=Oa (i:=x) (k:=1) (a:=b) (w:=(aay (tol*tol) (aay (tol*tol) (jA (tol*tol) es x).sp (es.getD x E0).layer a).1 (es.getD x E0).layer b).2) ξ;(conv=>whnf);exact⟨x+1,⟨⟨rfl,rfl,rfl,aK ω,(by(simp only[hA,hN,q1,q2,bQ j5,lS,lX,jf,dI,dJ,eF,dB,dY,aN,dK,dZ]);(first|done|rfl)),(by(simp only[hA,hN,q1,q2,bQ j5,lS,lX,jf,dI,dJ,eF,dB,dY,aN,dK,dZ]);(first|done|rfl)),trivial⟩,⟨(by(simp only[hA,hN,q1,q2,bQ j5,lS,lX,jf,dI,dJ,eF,dB]);(first|done|rfl)),(by(simp only[hA,hN,q1,q2,bQ j5,lS,lX,jf,dI,dJ,eF,dB]);(first|done|rfl)),(by(simp only[hA,hN,q1,q2,bQ j5,lS,lX,jf,dI,dJ,eF,dB]);(first|done|rfl)),trivial⟩,ω,(by show es.length-(x+1)<es.length-x;omega)⟩⟩)|(have q1:=Oa (i:=x) (k:=0) (a:=a) (w:=(aay (tol*tol) (jA (tol*tol) es x).sp (es.getD x E0).layer a).2) ξ;have q2:=NK (i:=x) (k:=1) (a:=b) (w:=(aay (tol*tol) (aay (tol*tol) (jA (tol*tol) es x).sp (es.getD x E0).layer a).1 (es.getD x E0).layer b).2) ξ;(conv=>whnf);exact⟨x+1,⟨⟨rfl,rfl,rfl,aK ω,(by(simp only[hA,hN,q1,q2,bQ j5,lS,lX,jf,dI,dJ,eF,dB,dY,aN,dK,dZ]);(first|done|rfl)),(by(simp only[hA,hN,q1,q2,bQ j5,lS,lX,jf,dI,dJ,eF,dB,dY,aN,dK,dZ]);(first|done|rfl)),trivial⟩,⟨(by(simp only[hA,hN,q1,q2,bQ j5,lS,lX,jf,dI,dJ,eF,dB]);(first|done|rfl)),(by(simp only[hA,hN,q1,q2,bQ j5,lS,lX,jf,dI,dJ,eF,dB]);(first|done|rfl)),(by(simp only[hA,hN,q1,q2,bQ j5,lS,lX,jf,dI,dJ,eF,dB]);(first|done|rfl)),trivial⟩,ω,(by show es.length-(x+1)<es.length-x;omega)⟩⟩)|(have q1:=Oa (i:=x) (k:=0) (a:=a) (w:=(aay (tol*tol) (jA (tol*tol) es x).sp (es.getD x E0).layer a).2) ξ;have q2:=Oa (i:=x) (k:=1) (a:=b) (w:=(aay (tol*tol) (aay (tol*tol) (jA (tol*tol) es x).sp (es.getD x E0).layer a).1 (es.getD x E0).layer b).2) ξ;(conv=>whnf);exact⟨x+1,⟨⟨rfl,rfl,rfl,aK ω,(by(simp only[hA,hN,q1,q2,bQ j5,lS,lX,jf,dI,dJ,eF,dB,dY,aN,dK,dZ]);(first|done|rfl)),(by(simp only[hA,hN,q1,q2,bQ j5,lS,lX,jf,dI,dJ,eF,dB,dY,aN,dK,dZ]);(first|done|rfl)),trivial⟩,⟨(by(simp only[hA,hN,q1,q2,bQ j5,lS,lX,jf,dI,dJ,eF,dB]);(first|done|rfl)),(by(simp only[hA,hN,q1,q2,bQ j5,lS,lX,jf,dI,dJ,eF,dB]);(first|done|rfl)),(by(simp only[hA,hN,q1,q2,bQ j5,lS,lX,jf,dI,dJ,eF,dB]);(first|done|rfl)),trivial⟩,ω,(by show es.length-(x+1)<es.length-x;omega)⟩⟩))|skip
instance WM(tol:Rat)(es:List Ent)(sL:Nat)(ls:List (List Cell)):DenI Tryz.prog 50 [.agg [.sl sL ls,.sl 7 (es.map bF)],R tol] (rz tol<=12/\es.length<=12/\∀e∈es,L8 e) (.tup [.c (.sl 8 ((aQ (tol*tol) 0 [] es).es.zipIdx.map fU)),.own 47 19 ((aQ (tol*tol) 0 [] es).cs.map mJ)]):=⟨λ⟨h1,h2,h3⟩=>RV tol es sL ls h1 h2 h3⟩
def XF:List Cell:=[.v (.string ⟨#[]⟩),.v (.int .i64 0),.v (.string ⟨#[108,105,110,101]⟩),.v (.int .i64 2),.v (.string ⟨#[97,114,99]⟩),.v (.int .i64 3),.v (.string ⟨#[99,105,114,99,108,101]⟩),.v (.int .i64 1)]
def Ve:List Value:=[.string ⟨#[]⟩,.int .i64 0,.string ⟨#[108,105,110,101]⟩,.int .i64 2,.string ⟨#[97,114,99]⟩,.int .i64 3,.string ⟨#[99,105,114,99,108,101]⟩,.int .i64 1]
def HY(w:World):Prop:=∀(j:Nat) u,Ve[j]?=some u->w.cell? ((⟨0,0,none⟩:Addr).add j)=some u
theorem Jf{w w':World}(h:HY w)(hb:Below w.heap.size w w'):HY w':=λj u hu=>by
 have h1:=h j u hu;have hb0:((⟨0,0,none⟩:Addr).add j).block=0:=by unfold Addr.add;split<;>rfl
 have hg:((⟨0,0,none⟩:Addr).add j).block<w.heap.size:=by
  rcases sW ((⟨0,0,none⟩:Addr).add j).block w.heap.size with h'|h'
  .exact h'
  .unfold World.cell? at h1;rw[Array.getElem?_eq_none h']at h1;cases h1
 exact(hb.cell hg).trans h1
instance(priority:=3000) EY:Wld Tryz.prog:=⟨λw=>Lib.TabIs Tryz.prog w "internal/strconv.uint64pow10" .u64 Lib.pow10Tab/\HY w,λh hb=>⟨afv h.1 hb,Jf h.2 hb⟩,[(0,Ve)],λh g us hm=>by
 simp only[qB,kQ]at hm;obtain⟨rfl,rfl⟩:=hm
 exact h.2⟩
instance V4{f:FuncId}{xs:List AV}{pre:Prop}{r:AV}[h : @DenI Tryz.prog rW f xs pre r]:@DenI Tryz.prog EY f xs pre r:=⟨λhp=>ab9 rW EY (λ_ h=>h.1) (h.den hp)⟩
instance V7{f:FuncId}{xs:List AV}{pre c:Prop}{r s:AV}[h : @DenC Tryz.prog rW f xs pre c r s]:@DenC Tryz.prog EY f xs pre c r s:=⟨λhp=>⟨λhc=>ab9 rW EY (λ_ h=>h.1) ((h.den hp).1 hc),λhc=>ab9 rW EY (λ_ h=>h.1) ((h.den hp).2 hc)⟩⟩
def MG:Tab:=(1000000000,.glob 0 XF)::tab
theorem Lu : @aaH Tryz.prog EY MG=true:=ζ
theorem aI{f:FuncId}{fn:Func}{c:Code}{xs:List AV}{r:AV}(hf:Tryz.prog.funcs[f]?=some fn)(hb:fn.body=some c)(h:awp (Den Tryz.prog) MG c (af7 MG fn r) (aes 0 xs) [])(a:aaM Tryz.prog f=true:=by kernel_rfl)(t:aa6 fn.ntmps c=true:=by kernel_rfl)(l:Nat.ble xs.length fn.ntmps=true:=by kernel_rfl)(n:abA xs=true:=by rfl):Den Tryz.prog f xs r:=aaP Lu aP hf hb a t l h n
instance Zo(n:Nat):DenI Tryz.prog 254 [.int .i64 (n:Nat)] (n<=31) (Z (p10 n)):=⟨λhp=>by
 refine aI Tryz.func254 rfl ?_
 all_goals(repeat'((try(conv=>whnf));first
  |refine y5 ?_ ?_))
 all_goals(try apply zar)
 all_goals first
  |((conv=>whnf);refine Sw.Loop.inv (α:=Nat) (λx=>[(2,.ptr 2 0),(3,.ptr 3 0),(4,.ptr 4 0),(7,.int .i64 (n:Nat)),(8,.int .i64 (x:Nat))]) (λx=>[(2,.var [.v (.bool false),.sl 1 []]),(3,.var [zs (p10 x),zl (p10 x)]),(4,.var [zs 10,zl 10])]) (λx=>x<=n/\True) (λx=>n-x) 0 ?_ ?_ ?_ (λx hx=>?_))|skip
 all_goals(repeat'((try(conv=>whnf));first
  |refine y5 ?_ ?_|(with_reducible refine aah (λ_=>?_) (λ_=>?_))|apply zaq))
 all_goals(try apply zar)
 all_goals first|(show SubE _ _;repeat'(first|exact trivial|refine And.intro ?_ ?_))|(show SubB _ _;repeat'(first|exact trivial|refine And.intro ?_ ?_))|skip
 all_goals(try rfl)
 all_goals first
  |omega|exact⟨lN _,trivial⟩|exact⟨aU (sD ω) ψ,aU (fV (n:=10) ψ ψ) ψ⟩|((with_reducible show aai _=_);have hxx:x=n:=ω;subst hxx;rfl)|((conv=>whnf);exact⟨x+1,⟨⟨rfl,rfl,rfl,rfl,aK ω,trivial⟩,⟨rfl,(by show some (Bk.var [zs (p10 x*10),zl (p10 x*10)])=some (Bk.var [zs (p10 (x+1)),zl (p10 (x+1))]);rw[yT]),rfl,trivial⟩,⟨ω,trivial⟩,by show n-(x+1)<n-x;omega⟩⟩)⟩
instance Zm(a:Rat)(n:Nat):DenI Tryz.prog 223 [R a,.int .i64 (n:Nat)] (rz a<=100/\n<=30) (R (Vq a n)):=⟨λhp=>by
 have z1:=I9 (n:=n) ω;have z2:=sD (n:=n) ω
 all_goals refine aI Tryz.func223 rfl ?_
 all_goals(repeat'((try(conv=>whnf));first
  |refine y5 ?_ ?_|refine aa5 ?_ (λ_=>?_) (λ_=>?_)|apply zaq))
 all_goals(try apply zar)
 all_goals(try simp only[dO]at *)
 all_goals first
  |rfl|omega|exact⟨aU z2 ψ,aU (fV (n:=1) ψ ψ) ψ⟩|(refine⟨ω, ?_⟩;have:=J9 (n:=n) ω;omega)⟩
instance Zb(s:ByteArray):DenI Tryz.prog 225 [.str s] (s.size<=1000) (.tup [.str s,.bool true]):=⟨λhp=>by
 refine aI Tryz.func225 rfl ?_
 all_goals(repeat'((try(conv=>whnf));first
  |(with_reducible refine aah (λ_=>?_) (λ_=>?_))|apply zaq))
 all_goals first
  |rfl|(exfalso;omega)⟩
theorem VR{k:Nat}(hk:k<=40)(w:World):Calls Tryz.prog 256 #[.string ⟨#[48]⟩,.int .i64 k] w λe w'=>e=.returned (.string (EN k))/\Below w.heap.size w w':=by
 refine(Any.strings_Repeat Jw OY ⟨#[48]⟩ k w ω (by show 1*k<=_;omega)).mono ?_;rintro e w' ⟨rfl,hb⟩;refine⟨?_,hb⟩
 have:Lib.repeatL [(48:UInt8)] k=List.replicate k 48:=by
  have:∀k:Nat,k<=40->Lib.repeatL [(48:UInt8)] k=List.replicate k 48:=by decide +kernel
  exact this k hk
 rw[show(ByteArray.mk #[48]).data.toList=[(48:UInt8)]from rfl,this];rfl
instance Zy(z:Int):DenI Tryz.prog 256 [.c (.v (.string ⟨#[48]⟩)),.c (.v (.int .i64 z))] (0<=z/\z<=40) (.c (.v (.string (EN z.toNat)))):=⟨λhp=>by
 obtain⟨n,rfl⟩:=Int.eq_ofNat_of_zero_le hp.1;refine Den.of ⟨ζ,λw X vs hW hX hl hr=>?_⟩ rfl
 match vs,hl with
 |[u,v],_ =>
 have hu:u=.string ⟨#[48]⟩:=by
  have:=hr 0 u _ rfl rfl;cases this with
  |c h=>cases h;rfl
 have hv:v=.int .i64 (n:Nat):=by
  have:=hr 1 v _ rfl rfl;cases this with
  |c h=>cases h;rfl
 subst hu hv;refine Calls.mono (VR (k:=n) ω w) ?_;rintro e w' ⟨rfl,hb⟩
 exact⟨_,rfl,(RepR.d (.c (.v _ rfl))).f,hb⟩⟩
instance Zk(n:Int)(k:Nat):DenI Tryz.prog 224 [Z n,.int .i64 (k:Nat)] (sz n<=50/\k<=30) (.str (OZ n k)):=⟨λhp=>by
 have z0:=zY hp.1;have z1:=Eu n;have z2:=Jg hp.1 hp.2
 by_cases hn:n<0
 all_goals refine aI Tryz.func224 rfl ?_
 all_goals(repeat'((try(conv=>whnf));first
  |refine aaj ?_|refine y5 ?_ ?_|(with_reducible refine aah (λ_=>?_) (λ_=>?_))|refine aax ?_ ?_|refine zas ζ ?_|refine aa2 ?_ ?_|apply zaq))
 all_goals(try apply zar)
 all_goals(try simp only[dO]at *)
 all_goals(try(exfalso;omega))
 all_goals(try simp only[vP,Kq,fB,UF hn]at *)
 all_goals(try simp only[vP,Kq,fB,TT hn]at *)
 all_goals(try simp(disch:=omega) only[aT]at *)
 all_goals(try(have hle:(sV n).size<=k:=ω;have hB:=U7 (n:=n) (k:=k) hle;simp only[hB]at *))
 all_goals(try(have hle:¬(sV n).size<=k:=ω;have hB:=VY (n:=n) (k:=k) hle))
 all_goals(try simp(disch:=omega) only[aT]at *)
 all_goals first
  |omega|(refine RH ?_;rw[Ur ω];unfold Nj;first|rw[if_pos hn]|rw[if_neg hn])|(refine⟨ω,ω,ω,ω, ?_⟩;intro h;first|exact h|rfl|(cases h))|((with_reducible show(_:Nat)<=_);(try simp only[ByteArray.size_append,ByteArray.size_extract,uy]);have e1:(ByteArray.mk #[45]).size=1:=rfl;have e2:(ByteArray.mk #[46]).size=1:=rfl;have e3:(ByteArray.mk #[]).size=0:=rfl;omega)|(refine RH ?_;rw[O6 ω,show((↑(xJ n k).size:Int) - ↑k).toNat=(xJ n k).size-k by omega];unfold Nj;first|(rw[if_pos hn];rfl)|(rw[if_neg hn];rfl))|(refine RH ?_;rw[O6 ω,hB,show((↑(sV n).size:Int) - ↑k).toNat=(sV n).size-k by omega];unfold Nj;first|(rw[if_pos hn];rfl)|(rw[if_neg hn];rfl))⟩
instance ZK(x:Nat)(a:Rat):DenI Tryz.prog 200 [Z (p10 x),Z (a.den:Int)] (x<=31/\rz a<=1000) (.tup [Z ((p10 x).fdiv (a.den:Int)),Z ((10 ^ x % a.den:Nat):Int),.int .i64 0]):=⟨λhp=>by
 have h:=(inferInstance:DenI Tryz.prog 200 [Z (p10 x),Z (a.den:Int)] _ _).den (by exact⟨aU (sD hp.1) ψ,aU (jW a) ω⟩);rw[if_neg (ak a),if_neg (ak a),show(p10 x).fmod (a.den:Int)=((10^x%a.den:Nat):Int) by unfold p10;rw[Int.fmod_eq_emod_of_nonneg _ ω];omega]at h
 exact h⟩
instance aag(a:Rat):DenI Tryz.prog 181 [R a] (rz a<=20) (.tup [.str (exS a),.bool (Qg a).isSome]):=⟨λhp=>by
 refine aI Tryz.func181 rfl ?_
 all_goals(repeat'((try(conv=>whnf));first
  |refine y5 ?_ ?_))
 all_goals(try apply zar)
 all_goals first
  |((conv=>whnf);refine Sw.Loop.inv (α:=Nat) (λx=>[(1,.ptr 1 0),(5,.ptr 5 0),(6,.int .i64 (x:Nat))]) (λx=>[(1,.var (aeu a)),(5,.var [zs (p10 x),zl (p10 x)])]) (λx=>x<=31/\∀j<x,¬10^j%a.den=0) (λx=>31-x) 0 ?_ ?_ ?_ (λx hx=>?_))|skip
 all_goals(repeat'((try(conv=>whnf));first
  |refine aaj ?_|refine y5 ?_ ?_|(with_reducible refine aah (λ_=>?_) (λ_=>?_))|refine zas ζ ?_|apply zaq))
 all_goals(try apply zar)
 all_goals first|(show SubE _ _;repeat'(first|exact trivial|refine And.intro ?_ ?_))|(show SubB _ _;repeat'(first|exact trivial|refine And.intro ?_ ?_))|skip
 all_goals(try rfl)
 all_goals(try simp only[dO]at *)
 all_goals first
  |omega|exact⟨lN _,λj hj=>absurd hj (EK _)⟩|exact⟨aU (sD ω) ψ,aU (fV (n:=10) ψ ψ) ψ⟩|((conv=>whnf);exact⟨x+1,⟨⟨rfl,rfl,aK ω,trivial⟩,⟨rfl,(by show some (Bk.var [zs (p10 x*10),zl (p10 x*10)])=some (Bk.var [zs (p10 (x+1)),zl (p10 (x+1))]);rw[yT]),trivial⟩,⟨ω,dn hx.2 ω⟩,by show 31-(x+1)<31-x;omega⟩⟩)|exact⟨II hp ω,ω⟩|exact Qd (II hp ω) ω|(have e:=QD (a:=a) (x:=x) ω hx.2 ω;simp only[exS,e];rfl)|(have e:=V3 (a:=a) (λj hj=>hx.2 j ω);simp only[exS,e];rfl)⟩
instance Zh(c:Nat):DenI Tryz.prog 175 [.c (.v (.int .u8 (c:Nat)))] (True) (.bool (SN c)):=⟨λhp=>by
 refine aI Tryz.func175 rfl ?_
 all_goals(repeat'((try(conv=>whnf));first
  |(with_reducible first|refine aam ?_|refine aao ?_|refine aah (λ_=>?_) (λ_=>?_))|apply zaq))
 all_goals first
  |(refine bE ?_;rw[FN];simp only[SN,zx,bG,decide_eq_true_eq,DF,iff_true,true_iff,iff_false,false_iff];omega)⟩
instance Y9(c:Nat):DenI Tryz.prog 220 [.c (.v (.int .u8 (c:Nat)))] (True) (.bool (WZ c)):=⟨λhp=>by
 refine aI Tryz.func220 rfl ?_
 all_goals(repeat'((try(conv=>whnf));first
  |(with_reducible first|refine aam ?_|refine aao ?_|refine aah (λ_=>?_) (λ_=>?_))|apply zaq))
 all_goals first
  |(refine bE ?_;rw[FN];simp only[WZ,zx,bG,decide_eq_true_eq,DF,iff_true,true_iff,iff_false,false_iff];omega)⟩
instance Zn(c:Nat):DenI Tryz.prog 177 [.c (.v (.int .u8 (c:Nat)))] (True) (.bool (KT c)):=⟨λhp=>by
 refine aI Tryz.func177 rfl ?_
 all_goals(repeat'((try(conv=>whnf));first
  |refine aaj ?_|(with_reducible first|refine aam ?_|refine aao ?_|refine aah (λ_=>?_) (λ_=>?_))|refine zat (λ_=>?_) (λ_=>?_)|apply zaq))
 all_goals first
  |(refine bE ?_;rw[FN];simp only[KT,zx,bG,decide_eq_true_eq,DF,iff_true,true_iff,iff_false,false_iff];omega)|(refine bE ?_;unfold KT;simp_all;done)|(refine bE ?_;unfold KT;simp only[*,KA];rw[FN];simp only[zx,decide_eq_true_eq];omega)⟩
instance Zt(s:ByteArray):DenI Tryz.prog 176 [.c (.v (.string s)),.int .i64 0,.c (.v (.func (.func 177) #[] #[]))] (s.size<=1000000) (.int .i64 (Wq s:Nat)):=⟨λhp=>by
 refine aI Tryz.func176 rfl ?_
 all_goals first
  |((conv=>whnf);refine Sw.Loop.inv (α:=Nat) (λx=>[(0,.c (.v (.string s))),(1,.int .i64 (x:Nat)),(2,.c (.v (.func (.func 177) #[] #[])))]) (λx=>[]) (λx=>x<=s.size/\∀j<x,KT ((oI s).getD j 0)=true) (λx=>s.size-x) 0 ?_ ?_ ?_ (λx hx=>?_))
 all_goals(repeat'((try(conv=>whnf));first
  |refine aaj ?_|(with_reducible first|refine aam ?_|refine aao ?_|refine aah (λ_=>?_) (λ_=>?_))|refine zat (λ_=>?_) (λ_=>?_)|(with_reducible refine DZ ?_ ?_)|apply zaq))
 all_goals(try apply zar)
 all_goals(try simp only[vP,Kq,fB,Int.toNat_zero]at *)
 all_goals first
  |omega|trivial|exact⟨lN _,λj hj=>absurd hj (EK _)⟩|((conv=>whnf);exact⟨x+1,⟨⟨rfl,aK ω,rfl,trivial⟩,trivial,⟨ω,dn hx.2 ξ⟩,(by show s.size-(x+1)<s.size-x;omega)⟩⟩)|(refine iE ?_;rw[PS hx.1 hx.2 (λh=>by first|assumption|omega)];done)⟩
instance Zg(s:ByteArray):DenI Tryz.prog 132 [.c (.v (.string s))] (s.size<=1000000) (.bool (ES s)):=⟨λhp=>by
 refine aI Tryz.func132 rfl ?_
 all_goals(repeat'((try(conv=>whnf));first
  |refine aaj ?_|refine y5 ?_ ?_|(with_reducible first|refine aam ?_|refine aao ?_|refine aah (λ_=>?_) (λ_=>?_))|refine zat (λ_=>?_) (λ_=>?_)|(with_reducible refine DZ ?_ ?_)|apply zaq))
 all_goals(try apply zar)
 all_goals(try simp only[vP,Kq,fB,Int.toNat_zero]at *)
 all_goals first
  |omega|(have z:=Jy ξ;omega)|(refine bE ?_;have z:=Jy ξ;rw[RD z ω ξ];exact decide_eq_decide.2 ω)|(refine bE ?_;rw[Pz (by first|exact .inl (MF ξ)|exact .inr (.inl ω)|exact .inr (.inr ξ))];done)⟩
instance Yu(l:LayD):DenI Tryz.prog 100 [.agg (bI l)] (l.name.size<=1000000) (.bool (Ih l)):=⟨λhp=>by
 refine aI Tryz.func100 rfl ?_
 all_goals(repeat'((try(conv=>whnf));first
  |refine y5 ?_ ?_|(with_reducible first|refine aam ?_|refine aao ?_|refine aah (λ_=>?_) (λ_=>?_))|refine zat (λ_=>?_) (λ_=>?_)|apply zaq))
 all_goals(try apply zar)
 all_goals first
  |omega|(refine bE ?_;unfold Ih;rw[FN];simp_all;done)|(refine bE ?_;unfold Ih;rw[FN];simp_all;omega)⟩
instance Yx(l:LayD)(s:ByteArray):DenI Tryz.prog 134 [.agg (bI l),.c (.p [.v (.string s)])] (True) (.bool (eqS l.name s)):=⟨λhp=>by
 refine aI Tryz.func134 rfl ?_
 all_goals(repeat'((try(conv=>whnf));first
  |apply zaq))
 all_goals first
  |rfl⟩
instance aad(ls:List LayD)(s:ByteArray):DenI Tryz.prog 133 [.c (.sl 3 (ls.map bI)),.c (.fn 134 [.p [.v (.string s)]])] (ls.length<=1000) (.int .i64 (mG ls s)):=⟨λhp=>by
 refine aI Tryz.func133 rfl ?_
 all_goals first
  |((conv=>whnf);refine Sw.Loop.inv (α:=Nat) (λk=>[(0,.c (.sl 3 (ls.map bI))),(1,.c (.fn 134 [.p [.v (.string s)]])),(6,.c (.sl 3 (ls.map bI))),(7,.int .i64 (ls.length:Nat)),(8,.int .i64 (k:Nat))]) (λk=>[]) (λk=>k<=ls.length/\∀j<k,eqS (ls.getD j L0).name s=false) (λk=>ls.length-k) 0 ?_ ?_ ?_ (λk hk=>?_))
 all_goals(repeat'((try(conv=>whnf));first
  |refine aaj ?_|(with_reducible refine aah (λ_=>?_) (λ_=>?_))|refine zat (λ_=>?_) (λ_=>?_)|refine aar L0 ?_ ?_|apply zaq))
 all_goals(try apply zar)
 all_goals(try simp only[aN,fB]at *)
 all_goals first
  |omega|trivial|exact⟨lN _,λj hj=>absurd hj (EK _)⟩|((conv=>whnf);exact⟨k+1,⟨⟨rfl,rfl,rfl,rfl,aK ω,trivial⟩,trivial,⟨ω,dn hk.2 ξ⟩,(by show ls.length-(k+1)<ls.length-k;omega)⟩⟩)|((with_reducible show aai _=_);rw[wR (x:=k) ω hk.2 ξ];rfl)|((with_reducible show aai _=_);have hxx:k=ls.length:=ω;subst hxx;rw[Qi hk.2];rfl)⟩
instance Zi(ls:List LayD)(s:ByteArray):DenI Tryz.prog 101 [.c (.sl 3 (ls.map bI)),.c (.v (.string s))] (ls.length<=1000) (.int .i64 (mG ls s)):=⟨λhp=>by
 refine aI Tryz.func101 rfl ?_
 all_goals(repeat'((try(conv=>whnf));first
  |refine y5 ?_ ?_|apply zaq))
 all_goals(try apply zar)
 all_goals first
  |omega|rfl⟩
instance Z4(a:Rat):DenI Tryz.prog 182 [R a] (rz a<=1000) (R (a*zG)):=⟨λhp=>by
 have i_a:RzB a 1000:=⟨hp⟩
 all_goals refine aI Tryz.func182 rfl ?_
 all_goals(repeat'((try(conv=>whnf));first
  |refine y5 ?_ ?_|refine zas ζ ?_|apply zaq))
 all_goals(try apply zar)
 all_goals first
  |(have z1:=Dk;exact⟨ω,aU z1 ψ⟩)|omega|rfl⟩
instance Pm(a:Rat):DenI Tryz.prog 135 [R a] (rz a<=12) (.bool (Bd a)):=⟨λhp=>by
 have z1:=Pv;have z2:=TM hp;have hv:=yM a
 all_goals refine aI Tryz.func135 rfl ?_
 all_goals(repeat'((try(conv=>whnf));first
  |refine y5 ?_ ?_|(with_reducible first|refine aam ?_|refine aao ?_|refine aah (λ_=>?_) (λ_=>?_))|refine zat (λ_=>?_) (λ_=>?_)|refine zas ζ ?_|apply zaq))
 all_goals(try apply zar)
 all_goals(try simp only[dO]at *)
 all_goals first
  |(exfalso;rename (!gB _ _ _ _)=true=>h;rw[yM]at h;cases h)|omega|(refine⟨?_, ?_⟩<;>first|(rw[jP];omega)|omega)|(have e1:(lim a.num.natAbs).length<=rz a:=jg a;have e2:(lim (a.den:Int).natAbs).length<=rz a:=jW a;omega)|(refine bE ?_;unfold Bd;simp only[*,not_true,not_false_iff,decide_true,decide_false,JW,Bool.false_and,Bool.and_false];done)⟩
instance(priority:=50) PI(r:Rq):DenI Tryz.prog 135 [.agg (QU r)] (zN r/\vR r=false) (.bool false):=⟨λhp=>by
 obtain⟨hp1,hp2⟩:=hp;unfold vR at hp2;obtain⟨hp3,hp4⟩:=hp1
 all_goals refine aI Tryz.func135 rfl ?_
 all_goals(repeat'((try(conv=>whnf));first
  |refine aaj ?_|refine y5 ?_ ?_|refine aa5 ?_ (λ_=>?_) (λ_=>?_)|(with_reducible first|refine aam ?_|refine aao ?_|refine aah (λ_=>?_) (λ_=>?_)|refine aav (λ_=>?_) (λ_=>?_))|refine zat (λ_=>?_) (λ_=>?_)|refine aax ?_ ?_|refine zas ζ ?_|refine aaW ?_ ?_|refine aa2 ?_ ?_|(with_reducible first|refine aaB ?_ ?_|refine aaA ?_|refine aaK ?_)|apply zaq))
 all_goals(try apply zar)
 all_goals first
  |omega|rfl|(exfalso;rename (!gB _ _ _ _)=false=>h;rw[hp2]at h;cases h)|exact⟨ω,ω⟩|skip⟩
instance(priority:=2000) x_len(r:Rq):DenI Tryz.prog 135 [.agg (QU r)] (zN r) (.bool (fK r)):=⟨λhp=>by
 cases v:vR r with
 |false =>
  have h:=(PI r).den ⟨hp,v⟩;have e:fK r=false:=by unfold fK;rw[v];rfl
  rw[e];exact h
 |true =>
  have e:=yc v;have e2:fK r=Bd (qR r):=by unfold fK;rw[v];rfl
  have hz:rz (qR r)<=12:=wo (e▸hp);have h:=(Pm (qR r)).den hz;rw[e2];generalize qR r=q at e h;subst e
  exact h⟩
instance(priority:=2000) YX(r:Rq):DenI Tryz.prog 49 [.agg (QU r)] (vR r=true) (.int .i64 (aC (qR r))):=⟨λv=>by
 have e:=yc v;have h:=(inferInstance:DenI Tryz.prog 49 [R (qR r)] _ (.int .i64 (aC (qR r)))).den trivial;generalize qR r=q at e h ⊢;subst e
 exact h⟩
instance(priority:=50) Qp(ly:ByteArray)(pts:List (Rq × Rq))(rd:Rq):DenI Tryz.prog 102 [.agg [.v (.int .i64 1),.v (.string ly),.sl 8 (pts.map jB),.v (.bool rd.a),lmc rd.l,.v (.bool rd.b),lmc rd.m]] (qQ ⟨1,ly,pts,rd⟩) (.bool (jl ⟨1,ly,pts,rd⟩)):=⟨λhp=>by
 have hpl:pts.length<=5:=hp.2.2.1;have hpr:zN rd:=hp.2.1
 all_goals refine aI Tryz.func102 rfl ?_
 all_goals(repeat'((try(conv=>whnf));first
  |refine aaj ?_|refine y5 ?_ ?_|refine aa5 ?_ (λ_=>?_) (λ_=>?_)|(with_reducible first|refine aam ?_|refine aao ?_|refine aah (λ_=>?_) (λ_=>?_)|refine aav (λ_=>?_) (λ_=>?_))|refine zat (λ_=>?_) (λ_=>?_)|refine aax ?_ ?_|refine zas ζ ?_|refine aaW ?_ ?_|refine aa2 ?_ ?_|(with_reducible first|refine aaB ?_ ?_|refine aaA ?_|refine aaK ?_)|refine aar nM ?_ ?_|apply zaq))
 all_goals(try apply zar)
 all_goals first
  |((conv=>whnf);refine Sw.Loop.inv (α:=Nat) (λx=>[(1,.ptr 1 0),(25,.c (.sl 8 (pts.map jB))),(26,.int .i64 (pts.length:Nat)),(27,.int .i64 (x:Nat))]) (λx=>[(1,.var [.v (.int .i64 1),.v (.string ly),.sl 8 (pts.map jB),.v (.bool rd.a),lmc rd.l,.v (.bool rd.b),lmc rd.m])]) (λx=>x<=pts.length/\∀j<x,(fK (pts.getD j nM).1&&fK (pts.getD j nM).2)=true) (λx=>pts.length-x) 0 ?_ ?_ ?_ (λx hx=>?_))|skip
 all_goals(repeat'((try(conv=>whnf));first
  |refine aaj ?_|refine y5 ?_ ?_|refine aa5 ?_ (λ_=>?_) (λ_=>?_)|(with_reducible first|refine aam ?_|refine aao ?_|refine aah (λ_=>?_) (λ_=>?_)|refine aav (λ_=>?_) (λ_=>?_))|refine zat (λ_=>?_) (λ_=>?_)|refine aax ?_ ?_|refine zas ζ ?_|refine aaW ?_ ?_|refine aa2 ?_ ?_|(with_reducible first|refine aaB ?_ ?_|refine aaA ?_|refine aaK ?_)|refine aar nM ?_ ?_|apply zaq))
 all_goals(try apply zar)
 all_goals(try simp only[aN,fB]at *)
 all_goals(try simp only[dO]at *)
 all_goals first
  |(exfalso;omega)|omega|trivial|exact⟨lN _,λj hj=>absurd hj (EK _)⟩|exact(oP hp (by show _<pts.length;omega)).1|exact(oP hp (by show _<pts.length;omega)).2|exact hpr|exact BD ξ|exact⟨rfl,rfl,by simp only[aN];rfl,rfl,trivial⟩|exact zbf|exact zbg|((with_reducible show aai _=_);refine bE ?_;have hxx:x=pts.length:=ω;subst hxx;rw[sQ (e:=⟨1,ly,pts,rd⟩) (.inl ⟨rfl,by show pts.length=2;omega⟩) hx.2];simp_all;done)|((conv=>whnf);exact⟨x+1,⟨⟨rfl,rfl,rfl,aK ω,trivial⟩,⟨rfl,trivial⟩,⟨ω,dn hx.2 χ⟩,(by show pts.length-(x+1)<pts.length-x;omega)⟩⟩)|skip⟩
instance(priority:=50) Pj(ly:ByteArray)(pts:List (Rq × Rq))(rd:Rq):DenI Tryz.prog 102 [.agg [.v (.int .i64 2),.v (.string ly),.sl 8 (pts.map jB),.v (.bool rd.a),lmc rd.l,.v (.bool rd.b),lmc rd.m]] (qQ ⟨2,ly,pts,rd⟩) (.bool (jl ⟨2,ly,pts,rd⟩)):=⟨λhp=>by
 have hpl:pts.length<=5:=hp.2.2.1;have hpr:zN rd:=hp.2.1
 all_goals refine aI Tryz.func102 rfl ?_
 all_goals(repeat'((try(conv=>whnf));first
  |refine aaj ?_|refine y5 ?_ ?_|refine aa5 ?_ (λ_=>?_) (λ_=>?_)|(with_reducible first|refine aam ?_|refine aao ?_|refine aah (λ_=>?_) (λ_=>?_)|refine aav (λ_=>?_) (λ_=>?_))|refine zat (λ_=>?_) (λ_=>?_)|refine aax ?_ ?_|refine zas ζ ?_|refine aaW ?_ ?_|refine aa2 ?_ ?_|(with_reducible first|refine aaB ?_ ?_|refine aaA ?_|refine aaK ?_)|refine aar nM ?_ ?_|apply zaq))
 all_goals(try apply zar)
 all_goals first
  |((conv=>whnf);refine Sw.Loop.inv (α:=Nat) (λx=>[(1,.ptr 1 0),(25,.c (.sl 8 (pts.map jB))),(26,.int .i64 (pts.length:Nat)),(27,.int .i64 (x:Nat))]) (λx=>[(1,.var [.v (.int .i64 2),.v (.string ly),.sl 8 (pts.map jB),.v (.bool rd.a),lmc rd.l,.v (.bool rd.b),lmc rd.m])]) (λx=>x<=pts.length/\∀j<x,(fK (pts.getD j nM).1&&fK (pts.getD j nM).2)=true) (λx=>pts.length-x) 0 ?_ ?_ ?_ (λx hx=>?_))|skip
 all_goals(repeat'((try(conv=>whnf));first
  |refine aaj ?_|refine y5 ?_ ?_|refine aa5 ?_ (λ_=>?_) (λ_=>?_)|(with_reducible first|refine aam ?_|refine aao ?_|refine aah (λ_=>?_) (λ_=>?_)|refine aav (λ_=>?_) (λ_=>?_))|refine zat (λ_=>?_) (λ_=>?_)|refine aax ?_ ?_|refine zas ζ ?_|refine aaW ?_ ?_|refine aa2 ?_ ?_|(with_reducible first|refine aaB ?_ ?_|refine aaA ?_|refine aaK ?_)|refine aar nM ?_ ?_|apply zaq))
 all_goals(try apply zar)
 all_goals(try simp only[aN,fB]at *)
 all_goals(try simp only[dO]at *)
 all_goals first
  |(exfalso;omega)|omega|trivial|exact⟨lN _,λj hj=>absurd hj (EK _)⟩|exact(oP hp (by show _<pts.length;omega)).1|exact(oP hp (by show _<pts.length;omega)).2|exact hpr|exact BD ξ|exact⟨rfl,rfl,by simp only[aN];rfl,rfl,trivial⟩|exact zbf|exact zbg|((with_reducible show aai _=_);refine bE ?_;have hxx:x=pts.length:=ω;subst hxx;rw[sQ (e:=⟨2,ly,pts,rd⟩) (.inr (.inl ⟨rfl,by show pts.length=3;omega⟩)) hx.2];simp_all;done)|((conv=>whnf);exact⟨x+1,⟨⟨rfl,rfl,rfl,aK ω,trivial⟩,⟨rfl,trivial⟩,⟨ω,dn hx.2 χ⟩,(by show pts.length-(x+1)<pts.length-x;omega)⟩⟩)|skip⟩
instance(priority:=50) QW(ly:ByteArray)(pts:List (Rq × Rq))(rd:Rq):DenI Tryz.prog 102 [.agg [.v (.int .i64 3),.v (.string ly),.sl 8 (pts.map jB),.v (.bool rd.a),lmc rd.l,.v (.bool rd.b),lmc rd.m]] (qQ ⟨3,ly,pts,rd⟩) (.bool (jl ⟨3,ly,pts,rd⟩)):=⟨λhp=>by
 have hpl:pts.length<=5:=hp.2.2.1;have hpr:zN rd:=hp.2.1
 all_goals refine aI Tryz.func102 rfl ?_
 all_goals(repeat'((try(conv=>whnf));first
  |refine aaj ?_|refine y5 ?_ ?_|refine aa5 ?_ (λ_=>?_) (λ_=>?_)|(with_reducible first|refine aam ?_|refine aao ?_|refine aah (λ_=>?_) (λ_=>?_)|refine aav (λ_=>?_) (λ_=>?_))|refine zat (λ_=>?_) (λ_=>?_)|refine aax ?_ ?_|refine zas ζ ?_|refine aaW ?_ ?_|refine aa2 ?_ ?_|(with_reducible first|refine aaB ?_ ?_|refine aaA ?_|refine aaK ?_)|refine aar nM ?_ ?_|apply zaq))
 all_goals(try apply zar)
 all_goals first
  |((conv=>whnf);refine Sw.Loop.inv (α:=Nat) (λx=>[(1,.ptr 1 0),(25,.c (.sl 8 (pts.map jB))),(26,.int .i64 (pts.length:Nat)),(27,.int .i64 (x:Nat))]) (λx=>[(1,.var [.v (.int .i64 3),.v (.string ly),.sl 8 (pts.map jB),.v (.bool rd.a),lmc rd.l,.v (.bool rd.b),lmc rd.m])]) (λx=>x<=pts.length/\∀j<x,(fK (pts.getD j nM).1&&fK (pts.getD j nM).2)=true) (λx=>pts.length-x) 0 ?_ ?_ ?_ (λx hx=>?_))|skip
 all_goals(repeat'((try(conv=>whnf));first
  |refine aaj ?_|refine y5 ?_ ?_|refine aa5 ?_ (λ_=>?_) (λ_=>?_)|(with_reducible first|refine aam ?_|refine aao ?_|refine aah (λ_=>?_) (λ_=>?_)|refine aav (λ_=>?_) (λ_=>?_))|refine zat (λ_=>?_) (λ_=>?_)|refine aax ?_ ?_|refine zas ζ ?_|refine aaW ?_ ?_|refine aa2 ?_ ?_|(with_reducible first|refine aaB ?_ ?_|refine aaA ?_|refine aaK ?_)|refine aar nM ?_ ?_|apply zaq))
 all_goals(try apply zar)
 all_goals(try simp only[aN,fB]at *)
 all_goals(try simp only[dO]at *)
 all_goals first
  |(exfalso;omega)|omega|trivial|exact⟨lN _,λj hj=>absurd hj (EK _)⟩|exact(oP hp (by show _<pts.length;omega)).1|exact(oP hp (by show _<pts.length;omega)).2|exact hpr|exact BD ξ|exact⟨rfl,rfl,by simp only[aN];rfl,rfl,trivial⟩|exact zbf|exact zbg|((with_reducible show aai _=_);refine bE ?_;have hxx:x=pts.length:=ω;subst hxx;rw[sQ (e:=⟨3,ly,pts,rd⟩) (.inr (.inr ⟨rfl,by show pts.length=1;omega⟩)) hx.2];simp_all;done)|((conv=>whnf);exact⟨x+1,⟨⟨rfl,rfl,rfl,aK ω,trivial⟩,⟨rfl,trivial⟩,⟨ω,dn hx.2 χ⟩,(by show pts.length-(x+1)<pts.length-x;omega)⟩⟩)|skip⟩
instance(priority:=50) Pg(kd:Int)(ly:ByteArray)(pts:List (Rq × Rq))(rd:Rq):DenI Tryz.prog 102 [.agg [.v (.int .i64 kd),.v (.string ly),.sl 8 (pts.map jB),.v (.bool rd.a),lmc rd.l,.v (.bool rd.b),lmc rd.m]] (kd<1\/3<kd) (.bool (jl ⟨kd,ly,pts,rd⟩)):=⟨λhp=>by
 refine aI Tryz.func102 rfl ?_
 all_goals(repeat'((try(conv=>whnf));first
  |refine aaj ?_|refine y5 ?_ ?_|refine aa5 ?_ (λ_=>?_) (λ_=>?_)|(with_reducible first|refine aam ?_|refine aao ?_|refine aah (λ_=>?_) (λ_=>?_)|refine aav (λ_=>?_) (λ_=>?_))|refine zat (λ_=>?_) (λ_=>?_)|refine aax ?_ ?_|refine zas ζ ?_|refine aaW ?_ ?_|refine aa2 ?_ ?_|(with_reducible first|refine aaB ?_ ?_|refine aaA ?_|refine aaK ?_)|apply zaq))
 all_goals(try apply zar)
 all_goals first
  |(exfalso;omega)|exact zbf|skip⟩
instance(priority:=2000) ZC(e:EntR):DenI Tryz.prog 102 [.agg (bU e)] (qQ e) (.bool (jl e)):=⟨λhp=>by
 obtain⟨kd,ly,pts,rd⟩:=e;have hk:(kd<1\/3<kd)\/kd=1\/kd=2\/kd=3:=ω
 rcases hk with hk|rfl|rfl|rfl
 .exact(Pg kd ly pts rd).den hk
 .exact(Qp ly pts rd).den hp
 .exact(Pj ly pts rd).den hp
 .exact(QW ly pts rd).den hp⟩
instance aaf(ls:List LayD)(es:List EntR)(e:EntR):DenI Tryz.prog 64 [.agg [(.sl 3 (ls.map bI)),.sl 7 (es.map bU)],.agg (bU e)] (ls.length<=1000/\qQ e) (.int .i64 (OA ls e)):=⟨λhp=>by
 obtain⟨hp1,hp2⟩:=hp
 all_goals refine aI Tryz.func64 rfl ?_
 all_goals(repeat'((try(conv=>whnf));first
  |refine y5 ?_ ?_|(with_reducible refine aah (λ_=>?_) (λ_=>?_))|refine zat (λ_=>?_) (λ_=>?_)|apply zaq))
 all_goals(try apply zar)
 all_goals first
  |assumption|(refine iE ?_;unfold OA;rw[if_pos ξ];done)|(refine iE ?_;unfold OA;rw[if_neg ξ,if_pos χ];done)|(refine iE ?_;unfold OA;rw[if_neg ξ,if_neg χ];done)⟩
instance Xp(ls:List LayD):DenI Tryz.prog 63 [.c (.sl 3 (ls.map bI))] (0<ls.length/\ls.length<=1000/\(∀l∈ls,l.name.size<=1000)) (.int .i64 (lV ls)):=⟨λhp=>by
 obtain⟨hp1,hp2,hp3⟩:=hp;have hw:(IntKind.i64.wrap ((ls.length:Int)-1))=((ls.length-1:Nat):Int):=by rw[aT ω ω];omega
 all_goals refine aI Tryz.func63 rfl ?_
 all_goals(repeat'((try(conv=>whnf));first
  |refine y5 ?_ ?_|(with_reducible refine aah (λ_=>?_) (λ_=>?_))|refine zat (λ_=>?_) (λ_=>?_)|refine aar L0 ?_ ?_|apply zaq))
 all_goals(try apply zar)
 all_goals(try simp only[aN,fB]at *)
 all_goals(try simp only[hw,fB]at *)
 all_goals first
  |omega|(have z:=VT hp3 (ls.length-1);omega)|(refine iE ?_;unfold lV;rw[if_pos χ];done)|(refine iE ?_;unfold lV;rw[if_neg χ,if_pos ξ];done)|(refine iE ?_;unfold lV;rw[if_neg χ,if_neg ξ];done)⟩
instance(priority:=2000) Yr(ls:List LayD)(a b:Nat):DenI Tryz.prog 63 [.c (.sl 3 (((ls.map bI).take b).drop a))] (a=0/\0<b/\b<=ls.length/\ls.length<=1000/\(∀l∈ls,l.name.size<=1000)) (.int .i64 (lV (ls.take b))):=⟨λ⟨h1,h2,h3,h4,h5⟩=>by
 have h:=(Xp (ls.take b)).den ⟨by rw[qy];omega,by rw[qy];omega,λl hl=>h5 l (List.mem_of_mem_take hl)⟩;rw[List.map_take]at h;subst h1
 exact h⟩
instance VH(ls:List LayD)(es:List EntR):DenI Tryz.prog 20 [.agg [(.sl 3 (ls.map bI)),.sl 7 (es.map bU)]] (ls.length<=1000/\es.length<=1000/\(∀l∈ls,l.name.size<=1000)/\∀e∈es,qQ e) (.int .i64 (gJ ls es)):=⟨λhp=>by
 obtain⟨hp1,hp2,hp3,hp4⟩:=hp
 all_goals refine aI Tryz.func20 rfl ?_
 all_goals(repeat'((try(conv=>whnf));first
  |(with_reducible first|refine aam ?_|refine aao ?_|refine aah (λ_=>?_) (λ_=>?_))|apply zaq))
 all_goals(try simp only[aN,fB]at *)
 all_goals first
  |((conv=>whnf);refine Sw.Loop.inv (α:=Nat) (λx=>[(1,.ptr 1 0),(20,.int .i64 (ls.length:Nat)),(21,.int .i64 (x:Nat))]) (λx=>[(1,.var [(.sl 3 (ls.map bI)),.sl 7 (es.map bU)])]) (λx=>x<=ls.length/\∀j<x,pI ls j=none) (λx=>ls.length-x) 0 ?_ ?_ ?_ (λx hx=>?_))|skip
 all_goals(repeat'((try(conv=>whnf));first
  |refine y5 ?_ ?_|(with_reducible first|refine aah (λ_=>?_) (λ_=>?_)|refine aav (λ_=>?_) (λ_=>?_))|refine aa2 ?_ ?_|apply zaq))
 all_goals(try apply zar)
 all_goals(try simp only[aN,fB]at *)
 all_goals first
  |((conv=>whnf);refine Sw.Loop.inv (α:=Nat) (λy=>[(1,.ptr 1 0),(35,.c (.sl 7 (es.map bU))),(36,.int .i64 (es.length:Nat)),(37,.int .i64 (y:Nat))]) (λy=>[(1,.var [(.sl 3 (ls.map bI)),.sl 7 (es.map bU)])]) (λy=>y<=es.length/\∀j<y,oH ls es j=none) (λy=>es.length-y) 0 ?_ ?_ ?_ (λy hy=>?_))|skip
 all_goals(repeat'((try(conv=>whnf));first
  |refine y5 ?_ ?_|(with_reducible first|refine aah (λ_=>?_) (λ_=>?_)|refine aav (λ_=>?_) (λ_=>?_))|refine aar lZ ?_ ?_|apply zaq))
 all_goals(try apply zar)
 all_goals(try simp only[aN,fB]at *)
 all_goals(try simp only[vP,Kq,fB,Int.toNat_zero]at *)
 all_goals(try simp(disch:=omega) only[aT]at *)
 all_goals(try(have ht:((x:Int)+1).toNat=x+1:=ω;simp only[ht]at *;clear ht))
 all_goals first
  |omega|trivial|exact⟨lN _,λj hj=>absurd hj (EK _)⟩|(refine⟨ω,ω,ω,ω, ?_⟩;intro h;first|exact h|rfl|(cases h))|exact⟨trivial,ω,ω,ω,hp3⟩|exact⟨ω,U2 hp4 ω⟩|(refine iE ?_;rw[Nl ω];done)|(refine iE ?_;rw[Lc ω ω hx.2 ((F7 ω).2 ξ)];done)|(refine iE ?_;have hxx:x=ls.length:=ω;subst hxx;rw[Nz ω hx.2 ω hy.2 (GR.2 ξ)];done)|(refine iE ?_;have hxx:x=ls.length:=ω;subst hxx;have hyy:y=es.length:=ω;subst hyy;rw[GV ω hx.2 hy.2];done)|((conv=>whnf);exact⟨y+1,⟨⟨rfl,rfl,rfl,aK ω,trivial⟩,⟨rfl,trivial⟩,⟨ω,dn hy.2 (GR.1 ξ)⟩,(by show es.length-(y+1)<es.length-y;omega)⟩⟩)|((conv=>whnf);exact⟨x+1,⟨⟨rfl,rfl,aK ω,trivial⟩,⟨rfl,trivial⟩,⟨ω,dn hx.2 ((F7 ω).1 ξ)⟩,(by show ls.length-(x+1)<ls.length-x;omega)⟩⟩)⟩
def LJ:Tab:=(25,.row 2 [(0,1,false),(1,1,false)] [.v (.slice none 0 0),.v (.slice none 0 0)]) ::(2000000000,.flag)::MG
theorem wF:aaH Tryz.prog LJ=true:=ζ
def Qo:Go.Shelf.Ren:=⟨λn=>if n=41 then 53 else n,λn=>if n=22 then 22 else if n=23 then 89 else n,id⟩
theorem Rl:Go.Proofs.SlLaysE0.n41 Tryz.prog Qo where
 mixed:=aP
 f41:=⟨ "slices.Clone[[]swarf/api.LayerDef,swarf/api.LayerDef]",ψ,qh Tryz.func53 (congrArg some (Eq.refl _))⟩
 t4:=Tryz.underlying4
 a4:=Tryz.isAgg4
 z4:=Tryz.sizeOf4
 v4:=Tryz.zeroValue4
 t22:=Tryz.underlying22
 a22:=Tryz.isAgg22
 z22:=Tryz.sizeOf22
 v22:=Tryz.zeroValue22
theorem NH:∃i0,Tryz.prog.info? 89=some i0/\i0.zero=some (.agg #[.string ByteArray.empty,.int .i64 0,.int .i64 0])/\i0.size=3/\i0.bytes=32:=info_parts ζ
instance Zw(es:List (List Cell)):DenI Tryz.prog 53 [.c (.sl 3 es)] (es.length<=1000000) (.c (.sl 3 es)):=⟨λhp=>by
 obtain⟨i0,h1,h2,h3,h4⟩:=NH
 exact Fe Rl ζ i0 _ h1 h2 h3 ω rfl ψ Tryz.sizeOf89 hp⟩
theorem qO(es:List Ent):(es.map dF).map bU=es.map bF:=by
 rw[List.map_map];exact List.map_congr_left λe _=>RI e
instance(priority:=2000) Aw(ls:List LayD)(es:List Ent):DenI Tryz.prog 20 [.agg [(.sl 3 (ls.map bI)),.sl 7 (es.map bF)]] (ls.length<=1000/\es.length<=1000/\(∀l∈ls,l.name.size<=1000)/\∀e∈es,qQ (dF e)) (.int .i64 (gJ ls (es.map dF))):=⟨λ⟨h1,h2,h3,h4⟩=>by
 have h:=(VH ls (es.map dF)).den ⟨h1,by rw[aN];exact h2,h3,λe he=>by obtain⟨x,hx,rfl⟩:=dw.1 he;exact h4 x hx⟩;rw[qO]at h
 exact h⟩
theorem Ns(ls:List LayD)(es:List Ent)(tol:Rat)(h1:ls.length<=1000)(h2:(∀l∈ls,l.name.size<=1000))(h3:es.length<=12)(h4:∀e∈es,okV e)(h5:∀e∈es,qQ (dF e))(h6n:rz tol<=12)(h7:¬tol<0)(h8:gJ ls (es.map dF)=0):
 Den Tryz.prog 13 [.agg [(.sl 3 (ls.map bI)),.sl 7 (es.map bF)],R tol] (.tup [.agg [(.sl 3 (ls.map bI)),.sl 7 ((aG (tol*tol) es).es.map bF)],.c (.sl 19 ((aG (tol*tol) es).cs.map mJ)),.int .i64 0]):=by
 haveI i_v:DenI Tryz.prog 20 [.agg [(.sl 3 (ls.map bI)),.sl 7 (es.map bF)]] (ls.length<=1000/\es.length<=1000/\(∀l∈ls,l.name.size<=1000)/\∀e∈es,qQ (dF e)) (.int .i64 0):=⟨λhp=>by have:=(Aw ls es).den hp;rwa [h8]at this⟩
 have hz1:(aQ (tol*tol) 0 [] es).es.zipIdx.length<=12:=by have:=BK tol es;unfold jZ at this;omega
 have hz2:∀x∈(aQ (tol*tol) 0 [] es).es.zipIdx,okV x.1:=OV (tol:=tol) h4;have hk1:=aU (zW tol es) h3;have hk2:=OE (tol:=tol) h4;have hl1:=aU (Aq tol es) h3;have hl2:=Un (tol:=tol) h4;have hr:=Ed (tol:=tol) h4;have hr1:(aQ (tol*tol) 0 [] es).cs.length<=24:=by have:=(hr 0).1;omega
 have hr2:(jF (aQ (tol*tol) 0 [] es).es.zipIdx).length<=12:=by have:=(hr 0).2.1;unfold jZ at this;omega
 have hr3:=qL (jL tol es) (jL tol es).length (gW _);rw[DV]at hr3;refine Den.of ⟨ζ,λw X vs ho hX hl hR=>?_⟩ rfl
 haveI:WOk Tryz.prog w:=⟨ho⟩
 refine enter Tryz.func13 rfl rfl (by rw[hl];rfl) λa hF=>?_
 have hc:=adq (N:=90) hX hl hR hF;refine ahH (τ:=LJ) wF aP 9 _ (QA:=λz e b=>z=.normal/\SubE [(4,.ptr 4 0),(9,.gs 2000030 ((xI tol es (jK tol es).length).map mJ).length),(11,.gs 100 ((jL tol es).map fU).length),(14,.ptr 14 0)] e/\SubB [(4,.var [.v (.slice none 0 0),.v (.slice none 0 0)]),(14,.var [(.sl 3 (ls.map bI)),.v (.slice none 0 0)]),(2000030,.grow 47 19 ((xI tol es (jK tol es).length).map mJ)),(100,.grow 86 8 ((jL tol es).map fU))] b) ζ ?_ hc (λe b a w hq hc2=>?_) (λx e b a w hx hq hc=>absurd hq.1 hx)
 case refine_1 =>
  clear hc hF hR hl hX
  all_goals(repeat'((try(conv=>whnf));first
   |refine aaj ?_|refine y5 ?_ ?_|(with_reducible first|refine aah (λ_=>?_) (λ_=>?_)|refine aav (λ_=>?_) (λ_=>?_))|refine aax ?_ ?_))
  all_goals(try apply zar)
  all_goals(try simp only[aN,fB]at *)
  all_goals first
   |((conv=>whnf);refine Sw.Loop.ghost 11 100 86 8 ?_ rfl rfl rfl ψ;refine Sw.Loop.inv (α:=Nat) (λx=>[(2,.ptr 2 0),(4,.ptr 4 0),(8,.c (.sl 8 ((jK tol es).map fU))),(42,.c (.sl 1 ((bn ((jK tol es).map (·.1))).map bC))),(43,.int .i64 ((jK tol es).length:Nat)),(44,.int .i64 (x:Nat)),(9,.gs 2000030 ((xI tol es x).map mJ).length),(11,.gs 100 ((zL (jK tol es) x).map fU).length)]) (λx=>[(2,.var [(.sl 3 (ls.map bI)),.sl 7 (es.map bF)]),(4,.var [.v (.slice none 0 0),.v (.slice none 0 0)]),(2000030,.grow 47 19 ((xI tol es x).map mJ)),(100,.grow 86 8 ((zL (jK tol es) x).map fU))]) (λx=>x<=(jK tol es).length) (λx=>(jK tol es).length-x) 0 ?_ ?_ ?_ (λx hx=>?_))|skip
  all_goals(repeat'((try(conv=>whnf));first
   |refine y5 ?_ ?_|(with_reducible refine aah (λ_=>?_) (λ_=>?_))|refine zat (λ_=>?_) (λ_=>?_)|refine aax ?_ ?_|refine aar N0 ?_ ?_|refine aar false ?_ ?_))
  all_goals(try apply zar)
  all_goals(try simp only[aN,fB]at *)
  all_goals(try simp only[dO]at *)
  all_goals first
   |exact zav|(exfalso;rename tol<0=>hx;exact h7 hx)|exact zay|omega|exact⟨h6n,h3,λe he=>(h4 e he).2⟩|exact⟨h1,ω,h2,h5⟩|exact⟨hz1,hz2⟩|exact⟨hk1,hk2⟩|((with_reducible show(_:Nat)<=_);have hrx:=(hr x).2.2;have hlx:=(wV (jK tol es) x).1;simp only[dY,aN,dK,dZ];omega)|exact za0|((with_reducible show SubE _ _);exact⟨rfl,rfl,rfl,rfl,(by show some (AV.int .i64 _)=some (AV.int .i64 _);rw[show(bn (List.map (λx=>x.fst) (jE (aQ (tol*tol) 0 [] es).es.zipIdx))).length=(jK tol es).length from by rw[eX,aN];rfl]),rfl,(by show some (AV.gs _ _)=some (AV.gs _ _);simp only[OO,dY,aN,dK,dZ];rfl),rfl,trivial⟩)|(have hkr:(bn (List.map (λx=>x.fst) (jK tol es))).length=(jK tol es).length:=(by rw[eX,aN]);omega)|((with_reducible show SubB _ _);exact⟨rfl,rfl,(by show some _=some _;simp only[OO,dI,dJ,eF,dB];rfl),rfl,trivial⟩)|(obtain⟨h9,h10⟩:=VK (tol:=tol) (es:=es) (x:=x) ω ξ;(conv=>whnf);exact⟨x+1,⟨⟨rfl,rfl,rfl,rfl,rfl,aK ω,(by(simp only[h9,h10,dI,dJ,eF,dB,dY,aN,dK,dZ]);(first|done|rfl)),(by(simp only[h9,h10,dI,dJ,eF,dB,dY,aN,dK,dZ]);(first|done|rfl)),trivial⟩,⟨rfl,rfl,(by(simp only[h9,h10,dI,dJ,eF,dB]);(first|done|rfl)),(by(simp only[h9,h10,dI,dJ,eF,dB]);(first|done|rfl)),trivial⟩,ω,(by show(jK tol es).length-(x+1)<(jK tol es).length-x;omega)⟩⟩)|(obtain⟨h9,h10⟩:=VZ (tol:=tol) (es:=es) (x:=x) ω ξ;(conv=>whnf);exact⟨x+1,⟨⟨rfl,rfl,rfl,rfl,rfl,aK ω,(by(simp only[h9,h10,dI,dJ,eF,dB,dY,aN,dK,dZ]);(first|done|rfl)),(by(simp only[h9,h10,dI,dJ,eF,dB,dY,aN,dK,dZ]);(first|done|rfl)),trivial⟩,⟨rfl,rfl,(by(simp only[h9,h10,dI,dJ,eF,dB]);(first|done|rfl)),(by(simp only[h9,h10,dI,dJ,eF,dB]);(first|done|rfl)),trivial⟩,ω,(by show(jK tol es).length-(x+1)<(jK tol es).length-x;omega)⟩⟩)|(have hxx:x=(jK tol es).length:=ω;subst hxx;(conv=>whnf);refine⟨rfl,⟨rfl,rfl,(by(try rw[vU]);rfl),rfl,trivial⟩,⟨rfl,rfl,rfl,(by(try rw[vU]);rfl),trivial⟩⟩)
 clear hc;obtain⟨_,he,hb⟩:=hq;have hc:=hc2.sub he hb;clear he hb hc2 hF hR hl hX;replace hc:=hc.ghostF (i:=200) (j:=14) (T:=55) (s:=7) (k:=1) rfl rfl rfl rfl ψ rfl;refine abr (τ:=LJ) wF aP _ (QA:=aif LJ _ [none,none,none] (.tup [.agg [(.sl 3 (ls.map bI)),.sl 7 ((aG (tol*tol) es).es.map bF)],.c (.sl 19 ((aG (tol*tol) es).cs.map mJ)),.int .i64 0])) ζ ?_ hc (λx e b a w' hx hc'=>agy wF hx hc');clear hc ho
 all_goals(repeat'((try(conv=>whnf));first
  |refine aax ?_ ?_))
 all_goals(try apply zar)
 all_goals(try simp only[aN,fB]at *)
 all_goals first
  |((conv=>whnf);refine Sw.Loop.inv (α:=Nat) (λx=>[(4,.ptr 4 0),(9,.gs 2000030 ((xI tol es (jK tol es).length).map mJ).length),(11,.gs 100 ((jL tol es).map fU).length),(14,.ptr 14 0),(71,.gs 100 ((jL tol es).map fU).length),(72,.int .i64 ((jL tol es).length:Nat)),(73,.int .i64 (x:Nat))]) (λx=>[(200,.grow 55 7 ((((jL tol es).take x).map (·.1)).map bF)),(14,.varo [(.sl 3 (ls.map bI)),.ob 200 ((((jL tol es).take x).map (·.1)).map bF).length]),(4,.var [.v (.slice none 0 0),.v (.slice none 0 0)]),(2000030,.grow 47 19 ((xI tol es (jK tol es).length).map mJ)),(100,.grow 86 8 ((jL tol es).map fU))]) (λx=>x<=(jL tol es).length) (λx=>(jL tol es).length-x) 0 ?_ ?_ ?_ (λx hx=>?_))
 all_goals(repeat'((try(conv=>whnf));first
  |refine y5 ?_ ?_|(with_reducible refine aah (λ_=>?_) (λ_=>?_))|refine aax ?_ ?_|refine zas ζ ?_|refine aar N0 ?_ ?_|apply zaq))
 all_goals(try apply zar)
 all_goals(try simp only[aN,fB]at *)
 all_goals first
  |exact zay|omega|exact⟨hl1,λx hx=>(hl2 x hx).2⟩|((with_reducible show(_:Nat)<=_);have hrx:=(hr (jK tol es).length).2.2;simp only[dY,aN,dK,dZ,qy];omega)|((with_reducible show SubE _ _);exact⟨rfl,rfl,rfl,rfl,rfl,rfl,rfl,trivial⟩)|((with_reducible show SubB _ _);exact⟨rfl,rfl,rfl,rfl,rfl,trivial⟩)|((with_reducible show aai _=_);have hxx:x=(jL tol es).length:=ω;subst hxx;rw[AQ,(wX tol es).1,(wX tol es).2,dI];rfl)|(have hm:=Em (l:=(jL tol es)) (x:=x) ω;have hn:(List.take (x+1) (jL tol es)).length=(List.take x (jL tol es)).length+(0+1):=(by simp only[qy];omega);(conv=>whnf);exact⟨x+1,⟨⟨rfl,rfl,rfl,rfl,rfl,rfl,aK ω,trivial⟩,⟨(by(simp only[hm,dI,dJ,eF,dB]);(first|done|rfl)),(by(simp only[hm,hn,dI,dJ,eF,dB,dY,aN,dK,dZ]);(first|done|rfl)),rfl,rfl,rfl,trivial⟩,ω,(by show(jL tol es).length-(x+1)<(jL tol es).length-x;omega)⟩⟩)
instance OB(ls:List LayD)(es:List Ent)(tol:Rat):DenI Tryz.prog 13 [.agg [(.sl 3 (ls.map bI)),.sl 7 (es.map bF)],R tol] (ls.length<=1000/\(∀l∈ls,l.name.size<=1000)/\es.length<=12/\(∀e∈es,okV e)/\(∀e∈es,qQ (dF e))/\rz tol<=12/\¬tol<0/\gJ ls (es.map dF)=0) (.tup [.agg [(.sl 3 (ls.map bI)),.sl 7 ((aG (tol*tol) es).es.map bF)],.c (.sl 19 ((aG (tol*tol) es).cs.map mJ)),.int .i64 0]):=⟨λ⟨h1,h2,h3,h4,h5,h6,h7,h8⟩=>Ns ls es tol h1 h2 h3 h4 h5 h6 h7 h8⟩
instance Zp(kd en fi:Int)(b1 b2 b3 b4 b5 b6 b7 b8:Bool)(l1 l2 l3 l4 l5 l6 l7 l8:List (List Cell)):DenI Tryz.prog 62 [.agg [.v (.int .i64 kd),.v (.int .i64 en),.v (.int .i64 fi),.v (.bool b1),.sl 1 l1,.v (.bool b2),.sl 1 l2,.v (.bool b3),.sl 1 l3,.v (.bool b4),.sl 1 l4,.v (.bool b5),.sl 1 l5,.v (.bool b6),.sl 1 l6,.v (.bool b7),.sl 1 l7,.v (.bool b8),.sl 1 l8]] (True) (.bool (!decide (kd=4))):=⟨λhp=>by
 refine aI Tryz.func62 rfl ?_
 all_goals(repeat'((try(conv=>whnf));first
  |apply zaq))
 all_goals first
  |rfl⟩
instance YW(cs:List Chn):DenI Tryz.prog 82 [.c (.sl 19 (cs.map mJ)),.c (.v (.func (.func 62) #[] #[]))] (cs.length<=1000) (.int .i64 (KX cs)):=⟨λhp=>by
 refine aI Tryz.func82 rfl ?_
 all_goals first
  |((conv=>whnf);refine Sw.Loop.inv (α:=Nat) (λk=>[(0,.c (.sl 19 (cs.map mJ))),(1,.c (.v (.func (.func 62) #[] #[]))),(6,.c (.sl 19 (cs.map mJ))),(7,.int .i64 (cs.length:Nat)),(8,.int .i64 (k:Nat))]) (λk=>[]) (λk=>k<=cs.length/\∀j<k,(cs.getD j C0).kind=4) (λk=>cs.length-k) 0 ?_ ?_ ?_ (λk hk=>?_))
 all_goals(repeat'((try(conv=>whnf));first
  |(with_reducible refine aah (λ_=>?_) (λ_=>?_))|refine aar C0 ?_ ?_|apply zaq))
 all_goals(try apply zar)
 all_goals(try simp only[aN,fB]at *)
 all_goals(try(with_reducible show ahi _ _ _ _;generalize hcc:cs.getD k C0=c;(try rw[hcc]);obtain⟨kd,en,fi,sr,ds⟩:=c;cases sr<;>cases ds))
 all_goals(repeat'((try(conv=>whnf));first
  |refine aaj ?_|(with_reducible refine aav (λ_=>?_) (λ_=>?_))|apply zaq))
 all_goals(try simp only[aN,fB]at *)
 all_goals first
  |omega|trivial|exact⟨lN _,λj hj=>absurd hj (EK _)⟩|((conv=>whnf);exact⟨k+1,⟨⟨rfl,rfl,rfl,rfl,aK ω,trivial⟩,trivial,⟨ω,dn hk.2 (by rw[hcc];dsimp only;omega)⟩,(by show cs.length-(k+1)<cs.length-k;omega)⟩⟩)|((with_reducible show aai _=_);rw[JK (x:=k) ω hk.2 (by rw[hcc];dsimp only;omega)];rfl)|((with_reducible show aai _=_);have hxx:k=cs.length:=ω;subst hxx;rw[O1 hk.2];rfl)⟩
instance Zq(cs:List Chn):DenI Tryz.prog 43 [.c (.sl 19 (cs.map mJ)),.c (.v (.func (.func 62) #[] #[]))] (cs.length<=1000) (.bool (!zX cs)):=⟨λhp=>by
 refine aI Tryz.func43 rfl ?_
 all_goals(repeat'((try(conv=>whnf));first
  |refine y5 ?_ ?_|apply zaq))
 all_goals(try apply zar)
 all_goals first
  |omega|exact bE (OH cs)⟩
instance VD(ls:List LayD)(es:List Ent)(tol:Rat):DenI Tryz.prog 19 [.agg [(.sl 3 (ls.map bI)),.sl 7 (es.map bF)],R tol] (ls.length<=1000/\(∀l∈ls,l.name.size<=1000)/\es.length<=12/\(∀e∈es,okV e)/\(∀e∈es,qQ (dF e))/\rz tol<=12/\¬tol<0/\gJ ls (es.map dF)=0) (.bool (zX (aG (tol*tol) es).cs)):=⟨λhp=>by
 have hlen:(aG (tol*tol) es).cs.length<=1000:=Dl hp.2.2.1 hp.2.2.2.1
 all_goals refine aI Tryz.func19 rfl ?_
 all_goals(repeat'((try(conv=>whnf));first
  |refine y5 ?_ ?_|(with_reducible first|refine aam ?_|refine aao ?_|refine aah (λ_=>?_) (λ_=>?_))|apply zaq))
 all_goals(try apply zar)
 all_goals first
  |exact hp|exact hlen|(refine bE ?_;rw[Bool.not_not])|(exfalso;rename ¬0=0=>h;exact h rfl)⟩
end Go.Proofs.YtmniihkenijjpaaGreatDoor
