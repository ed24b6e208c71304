/-
  Rules of the abstract run, plain laws, and what functions answer, for the law RepairJoins.
  Conditions: none.
-/
import Derived.Test.YtmniihkenijjpaaGreatDoorX16
import Derived.Shelf.LaysM
import Derived.Shelf.Strconv.Itoa1
import Derived.Shelf.Strconv.Itoa2
import Derived.Lib.Walk
import Derived.Lib.ItoaMem
import Derived.Lib.ItoaLen
import Derived.Lib.AppendIntMem
import Derived.WalkKit
import Derived.BigCall
import Derived.BigGuard
import Derived.Shelf.SlicesE.Clone
import Derived.Shelf.Strings.Repeat
import Derived.Lib.Builder
import Derived.Shelf.Strings.Builder1
set_option linter.all false
namespace Go.Proofs.YtmniihkenijjpaaGreatDoor
open Go Go.RowKit Go.Sw Go.Shelf
set_option maxRecDepth 100000
set_option maxHeartbeats 8000000
set_option synthInstance.maxSize 4000
set_option synthInstance.maxHeartbeats 400000
set_option maxHeartbeats 16000000 in
instance ah1(l:List (Ent × Nat)):DenI Tryz.prog 51 [.c (.sl 8 (l.map kN))] (l.length≤12∧∀x∈l,okV x.1) (.tup [.c (.sl 8 ((nV l).map kN)),.c (.sl 19 ((lS l).map iF))]):=⟨λ⟨h1,h4⟩=>by
 refine qp (τ:=FC) lG cO Tryz.func51 rfl (by kernel_rfl) (by kernel_rfl) (by kernel_rfl) ?_
 (conv=>whnf)
 refine Sw.Loop.ghost 4 100 86 8 ?_ rfl rfl rfl (by decide);refine Sw.Loop.ghost 5 101 47 19 ?_ rfl rfl rfl (by decide);refine Sw.Loop.inv (α:=Nat) (λx=>[(10,.c (.sl 8 (l.map kN))),(11,.int .i64 (l.length:Nat)),(12,.int .i64 (x:Nat)),(4,.gs 100 ((SV l x).map kN).length),(5,.gs 101 ((SK l x).map iF).length)]) (λx=>[(100,.grow 86 8 ((SV l x).map kN)),(101,.grow 47 19 ((SK l x).map iF))]) (λx=>x≤l.length) (λx=>l.length-x) 0 ?_ ?_ ?_ (λx hx=>?_)
 ·exact⟨rfl,by simp only[aZ];rfl,rfl,rfl,rfl,trivial⟩
 ·exact⟨rfl,rfl,trivial⟩
 ·exact rC _
 obtain⟨hk1,hk2⟩:=F8 l x
 by_cases hxl:x<l.length
 ·have g0:=GX h4 hxl;obtain⟨g1,g2,g3⟩:=g0.2;rcases mV (l.getD x N0).1 with hE|⟨a,b,hE⟩
  ·haveI ie:DenI Tryz.prog 30 [.agg (aK (l.getD (Int.toNat ((x:Nat):Int)) N0).1)] ((l.getD x N0).1.pts.length≤1000000) (.tup [.c (.sl 8 []),.bool false]):=⟨λhp=>by have:=(ng (l.getD x N0).1).den hp;rw[hE]at this;simpa using this⟩
   all_goals(repeat'((try(conv=>whnf));first
    |refine aj ?_ ?_|(with_reducible first|refine aQ ?_|refine aP ?_|refine au (λ_=>?_) (λ_=>?_))|refine OnB.mk (λ_=>?_) (λ_=>?_)|refine bI ?_ ?_|refine Drw.mk (by kernel_rfl) ?_|refine aU N0 ?_ ?_|refine Ends.mk ?_))
   all_goals(try refine Pr.mk ?_)
   all_goals(try simp only[aZ,gU]at *)
   all_goals first
    |omega|((with_reducible show(_:Nat)≤_);simp only[iy,aZ,iR,jB];omega)|exact⟨by assumption,g0⟩|(have hf:jc (l.getD x N0).1=5:=(by rw[P6 hE,if_pos ⟨by assumption,by assumption⟩]);obtain⟨h5,h6⟩:=WW (l:=l) (x:=x) (k:=4) (by omega) hf;(conv=>whnf);exact⟨x+1,⟨⟨rfl,rfl,bQ (by omega),(by(simp only[h5,h6,gG,gY,iY,gq,iy,aZ,iR,jB]);(first|done|rfl)),(by(simp only[h5,h6,gG,gY,iY,gq,iy,aZ,iR,jB]);(first|done|rfl)),trivial⟩,⟨(by(simp only[h5,h6,gG,gY,iY,gq]);(first|done|rfl)),(by(simp only[h5,h6,gG,gY,iY,gq]);(first|done|rfl)),trivial⟩,by omega,(by show l.length-(x+1)<l.length-x;omega)⟩⟩)|(have hf:jc (l.getD x N0).1=0:=(by rw[P6 hE,if_neg (by simp_all;done)]);obtain⟨h5,h6⟩:=aax (l:=l) (x:=x) (by omega) hf;(conv=>whnf);exact⟨x+1,⟨⟨rfl,rfl,bQ (by omega),(by(simp only[h5,h6,gG,gY,iY,gq,iy,aZ,iR,jB]);(first|done|rfl)),(by(simp only[h5,h6,gG,gY,iY,gq,iy,aZ,iR,jB]);(first|done|rfl)),trivial⟩,⟨(by(simp only[h5,h6,gG,gY,iY,gq]);(first|done|rfl)),(by(simp only[h5,h6,gG,gY,iY,gq]);(first|done|rfl)),trivial⟩,by omega,(by show l.length-(x+1)<l.length-x;omega)⟩⟩)
  ·haveI ie:DenI Tryz.prog 30 [.agg (aK (l.getD (Int.toNat ((x:Nat):Int)) N0).1)] ((l.getD x N0).1.pts.length≤1000000) (.tup [.c (.sl 8 [aY a,aY b]),.bool true]):=⟨λhp=>by have:=(ng (l.getD x N0).1).den hp;rw[hE]at this;simpa using this⟩
   have ha:dB a:=g1 a (iw (by rw[hE];simp));have hb:dB b:=g1 b (iw (by rw[hE];simp))
   all_goals(repeat'((try(conv=>whnf));first
    |refine aj ?_ ?_|(with_reducible first|refine aQ ?_|refine aP ?_|refine au (λ_=>?_) (λ_=>?_))|refine OnB.mk (λ_=>?_) (λ_=>?_)|refine bI ?_ ?_|refine Drw.mk (by kernel_rfl) ?_|(with_reducible first|refine dn ?_|refine dM ?_)|refine aU N0 ?_ ?_|refine Ends.mk ?_))
   all_goals(try refine Pr.mk ?_)
   all_goals(try simp only[aZ,gU]at *)
   all_goals first
    |omega|((with_reducible show(_:Nat)≤_);simp only[iy,aZ,iR,jB];omega)|exact⟨by assumption,g0⟩|exact⟨dh ha.1 (by decide),dh ha.2 (by decide),dh hb.1 (by decide),dh hb.2 (by decide)⟩|(have hf:=Z4 (a:=a) (b:=b) hE (by assumption);obtain⟨h5,h6⟩:=WW (l:=l) (x:=x) (k:=1) (by omega) hf;(conv=>whnf);exact⟨x+1,⟨⟨rfl,rfl,bQ (by omega),(by(simp only[h5,h6,gG,gY,iY,gq,iy,aZ,iR,jB]);(first|done|rfl)),(by(simp only[h5,h6,gG,gY,iY,gq,iy,aZ,iR,jB]);(first|done|rfl)),trivial⟩,⟨(by(simp only[h5,h6,gG,gY,iY,gq]);(first|done|rfl)),(by(simp only[h5,h6,gG,gY,iY,gq]);(first|done|rfl)),trivial⟩,by omega,(by show l.length-(x+1)<l.length-x;omega)⟩⟩)|(have hf:jc (l.getD x N0).1=5:=(by rw[OD (a:=a) (b:=b) hE (by assumption),if_pos ⟨by assumption,by assumption⟩]);obtain⟨h5,h6⟩:=WW (l:=l) (x:=x) (k:=4) (by omega) hf;(conv=>whnf);exact⟨x+1,⟨⟨rfl,rfl,bQ (by omega),(by(simp only[h5,h6,gG,gY,iY,gq,iy,aZ,iR,jB]);(first|done|rfl)),(by(simp only[h5,h6,gG,gY,iY,gq,iy,aZ,iR,jB]);(first|done|rfl)),trivial⟩,⟨(by(simp only[h5,h6,gG,gY,iY,gq]);(first|done|rfl)),(by(simp only[h5,h6,gG,gY,iY,gq]);(first|done|rfl)),trivial⟩,by omega,(by show l.length-(x+1)<l.length-x;omega)⟩⟩)|(have hf:jc (l.getD x N0).1=0:=(by rw[OD (a:=a) (b:=b) hE (by assumption),if_neg (by simp_all;done)]);obtain⟨h5,h6⟩:=aax (l:=l) (x:=x) (by omega) hf;(conv=>whnf);exact⟨x+1,⟨⟨rfl,rfl,bQ (by omega),(by(simp only[h5,h6,gG,gY,iY,gq,iy,aZ,iR,jB]);(first|done|rfl)),(by(simp only[h5,h6,gG,gY,iY,gq,iy,aZ,iR,jB]);(first|done|rfl)),trivial⟩,⟨(by(simp only[h5,h6,gG,gY,iY,gq]);(first|done|rfl)),(by(simp only[h5,h6,gG,gY,iY,gq]);(first|done|rfl)),trivial⟩,by omega,(by show l.length-(x+1)<l.length-x;omega)⟩⟩)
 ·have hxx:x=l.length:=(by omega)
  subst hxx
  all_goals(repeat'((try(conv=>whnf));first
   |refine aj ?_ ?_|(with_reducible first|refine aQ ?_|refine aP ?_|refine au (λ_=>?_) (λ_=>?_))|refine OnB.mk (λ_=>?_) (λ_=>?_)|refine bI ?_ ?_|refine Drw.mk (by kernel_rfl) ?_|refine aU N0 ?_ ?_|refine Ends.mk ?_))
  all_goals(try refine Pr.mk ?_)
  all_goals first
   |(exfalso;omega)|((with_reducible show(_:Nat)=_);rfl)|((with_reducible show aA _=_);rw[OT,N9];rfl)⟩
instance ai0(sq:Rat)(sp:fD)(n:Nat)(s:ByteArray)(v:P2):DenI Tryz.prog 92 [.gh (Gy Tryz.prog 9 45 8 (KW sq sp n)),.c (.v (.string s)),.agg (aY v)] (s.size≤1000∧rz v.1≤12∧rz v.2≤12∧rz sq≤1000∧n≤1000000∧(∀p∈bU sp s,rz p.1≤12∧rz p.2≤12)∧(bU sp s).length≤1000000)
 (.tup [.gh (Gy Tryz.prog 9 45 8 (KW sq (dD sq sp s v).1 (n+1))),.agg (aY (dD sq sp s v).2)]):=⟨λ⟨h1,h2,h3,h4,h5,h6,h7⟩=>aff sq sp n s v h1 h2 h3 h4 h5 h6 h7⟩
instance adL(e:Ent)(a b:P2):DenI Tryz.prog 94 [.agg (aK e),.c (.sl 8 ([cellsOf (.agg (aY a))]++[cellsOf (.agg (aY b))]))] (e.pts.length≤1000000∧2=(bH e).length) (.agg (aK (gW e [a,b]))):=⟨λhp=>(inferInstance:DenI Tryz.prog 94 [.agg (aK e),.c (.sl 8 ([a,b].map aY))] (e.pts.length≤1000000∧[a,b].length=(bH e).length) (.agg (aK (gW e [a,b])))).den hp⟩
theorem fB{l:List Ent}{e:Ent}{x:Nat}(h:l.length=x):(l++[e]).zipIdx=l.zipIdx++[(e,x)]:=by subst h;simp[List.zipIdx_append]
set_option maxHeartbeats 16000000 in
theorem abY(tol:Rat)(es:List Ent)(sL:Nat)(ls:List (List Cell))(ht:rz tol≤12)(hle:es.length≤12)(hes:∀e∈es,(∀p∈e.pts,dB p)∧e.layer.size≤1000∧e.pts.length≤3):
 Den Tryz.prog 50 [.agg [.sl sL ls,.sl 7 (es.map aK)],R tol] (.tup [.c (.sl 8 ((dA (tol*tol) 0 [] es).es.zipIdx.map kN)),.own 47 19 ((dA (tol*tol) 0 [] es).cs.map iF)]):=by
 have i_t:RzB tol 12:=⟨ht⟩
 have hsq:rz (tol*tol)≤1000:=xI (by omega);have hj:=Kt (q:=dB) (sq:=tol*tol) (es:=es) (λe he=>(hes e he).1);refine Den.of ⟨by kernel_rfl,λw X vs ho hX hl hR=>?_⟩ rfl
 haveI:WOk Tryz.prog w:=.of ho
 refine enter Tryz.func50 rfl rfl (by rw[hl];rfl) λa hF=>?_
 have hc:=mQ (N:=76) hX hl hR hF;refine aF (eP (τ:=SE) uh cO _ (QA:=λz e b=>z=.normal∧SubE [(2,.ptr 2 0),(3,.ptr 3 0),(4,.c (.v (.slice none 0 0))),(5,.c (.v (.slice none 0 0)))] e∧SubB [(2,.var [.sl sL ls,.sl 7 (es.map aK)]),(3,.var (BH tol))] b) (by kernel_rfl) ?_ hc ?_)
 case refine_1 =>
  all_goals(repeat'((try(conv=>whnf));first
   |refine aG ?_|refine aj ?_ ?_|refine kH ?_ (λ_=>?_) (λ_=>?_)|(with_reducible first|refine aQ ?_|refine aP ?_|refine au (λ_=>?_) (λ_=>?_)|refine cZ (λ_=>?_) (λ_=>?_))|refine OnB.mk (λ_=>?_) (λ_=>?_)|refine bI ?_ ?_|refine Drw.mk (by kernel_rfl) ?_|refine gu ?_ ?_|refine iG ?_ ?_|(with_reducible first|refine bZ ?_ ?_|refine dn ?_|refine dM ?_)|refine Ends.mk ?_))
  all_goals(try refine Pr.mk ?_)
  exact⟨rfl,⟨rfl,rfl,rfl,rfl,trivial⟩,⟨rfl,rfl,trivial⟩⟩
 clear hc;rintro x e b a w1 ⟨rfl,he,hb⟩ hc;replace hc:=hc.sub he hb;clear he hb;refine bY ?_;obtain⟨S,M,hs⟩:=hc;refine aF (aI ?_);refine wp1 rfl BO ?_;have hB1:Below w1.heap.size w1 (w1.alloc (.map #[] 0)):=Jt w1 _;have hs2:=(hs.below hB1).putV (t:=17) (u:=.map (some w1.heap.size)) (v:=.any) ⟨by decide,rfl⟩ .any;have hm2:(w1.alloc (.map #[] 0)).heap[w1.heap.size]?=some (.map #[] 0):=TB w1 _;generalize w1.alloc (.map #[] 0)=w2 at hB1 hs2 hm2 ⊢;generalize hg0:w1.heap.size=g0 at hs2 hm2 ⊢;obtain⟨g3,T3,c3,v3,hh3,hr3⟩:=hs2.var (t:=3) (i:=3) rfl rfl;have hl3:c3.size=4:=by have:=hr3.len;simpa using this
 have hrow:isRow Tryz.prog 30 4=true:=by kernel_rfl
 have hFm:Frm 76 _ [(3,.pointer (some ⟨g3,0,none⟩)),(17,.map (some g0))]:=(hs2.frm.cons (dw _ hs.sz (by decide))).cons v3;refine wp1 rfl (sQ hrow (hFm.ev rfl) hh3 (by simp[hl3])) ?_;have hs3:=hs2.putV (t:=18) (u:=.agg c3) (v:=.any) ⟨by decide,rfl⟩ .any;replace hFm:=hFm.put (d:=18) (by decide) (.agg c3);refine wp1 rfl (sQ hrow (hFm.ev rfl) hh3 (by simp[hl3])) ?_;have hs4:=hs3.putV (t:=19) (u:=.agg c3) (v:=.any) ⟨by decide,rfl⟩ .any;replace hFm:=hFm.put (d:=19) (by decide) (.agg c3)
 have hd3:RepD w2 (bl S++X) (.agg c3) (R tol):=by
  obtain⟨c3⟩:=c3;exact .agg hr3
 have hden:=((inferInstance:DenI Tryz.prog 91 [R tol,R tol] _ (R (tol*tol))).den (by exact⟨dh ht (by decide),dh ht (by decide)⟩)).old rfl;have hok2:Wld.ok Tryz.prog w2:=Wld.keep (Wld.keep ho hs.ms.st.below.b0) hB1
 have hcall:=hden.2 w2 (bl S++X) [.agg c3,.agg c3] hok2 hs4.bnd rfl (λi u v hu hv=>by
  match i,hu,hv with
  |0,hu,hv=>cases hu;cases hv;exact hd3
  |1,hu,hv=>cases hu;cases hv;exact hd3)
 refine agX rfl (Oz (by kernel_rfl) (agW (hFm.ev rfl) (hFm.ev rfl)) rfl) hcall ?_;rintro u5 w3 ⟨hR5,hB3⟩;obtain⟨us5,rfl,hr5⟩:=hR5.agg;have hl5:us5.length=4:=by have:=hr5.len;simpa using this
 have hs5:=(hs4.below hB3).putV (t:=20) (u:=.agg us5.toArray) (v:=.any) ⟨by decide,rfl⟩ .any;replace hFm:=hFm.put (d:=20) (by decide) (.agg us5.toArray);have hm3:w3.heap[g0]?=some (.map #[] 0):=(hB3.block _ (lt_of_heap hm2)).trans hm2;refine wp1 rfl (NH (hFm.ev rfl) rfl (hFm.ev rfl) (KO (aT lG (t:=133) rfl) rfl hl5)) ?_;have hs6:=hs5.putV (t:=21) (u:=.agg (#[.map (some g0)]++us5.toArray)) (v:=.any) ⟨by decide,rfl⟩ .any;replace hFm:=hFm.put (d:=21) (by decide) (.agg (#[.map (some g0)]++us5.toArray));refine wp1 rfl (NJ (hFm.ev rfl)) ?_;have hc:=Sta.ghost0 (i:=22) (T:=133) (us:=.map (some g0)::us5) (G:=Gy Tryz.prog 9 45 8 (KW (tol*tol) [] 0)) (g0:=g0) hs hs6 (by omega) hm3 rfl rfl rfl ⟨by decide,rfl⟩ (afJ hr5);rw[show(Value.map (some g0)::us5).toArray=(Value.agg (#[.map (some g0)]++us5.toArray)).cells by simp[Value.cells]]at hc;refine wY uh (k:=λe b=>SubE [(6,.ptr 22 0),(2,.ptr 2 0)] e∧SubB [(22,.gh (Gy Tryz.prog 9 45 8 (KW (tol*tol) [] 0))),(2,.var [.sl sL ls,.sl 7 (es.map aK)])] b) ?_ (by kernel_rfl) ?_ hc
 case refine_2 =>
  all_goals(repeat'((try(conv=>whnf));first
   |refine aG ?_|refine aj ?_ ?_|refine kH ?_ (λ_=>?_) (λ_=>?_)|(with_reducible first|refine aQ ?_|refine aP ?_|refine au (λ_=>?_) (λ_=>?_)|refine cZ (λ_=>?_) (λ_=>?_))|refine OnB.mk (λ_=>?_) (λ_=>?_)|refine bI ?_ ?_|refine Drw.mk (by kernel_rfl) ?_|refine gu ?_ ?_|refine iG ?_ ?_|(with_reducible first|refine bZ ?_ ?_|refine dn ?_|refine dM ?_)|refine Ends.mk ?_))
  all_goals(try refine Pr.mk ?_)
  exact⟨⟨rfl,rfl,trivial⟩,⟨rfl,rfl,trivial⟩⟩
 clear hc hFm hs6 hm3 hs5 hl5 hR5 hr5 hB3 hcall hok2 hden hd3 hs4 hs3 hrow hl3 hr3 hh3 v3 hm2 hs2 hg0 hB1 hs hF hR hl hX;rintro e b a w4 ⟨he,hb⟩ hc;replace hc:=hc.sub he hb;clear he hb;refine bY ?_;refine eP (τ:=SE) uh cO _ (QA:=Jz SE _ [none,some (47,19)] (.tup [.c (.sl 8 ((dA (tol*tol) 0 [] es).es.zipIdx.map kN)),.own 47 19 ((dA (tol*tol) 0 [] es).cs.map iF)])) (by kernel_rfl) ?_ hc (λx e b a w' hx hc'=>um uh hx hc');clear hc ho
 (conv=>whnf);refine Sw.Loop.ghost 7 100 86 8 ?_ rfl rfl rfl (by decide)
 refine Sw.Loop.ghost 8 101 47 19 ?_ rfl rfl rfl (by decide);refine Sw.Loop.inv (α:=Nat) (λx=>[(6,.ptr 22 0),(24,.c (.sl 7 (es.map aK))),(25,.int .i64 (es.length:Nat)),(26,.int .i64 (x:Nat)),(7,.gs 100 ((jA (tol*tol) es x).es.zipIdx.map kN).length),(8,.gs 101 ((jA (tol*tol) es x).cs.map iF).length)]) (λx=>[(22,.gh (Gy Tryz.prog 9 45 8 (KW (tol*tol) (jA (tol*tol) es x).sp (nE es x)))),(100,.grow 86 8 ((jA (tol*tol) es x).es.zipIdx.map kN)),(101,.grow 47 19 ((jA (tol*tol) es x).cs.map iF))]) (λx=>x≤es.length) (λx=>es.length-x) 0 ?_ ?_ ?_ (λx hx=>?_)
 ·exact⟨rfl,rfl,by simp only[aZ];rfl,rfl,rfl,rfl,trivial⟩
 ·exact⟨rfl,rfl,rfl,trivial⟩
 ·exact rC _
 obtain⟨j1,j2,j3,j4,j5⟩:=hj x hx;obtain⟨g1,g2,g3'⟩:=ZB hes x;have hn2:=O7 es x;rcases mV (es.getD x E0)with hE|⟨a,b,hE⟩
 ·haveI ie:DenI Tryz.prog 30 [.agg (aK (es.getD (Int.toNat ((x:Nat):Int)) E0))] ((es.getD x E0).pts.length≤1000000) (.tup [.c (.sl 8 []),.bool false]):=⟨λhp=>by have:=(ng (es.getD x E0)).den hp;rw[hE]at this;simpa using this⟩
  all_goals(repeat'((try(conv=>whnf));first
   |refine aG ?_|refine aj ?_ ?_|refine kH ?_ (λ_=>?_) (λ_=>?_)|(with_reducible first|refine aQ ?_|refine aP ?_|refine au (λ_=>?_) (λ_=>?_)|refine cZ (λ_=>?_) (λ_=>?_))|refine OnB.mk (λ_=>?_) (λ_=>?_)|refine bI ?_ ?_|refine Drw.mk (by kernel_rfl) ?_|refine gu ?_ ?_|refine iG ?_ ?_|(with_reducible first|refine bZ ?_ ?_|refine dn ?_|refine dM ?_)|refine aU E0 ?_ ?_|refine Ends.mk ?_))
  all_goals(try refine Pr.mk ?_)
  all_goals first
   |((conv=>whnf);refine Sw.Loop.unroll ?_)|skip
  all_goals(repeat'((try rw[Qe]);(try rw[IU]);(try(conv=>whnf));first
   |refine aG ?_|refine aj ?_ ?_|(with_reducible first|refine aQ ?_|refine aP ?_)|refine Yp (by simp only[iR,jB];decide) ?_|refine Gm (by simp only[iR,jB];decide) ?_|refine Yp (by decide) ?_|refine Gm (by decide) ?_|(with_reducible first|refine au (λ_=>?_) (λ_=>?_)|refine cZ (λ_=>?_) (λ_=>?_))|refine OnB.mk (λ_=>?_) (λ_=>?_)|refine bI ?_ ?_|refine Drw.mk (by kernel_rfl) ?_|refine gu ?_ ?_|refine iG ?_ ?_|(with_reducible first|refine bZ ?_ ?_|refine dn ?_|refine dM ?_)|refine Ends.mk ?_))
  all_goals(try refine Pr.mk ?_)
  all_goals(try simp only[aZ,gU]at *)
  all_goals first
   |((with_reducible show(_:Nat)=_);rfl)|omega|((with_reducible show(_:Nat)≤_);simp only[iy,aZ,List.length_zipIdx,iR,jB];omega)|((with_reducible show aA _=_);have hxx:x=es.length:=(by omega);subst hxx;rw[Cb];rfl)|(exfalso;rename_i q;simp at q;done)|(obtain⟨hA,hN⟩:=acQ (tol*tol) es (x:=x) (by omega) hE;(conv=>whnf);exact⟨x+1,⟨⟨rfl,rfl,rfl,bQ (by omega),(by(simp only[hA,hN,fB j5,gG,gY,iY,gq,iy,aZ,iR,jB]);(first|done|rfl)),(by(simp only[hA,hN,fB j5,gG,gY,iY,gq,iy,aZ,iR,jB]);(first|done|rfl)),trivial⟩,⟨(by(simp only[hA,hN,fB j5,gG,gY,iY,gq]);(first|done|rfl)),(by(simp only[hA,hN,fB j5,gG,gY,iY,gq]);(first|done|rfl)),(by(simp only[hA,hN,fB j5,gG,gY,iY,gq]);(first|done|rfl)),trivial⟩,by omega,(by show es.length-(x+1)<es.length-x;omega)⟩⟩)|skip
 ·haveI ie:DenI Tryz.prog 30 [.agg (aK (es.getD (Int.toNat ((x:Nat):Int)) E0))] ((es.getD x E0).pts.length≤1000000) (.tup [.c (.sl 8 [aY a,aY b]),.bool true]):=⟨λhp=>by have:=(ng (es.getD x E0)).den hp;rw[hE]at this;simpa using this⟩
  have ha:dB a:=g1 a (iw (by rw[hE];simp));have hb:dB b:=g1 b (iw (by rw[hE];simp));have f1:=yG (q:=dB) (sq:=tol*tol) (s:=(es.getD x E0).layer) j1 ha;have f2:=yG (q:=dB) (sq:=tol*tol) (s:=(es.getD x E0).layer) f1.1 hb
  all_goals(repeat'((try(conv=>whnf));first
   |refine aG ?_|refine aj ?_ ?_|refine kH ?_ (λ_=>?_) (λ_=>?_)|(with_reducible first|refine aQ ?_|refine aP ?_|refine au (λ_=>?_) (λ_=>?_)|refine cZ (λ_=>?_) (λ_=>?_))|refine OnB.mk (λ_=>?_) (λ_=>?_)|refine bI ?_ ?_|refine Drw.mk (by kernel_rfl) ?_|refine gu ?_ ?_|refine iG ?_ ?_|(with_reducible first|refine bZ ?_ ?_|refine dn ?_|refine dM ?_)|refine aU E0 ?_ ?_|refine Ends.mk ?_))
  all_goals(try refine Pr.mk ?_)
  all_goals first
   |((conv=>whnf);refine Sw.Loop.unroll ?_)|skip
  all_goals(repeat'((try rw[Qe]);(try rw[IU]);(try(conv=>whnf));first
   |refine aG ?_|refine aj ?_ ?_|(with_reducible first|refine aQ ?_|refine aP ?_)|refine Yp (by simp only[iR,jB];decide) ?_|refine Gm (by simp only[iR,jB];decide) ?_|refine Yp (by decide) ?_|refine Gm (by decide) ?_|(with_reducible first|refine au (λ_=>?_) (λ_=>?_)|refine cZ (λ_=>?_) (λ_=>?_))|refine OnB.mk (λ_=>?_) (λ_=>?_)|refine bI ?_ ?_|refine Drw.mk (by kernel_rfl) ?_|refine gu ?_ ?_|refine iG ?_ ?_|(with_reducible first|refine bZ ?_ ?_|refine dn ?_|refine dM ?_)|refine Ends.mk ?_))
  all_goals(try refine Pr.mk ?_)
  all_goals first
   |((conv=>whnf);refine Sw.Loop.unroll ?_)|skip
  all_goals(repeat'((try rw[Qe]);(try rw[IU]);(try(conv=>whnf));first
   |refine aG ?_|refine aj ?_ ?_|(with_reducible first|refine aQ ?_|refine aP ?_)|refine Yp (by simp only[iR,jB];decide) ?_|refine Gm (by simp only[iR,jB];decide) ?_|refine Yp (by decide) ?_|refine Gm (by decide) ?_|(with_reducible first|refine au (λ_=>?_) (λ_=>?_)|refine cZ (λ_=>?_) (λ_=>?_))|refine OnB.mk (λ_=>?_) (λ_=>?_)|refine bI ?_ ?_|refine Drw.mk (by kernel_rfl) ?_|refine gu ?_ ?_|refine iG ?_ ?_|(with_reducible first|refine bZ ?_ ?_|refine dn ?_|refine dM ?_)|refine Ends.mk ?_))
  all_goals(try refine Pr.mk ?_)
  all_goals first
   |((conv=>whnf);refine Sw.Loop.unroll ?_)|skip
  all_goals(repeat'((try rw[Qe]);(try rw[IU]);(try(conv=>whnf));first
   |refine aG ?_|refine aj ?_ ?_|(with_reducible first|refine aQ ?_|refine aP ?_)|refine Yp (by simp only[iR,jB];decide) ?_|refine Gm (by simp only[iR,jB];decide) ?_|refine Yp (by decide) ?_|refine Gm (by decide) ?_|(with_reducible first|refine au (λ_=>?_) (λ_=>?_)|refine cZ (λ_=>?_) (λ_=>?_))|refine OnB.mk (λ_=>?_) (λ_=>?_)|refine bI ?_ ?_|refine Drw.mk (by kernel_rfl) ?_|refine gu ?_ ?_|refine iG ?_ ?_|(with_reducible first|refine bZ ?_ ?_|refine dn ?_|refine dM ?_)|refine Ends.mk ?_))
  all_goals(try refine Pr.mk ?_)
  all_goals(try simp only[aZ,gU]at *)
  all_goals first
   |((with_reducible show(_:Nat)=_);rfl)|omega|((with_reducible show(_:Nat)≤_);simp only[iy,aZ,List.length_zipIdx,iR,jB];omega)|((with_reducible show aA _=_);have hxx:x=es.length:=(by omega);subst hxx;rw[Cb];rfl)|((with_reducible show _∧_);first|exact⟨g2,ha.1,ha.2,hsq,by omega,spq j1,by have:=y7 (jA (tol*tol) es x).sp (es.getD x E0).layer;omega⟩|exact⟨g2,hb.1,hb.2,hsq,by omega,spq f1.1,by have:=y7 (dD (tol*tol) (jA (tol*tol) es x).sp (es.getD x E0).layer a).1 (es.getD x E0).layer;have:=f1.2.2;omega⟩|exact⟨dh ha.1 (by decide),dh ha.2 (by decide),dh f1.2.1.1 (by decide),dh f1.2.1.2 (by decide)⟩|exact⟨dh hb.1 (by decide),dh hb.2 (by decide),dh f2.2.1.1 (by decide),dh f2.2.1.2 (by decide)⟩|exact⟨by omega,by rw[hE];rfl⟩)|(exfalso;rename_i q;simp at q;done)|(obtain⟨hA,hN⟩:=ab7 (tol*tol) es (x:=x) (by omega) hE;first|(have q1:=YW (i:=x) (k:=0) (a:=a) (w:=(dD (tol*tol) (jA (tol*tol) es x).sp (es.getD x E0).layer a).2) (by assumption);have q2:=YW (i:=x) (k:=1) (a:=b) (w:=(dD (tol*tol) (dD (tol*tol) (jA (tol*tol) es x).sp (es.getD x E0).layer a).1 (es.getD x E0).layer b).2) (by assumption);(conv=>whnf);exact⟨x+1,⟨⟨rfl,rfl,rfl,bQ (by omega),(by(simp only[hA,hN,q1,q2,fB j5,vJ,vg,nT,gG,gY,iY,gq,iy,aZ,iR,jB]);(first|done|rfl)),(by(simp only[hA,hN,q1,q2,fB j5,vJ,vg,nT,gG,gY,iY,gq,iy,aZ,iR,jB]);(first|done|rfl)),trivial⟩,⟨(by(simp only[hA,hN,q1,q2,fB j5,vJ,vg,nT,gG,gY,iY,gq]);(first|done|rfl)),(by(simp only[hA,hN,q1,q2,fB j5,vJ,vg,nT,gG,gY,iY,gq]);(first|done|rfl)),(by(simp only[hA,hN,q1,q2,fB j5,vJ,vg,nT,gG,gY,iY,gq]);(first|done|rfl)),trivial⟩,by omega,(by show es.length-(x+1)<es.length-x;omega)⟩⟩)|(have q1:=YW (i:=x) (k:=0) (a:=a) (w:=(dD (tol*tol) (jA (tol*tol) es x).sp (es.getD x E0).layer a).2) (by assumption);have q2:=ZK (i:=x) (k:=1) (a:=b) (w:=(dD (tol*tol) (dD (tol*tol) (jA (tol*tol) es x).sp (es.getD x E0).layer a).1 (es.getD x E0).layer b).2) (by assumption);(conv=>whnf);exact⟨x+1,⟨⟨rfl,rfl,rfl,bQ (by omega),(by(simp only[hA,hN,q1,q2,fB j5,vJ,vg,nT,gG,gY,iY,gq,iy,aZ,iR,jB]);(first|done|rfl)),(by(simp only[hA,hN,q1,q2,fB j5,vJ,vg,nT,gG,gY,iY,gq,iy,aZ,iR,jB]);(first|done|rfl)),trivial⟩,⟨(by(simp only[hA,hN,q1,q2,fB j5,vJ,vg,nT,gG,gY,iY,gq]);(first|done|rfl)),(by(simp only[hA,hN,q1,q2,fB j5,vJ,vg,nT,gG,gY,iY,gq]);(first|done|rfl)),(by(simp only[hA,hN,q1,q2,fB j5,vJ,vg,nT,gG,gY,iY,gq]);(first|done|rfl)),trivial⟩,by omega,(by show es.length-(x+1)<es.length-x;omega)⟩⟩)|(have q1:=ZK (i:=x) (k:=0) (a:=a) (w:=(dD (tol*tol) (jA (tol*tol) es x).sp (es.getD x E0).layer a).2) (by assumption);have q2:=YW (i:=x) (k:=1) (a:=b) (w:=(dD (tol*tol) (dD (tol*tol) (jA (tol*tol) es x).sp (es.getD x E0).layer a).1 (es.getD x E0).layer b).2) (by assumption);(conv=>whnf);exact⟨x+1,⟨⟨rfl,rfl,rfl,bQ (by omega),(by(simp only[hA,hN,q1,q2,fB j5,vJ,vg,nT,gG,gY,iY,gq,iy,aZ,iR,jB]);(first|done|rfl)),(by(simp only[hA,hN,q1,q2,fB j5,vJ,vg,nT,gG,gY,iY,gq,iy,aZ,iR,jB]);(first|done|rfl)),trivial⟩,⟨(by(simp only[hA,hN,q1,q2,fB j5,vJ,vg,nT,gG,gY,iY,gq]);(first|done|rfl)),(by(simp only[hA,hN,q1,q2,fB j5,vJ,vg,nT,gG,gY,iY,gq]);(first|done|rfl)),(by(simp only[hA,hN,q1,q2,fB j5,vJ,vg,nT,gG,gY,iY,gq]);(first|done|rfl)),trivial⟩,by omega,(by show es.length-(x+1)<es.length-x;omega)⟩⟩)|(have q1:=ZK (i:=x) (k:=0) (a:=a) (w:=(dD (tol*tol) (jA (tol*tol) es x).sp (es.getD x E0).layer a).2) (by assumption);have q2:=ZK (i:=x) (k:=1) (a:=b) (w:=(dD (tol*tol) (dD (tol*tol) (jA (tol*tol) es x).sp (es.getD x E0).layer a).1 (es.getD x E0).layer b).2) (by assumption);(conv=>whnf);exact⟨x+1,⟨⟨rfl,rfl,rfl,bQ (by omega),(by(simp only[hA,hN,q1,q2,fB j5,vJ,vg,nT,gG,gY,iY,gq,iy,aZ,iR,jB]);(first|done|rfl)),(by(simp only[hA,hN,q1,q2,fB j5,vJ,vg,nT,gG,gY,iY,gq,iy,aZ,iR,jB]);(first|done|rfl)),trivial⟩,⟨(by(simp only[hA,hN,q1,q2,fB j5,vJ,vg,nT,gG,gY,iY,gq]);(first|done|rfl)),(by(simp only[hA,hN,q1,q2,fB j5,vJ,vg,nT,gG,gY,iY,gq]);(first|done|rfl)),(by(simp only[hA,hN,q1,q2,fB j5,vJ,vg,nT,gG,gY,iY,gq]);(first|done|rfl)),trivial⟩,by omega,(by show es.length-(x+1)<es.length-x;omega)⟩⟩))|skip
instance af6(tol:Rat)(es:List Ent)(sL:Nat)(ls:List (List Cell)):DenI Tryz.prog 50 [.agg [.sl sL ls,.sl 7 (es.map aK)],R tol] (rz tol≤12∧es.length≤12∧∀e∈es,okE e) (.tup [.c (.sl 8 ((dA (tol*tol) 0 [] es).es.zipIdx.map kN)),.own 47 19 ((dA (tol*tol) 0 [] es).cs.map iF)]):=⟨λ⟨h1,h2,h3⟩=>abY tol es sL ls h1 h2 h3⟩
def ahU:List Cell:=[.v (.string ⟨#[]⟩),.v (.int .i64 0),.v (.string ⟨#[108,105,110,101]⟩),.v (.int .i64 2),.v (.string ⟨#[97,114,99]⟩),.v (.int .i64 3),.v (.string ⟨#[99,105,114,99,108,101]⟩),.v (.int .i64 1)]
def aey:List Value:=[.string ⟨#[]⟩,.int .i64 0,.string ⟨#[108,105,110,101]⟩,.int .i64 2,.string ⟨#[97,114,99]⟩,.int .i64 3,.string ⟨#[99,105,114,99,108,101]⟩,.int .i64 1]
def TG(w:World):Prop:=∀(j:Nat) u,aey[j]?=some u→w.cell? ((⟨0,0,none⟩:Addr).add j)=some u
theorem VF{w w':World}(h:TG w)(hb:Below w.heap.size w w'):TG w':=λj u hu=>by
 have h1:=h j u hu;have hb0:((⟨0,0,none⟩:Addr).add j).block=0:=by unfold Addr.add;split<;>rfl
 have hg:((⟨0,0,none⟩:Addr).add j).block<w.heap.size:=by
  rcases D7 ((⟨0,0,none⟩:Addr).add j).block w.heap.size with h'|h'
  ·exact h'
  ·unfold World.cell? at h1;rw[Array.getElem?_eq_none h']at h1;cases h1
 exact(hb.cell hg).trans h1
instance(priority:=3000) SB:Wld Tryz.prog:=⟨λw=>Lib.TabIs Tryz.prog w "internal/strconv.uint64pow10" .u64 Lib.pow10Tab∧TG w,λh hb=>⟨Iz h.1 hb,VF h.2 hb⟩,[(0,aey)],λh g us hm=>by
 simp only[uQ,nH]at hm;obtain⟨rfl,rfl⟩:=hm
 exact h.2⟩
instance agf{f:FuncId}{xs:List AV}{pre:Prop}{r:AV}[h : @DenI Tryz.prog CB f xs pre r]:@DenI Tryz.prog SB f xs pre r:=⟨λhp=>o7 CB SB (λ_ h=>h.1) (h.den hp)⟩
instance af8{f:FuncId}{xs:List AV}{pre c:Prop}{r s:AV}[h : @DenC Tryz.prog CB f xs pre c r s]:@DenC Tryz.prog SB f xs pre c r s:=⟨λhp=>⟨λhc=>o7 CB SB (λ_ h=>h.1) ((h.den hp).1 hc),λhc=>o7 CB SB (λ_ h=>h.1) ((h.den hp).2 hc)⟩⟩
def VJ:Tab:=(1000000000,.glob 0 ahU)::tab
theorem YL : @dN Tryz.prog SB VJ=true:=by kernel_rfl
theorem bW{f:FuncId}{fn:Func}{c:Code}{xs:List AV}{r:AV}(hf:Tryz.prog.funcs[f]?=some fn)(hb:fn.body=some c)(h:zh (Den Tryz.prog) VJ c (Xt VJ fn r) (D5 0 xs) [])(a:dW Tryz.prog f=true:=by kernel_rfl)(t:iU fn.ntmps c=true:=by kernel_rfl)(l:Nat.ble xs.length fn.ntmps=true:=by kernel_rfl)(n:kS xs=true:=by rfl):Den Tryz.prog f xs r:=qp YL cO hf hb a t l h n
instance aiD(n:Nat):DenI Tryz.prog 254 [.int .i64 (n:Nat)] (n≤31) (Z (p10 n)):=⟨λhp=>by
 refine bW Tryz.func254 rfl ?_
 all_goals(repeat'((try(conv=>whnf));first
  |refine aj ?_ ?_))
 all_goals(try refine Pr.mk ?_)
 all_goals first
  |((conv=>whnf);refine Sw.Loop.inv (α:=Nat) (λx=>[(2,.ptr 2 0),(3,.ptr 3 0),(4,.ptr 4 0),(7,.int .i64 (n:Nat)),(8,.int .i64 (x:Nat))]) (λx=>[(2,.var [.v (.bool false),.sl 1 []]),(3,.var [zs (p10 x),zl (p10 x)]),(4,.var [zs 10,zl 10])]) (λx=>x≤n∧True) (λx=>n-x) 0 ?_ ?_ ?_ (λx hx=>?_))|skip
 all_goals(repeat'((try(conv=>whnf));first
  |refine aj ?_ ?_|(with_reducible refine au (λ_=>?_) (λ_=>?_))|refine Ends.mk ?_))
 all_goals(try refine Pr.mk ?_)
 all_goals first|(show SubE _ _;repeat'(first|exact trivial|refine And.intro ?_ ?_))|(show SubB _ _;repeat'(first|exact trivial|refine And.intro ?_ ?_))|skip
 all_goals(try rfl)
 all_goals first
  |omega|exact⟨rC _,trivial⟩|exact⟨dh (CZ (by omega)) (by decide),dh (kM (n:=10) (by decide) (by decide)) (by decide)⟩|((with_reducible show aA _=_);have hxx:x=n:=(by omega);subst hxx;rfl)|((conv=>whnf);exact⟨x+1,⟨⟨rfl,rfl,rfl,rfl,bQ (by omega),trivial⟩,⟨rfl,(by show some (Bk.var [zs (p10 x*10),zl (p10 x*10)])=some (Bk.var [zs (p10 (x+1)),zl (p10 (x+1))]);rw[Js]),rfl,trivial⟩,⟨by omega,trivial⟩,by show n-(x+1)<n-x;omega⟩⟩)⟩
instance ah7(a:Rat)(n:Nat):DenI Tryz.prog 223 [R a,.int .i64 (n:Nat)] (rz a≤100∧n≤30) (R (tmR a n)):=⟨λhp=>by
 have z1:=TT (n:=n) (by omega);have z2:=CZ (n:=n) (by omega)
 all_goals refine bW Tryz.func223 rfl ?_
 all_goals(repeat'((try(conv=>whnf));first
  |refine aj ?_ ?_|refine kH ?_ (λ_=>?_) (λ_=>?_)|refine Ends.mk ?_))
 all_goals(try refine Pr.mk ?_)
 all_goals(try simp only[iD]at *)
 all_goals first
  |rfl|omega|exact⟨dh z2 (by decide),dh (kM (n:=1) (by decide) (by decide)) (by decide)⟩|(refine⟨by omega, ?_⟩;have:=Xe (n:=n) (by omega);omega)⟩
instance aiU(s:ByteArray):DenI Tryz.prog 225 [.str s] (s.size≤1000) (.tup [.str s,.bool true]):=⟨λhp=>by
 refine bW Tryz.func225 rfl ?_
 all_goals(repeat'((try(conv=>whnf));first
  |(with_reducible refine au (λ_=>?_) (λ_=>?_))|refine Ends.mk ?_))
 all_goals first
  |rfl|(exfalso;omega)⟩
theorem adQ{k:Nat}(hk:k≤40)(w:World):Calls Tryz.prog 256 #[.string ⟨#[48]⟩,.int .i64 k] w λe w'=>e=.returned (.string (RS k))∧Below w.heap.size w w':=by
 refine(Any.strings_Repeat VP aaw ⟨#[48]⟩ k w (by omega) (by show 1*k≤_;omega)).mono ?_;rintro e w' ⟨rfl,hb⟩;refine⟨?_,hb⟩
 have:Lib.repeatL [(48:UInt8)] k=List.replicate k 48:=by
  have:∀k:Nat,k≤40→Lib.repeatL [(48:UInt8)] k=List.replicate k 48:=by decide +kernel
  exact this k hk
 rw[show(ByteArray.mk #[48]).data.toList=[(48:UInt8)]from rfl,this];rfl
instance aiK(z:Int):DenI Tryz.prog 256 [.c (.v (.string ⟨#[48]⟩)),.c (.v (.int .i64 z))] (0≤z∧z≤40) (.c (.v (.string (RS z.toNat)))):=⟨λhp=>by
 obtain⟨n,rfl⟩:=Int.eq_ofNat_of_zero_le hp.1;refine Den.of ⟨by kernel_rfl,λw X vs hW hX hl hr=>?_⟩ rfl
 match vs,hl with
 |[u,v],_ =>
 have hu:u=.string ⟨#[48]⟩:=by
  have:=hr 0 u _ rfl rfl;cases this with
  |c h=>cases h;rfl
 have hv:v=.int .i64 (n:Nat):=by
  have:=hr 1 v _ rfl rfl;cases this with
  |c h=>cases h;rfl
 subst hu hv;refine Calls.mono (adQ (k:=n) (by omega) w) ?_;rintro e w' ⟨rfl,hb⟩
 exact⟨_,rfl,(RepR.d (.c (.v _ rfl))).f,hb⟩⟩
instance ahZ(n:Int)(k:Nat):DenI Tryz.prog 224 [Z n,.int .i64 (k:Nat)] (sz n≤50∧k≤30) (.str (ptD n k)):=⟨λhp=>by
 have z0:=Nc hp.1;have z1:=Sj n;have z2:=Td hp.1 hp.2
 by_cases hn:n<0
 all_goals refine bW Tryz.func224 rfl ?_
 all_goals(repeat'((try(conv=>whnf));first
  |refine aG ?_|refine aj ?_ ?_|(with_reducible refine au (λ_=>?_) (λ_=>?_))|refine bI ?_ ?_|refine Drw.mk (by kernel_rfl) ?_|refine iG ?_ ?_|refine Ends.mk ?_))
 all_goals(try refine Pr.mk ?_)
 all_goals(try simp only[iD]at *)
 all_goals(try(exfalso;omega))
 all_goals(try simp only[Eo,Xn,gU,aeG hn]at *)
 all_goals(try simp only[Eo,Xn,gU,ae3 hn]at *)
 all_goals(try simp(disch:=omega) only[bP]at *)
 all_goals(try(have hle:(Du n).size≤k:=(by omega);have hB:=ae9 (n:=n) (k:=k) hle;simp only[hB]at *))
 all_goals(try(have hle:¬(Du n).size≤k:=(by omega);have hB:=afm (n:=n) (k:=k) hle))
 all_goals(try simp(disch:=omega) only[bP]at *)
 all_goals first
  |omega|(refine abf ?_;rw[aeU (by omega)];unfold ZM;first|rw[if_pos hn]|rw[if_neg hn])|(refine⟨by omega,by omega,by omega,by omega, ?_⟩;intro h;first|exact h|rfl|(cases h))|((with_reducible show(_:Nat)≤_);(try simp only[ByteArray.size_append,ByteArray.size_extract,EK]);have e1:(ByteArray.mk #[45]).size=1:=rfl;have e2:(ByteArray.mk #[46]).size=1:=rfl;have e3:(ByteArray.mk #[]).size=0:=rfl;omega)|(refine abf ?_;rw[aaC (by omega),show((↑(Ij n k).size:Int) - ↑k).toNat=(Ij n k).size-k by omega];unfold ZM;first|(rw[if_pos hn];rfl)|(rw[if_neg hn];rfl))|(refine abf ?_;rw[aaC (by omega),hB,show((↑(Du n).size:Int) - ↑k).toNat=(Du n).size-k by omega];unfold ZM;first|(rw[if_pos hn];rfl)|(rw[if_neg hn];rfl))⟩
instance ai1(x:Nat)(a:Rat):DenI Tryz.prog 200 [Z (p10 x),Z (a.den:Int)] (x≤31∧rz a≤1000) (.tup [Z ((p10 x).fdiv (a.den:Int)),Z ((10 ^ x % a.den:Nat):Int),.int .i64 0]):=⟨λhp=>by
 have h:=(inferInstance:DenI Tryz.prog 200 [Z (p10 x),Z (a.den:Int)] _ _).den (by exact⟨dh (CZ hp.1) (by decide),dh (oM a) (by omega)⟩);rw[if_neg (aJ a),if_neg (aJ a),show(p10 x).fmod (a.den:Int)=((10^x%a.den:Nat):Int) by unfold p10;rw[Int.fmod_eq_emod_of_nonneg _ (by omega)];omega]at h
 exact h⟩
instance aiZ(a:Rat):DenI Tryz.prog 181 [R a] (rz a≤20) (.tup [.str (exS a),.bool (exN a).isSome]):=⟨λhp=>by
 refine bW Tryz.func181 rfl ?_
 all_goals(repeat'((try(conv=>whnf));first
  |refine aj ?_ ?_))
 all_goals(try refine Pr.mk ?_)
 all_goals first
  |((conv=>whnf);refine Sw.Loop.inv (α:=Nat) (λx=>[(1,.ptr 1 0),(5,.ptr 5 0),(6,.int .i64 (x:Nat))]) (λx=>[(1,.var (BH a)),(5,.var [zs (p10 x),zl (p10 x)])]) (λx=>x≤31∧∀j<x,¬10^j%a.den=0) (λx=>31-x) 0 ?_ ?_ ?_ (λx hx=>?_))|skip
 all_goals(repeat'((try(conv=>whnf));first
  |refine aG ?_|refine aj ?_ ?_|(with_reducible refine au (λ_=>?_) (λ_=>?_))|refine Drw.mk (by kernel_rfl) ?_|refine Ends.mk ?_))
 all_goals(try refine Pr.mk ?_)
 all_goals first|(show SubE _ _;repeat'(first|exact trivial|refine And.intro ?_ ?_))|(show SubB _ _;repeat'(first|exact trivial|refine And.intro ?_ ?_))|skip
 all_goals(try rfl)
 all_goals(try simp only[iD]at *)
 all_goals first
  |omega|exact⟨rC _,λj hj=>absurd hj (Sv _)⟩|exact⟨dh (CZ (by omega)) (by decide),dh (kM (n:=10) (by decide) (by decide)) (by decide)⟩|((conv=>whnf);exact⟨x+1,⟨⟨rfl,rfl,bQ (by omega),trivial⟩,⟨rfl,(by show some (Bk.var [zs (p10 x*10),zl (p10 x*10)])=some (Bk.var [zs (p10 (x+1)),zl (p10 (x+1))]);rw[Js]),trivial⟩,⟨by omega,iC hx.2 (by omega)⟩,by show 31-(x+1)<31-x;omega⟩⟩)|exact⟨Ur hp (by omega),by omega⟩|exact aaX (Ur hp (by omega)) (by omega)|(have e:=adf (a:=a) (x:=x) (by omega) hx.2 (by omega);simp only[exS,e];rfl)|(have e:=aee (a:=a) (λj hj=>hx.2 j (by omega));simp only[exS,e];rfl)⟩
instance ail(c:Nat):DenI Tryz.prog 175 [.c (.v (.int .u8 (c:Nat)))] (True) (.bool (ltr c)):=⟨λhp=>by
 refine bW Tryz.func175 rfl ?_
 all_goals(repeat'((try(conv=>whnf));first
  |(with_reducible first|refine aQ ?_|refine aP ?_|refine au (λ_=>?_) (λ_=>?_))|refine Ends.mk ?_))
 all_goals first
  |(refine bE ?_;rw[ZX];simp only[ltr,G7,eF,decide_eq_true_eq,Lc,iff_true,true_iff,iff_false,false_iff];omega)⟩
instance aiM(c:Nat):DenI Tryz.prog 220 [.c (.v (.int .u8 (c:Nat)))] (True) (.bool (dgB c)):=⟨λhp=>by
 refine bW Tryz.func220 rfl ?_
 all_goals(repeat'((try(conv=>whnf));first
  |(with_reducible first|refine aQ ?_|refine aP ?_|refine au (λ_=>?_) (λ_=>?_))|refine Ends.mk ?_))
 all_goals first
  |(refine bE ?_;rw[ZX];simp only[dgB,G7,eF,decide_eq_true_eq,Lc,iff_true,true_iff,iff_false,false_iff];omega)⟩
instance aiy(c:Nat):DenI Tryz.prog 177 [.c (.v (.int .u8 (c:Nat)))] (True) (.bool (nmB c)):=⟨λhp=>by
 refine bW Tryz.func177 rfl ?_
 all_goals(repeat'((try(conv=>whnf));first
  |refine aG ?_|(with_reducible first|refine aQ ?_|refine aP ?_|refine au (λ_=>?_) (λ_=>?_))|refine OnB.mk (λ_=>?_) (λ_=>?_)|refine Ends.mk ?_))
 all_goals first
  |(refine bE ?_;rw[ZX];simp only[nmB,G7,eF,decide_eq_true_eq,Lc,iff_true,true_iff,iff_false,false_iff];omega)|(refine bE ?_;unfold nmB;simp_all;done)|(refine bE ?_;unfold nmB;simp only[*,Xp];rw[ZX];simp only[G7,decide_eq_true_eq];omega)⟩
instance ah2(s:ByteArray):DenI Tryz.prog 176 [.c (.v (.string s)),.int .i64 0,.c (.v (.func (.func 177) #[] #[]))] (s.size≤1000000) (.int .i64 (rnN s:Nat)):=⟨λhp=>by
 refine bW Tryz.func176 rfl ?_
 all_goals first
  |((conv=>whnf);refine Sw.Loop.inv (α:=Nat) (λx=>[(0,.c (.v (.string s))),(1,.int .i64 (x:Nat)),(2,.c (.v (.func (.func 177) #[] #[])))]) (λx=>[]) (λx=>x≤s.size∧∀j<x,nmB ((xR s).getD j 0)=true) (λx=>s.size-x) 0 ?_ ?_ ?_ (λx hx=>?_))
 all_goals(repeat'((try(conv=>whnf));first
  |refine aG ?_|(with_reducible first|refine aQ ?_|refine aP ?_|refine au (λ_=>?_) (λ_=>?_))|refine OnB.mk (λ_=>?_) (λ_=>?_)|(with_reducible refine Ot ?_ ?_)|refine Ends.mk ?_))
 all_goals(try refine Pr.mk ?_)
 all_goals(try simp only[Eo,Xn,gU,Int.toNat_zero]at *)
 all_goals first
  |omega|trivial|exact⟨rC _,λj hj=>absurd hj (Sv _)⟩|((conv=>whnf);exact⟨x+1,⟨⟨rfl,bQ (by omega),rfl,trivial⟩,trivial,⟨by omega,iC hx.2 (by assumption)⟩,(by show s.size-(x+1)<s.size-x;omega)⟩⟩)|(refine iE ?_;rw[acg hx.1 hx.2 (λh=>by first|assumption|omega)];done)⟩
instance aiO(s:ByteArray):DenI Tryz.prog 132 [.c (.v (.string s))] (s.size≤1000000) (.bool (Rz s)):=⟨λhp=>by
 refine bW Tryz.func132 rfl ?_
 all_goals(repeat'((try(conv=>whnf));first
  |refine aG ?_|refine aj ?_ ?_|(with_reducible first|refine aQ ?_|refine aP ?_|refine au (λ_=>?_) (λ_=>?_))|refine OnB.mk (λ_=>?_) (λ_=>?_)|(with_reducible refine Ot ?_ ?_)|refine Ends.mk ?_))
 all_goals(try refine Pr.mk ?_)
 all_goals(try simp only[Eo,Xn,gU,Int.toNat_zero]at *)
 all_goals first
  |omega|(have z:=Ux (by assumption);omega)|(refine bE ?_;have z:=Ux (by assumption);rw[abG z (by omega) (by assumption)];exact decide_eq_decide.2 (by omega))|(refine bE ?_;rw[ab3 (by first|exact .inl (ZA (by assumption))|exact .inr (.inl (by omega))|exact .inr (.inr (by assumption)))];done)⟩
instance aiC(l:LayD):DenI Tryz.prog 100 [.agg (aS l)] (l.name.size≤1000000) (.bool (V7 l)):=⟨λhp=>by
 refine bW Tryz.func100 rfl ?_
 all_goals(repeat'((try(conv=>whnf));first
  |refine aj ?_ ?_|(with_reducible first|refine aQ ?_|refine aP ?_|refine au (λ_=>?_) (λ_=>?_))|refine OnB.mk (λ_=>?_) (λ_=>?_)|refine Ends.mk ?_))
 all_goals(try refine Pr.mk ?_)
 all_goals first
  |omega|(refine bE ?_;unfold V7;rw[ZX];simp_all;done)|(refine bE ?_;unfold V7;rw[ZX];simp_all;omega)⟩
instance ahX(l:LayD)(s:ByteArray):DenI Tryz.prog 134 [.agg (aS l),.c (.p [.v (.string s)])] (True) (.bool (eqS l.name s)):=⟨λhp=>by
 refine bW Tryz.func134 rfl ?_
 all_goals(repeat'((try(conv=>whnf));first
  |refine Ends.mk ?_))
 all_goals first
  |rfl⟩
instance ajc(ls:List LayD)(s:ByteArray):DenI Tryz.prog 133 [.c (.sl 3 (ls.map aS)),.c (.fn 134 [.p [.v (.string s)]])] (ls.length≤1000) (.int .i64 (vM ls s)):=⟨λhp=>by
 refine bW Tryz.func133 rfl ?_
 all_goals first
  |((conv=>whnf);refine Sw.Loop.inv (α:=Nat) (λk=>[(0,.c (.sl 3 (ls.map aS))),(1,.c (.fn 134 [.p [.v (.string s)]])),(6,.c (.sl 3 (ls.map aS))),(7,.int .i64 (ls.length:Nat)),(8,.int .i64 (k:Nat))]) (λk=>[]) (λk=>k≤ls.length∧∀j<k,eqS (ls.getD j L0).name s=false) (λk=>ls.length-k) 0 ?_ ?_ ?_ (λk hk=>?_))
 all_goals(repeat'((try(conv=>whnf));first
  |refine aG ?_|(with_reducible refine au (λ_=>?_) (λ_=>?_))|refine OnB.mk (λ_=>?_) (λ_=>?_)|refine aU L0 ?_ ?_|refine Ends.mk ?_))
 all_goals(try refine Pr.mk ?_)
 all_goals(try simp only[aZ,gU]at *)
 all_goals first
  |omega|trivial|exact⟨rC _,λj hj=>absurd hj (Sv _)⟩|((conv=>whnf);exact⟨k+1,⟨⟨rfl,rfl,rfl,rfl,bQ (by omega),trivial⟩,trivial,⟨by omega,iC hk.2 (by assumption)⟩,(by show ls.length-(k+1)<ls.length-k;omega)⟩⟩)|((with_reducible show aA _=_);rw[Hz (x:=k) (by omega) hk.2 (by assumption)];rfl)|((with_reducible show aA _=_);have hxx:k=ls.length:=(by omega);subst hxx;rw[abg hk.2];rfl)⟩
instance aic(ls:List LayD)(s:ByteArray):DenI Tryz.prog 101 [.c (.sl 3 (ls.map aS)),.c (.v (.string s))] (ls.length≤1000) (.int .i64 (vM ls s)):=⟨λhp=>by
 refine bW Tryz.func101 rfl ?_
 all_goals(repeat'((try(conv=>whnf));first
  |refine aj ?_ ?_|refine Ends.mk ?_))
 all_goals(try refine Pr.mk ?_)
 all_goals first
  |omega|rfl⟩
instance ai7(a:Rat):DenI Tryz.prog 182 [R a] (rz a≤1000) (R (a*Kr)):=⟨λhp=>by
 have i_a:RzB a 1000:=⟨hp⟩
 all_goals refine bW Tryz.func182 rfl ?_
 all_goals(repeat'((try(conv=>whnf));first
  |refine aj ?_ ?_|refine Drw.mk (by kernel_rfl) ?_|refine Ends.mk ?_))
 all_goals(try refine Pr.mk ?_)
 all_goals first
  |(have z1:=OZ;exact⟨by omega,dh z1 (by decide)⟩)|omega|rfl⟩
instance abR(a:Rat):DenI Tryz.prog 135 [R a] (rz a≤12) (.bool (Nb a)):=⟨λhp=>by
 have z1:=abK;have z2:=afM hp;have hv:=Ip a
 all_goals refine bW Tryz.func135 rfl ?_
 all_goals(repeat'((try(conv=>whnf));first
  |refine aj ?_ ?_|(with_reducible first|refine aQ ?_|refine aP ?_|refine au (λ_=>?_) (λ_=>?_))|refine OnB.mk (λ_=>?_) (λ_=>?_)|refine Drw.mk (by kernel_rfl) ?_|refine Ends.mk ?_))
 all_goals(try refine Pr.mk ?_)
 all_goals(try simp only[iD]at *)
 all_goals first
  |(exfalso;rename (!jv _ _ _ _)=true=>h;rw[Ip]at h;cases h)|omega|(refine⟨?_, ?_⟩<;>first|(rw[qL];omega)|omega)|(have e1:(lim a.num.natAbs).length≤rz a:=nC a;have e2:(lim (a.den:Int).natAbs).length≤rz a:=oM a;omega)|(refine bE ?_;unfold Nb;simp only[*,not_true,not_false_iff,decide_true,decide_false,XG,Bool.false_and,Bool.and_false];done)⟩
instance(priority:=50) abU(r:Rq):DenI Tryz.prog 135 [.agg (YI r)] (Iu r∧vR r=false) (.bool false):=⟨λhp=>by
 obtain⟨hp1,hp2⟩:=hp;unfold vR at hp2;obtain⟨hp3,hp4⟩:=hp1
 all_goals refine bW Tryz.func135 rfl ?_
 all_goals(repeat'((try(conv=>whnf));first
  |refine aG ?_|refine aj ?_ ?_|refine kH ?_ (λ_=>?_) (λ_=>?_)|(with_reducible first|refine aQ ?_|refine aP ?_|refine au (λ_=>?_) (λ_=>?_)|refine cZ (λ_=>?_) (λ_=>?_))|refine OnB.mk (λ_=>?_) (λ_=>?_)|refine bI ?_ ?_|refine Drw.mk (by kernel_rfl) ?_|refine gu ?_ ?_|refine iG ?_ ?_|(with_reducible first|refine bZ ?_ ?_|refine dn ?_|refine dM ?_)|refine Ends.mk ?_))
 all_goals(try refine Pr.mk ?_)
 all_goals first
  |omega|rfl|(exfalso;rename (!jv _ _ _ _)=false=>h;rw[hp2]at h;cases h)|exact⟨by omega,by omega⟩|skip⟩
instance(priority:=2000) x_len(r:Rq):DenI Tryz.prog 135 [.agg (YI r)] (Iu r) (.bool (jX r)):=⟨λhp=>by
 cases v:vR r with
 |false =>
  have h:=(abU r).den ⟨hp,v⟩;have e:jX r=false:=by unfold jX;rw[v];rfl
  rw[e];exact h
 |true =>
  have e:=Bc v;have e2:jX r=Nb (qR r):=by unfold jX;rw[v];rfl
  have hz:rz (qR r)≤12:=Hl (e▸hp);have h:=(abR (qR r)).den hz;rw[e2];generalize qR r=q at e h;subst e
  exact h⟩
instance(priority:=2000) aiz(r:Rq):DenI Tryz.prog 49 [.agg (YI r)] (vR r=true) (.int .i64 (bG (qR r))):=⟨λv=>by
 have e:=Bc v;have h:=(inferInstance:DenI Tryz.prog 49 [R (qR r)] _ (.int .i64 (bG (qR r)))).den trivial;generalize qR r=q at e h ⊢;subst e
 exact h⟩
instance(priority:=50) aa4(ly:ByteArray)(pts:List (Rq × Rq))(rd:Rq):DenI Tryz.prog 102 [.agg [.v (.int .i64 1),.v (.string ly),.sl 8 (pts.map xE),.v (.bool rd.a),aV rd.l,.v (.bool rd.b),aV rd.m]] (uO ⟨1,ly,pts,rd⟩) (.bool (o9 ⟨1,ly,pts,rd⟩)):=⟨λhp=>by
 have hpl:pts.length≤5:=hp.2.2.1;have hpr:Iu rd:=hp.2.1
 all_goals refine bW Tryz.func102 rfl ?_
 all_goals(repeat'((try(conv=>whnf));first
  |refine aG ?_|refine aj ?_ ?_|refine kH ?_ (λ_=>?_) (λ_=>?_)|(with_reducible first|refine aQ ?_|refine aP ?_|refine au (λ_=>?_) (λ_=>?_)|refine cZ (λ_=>?_) (λ_=>?_))|refine OnB.mk (λ_=>?_) (λ_=>?_)|refine bI ?_ ?_|refine Drw.mk (by kernel_rfl) ?_|refine gu ?_ ?_|refine iG ?_ ?_|(with_reducible first|refine bZ ?_ ?_|refine dn ?_|refine dM ?_)|refine aU xO ?_ ?_|refine Ends.mk ?_))
 all_goals(try refine Pr.mk ?_)
 all_goals first
  |((conv=>whnf);refine Sw.Loop.inv (α:=Nat) (λx=>[(1,.ptr 1 0),(25,.c (.sl 8 (pts.map xE))),(26,.int .i64 (pts.length:Nat)),(27,.int .i64 (x:Nat))]) (λx=>[(1,.var [.v (.int .i64 1),.v (.string ly),.sl 8 (pts.map xE),.v (.bool rd.a),aV rd.l,.v (.bool rd.b),aV rd.m])]) (λx=>x≤pts.length∧∀j<x,(jX (pts.getD j xO).1&&jX (pts.getD j xO).2)=true) (λx=>pts.length-x) 0 ?_ ?_ ?_ (λx hx=>?_))|skip
 all_goals(repeat'((try(conv=>whnf));first
  |refine aG ?_|refine aj ?_ ?_|refine kH ?_ (λ_=>?_) (λ_=>?_)|(with_reducible first|refine aQ ?_|refine aP ?_|refine au (λ_=>?_) (λ_=>?_)|refine cZ (λ_=>?_) (λ_=>?_))|refine OnB.mk (λ_=>?_) (λ_=>?_)|refine bI ?_ ?_|refine Drw.mk (by kernel_rfl) ?_|refine gu ?_ ?_|refine iG ?_ ?_|(with_reducible first|refine bZ ?_ ?_|refine dn ?_|refine dM ?_)|refine aU xO ?_ ?_|refine Ends.mk ?_))
 all_goals(try refine Pr.mk ?_)
 all_goals(try simp only[aZ,gU]at *)
 all_goals(try simp only[iD]at *)
 all_goals first
  |(exfalso;omega)|omega|trivial|exact⟨rC _,λj hj=>absurd hj (Sv _)⟩|exact(yX hp (by show _<pts.length;omega)).1|exact(yX hp (by show _<pts.length;omega)).2|exact hpr|exact Ny (by assumption)|exact⟨rfl,rfl,by simp only[aZ];rfl,rfl,trivial⟩|((with_reducible show aA _=_);refine bE ?_;rw[Az (by simp only[];omega)];done)|((with_reducible show aA _=_);refine bE ?_;rw[F7 (x:=x) (by show x<pts.length;omega) (by simp_all;done)];done)|((with_reducible show aA _=_);refine bE ?_;have hxx:x=pts.length:=(by omega);subst hxx;rw[Dl (e:=⟨1,ly,pts,rd⟩) (.inl ⟨rfl,by show pts.length=2;omega⟩) hx.2];simp_all;done)|((conv=>whnf);exact⟨x+1,⟨⟨rfl,rfl,rfl,bQ (by omega),trivial⟩,⟨rfl,trivial⟩,⟨by omega,iC hx.2 (by simp_all;done)⟩,(by show pts.length-(x+1)<pts.length-x;omega)⟩⟩)|skip⟩
instance(priority:=50) abx(ly:ByteArray)(pts:List (Rq × Rq))(rd:Rq):DenI Tryz.prog 102 [.agg [.v (.int .i64 2),.v (.string ly),.sl 8 (pts.map xE),.v (.bool rd.a),aV rd.l,.v (.bool rd.b),aV rd.m]] (uO ⟨2,ly,pts,rd⟩) (.bool (o9 ⟨2,ly,pts,rd⟩)):=⟨λhp=>by
 have hpl:pts.length≤5:=hp.2.2.1;have hpr:Iu rd:=hp.2.1
 all_goals refine bW Tryz.func102 rfl ?_
 all_goals(repeat'((try(conv=>whnf));first
  |refine aG ?_|refine aj ?_ ?_|refine kH ?_ (λ_=>?_) (λ_=>?_)|(with_reducible first|refine aQ ?_|refine aP ?_|refine au (λ_=>?_) (λ_=>?_)|refine cZ (λ_=>?_) (λ_=>?_))|refine OnB.mk (λ_=>?_) (λ_=>?_)|refine bI ?_ ?_|refine Drw.mk (by kernel_rfl) ?_|refine gu ?_ ?_|refine iG ?_ ?_|(with_reducible first|refine bZ ?_ ?_|refine dn ?_|refine dM ?_)|refine aU xO ?_ ?_|refine Ends.mk ?_))
 all_goals(try refine Pr.mk ?_)
 all_goals first
  |((conv=>whnf);refine Sw.Loop.inv (α:=Nat) (λx=>[(1,.ptr 1 0),(25,.c (.sl 8 (pts.map xE))),(26,.int .i64 (pts.length:Nat)),(27,.int .i64 (x:Nat))]) (λx=>[(1,.var [.v (.int .i64 2),.v (.string ly),.sl 8 (pts.map xE),.v (.bool rd.a),aV rd.l,.v (.bool rd.b),aV rd.m])]) (λx=>x≤pts.length∧∀j<x,(jX (pts.getD j xO).1&&jX (pts.getD j xO).2)=true) (λx=>pts.length-x) 0 ?_ ?_ ?_ (λx hx=>?_))|skip
 all_goals(repeat'((try(conv=>whnf));first
  |refine aG ?_|refine aj ?_ ?_|refine kH ?_ (λ_=>?_) (λ_=>?_)|(with_reducible first|refine aQ ?_|refine aP ?_|refine au (λ_=>?_) (λ_=>?_)|refine cZ (λ_=>?_) (λ_=>?_))|refine OnB.mk (λ_=>?_) (λ_=>?_)|refine bI ?_ ?_|refine Drw.mk (by kernel_rfl) ?_|refine gu ?_ ?_|refine iG ?_ ?_|(with_reducible first|refine bZ ?_ ?_|refine dn ?_|refine dM ?_)|refine aU xO ?_ ?_|refine Ends.mk ?_))
 all_goals(try refine Pr.mk ?_)
 all_goals(try simp only[aZ,gU]at *)
 all_goals(try simp only[iD]at *)
 all_goals first
  |(exfalso;omega)|omega|trivial|exact⟨rC _,λj hj=>absurd hj (Sv _)⟩|exact(yX hp (by show _<pts.length;omega)).1|exact(yX hp (by show _<pts.length;omega)).2|exact hpr|exact Ny (by assumption)|exact⟨rfl,rfl,by simp only[aZ];rfl,rfl,trivial⟩|((with_reducible show aA _=_);refine bE ?_;rw[Az (by simp only[];omega)];done)|((with_reducible show aA _=_);refine bE ?_;rw[F7 (x:=x) (by show x<pts.length;omega) (by simp_all;done)];done)|((with_reducible show aA _=_);refine bE ?_;have hxx:x=pts.length:=(by omega);subst hxx;rw[Dl (e:=⟨2,ly,pts,rd⟩) (.inr (.inl ⟨rfl,by show pts.length=3;omega⟩)) hx.2];simp_all;done)|((conv=>whnf);exact⟨x+1,⟨⟨rfl,rfl,rfl,bQ (by omega),trivial⟩,⟨rfl,trivial⟩,⟨by omega,iC hx.2 (by simp_all;done)⟩,(by show pts.length-(x+1)<pts.length-x;omega)⟩⟩)|skip⟩
instance(priority:=50) abr(ly:ByteArray)(pts:List (Rq × Rq))(rd:Rq):DenI Tryz.prog 102 [.agg [.v (.int .i64 3),.v (.string ly),.sl 8 (pts.map xE),.v (.bool rd.a),aV rd.l,.v (.bool rd.b),aV rd.m]] (uO ⟨3,ly,pts,rd⟩) (.bool (o9 ⟨3,ly,pts,rd⟩)):=⟨λhp=>by
 have hpl:pts.length≤5:=hp.2.2.1;have hpr:Iu rd:=hp.2.1
 all_goals refine bW Tryz.func102 rfl ?_
 all_goals(repeat'((try(conv=>whnf));first
  |refine aG ?_|refine aj ?_ ?_|refine kH ?_ (λ_=>?_) (λ_=>?_)|(with_reducible first|refine aQ ?_|refine aP ?_|refine au (λ_=>?_) (λ_=>?_)|refine cZ (λ_=>?_) (λ_=>?_))|refine OnB.mk (λ_=>?_) (λ_=>?_)|refine bI ?_ ?_|refine Drw.mk (by kernel_rfl) ?_|refine gu ?_ ?_|refine iG ?_ ?_|(with_reducible first|refine bZ ?_ ?_|refine dn ?_|refine dM ?_)|refine aU xO ?_ ?_|refine Ends.mk ?_))
 all_goals(try refine Pr.mk ?_)
 all_goals first
  |((conv=>whnf);refine Sw.Loop.inv (α:=Nat) (λx=>[(1,.ptr 1 0),(25,.c (.sl 8 (pts.map xE))),(26,.int .i64 (pts.length:Nat)),(27,.int .i64 (x:Nat))]) (λx=>[(1,.var [.v (.int .i64 3),.v (.string ly),.sl 8 (pts.map xE),.v (.bool rd.a),aV rd.l,.v (.bool rd.b),aV rd.m])]) (λx=>x≤pts.length∧∀j<x,(jX (pts.getD j xO).1&&jX (pts.getD j xO).2)=true) (λx=>pts.length-x) 0 ?_ ?_ ?_ (λx hx=>?_))|skip
 all_goals(repeat'((try(conv=>whnf));first
  |refine aG ?_|refine aj ?_ ?_|refine kH ?_ (λ_=>?_) (λ_=>?_)|(with_reducible first|refine aQ ?_|refine aP ?_|refine au (λ_=>?_) (λ_=>?_)|refine cZ (λ_=>?_) (λ_=>?_))|refine OnB.mk (λ_=>?_) (λ_=>?_)|refine bI ?_ ?_|refine Drw.mk (by kernel_rfl) ?_|refine gu ?_ ?_|refine iG ?_ ?_|(with_reducible first|refine bZ ?_ ?_|refine dn ?_|refine dM ?_)|refine aU xO ?_ ?_|refine Ends.mk ?_))
 all_goals(try refine Pr.mk ?_)
 all_goals(try simp only[aZ,gU]at *)
 all_goals(try simp only[iD]at *)
 all_goals first
  |(exfalso;omega)|omega|trivial|exact⟨rC _,λj hj=>absurd hj (Sv _)⟩|exact(yX hp (by show _<pts.length;omega)).1|exact(yX hp (by show _<pts.length;omega)).2|exact hpr|exact Ny (by assumption)|exact⟨rfl,rfl,by simp only[aZ];rfl,rfl,trivial⟩|((with_reducible show aA _=_);refine bE ?_;rw[Az (by simp only[];omega)];done)|((with_reducible show aA _=_);refine bE ?_;rw[F7 (x:=x) (by show x<pts.length;omega) (by simp_all;done)];done)|((with_reducible show aA _=_);refine bE ?_;have hxx:x=pts.length:=(by omega);subst hxx;rw[Dl (e:=⟨3,ly,pts,rd⟩) (.inr (.inr ⟨rfl,by show pts.length=1;omega⟩)) hx.2];simp_all;done)|((conv=>whnf);exact⟨x+1,⟨⟨rfl,rfl,rfl,bQ (by omega),trivial⟩,⟨rfl,trivial⟩,⟨by omega,iC hx.2 (by simp_all;done)⟩,(by show pts.length-(x+1)<pts.length-x;omega)⟩⟩)|skip⟩
instance(priority:=50) aaP(kd:Int)(ly:ByteArray)(pts:List (Rq × Rq))(rd:Rq):DenI Tryz.prog 102 [.agg [.v (.int .i64 kd),.v (.string ly),.sl 8 (pts.map xE),.v (.bool rd.a),aV rd.l,.v (.bool rd.b),aV rd.m]] (kd<1∨3<kd) (.bool (o9 ⟨kd,ly,pts,rd⟩)):=⟨λhp=>by
 refine bW Tryz.func102 rfl ?_
 all_goals(repeat'((try(conv=>whnf));first
  |refine aG ?_|refine aj ?_ ?_|refine kH ?_ (λ_=>?_) (λ_=>?_)|(with_reducible first|refine aQ ?_|refine aP ?_|refine au (λ_=>?_) (λ_=>?_)|refine cZ (λ_=>?_) (λ_=>?_))|refine OnB.mk (λ_=>?_) (λ_=>?_)|refine bI ?_ ?_|refine Drw.mk (by kernel_rfl) ?_|refine gu ?_ ?_|refine iG ?_ ?_|(with_reducible first|refine bZ ?_ ?_|refine dn ?_|refine dM ?_)|refine Ends.mk ?_))
 all_goals(try refine Pr.mk ?_)
 all_goals first
  |(exfalso;omega)|((with_reducible show aA _=_);refine bE ?_;rw[Az (by simp only[];omega)];done)|skip⟩
instance(priority:=2000) aiw(e:EntR):DenI Tryz.prog 102 [.agg (dV e)] (uO e) (.bool (o9 e)):=⟨λhp=>by
 obtain⟨kd,ly,pts,rd⟩:=e;have hk:(kd<1∨3<kd)∨kd=1∨kd=2∨kd=3:=by omega
 rcases hk with hk|rfl|rfl|rfl
 ·exact(aaP kd ly pts rd).den hk
 ·exact(aa4 ly pts rd).den hp
 ·exact(abx ly pts rd).den hp
 ·exact(abr ly pts rd).den hp⟩
instance ajb(ls:List LayD)(es:List EntR)(e:EntR):DenI Tryz.prog 64 [.agg [(.sl 3 (ls.map aS)),.sl 7 (es.map dV)],.agg (dV e)] (ls.length≤1000∧uO e) (.int .i64 (knE ls e)):=⟨λhp=>by
 obtain⟨hp1,hp2⟩:=hp
 all_goals refine bW Tryz.func64 rfl ?_
 all_goals(repeat'((try(conv=>whnf));first
  |refine aj ?_ ?_|(with_reducible refine au (λ_=>?_) (λ_=>?_))|refine OnB.mk (λ_=>?_) (λ_=>?_)|refine Ends.mk ?_))
 all_goals(try refine Pr.mk ?_)
 all_goals first
  |assumption|(refine iE ?_;unfold knE;rw[if_pos (by assumption)];done)|(refine iE ?_;unfold knE;rw[if_neg (by assumption),if_pos (by simp_all;done)];done)|(refine iE ?_;unfold knE;rw[if_neg (by assumption),if_neg (by simp_all;done)];done)⟩
instance agr(ls:List LayD):DenI Tryz.prog 63 [.c (.sl 3 (ls.map aS))] (0<ls.length∧ls.length≤1000∧(∀l∈ls,l.name.size≤1000)) (.int .i64 (uT ls)):=⟨λhp=>by
 obtain⟨hp1,hp2,hp3⟩:=hp;have hw:(IntKind.i64.wrap ((ls.length:Int)-1))=((ls.length-1:Nat):Int):=by rw[bP (by omega) (by omega)];omega
 all_goals refine bW Tryz.func63 rfl ?_
 all_goals(repeat'((try(conv=>whnf));first
  |refine aj ?_ ?_|(with_reducible refine au (λ_=>?_) (λ_=>?_))|refine OnB.mk (λ_=>?_) (λ_=>?_)|refine aU L0 ?_ ?_|refine Ends.mk ?_))
 all_goals(try refine Pr.mk ?_)
 all_goals(try simp only[aZ,gU]at *)
 all_goals(try simp only[hw,gU]at *)
 all_goals first
  |omega|(have z:=aeD hp3 (ls.length-1);omega)|(refine iE ?_;unfold uT;rw[if_pos (by simp_all;done)];done)|(refine iE ?_;unfold uT;rw[if_neg (by simp_all;done),if_pos (by assumption)];done)|(refine iE ?_;unfold uT;rw[if_neg (by simp_all;done),if_neg (by assumption)];done)⟩
instance(priority:=2000) aiu(ls:List LayD)(a b:Nat):DenI Tryz.prog 63 [.c (.sl 3 (((ls.map aS).take b).drop a))] (a=0∧0<b∧b≤ls.length∧ls.length≤1000∧(∀l∈ls,l.name.size≤1000)) (.int .i64 (uT (ls.take b))):=⟨λ⟨h1,h2,h3,h4,h5⟩=>by
 have h:=(agr (ls.take b)).den ⟨by rw[uM];omega,by rw[uM];omega,λl hl=>h5 l (List.mem_of_mem_take hl)⟩;rw[List.map_take]at h;subst h1
 exact h⟩
instance adW(ls:List LayD)(es:List EntR):DenI Tryz.prog 20 [.agg [(.sl 3 (ls.map aS)),.sl 7 (es.map dV)]] (ls.length≤1000∧es.length≤1000∧(∀l∈ls,l.name.size≤1000)∧∀e∈es,uO e) (.int .i64 (jD ls es)):=⟨λhp=>by
 obtain⟨hp1,hp2,hp3,hp4⟩:=hp
 all_goals refine bW Tryz.func20 rfl ?_
 all_goals(repeat'((try(conv=>whnf));first
  |(with_reducible first|refine aQ ?_|refine aP ?_|refine au (λ_=>?_) (λ_=>?_))|refine Ends.mk ?_))
 all_goals(try simp only[aZ,gU]at *)
 all_goals first
  |((conv=>whnf);refine Sw.Loop.inv (α:=Nat) (λx=>[(1,.ptr 1 0),(20,.int .i64 (ls.length:Nat)),(21,.int .i64 (x:Nat))]) (λx=>[(1,.var [(.sl 3 (ls.map aS)),.sl 7 (es.map dV)])]) (λx=>x≤ls.length∧∀j<x,yM ls j=none) (λx=>ls.length-x) 0 ?_ ?_ ?_ (λx hx=>?_))|skip
 all_goals(repeat'((try(conv=>whnf));first
  |refine aj ?_ ?_|(with_reducible first|refine au (λ_=>?_) (λ_=>?_)|refine cZ (λ_=>?_) (λ_=>?_))|refine iG ?_ ?_|refine Ends.mk ?_))
 all_goals(try refine Pr.mk ?_)
 all_goals(try simp only[aZ,gU]at *)
 all_goals first
  |((conv=>whnf);refine Sw.Loop.inv (α:=Nat) (λy=>[(1,.ptr 1 0),(35,.c (.sl 7 (es.map dV))),(36,.int .i64 (es.length:Nat)),(37,.int .i64 (y:Nat))]) (λy=>[(1,.var [(.sl 3 (ls.map aS)),.sl 7 (es.map dV)])]) (λy=>y≤es.length∧∀j<y,wI ls es j=none) (λy=>es.length-y) 0 ?_ ?_ ?_ (λy hy=>?_))|skip
 all_goals(repeat'((try(conv=>whnf));first
  |refine aj ?_ ?_|(with_reducible first|refine au (λ_=>?_) (λ_=>?_)|refine cZ (λ_=>?_) (λ_=>?_))|refine aU vY ?_ ?_|refine Ends.mk ?_))
 all_goals(try refine Pr.mk ?_)
 all_goals(try simp only[aZ,gU]at *)
 all_goals(try simp only[Eo,Xn,gU,Int.toNat_zero]at *)
 all_goals(try simp(disch:=omega) only[bP]at *)
 all_goals(try(have ht:((x:Int)+1).toNat=x+1:=(by omega);simp only[ht]at *;clear ht))
 all_goals first
  |omega|trivial|exact⟨rC _,λj hj=>absurd hj (Sv _)⟩|(refine⟨by omega,by omega,by omega,by omega, ?_⟩;intro h;first|exact h|rfl|(cases h))|exact⟨trivial,by omega,by omega,by omega,hp3⟩|exact⟨by omega,adH hp4 (by omega)⟩|(refine iE ?_;rw[Y1 (by omega)];done)|(refine iE ?_;rw[XW (by omega) (by omega) hx.2 ((V6 (by omega)).2 (by assumption))];done)|(refine iE ?_;have hxx:x=ls.length:=(by omega);subst hxx;rw[aak (by omega) hx.2 (by omega) hy.2 (XB.2 (by assumption))];done)|(refine iE ?_;have hxx:x=ls.length:=(by omega);subst hxx;have hyy:y=es.length:=(by omega);subst hyy;rw[U2 (by omega) hx.2 hy.2];done)|((conv=>whnf);exact⟨y+1,⟨⟨rfl,rfl,rfl,bQ (by omega),trivial⟩,⟨rfl,trivial⟩,⟨by omega,iC hy.2 (XB.1 (by assumption))⟩,(by show es.length-(y+1)<es.length-y;omega)⟩⟩)|((conv=>whnf);exact⟨x+1,⟨⟨rfl,rfl,bQ (by omega),trivial⟩,⟨rfl,trivial⟩,⟨by omega,iC hx.2 ((V6 (by omega)).1 (by assumption))⟩,(by show ls.length-(x+1)<ls.length-x;omega)⟩⟩)⟩
def NW:Tab:=(25,.row 2 [(0,1,false),(1,1,false)] [.v (.slice none 0 0),.v (.slice none 0 0)]) ::(2000000000,.flag)::VJ
theorem tN:dN Tryz.prog NW=true:=by kernel_rfl
def acz:Go.Shelf.Ren:=⟨λn=>if n=41 then 53 else n,λn=>if n=22 then 22 else if n=23 then 89 else n,id⟩
theorem acV:Go.Proofs.SlLaysE0.n41 Tryz.prog acz where
 mixed:=cO
 f41:=⟨ "slices.Clone[[]swarf/api.LayerDef,swarf/api.LayerDef]",by decide,zF Tryz.func53 (congrArg some (Eq.refl _))⟩
 t4:=Tryz.underlying4
 a4:=Tryz.isAgg4
 z4:=Tryz.sizeOf4
 v4:=Tryz.zeroValue4
 t22:=Tryz.underlying22
 a22:=Tryz.isAgg22
 z22:=Tryz.sizeOf22
 v22:=Tryz.zeroValue22
theorem X8:∃i0,Tryz.prog.info? 89=some i0∧i0.zero=some (.agg #[.string ByteArray.empty,.int .i64 0,.int .i64 0])∧i0.size=3∧i0.bytes=32:=info_parts (by kernel_rfl)
instance ain(es:List (List Cell)):DenI Tryz.prog 53 [.c (.sl 3 es)] (es.length≤1000000) (.c (.sl 3 es)):=⟨λhp=>by
 obtain⟨i0,h1,h2,h3,h4⟩:=X8
 exact Qy acV (by kernel_rfl) i0 _ h1 h2 h3 (by omega) rfl (by decide) Tryz.sizeOf89 hp⟩
theorem Aq(es:List Ent):(es.map fK).map dV=es.map aK:=by
 rw[List.map_map];exact List.map_congr_left λe _=>ab4 e
instance(priority:=2000) abd(ls:List LayD)(es:List Ent):DenI Tryz.prog 20 [.agg [(.sl 3 (ls.map aS)),.sl 7 (es.map aK)]] (ls.length≤1000∧es.length≤1000∧(∀l∈ls,l.name.size≤1000)∧∀e∈es,uO (fK e)) (.int .i64 (jD ls (es.map fK))):=⟨λ⟨h1,h2,h3,h4⟩=>by
 have h:=(adW ls (es.map fK)).den ⟨h1,by rw[aZ];exact h2,h3,λe he=>by obtain⟨x,hx,rfl⟩:=fV.1 he;exact h4 x hx⟩;rw[Aq]at h
 exact h⟩
set_option maxHeartbeats 16000000 in
theorem ZO(ls:List LayD)(es:List Ent)(tol:Rat)(h1:ls.length≤1000)(h2:(∀l∈ls,l.name.size≤1000))(h3:es.length≤12)(h4:∀e∈es,okV e)(h5:∀e∈es,uO (fK e))(h6n:rz tol≤12)(h7:¬tol<0)(h8:jD ls (es.map fK)=0):
 Den Tryz.prog 13 [.agg [(.sl 3 (ls.map aS)),.sl 7 (es.map aK)],R tol] (.tup [.agg [(.sl 3 (ls.map aS)),.sl 7 ((aH (tol*tol) es).es.map aK)],.c (.sl 19 ((aH (tol*tol) es).cs.map iF)),.int .i64 0]):=by
 haveI i_v:DenI Tryz.prog 20 [.agg [(.sl 3 (ls.map aS)),.sl 7 (es.map aK)]] (ls.length≤1000∧es.length≤1000∧(∀l∈ls,l.name.size≤1000)∧∀e∈es,uO (fK e)) (.int .i64 0):=⟨λhp=>by have:=(abd ls es).den hp;rwa [h8]at this⟩
 have hz1:(dA (tol*tol) 0 [] es).es.zipIdx.length≤12:=by have:=NP tol es;unfold jZ at this;omega
 have hz2:∀x∈(dA (tol*tol) 0 [] es).es.zipIdx,okV x.1:=aat (tol:=tol) h4;have hk1:=dh (LQ tol es) h3;have hk2:=aaN (tol:=tol) h4;have hl1:=dh (NU tol es) h3;have hl2:=afH (tol:=tol) h4;have hr:=Ou (tol:=tol) h4;have hr1:(dA (tol*tol) 0 [] es).cs.length≤24:=by have:=(hr 0).1;omega
 have hr2:(lS (dA (tol*tol) 0 [] es).es.zipIdx).length≤12:=by have:=(hr 0).2.1;unfold jZ at this;omega
 have hr3:=AA (jL tol es) (jL tol es).length (jE _);rw[Oi]at hr3;refine Den.of ⟨by kernel_rfl,λw X vs ho hX hl hR=>?_⟩ rfl
 haveI:WOk Tryz.prog w:=.of ho
 refine enter Tryz.func13 rfl rfl (by rw[hl];rfl) λa hF=>?_
 have hc:=mQ (N:=90) hX hl hR hF;refine uY (τ:=NW) tN cO 9 _ (QA:=λz e b=>z=.normal∧SubE [(4,.ptr 4 0),(9,.gs 2000030 ((Il tol es (jK tol es).length).map iF).length),(11,.gs 100 ((jL tol es).map kN).length),(14,.ptr 14 0)] e∧SubB [(4,.var [.v (.slice none 0 0),.v (.slice none 0 0)]),(14,.var [(.sl 3 (ls.map aS)),.v (.slice none 0 0)]),(2000030,.grow 47 19 ((Il tol es (jK tol es).length).map iF)),(100,.grow 86 8 ((jL tol es).map kN))] b) (by kernel_rfl) ?_ hc (λe b a w hq hc2=>?_) (λx e b a w hx hq hc=>absurd hq.1 hx)
 case refine_1 =>
  clear hc hF hR hl hX
  all_goals(repeat'((try(conv=>whnf));first
   |refine aG ?_|refine aj ?_ ?_|refine kH ?_ (λ_=>?_) (λ_=>?_)|(with_reducible first|refine aQ ?_|refine aP ?_|refine au (λ_=>?_) (λ_=>?_)|refine cZ (λ_=>?_) (λ_=>?_))|refine OnB.mk (λ_=>?_) (λ_=>?_)|refine bI ?_ ?_|refine Drw.mk (by kernel_rfl) ?_|refine gu ?_ ?_|refine iG ?_ ?_|(with_reducible first|refine bZ ?_ ?_|refine dn ?_|refine dM ?_)|refine aU N0 ?_ ?_|refine aU false ?_ ?_|refine Ends.mk ?_))
  all_goals(try refine Pr.mk ?_)
  all_goals(try simp only[aZ,gU]at *)
  all_goals first
   |(with_reducible show zh _ _ _ _ _ _;(conv=>whnf);refine Sw.Loop.ghost 11 100 86 8 ?_ rfl rfl rfl (by decide);refine Sw.Loop.inv (α:=Nat) (λx=>[(2,.ptr 2 0),(4,.ptr 4 0),(8,.c (.sl 8 ((jK tol es).map kN))),(42,.c (.sl 1 ((dY ((jK tol es).map (·.1))).map bC))),(43,.int .i64 ((jK tol es).length:Nat)),(44,.int .i64 (x:Nat)),(9,.gs 2000030 ((Il tol es x).map iF).length),(11,.gs 100 ((La (jK tol es) x).map kN).length)]) (λx=>[(2,.var [(.sl 3 (ls.map aS)),.sl 7 (es.map aK)]),(4,.var [.v (.slice none 0 0),.v (.slice none 0 0)]),(2000030,.grow 47 19 ((Il tol es x).map iF)),(100,.grow 86 8 ((La (jK tol es) x).map kN))]) (λx=>x≤(jK tol es).length) (λx=>(jK tol es).length-x) 0 ?_ ?_ ?_ (λx hx=>?_))|((conv=>whnf);refine Sw.Loop.ghost 11 100 86 8 ?_ rfl rfl rfl (by decide);refine Sw.Loop.inv (α:=Nat) (λx=>[(2,.ptr 2 0),(4,.ptr 4 0),(8,.c (.sl 8 ((jK tol es).map kN))),(42,.c (.sl 1 ((dY ((jK tol es).map (·.1))).map bC))),(43,.int .i64 ((jK tol es).length:Nat)),(44,.int .i64 (x:Nat)),(9,.gs 2000030 ((Il tol es x).map iF).length),(11,.gs 100 ((La (jK tol es) x).map kN).length)]) (λx=>[(2,.var [(.sl 3 (ls.map aS)),.sl 7 (es.map aK)]),(4,.var [.v (.slice none 0 0),.v (.slice none 0 0)]),(2000030,.grow 47 19 ((Il tol es x).map iF)),(100,.grow 86 8 ((La (jK tol es) x).map kN))]) (λx=>x≤(jK tol es).length) (λx=>(jK tol es).length-x) 0 ?_ ?_ ?_ (λx hx=>?_))|skip
  all_goals(repeat'((try(conv=>whnf));first
   |refine aG ?_|refine aj ?_ ?_|refine kH ?_ (λ_=>?_) (λ_=>?_)|(with_reducible first|refine aQ ?_|refine aP ?_|refine au (λ_=>?_) (λ_=>?_)|refine cZ (λ_=>?_) (λ_=>?_))|refine OnB.mk (λ_=>?_) (λ_=>?_)|refine bI ?_ ?_|refine Drw.mk (by kernel_rfl) ?_|refine gu ?_ ?_|refine iG ?_ ?_|(with_reducible first|refine bZ ?_ ?_|refine dn ?_|refine dM ?_)|refine aU N0 ?_ ?_|refine aU false ?_ ?_|refine Ends.mk ?_))
  all_goals(try refine Pr.mk ?_)
  all_goals(try simp only[aZ,gU]at *)
  all_goals(try simp only[iD]at *)
  all_goals first
   |(exfalso;rename ¬True=>h;exact h trivial)|(exfalso;rename tol<0=>hx;exact h7 hx)|((with_reducible show(_:Nat)=_);rfl)|omega|exact rC _|exact⟨h6n,h3,λe he=>(h4 e he).2⟩|exact⟨h1,by omega,h2,h5⟩|exact⟨hz1,hz2⟩|exact⟨hk1,hk2⟩|((with_reducible show(_:Nat)≤_);have hrx:=(hr x).2.2;have hlx:=(Hr (jK tol es) x).1;simp only[iy,aZ,iR,jB];omega)|((with_reducible show(_:Nat)≤_);simp only[iy,aZ,iR,jB];omega)|((with_reducible show SubE _ _);exact⟨rfl,rfl,rfl,rfl,(by show some (AV.int .i64 _)=some (AV.int .i64 _);rw[show(dY (List.map (λx=>x.fst) (nV (dA (tol*tol) 0 [] es).es.zipIdx))).length=(jK tol es).length from by rw[jo,aZ];rfl]),rfl,(by show some (AV.gs _ _)=some (AV.gs _ _);simp only[aaK,iy,aZ,iR,jB];rfl),rfl,trivial⟩)|(have hkr:(dY (List.map (λx=>x.fst) (jK tol es))).length=(jK tol es).length:=(by rw[jo,aZ]);omega)|((with_reducible show SubB _ _);exact⟨rfl,rfl,(by show some _=some _;simp only[aaK,gG,gY,iY,gq];rfl),rfl,trivial⟩)|(obtain⟨h9,h10⟩:=adD (tol:=tol) (es:=es) (x:=x) (by omega) (by assumption);(conv=>whnf);exact⟨x+1,⟨⟨rfl,rfl,rfl,rfl,rfl,bQ (by omega),(by(simp only[h9,h10,gG,gY,iY,gq,iy,aZ,iR,jB]);(first|done|rfl)),(by(simp only[h9,h10,gG,gY,iY,gq,iy,aZ,iR,jB]);(first|done|rfl)),trivial⟩,⟨rfl,rfl,(by(simp only[h9,h10,gG,gY,iY,gq]);(first|done|rfl)),(by(simp only[h9,h10,gG,gY,iY,gq]);(first|done|rfl)),trivial⟩,by omega,(by show(jK tol es).length-(x+1)<(jK tol es).length-x;omega)⟩⟩)|(obtain⟨h9,h10⟩:=afA (tol:=tol) (es:=es) (x:=x) (by omega) (by assumption);(conv=>whnf);exact⟨x+1,⟨⟨rfl,rfl,rfl,rfl,rfl,bQ (by omega),(by(simp only[h9,h10,gG,gY,iY,gq,iy,aZ,iR,jB]);(first|done|rfl)),(by(simp only[h9,h10,gG,gY,iY,gq,iy,aZ,iR,jB]);(first|done|rfl)),trivial⟩,⟨rfl,rfl,(by(simp only[h9,h10,gG,gY,iY,gq]);(first|done|rfl)),(by(simp only[h9,h10,gG,gY,iY,gq]);(first|done|rfl)),trivial⟩,by omega,(by show(jK tol es).length-(x+1)<(jK tol es).length-x;omega)⟩⟩)|(have hxx:x=(jK tol es).length:=(by omega);subst hxx;(conv=>whnf);refine⟨rfl,⟨rfl,rfl,(by(try rw[FW]);rfl),rfl,trivial⟩,⟨rfl,rfl,rfl,(by(try rw[FW]);rfl),trivial⟩⟩)|skip
 clear hc;obtain⟨_,he,hb⟩:=hq;have hc:=hc2.sub he hb;clear he hb hc2 hF hR hl hX;replace hc:=hc.ghostF (i:=200) (j:=14) (T:=55) (s:=7) (k:=1) rfl rfl rfl rfl (by decide) rfl;refine eP (τ:=NW) tN cO _ (QA:=Jz NW _ [none,none,none] (.tup [.agg [(.sl 3 (ls.map aS)),.sl 7 ((aH (tol*tol) es).es.map aK)],.c (.sl 19 ((aH (tol*tol) es).cs.map iF)),.int .i64 0])) (by kernel_rfl) ?_ hc (λx e b a w' hx hc'=>um tN hx hc');clear hc ho
 all_goals(repeat'((try(conv=>whnf));first
  |refine aG ?_|refine aj ?_ ?_|refine kH ?_ (λ_=>?_) (λ_=>?_)|(with_reducible first|refine aQ ?_|refine aP ?_|refine au (λ_=>?_) (λ_=>?_)|refine cZ (λ_=>?_) (λ_=>?_))|refine OnB.mk (λ_=>?_) (λ_=>?_)|refine bI ?_ ?_|refine Drw.mk (by kernel_rfl) ?_|refine gu ?_ ?_|refine iG ?_ ?_|(with_reducible first|refine bZ ?_ ?_|refine dn ?_|refine dM ?_)|refine aU N0 ?_ ?_|refine aU false ?_ ?_|refine Ends.mk ?_))
 all_goals(try refine Pr.mk ?_)
 all_goals(try simp only[aZ,gU]at *)
 all_goals first
  |((conv=>whnf);refine Sw.Loop.inv (α:=Nat) (λx=>[(4,.ptr 4 0),(9,.gs 2000030 ((Il tol es (jK tol es).length).map iF).length),(11,.gs 100 ((jL tol es).map kN).length),(14,.ptr 14 0),(71,.gs 100 ((jL tol es).map kN).length),(72,.int .i64 ((jL tol es).length:Nat)),(73,.int .i64 (x:Nat))]) (λx=>[(200,.grow 55 7 ((((jL tol es).take x).map (·.1)).map aK)),(14,.varo [(.sl 3 (ls.map aS)),.ob 200 ((((jL tol es).take x).map (·.1)).map aK).length]),(4,.var [.v (.slice none 0 0),.v (.slice none 0 0)]),(2000030,.grow 47 19 ((Il tol es (jK tol es).length).map iF)),(100,.grow 86 8 ((jL tol es).map kN))]) (λx=>x≤(jL tol es).length) (λx=>(jL tol es).length-x) 0 ?_ ?_ ?_ (λx hx=>?_))|skip
 all_goals(repeat'((try(conv=>whnf));first
  |refine aG ?_|refine aj ?_ ?_|refine kH ?_ (λ_=>?_) (λ_=>?_)|(with_reducible first|refine aQ ?_|refine aP ?_|refine au (λ_=>?_) (λ_=>?_)|refine cZ (λ_=>?_) (λ_=>?_))|refine OnB.mk (λ_=>?_) (λ_=>?_)|refine bI ?_ ?_|refine Drw.mk (by kernel_rfl) ?_|refine gu ?_ ?_|refine iG ?_ ?_|(with_reducible first|refine bZ ?_ ?_|refine dn ?_|refine dM ?_)|refine aU N0 ?_ ?_|refine aU false ?_ ?_|refine Ends.mk ?_))
 all_goals(try refine Pr.mk ?_)
 all_goals(try simp only[aZ,gU]at *)
 all_goals(try simp only[iD]at *)
 all_goals first
  |((with_reducible show(_:Nat)=_);rfl)|omega|exact rC _|exact⟨hl1,λx hx=>(hl2 x hx).2⟩|((with_reducible show(_:Nat)≤_);have hrx:=(hr (jK tol es).length).2.2;simp only[iy,aZ,iR,jB,uM];omega)|((with_reducible show SubE _ _);exact⟨rfl,rfl,rfl,rfl,rfl,rfl,rfl,trivial⟩)|((with_reducible show SubB _ _);exact⟨rfl,rfl,rfl,rfl,rfl,trivial⟩)|((with_reducible show aA _=_);have hxx:x=(jL tol es).length:=(by omega);subst hxx;rw[Jl,(yK tol es).1,(yK tol es).2,gG];rfl)|(have hm:=QN (l:=(jL tol es)) (x:=x) (by omega);have hn:(List.take (x+1) (jL tol es)).length=(List.take x (jL tol es)).length+(0+1):=(by simp only[uM];omega);(conv=>whnf);exact⟨x+1,⟨⟨rfl,rfl,rfl,rfl,rfl,rfl,bQ (by omega),trivial⟩,⟨(by(simp only[hm,gG,gY,iY,gq]);(first|done|rfl)),(by(simp only[hm,hn,gG,gY,iY,gq,iy,aZ,iR,jB]);(first|done|rfl)),rfl,rfl,rfl,trivial⟩,by omega,(by show(jL tol es).length-(x+1)<(jL tol es).length-x;omega)⟩⟩)|skip
instance Qg(ls:List LayD)(es:List Ent)(tol:Rat):DenI Tryz.prog 13 [.agg [(.sl 3 (ls.map aS)),.sl 7 (es.map aK)],R tol] (ls.length≤1000∧(∀l∈ls,l.name.size≤1000)∧es.length≤12∧(∀e∈es,okV e)∧(∀e∈es,uO (fK e))∧rz tol≤12∧¬tol<0∧jD ls (es.map fK)=0) (.tup [.agg [(.sl 3 (ls.map aS)),.sl 7 ((aH (tol*tol) es).es.map aK)],.c (.sl 19 ((aH (tol*tol) es).cs.map iF)),.int .i64 0]):=⟨λ⟨h1,h2,h3,h4,h5,h6,h7,h8⟩=>ZO ls es tol h1 h2 h3 h4 h5 h6 h7 h8⟩
instance aip(kd en fi:Int)(b1 b2 b3 b4 b5 b6 b7 b8:Bool)(l1 l2 l3 l4 l5 l6 l7 l8:List (List Cell)):DenI Tryz.prog 62 [.agg [.v (.int .i64 kd),.v (.int .i64 en),.v (.int .i64 fi),.v (.bool b1),.sl 1 l1,.v (.bool b2),.sl 1 l2,.v (.bool b3),.sl 1 l3,.v (.bool b4),.sl 1 l4,.v (.bool b5),.sl 1 l5,.v (.bool b6),.sl 1 l6,.v (.bool b7),.sl 1 l7,.v (.bool b8),.sl 1 l8]] (True) (.bool (!decide (kd=4))):=⟨λhp=>by
 refine bW Tryz.func62 rfl ?_
 all_goals(repeat'((try(conv=>whnf));first
  |refine Ends.mk ?_))
 all_goals first
  |rfl⟩
instance ah4(cs:List Chn):DenI Tryz.prog 82 [.c (.sl 19 (cs.map iF)),.c (.v (.func (.func 62) #[] #[]))] (cs.length≤1000) (.int .i64 (bdI cs)):=⟨λhp=>by
 refine bW Tryz.func82 rfl ?_
 all_goals first
  |((conv=>whnf);refine Sw.Loop.inv (α:=Nat) (λk=>[(0,.c (.sl 19 (cs.map iF))),(1,.c (.v (.func (.func 62) #[] #[]))),(6,.c (.sl 19 (cs.map iF))),(7,.int .i64 (cs.length:Nat)),(8,.int .i64 (k:Nat))]) (λk=>[]) (λk=>k≤cs.length∧∀j<k,(cs.getD j C0).kind=4) (λk=>cs.length-k) 0 ?_ ?_ ?_ (λk hk=>?_))
 all_goals(repeat'((try(conv=>whnf));first
  |(with_reducible refine au (λ_=>?_) (λ_=>?_))|refine aU C0 ?_ ?_|refine Ends.mk ?_))
 all_goals(try refine Pr.mk ?_)
 all_goals(try simp only[aZ,gU]at *)
 all_goals(try(with_reducible show SG _ _ _ _;generalize hcc:cs.getD k C0=c;(try rw[hcc]);obtain⟨kd,en,fi,sr,ds⟩:=c;cases sr<;>cases ds))
 all_goals(repeat'((try(conv=>whnf));first
  |refine aG ?_|(with_reducible refine cZ (λ_=>?_) (λ_=>?_))|refine Ends.mk ?_))
 all_goals(try simp only[aZ,gU]at *)
 all_goals first
  |omega|trivial|exact⟨rC _,λj hj=>absurd hj (Sv _)⟩|((conv=>whnf);exact⟨k+1,⟨⟨rfl,rfl,rfl,rfl,bQ (by omega),trivial⟩,trivial,⟨by omega,iC hk.2 (by rw[hcc];dsimp only;omega)⟩,(by show cs.length-(k+1)<cs.length-k;omega)⟩⟩)|((with_reducible show aA _=_);rw[abI (x:=k) (by omega) hk.2 (by rw[hcc];dsimp only;omega)];rfl)|((with_reducible show aA _=_);have hxx:k=cs.length:=(by omega);subst hxx;rw[adR hk.2];rfl)⟩
instance aiv(cs:List Chn):DenI Tryz.prog 43 [.c (.sl 19 (cs.map iF)),.c (.v (.func (.func 62) #[] #[]))] (cs.length≤1000) (.bool (!UF cs)):=⟨λhp=>by
 refine bW Tryz.func43 rfl ?_
 all_goals(repeat'((try(conv=>whnf));first
  |refine aj ?_ ?_|refine Ends.mk ?_))
 all_goals(try refine Pr.mk ?_)
 all_goals first
  |omega|exact bE (afR cs)⟩
instance aes(ls:List LayD)(es:List Ent)(tol:Rat):DenI Tryz.prog 19 [.agg [(.sl 3 (ls.map aS)),.sl 7 (es.map aK)],R tol] (ls.length≤1000∧(∀l∈ls,l.name.size≤1000)∧es.length≤12∧(∀e∈es,okV e)∧(∀e∈es,uO (fK e))∧rz tol≤12∧¬tol<0∧jD ls (es.map fK)=0) (.bool (UF (aH (tol*tol) es).cs)):=⟨λhp=>by
 have hlen:(aH (tol*tol) es).cs.length≤1000:=OX hp.2.2.1 hp.2.2.2.1
 all_goals refine bW Tryz.func19 rfl ?_
 all_goals(repeat'((try(conv=>whnf));first
  |refine aj ?_ ?_|(with_reducible first|refine aQ ?_|refine aP ?_|refine au (λ_=>?_) (λ_=>?_))|refine Ends.mk ?_))
 all_goals(try refine Pr.mk ?_)
 all_goals first
  |exact hp|exact hlen|(refine bE ?_;rw[Bool.not_not])|(exfalso;rename ¬0=0=>h;exact h rfl)⟩
instance agU(x y u v:Int):DenI Tryz.prog 47 [.int .i64 x,.int .i64 y,.int .i64 u,.int .i64 v] (mg x∧mg y∧mg u∧mg v) (.agg (aK (Jw x y u v))):=⟨λhp=>by
 obtain⟨h1,h2,h3,h4⟩:=hp;unfold mg at *
 all_goals refine bW Tryz.func47 rfl ?_
 all_goals(repeat'((try(conv=>whnf));first
  |refine aj ?_ ?_|refine Ends.mk ?_))
 all_goals(try refine Pr.mk ?_)
 all_goals first
  |exact⟨h1,h2⟩|exact⟨h3,h4⟩|rfl⟩
instance aiB(es:List (List Cell)):DenI Tryz.prog 46 [.c (.sl 7 es)] (True) (.agg [.sl 3 (aLL.map aS),.sl 7 es]):=⟨λhp=>by
 refine bW Tryz.func46 rfl ?_
 all_goals(repeat'((try(conv=>whnf));first
  |refine Ends.mk ?_))
 all_goals first
  |rfl⟩
instance aix:DenI Tryz.prog 11 [] (True) (.bool true):=⟨λhp=>by
 haveI r1:DenI Tryz.prog 13 [.agg [.sl 3 (aLL.map aS),.sl 7 [aK (Jw 0 0 1000 0),aK (Jw 1003 0 0 1000),aK (Jw 0 1004 0 0)]],R ((5:Int):Rat)] True (.tup [.agg [.sl 3 (aLL.map aS),.sl 7 ((aH (((5:Int):Rat)*((5:Int):Rat)) aw1).es.map aK)],.c (.sl 19 ((aH (((5:Int):Rat)*((5:Int):Rat)) aw1).cs.map iF)),.int .i64 0]):=⟨λ_=>(Qg aLL aw1 ((5:Int):Rat)).den ⟨by decide,by decide,by decide,yI.1,yI.2,(J5 (by decide) (by decide)).1,(J5 (by decide) (by decide)).2,S9⟩⟩
 haveI r2:DenI Tryz.prog 13 [.agg [.sl 3 (aLL.map aS),.sl 7 [aK (Jw 0 0 1000 0),aK (Jw 1003 0 0 1000),aK (Jw 0 1004 0 0)]],R ((3:Int):Rat)] True (.tup [.agg [.sl 3 (aLL.map aS),.sl 7 ((aH (((3:Int):Rat)*((3:Int):Rat)) aw1).es.map aK)],.c (.sl 19 ((aH (((3:Int):Rat)*((3:Int):Rat)) aw1).cs.map iF)),.int .i64 0]):=⟨λ_=>(Qg aLL aw1 ((3:Int):Rat)).den ⟨by decide,by decide,by decide,yI.1,yI.2,(J5 (by decide) (by decide)).1,(J5 (by decide) (by decide)).2,S9⟩⟩
 haveI r3:DenI Tryz.prog 13 [.agg [.sl 3 (aLL.map aS),.sl 7 [aK (Jw 0 0 2 0)]],R ((5:Int):Rat)] True (.tup [.agg [.sl 3 (aLL.map aS),.sl 7 ((aH (((5:Int):Rat)*((5:Int):Rat)) aw2).es.map aK)],.c (.sl 19 ((aH (((5:Int):Rat)*((5:Int):Rat)) aw2).cs.map iF)),.int .i64 0]):=⟨λ_=>(Qg aLL aw2 ((5:Int):Rat)).den ⟨by decide,by decide,by decide,VY.1,VY.2,(J5 (by decide) (by decide)).1,(J5 (by decide) (by decide)).2,adA⟩⟩
 haveI r4:DenI Tryz.prog 19 [.agg [.sl 3 (aLL.map aS),.sl 7 [aK (Jw 0 0 1000 0),aK (Jw 1003 0 0 1000),aK (Jw 0 1004 0 0)]],R ((5:Int):Rat)] True (.bool false):=⟨λ_=>by have h:=(aes aLL aw1 ((5:Int):Rat)).den ⟨by decide,by decide,by decide,yI.1,yI.2,(J5 (by decide) (by decide)).1,(J5 (by decide) (by decide)).2,S9⟩;rw[adB]at h;exact h⟩
 obtain⟨a1,b1⟩:=VK afk;obtain⟨a2,b2⟩:=VK afC;obtain⟨a3,b3⟩:=VK aeS;have a4:=ae7;have c10:=b1 0 (by decide);have c11:=b1 1 (by decide);have c21:=b2 1 (by decide);have c22:=b2 2 (by decide);have c31:=b3 1 (by decide);generalize(aH (((5:Int):Rat)*((5:Int):Rat)) aw1).cs=C1 at *;generalize(aH (((3:Int):Rat)*((3:Int):Rat)) aw1).cs=C2 at *;generalize(aH (((5:Int):Rat)*((5:Int):Rat)) aw2).cs=C3 at *;generalize(aH (((5:Int):Rat)*((5:Int):Rat)) aw2).es=E3 at *;generalize(aH (((5:Int):Rat)*((5:Int):Rat)) aw1).es=E1 at *;generalize(aH (((3:Int):Rat)*((3:Int):Rat)) aw1).es=E2 at *;have d10:(C1.getD 0 C0).kind=1∧(C1.getD 0 C0).ent=1:=c10;have d11:(C1.getD 1 C0).kind=1∧(C1.getD 1 C0).ent=2:=c11;have d21:(C2.getD 1 C0).kind=4∧(C2.getD 1 C0).ent=1:=c21;have d22:(C2.getD 2 C0).kind=4∧(C2.getD 2 C0).ent=2:=c22;have d31:(C3.getD 1 C0).kind=2∧(C3.getD 1 C0).ent=0:=c31;clear b1 b2 b3 c10 c11 c21 c22 c31
 all_goals refine bW Tryz.func11 rfl ?_
 all_goals(repeat'((try(conv=>whnf));first
  |refine aG ?_|refine aj ?_ ?_|(with_reducible first|refine aQ ?_|refine aP ?_|refine au (λ_=>?_) (λ_=>?_)|refine cZ (λ_=>?_) (λ_=>?_))|refine Drw.mk (by kernel_rfl) ?_|refine aU C0 ?_ ?_|refine Ends.mk ?_))
 all_goals(try refine Pr.mk ?_)
 all_goals(try simp only[aZ,a1,a2,a3,a4,iR,jB]at *)
 all_goals(try simp only[Int.toNat_zero,show Int.toNat 1=1 from rfl,show Int.toNat 2=2 from rfl]at *)
 all_goals first
  |trivial|omega⟩
end Go.Proofs.YtmniihkenijjpaaGreatDoor
