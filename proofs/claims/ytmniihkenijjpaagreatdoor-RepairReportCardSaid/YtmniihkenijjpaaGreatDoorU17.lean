/-
  Rules of the abstract run, plain laws, and what functions answer, for the law RepairReport.
  Conditions: none.
-/
import Derived.Test.YtmniihkenijjpaaGreatDoorU16
import Derived.Shelf.LaysM
import Derived.Shelf.Strconv.Itoa1
import Derived.Shelf.Strconv.Itoa2
import Derived.Lib.Walk
import Derived.Lib.ItoaMem
import Derived.Lib.ItoaLen
import Derived.Lib.AppendIntMem
import Derived.WalkKit
import Derived.BigCall
import Derived.BigGuard
import Derived.Shelf.SlicesE.Clone
import Derived.Shelf.Strings.Repeat
import Derived.Lib.Builder
import Derived.Shelf.Strings.Builder1
set_option linter.all false
namespace Go.Proofs.YtmniihkenijjpaaGreatDoor
open Go Go.RowKit Go.Sw Go.Shelf
set_option maxRecDepth 100000
set_option maxHeartbeats 16000000
set_option synthInstance.maxSize 4000
set_option synthInstance.maxHeartbeats 400000
instance afE(sq:Rat)(sp:Spots)(n:Nat)(s:ByteArray)(v:P2):DenI Tryz.prog 92 [.gh (jgho Tryz.prog 9 45 8 (jst sq sp n)),.c (.v (.string s)),.agg (vecC v)] (s.size<=1000/\rz v.1<=12/\rz v.2<=12/\rz sq<=1000/\n<=1000000/\(∀p∈spotsAt sp s,rz p.1<=12/\rz p.2<=12)/\(spotsAt sp s).length<=1000000)
 (.tup [.gh (jgho Tryz.prog 9 45 8 (jst sq (joinP sq sp s v).1 (n+1))),.agg (vecC (joinP sq sp s v).2)]):=⟨λ⟨h1,h2,h3,h4,h5,h6,h7⟩=>aaB sq sp n s v h1 h2 h3 h4 h5 h6 h7⟩
instance Y1(e:Ent)(a b:P2):DenI Tryz.prog 94 [.agg (aK e),.c (.sl 8 ([cellsOf (.agg (vecC a))]++[cellsOf (.agg (vecC b))]))] (e.pts.length<=1000000/\2=(aA e).length) (.agg (aK (dQ e [a,b]))):=⟨λhp=>(inferInstance:DenI Tryz.prog 94 [.agg (aK e),.c (.sl 8 ([a,b].map vecC))] (e.pts.length<=1000000/\[a,b].length=(aA e).length) (.agg (aK (dQ e [a,b])))).den hp⟩
theorem dH{l:List Ent}{e:Ent}{x:Nat}(h:l.length=x):(l++[e]).zipIdx=l.zipIdx++[(e,x)]:=by subst h;simp[List.zipIdx_append]
theorem X6(tol:Rat)(es:List Ent)(sL:Nat)(ls:List (List Cell))(ht:rz tol<=12)(hle:es.length<=12)(hes:∀e∈es,(∀p∈e.pts,aF p)/\e.layer.size<=1000/\e.pts.length<=3):
 Den Tryz.prog 50 [.agg [.sl sL ls,.sl 7 (es.map aK)],R tol] (.tup [.c (.sl 8 ((bT (tol*tol) 0 [] es).es.zipIdx.map iP)),.own 47 19 ((bT (tol*tol) 0 [] es).cs.map jF)]):=by
 have i_t:RzB tol 12:=⟨ht⟩
 have hsq:rz (tol*tol)<=1000:=dX ω;have hj:=zk (q:=aF) (sq:=tol*tol) (es:=es) (λe he=>(hes e he).1);refine Den.of ⟨ζ,λw X vs ho hX hl hR=>?_⟩ rfl
 haveI:WOk Tryz.prog w:=⟨ho⟩
 refine enter Tryz.func50 rfl rfl (by rw[hl];rfl) λa hF=>?_
 have hc:=args_conc (N:=76) hX hl hR hF;refine c_seq (awp_ok (τ:=Ew) mF aQ _ (QA:=λz e b=>z=.normal/\SubE [(2,.ptr 2 0),(3,.ptr 3 0),(4,.c (.v (.slice none 0 0))),(5,.c (.v (.slice none 0 0)))] e/\SubB [(2,.var [.sl sL ls,.sl 7 (es.map aK)]),(3,.var (ratC tol))] b) ζ ?_ hc ?_)
 case refine_1 =>
  all_goals(repeat'((try(conv=>whnf));first
   |apply zaf|refine zaa ?_ ?_|refine zao ?_ (λ_=>?_) (λ_=>?_)|(with_reducible first|apply zab|apply zac|refine zad (λ_=>?_) (λ_=>?_)|refine zae (λ_=>?_) (λ_=>?_))|refine zat (λ_=>?_) (λ_=>?_)|refine zah ?_ ?_|refine zas ζ ?_|refine zal ?_ ?_|refine zam ?_ ?_|(with_reducible first|refine zak ?_ ?_|apply zaj|apply zai)|apply zaq))
  all_goals(try apply zar)
  exact⟨rfl,⟨rfl,rfl,rfl,rfl,trivial⟩,⟨rfl,rfl,trivial⟩⟩
 clear hc;rintro x e b a w1 ⟨rfl,he,hb⟩ hc;replace hc:=hc.sub he hb;clear he hb;refine x_tn ?_;obtain⟨S,M,hs⟩:=hc;refine c_seq (c_reg ?_);refine wp1 rfl ex_makeMap ?_;have hB1:Below w1.heap.size w1 (w1.alloc (.map #[] 0)):=below_alloc w1 _;have hs2:=(hs.below hB1).putV (t:=17) (u:=.map (some w1.heap.size)) (v:=.any) ⟨ψ,rfl⟩ .any;have hm2:(w1.alloc (.map #[] 0)).heap[w1.heap.size]?=some (.map #[] 0):=heap_new w1 _;generalize w1.alloc (.map #[] 0)=w2 at hB1 hs2 hm2 ⊢;generalize hg0:w1.heap.size=g0 at hs2 hm2 ⊢;obtain⟨g3,T3,c3,v3,hh3,hr3⟩:=hs2.var (t:=3) (i:=3) rfl rfl;have hl3:c3.size=4:=by have:=hr3.len;simpa using this
 have hrow:isRow Tryz.prog 30 4=true:=ζ
 have hFm:Frm 76 _ [(3,.pointer (some ⟨g3,0,none⟩)),(17,.map (some g0))]:=(hs2.frm.cons (getD_put_same _ hs.sz ψ)).cons v3;refine wp1 rfl (nJ hrow (hFm.ev rfl) hh3 (by simp[hl3])) ?_;have hs3:=hs2.putV (t:=18) (u:=.agg c3) (v:=.any) ⟨ψ,rfl⟩ .any;replace hFm:=hFm.put (d:=18) ψ (.agg c3);refine wp1 rfl (nJ hrow (hFm.ev rfl) hh3 (by simp[hl3])) ?_;have hs4:=hs3.putV (t:=19) (u:=.agg c3) (v:=.any) ⟨ψ,rfl⟩ .any;replace hFm:=hFm.put (d:=19) ψ (.agg c3)
 have hd3:RepD w2 (bl S++X) (.agg c3) (R tol):=by
  obtain⟨c3⟩:=c3;exact .agg hr3
 have hden:=((inferInstance:DenI Tryz.prog 91 [R tol,R tol] _ (R (tol*tol))).den (by exact⟨aP ht ψ,aP ht ψ⟩)).old rfl;have hok2:Wld.ok Tryz.prog w2:=Wld.keep (Wld.keep ho hs.ms.st.below) hB1
 have hcall:=hden.2 w2 (bl S++X) [.agg c3,.agg c3] hok2 hs4.bnd rfl (λi u v hu hv=>by
  match i,hu,hv with
  |0,hu,hv=>cases hu;cases hv;exact hd3
  |1,hu,hv=>cases hu;cases hv;exact hd3)
 refine wp1c rfl (Hu ζ (map2 (hFm.ev rfl) (hFm.ev rfl)) rfl) hcall ?_;rintro u5 w3 ⟨hR5,hB3⟩;obtain⟨us5,rfl,hr5⟩:=hR5.agg;have hl5:us5.length=4:=by have:=hr5.len;simpa using this
 have hs5:=(hs4.below hB3).putV (t:=20) (u:=.agg us5.toArray) (v:=.any) ⟨ψ,rfl⟩ .any;replace hFm:=hFm.put (d:=20) ψ (.agg us5.toArray);have hm3:w3.heap[g0]?=some (.map #[] 0):=(hB3.block _ (lt_of_heap hm2)).trans hm2;refine wp1 rfl (ex_build15 (hFm.ev rfl) rfl (hFm.ev rfl) (run_build15 (tab_at fU (t:=133) rfl) rfl hl5)) ?_;have hs6:=hs5.putV (t:=21) (u:=.agg (#[.map (some g0)]++us5.toArray)) (v:=.any) ⟨ψ,rfl⟩ .any;replace hFm:=hFm.put (d:=21) ψ (.agg (#[.map (some g0)]++us5.toArray));refine wp1 rfl (ex_box (hFm.ev rfl)) ?_;have hc:=Sta.ghost0 (i:=22) (T:=133) (us:=.map (some g0)::us5) (G:=jgho Tryz.prog 9 45 8 (jst (tol*tol) [] 0)) (g0:=g0) hs hs6 ω hm3 rfl rfl rfl ⟨ψ,rfl⟩ (jrep0 hr5);rw[show(Value.map (some g0)::us5).toArray=(Value.agg (#[.map (some g0)]++us5.toArray)).cells by simp[Value.cells]]at hc;refine aops_ok mF (k:=λe b=>SubE [(6,.ptr 22 0),(2,.ptr 2 0)] e/\SubB [(22,.gh (jgho Tryz.prog 9 45 8 (jst (tol*tol) [] 0))),(2,.var [.sl sL ls,.sl 7 (es.map aK)])] b) ?_ ζ ?_ hc
 case refine_2 =>
  all_goals(repeat'((try(conv=>whnf));first
   |apply zaf|refine zaa ?_ ?_|refine zao ?_ (λ_=>?_) (λ_=>?_)|(with_reducible first|apply zab|apply zac|refine zad (λ_=>?_) (λ_=>?_)|refine zae (λ_=>?_) (λ_=>?_))|refine zat (λ_=>?_) (λ_=>?_)|refine zah ?_ ?_|refine zas ζ ?_|refine zal ?_ ?_|refine zam ?_ ?_|(with_reducible first|refine zak ?_ ?_|apply zaj|apply zai)|apply zaq))
  all_goals(try apply zar)
  exact⟨⟨rfl,rfl,trivial⟩,⟨rfl,rfl,trivial⟩⟩
 clear hc hFm hs6 hm3 hs5 hl5 hR5 hr5 hB3 hcall hok2 hden hd3 hs4 hs3 hrow hl3 hr3 hh3 v3 hm2 hs2 hg0 hB1 hs hF hR hl hX;rintro e b a w4 ⟨he,hb⟩ hc;replace hc:=hc.sub he hb;clear he hb;refine x_tn ?_;refine awp_ok (τ:=Ew) mF aQ _ (QA:=endO Ew _ [none,some (47,19)] (.tup [.c (.sl 8 ((bT (tol*tol) 0 [] es).es.zipIdx.map iP)),.own 47 19 ((bT (tol*tol) 0 [] es).cs.map jF)])) ζ ?_ hc (λx e b a w' hx hc'=>endO_ok mF hx hc');clear hc ho
 (conv=>whnf);refine Sw.Loop.ghost 7 100 86 8 ?_ rfl rfl rfl ψ
 refine Sw.Loop.ghost 8 101 47 19 ?_ rfl rfl rfl ψ;refine Sw.Loop.inv (α:=Nat) (λx=>[(6,.ptr 22 0),(24,.c (.sl 7 (es.map aK))),(25,.int .i64 (es.length:Nat)),(26,.int .i64 (x:Nat)),(7,.gs 100 ((jA (tol*tol) es x).es.zipIdx.map iP).length),(8,.gs 101 ((jA (tol*tol) es x).cs.map jF).length)]) (λx=>[(22,.gh (jgho Tryz.prog 9 45 8 (jst (tol*tol) (jA (tol*tol) es x).sp (nE es x)))),(100,.grow 86 8 ((jA (tol*tol) es x).es.zipIdx.map iP)),(101,.grow 47 19 ((jA (tol*tol) es x).cs.map jF))]) (λx=>x<=es.length) (λx=>es.length-x) 0 ?_ ?_ ?_ (λx hx=>?_)
 .exact⟨rfl,rfl,by simp only[aG];rfl,rfl,rfl,rfl,trivial⟩
 .exact⟨rfl,rfl,rfl,trivial⟩
 .exact jd _
 obtain⟨j1,j2,j3,j4,j5⟩:=hj x hx;obtain⟨g1,g2,g3'⟩:=Qx hes x;have hn2:=C9 es x;rcases iV (es.getD x E0)with hE|⟨a,b,hE⟩
 .haveI ie:DenI Tryz.prog 30 [.agg (aK (es.getD (Int.toNat ((x:Nat):Int)) E0))] ((es.getD x E0).pts.length<=1000000) (.tup [.c (.sl 8 []),.bool false]):=⟨λhp=>by have:=(ku (es.getD x E0)).den hp;rw[hE]at this;simpa using this⟩
  all_goals(repeat'((try(conv=>whnf));first
   |apply zaf|refine zaa ?_ ?_|refine zao ?_ (λ_=>?_) (λ_=>?_)|(with_reducible first|apply zab|apply zac|refine zad (λ_=>?_) (λ_=>?_)|refine zae (λ_=>?_) (λ_=>?_))|refine zat (λ_=>?_) (λ_=>?_)|refine zah ?_ ?_|refine zas ζ ?_|refine zal ?_ ?_|refine zam ?_ ?_|(with_reducible first|refine zak ?_ ?_|apply zaj|apply zai)|refine zan E0 ?_ ?_|apply zaq))
  all_goals(try apply zar)
  all_goals first
   |((conv=>whnf);refine Sw.Loop.unroll ?_)|skip
  all_goals(repeat'((try rw[Ez]);(try rw[Aw]);(try(conv=>whnf));first
   |apply zaf|refine zaa ?_ ?_|(with_reducible first|apply zab|apply zac)|refine dS (by simp only[bn,bG];decide) ?_|refine dY (by simp only[bn,bG];decide) ?_|refine dS ψ ?_|refine dY ψ ?_|(with_reducible first|refine zad (λ_=>?_) (λ_=>?_)|refine zae (λ_=>?_) (λ_=>?_))|refine zat (λ_=>?_) (λ_=>?_)|refine zah ?_ ?_|refine zas ζ ?_|refine zal ?_ ?_|refine zam ?_ ?_|(with_reducible first|refine zak ?_ ?_|apply zaj|apply zai)|apply zaq))
  all_goals(try apply zar)
  all_goals(try simp only[aG,dh]at *)
  all_goals first
   |exact za3|omega|((with_reducible show(_:Nat)<=_);simp only[bF,aG,Qk,bn,bG];omega)|((with_reducible show packA _=_);have hxx:x=es.length:=ω;subst hxx;rw[kP];rfl)|(exfalso;rename_i q;simp at q;done)|(obtain⟨hA,hN⟩:=Vx (tol*tol) es (x:=x) ω hE;(conv=>whnf);exact⟨x+1,⟨⟨rfl,rfl,rfl,aH ω,(by(simp only[hA,hN,dH j5,bH,bK,bV,bI,bF,aG,bn,bG]);(first|done|rfl)),(by(simp only[hA,hN,dH j5,bH,bK,bV,bI,bF,aG,bn,bG]);(first|done|rfl)),trivial⟩,⟨(by(simp only[hA,hN,dH j5,bH,bK,bV,bI]);(first|done|rfl)),(by(simp only[hA,hN,dH j5,bH,bK,bV,bI]);(first|done|rfl)),(by(simp only[hA,hN,dH j5,bH,bK,bV,bI]);(first|done|rfl)),trivial⟩,ω,(by show es.length-(x+1)<es.length-x;omega)⟩⟩)|skip
 .haveI ie:DenI Tryz.prog 30 [.agg (aK (es.getD (Int.toNat ((x:Nat):Int)) E0))] ((es.getD x E0).pts.length<=1000000) (.tup [.c (.sl 8 [vecC a,vecC b]),.bool true]):=⟨λhp=>by have:=(ku (es.getD x E0)).den hp;rw[hE]at this;simpa using this⟩
  have ha:aF a:=g1 a (dF (by rw[hE];simp));have hb:aF b:=g1 b (dF (by rw[hE];simp));have f1:=oz (q:=aF) (sq:=tol*tol) (s:=(es.getD x E0).layer) j1 ha;have f2:=oz (q:=aF) (sq:=tol*tol) (s:=(es.getD x E0).layer) f1.1 hb
  all_goals(repeat'((try(conv=>whnf));first
   |apply zaf|refine zaa ?_ ?_|refine zao ?_ (λ_=>?_) (λ_=>?_)|(with_reducible first|apply zab|apply zac|refine zad (λ_=>?_) (λ_=>?_)|refine zae (λ_=>?_) (λ_=>?_))|refine zat (λ_=>?_) (λ_=>?_)|refine zah ?_ ?_|refine zas ζ ?_|refine zal ?_ ?_|refine zam ?_ ?_|(with_reducible first|refine zak ?_ ?_|apply zaj|apply zai)|refine zan E0 ?_ ?_|apply zaq))
  all_goals(try apply zar)
  all_goals first
   |((conv=>whnf);refine Sw.Loop.unroll ?_)|skip
  all_goals(repeat'((try rw[Ez]);(try rw[Aw]);(try(conv=>whnf));first
   |apply zaf|refine zaa ?_ ?_|(with_reducible first|apply zab|apply zac)|refine dS (by simp only[bn,bG];decide) ?_|refine dY (by simp only[bn,bG];decide) ?_|refine dS ψ ?_|refine dY ψ ?_|(with_reducible first|refine zad (λ_=>?_) (λ_=>?_)|refine zae (λ_=>?_) (λ_=>?_))|refine zat (λ_=>?_) (λ_=>?_)|refine zah ?_ ?_|refine zas ζ ?_|refine zal ?_ ?_|refine zam ?_ ?_|(with_reducible first|refine zak ?_ ?_|apply zaj|apply zai)|apply zaq))
  all_goals(try apply zar)
  all_goals first
   |((conv=>whnf);refine Sw.Loop.unroll ?_)|skip
  all_goals(repeat'((try rw[Ez]);(try rw[Aw]);(try(conv=>whnf));first
   |apply zaf|refine zaa ?_ ?_|(with_reducible first|apply zab|apply zac)|refine dS (by simp only[bn,bG];decide) ?_|refine dY (by simp only[bn,bG];decide) ?_|refine dS ψ ?_|refine dY ψ ?_|(with_reducible first|refine zad (λ_=>?_) (λ_=>?_)|refine zae (λ_=>?_) (λ_=>?_))|refine zat (λ_=>?_) (λ_=>?_)|refine zah ?_ ?_|refine zas ζ ?_|refine zal ?_ ?_|refine zam ?_ ?_|(with_reducible first|refine zak ?_ ?_|apply zaj|apply zai)|apply zaq))
  all_goals(try apply zar)
  all_goals first
   |((conv=>whnf);refine Sw.Loop.unroll ?_)|skip
  all_goals(repeat'((try rw[Ez]);(try rw[Aw]);(try(conv=>whnf));first
   |apply zaf|refine zaa ?_ ?_|(with_reducible first|apply zab|apply zac)|refine dS (by simp only[bn,bG];decide) ?_|refine dY (by simp only[bn,bG];decide) ?_|refine dS ψ ?_|refine dY ψ ?_|(with_reducible first|refine zad (λ_=>?_) (λ_=>?_)|refine zae (λ_=>?_) (λ_=>?_))|refine zat (λ_=>?_) (λ_=>?_)|refine zah ?_ ?_|refine zas ζ ?_|refine zal ?_ ?_|refine zam ?_ ?_|(with_reducible first|refine zak ?_ ?_|apply zaj|apply zai)|apply zaq))
  all_goals(try apply zar)
  all_goals(try simp only[aG,dh]at *)
  all_goals first
   |exact za3|omega|((with_reducible show(_:Nat)<=_);simp only[bF,aG,Qk,bn,bG];omega)|((with_reducible show packA _=_);have hxx:x=es.length:=ω;subst hxx;rw[kP];rfl)|((with_reducible show _/\_);first|exact⟨g2,ha.1,ha.2,hsq,ω,spq j1,by have:=uI (jA (tol*tol) es x).sp (es.getD x E0).layer;omega⟩|exact⟨g2,hb.1,hb.2,hsq,ω,spq f1.1,by have:=uI (joinP (tol*tol) (jA (tol*tol) es x).sp (es.getD x E0).layer a).1 (es.getD x E0).layer;have:=f1.2.2;omega⟩|exact⟨aP ha.1 ψ,aP ha.2 ψ,aP f1.2.1.1 ψ,aP f1.2.1.2 ψ⟩|exact⟨aP hb.1 ψ,aP hb.2 ψ,aP f2.2.1.1 ψ,aP f2.2.1.2 ψ⟩|exact⟨ω,by rw[hE];rfl⟩)|(exfalso;rename_i q;simp at q;done)|(obtain⟨hA,hN⟩:=Wq (tol*tol) es (x:=x) ω hE;first|(have q1:=SX (i:=x) (k:=0) (a:=a) (w:=(joinP (tol*tol) (jA (tol*tol) es x).sp (es.getD x E0).layer a).2) ξ;have q2:=SX (i:=x) (k:=1) (a:=b) (w:=(joinP (tol*tol) (joinP (tol*tol) (jA (tol*tol) es x).sp (es.getD x E0).layer a).1 (es.getD x E0).layer b).2) ξ;(conv=>whnf);exact⟨x+1,⟨⟨rfl,rfl,rfl,aH ω,(by(simp only[hA,hN,q1,q2,dH j5,mX,pF,jQ,bH,bK,bV,bI,bF,aG,bn,bG]);(first|done|rfl)),(by(simp only[hA,hN,q1,q2,dH j5,mX,pF,jQ,bH,bK,bV,bI,bF,aG,bn,bG]);(first|done|rfl)),trivial⟩,⟨(by(simp only[hA,hN,q1,q2,dH j5,mX,pF,jQ,bH,bK,bV,bI]);(first|done|rfl)),(by(simp only[hA,hN,q1,q2,dH j5,mX,pF,jQ,bH,bK,bV,bI]);(first|done|rfl)),(by(simp only[hA,hN,q1,q2,dH j5,mX,pF,jQ,bH,bK,bV,bI]);(first|done|rfl)),trivial⟩,ω,(by show es.length-(x+1)<es.length-x;omega)⟩⟩)|(have q1:=SX (i:=x) (k:=0) (a:=a) (w:=(joinP (tol*tol) (jA (tol*tol) es x).sp (es.getD x E0).layer a).2) ξ;have q2:=P9 (i:=x) (k:=1) (a:=b) (w:=(joinP (tol*tol) (joinP (tol*tol) (jA (tol*tol) es x).sp (es.getD x E0).layer a).1 (es.getD x E0).layer b).2) ξ;(conv=>whnf);exact⟨x+1,⟨⟨rfl,rfl,rfl,aH ω,(by(simp only[hA,hN,q1,q2,dH j5,mX,pF,jQ,bH,bK,bV,bI,bF,aG,bn,bG]);(first|done|rfl)),(by(simp only[hA,hN,q1,q2,dH j5,mX,pF,jQ,bH,bK,bV,bI,bF,aG,bn,bG]);(first|done|rfl)),trivial⟩,⟨(by(simp only[hA,hN,q1,q2,dH j5,mX,pF,jQ,bH,bK,bV,bI]);(first|done|rfl)),(by(simp only[hA,hN,q1,q2,dH j5,mX,pF,jQ,bH,bK,bV,bI]);(first|done|rfl)),(by(simp only[hA,hN,q1,q2,dH j5,mX,pF,jQ,bH,bK,bV,bI]);(first|done|rfl)),trivial⟩,ω,(by show es.length-(x+1)<es.length-x;omega)⟩⟩)|(have q1:=P9 (i:=x) (k:=0) (a:=a) (w:=(joinP (tol*tol) (jA (tol*tol) es x).sp (es.getD x E0).layer a).2) ξ;have q2:=SX (i:=x) (k:=1) (a:=b) (w:=(joinP (tol*tol) (joinP (tol*tol) (jA (tol*tol) es x).sp (es.getD x E0).layer a).1 (es.getD x E0).layer b).2) ξ;(conv=>whnf);exact⟨x+1,⟨⟨rfl,rfl,rfl,aH ω,(by(simp only[hA,hN,q1,q2,dH j5,mX,pF,jQ,bH,bK,bV,bI,bF,aG,bn,bG]);(first|done|rfl)),(by(simp only[hA,hN,q1,q2,dH j5,mX,pF,jQ,bH,bK,bV,bI,bF,aG,bn,bG]);(first|done|rfl)),trivial⟩,⟨(by(simp only[hA,hN,q1,q2,dH j5,mX,pF,jQ,bH,bK,bV,bI]);(first|done|rfl)),(by(simp only[hA,hN,q1,q2,dH j5,mX,pF,jQ,bH,bK,bV,bI]);(first|done|rfl)),(by(simp only[hA,hN,q1,q2,dH j5,mX,pF,jQ,bH,bK,bV,bI]);(first|done|rfl)),trivial⟩,ω,(by show es.length-(x+1)<es.length-x;omega)⟩⟩)|(have q1:=P9 (i:=x) (k:=0) (a:=a) (w:=(joinP (tol*tol) (jA (tol*tol) es x).sp (es.getD x E0).layer a).2) ξ;have q2:=P9 (i:=x) (k:=1) (a:=b) (w:=(joinP (tol*tol) (joinP (tol*tol) (jA (tol*tol) es x).sp (es.getD x E0).layer a).1 (es.getD x E0).layer b).2) ξ;(conv=>whnf);exact⟨x+1,⟨⟨rfl,rfl,rfl,aH ω,(by(simp only[hA,hN,q1,q2,dH j5,mX,pF,jQ,bH,bK,bV,bI,bF,aG,bn,bG]);(first|done|rfl)),(by(simp only[hA,hN,q1,q2,dH j5,mX,pF,jQ,bH,bK,bV,bI,bF,aG,bn,bG]);(first|done|rfl)),trivial⟩,⟨(by(simp only[hA,hN,q1,q2,dH j5,mX,pF,jQ,bH,bK,bV,bI]);(first|done|rfl)),(by(simp only[hA,hN,q1,q2,dH j5,mX,pF,jQ,bH,bK,bV,bI]);(first|done|rfl)),(by(simp only[hA,hN,q1,q2,dH j5,mX,pF,jQ,bH,bK,bV,bI]);(first|done|rfl)),trivial⟩,ω,(by show es.length-(x+1)<es.length-x;omega)⟩⟩))|skip
instance abb(tol:Rat)(es:List Ent)(sL:Nat)(ls:List (List Cell)):DenI Tryz.prog 50 [.agg [.sl sL ls,.sl 7 (es.map aK)],R tol] (rz tol<=12/\es.length<=12/\∀e∈es,Sl e) (.tup [.c (.sl 8 ((bT (tol*tol) 0 [] es).es.zipIdx.map iP)),.own 47 19 ((bT (tol*tol) 0 [] es).cs.map jF)]):=⟨λ⟨h1,h2,h3⟩=>X6 tol es sL ls h1 h2 h3⟩
def Yj:Tab:=(2000000001,.flag)::Ew
theorem RG:tabOk Tryz.prog Yj=true:=ζ
instance abr(e:Ent)(l:List P2):DenI Tryz.prog 57 [.agg (aK e),.c (.sl 8 (l.map vecC))] (e.pts.length<=1000000/\l.length=(aA e).length) (.agg (aK (dQ e l))):=⟨λhp=>by
 obtain⟨hp1,hp2⟩:=hp;have hsh:=qV e
 all_goals refine den_of (τ:=Yj) RG aQ Tryz.func57 rfl ζ ζ ζ ?_
 all_goals(repeat'((try(conv=>whnf));first
  |(with_reducible refine zad (λ_=>?_) (λ_=>?_))|refine zah ?_ ?_|refine zas ζ ?_|refine um P0 _ ?_ ?_|refine zan P0 ?_ ?_|apply zaq))
 all_goals(try apply zar)
 all_goals(try simp only[mX,aG]at *)
 all_goals(try simp(disch:=omega) only[aS]at *)
 all_goals first
  |omega|((with_reducible show(_:Nat)=_);simp only[kF,bF,aG,bG,pq])|exact zf ω hp2 ω|exact Em ξ hp2⟩
theorem wE{w:World}{X X':List Nat}{s:Nat}{u:Value}(h:RepC w X u (.sl s [])):RepC w X' u (.sl s []):=by
 cases h with
 |sl A n cap s uss es hn hu hc hcap hmx hs hr =>
  have:uss=[]:=BQ hu;subst this;exact .sl A n cap s [] [] hn rfl (Cl.nil _ _ _) hcap hmx (λi us e h=>by simp at h) (λi us e h=>by simp at h)
theorem IJ{sq:Rat}{v p:P2}{s:ByteArray}{sp:Spots}{b:Int}(hb:kC sq v s sp sp.length b)(h:nearG sq v (spotsAt sp s)=some p):∃j:Nat,b=(j:Nat)/\j<sp.length/\(sp.getD j S0).2=p:=by
 unfold kC at hb;rw[Pg,h]at hb;rcases hb with⟨q1,q2⟩|⟨q1,q2,q3⟩
 .cases q2
 .obtain⟨j,rfl⟩:=Int.eq_ofNat_of_zero_le q1;injection q3 with q3
  exact⟨j,rfl,ω,q3.symm⟩
theorem Qc{w:World}{X X':List Nat}{us:List Value}(h:RepL w X us PD):RepL w X' us PD:=⟨h.len,λj u c hu hc=>by
 have h1:=h.get j u c hu hc
 match j,hc with
 |0,hc=>cases hc;cases h1 with|v u h=>exact .v _ h
 |2,hc=>cases hc;cases h1 with|v u h=>exact .v _ h
 |4,hc=>cases hc;cases h1 with|v u h=>exact .v _ h
 |6,hc=>cases hc;cases h1 with|v u h=>exact .v _ h
 |1,hc=>cases hc;exact wE h1
 |3,hc=>cases hc;exact wE h1
 |5,hc=>cases hc;exact wE h1
 |7,hc=>cases hc;exact wE h1⟩
theorem LP{P:Program}{fn:Func}{R:Ending->World->Prop}{a:Act}{w:World}{r r':ResultVar}{u u':Value}(hr:fn.results.toList=[r,r'])(hd:a.defers=[])(h1:(resRun a.tmps r).run P w=.ok u w)(h2:(resRun a.tmps r').run P w=.ok u' w)(hR:R (.returned (.tuple #[u,u'])) w):bodyPost P fn R .ret a w :=
 ⟨hd,.tuple #[u,u'],by rw[run_results,Sem.run_bind,Ue,hr];simp[h1,h2],hR⟩
theorem KZ(sp:Spots)(s:ByteArray)(v:P2)(tol:Rat)(h1:sp.length<=1000000)(hv:aF v)(ht:rz tol<=12)(hs:∀p∈sp,aF p.2):
 Den Tryz.prog 55 [.own 95 9 (sp.map pK),.c (.v (.string s)),.agg (vecC v),R tol] (.tup [.own 95 9 (sp.map pK),UG (nearG (tol*tol) v (spotsAt sp s))]):=by
 refine⟨ζ,λw X g cap uss rest vs ho hX hgX hg hRS hcap hm hn hs0 hl hR=>?_⟩
 haveI:WOk Tryz.prog w:=⟨ho⟩
 have hgw:g<w.heap.size:=hX g hgX;obtain⟨X1,hX1⟩:∃X1,X1=X.filter (λx=>!(Nat.beq x g)):=⟨_,rfl⟩
 have hsub:∀x∈X1,x∈X:=λx hx=>by rw[hX1]at hx;exact(yg.1 hx).1
 have hgX1:g ∉ X1:=λhx=>by rw[hX1]at hx;have:=(yg.1 hx).2;simp at this
 have hE1:Ext w X w X1:=Ext.drop hsub
 have hcl:Cl w X1 (some ⟨g,0,none⟩) uss.flatten:=by
  have:=Cl.of_block hg hgX1 uss.flatten.length
  rwa [JX,List.take_left]at this
 have hd0:RepD w X1 (.slice (some ⟨g,0,none⟩) (sp.map pK).length cap) (.c (.sl 9 (sp.map pK))):=.c ((hRS.ext hE1).sl hcl hn (aP hm ψ))
 match vs,hl with
 |[x1,x2,x3],_ =>
 have hargs:∀(i:Nat) u y,[.slice (some ⟨g,0,none⟩) (sp.map pK).length cap,x1,x2,x3][i]?=some u->[.c (.sl 9 (sp.map pK)),.c (.v (.string s)),.agg (vecC v),R tol][i]?=some y->RepD w X1 u y:=λi u y hu hv=>by
  match i,hu,hv with
  |0,hu,hv=>cases hu;cases hv;exact hd0
  |1,hu,hv=>cases hu;cases hv;exact(hR 0 _ _ rfl rfl).ext hE1
  |2,hu,hv=>cases hu;cases hv;exact(hR 1 _ _ rfl rfl).ext hE1
  |3,hu,hv=>cases hu;cases hv;exact(hR 2 _ _ rfl rfl).ext hE1
 cases hnq:nearG (tol*tol) v (spotsAt sp s)with
 |none =>
  have hden:=((FT sp s v tol).den ⟨h1,hv,ht,hs⟩).old rfl;rw[hnq]at hden;refine(hden.2 w X1 [.slice (some ⟨g,0,none⟩) (sp.map pK).length cap,x1,x2,x3] ho (λm hm=>hX m (hsub m hm)) rfl hargs).mono ?_;rintro en w' ⟨u,rfl,hR',hB⟩;refine⟨u,rfl, ?_,⟨hB.os,hB.tape,hB.output,hB.size,λk hk _=>hB.block k hk⟩,rfl,uss,(hB.block g hgw).trans hg,hRS.ext (Ext.call X hB)⟩;have hR2:=hR'.r rfl;cases hR2 with
  |d hd=>cases hd
  |tup hl h =>
   refine .tup hl λi u y hu hv=>?_
   have h0:=h i u y hu hv
   match i,hv with
   |0,hv=>cases hv;cases h0 with|agg h=>exact .agg (Qc h)
   |1,hv=>cases hv;cases h0 with|c h=>cases h with|v u h=>exact .c (.v _ h)
 |some p =>
 have i_t:RzB tol 12:=⟨ht⟩
 have hq:rz (tol*tol)<=1000:=dX ω
 have hgd:∀i,aF (sp.getD i S0).2:=λi=>by
  by_cases hi:i<sp.length
  .have:sp.getD i S0=sp[i]:=by simp[iI,hi]
   rw[this];exact hs _ (wW hi)
  .have:sp.getD i S0=S0:=by simp[iI,Nat.le_of_not_lt hi]
   rw[this];exact⟨by decide +kernel,by decide +kernel⟩
 refine enter (vs:=[_,_,_,_]) Tryz.func55 rfl rfl rfl λa hF=>?_
 have hc:=args_conc (N:=67) (w:=w) (X:=X1) (xs:=[.c (.sl 9 (sp.map pK)),.c (.v (.string s)),.agg (vecC v),R tol]) (vs:=[.slice (some ⟨g,0,none⟩) (sp.map pK).length cap,x1,x2,x3]) (a:=a) (λm hm=>hX m (hsub m hm)) rfl hargs hF
 have hc:=Conc.keep [(0,.slice (some ⟨g,0,none⟩) (sp.map pK).length cap)] hc (λt u h=>by
  simp only[uy,ng]at h;obtain⟨rfl,rfl⟩:=h
  exact hF.get 0 _ rfl)
 letI kp1:Kp:=⟨[(0,.slice (some ⟨g,0,none⟩) (sp.map pK).length cap)],[]⟩
 replace hc : @Conc kp1 67 w X1 _ _ _ _:=hc;refine cut_ok (τ:=uO) fU aQ 4 _ (QA:=λz e bx=>z=.normal/\∃j:Nat,j<sp.length/\(sp.getD j S0).2=p/\SubE [(8,.ptr 8 0),(10,.int .i64 (j:Nat))] e/\SubB [(8,.var PD)] bx) ζ ?_ hc (λe bx a1 w1 hq1 hc2=>?_) (λx e b a w hx hq hc=>absurd hq.1 hx)
 case refine_1 =>
  clear hc hF hargs hd0 hcl hR hRS hg hcap hm hn hs0 hgX1 hE1 hsub hX hgX hgw hs
  (conv=>whnf)
  refine Sw.Loop.inv (α:=Nat×Int) (λz=>[(0,.c (.sl 9 (sp.map pK))),(1,.c (.v (.string s))),(6,.ptr 6 0),(7,.ptr 7 0),(8,.ptr 8 0),(9,.bool false),(10,.int .i64 z.2),(11,.int .i64 (z.1:Nat))]) (λz=>[(6,.var (vecC v)),(7,.var (ratC tol)),(8,.var PD)]) (λz=>z.1<=sp.length/\kC (tol*tol) v s sp z.1 z.2) (λz=>sp.length-z.1) (0,-1) ?_ ?_ ?_ (λz hz=>?_)
  .exact⟨rfl,rfl,rfl,rfl,rfl,rfl,rfl,rfl,trivial⟩
  .exact⟨rfl,rfl,rfl,trivial⟩
  .exact⟨jd _,ZQ⟩
  obtain⟨x,b⟩:=z;obtain⟨hx,hb⟩:=hz;simp only at hx hb;have hbx:b = -1\/(0<=b/\b<x):=hb.elim (λh => .inl h.1) (λh => .inr ⟨h.1,h.2.1⟩)
  all_goals(repeat'((try(conv=>whnf));first
   |refine zaa ?_ ?_|(with_reducible first|apply zab|apply zac|refine zad (λ_=>?_) (λ_=>?_))|refine zat (λ_=>?_) (λ_=>?_)|refine zas ζ ?_|refine zan S0 ?_ ?_))
  all_goals(try apply zar)
  all_goals(try simp only[aG,dh]at *)
  all_goals(try simp only[aW]at *)
  all_goals first
   |omega|exact⟨aP (hgd _).1 ψ,aP (hgd _).2 ψ,aP hv.1 ψ,aP hv.2 ψ⟩|exact⟨aP (mg (hgd _).1 (hgd _).2 hv.1 hv.2) ψ,aP hq ψ⟩|exact⟨aP (mg (hgd _).1 (hgd _).2 hv.1 hv.2) ψ,aP (mg (hgd _).1 (hgd _).2 hv.1 hv.2) ψ⟩|((conv=>whnf);exact⟨(x+1,b),⟨⟨rfl,rfl,rfl,rfl,rfl,rfl,rfl,aH ω,trivial⟩,⟨rfl,rfl,rfl,trivial⟩,⟨(by show x+1<=sp.length;omega),Uf hb ω ξ⟩,(by show sp.length-(x+1)<sp.length-x;omega)⟩⟩)|((conv=>whnf);exact⟨(x+1,b),⟨⟨rfl,rfl,rfl,rfl,rfl,rfl,rfl,aH ω,trivial⟩,⟨rfl,rfl,rfl,trivial⟩,⟨(by show x+1<=sp.length;omega),MP hb ω ξ ξ⟩,(by show sp.length-(x+1)<sp.length-x;omega)⟩⟩)|((conv=>whnf);exact⟨(x+1,(x:Int)),⟨⟨rfl,rfl,rfl,rfl,rfl,rfl,rfl,aH ω,trivial⟩,⟨rfl,rfl,rfl,trivial⟩,⟨(by show x+1<=sp.length;omega),IK hb ω ξ ξ (by first|exact .inl ω|exact .inr ξ)⟩,(by show sp.length-(x+1)<sp.length-x;omega)⟩⟩)|((conv=>whnf);exact⟨(x+1,b),⟨⟨rfl,rfl,rfl,rfl,rfl,rfl,rfl,aH ω,trivial⟩,⟨rfl,rfl,rfl,trivial⟩,⟨(by show x+1<=sp.length;omega),G8 hb ω ξ ω ξ⟩,(by show sp.length-(x+1)<sp.length-x;omega)⟩⟩)|((conv=>whnf);have hxx:x=sp.length:=ω;subst hxx;obtain⟨j,rfl,k1,k2⟩:=IJ hb hnq;exact⟨rfl,j,k1,k2,⟨rfl,rfl,trivial⟩,⟨rfl,trivial⟩⟩)|(exfalso;have hxx:x=sp.length:=ω;subst hxx;obtain⟨j,rfl,k1,k2⟩:=IJ hb hnq;omega)
 obtain⟨_,j,hj,hjp,he,hb⟩:=hq1;have hc:=hc2.sub he hb;clear he hb hc2;obtain⟨g8,T8,cs8,v8,hg8,hh8,hr8⟩:=hc.var (t:=8) (i:=8) rfl rfl;have hB:=hc.sz.2.2;have hl8:cs8.size=8:=by have:=hr8.len;simpa using this
 have hFm:Frm 67 a1 [(0,.slice (some ⟨g,0,none⟩) (sp.map pK).length cap),(8,.pointer (some ⟨g8,0,none⟩)),(10,.int .i64 (j:Nat))]:=((hc.frm.cons (hc.get (t:=10) rfl η)).cons v8).cons (hc.kp (.head _));have hsz45:(Tryz.prog.info? 45).map (·.size)=some 8:=ζ
 have hrow:isRow Tryz.prog 45 8=true:=ζ
 obtain⟨_,hsl91,_⟩:=sliceT (tab_at fU (t:=91) rfl);have hjl:j<(sp.map pK).length:=by simpa using hj
 have hju:j<uss.length:=by rw[hRS.len];exact hjl
 have hRj:RepL w X uss[j] (pK (sp.getD j S0)):=hRS.get j _ _ (fM hju) (by simp[iI,hj]);have hl9:(uss[j]).length=9:=hRj.len;have hfl:(uss.flatten).length=uss.length*9:=flatten_len hRS.sz;have hg1:w1.heap[g]?=some (.cells (uss.flatten++rest).toArray 95 (0,0)):=(hB.block g hgw).trans hg;have hx9:j*9+9<=uss.length*9:=by have:=Nat.mul_le_mul_right 9 (show j+1<=uss.length from hju);omega
 have hcut:(uss.flatten++rest).toArray.extract (j*9+1) (j*9+1+8)=((uss[j]).drop 1).toArray:=by
  apply yD;apply NR;intro i;simp only[Array.toList_extract,List.extract_eq_drop_take,JX];rw[wL,BL]
  by_cases hi:i<8
  .rw[if_pos ω,BL,ED ω,Nat.add_assoc,flatten_at hRS.sz (fM hju) (1+i) ω]
  .rw[if_neg ω,List.getElem?_eq_none (by rw[List.length_drop];omega)]
 have hex:j*9+1+8<=(uss.flatten++rest).toArray.size:=by simp only[Ip,bF];omega
 have hrd:RepL w X ((uss[j]).drop 1) (vecC p):=by
  rw[<-hjp];exact hRj.drop 1
 have hld:((uss[j]).drop 1).length=8:=hrd.len;have hst:=run_storeAt (P:=Tryz.prog) (w:=w1) (t:=45) (T:=T8) (g:=g8) (off:=0) (v:=.agg ((uss[j]).drop 1).toArray) (vs:=((uss[j]).drop 1).toArray) (cs:=cs8) rfl (by rw[hsz45];simp[hl9]) (all_one hrd.one) hh8 (by simp[hl9,hl8]);rw[splice_all (by simp[hl9,hl8])]at hst;have hgr:=grownBy_setRow w1 g8 ((uss[j]).drop 1).toArray;have hh8':=setRow_heap w1 g8 cs8 ((uss[j]).drop 1).toArray _ _ hh8;have hB5:Below w.heap.size w (w1.setRow g8 ((uss[j]).drop 1).toArray):=⟨hgr.os.trans hB.os,hgr.tape.trans hB.tape,hgr.output.trans hB.output,aP hB.size hgr.size,λk hk=>(hgr.block k (AP hk hB.size) (λe=>by cases e;omega)).trans (hB.block k hk)⟩
 refine c_seq (c_reg (wp1 rfl (ex_move (hFm.ev rfl)) ?_));replace hFm:=hFm.put (d:=62) ψ (.slice (some ⟨g,0,none⟩) (sp.map pK).length cap);refine wp1 rfl (ex_move (hFm.ev rfl)) ?_;replace hFm:=hFm.put (d:=63) ψ (.int .i64 (j:Nat));refine wp1 rfl (ex_idxq hsl91 (hFm.ev rfl) (hFm.ev rfl) hjl) ?_;replace hFm:=hFm.put (d:=64) ψ (.pointer (some ⟨g,j*9,none⟩));refine wp1 rfl (ex_field_addr (off:=1) ζ (hFm.ev rfl)) ?_;replace hFm:=hFm.put (d:=65) ψ (.pointer (some ⟨g,j*9+1,none⟩));refine wp1 rfl (zO hrow (hFm.ev rfl) hg1 hex) ?_;rw[hcut];replace hFm:=hFm.put (d:=66) ψ (.agg ((uss[j]).drop 1).toArray);refine wp1s rfl (ex_store (hFm.ev rfl) (hFm.ev rfl) hst) ?_;refine wp1 rfl (ex_assign (v:=.bool true) rfl) ?_;replace hFm:=hFm.put (d:=9) ψ (.bool true);refine(show Exit.then _ _ .normal _ _ from x_tn (c_ret ?_));refine LP rfl hFm.defers (xX hFm rfl hrow hh8' (by simp[hl9])) (jh hFm rfl) ⟨_,rfl, ?_,⟨hB5.os,hB5.tape,hB5.output,hB5.size,λk hk _=>hB5.block k hk⟩,rfl,uss,(hB5.block g hgw).trans hg,hRS.ext (Ext.call X hB5)⟩;refine RepR.tup (us:=[_,_]) (vs:=[_,_]) rfl λi u y hu hv=>?_
 match i,hu,hv with
 |0,hu,hv=>cases hu;cases hv;exact .agg (hrd.ext (Ext.call X hB5))
 |1,hu,hv=>cases hu;cases hv;exact .c (.v _ rfl)
def acQ:List Cell:=[.v (.string ⟨#[]⟩),.v (.int .i64 0),.v (.string ⟨#[108,105,110,101]⟩),.v (.int .i64 2),.v (.string ⟨#[97,114,99]⟩),.v (.int .i64 3),.v (.string ⟨#[99,105,114,99,108,101]⟩),.v (.int .i64 1)]
def Ze:List Value:=[.string ⟨#[]⟩,.int .i64 0,.string ⟨#[108,105,110,101]⟩,.int .i64 2,.string ⟨#[97,114,99]⟩,.int .i64 3,.string ⟨#[99,105,114,99,108,101]⟩,.int .i64 1]
def Oa(w:World):Prop:=∀(j:Nat) u,Ze[j]?=some u->w.cell? ((⟨0,0,none⟩:Addr).add j)=some u
theorem OM{w w':World}(h:Oa w)(hb:Below w.heap.size w w'):Oa w':=λj u hu=>by
 have h1:=h j u hu;have hb0:((⟨0,0,none⟩:Addr).add j).block=0:=by unfold Addr.add;split<;>rfl
 have hg:((⟨0,0,none⟩:Addr).add j).block<w.heap.size:=by
  rcases yP ((⟨0,0,none⟩:Addr).add j).block w.heap.size with h'|h'
  .exact h'
  .unfold World.cell? at h1;rw[Array.getElem?_eq_none h']at h1;cases h1
 exact(hb.cell hg).trans h1
instance(priority:=3000) Dx:Wld Tryz.prog:=⟨λw=>Lib.TabIs Tryz.prog w "internal/strconv.uint64pow10" .u64 Lib.pow10Tab/\Oa w,λh hb=>⟨tab_keep h.1 hb,OM h.2 hb⟩,[(0,Ze)],λh g us hm=>by
 simp only[uy,ng]at hm;obtain⟨rfl,rfl⟩:=hm
 exact h.2⟩
instance nY{f:FuncId}{xs:List AV}{pre:Prop}{r:AV}[h : @DenI Tryz.prog sN f xs pre r]:@DenI Tryz.prog Dx f xs pre r:=⟨λhp=>den_lift sN Dx (λ_ h=>h.1) (h.den hp)⟩
instance aaU{f:FuncId}{xs:List AV}{pre c:Prop}{r s:AV}[h : @DenC Tryz.prog sN f xs pre c r s]:@DenC Tryz.prog Dx f xs pre c r s:=⟨λhp=>⟨λhc=>den_lift sN Dx (λ_ h=>h.1) ((h.den hp).1 hc),λhc=>den_lift sN Dx (λ_ h=>h.1) ((h.den hp).2 hc)⟩⟩
def QC:Tab:=(1000000000,.glob 0 acQ)::tab
theorem SC : @tabOk Tryz.prog Dx QC=true:=ζ
theorem aC{f:FuncId}{fn:Func}{c:Code}{xs:List AV}{r:AV}(hf:Tryz.prog.funcs[f]?=some fn)(hb:fn.body=some c)(h:awp (Den Tryz.prog) QC c (endA QC fn r) (argE 0 xs) [])(a:hasBody Tryz.prog f=true:=by kernel_rfl)(t:textOk fn.ntmps c=true:=by kernel_rfl)(l:Nat.ble xs.length fn.ntmps=true:=by kernel_rfl)(n:noTup xs=true:=by rfl):Den Tryz.prog f xs r:=den_of SC aQ hf hb a t l h n
instance ace(n:Nat):DenI Tryz.prog 184 [.int .i64 (n:Nat)] (n<=31) (R ((p10 n:Int):Rat)):=⟨λhp=>by
 refine aC Tryz.func184 rfl ?_
 all_goals(repeat'((try(conv=>whnf));first
  |refine zaa ?_ ?_))
 all_goals(try apply zar)
 all_goals first
  |((conv=>whnf);refine Sw.Loop.inv (α:=Nat) (λx=>[(0,.int .i64 (n:Nat)),(2,.ptr 2 0),(3,.ptr 3 0),(4,.int .i64 (x:Nat))]) (λx=>[(2,.var [.v (.bool false),.sl 1 [],.v (.bool false),.sl 1 []]),(3,.var (ratC ((p10 x:Int):Rat)))]) (λx=>x<=n/\True) (λx=>n-x) 0 ?_ ?_ ?_ (λx hx=>?_))|skip
 all_goals(repeat'((try(conv=>whnf));first
  |refine zaa ?_ ?_|(with_reducible refine zad (λ_=>?_) (λ_=>?_))|refine zas ζ ?_|apply zaq))
 all_goals(try apply zar)
 all_goals first|(show SubE _ _;repeat'(first|exact trivial|refine And.intro ?_ ?_))|(show SubB _ _;repeat'(first|exact trivial|refine And.intro ?_ ?_))|skip
 all_goals(try rfl)
 all_goals first
  |omega|exact⟨jd _,trivial⟩|(have z1:=Ap (n:=x) ω;exact⟨ω,aP (F8 10 ψ ψ) ψ⟩)|((with_reducible show packA _=_);have hxx:x=n:=ω;subst hxx;rfl)|((conv=>whnf);exact⟨x+1,⟨⟨rfl,rfl,rfl,aH ω,trivial⟩,⟨rfl,(by show some (Bk.var (ratC (((p10 x:Int):Rat)*((10:Int):Rat))))=some (Bk.var (ratC ((p10 (x+1):Int):Rat)));rw[Rw]),trivial⟩,⟨ω,trivial⟩,by show n-(x+1)<n-x;omega⟩⟩)⟩
instance abT(n:Int)(k:Nat):DenI Tryz.prog 185 [Z n,.int .i64 (k:Nat)] (sz n<=50/\k<=30) (.str (Jz n k)):=⟨λhp=>by
 have z0:=Bj hp.1;have z1:=yY n;have z2:=Fp hp.1 hp.2;have z3:=Hg n;have z4:=XP n;have hsz:sz n<=100000:=aP hp.1 ψ
 by_cases hn:n<0
 all_goals first
  |(have hh:=Px hn;have he:=acj hn;have hg:=YS hn)|(have hh:=KA hn;have he:=adB hn;have hg:=Zh hn)
 all_goals refine aC Tryz.func185 rfl ?_
 all_goals(repeat'((try(conv=>whnf));first
  |(with_reducible first|refine dS ξ ?_|refine dY ξ ?_)|refine zaa ?_ ?_|refine zas ζ ?_|refine zam ?_ ?_|(with_reducible refine oD ?_ ?_)))
 all_goals(try apply zar)
 all_goals first
  |((conv=>whnf);refine Sw.Loop.inv (α:=Nat) (λx=>[(1,.int .i64 (k:Nat)),(2,.ptr 2 0),(5,.str (kY x++kV n)),(6,.str (BO n))]) (λx=>[(2,.var [zs n,zl n])]) (λx=>x<=k+1-(kV n).size/\True) (λx=>(k+1-(kV n).size)-x) 0 ?_ ?_ ?_ (λx hx=>?_))|skip
 all_goals(repeat'((try(conv=>whnf));first
  |(with_reducible refine zad (λ_=>?_) (λ_=>?_))|refine zah ?_ ?_|refine zas ζ ?_|refine zam ?_ ?_|apply zaq))
 all_goals(try apply zar)
 all_goals(try simp only[uJ,DJ,dh,Ox]at *)
 all_goals(try(have hE:=zpE (n:=n) (j:=x) (k:=k) hx.1 ξ;simp only[hE]at *))
 all_goals(try simp(disch:=omega) only[aS]at *)
 all_goals first
  |omega|trivial|(refine⟨ω,ω,ω,ω, ?_⟩;intro h;first|exact h|rfl|(cases h))|((with_reducible show(_:Nat)<=_);(try simp only[Py,PG,jH]);have e1:(ByteArray.mk #[48]).size=1:=rfl;have e2:(ByteArray.mk #[46]).size=1:=rfl;omega)|(refine Ei ?_;rw[acY ξ];done)|(refine Ei ?_;rw[adw ξ rfl ω rfl];done)|exact⟨jd _,trivial⟩|exact⟨rfl,rfl,(by show some (AV.str _)=some (AV.str _);rw[he]),(by show some (AV.str _)=some (AV.str _);rw[hg]),trivial⟩|((conv=>whnf);exact⟨x+1,⟨⟨rfl,rfl,(by show some (AV.str _)=some (AV.str _);rw[zpS]),rfl,trivial⟩,⟨rfl,trivial⟩,⟨by have hq:((kY x++kV n).size:Int)<=k:=ξ;rw[Py,jH]at hq;omega,trivial⟩,(by have hq:((kY x++kV n).size:Int)<=k:=ξ;rw[Py,jH]at hq;show(k+1-(kV n).size)-(x+1)<(k+1-(kV n).size)-x;omega)⟩⟩)⟩
instance aed(a:Rat):DenI Tryz.prog 138 [R a] (rz a<=20) (.tup [.str (exS a),.bool (PS a).isSome]):=⟨λhp=>by
 have ia:RzB a 20:=⟨hp⟩
 all_goals refine aC Tryz.func138 rfl ?_
 all_goals first
  |((conv=>whnf);refine Sw.Loop.inv (α:=Nat) (λx=>[(1,.ptr 1 0),(4,.int .i64 (x:Nat))]) (λx=>[(1,.var (ratC a))]) (λx=>x<=31/\∀j<x,¬10^j%a.den=0) (λx=>31-x) 0 ?_ ?_ ?_ (λx hx=>?_))
 all_goals(repeat'((try(conv=>whnf));first
  |apply zaf|refine zaa ?_ ?_|(with_reducible refine zad (λ_=>?_) (λ_=>?_))|refine zas ζ ?_|apply zaq))
 all_goals(try apply zar)
 all_goals first|(show SubE _ _;repeat'(first|exact trivial|refine And.intro ?_ ?_))|(show SubB _ _;repeat'(first|exact trivial|refine And.intro ?_ ?_))|skip
 all_goals(try rfl)
 all_goals(try simp only[aW]at *)
 all_goals first
  |omega|exact⟨jd _,λj hj=>absurd hj (Bd _)⟩|(have z1:=Ap (n:=x) ω;exact⟨ω,ω⟩)|exact⟨OQ hp ω,ω⟩|((conv=>whnf);exact⟨x+1,⟨⟨rfl,aH ω,trivial⟩,⟨rfl,trivial⟩,⟨ω,bU hx.2 (λe=>by have:=(dm1 (a:=a) (x:=x)).2 e;first|contradiction|(simp_all;done))⟩,(by show 31-(x+1)<31-x;omega)⟩⟩)|(exfalso;have z3:=Ns (OQ (a:=a) (x:=x) hp ω) (k:=x) ω;omega)|((with_reducible show packA _=_);obtain⟨e1,e2⟩:=SI (a:=a) (x:=x) ω hx.2 (by first|assumption|(simp_all;done));rw[e1,e2];rfl)|((with_reducible show packA _=_);obtain⟨e1,e2⟩:=Wj (a:=a) (λj hj=>hx.2 j ω);rw[e1,e2];rfl)⟩
instance abv(c:Nat):DenI Tryz.prog 136 [.c (.v (.int .u8 (c:Nat)))] (True) (.bool (Un c)):=⟨λhp=>by
 refine aC Tryz.func136 rfl ?_
 all_goals(repeat'((try(conv=>whnf));first
  |(with_reducible first|apply zab|apply zac|refine zad (λ_=>?_) (λ_=>?_))|apply zaq))
 all_goals first
  |(refine bE ?_;rw[vG];simp only[Un,zS,bY,decide_eq_true_eq,uj,iff_true,true_iff,iff_false,false_iff];omega)⟩
instance acr(c:Nat):DenI Tryz.prog 183 [.c (.v (.int .u8 (c:Nat)))] (True) (.bool (YQ c)):=⟨λhp=>by
 refine aC Tryz.func183 rfl ?_
 all_goals(repeat'((try(conv=>whnf));first
  |(with_reducible first|apply zab|apply zac|refine zad (λ_=>?_) (λ_=>?_))|apply zaq))
 all_goals first
  |(refine bE ?_;rw[vG];simp only[YQ,zS,bY,decide_eq_true_eq,uj,iff_true,true_iff,iff_false,false_iff];omega)⟩
instance aaX(s:ByteArray):DenI Tryz.prog 137 [.c (.v (.string s))] (s.size<=1000000) (.int .i64 (ZW s:Nat)):=⟨λhp=>by
 refine aC Tryz.func137 rfl ?_
 all_goals first
  |((conv=>whnf);refine Sw.Loop.inv (α:=Nat) (λx=>[(0,.c (.v (.string s))),(3,.int .i64 (x:Nat))]) (λx=>[]) (λx=>x<=s.size/\∀j<x,J7 ((kS s).getD j 0)=true) (λx=>s.size-x) 0 ?_ ?_ ?_ (λx hx=>?_))
 all_goals(repeat'((try(conv=>whnf));first
  |apply zaf|(with_reducible first|apply zab|apply zac|refine zad (λ_=>?_) (λ_=>?_))|refine zat (λ_=>?_) (λ_=>?_)|(with_reducible refine oD ?_ ?_)|apply zaq))
 all_goals(try apply zar)
 all_goals(try simp only[uJ,DJ,dh,Ox]at *)
 all_goals first
  |omega|trivial|exact⟨jd _,λj hj=>absurd hj (Bd _)⟩|((conv=>whnf);exact⟨x+1,⟨⟨rfl,aH ω,trivial⟩,trivial,⟨ω,bU hx.2 (by unfold J7;simp_all<;>omega)⟩,(by show s.size-(x+1)<s.size-x;omega)⟩⟩)|((with_reducible show packA _=_);refine iE ?_;rw[NY hx.1 hx.2 (λh=>by first|(exfalso;omega)|(unfold J7;simp_all<;>omega))];done)⟩
instance ad1(s:ByteArray):DenI Tryz.prog 103 [.c (.v (.string s))] (s.size<=1000000) (.bool (zV s)):=⟨λhp=>by
 refine aC Tryz.func103 rfl ?_
 all_goals(repeat'((try(conv=>whnf));first
  |apply zaf|refine zaa ?_ ?_|(with_reducible first|apply zab|apply zac|refine zad (λ_=>?_) (λ_=>?_))|refine zat (λ_=>?_) (λ_=>?_)|(with_reducible refine oD ?_ ?_)|apply zaq))
 all_goals(try apply zar)
 all_goals(try simp only[uJ,DJ,dh,Ox]at *)
 all_goals first
  |omega|(refine bE ?_;unfold zV;rw[vG];simp_all;done)|(refine bE ?_;unfold zV;rw[vG];simp_all;omega)⟩
instance aeu(n:Nat):DenI Tryz.prog 254 [.int .i64 (n:Nat)] (n<=31) (Z (p10 n)):=⟨λhp=>by
 refine aC Tryz.func254 rfl ?_
 all_goals(repeat'((try(conv=>whnf));first
  |refine zaa ?_ ?_))
 all_goals(try apply zar)
 all_goals first
  |((conv=>whnf);refine Sw.Loop.inv (α:=Nat) (λx=>[(2,.ptr 2 0),(3,.ptr 3 0),(4,.ptr 4 0),(7,.int .i64 (n:Nat)),(8,.int .i64 (x:Nat))]) (λx=>[(2,.var [.v (.bool false),.sl 1 []]),(3,.var [zs (p10 x),zl (p10 x)]),(4,.var [zs 10,zl 10])]) (λx=>x<=n/\True) (λx=>n-x) 0 ?_ ?_ ?_ (λx hx=>?_))|skip
 all_goals(repeat'((try(conv=>whnf));first
  |refine zaa ?_ ?_|(with_reducible refine zad (λ_=>?_) (λ_=>?_))|apply zaq))
 all_goals(try apply zar)
 all_goals first|(show SubE _ _;repeat'(first|exact trivial|refine And.intro ?_ ?_))|(show SubB _ _;repeat'(first|exact trivial|refine And.intro ?_ ?_))|skip
 all_goals(try rfl)
 all_goals first
  |omega|exact⟨jd _,trivial⟩|exact⟨aP (xR ω) ψ,aP (dV (n:=10) ψ ψ) ψ⟩|((with_reducible show packA _=_);have hxx:x=n:=ω;subst hxx;rfl)|((conv=>whnf);exact⟨x+1,⟨⟨rfl,rfl,rfl,rfl,aH ω,trivial⟩,⟨rfl,(by show some (Bk.var [zs (p10 x*10),zl (p10 x*10)])=some (Bk.var [zs (p10 (x+1)),zl (p10 (x+1))]);rw[yj]),rfl,trivial⟩,⟨ω,trivial⟩,by show n-(x+1)<n-x;omega⟩⟩)⟩
instance ad9(a:Rat)(n:Nat):DenI Tryz.prog 223 [R a,.int .i64 (n:Nat)] (rz a<=100/\n<=30) (R (Uw a n)):=⟨λhp=>by
 have z1:=Ap (n:=n) ω;have z2:=xR (n:=n) ω
 all_goals refine aC Tryz.func223 rfl ?_
 all_goals(repeat'((try(conv=>whnf));first
  |refine zaa ?_ ?_|refine zao ?_ (λ_=>?_) (λ_=>?_)|apply zaq))
 all_goals(try apply zar)
 all_goals(try simp only[aW]at *)
 all_goals first
  |rfl|omega|exact⟨aP z2 ψ,aP (dV (n:=1) ψ ψ) ψ⟩|(refine⟨ω, ?_⟩;have:=Lh (n:=n) ω;omega)⟩
instance aea(s:ByteArray):DenI Tryz.prog 225 [.str s] (s.size<=1000) (.tup [.str s,.bool true]):=⟨λhp=>by
 refine aC Tryz.func225 rfl ?_
 all_goals(repeat'((try(conv=>whnf));first
  |(with_reducible refine zad (λ_=>?_) (λ_=>?_))|apply zaq))
 all_goals first
  |rfl|(exfalso;omega)⟩
theorem Zc{k:Nat}(hk:k<=40)(w:World):Calls Tryz.prog 256 #[.string ⟨#[48]⟩,.int .i64 k] w λe w'=>e=.returned (.string (kY k))/\Below w.heap.size w w':=by
 refine(Any.strings_Repeat Nv Ut ⟨#[48]⟩ k w ω (by show 1*k<=_;omega)).mono ?_;rintro e w' ⟨rfl,hb⟩;refine⟨?_,hb⟩
 have:Lib.repeatL [(48:UInt8)] k=List.replicate k 48:=by
  have:∀k:Nat,k<=40->Lib.repeatL [(48:UInt8)] k=List.replicate k 48:=by decide +kernel
  exact this k hk
 rw[show(ByteArray.mk #[48]).data.toList=[(48:UInt8)]from rfl,this];rfl
instance aeb(z:Int):DenI Tryz.prog 256 [.c (.v (.string ⟨#[48]⟩)),.c (.v (.int .i64 z))] (0<=z/\z<=40) (.c (.v (.string (kY z.toNat)))):=⟨λhp=>by
 obtain⟨n,rfl⟩:=Int.eq_ofNat_of_zero_le hp.1;refine Den.of ⟨ζ,λw X vs hW hX hl hr=>?_⟩ rfl
 match vs,hl with
 |[u,v],_ =>
 have hu:u=.string ⟨#[48]⟩:=by
  have:=hr 0 u _ rfl rfl;cases this with
  |c h=>cases h;rfl
 have hv:v=.int .i64 (n:Nat):=by
  have:=hr 1 v _ rfl rfl;cases this with
  |c h=>cases h;rfl
 subst hu hv;refine Calls.mono (Zc (k:=n) ω w) ?_;rintro e w' ⟨rfl,hb⟩
 exact⟨_,rfl,(RepR.d (.c (.v _ rfl))).f,hb⟩⟩
instance aen(n:Int)(k:Nat):DenI Tryz.prog 224 [Z n,.int .i64 (k:Nat)] (sz n<=50/\k<=30) (.str (Jz n k)):=⟨λhp=>by
 have z0:=Bj hp.1;have z1:=yY n;have z2:=Fp hp.1 hp.2
 by_cases hn:n<0
 all_goals refine aC Tryz.func224 rfl ?_
 all_goals(repeat'((try(conv=>whnf));first
  |apply zaf|refine zaa ?_ ?_|(with_reducible refine zad (λ_=>?_) (λ_=>?_))|refine zah ?_ ?_|refine zas ζ ?_|refine zam ?_ ?_|apply zaq))
 all_goals(try apply zar)
 all_goals(try simp only[aW]at *)
 all_goals(try(exfalso;omega))
 all_goals(try simp only[uJ,DJ,dh,UM hn]at *)
 all_goals(try simp only[uJ,DJ,dh,TQ hn]at *)
 all_goals(try simp(disch:=omega) only[aS]at *)
 all_goals(try(have hle:(kV n).size<=k:=ω;have hB:=YZ (n:=n) (k:=k) hle;simp only[hB]at *))
 all_goals(try(have hle:¬(kV n).size<=k:=ω;have hB:=Uz (n:=n) (k:=k) hle))
 all_goals(try simp(disch:=omega) only[aS]at *)
 all_goals first
  |omega|(refine Ei ?_;rw[TL ω];unfold BO;first|rw[if_pos hn]|rw[if_neg hn])|(refine⟨ω,ω,ω,ω, ?_⟩;intro h;first|exact h|rfl|(cases h))|((with_reducible show(_:Nat)<=_);(try simp only[Py,PG,jH]);have e1:(ByteArray.mk #[45]).size=1:=rfl;have e2:(ByteArray.mk #[46]).size=1:=rfl;have e3:(ByteArray.mk #[]).size=0:=rfl;omega)|(refine Ei ?_;rw[Nl ω,show((↑(uV n k).size:Int) - ↑k).toNat=(uV n k).size-k by omega];unfold BO;first|(rw[if_pos hn];rfl)|(rw[if_neg hn];rfl))|(refine Ei ?_;rw[Nl ω,hB,show((↑(kV n).size:Int) - ↑k).toNat=(kV n).size-k by omega];unfold BO;first|(rw[if_pos hn];rfl)|(rw[if_neg hn];rfl))⟩
instance afU(x:Nat)(a:Rat):DenI Tryz.prog 200 [Z (p10 x),Z (a.den:Int)] (x<=31/\rz a<=1000) (.tup [Z ((p10 x).fdiv (a.den:Int)),Z ((10 ^ x % a.den:Nat):Int),.int .i64 0]):=⟨λhp=>by
 have h:=(inferInstance:DenI Tryz.prog 200 [Z (p10 x),Z (a.den:Int)] _ _).den (by exact⟨aP (xR hp.1) ψ,aP (gu a) ω⟩);rw[if_neg (aj a),if_neg (aj a),show(p10 x).fmod (a.den:Int)=((10^x%a.den:Nat):Int) by unfold p10;rw[Int.fmod_eq_emod_of_nonneg _ ω];omega]at h
 exact h⟩
instance af9(a:Rat):DenI Tryz.prog 181 [R a] (rz a<=20) (.tup [.str (exS a),.bool (PS a).isSome]):=⟨λhp=>by
 refine aC Tryz.func181 rfl ?_
 all_goals(repeat'((try(conv=>whnf));first
  |refine zaa ?_ ?_))
 all_goals(try apply zar)
 all_goals first
  |((conv=>whnf);refine Sw.Loop.inv (α:=Nat) (λx=>[(1,.ptr 1 0),(5,.ptr 5 0),(6,.int .i64 (x:Nat))]) (λx=>[(1,.var (ratC a)),(5,.var [zs (p10 x),zl (p10 x)])]) (λx=>x<=31/\∀j<x,¬10^j%a.den=0) (λx=>31-x) 0 ?_ ?_ ?_ (λx hx=>?_))|skip
 all_goals(repeat'((try(conv=>whnf));first
  |apply zaf|refine zaa ?_ ?_|(with_reducible refine zad (λ_=>?_) (λ_=>?_))|refine zas ζ ?_|apply zaq))
 all_goals(try apply zar)
 all_goals first|(show SubE _ _;repeat'(first|exact trivial|refine And.intro ?_ ?_))|(show SubB _ _;repeat'(first|exact trivial|refine And.intro ?_ ?_))|skip
 all_goals(try rfl)
 all_goals(try simp only[aW]at *)
 all_goals first
  |omega|exact⟨jd _,λj hj=>absurd hj (Bd _)⟩|exact⟨aP (xR ω) ψ,aP (dV (n:=10) ψ ψ) ψ⟩|((conv=>whnf);exact⟨x+1,⟨⟨rfl,rfl,aH ω,trivial⟩,⟨rfl,(by show some (Bk.var [zs (p10 x*10),zl (p10 x*10)])=some (Bk.var [zs (p10 (x+1)),zl (p10 (x+1))]);rw[yj]),trivial⟩,⟨ω,bU hx.2 ω⟩,by show 31-(x+1)<31-x;omega⟩⟩)|exact⟨E8 hp ω,ω⟩|exact Ns (E8 hp ω) ω|(have e:=LH (a:=a) (x:=x) ω hx.2 ω;simp only[exS,e];rfl)|(have e:=Ua (a:=a) (λj hj=>hx.2 j ω);simp only[exS,e];rfl)⟩
instance afl(c:Nat):DenI Tryz.prog 175 [.c (.v (.int .u8 (c:Nat)))] (True) (.bool (Un c)):=⟨λhp=>by
 refine aC Tryz.func175 rfl ?_
 all_goals(repeat'((try(conv=>whnf));first
  |(with_reducible first|apply zab|apply zac|refine zad (λ_=>?_) (λ_=>?_))|apply zaq))
 all_goals first
  |(refine bE ?_;rw[vG];simp only[Un,zS,bY,decide_eq_true_eq,uj,iff_true,true_iff,iff_false,false_iff];omega)⟩
instance ae3(c:Nat):DenI Tryz.prog 220 [.c (.v (.int .u8 (c:Nat)))] (True) (.bool (YQ c)):=⟨λhp=>by
 refine aC Tryz.func220 rfl ?_
 all_goals(repeat'((try(conv=>whnf));first
  |(with_reducible first|apply zab|apply zac|refine zad (λ_=>?_) (λ_=>?_))|apply zaq))
 all_goals first
  |(refine bE ?_;rw[vG];simp only[YQ,zS,bY,decide_eq_true_eq,uj,iff_true,true_iff,iff_false,false_iff];omega)⟩
instance ae9(c:Nat):DenI Tryz.prog 177 [.c (.v (.int .u8 (c:Nat)))] (True) (.bool (J7 c)):=⟨λhp=>by
 refine aC Tryz.func177 rfl ?_
 all_goals(repeat'((try(conv=>whnf));first
  |apply zaf|(with_reducible first|apply zab|apply zac|refine zad (λ_=>?_) (λ_=>?_))|refine zat (λ_=>?_) (λ_=>?_)|apply zaq))
 all_goals first
  |(refine bE ?_;rw[vG];simp only[J7,zS,bY,decide_eq_true_eq,uj,iff_true,true_iff,iff_false,false_iff];omega)|(refine bE ?_;unfold J7;simp_all;done)|(refine bE ?_;unfold J7;simp only[*,Bh];rw[vG];simp only[zS,decide_eq_true_eq];omega)⟩
instance ae6(s:ByteArray):DenI Tryz.prog 176 [.c (.v (.string s)),.int .i64 0,.c (.v (.func (.func 177) #[] #[]))] (s.size<=1000000) (.int .i64 (ZW s:Nat)):=⟨λhp=>by
 refine aC Tryz.func176 rfl ?_
 all_goals first
  |((conv=>whnf);refine Sw.Loop.inv (α:=Nat) (λx=>[(0,.c (.v (.string s))),(1,.int .i64 (x:Nat)),(2,.c (.v (.func (.func 177) #[] #[])))]) (λx=>[]) (λx=>x<=s.size/\∀j<x,J7 ((kS s).getD j 0)=true) (λx=>s.size-x) 0 ?_ ?_ ?_ (λx hx=>?_))
 all_goals(repeat'((try(conv=>whnf));first
  |apply zaf|(with_reducible first|apply zab|apply zac|refine zad (λ_=>?_) (λ_=>?_))|refine zat (λ_=>?_) (λ_=>?_)|(with_reducible refine oD ?_ ?_)|apply zaq))
 all_goals(try apply zar)
 all_goals(try simp only[uJ,DJ,dh,Ox]at *)
 all_goals first
  |omega|trivial|exact⟨jd _,λj hj=>absurd hj (Bd _)⟩|((conv=>whnf);exact⟨x+1,⟨⟨rfl,aH ω,rfl,trivial⟩,trivial,⟨ω,bU hx.2 ξ⟩,(by show s.size-(x+1)<s.size-x;omega)⟩⟩)|(refine iE ?_;rw[NY hx.1 hx.2 (λh=>by first|assumption|omega)];done)⟩
instance aeP(s:ByteArray):DenI Tryz.prog 132 [.c (.v (.string s))] (s.size<=1000000) (.bool (zV s)):=⟨λhp=>by
 refine aC Tryz.func132 rfl ?_
 all_goals(repeat'((try(conv=>whnf));first
  |apply zaf|refine zaa ?_ ?_|(with_reducible first|apply zab|apply zac|refine zad (λ_=>?_) (λ_=>?_))|refine zat (λ_=>?_) (λ_=>?_)|(with_reducible refine oD ?_ ?_)|apply zaq))
 all_goals(try apply zar)
 all_goals(try simp only[uJ,DJ,dh,Ox]at *)
 all_goals first
  |omega|(have z:=KO ξ;omega)|(refine bE ?_;have z:=KO ξ;rw[Xz z ω ξ];exact decide_eq_decide.2 ω)|(refine bE ?_;rw[U9 (by first|exact .inl (P7 ξ)|exact .inr (.inl ω)|exact .inr (.inr ξ))];done)⟩
instance afC(l:LayD):DenI Tryz.prog 100 [.agg (aV l)] (l.name.size<=1000000) (.bool (wR l)):=⟨λhp=>by
 refine aC Tryz.func100 rfl ?_
 all_goals(repeat'((try(conv=>whnf));first
  |refine zaa ?_ ?_|(with_reducible first|apply zab|apply zac|refine zad (λ_=>?_) (λ_=>?_))|refine zat (λ_=>?_) (λ_=>?_)|apply zaq))
 all_goals(try apply zar)
 all_goals first
  |omega|(refine bE ?_;unfold wR;rw[vG];simp_all;done)|(refine bE ?_;unfold wR;rw[vG];simp_all;omega)⟩
instance aeZ(l:LayD)(s:ByteArray):DenI Tryz.prog 134 [.agg (aV l),.c (.p [.v (.string s)])] (True) (.bool (eqS l.name s)):=⟨λhp=>by
 refine aC Tryz.func134 rfl ?_
 all_goals(repeat'((try(conv=>whnf));first
  |apply zaq))
 all_goals first
  |rfl⟩
instance af0(ls:List LayD)(s:ByteArray):DenI Tryz.prog 133 [.c (.sl 3 (ls.map aV)),.c (.fn 134 [.p [.v (.string s)]])] (ls.length<=1000) (.int .i64 (kU ls s)):=⟨λhp=>by
 refine aC Tryz.func133 rfl ?_
 all_goals first
  |((conv=>whnf);refine Sw.Loop.inv (α:=Nat) (λk=>[(0,.c (.sl 3 (ls.map aV))),(1,.c (.fn 134 [.p [.v (.string s)]])),(6,.c (.sl 3 (ls.map aV))),(7,.int .i64 (ls.length:Nat)),(8,.int .i64 (k:Nat))]) (λk=>[]) (λk=>k<=ls.length/\∀j<k,eqS (ls.getD j L0).name s=false) (λk=>ls.length-k) 0 ?_ ?_ ?_ (λk hk=>?_))
 all_goals(repeat'((try(conv=>whnf));first
  |apply zaf|(with_reducible refine zad (λ_=>?_) (λ_=>?_))|refine zat (λ_=>?_) (λ_=>?_)|refine zan L0 ?_ ?_|apply zaq))
 all_goals(try apply zar)
 all_goals(try simp only[aG,dh]at *)
 all_goals first
  |omega|trivial|exact⟨jd _,λj hj=>absurd hj (Bd _)⟩|((conv=>whnf);exact⟨k+1,⟨⟨rfl,rfl,rfl,rfl,aH ω,trivial⟩,trivial,⟨ω,bU hk.2 ξ⟩,(by show ls.length-(k+1)<ls.length-k;omega)⟩⟩)|((with_reducible show packA _=_);rw[vS (x:=k) ω hk.2 ξ];rfl)|((with_reducible show packA _=_);have hxx:k=ls.length:=ω;subst hxx;rw[L9 hk.2];rfl)⟩
instance ad7(ls:List LayD)(s:ByteArray):DenI Tryz.prog 101 [.c (.sl 3 (ls.map aV)),.c (.v (.string s))] (ls.length<=1000) (.int .i64 (kU ls s)):=⟨λhp=>by
 refine aC Tryz.func101 rfl ?_
 all_goals(repeat'((try(conv=>whnf));first
  |refine zaa ?_ ?_|apply zaq))
 all_goals(try apply zar)
 all_goals first
  |omega|rfl⟩
instance afT(a:Rat):DenI Tryz.prog 182 [R a] (rz a<=1000) (R (a*zo)):=⟨λhp=>by
 have i_a:RzB a 1000:=⟨hp⟩
 all_goals refine aC Tryz.func182 rfl ?_
 all_goals(repeat'((try(conv=>whnf));first
  |refine zaa ?_ ?_|refine zas ζ ?_|apply zaq))
 all_goals(try apply zar)
 all_goals first
  |(have z1:=BD;exact⟨ω,aP z1 ψ⟩)|omega|rfl⟩
instance Vz(a:Rat):DenI Tryz.prog 135 [R a] (rz a<=12) (.bool (xE a)):=⟨λhp=>by
 have z1:=OU;have z2:=UN hp;have hv:=rW a
 all_goals refine aC Tryz.func135 rfl ?_
 all_goals(repeat'((try(conv=>whnf));first
  |refine zaa ?_ ?_|(with_reducible first|apply zab|apply zac|refine zad (λ_=>?_) (λ_=>?_))|refine zat (λ_=>?_) (λ_=>?_)|refine zas ζ ?_|apply zaq))
 all_goals(try apply zar)
 all_goals(try simp only[aW]at *)
 all_goals first
  |(exfalso;rename (!fK _ _ _ _)=true=>h;rw[rW]at h;cases h)|omega|(refine⟨?_, ?_⟩<;>first|(rw[fG];omega)|omega)|(have e1:(lim a.num.natAbs).length<=rz a:=fH a;have e2:(lim (a.den:Int).natAbs).length<=rz a:=gu a;omega)|(refine bE ?_;unfold xE;simp only[*,not_true,not_false_iff,decide_true,decide_false,BM,PI,Bool.and_false];done)⟩
instance(priority:=50) VD(r:Rq):DenI Tryz.prog 135 [.agg (Gs r)] (yA r/\vR r=false) (.bool false):=⟨λhp=>by
 obtain⟨hp1,hp2⟩:=hp;unfold vR at hp2;obtain⟨hp3,hp4⟩:=hp1
 all_goals refine aC Tryz.func135 rfl ?_
 all_goals(repeat'((try(conv=>whnf));first
  |apply zaf|refine zaa ?_ ?_|refine zao ?_ (λ_=>?_) (λ_=>?_)|(with_reducible first|apply zab|apply zac|refine zad (λ_=>?_) (λ_=>?_)|refine zae (λ_=>?_) (λ_=>?_))|refine zat (λ_=>?_) (λ_=>?_)|refine zah ?_ ?_|refine zas ζ ?_|refine zal ?_ ?_|refine zam ?_ ?_|(with_reducible first|refine zak ?_ ?_|apply zaj|apply zai)|apply zaq))
 all_goals(try apply zar)
 all_goals first
  |omega|rfl|(exfalso;rename (!fK _ _ _ _)=false=>h;rw[hp2]at h;cases h)|exact⟨ω,ω⟩|skip⟩
instance(priority:=2000) x_len(r:Rq):DenI Tryz.prog 135 [.agg (Gs r)] (yA r) (.bool (eH r)):=⟨λhp=>by
 cases v:vR r with
 |false =>
  have h:=(VD r).den ⟨hp,v⟩;have e:eH r=false:=by unfold eH;rw[v];rfl
  rw[e];exact h
 |true =>
  have e:=qK v;have e2:eH r=xE (qR r):=by unfold eH;rw[v];rfl
  have hz:rz (qR r)<=12:=wO (e▸hp);have h:=(Vz (qR r)).den hz;rw[e2];generalize qR r=q at e h;subst e
  exact h⟩
instance(priority:=2000) aeG(r:Rq):DenI Tryz.prog 49 [.agg (Gs r)] (vR r=true) (.int .i64 (aN (qR r))):=⟨λv=>by
 have e:=qK v;have h:=(inferInstance:DenI Tryz.prog 49 [R (qR r)] _ (.int .i64 (aN (qR r)))).den trivial;generalize qR r=q at e h ⊢;subst e
 exact h⟩
instance(priority:=50) Vw(ly:ByteArray)(pts:List (Rq × Rq))(rd:Rq):DenI Tryz.prog 102 [.agg [.v (.int .i64 1),.v (.string ly),.sl 8 (pts.map iY),.v (.bool rd.a),lmc rd.l,.v (.bool rd.b),lmc rd.m]] (kE ⟨1,ly,pts,rd⟩) (.bool (iC ⟨1,ly,pts,rd⟩)):=⟨λhp=>by
 have hpl:pts.length<=5:=hp.2.2.1;have hpr:yA rd:=hp.2.1
 all_goals refine aC Tryz.func102 rfl ?_
 all_goals(repeat'((try(conv=>whnf));first
  |apply zaf|refine zaa ?_ ?_|refine zao ?_ (λ_=>?_) (λ_=>?_)|(with_reducible first|apply zab|apply zac|refine zad (λ_=>?_) (λ_=>?_)|refine zae (λ_=>?_) (λ_=>?_))|refine zat (λ_=>?_) (λ_=>?_)|refine zah ?_ ?_|refine zas ζ ?_|refine zal ?_ ?_|refine zam ?_ ?_|(with_reducible first|refine zak ?_ ?_|apply zaj|apply zai)|refine zan mQ ?_ ?_|apply zaq))
 all_goals(try apply zar)
 all_goals first
  |((conv=>whnf);refine Sw.Loop.inv (α:=Nat) (λx=>[(1,.ptr 1 0),(25,.c (.sl 8 (pts.map iY))),(26,.int .i64 (pts.length:Nat)),(27,.int .i64 (x:Nat))]) (λx=>[(1,.var [.v (.int .i64 1),.v (.string ly),.sl 8 (pts.map iY),.v (.bool rd.a),lmc rd.l,.v (.bool rd.b),lmc rd.m])]) (λx=>x<=pts.length/\∀j<x,(eH (pts.getD j mQ).1&&eH (pts.getD j mQ).2)=true) (λx=>pts.length-x) 0 ?_ ?_ ?_ (λx hx=>?_))|skip
 all_goals(repeat'((try(conv=>whnf));first
  |apply zaf|refine zaa ?_ ?_|refine zao ?_ (λ_=>?_) (λ_=>?_)|(with_reducible first|apply zab|apply zac|refine zad (λ_=>?_) (λ_=>?_)|refine zae (λ_=>?_) (λ_=>?_))|refine zat (λ_=>?_) (λ_=>?_)|refine zah ?_ ?_|refine zas ζ ?_|refine zal ?_ ?_|refine zam ?_ ?_|(with_reducible first|refine zak ?_ ?_|apply zaj|apply zai)|refine zan mQ ?_ ?_|apply zaq))
 all_goals(try apply zar)
 all_goals(try simp only[aG,dh]at *)
 all_goals(try simp only[aW]at *)
 all_goals first
  |(exfalso;omega)|omega|trivial|exact⟨jd _,λj hj=>absurd hj (Bd _)⟩|exact(jD hp (by show _<pts.length;omega)).1|exact(jD hp (by show _<pts.length;omega)).2|exact hpr|exact Ag ξ|exact⟨rfl,rfl,by simp only[aG];rfl,rfl,trivial⟩|exact za4|exact za7|exact zbd|((conv=>whnf);exact⟨x+1,⟨⟨rfl,rfl,rfl,aH ω,trivial⟩,⟨rfl,trivial⟩,⟨ω,bU hx.2 χ⟩,(by show pts.length-(x+1)<pts.length-x;omega)⟩⟩)|skip⟩
instance(priority:=50) U7(ly:ByteArray)(pts:List (Rq × Rq))(rd:Rq):DenI Tryz.prog 102 [.agg [.v (.int .i64 2),.v (.string ly),.sl 8 (pts.map iY),.v (.bool rd.a),lmc rd.l,.v (.bool rd.b),lmc rd.m]] (kE ⟨2,ly,pts,rd⟩) (.bool (iC ⟨2,ly,pts,rd⟩)):=⟨λhp=>by
 have hpl:pts.length<=5:=hp.2.2.1;have hpr:yA rd:=hp.2.1
 all_goals refine aC Tryz.func102 rfl ?_
 all_goals(repeat'((try(conv=>whnf));first
  |apply zaf|refine zaa ?_ ?_|refine zao ?_ (λ_=>?_) (λ_=>?_)|(with_reducible first|apply zab|apply zac|refine zad (λ_=>?_) (λ_=>?_)|refine zae (λ_=>?_) (λ_=>?_))|refine zat (λ_=>?_) (λ_=>?_)|refine zah ?_ ?_|refine zas ζ ?_|refine zal ?_ ?_|refine zam ?_ ?_|(with_reducible first|refine zak ?_ ?_|apply zaj|apply zai)|refine zan mQ ?_ ?_|apply zaq))
 all_goals(try apply zar)
 all_goals first
  |((conv=>whnf);refine Sw.Loop.inv (α:=Nat) (λx=>[(1,.ptr 1 0),(25,.c (.sl 8 (pts.map iY))),(26,.int .i64 (pts.length:Nat)),(27,.int .i64 (x:Nat))]) (λx=>[(1,.var [.v (.int .i64 2),.v (.string ly),.sl 8 (pts.map iY),.v (.bool rd.a),lmc rd.l,.v (.bool rd.b),lmc rd.m])]) (λx=>x<=pts.length/\∀j<x,(eH (pts.getD j mQ).1&&eH (pts.getD j mQ).2)=true) (λx=>pts.length-x) 0 ?_ ?_ ?_ (λx hx=>?_))|skip
 all_goals(repeat'((try(conv=>whnf));first
  |apply zaf|refine zaa ?_ ?_|refine zao ?_ (λ_=>?_) (λ_=>?_)|(with_reducible first|apply zab|apply zac|refine zad (λ_=>?_) (λ_=>?_)|refine zae (λ_=>?_) (λ_=>?_))|refine zat (λ_=>?_) (λ_=>?_)|refine zah ?_ ?_|refine zas ζ ?_|refine zal ?_ ?_|refine zam ?_ ?_|(with_reducible first|refine zak ?_ ?_|apply zaj|apply zai)|refine zan mQ ?_ ?_|apply zaq))
 all_goals(try apply zar)
 all_goals(try simp only[aG,dh]at *)
 all_goals(try simp only[aW]at *)
 all_goals first
  |(exfalso;omega)|omega|trivial|exact⟨jd _,λj hj=>absurd hj (Bd _)⟩|exact(jD hp (by show _<pts.length;omega)).1|exact(jD hp (by show _<pts.length;omega)).2|exact hpr|exact Ag ξ|exact⟨rfl,rfl,by simp only[aG];rfl,rfl,trivial⟩|exact za4|exact za7|exact zbe|((conv=>whnf);exact⟨x+1,⟨⟨rfl,rfl,rfl,aH ω,trivial⟩,⟨rfl,trivial⟩,⟨ω,bU hx.2 χ⟩,(by show pts.length-(x+1)<pts.length-x;omega)⟩⟩)|skip⟩
instance(priority:=50) U6(ly:ByteArray)(pts:List (Rq × Rq))(rd:Rq):DenI Tryz.prog 102 [.agg [.v (.int .i64 3),.v (.string ly),.sl 8 (pts.map iY),.v (.bool rd.a),lmc rd.l,.v (.bool rd.b),lmc rd.m]] (kE ⟨3,ly,pts,rd⟩) (.bool (iC ⟨3,ly,pts,rd⟩)):=⟨λhp=>by
 have hpl:pts.length<=5:=hp.2.2.1;have hpr:yA rd:=hp.2.1
 all_goals refine aC Tryz.func102 rfl ?_
 all_goals(repeat'((try(conv=>whnf));first
  |apply zaf|refine zaa ?_ ?_|refine zao ?_ (λ_=>?_) (λ_=>?_)|(with_reducible first|apply zab|apply zac|refine zad (λ_=>?_) (λ_=>?_)|refine zae (λ_=>?_) (λ_=>?_))|refine zat (λ_=>?_) (λ_=>?_)|refine zah ?_ ?_|refine zas ζ ?_|refine zal ?_ ?_|refine zam ?_ ?_|(with_reducible first|refine zak ?_ ?_|apply zaj|apply zai)|refine zan mQ ?_ ?_|apply zaq))
 all_goals(try apply zar)
 all_goals first
  |((conv=>whnf);refine Sw.Loop.inv (α:=Nat) (λx=>[(1,.ptr 1 0),(25,.c (.sl 8 (pts.map iY))),(26,.int .i64 (pts.length:Nat)),(27,.int .i64 (x:Nat))]) (λx=>[(1,.var [.v (.int .i64 3),.v (.string ly),.sl 8 (pts.map iY),.v (.bool rd.a),lmc rd.l,.v (.bool rd.b),lmc rd.m])]) (λx=>x<=pts.length/\∀j<x,(eH (pts.getD j mQ).1&&eH (pts.getD j mQ).2)=true) (λx=>pts.length-x) 0 ?_ ?_ ?_ (λx hx=>?_))|skip
 all_goals(repeat'((try(conv=>whnf));first
  |apply zaf|refine zaa ?_ ?_|refine zao ?_ (λ_=>?_) (λ_=>?_)|(with_reducible first|apply zab|apply zac|refine zad (λ_=>?_) (λ_=>?_)|refine zae (λ_=>?_) (λ_=>?_))|refine zat (λ_=>?_) (λ_=>?_)|refine zah ?_ ?_|refine zas ζ ?_|refine zal ?_ ?_|refine zam ?_ ?_|(with_reducible first|refine zak ?_ ?_|apply zaj|apply zai)|refine zan mQ ?_ ?_|apply zaq))
 all_goals(try apply zar)
 all_goals(try simp only[aG,dh]at *)
 all_goals(try simp only[aW]at *)
 all_goals first
  |(exfalso;omega)|omega|trivial|exact⟨jd _,λj hj=>absurd hj (Bd _)⟩|exact(jD hp (by show _<pts.length;omega)).1|exact(jD hp (by show _<pts.length;omega)).2|exact hpr|exact Ag ξ|exact⟨rfl,rfl,by simp only[aG];rfl,rfl,trivial⟩|exact za4|exact za7|exact zbf|((conv=>whnf);exact⟨x+1,⟨⟨rfl,rfl,rfl,aH ω,trivial⟩,⟨rfl,trivial⟩,⟨ω,bU hx.2 χ⟩,(by show pts.length-(x+1)<pts.length-x;omega)⟩⟩)|skip⟩
instance(priority:=50) Vb(kd:Int)(ly:ByteArray)(pts:List (Rq × Rq))(rd:Rq):DenI Tryz.prog 102 [.agg [.v (.int .i64 kd),.v (.string ly),.sl 8 (pts.map iY),.v (.bool rd.a),lmc rd.l,.v (.bool rd.b),lmc rd.m]] (kd<1\/3<kd) (.bool (iC ⟨kd,ly,pts,rd⟩)):=⟨λhp=>by
 refine aC Tryz.func102 rfl ?_
 all_goals(repeat'((try(conv=>whnf));first
  |apply zaf|refine zaa ?_ ?_|refine zao ?_ (λ_=>?_) (λ_=>?_)|(with_reducible first|apply zab|apply zac|refine zad (λ_=>?_) (λ_=>?_)|refine zae (λ_=>?_) (λ_=>?_))|refine zat (λ_=>?_) (λ_=>?_)|refine zah ?_ ?_|refine zas ζ ?_|refine zal ?_ ?_|refine zam ?_ ?_|(with_reducible first|refine zak ?_ ?_|apply zaj|apply zai)|apply zaq))
 all_goals(try apply zar)
 all_goals first
  |(exfalso;omega)|exact za4|skip⟩
instance(priority:=2000) aeh(e:EntR):DenI Tryz.prog 102 [.agg (aY e)] (kE e) (.bool (iC e)):=⟨λhp=>by
 obtain⟨kd,ly,pts,rd⟩:=e;have hk:(kd<1\/3<kd)\/kd=1\/kd=2\/kd=3:=ω
 rcases hk with hk|rfl|rfl|rfl
 .exact(Vb kd ly pts rd).den hk
 .exact(Vw ly pts rd).den hp
 .exact(U7 ly pts rd).den hp
 .exact(U6 ly pts rd).den hp⟩
instance aeH(a:Rat):DenI Tryz.prog 139 [R a] (rz a<=1000) (R (a*zo)):=⟨λhp=>by
 have i_a:RzB a 1000:=⟨hp⟩
 all_goals refine aC Tryz.func139 rfl ?_
 all_goals(repeat'((try(conv=>whnf));first
  |refine zaa ?_ ?_|refine zas ζ ?_|apply zaq))
 all_goals(try apply zar)
 all_goals first
  |(have z1:=BD;exact⟨ω,aP z1 ψ⟩)|omega|rfl⟩
instance Qs(a:Rat):DenI Tryz.prog 104 [R a] (rz a<=12) (.bool (xE a)):=⟨λhp=>by
 have z1:=OU;have z2:=UN hp;have hv:=rW a
 all_goals refine aC Tryz.func104 rfl ?_
 all_goals(repeat'((try(conv=>whnf));first
  |refine zaa ?_ ?_|(with_reducible first|apply zab|apply zac|refine zad (λ_=>?_) (λ_=>?_))|refine zat (λ_=>?_) (λ_=>?_)|refine zas ζ ?_|apply zaq))
 all_goals(try apply zar)
 all_goals(try simp only[aW]at *)
 all_goals first
  |(exfalso;rename (!fK _ _ _ _)=true=>h;rw[rW]at h;cases h)|omega|(refine⟨?_, ?_⟩<;>first|(rw[fG];omega)|omega)|(have e1:(lim a.num.natAbs).length<=rz a:=fH a;have e2:(lim (a.den:Int).natAbs).length<=rz a:=gu a;omega)|(refine bE ?_;unfold xE;simp only[*,not_true,not_false_iff,decide_true,decide_false,BM,PI,Bool.and_false];done)|(refine bE ?_;unfold xE;have hng:(-a>((10000000:Int):Rat))↔(a < -((10000000:Int):Rat)):=ν;simp_all;done)⟩
instance(priority:=50) QO(r:Rq):DenI Tryz.prog 104 [.agg (Gs r)] (yA r/\vR r=false) (.bool false):=⟨λhp=>by
 obtain⟨hp1,hp2⟩:=hp;unfold vR at hp2;obtain⟨hp3,hp4⟩:=hp1
 all_goals refine aC Tryz.func104 rfl ?_
 all_goals(repeat'((try(conv=>whnf));first
  |refine zaa ?_ ?_|refine zat (λ_=>?_) (λ_=>?_)|apply zaq))
 all_goals(try apply zar)
 all_goals first
  |omega|rfl|(exfalso;rename (!fK _ _ _ _)=false=>h;rw[hp2]at h;cases h)⟩
instance(priority:=2000) adZ(r:Rq):DenI Tryz.prog 104 [.agg (Gs r)] (yA r) (.bool (eH r)):=⟨λhp=>by
 cases v:vR r with
 |false =>
  have h:=(QO r).den ⟨hp,v⟩;have e:eH r=false:=by unfold eH;rw[v];rfl
  rw[e];exact h
 |true =>
  have e:=qK v;have e2:eH r=xE (qR r):=by unfold eH;rw[v];rfl
  have hz:rz (qR r)<=12:=wO (e▸hp);have h:=(Qs (qR r)).den hz;rw[e2];generalize qR r=q at e h;subst e
  exact h⟩
instance(priority:=2000) acy(r:Rq):DenI Tryz.prog 21 [.agg (Gs r)] (vR r=true) (.int .i64 (aN (qR r))):=⟨λv=>by
 have e:=qK v;have h:=(inferInstance:DenI Tryz.prog 21 [R (qR r)] _ (.int .i64 (aN (qR r)))).den trivial;generalize qR r=q at e h ⊢;subst e
 exact h⟩
instance(priority:=50) QG(ly:ByteArray)(pts:List (Rq × Rq))(rd:Rq):DenI Tryz.prog 68 [.agg [.v (.int .i64 1),.v (.string ly),.sl 8 (pts.map iY),.v (.bool rd.a),lmc rd.l,.v (.bool rd.b),lmc rd.m]] (kE ⟨1,ly,pts,rd⟩) (.bool (iC ⟨1,ly,pts,rd⟩)):=⟨λhp=>by
 have hpl:pts.length<=5:=hp.2.2.1;have hpr:yA rd:=hp.2.1
 all_goals refine aC Tryz.func68 rfl ?_
 all_goals(repeat'((try(conv=>whnf));first
  |refine zaa ?_ ?_|(with_reducible first|apply zab|apply zac|refine zad (λ_=>?_) (λ_=>?_)|refine zae (λ_=>?_) (λ_=>?_))|refine zat (λ_=>?_) (λ_=>?_)|apply zaq))
 all_goals(try apply zar)
 all_goals first
  |((conv=>whnf);refine Sw.Loop.inv (α:=Nat) (λx=>[(1,.ptr 1 0),(3,.int .i64 2),(4,.int .i64 (x:Nat))]) (λx=>[(1,.var [.v (.int .i64 1),.v (.string ly),.sl 8 (pts.map iY),.v (.bool rd.a),lmc rd.l,.v (.bool rd.b),lmc rd.m])]) (λx=>x<=pts.length/\∀j<x,(eH (pts.getD j mQ).1&&eH (pts.getD j mQ).2)=true) (λx=>pts.length-x) 0 ?_ ?_ ?_ (λx hx=>?_))|skip
 all_goals(repeat'((try(conv=>whnf));first
  |refine zaa ?_ ?_|(with_reducible first|apply zab|apply zac|refine zad (λ_=>?_) (λ_=>?_))|refine zat (λ_=>?_) (λ_=>?_)|refine zan mQ ?_ ?_|apply zaq))
 all_goals(try apply zar)
 all_goals(try simp only[aG,dh]at *)
 all_goals(try simp only[aW]at *)
 all_goals first
  |(exfalso;omega)|omega|trivial|exact⟨jd _,λj hj=>absurd hj (Bd _)⟩|exact(jD hp (by show _<pts.length;omega)).1|exact(jD hp (by show _<pts.length;omega)).2|exact za4|exact za7|exact zbd|((conv=>whnf);exact⟨x+1,⟨⟨rfl,rfl,aH ω,trivial⟩,⟨rfl,trivial⟩,⟨ω,bU hx.2 χ⟩,(by show pts.length-(x+1)<pts.length-x;omega)⟩⟩)⟩
instance(priority:=50) Si(ly:ByteArray)(pts:List (Rq × Rq))(rd:Rq):DenI Tryz.prog 68 [.agg [.v (.int .i64 2),.v (.string ly),.sl 8 (pts.map iY),.v (.bool rd.a),lmc rd.l,.v (.bool rd.b),lmc rd.m]] (kE ⟨2,ly,pts,rd⟩) (.bool (iC ⟨2,ly,pts,rd⟩)):=⟨λhp=>by
 have hpl:pts.length<=5:=hp.2.2.1;have hpr:yA rd:=hp.2.1
 all_goals refine aC Tryz.func68 rfl ?_
 all_goals(repeat'((try(conv=>whnf));first
  |refine zaa ?_ ?_|(with_reducible first|apply zab|apply zac|refine zad (λ_=>?_) (λ_=>?_)|refine zae (λ_=>?_) (λ_=>?_))|refine zat (λ_=>?_) (λ_=>?_)|apply zaq))
 all_goals(try apply zar)
 all_goals first
  |((conv=>whnf);refine Sw.Loop.inv (α:=Nat) (λx=>[(1,.ptr 1 0),(3,.int .i64 3),(4,.int .i64 (x:Nat))]) (λx=>[(1,.var [.v (.int .i64 2),.v (.string ly),.sl 8 (pts.map iY),.v (.bool rd.a),lmc rd.l,.v (.bool rd.b),lmc rd.m])]) (λx=>x<=pts.length/\∀j<x,(eH (pts.getD j mQ).1&&eH (pts.getD j mQ).2)=true) (λx=>pts.length-x) 0 ?_ ?_ ?_ (λx hx=>?_))|skip
 all_goals(repeat'((try(conv=>whnf));first
  |refine zaa ?_ ?_|(with_reducible first|apply zab|apply zac|refine zad (λ_=>?_) (λ_=>?_))|refine zat (λ_=>?_) (λ_=>?_)|refine zan mQ ?_ ?_|apply zaq))
 all_goals(try apply zar)
 all_goals(try simp only[aG,dh]at *)
 all_goals(try simp only[aW]at *)
 all_goals first
  |(exfalso;omega)|omega|trivial|exact⟨jd _,λj hj=>absurd hj (Bd _)⟩|exact(jD hp (by show _<pts.length;omega)).1|exact(jD hp (by show _<pts.length;omega)).2|exact za4|exact za7|exact zbe|((conv=>whnf);exact⟨x+1,⟨⟨rfl,rfl,aH ω,trivial⟩,⟨rfl,trivial⟩,⟨ω,bU hx.2 χ⟩,(by show pts.length-(x+1)<pts.length-x;omega)⟩⟩)⟩
instance(priority:=50) SL(ly:ByteArray)(pts:List (Rq × Rq))(rd:Rq):DenI Tryz.prog 68 [.agg [.v (.int .i64 3),.v (.string ly),.sl 8 (pts.map iY),.v (.bool rd.a),lmc rd.l,.v (.bool rd.b),lmc rd.m]] (kE ⟨3,ly,pts,rd⟩) (.bool (iC ⟨3,ly,pts,rd⟩)):=⟨λhp=>by
 have hpl:pts.length<=5:=hp.2.2.1;have hpr:yA rd:=hp.2.1
 all_goals refine aC Tryz.func68 rfl ?_
 all_goals(repeat'((try(conv=>whnf));first
  |refine zaa ?_ ?_|(with_reducible first|apply zab|apply zac|refine zad (λ_=>?_) (λ_=>?_)|refine zae (λ_=>?_) (λ_=>?_))|refine zat (λ_=>?_) (λ_=>?_)|apply zaq))
 all_goals(try apply zar)
 all_goals first
  |((conv=>whnf);refine Sw.Loop.inv (α:=Nat) (λx=>[(1,.ptr 1 0),(3,.int .i64 1),(4,.int .i64 (x:Nat))]) (λx=>[(1,.var [.v (.int .i64 3),.v (.string ly),.sl 8 (pts.map iY),.v (.bool rd.a),lmc rd.l,.v (.bool rd.b),lmc rd.m])]) (λx=>x<=pts.length/\∀j<x,(eH (pts.getD j mQ).1&&eH (pts.getD j mQ).2)=true) (λx=>pts.length-x) 0 ?_ ?_ ?_ (λx hx=>?_))|skip
 all_goals(repeat'((try(conv=>whnf));first
  |refine zaa ?_ ?_|(with_reducible first|apply zab|apply zac|refine zad (λ_=>?_) (λ_=>?_))|refine zat (λ_=>?_) (λ_=>?_)|refine zan mQ ?_ ?_|apply zaq))
 all_goals(try apply zar)
 all_goals(try simp only[aG,dh]at *)
 all_goals(try simp only[aW]at *)
 all_goals first
  |(exfalso;omega)|omega|trivial|exact⟨jd _,λj hj=>absurd hj (Bd _)⟩|exact(jD hp (by show _<pts.length;omega)).1|exact(jD hp (by show _<pts.length;omega)).2|exact Ag (by simp_all)|exact za4|exact za7|((with_reducible show packA _=_);refine bE ?_;rw[Qo rfl χ];done)|exact zbf|((conv=>whnf);exact⟨x+1,⟨⟨rfl,rfl,aH ω,trivial⟩,⟨rfl,trivial⟩,⟨ω,bU hx.2 χ⟩,(by show pts.length-(x+1)<pts.length-x;omega)⟩⟩)⟩
instance(priority:=50) P5(kd:Int)(ly:ByteArray)(pts:List (Rq × Rq))(rd:Rq):DenI Tryz.prog 68 [.agg [.v (.int .i64 kd),.v (.string ly),.sl 8 (pts.map iY),.v (.bool rd.a),lmc rd.l,.v (.bool rd.b),lmc rd.m]] (kd<1\/3<kd) (.bool (iC ⟨kd,ly,pts,rd⟩)):=⟨λhp=>by
 refine aC Tryz.func68 rfl ?_
 all_goals(repeat'((try(conv=>whnf));first
  |refine zaa ?_ ?_|(with_reducible first|apply zab|apply zac|refine zad (λ_=>?_) (λ_=>?_)|refine zae (λ_=>?_) (λ_=>?_))|refine zat (λ_=>?_) (λ_=>?_)|apply zaq))
 all_goals(try apply zar)
 all_goals first
  |(exfalso;omega)|exact za4⟩
instance(priority:=2000) acP(e:EntR):DenI Tryz.prog 68 [.agg (aY e)] (kE e) (.bool (iC e)):=⟨λhp=>by
 obtain⟨kd,ly,pts,rd⟩:=e;have hk:(kd<1\/3<kd)\/kd=1\/kd=2\/kd=3:=ω
 rcases hk with hk|rfl|rfl|rfl
 .exact(P5 kd ly pts rd).den hk
 .exact(QG ly pts rd).den hp
 .exact(Si ly pts rd).den hp
 .exact(SL ly pts rd).den hp⟩
instance acE(l:LayD):DenI Tryz.prog 66 [.agg (aV l)] (l.name.size<=1000000) (.bool (wR l)):=⟨λhp=>by
 refine aC Tryz.func66 rfl ?_
 all_goals(repeat'((try(conv=>whnf));first
  |refine zaa ?_ ?_|(with_reducible first|apply zab|apply zac|refine zad (λ_=>?_) (λ_=>?_))|refine zat (λ_=>?_) (λ_=>?_)|apply zaq))
 all_goals(try apply zar)
 all_goals first
  |omega|(refine bE ?_;unfold wR;rw[vG];simp_all;done)|(refine bE ?_;unfold wR;rw[vG];simp_all;omega)⟩
instance abD(ls:List LayD)(s:ByteArray):DenI Tryz.prog 67 [.c (.sl 3 (ls.map aV)),.c (.v (.string s))] (ls.length<=1000) (.int .i64 (kU ls s)):=⟨λhp=>by
 refine aC Tryz.func67 rfl ?_
 all_goals first
  |((conv=>whnf);refine Sw.Loop.inv (α:=Nat) (λk=>[(0,.c (.sl 3 (ls.map aV))),(1,.c (.v (.string s))),(5,.int .i64 (k:Nat))]) (λk=>[]) (λk=>k<=ls.length/\∀j<k,eqS (ls.getD j L0).name s=false) (λk=>ls.length-k) 0 ?_ ?_ ?_ (λk hk=>?_))
 all_goals(repeat'((try(conv=>whnf));first
  |(with_reducible refine zad (λ_=>?_) (λ_=>?_))|refine zat (λ_=>?_) (λ_=>?_)|refine zan L0 ?_ ?_|apply zaq))
 all_goals(try apply zar)
 all_goals(try simp only[aG,dh]at *)
 all_goals first
  |omega|trivial|exact⟨jd _,λj hj=>absurd hj (Bd _)⟩|((conv=>whnf);exact⟨k+1,⟨⟨rfl,rfl,aH ω,trivial⟩,trivial,⟨ω,bU hk.2 ξ⟩,(by show ls.length-(k+1)<ls.length-k;omega)⟩⟩)|((with_reducible show packA _=_);rw[vS (x:=k) ω hk.2 ξ];rfl)|((with_reducible show packA _=_);have hxx:k=ls.length:=ω;subst hxx;rw[L9 hk.2];rfl)⟩
instance V9(ls:List LayD)(es:List EntR):DenI Tryz.prog 22 [.agg [(.sl 3 (ls.map aV)),.sl 7 (es.map aY)]] (ls.length<=1000/\es.length<=1000/\(∀l∈ls,l.name.size<=1000)/\∀e∈es,kE e) (.int .i64 (dZ ls es)):=⟨λhp=>by
 obtain⟨hp1,hp2,hp3,hp4⟩:=hp
 all_goals refine aC Tryz.func22 rfl ?_
 all_goals(repeat'((try(conv=>whnf));first
  |(with_reducible first|apply zab|apply zac|refine zad (λ_=>?_) (λ_=>?_))|apply zaq))
 all_goals(try simp only[aG,dh]at *)
 all_goals first
  |((conv=>whnf);refine Sw.Loop.inv (α:=Nat) (λx=>[(1,.ptr 1 0),(3,.int .i64 (x:Nat))]) (λx=>[(1,.var [(.sl 3 (ls.map aV)),.sl 7 (es.map aY)])]) (λx=>x<=ls.length/\∀j<x,lu ls j=none) (λx=>ls.length-x) 0 ?_ ?_ ?_ (λx hx=>?_))|skip
 all_goals(repeat'((try(conv=>whnf));first
  |refine zaa ?_ ?_|(with_reducible refine zad (λ_=>?_) (λ_=>?_))|refine zat (λ_=>?_) (λ_=>?_)|refine zas ζ ?_|refine zan L0 ?_ ?_|apply zaq))
 all_goals(try apply zar)
 all_goals(try simp only[aG,dh]at *)
 all_goals first
  |((conv=>whnf);refine Sw.Loop.inv (α:=Nat) (λy=>[(1,.ptr 1 0),(4,.int .i64 (y:Nat))]) (λy=>[(1,.var [(.sl 3 (ls.map aV)),.sl 7 (es.map aY)])]) (λy=>y<=es.length/\∀j<y,kN ls es j=none) (λy=>es.length-y) 0 ?_ ?_ ?_ (λy hy=>?_))|skip
 all_goals(repeat'((try(conv=>whnf));first
  |refine zaa ?_ ?_|(with_reducible refine zad (λ_=>?_) (λ_=>?_))|refine zat (λ_=>?_) (λ_=>?_)|refine zas ζ ?_|refine zan ni ?_ ?_|apply zaq))
 all_goals(try apply zar)
 all_goals(try simp only[aG,dh]at *)
 all_goals first
  |omega|trivial|exact⟨jd _,λj hj=>absurd hj (Bd _)⟩|(have z:=TK hp3 x;omega)|exact LM hp4 ω|(refine iE ?_;rw[Gt ω];done)|(refine iE ?_;rw[AB ω ω hx.2 (Vf ξ)];done)|(refine iE ?_;rw[AB ω ω hx.2 (VJ ξ ξ)];done)|(refine iE ?_;have hxx:x=ls.length:=ω;subst hxx;rw[zU ω hx.2 ω hy.2 (Xw ξ)];done)|(refine iE ?_;have hxx:x=ls.length:=ω;subst hxx;rw[zU ω hx.2 ω hy.2 (Xc ξ ξ)];done)|exact zbg|((conv=>whnf);exact⟨y+1,⟨⟨rfl,aH ω,trivial⟩,⟨rfl,trivial⟩,⟨ω,bU hy.2 (Va ξ ξ)⟩,(by show es.length-(y+1)<es.length-y;omega)⟩⟩)|((conv=>whnf);exact⟨x+1,⟨⟨rfl,aH ω,trivial⟩,⟨rfl,trivial⟩,⟨ω,bU hx.2 (Xr ξ ξ)⟩,(by show ls.length-(x+1)<ls.length-x;omega)⟩⟩)⟩
instance(priority:=2000) Qz(ls:List LayD)(es:List Ent):DenI Tryz.prog 22 [.agg [(.sl 3 (ls.map aV)),.sl 7 (es.map aK)]] (ls.length<=1000/\es.length<=1000/\(∀l∈ls,l.name.size<=1000)/\∀e∈es,kE (bW e)) (.int .i64 (dZ ls (es.map bW))):=⟨λ⟨h1,h2,h3,h4⟩=>by
 have h:=(V9 ls (es.map bW)).den ⟨h1,by rw[aG];exact h2,h3,λe he=>by obtain⟨x,hx,rfl⟩:=dR.1 he;exact h4 x hx⟩;have e:(es.map bW).map aY=es.map aK:=by rw[List.map_map];exact List.map_congr_left λe _=>OZ e
 rw[e]at h
 exact h⟩
end Go.Proofs.YtmniihkenijjpaaGreatDoor
