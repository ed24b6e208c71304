/-
  Rules of the abstract run, plain laws, and what functions answer, for the law RepairJoins.
  Conditions: none.
-/
import Derived.Test.YtmniihkenijjpaaGreatDoorX17
import Derived.Shelf.LaysM
import Derived.Shelf.Strconv.Itoa1
import Derived.Shelf.Strconv.Itoa2
import Derived.Lib.Walk
import Derived.Lib.ItoaMem
import Derived.Lib.ItoaLen
import Derived.Lib.AppendIntMem
import Derived.WalkKit
import Derived.BigCall
import Derived.BigGuard
import Derived.Shelf.SlicesE.Clone
set_option linter.all false
namespace Go.Proofs.YtmniihkenijjpaaGreatDoor
open Go Go.RowKit Go.Sw Go.Shelf
set_option maxRecDepth 100000
set_option maxHeartbeats 8000000
set_option synthInstance.maxSize 4000
set_option synthInstance.maxHeartbeats 400000
instance aiY(r:Rq):DenI Tryz.prog 112 [.agg (YI r)] (True) (.bool (XQ r)):=⟨λhp=>by
 refine bW Tryz.func112 rfl ?_
 all_goals(repeat'((try(conv=>whnf));first
  |(with_reducible first|refine aQ ?_|refine aP ?_|refine au (λ_=>?_) (λ_=>?_))|refine Ends.mk ?_))
 all_goals(try simp only[aZ,gU]at *)
 all_goals first
  |(refine bE ?_;unfold XQ;rw[ZX];simp only[eF,decide_eq_true_eq];omega)|(refine bE ?_;exact(acC (by omega)).symm)⟩
instance aiX(ls:List LayD)(es:List EntR):DenI Tryz.prog 75 [.agg [(.sl 3 (ls.map aS)),.sl 7 (es.map dV)]] (es.length≤12) (.bool (RU ls es)):=⟨λhp=>by
 refine bW Tryz.func75 rfl ?_
 all_goals(repeat'((try(conv=>whnf));first
  |(with_reducible first|refine aQ ?_|refine aP ?_|refine au (λ_=>?_) (λ_=>?_))|refine Ends.mk ?_))
 all_goals(try simp only[aZ,gU]at *)
 all_goals first
  |((conv=>whnf);refine Sw.Loop.inv (α:=Nat) (λx=>[(1,.ptr 1 0),(3,.int .i64 (x:Nat))]) (λx=>[(1,.var [(.sl 3 (ls.map aS)),.sl 7 (es.map dV)])]) (λx=>x≤ls.length∧∀j<x,(ls.getD j L0).name.size≤60) (λx=>ls.length-x) 0 ?_ ?_ ?_ (λx hx=>?_))|skip
 all_goals(repeat'((try(conv=>whnf));first
  |(with_reducible refine au (λ_=>?_) (λ_=>?_))|refine aU L0 ?_ ?_|refine Ends.mk ?_))
 all_goals(try refine Pr.mk ?_)
 all_goals(try simp only[aZ,gU]at *)
 all_goals first
  |((conv=>whnf);refine Sw.Loop.inv (α:=Nat) (λy=>[(1,.ptr 1 0),(4,.int .i64 (y:Nat))]) (λy=>[(1,.var [(.sl 3 (ls.map aS)),.sl 7 (es.map dV)])]) (λy=>y≤es.length∧∀j<y,zT (es.getD j vY)=true) (λy=>es.length-y) 0 ?_ ?_ ?_ (λy hy=>?_))|skip
 all_goals(repeat'((try(conv=>whnf));first
  |refine aG ?_|(with_reducible first|refine aQ ?_|refine aP ?_|refine au (λ_=>?_) (λ_=>?_))|refine OnB.mk (λ_=>?_) (λ_=>?_)|refine aU vY ?_ ?_|refine Ends.mk ?_))
 all_goals(try refine Pr.mk ?_)
 all_goals(try simp only[aZ,gU]at *)
 all_goals first
  |((conv=>whnf);refine Sw.Loop.inv (α:=Nat) (λz=>[(1,.ptr 1 0),(4,.int .i64 (y:Nat)),(5,.ptr 5 0),(6,.int .i64 (z:Nat))]) (λz=>[(1,.var [(.sl 3 (ls.map aS)),.sl 7 (es.map dV)]),(5,.var (dV (es.getD y vY)))]) (λz=>z≤(es.getD y vY).pts.length∧∀k<z,vsB ((es.getD y vY).pts.getD k xO)=true) (λz=>(es.getD y vY).pts.length-z) 0 ?_ ?_ ?_ (λz hz=>?_))|skip
 all_goals(repeat'((try(conv=>whnf));first
  |refine aG ?_|(with_reducible first|refine aQ ?_|refine aP ?_|refine au (λ_=>?_) (λ_=>?_))|refine OnB.mk (λ_=>?_) (λ_=>?_)|refine aU xO ?_ ?_|refine Ends.mk ?_))
 all_goals(try refine Pr.mk ?_)
 all_goals(try simp only[aZ,gU]at *)
 all_goals first
  |trivial|omega|exact⟨rC _,λj hj=>absurd hj (Sv _)⟩|(refine bE ?_;rw[adb (by omega)];done)|(refine bE ?_;rw[ab8 (x:=x) (by omega) (by omega)];done)|(refine bE ?_;refine(GY (x:=y) (by omega) (Nw (.inl ?_))).symm;omega)|(refine bE ?_;refine(GY (x:=y) (by omega) (Nw (.inr (.inl ?_)))).symm;omega)|(refine bE ?_;refine(GY (x:=y) (by omega) (abn (k:=z) (by omega) ?_)).symm;unfold vsB;simp_all;done)|(refine bE ?_;refine(GY (x:=y) (by omega) (Nw (.inr (.inr ?_)))).symm;simp_all;done)|(refine bE ?_;have hxx:x=ls.length:=(by omega);subst hxx;have hyy:y=es.length:=(by omega);subst hyy;rw[afG (by omega) hx.2 hy.2];done)|((conv=>whnf);exact⟨z+1,⟨⟨rfl,rfl,rfl,bQ (by omega),trivial⟩,⟨rfl,rfl,trivial⟩,⟨by omega,iC hz.2 (by unfold vsB;simp_all;done)⟩,(by show(es.getD y vY).pts.length-(z+1)<(es.getD y vY).pts.length-z;omega)⟩⟩)|((conv=>whnf);exact⟨y+1,⟨⟨rfl,bQ (by omega),trivial⟩,⟨rfl,trivial⟩,⟨by omega,iC hy.2 (acn (by omega) (by omega) (by simp_all;done) (by have hzz:z=(es.getD y vY).pts.length:=(by omega);subst hzz;exact hz.2))⟩,(by show es.length-(y+1)<es.length-y;omega)⟩⟩)|((conv=>whnf);exact⟨x+1,⟨⟨rfl,bQ (by omega),trivial⟩,⟨rfl,trivial⟩,⟨by omega,iC hx.2 (by omega)⟩,(by show ls.length-(x+1)<ls.length-x;omega)⟩⟩)⟩
instance ai3(ls:List LayD)(es:List EntR):DenI Tryz.prog 33 [.agg [(.sl 3 (ls.map aS)),.sl 7 (es.map dV)]] (True) (.bool (decide (es.length≤12) && RU ls es)):=⟨λhp=>by
 refine bW Tryz.func33 rfl ?_
 all_goals(repeat'((try(conv=>whnf));first
  |refine aj ?_ ?_|(with_reducible first|refine aQ ?_|refine aP ?_|refine au (λ_=>?_) (λ_=>?_))|refine Ends.mk ?_))
 all_goals(try refine Pr.mk ?_)
 all_goals(try simp only[aZ,gU]at *)
 all_goals first
  |omega|(refine bE ?_;rw[decide_eq_true (by omega)];simp;done)|(refine bE ?_;rw[decide_eq_false (by omega)];rfl)⟩
instance ai2(r:Rq):DenI Tryz.prog 48 [.agg (YI r),.int .i64 3] (True) (.bool (okr 3 (r.a,r.l,r.b,r.m))):=⟨λhp=>by
 refine bW Tryz.func48 rfl ?_
 all_goals(repeat'((try(conv=>whnf));first
  |refine aj ?_ ?_|(with_reducible first|refine aQ ?_|refine aP ?_|refine au (λ_=>?_) (λ_=>?_))|refine Ends.mk ?_))
 all_goals(try refine Pr.mk ?_)
 all_goals(try simp only[aZ,gU]at *)
 all_goals first
  |omega|(refine bE ?_;rw[ae0 (k:=3) (r:=(r.a,r.l,r.b,r.m)) (by show(r.l.length:Int)>3;omega)];done)|(refine bE ?_;rw[adz (k:=3) (r:=(r.a,r.l,r.b,r.m)) (by show(r.m.length:Int)>3;omega)];done)|(refine bE ?_;unfold okr;simp_all;done)⟩
instance ad4(ls:List LayD)(es:List EntR)(t:Rq):DenI Tryz.prog 12 [.agg [(.sl 3 (ls.map aS)),.sl 7 (es.map dV)],.agg (YI t)] (True) (.bool (smA ls es t)):=⟨λhp=>by
 refine bW Tryz.func12 rfl ?_
 all_goals(repeat'((try(conv=>whnf));first
  |refine aG ?_|(with_reducible first|refine aQ ?_|refine aP ?_)|refine OnB.mk (λ_=>?_) (λ_=>?_)|refine Ends.mk ?_))
 all_goals first
  |(refine bE ?_;unfold smA;simp_all;done)⟩
theorem abq{es:List EntR}(h:∀e∈es,e.pts.length≤1000){x:Nat}(hx:x<es.length):(es.getD x vY).pts.length≤1000:=h _ (by simp[List.getD,hx])
theorem QZ{l:List EntR}{x:Nat}(h:x<l.length):(l.take (x+1)).map dV=(l.take x).map dV++[dV (l.getD x vY)]:=by
 rw[List.take_succ,gG];simp[List.getD,h]
theorem Yo(ls:List LayD)(es:List EntR)(h1:ls.length≤1000)(h2:es.length≤1000)(h3:∀e∈es,e.pts.length≤1000):
 Den Tryz.prog 14 [.agg [(.sl 3 (ls.map aS)),.sl 7 (es.map dV)]] (.agg [(.sl 3 (ls.map aS)),.sl 7 (es.map dV)]):=by
 refine Den.of ⟨by kernel_rfl,λw X vs ho hX hl hR=>?_⟩ rfl
 haveI:WOk Tryz.prog w:=.of ho
 refine enter Tryz.func14 rfl rfl (by rw[hl];rfl) λa hF=>?_
 have hc:=mQ (N:=29) hX hl hR hF;refine uY (τ:=NW) tN cO 2 _ (QA:=λz e b=>z=.normal∧SubE [(3,.ptr 3 0),(2,.ptr 2 0),(1,.ptr 1 0)] e∧SubB [(1,.var [(.sl 3 (ls.map aS)),.sl 7 (es.map dV)]),(3,.var [(.sl 3 (ls.map aS)),.v (.slice none 0 0)]),(2,.var [.v (.slice none 0 0),.v (.slice none 0 0)])] b) (by kernel_rfl) ?_ hc (λe b a w hq hc2=>?_) (λx e b a w hx hq hc=>absurd hq.1 hx)
 case refine_1 =>
  clear hc hF hR hl hX
  all_goals(repeat'((try(conv=>whnf));first
   |refine aG ?_|refine aj ?_ ?_|refine kH ?_ (λ_=>?_) (λ_=>?_)|(with_reducible first|refine aQ ?_|refine aP ?_|refine au (λ_=>?_) (λ_=>?_)|refine cZ (λ_=>?_) (λ_=>?_))|refine OnB.mk (λ_=>?_) (λ_=>?_)|refine bI ?_ ?_|refine Drw.mk (by kernel_rfl) ?_|refine gu ?_ ?_|refine iG ?_ ?_|(with_reducible first|refine bZ ?_ ?_|refine dn ?_|refine dM ?_)|refine Ends.mk ?_))
  all_goals(try refine Pr.mk ?_)
  all_goals(try simp only[aZ,gU]at *)
  all_goals first
   |omega|exact⟨rfl,⟨rfl,rfl,rfl,trivial⟩,⟨rfl,rfl,rfl,trivial⟩⟩|((conv=>whnf);exact⟨rfl,⟨rfl,rfl,rfl,trivial⟩,⟨rfl,rfl,rfl,trivial⟩⟩)|skip
 clear hc;obtain⟨_,he,hb⟩:=hq;have hc:=hc2.sub he hb;clear he hb hc2 hF hR hl hX;replace hc:=hc.ghostF (i:=200) (j:=3) (T:=55) (s:=7) (k:=1) rfl rfl rfl rfl (by decide) rfl;refine eP (τ:=NW) tN cO _ (QA:=Jz NW _ [none] (.agg [(.sl 3 (ls.map aS)),.sl 7 (es.map dV)])) (by kernel_rfl) ?_ hc (λx e b a w' hx hc'=>um tN hx hc');clear hc ho
 all_goals(repeat'((try(conv=>whnf));first
  |refine aG ?_|refine aj ?_ ?_|refine kH ?_ (λ_=>?_) (λ_=>?_)|(with_reducible first|refine aQ ?_|refine aP ?_|refine au (λ_=>?_) (λ_=>?_)|refine cZ (λ_=>?_) (λ_=>?_))|refine OnB.mk (λ_=>?_) (λ_=>?_)|refine bI ?_ ?_|refine Drw.mk (by kernel_rfl) ?_|refine gu ?_ ?_|refine iG ?_ ?_|(with_reducible first|refine bZ ?_ ?_|refine dn ?_|refine dM ?_)|refine Ends.mk ?_))
 all_goals(try refine Pr.mk ?_)
 all_goals(try simp only[aZ,gU]at *)
 all_goals first
  |((conv=>whnf);refine Sw.Loop.inv (α:=Nat) (λx=>[(2,.ptr 2 0),(3,.ptr 3 0),(11,.c (.sl 7 (es.map dV))),(12,.int .i64 (es.length:Nat)),(13,.int .i64 (x:Nat))]) (λx=>[(200,.grow 55 7 ((es.take x).map dV)),(3,.varo [(.sl 3 (ls.map aS)),.ob 200 ((es.take x).map dV).length]),(2,.var [.v (.slice none 0 0),.v (.slice none 0 0)])]) (λx=>x≤es.length) (λx=>es.length-x) 0 ?_ ?_ ?_ (λx hx=>?_))|skip
 all_goals(repeat'((try(conv=>whnf));first
  |refine aG ?_|refine aj ?_ ?_|refine kH ?_ (λ_=>?_) (λ_=>?_)|(with_reducible first|refine aQ ?_|refine aP ?_|refine au (λ_=>?_) (λ_=>?_)|refine cZ (λ_=>?_) (λ_=>?_))|refine OnB.mk (λ_=>?_) (λ_=>?_)|refine bI ?_ ?_|refine Drw.mk (by kernel_rfl) ?_|refine gu ?_ ?_|refine iG ?_ ?_|(with_reducible first|refine bZ ?_ ?_|refine dn ?_|refine dM ?_)|refine aU vY ?_ ?_|refine Ends.mk ?_))
 all_goals(try refine Pr.mk ?_)
 all_goals(try simp only[aZ,gU]at *)
 all_goals(try simp only[iD]at *)
 all_goals first
  |((with_reducible show(_:Nat)=_);rfl)|omega|exact rC _|(have hz:=abq h3 (x:=x) (by omega);omega)|((with_reducible show(_:Nat)≤_);simp only[iy,aZ,iR,jB,uM];omega)|((with_reducible show SubE _ _);exact⟨rfl,rfl,rfl,(by show some _=some _;simp only[aZ];rfl),rfl,trivial⟩)|((with_reducible show SubE _ _);exact⟨rfl,rfl,rfl,rfl,rfl,trivial⟩)|((with_reducible show SubB _ _);exact⟨rfl,rfl,rfl,trivial⟩)|(have hm:=QZ (l:=es) (x:=x) (by omega);have hn:(List.take (x+1) es).length=(List.take x es).length+(0+1):=(by simp only[uM];omega);(conv=>whnf);exact⟨x+1,⟨⟨rfl,rfl,rfl,rfl,bQ (by omega),trivial⟩,⟨(by(simp only[hm,gG,gY,iY,gq]);(first|done|rfl)),(by(simp only[hm,hn,gG,gY,iY,gq,iy,aZ,iR,jB]);(first|done|rfl)),rfl,trivial⟩,by omega,(by show es.length-(x+1)<es.length-x;omega)⟩⟩)|((with_reducible show aA _=_);have hxx:x=es.length:=(by omega);subst hxx;rw[Jl];rfl)|skip
instance(priority:=900) adS(ls:List LayD)(es:List EntR):DenI Tryz.prog 14 [.agg [(.sl 3 (ls.map aS)),.sl 7 (es.map dV)]] (ls.length≤1000∧es.length≤1000∧∀e∈es,uO e) (.agg [(.sl 3 (ls.map aS)),.sl 7 (es.map dV)]):=⟨λ⟨h1,h2,h3⟩=>Yo ls es h1 h2 λe he=>dh (h3 e he).2.2.1 (by decide)⟩
instance(priority:=2000) ahS(ls:List LayD)(es:List Ent):DenI Tryz.prog 14 [.agg [(.sl 3 (ls.map aS)),.sl 7 (es.map aK)]] (ls.length≤1000∧es.length≤1000∧∀e∈es,uO (fK e)) (.agg [(.sl 3 (ls.map aS)),.sl 7 (es.map aK)]):=⟨λ⟨h1,h2,h3⟩=>by
 have h:=(adS ls (es.map fK)).den ⟨h1,by rw[aZ];exact h2,λe he=>by obtain⟨x,hx,rfl⟩:=fV.1 he;exact h3 x hx⟩;rw[Aq]at h
 exact h⟩
instance(priority:=60) aeh(ls:List LayD)(es:List EntR)(q:Rat):DenI Tryz.prog 13 [.agg [(.sl 3 (ls.map aS)),.sl 7 (es.map dV)],R q] (ls.length≤1000∧es.length≤1000∧(∀l∈ls,l.name.size≤1000)∧(∀e∈es,uO e)∧(jD ls es≠0∨q<0)∧rz q≤12) (.tup [.agg [.sl 3 [],.sl 7 []],.c (.sl 0 []),.int .i64 (if jD ls es≠0 then jD ls es else 1)]):=⟨λhp=>by
 obtain⟨h1,h2,h3,h4,h5,h6⟩:=hp
 all_goals refine bW Tryz.func13 rfl ?_
 all_goals(repeat'((try(conv=>whnf));first
  |refine aG ?_|refine aj ?_ ?_|(with_reducible first|refine au (λ_=>?_) (λ_=>?_)|refine cZ (λ_=>?_) (λ_=>?_))|refine Ends.mk ?_))
 all_goals(try refine Pr.mk ?_)
 all_goals(try simp only[iD]at *)
 all_goals first
  |exact⟨h1,h2,h3,h4⟩|(rename ¬jD ls es=0=>h;rw[if_pos h];rfl)|(rename jD ls es=0=>h;rw[if_neg (λg=>g h)];rfl)|(exfalso;rename ¬q<0=>h;exact h5.elim (λg=>g (by assumption)) h)⟩
instance abB(ls:List LayD)(es:List EntR)(q:Rat):DenI Tryz.prog 12 [.agg [(.sl 3 (ls.map aS)),.sl 7 (es.map dV)],R q] True (.bool (smA ls es (nD q))):=⟨λ_=>(ad4 ls es (nD q)).den trivial⟩
instance(priority:=2000) ahr(ls:List LayD)(es:List Ent)(q:Rat):DenI Tryz.prog 12 [.agg [(.sl 3 (ls.map aS)),.sl 7 (es.map aK)],R q] True (.bool (smA ls (es.map fK) (nD q))):=⟨λ_=>by
 have h:=(abB ls (es.map fK) q).den trivial;rw[Aq]at h
 exact h⟩
instance UO(e:Ent):DenI Tryz.prog 26 [.agg (aK e)] (e.pts.length≤1000000) (Di e):=⟨λhp=>by
 refine bW Tryz.func26 rfl ?_
 all_goals(repeat'((try(conv=>whnf));first
  |(with_reducible first|refine aQ ?_|refine aP ?_|refine au (λ_=>?_) (λ_=>?_))|refine Drw.mk (by kernel_rfl) ?_|refine aU P0 ?_ ?_|refine Ends.mk ?_))
 all_goals(try refine Pr.mk ?_)
 all_goals(try simp only[aZ]at *)
 all_goals first
  |(exfalso;omega)|exact JE (by omega) (by first|rfl|omega) (by first|rfl|omega)|exact PK (by omega)|omega⟩
instance(priority:=3000) Y4(e:Ent):DenI Tryz.prog 26 [.agg (aK e)] (e.pts.length≤1000000) (.tup [.c (.sl 8 ((bH e).map aY)),.bool (decide (bH e≠[]))]):=⟨λhp=>UN rfl (by by_cases h:bH e=[]<;>simp [h]) ((UO e).den hp)⟩
def nI(x:Nat):List Cell:=[.v (.int .i64 (x:Nat))]
def IG(l:List Nat)(x:Nat):Int:=match(List.range l.length).find? (λj=>l.getD j 0 == x)with
 |some k=>(k:Nat)
 |none=>-1
theorem YF{l:List Nat}{x k:Nat}(hk:k<l.length)(h:∀j<k,l.getD j 0≠x)(h2:l.getD k 0=x):IG l x=(k:Nat):=by
 have:(List.range l.length).find? (λj=>l.getD j 0 == x)=some k:=by
  rw[List.find?_range_eq_some];exact⟨by simpa using h2,List.mem_range.2 hk,λj hj=>by simpa using h j hj⟩
 unfold IG;rw[this]
theorem aci{l:List Nat}{x:Nat}(h:∀j<l.length,l.getD j 0≠x):IG l x = -1:=by
 have:(List.range l.length).find? (λj=>l.getD j 0 == x)=none:=by
  rw[List.find?_eq_none];intro j hj;simpa using h j (List.mem_range.1 hj)
 unfold IG;rw[this]
theorem Rh(l:List Nat)(x:Nat):IG l x = -1∨∃k:Nat,IG l x=(k:Nat)∧l[k]?=some x:=by
 unfold IG;cases h:(List.range l.length).find? (λj=>l.getD j 0 == x)with
 |none=>exact .inl rfl
 |some k =>
  refine .inr ⟨k,rfl, ?_⟩;have h2:=List.find?_some h;have h3:=List.mem_range.1 (List.mem_of_find?_eq_some h);simp only[beq_iff_eq]at h2;rw[jg h3];simpa[pz,h3]using h2
theorem Zf{l:List Nat}{x k:Nat}(h:∀j<k,l.getD j 0≠x)(h2:¬((x:Nat):Int)=((l.getD k 0:Nat):Int)):∀j<k+1,l.getD j 0≠x:=λj hj=>by
 rcases Nat.lt_succ_iff_lt_or_eq.1 hj with g|g
 ·exact h j g
 ·subst g;omega
theorem abw(c:Chn):∃r0 r1 r2 r3 r4 r5 r6 r7 r8 r9 r10 r11 r12 r13 r14 r15:Cell,iF c=[.v (.int .i64 (c.kind:Nat)),.v (.int .i64 (c.ent:Nat)),.v (.int .i64 (c.fin:Nat)),r0,r1,r2,r3,r4,r5,r6,r7,r8,r9,r10,r11,r12,r13,r14,r15]:=by
 obtain⟨kd,en,fi,sr,ds⟩:=c;cases sr<;>cases ds<;>exact⟨_,_,_,_,_,_,_,_,_,_,_,_,_,_,_,_,rfl⟩
theorem aer(en:Nat)(sr ds:Option P2):iF ⟨1,en,0,sr,ds⟩=[.v (.int .i64 1),.v (.int .i64 (en:Nat)),.v (.int .i64 0)]++ovC sr++ovC ds:=rfl
theorem aeo(en:Nat)(sr ds:Option P2):iF ⟨1,en,1,sr,ds⟩=[.v (.int .i64 1),.v (.int .i64 (en:Nat)),.v (.int .i64 1)]++ovC sr++ovC ds:=rfl
theorem aaJ{c:Chn}(h:((c.kind:Nat):Int)=2∨((c.kind:Nat):Int)=5∨((c.kind:Nat):Int)=3):xX c=true:=by
 have h2:c.kind=2∨c.kind=5∨c.kind=3:=by omega
 rcases h2 with e|e|e<;>simp[xX,e]
theorem afx{c:Chn}(h:¬((c.kind:Nat):Int)=2)(h2:¬((c.kind:Nat):Int)=5)(h3:¬((c.kind:Nat):Int)=3):xX c=false:=by
 rw[Bool.eq_false_iff];intro g;unfold xX at g;rw[G7,G7]at g;rcases g with g|g|g<;>(have:=rG g;omega)
theorem adU{c:Chn}(h:¬((c.kind:Nat):Int)=2)(h2:¬((c.kind:Nat):Int)=5):decide (((c.kind:Nat):Int)=3)=xX c:=by
 by_cases h3:((c.kind:Nat):Int)=3
 ·rw[aaJ (.inr (.inr h3))];exact decide_eq_true h3
 ·rw[afx h h2 h3];exact decide_eq_false h3
theorem Fj{C1:List Chn}{x:Nat}(hx:x<C1.length):bF (C1.take (x+1))=bF (C1.take x)++(if xX (C1.getD x C0)=true then[(C1.getD x C0).ent]else[]):=by
 have ht:C1.take (x+1)=C1.take x++[C1.getD x C0]:=by
  rw[List.take_add_one];simp[jg hx,pz]
 rw[ht,sK];congr 1;unfold bF
 by_cases h:xX (C1.getD x C0)=true
 ·rw[if_pos h,List.filter_cons_of_pos h];rfl
 ·rw[if_neg h,List.filter_cons_of_neg h];rfl
theorem aai{C1:List Chn}{x n:Nat}(hx:x<C1.length)(hn:(bF C1).Nodup)(hb:∀i∈bF C1,i<n)(hg:xX (C1.getD x C0)=true):(C1.getD x C0).ent<n∧(bF (C1.take x)).contains (C1.getD x C0).ent=false∧(bF (C1.take x)).length≤C1.length:=by
 have h1:=Fj hx;rw[if_pos hg]at h1;have h2:bF (C1.take (x+1))++bF (C1.drop (x+1))=bF C1:=by rw[←sK,Nj]
 rw[h1]at h2;rw[←h2]at hn hb;refine⟨hb _ (by simp), ?_, ?_⟩
 ·have h3:=(List.nodup_append.1 (List.nodup_append.1 hn).1).2.2;rw[Bool.eq_false_iff];intro g;exact h3 _ (by simpa using g) _ (uQ.2 rfl) rfl
 ·unfold bF;rw[aZ];refine dh (qbO _ _) ?_;rw[uM];omega
def mM:Tab:=(5000000000,.flag) ::(5000024012,.flag)::VJ
theorem eH:dN Tryz.prog mM=true:=by kernel_rfl
theorem PV:Tryz.prog.underlying 59=some (.map 3 4):=by kernel_rfl
theorem adl:Tryz.prog.underlying 3=some (.int .i64):=by kernel_rfl
theorem ab5:Tryz.prog.underlying 4=some .bool:=by kernel_rfl
theorem adI{a n k:Nat}(h:a+k=n)(h3:n≤12):(!decide ((a:Int)=IntKind.i64.wrap ((n:Int)-(k:Int))))=false:=by
 have e:IntKind.i64.wrap ((n:Int)-(k:Int))=(a:Int):=by rw[bP (by omega) (by omega)];omega
 rw[e];simp
theorem ahO{g:List Nat}{x:Nat}(h:(!(g.contains x))=true):dR g (x+1)=dR g x++[x]:=by
 rw[C9,if_neg (by simpa using h)]
theorem ahd{g:List Nat}{x:Nat}(h:(!(g.contains x))=false):dR g (x+1)=dR g x:=by
 rw[C9,if_pos (by simpa using h),gq]
theorem Lm(g:List Nat)(x:Nat):(dR g x).length≤x:=by
 unfold dR;exact dh (qbO _ _) (by simp)
instance ae2(l:List Nat)(x:Nat):DenI Tryz.prog 29 [.c (.sl 1 (l.map nI)),.int .i64 (x:Nat)] (l.length≤1000000) (.int .i64 (IG l x)):=⟨λhp=>by
 refine bW Tryz.func29 rfl ?_
 all_goals first
  |((conv=>whnf);refine Sw.Loop.inv (α:=Nat) (λk=>[(0,.c (.sl 1 (l.map nI))),(1,.int .i64 (x:Nat)),(7,.int .i64 (l.length:Nat)),(8,.int .i64 (k:Nat))]) (λk=>[]) (λk=>k≤l.length∧∀j<k,l.getD j 0≠x) (λk=>l.length-k) 0 ?_ ?_ ?_ (λk hk=>?_))
 all_goals(repeat'((try(conv=>whnf));first
  |(with_reducible refine au (λ_=>?_) (λ_=>?_))|refine aU 0 ?_ ?_|refine Ends.mk ?_))
 all_goals(try refine Pr.mk ?_)
 all_goals(try simp only[aZ,gU]at *)
 all_goals first
  |trivial|omega|exact⟨rC _,λj hj=>absurd hj (Sv _)⟩|((conv=>whnf);exact⟨k+1,⟨⟨rfl,rfl,rfl,bQ (by omega),trivial⟩,trivial,⟨by omega,Zf hk.2 (by assumption)⟩,(by show l.length-(k+1)<l.length-k;omega)⟩⟩)|((with_reducible show aA _=_);rw[YF (k:=k) (by omega) hk.2 (by omega)];rfl)|((with_reducible show aA _=_);have hxx:k=l.length:=(by omega);subst hxx;rw[aci hk.2];rfl)⟩
set_option maxHeartbeats 16000000 in
theorem ahL(ls:List LayD)(es E1:List Ent)(C1:List Chn)(q:Rat)(hs:smA ls (es.map fK) (nD q)=true)(h1:ls.length≤1000)(h3:es.length≤12)(h5:∀e∈es,uO (fK e))(kp:Den Tryz.prog 13 [.agg [(.sl 3 (ls.map aS)),.sl 7 (es.map aK)],R q] (.tup [.agg [(.sl 3 (ls.map aS)),.sl 7 (E1.map aK)],.c (.sl 19 (C1.map iF)),.int .i64 0])):zh (Den Tryz.prog) mM (Wp 4 (Tryz.f7.body.getD .skip)) (λz e b=>z=.normal∧SubE [(2,.ptr 2 0),(5,.ptr 5 0),(6,.c (.sl 19 (C1.map iF)))] e∧SubB [(2,.var [(.sl 3 (ls.map aS)),.sl 7 (es.map aK)]),(3,.var (BH q)),(5,.var [(.sl 3 (ls.map aS)),.sl 7 (E1.map aK)])] b) (D5 0 [.agg [(.sl 3 (ls.map aS)),.sl 7 (es.map aK)],R q]) []:=by
 haveI i1:DenI Tryz.prog 13 [.agg [(.sl 3 (ls.map aS)),.sl 7 (es.map aK)],R q] True (.tup [.agg [(.sl 3 (ls.map aS)),.sl 7 (E1.map aK)],.c (.sl 19 (C1.map iF)),.int .i64 0]):=⟨λ_=>kp⟩
 (conv=>whnf)
 all_goals(repeat'((try(conv=>whnf));first
  |refine aG ?_|refine aj ?_ ?_|(with_reducible first|refine aQ ?_|refine aP ?_|refine cZ (λ_=>?_) (λ_=>?_))|refine OnB.mk (λ_=>?_) (λ_=>?_)|refine Drw.mk (by kernel_rfl) ?_))
 all_goals(try refine Pr.mk ?_)
 all_goals(try simp only[aZ,gU]at *)
 all_goals first
  |trivial|exact⟨h1,by omega,h5⟩|(exfalso;simp_all;done)
set_option maxHeartbeats 32000000 in
theorem ag7(es E1:List Ent)(C1:List Chn){ls:List LayD}(hcl:C1.length≤1000)(h3:es.length≤12)(hV:∀e∈E1,okV e)(hE:∀x<C1.length,(C1.getD x C0).kind=1→∀k:Nat,(dR (bF C1) es.length)[k]?=some (C1.getD x C0).ent→k<E1.length∧∃a b,bH (E1.getD k E0)=[a,b]∧(((C1.getD x C0).fin=0∧(C1.getD x C0).dst=some a)∨((C1.getD x C0).fin=1∧(C1.getD x C0).dst=some b))):zh (Den Tryz.prog) mM (V4 9 (Tryz.f7.body.getD .skip)) (Jz mM Tryz.f7 [none] (.bool true)) [(2,.ptr 2 0),(5,.ptr 5 0),(6,.c (.sl 19 (C1.map iF))),(11,.gs 1011 (dR (bF C1) es.length).length)] [(5,.var [(.sl 3 (ls.map aS)),.sl 7 (E1.map aK)]),(1011,.grow 3 1 ((dR (bF C1) es.length).map nI))]:=by
 have hns:=Lm (bF C1) es.length;generalize(dR (bF C1) es.length)=ns at hE hns ⊢
 (conv=>whnf)
 all_goals(repeat'((try(conv=>whnf));first
  |refine bI ?_ ?_))
 all_goals(try refine Pr.mk ?_)
 all_goals(try simp only[aZ,gU]at *)
 all_goals first
  |((conv=>whnf);refine Sw.Loop.inv (α:=Nat) (λx=>[(5,.ptr 5 0),(11,.c (.sl 1 (ns.map nI))),(103,.c (.sl 19 (C1.map iF))),(104,.int .i64 (C1.length:Nat)),(105,.int .i64 (x:Nat))]) (λx=>[(5,.var [(.sl 3 (ls.map aS)),.sl 7 (E1.map aK)])]) (λx=>x≤C1.length) (λx=>C1.length-x) 0 ?_ ?_ ?_ (λx hx=>?_))
 all_goals(repeat'((try(conv=>whnf));first
  |(with_reducible refine au (λ_=>?_) (λ_=>?_))|refine aU C0 ?_ ?_|refine Ends.mk ?_))
 all_goals(try refine Pr.mk ?_)
 all_goals(try simp only[aZ,gU]at *)
 all_goals(try((with_reducible show SG _ _ _ _);have hEx:=hE x (by omega);generalize hcc:C1.getD x C0=c at hEx ⊢;obtain⟨kd,en,fi,sr,ds⟩:=c;dsimp only at hEx;clear hE;rcases Rh ns en with hi|⟨k,hi,hk⟩<;>first|(have hk2:=hk;haveI i2:DenI Tryz.prog 29 [.c (.sl 1 (ns.map nI)),.int .i64 (en:Nat)] True (.int .i64 (k:Nat)):=⟨λ_=>(by have h:=(ae2 ns en).den (by omega);rw[hi]at h;exact h)⟩;by_cases hkd:kd=1<;>first|(subst hkd;obtain⟨hkl,a,b,hab,hh⟩:=hEx rfl k hk2;have hpa:=(hV _ (rH hkl)).2.1 a (iw (by rw[hab];simp));have hpb:=(hV _ (rH hkl)).2.1 b (iw (by rw[hab];simp));haveI i3:DenI Tryz.prog 26 [.agg (aK (E1.getD (Int.toNat ((k:Nat):Int)) E0))] True (.tup [.c (.sl 8 [aY a,aY b]),.bool true]):=⟨λ_=>(by have h:=(Y4 (E1.getD k E0)).den (dh (hV _ (rH hkl)).2.2.2 (by decide));rw[hab]at h;exact h)⟩;rcases hh with⟨rfl,rfl⟩|⟨rfl,rfl⟩<;>(first|rw[aer]|rw[aeo])<;>cases sr)|(cases sr<;>cases ds))|(haveI i2:DenI Tryz.prog 29 [.c (.sl 1 (ns.map nI)),.int .i64 (en:Nat)] True (.int .i64 (-1)):=⟨λ_=>(by have h:=(ae2 ns en).den (by omega);rw[hi]at h;exact h)⟩;cases sr<;>cases ds)))
 all_goals(repeat'((try(conv=>whnf));first
  |refine aG ?_|refine aj ?_ ?_|(with_reducible first|refine aQ ?_|refine aP ?_|refine au (λ_=>?_) (λ_=>?_)|refine cZ (λ_=>?_) (λ_=>?_))|refine OnB.mk (λ_=>?_) (λ_=>?_)|refine Drw.mk (by kernel_rfl) ?_|(with_reducible first|refine dn ?_|refine dM ?_)|refine aU E0 ?_ ?_|refine Ends.mk ?_))
 all_goals(try refine Pr.mk ?_)
 all_goals(try simp only[aZ,gU]at *)
 all_goals first
  |trivial|omega|exact⟨dh hpa.1 (by decide),dh hpa.2 (by decide),dh hpa.1 (by decide),dh hpa.2 (by decide)⟩|exact⟨dh hpb.1 (by decide),dh hpb.2 (by decide),dh hpb.1 (by decide),dh hpb.2 (by decide)⟩|((conv=>whnf);exact⟨x+1,⟨⟨rfl,rfl,rfl,rfl,bQ (by omega),trivial⟩,⟨rfl,trivial⟩,by omega,(by show C1.length-(x+1)<C1.length-x;omega)⟩⟩)
end Go.Proofs.YtmniihkenijjpaaGreatDoor
