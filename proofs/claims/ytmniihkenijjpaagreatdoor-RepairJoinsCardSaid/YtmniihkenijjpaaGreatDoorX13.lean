/-
  Rules of the abstract run, plain laws, and what functions answer, for the law RepairJoins.
  Conditions: none.
-/
import Derived.Test.YtmniihkenijjpaaGreatDoorX12
set_option linter.all false
namespace Go.Proofs.YtmniihkenijjpaaGreatDoor
open Go Go.RowKit Go.Sw
set_option maxRecDepth 100000
set_option maxHeartbeats 8000000
instance adp(a:Rat):DenI Tryz.prog 302 [R a] (rz a≤10000000) (Ov (dS a)):=⟨λhp=>by
 refine aC Tryz.func302 rfl ?_
 repeat'((try(conv=>whnf));first
  |refine aG ?_|refine aj ?_ ?_|(with_reducible first|refine aQ ?_|refine aP ?_|refine cZ (λ_=>?_) (λ_=>?_))|refine Drw.mk (by kernel_rfl) ?_|refine Ends.mk ?_)
 all_goals(try refine Pr.mk ?_)
 all_goals first
  |exact ovN (adK (by assumption))|exact ovN (aeX (by assumption))|(rename_i g1 g2;rw[if_pos g1,if_pos g2];rfl)|(have z1:=oD a ((65536:Int):Rat);have z2:=ahK;have z3:=qL (a*((65536:Int):Rat));have z4:=TN (-(a*((65536:Int):Rat)));omega)⟩
instance f_add(a b c d:Int):DenI Tryz.prog 304 [Iv a b,Iv c d] (-2305843009213693952≤a∧a≤2305843009213693952∧-2305843009213693952≤b∧b≤2305843009213693952∧-2305843009213693952≤c∧c≤2305843009213693952∧-2305843009213693952≤d∧d≤2305843009213693952) (Ov (vK (a,b) (c,d))):=⟨λhp=>by
 refine aC Tryz.func304 rfl ?_
 repeat'((try(conv=>whnf));first
  |refine aG ?_|refine Ends.mk ?_)
 rw[bP (by omega) (by omega),bP (by omega) (by omega)];rfl⟩
instance ahc(n:Int):DenI Tryz.prog 356 [.int .i64 n] (0≤n∧n≤2305843009213693952) (.tup [.int .i64 (rt n),.bool (decide (rt n*rt n=n*65536))]):=⟨λhp=>by
 refine aC Tryz.func356 rfl ?_
 repeat'((try(conv=>whnf));first
  |refine aG ?_|refine aj ?_ ?_|refine Drw.mk (by kernel_rfl) ?_|refine Ends.mk ?_)
 all_goals(try refine Pr.mk ?_)
 all_goals(have hn:=VU hp.1 hp.2;have h0:0=0:=rfl)
 all_goals(try simp only[afK,JH])
 all_goals first
  |exact ibE (if_pos (show -9223372036854775808≤rt n∧rt n≤9223372036854775807 by omega)) rfl|omega|(have z1:=jM n 65536;have z2:=szl n (by omega) (by omega);have z3:=szl 65536 (by omega) (by omega);have z4:=szl (rt n) (by omega) (by omega);omega)⟩
instance ahA(l h:Int):DenI Tryz.prog 335 [Iv l h] (l≤h∧-2305843009213693952≤l∧l≤2305843009213693952∧-2305843009213693952≤h∧h≤2305843009213693952) (Ov (ny (l,h))):=⟨λhp=>by
 refine aC Tryz.func335 rfl ?_
 repeat'((try(conv=>whnf));first
  |refine aG ?_|refine aj ?_ ?_|(with_reducible first|refine au (λ_=>?_) (λ_=>?_)|refine cZ (λ_=>?_) (λ_=>?_))|refine Ends.mk ?_)
 all_goals(try refine Pr.mk ?_)
 all_goals(try rw[Ze]at *)
 all_goals first
  |exact ovN (if_pos (by assumption))|exact afB (by assumption) (by assumption)|(have hn:=VU (n:=h) (by omega) (by omega);rw[bP (by omega) (by omega)];exact afb (by assumption) (by assumption))|(constructor<;>omega)⟩
instance aiH(a b c d:Int):DenI Tryz.prog 303 [Iv a b,Iv c d] (-2305843009213693952≤a∧a≤2305843009213693952∧-2305843009213693952≤b∧b≤2305843009213693952∧-2305843009213693952≤c∧c≤2305843009213693952∧-2305843009213693952≤d∧d≤2305843009213693952) (Ov (sH (a,b) (c,d))):=⟨λhp=>by
 refine aC Tryz.func303 rfl ?_
 all_goals(repeat'((try rw[Qe]);(try rw[IU]);(try(conv=>whnf));first
  |refine aj ?_ ?_|refine Yp rfl ?_|refine Gm rfl ?_|refine OnB.mk (λ_=>?_) (λ_=>?_)|(with_reducible first|refine dn ?_|refine dM ?_)|refine Sw.Loop.unroll ?_|refine Ends.mk ?_))
 all_goals(try refine Pr.mk ?_)
 all_goals(try simp only[W9,UW])
 all_goals first
  |exact ovN (wO (.inl rfl) (.inl rfl) (by with_reducible assumption))|exact ovN (wO (.inl rfl) (.inr rfl) (by with_reducible assumption))|exact ovN (wO (.inr rfl) (.inl rfl) (by with_reducible assumption))|exact ovN (wO (.inr rfl) (.inr rfl) (by with_reducible assumption))|(rename_i g1 g2 g3 g4;exact UR g1 g2 g3 g4)|(constructor<;>constructor<;>omega)⟩
instance agc(a b c:Rat):DenI Tryz.prog 307 [Q3 a b c] (rz a≤100000∧rz b≤100000∧rz c≤100000) (Ov (nJ a b c)):=⟨λhp=>by
 refine aC Tryz.func307 rfl ?_
 repeat'((try(conv=>whnf));first
  |refine aG ?_|refine aj ?_ ?_|(with_reducible first|refine aQ ?_|refine aP ?_|refine au (λ_=>?_) (λ_=>?_))|refine OnB.mk (λ_=>?_) (λ_=>?_)|refine Ends.mk ?_)
 all_goals(try refine Pr.mk ?_)
 all_goals(try simp only[Prod.eta]at *)
 all_goals first
  |omega|(have z1:=jH a;have z2:=jH b;have z3:=jH c;have z4:=Ub z3;have z5:=Ar ((dS b).getD (0,0)) ((ny ((dS c).getD (0,0))).getD (0,0));unfold Gw at *;omega)|refine ae4 ?_|(show Ov (dS a)=_;refine congrArg Ov ?_)|(show Ov (vK _ _)=_;refine congrArg Ov ?_)
 all_goals(unfold nJ;(try simp only[I9,iM]at *);rcases h1:dS a with _|x<;>rcases h2:dS b with _|y<;>rcases h3:dS c with _|z<;>simp_all)
 all_goals(rcases h4:ny z with _|s<;>simp_all)
 all_goals(rcases h5:sH y s with _|p<;>simp_all)⟩
instance ah6(n:Int):DenI Tryz.prog 202 [.int .i64 n] (True) (.bool false):=⟨λhp=>by
 refine aC Tryz.func202 rfl ?_
 all_goals(repeat'((try(conv=>whnf));first
  |refine Ends.mk ?_))
 all_goals first
  |(refine bE ?_;simp)⟩
instance aiT(m n:Int):DenI Tryz.prog 164 [.int .i64 m,.int .i64 n] (True) (.int .i64 (jC m n)):=⟨λhp=>by
 refine aC Tryz.func164 rfl ?_
 all_goals(repeat'((try(conv=>whnf));first
  |refine aG ?_|(with_reducible first|refine aP ?_|refine au (λ_=>?_) (λ_=>?_))|refine Ends.mk ?_))
 all_goals first
  |(refine iE ?_;unfold jC;(repeat' split)<;>omega)⟩
instance ait(a b:Rat):DenI Tryz.prog 124 [R a,R b] (rz a≤10000000∧rz b≤10000000) (.int .i64 (iV a b)):=⟨λhp=>by
 have i_a:RzB a 10000000:=⟨hp.1⟩
 have i_b:RzB b 10000000:=⟨hp.2⟩
 all_goals refine aC Tryz.func124 rfl ?_
 all_goals(repeat'((try(conv=>whnf));first
  |refine aG ?_|refine aj ?_ ?_|(with_reducible refine cZ (λ_=>?_) (λ_=>?_))|refine Drw.mk (by kernel_rfl) ?_|refine Ends.mk ?_))
 all_goals(try refine Pr.mk ?_)
 all_goals(try simp only[iD]at *)
 all_goals first
  |with_reducible exact aaU (by assumption)|rfl|((repeat' apply And.intro)<;>first|assumption|exact xI (by omega)|exact zf (by omega)|exact uD (aJ _) (aJ _))⟩
instance aiG(a b:Rat):DenC Tryz.prog 237 [R a,R b] (rz a≤10000000∧rz b≤10000000) (b=0) (.tup [ZR,.int .i64 6]) (.tup [R (a / b),.int .i64 0]):=⟨Yf λhp q e1 e2=>by
 have i_a:RzB a 10000000:=⟨hp.1⟩
 have i_b:RzB b 10000000:=⟨hp.2⟩
 all_goals refine aC Tryz.func237 rfl ?_
 all_goals(repeat'((try(conv=>whnf));first
  |refine aG ?_|refine aj ?_ ?_|(with_reducible refine au (λ_=>?_) (λ_=>?_))|refine Drw.mk (by kernel_rfl) ?_|refine Ends.mk ?_))
 all_goals(try refine Pr.mk ?_)
 all_goals(try simp only[iD]at *)
 all_goals first
  |(rw[e1 (by assumption)];rfl)|with_reducible exact aec (by assumption) e2|(refine⟨UH (by assumption), ?_, ?_⟩<;>exact zf (by omega))|((repeat' apply And.intro)<;>first|assumption|exact xI (by omega)|exact zf (by omega)|exact uD (aJ _) (aJ _))⟩
instance ahi(n d:Int):DenC Tryz.prog 253 [Z n,Z d] (sz n≤500000000∧sz d≤500000000) (d=0) (.tup [ZR,.int .i64 6]) (.tup [R ((n:Rat) / d),.int .i64 0]):=⟨Yf λhp q e1 e2=>by
 have i_n:SzB n 500000000:=⟨hp.1⟩
 have i_d:SzB d 500000000:=⟨hp.2⟩
 all_goals refine aC Tryz.func253 rfl ?_
 all_goals(repeat'((try(conv=>whnf));first
  |refine aG ?_|refine aj ?_ ?_|(with_reducible refine au (λ_=>?_) (λ_=>?_))|refine Ends.mk ?_))
 all_goals(try refine Pr.mk ?_)
 all_goals(try simp only[iD]at *)
 all_goals first
  |(rw[e1 (by assumption)];rfl)|(rw[e2 (by assumption)];rfl)|(refine⟨by assumption, ?_, ?_⟩<;>exact zf (by omega))⟩
instance ahz(n d:Int):DenI Tryz.prog 226 [.int .i64 n,.int .i64 d] ((-9223372036854775808≤n∧n≤9223372036854775807)∧-9223372036854775808≤d∧d≤9223372036854775807) (R ((n:Rat) / d)):=⟨λhp=>by
 refine aC Tryz.func226 rfl ?_
 all_goals(repeat'((try(conv=>whnf));first
  |refine aj ?_ ?_|(with_reducible refine au (λ_=>?_) (λ_=>?_))|refine Ends.mk ?_))
 all_goals(try refine Pr.mk ?_)
 all_goals first
  |rfl|omega|(subst d;exact congrArg R (abT n))|(have z1:=kM hp.1.1 hp.1.2;have z2:=kM hp.2.1 hp.2.2;omega)⟩
instance ahC(a b:Rat):DenI Tryz.prog 74 [R a,R b] (rz a≤10000000∧rz b≤10000000) (.bool (decide (a=b))):=⟨λhp=>by
 have i_a:RzB a 10000000:=⟨hp.1⟩
 have i_b:RzB b 10000000:=⟨hp.2⟩
 all_goals refine aC Tryz.func74 rfl ?_
 all_goals(repeat'((try(conv=>whnf));first
  |refine aG ?_|refine aj ?_ ?_|refine kH ?_ (λ_=>?_) (λ_=>?_)|(with_reducible first|refine aQ ?_|refine aP ?_|refine au (λ_=>?_) (λ_=>?_)|refine cZ (λ_=>?_) (λ_=>?_))|refine OnB.mk (λ_=>?_) (λ_=>?_)|refine bI ?_ ?_|refine Drw.mk (by kernel_rfl) ?_|refine gu ?_ ?_|refine iG ?_ ?_|(with_reducible first|refine bZ ?_ ?_|refine dn ?_|refine dM ?_)|refine Ends.mk ?_))
 all_goals(try refine Pr.mk ?_)
 all_goals(try simp only[iD]at *)
 all_goals first
  |with_reducible exact aao (by assumption)|with_reducible exact Yy (by assumption)|((repeat' apply And.intro)<;>first|assumption|exact xI (by omega)|exact zf (by omega)|exact uD (aJ _) (aJ _))|skip⟩
end Go.Proofs.YtmniihkenijjpaaGreatDoor
namespace Go.Sw
open Go
@[reducible] def aK(e:Ent):List Cell:=[.v (.int .i64 e.kind),.v (.string e.layer),.sl 8 (e.pts.map aY),.v (.bool e.rad.a),aV e.rad.l,.v (.bool e.rad.b),aV e.rad.m]
def dB(p:P2):Prop:=rz p.1≤12∧rz p.2≤12
def E0:Ent:=⟨0,⟨#[]⟩,[],⟨false,[],false,[]⟩⟩
theorem aaS{e:Ent}(h:e.kind=1∧e.pts.length=2∨e.kind=2∧e.pts.length=3):bH e=[e.pts.getD 0 P0,e.pts.getD (e.pts.length-1) P0]:=by
 obtain⟨kd,ly,pts,rd⟩:=e;simp only at h ⊢;rcases h with⟨rfl,h⟩|⟨rfl,h⟩
 ·match pts,h with
  |[a,b],_=>rfl
 ·match pts,h with
  |[a,m,b],_=>rfl
theorem aaY{e:Ent}(h:¬(e.kind=1∧e.pts.length=2∨e.kind=2∧e.pts.length=3)):bH e=[]:=by
 rcases iI e with⟨h1,_⟩|⟨a,b,h1,h2,_⟩|⟨a,m,b,h1,h2,_⟩
 ·exact h1
 ·exact absurd (.inl ⟨h1,by rw[h2];rfl⟩) h
 ·exact absurd (.inr ⟨h1,by rw[h2];rfl⟩) h
@[reducible] def Di(e:Ent):AV:=.tup [.c (.sl (if bH e=[] then 0 else 8) ((bH e).map aY)),.bool (decide (bH e≠[]))]
theorem JE{e:Ent}{i j:Nat}(h:e.kind=1∧e.pts.length=2∨e.kind=2∧e.pts.length=3)(hi:i=0)(hj:j=e.pts.length-1):aA [AV.c (Cell.sl 8 [aY (e.pts.getD i P0),aY (e.pts.getD j P0)]),AV.bool true]=Di e:=by
 subst hi hj;unfold Di;rw[aaS h];rfl
theorem PK{e:Ent}(h:¬(e.kind=1∧e.pts.length=2∨e.kind=2∧e.pts.length=3)):aA [AV.c (Cell.sl 0 []),AV.bool false]=Di e:=by
 unfold Di;rw[aaY h];rfl
theorem Jd(e:Ent):((bH e).length=2∧(e.pts.length=2∨e.pts.length=3))∨(bH e).length=0:=by
 rcases iI e with⟨h1,_⟩|⟨a,b,_,h2,h3⟩|⟨a,m,b,_,h2,h3⟩
 ·right;rw[h1];rfl
 ·left;rw[h2,h3];simp
 ·left;rw[h2,h3];simp
theorem SI{e:Ent}{l:List P2}{j:Nat}(h2:l.length=2)(hl:l.length=(bH e).length)(hj:j=e.pts.length-1):aA [AV.agg [.v (.int .i64 e.kind),.v (.string e.layer),.sl 8 (((e.pts.map aY).set 0 (aY (l.getD 0 P0))).set j (aY (l.getD 1 P0))),.v (.bool e.rad.a),aV e.rad.l,.v (.bool e.rad.b),aV e.rad.m]]=.agg (aK (gW e l)):=by
 subst hj;obtain⟨kd,ly,pts,rd⟩:=e
 match l,h2 with
 |[x,y],_ =>
 rcases iI ⟨kd,ly,pts,rd⟩with⟨h1,_⟩|⟨a,b,_,h2,h3⟩|⟨a,m,b,_,h2,h3⟩
 ·rw[h1]at hl;cases hl
 ·simp only at h2;subst h2;rfl
 ·simp only at h2;subst h2;rfl
theorem Tc{e:Ent}{l:List P2}(h2:¬(l.length:Int)=2)(hl:l.length=(bH e).length):aA [AV.agg (aK e)]=.agg (aK (gW e l)):=by
 rcases iI e with⟨h1,h⟩|⟨a,b,_,_,h3⟩|⟨a,m,b,_,_,h3⟩
 ·rw[h l (by rw[hl,h1];rfl)];rfl
 ·rw[h3]at hl;simp at hl;omega
 ·rw[h3]at hl;simp at hl;omega
theorem IV{M:Type}(d:M){f:M→List Cell}{l:List M}{y:M}{j:Int}{k:List Cell→Prop}(n:Nat)(hp:Pr (0≤j∧j<l.length))(hk:k (f ((l.set n y).getD j.toNat d))):Elem ((l.map f).set n (f y)) j k:=by
 rw[←List.map_set];exact aU d ⟨by rw[NC];exact hp.p⟩ hk
@[reducible] def ZVC:List Cell:=[.v (.bool false),.sl 1 [],.v (.bool false),.sl 1 [],.v (.bool false),.sl 1 [],.v (.bool false),.sl 1 []]
@[reducible] def ovC(p:Option P2):List Cell:=match p with|some v=>aY v|none=>ZVC
@[reducible] def iF(c:Chn):List Cell:=[.v (.int .i64 (c.kind:Nat)),.v (.int .i64 (c.ent:Nat)),.v (.int .i64 (c.fin:Nat))]++ovC c.src++ovC c.dst
@[reducible] def kN(x:Ent × Nat):List Cell:=aK x.1++[.v (.int .i64 (x.2:Nat))]
theorem Df(sq:Rat)(e:Ent):∀(l:List Ent) (i:Nat) (sp:fD),dA sq i sp (l++[e])=⟨(joinL sq e.layer (i+l.length) 0 (dA sq i sp l).sp (bH e)).sp,(dA sq i sp l).es++[gW e (joinL sq e.layer (i+l.length) 0 (dA sq i sp l).sp (bH e)).ws],(dA sq i sp l).cs++(joinL sq e.layer (i+l.length) 0 (dA sq i sp l).sp (bH e)).cs⟩
 |[],i,sp=>by simp[dA]
 |x::r,i,sp=>by
  have ih:=Df sq e r (i+1) (joinL sq x.layer i 0 sp (bH x)).sp;simp only[vg,dA,ih,iR];simp[show i+1+r.length=i+(r.length+1) by omega]
theorem tC(sq:Rat):∀(l:List Ent) (i:Nat) (sp:fD),(dA sq i sp l).es.length=l.length
 |[],i,sp=>rfl
 |x::r,i,sp=>by simp[dA,tC sq r]
def jA(sq:Rat)(es:List Ent)(x:Nat):JA:=dA sq 0 [] (es.take x)
theorem Hg(sq:Rat)(es:List Ent){x:Nat}(h:x<es.length):jA sq es (x+1)=⟨(joinL sq (es.getD x E0).layer x 0 (jA sq es x).sp (bH (es.getD x E0))).sp,(jA sq es x).es++[gW (es.getD x E0) (joinL sq (es.getD x E0).layer x 0 (jA sq es x).sp (bH (es.getD x E0))).ws],(jA sq es x).cs++(joinL sq (es.getD x E0).layer x 0 (jA sq es x).sp (bH (es.getD x E0))).cs⟩:=by
 have h1:es.take (x+1)=es.take x++[es.getD x E0]:=by
  rw[List.take_succ,jg h];simp[pz,h]
 have h2:(es.take x).length=x:=by simp;omega
 unfold jA;rw[h1,Df,h2,uX]
theorem Cb(sq:Rat)(es:List Ent):jA sq es es.length=dA sq 0 [] es:=by unfold jA;rw[Jl]
def nE(es:List Ent)(x:Nat):Nat:=((es.take x).map λe=>(bH e).length).sum
theorem Ai(es:List Ent){x:Nat}(h:x<es.length):nE es (x+1)=nE es x+(bH (es.getD x E0)).length:=by
 have h1:es.take (x+1)=es.take x++[es.getD x E0]:=by
  rw[List.take_succ,jg h];simp[pz,h]
 unfold nE;rw[h1];simp
theorem O7(es:List Ent):∀x,nE es x≤2*x
 |0=>by simp[nE]
 |x+1=>by
  by_cases h:x<es.length
  ·rw[Ai es h];have:=O7 es x;have h2:(bH (es.getD x E0)).length≤2:=by rcases Jd (es.getD x E0)with h|h<;>omega
   omega
  ·have h1:es.take (x+1)=es.take x:=by rw[XU (by omega),XU (by omega)]
   have:=O7 es x;unfold nE at this ⊢;rw[h1];omega
def SpB(q:P2→Prop)(sp:fD):Prop:=∀p∈sp,q p.2
theorem rX{sp:fD}{s:ByteArray}{v:P2}(h:v∈bU sp s):∃p∈sp,p.2=v:=by
 unfold bU at h;obtain⟨p,hp,rfl⟩:=fV.1 h;exact⟨p,(Af.1 hp).1,rfl⟩
theorem y7(sp:fD)(s:ByteArray):(bU sp s).length≤sp.length:=by
 unfold bU;rw[aZ];exact qbO _ _
theorem yG{q:P2→Prop}{sq:Rat}{sp:fD}{s:ByteArray}{v:P2}(h:SpB q sp)(hv:q v):SpB q (dD sq sp s v).1∧q (dD sq sp s v).2∧(dD sq sp s v).1.length≤sp.length+1:=by
 have h2:=Fh sq sp s v
 have key:SpB q (dD sq sp s v).1∧(dD sq sp s v).1.length≤sp.length+1:=by
  unfold dD;split
  ·exact⟨h,by simp⟩
  ·refine⟨λp hp=>?_,by simp⟩;rcases l9.1 hp with hp|hp
   ·exact h p hp
   ·simp only[uQ]at hp;subst hp;exact hv
 obtain⟨p,hp,he⟩:=rX h2;exact⟨key.1,he▸key.1 p hp,key.2⟩
theorem ER{q:P2→Prop}{sq:Rat}{s:ByteArray}{i:Nat}:∀{l:List P2} {k:Nat} {sp:fD},SpB q sp→(∀v∈l,q v)→SpB q (joinL sq s i k sp l).sp∧(∀w∈(joinL sq s i k sp l).ws,q w)∧(joinL sq s i k sp l).sp.length≤sp.length+l.length∧(joinL sq s i k sp l).ws.length=l.length∧(joinL sq s i k sp l).cs.length≤l.length
 |[],k,sp,h,_=>⟨h,λw hw=>by simp[joinL]at hw,by simp[joinL],rfl,by simp[joinL]⟩
 |v::r,k,sp,h,hl=>by
  obtain⟨h1,h2,h3⟩:=yG (sq:=sq) (s:=s) h (hl v (by simp));obtain⟨h4,h5,h6,h7,h8⟩:=ER (sq:=sq) (s:=s) (i:=i) (l:=r) (k:=k+1) h1 (λw hw=>hl w (by simp[hw]));refine⟨h4,λw hw=>?_, ?_,by simp[joinL,h7], ?_⟩
  ·simp only[joinL,rF]at hw;rcases hw with rfl|hw
   ·exact h2
   ·exact h5 w hw
  ·simp only[joinL,iR];omega
  ·simp only[joinL,iy,iR];have:(jn i k v (dD sq sp s v).2).length≤1:=by unfold jn;split<;>simp
   omega
theorem iw{e:Ent}{v:P2}(h:v∈bH e):v∈e.pts:=by
 rcases iI e with⟨h1,_⟩|⟨a,b,_,h2,h3⟩|⟨a,m,b,_,h2,h3⟩
 ·rw[h1]at h;cases h
 ·rw[h3]at h;rw[h2];exact h
 ·rw[h3]at h;rw[h2];simp at h ⊢;rcases h with h|h<;>simp[h]
theorem CP{q:P2→Prop}{e:Ent}{l:List P2}(h:∀p∈e.pts,q p)(hl:∀p∈l,q p):∀p∈(gW e l).pts,q p:=by
 unfold gW;split
 ·rename_i a b _ _ hp;intro p hp';simp at hp';rcases hp' with rfl|rfl<;>exact hl _ (by simp)
 ·rename_i a b _ m _ hp;intro p hp';simp at hp';rcases hp' with rfl|rfl|rfl
  ·exact hl _ (by simp)
  ·exact h _ (by rw[hp];simp)
  ·exact hl _ (by simp)
 ·exact h
theorem rH{es:List Ent}{x:Nat}(h:x<es.length):es.getD x E0∈es:=by
 have:es.getD x E0=es[x]:=by simp[pz,h]
 rw[this];exact DR h
theorem Kt{q:P2→Prop}{sq:Rat}{es:List Ent}(h:∀e∈es,∀p∈e.pts,q p):∀x,x≤es.length→SpB q (jA sq es x).sp∧(∀e∈(jA sq es x).es,∀p∈e.pts,q p)∧(jA sq es x).sp.length≤nE es x∧(jA sq es x).cs.length≤nE es x∧(jA sq es x).es.length=x
 |0,_=>⟨λp hp=>by simp[jA,dA]at hp,λe he=>by simp[jA,dA]at he,by simp[jA,dA],by simp[jA,dA],by simp[jA,dA]⟩
 |x+1,hx=>by
  have hlt:x<es.length:=by omega
  obtain⟨h1,h2,h3,h4,h5⟩:=Kt (sq:=sq) h x (by omega);have he:=rH hlt;obtain⟨k1,k2,k3,k4,k5⟩:=ER (q:=q) (sq:=sq) (s:=(es.getD x E0).layer) (i:=x) (k:=0) (l:=bH (es.getD x E0)) h1 (λv hv=>h _ he v (iw hv));rw[Hg sq es hlt,Ai es hlt];refine⟨k1,λe hm=>?_, ?_, ?_, ?_⟩
  ·simp only[l9,uQ]at hm;rcases hm with hm|rfl
   ·exact h2 e hm
   ·exact CP (h _ he) k2
  ·simp only;omega
  ·simp only[iy];omega
  ·simp only[iy,List.length_singleton];omega
theorem mV(e:Ent):bH e=[]∨∃a b,bH e=[a,b]:=by
 rcases iI e with⟨h1,_⟩|⟨a,b,_,_,h3⟩|⟨a,m,b,_,_,h3⟩
 ·exact .inl h1
 ·exact .inr ⟨a,b,h3⟩
 ·exact .inr ⟨a,b,h3⟩
theorem ZB{es:List Ent}(h:∀e∈es,(∀p∈e.pts,dB p)∧e.layer.size≤1000∧e.pts.length≤3)(x:Nat):(∀p∈(es.getD x E0).pts,dB p)∧(es.getD x E0).layer.size≤1000∧(es.getD x E0).pts.length≤3:=by
 by_cases hx:x<es.length
 ·exact h _ (rH hx)
 ·have:es.getD x E0=E0:=by simp[pz,Nat.le_of_not_lt hx]
  rw[this];exact⟨λp hp=>by simp[E0]at hp,by decide,by decide⟩
theorem YW{i k:Nat}{a w:P2}(h:(!(decide (a.1=w.1)&&decide (a.2=w.2)))=true):jn i k a w=[⟨1,i,k,some a,some w⟩]:=by
 unfold jn;rw[if_neg];rintro rfl;simp at h
theorem ZK{i k:Nat}{a w:P2}(h:(!(decide (a.1=w.1)&&decide (a.2=w.2)))=false):jn i k a w=[]:=by
 unfold jn;rw[if_pos];simp at h;exact Prod.ext h.1 h.2
theorem spq{sp:fD}{s:ByteArray}(h:SpB dB sp)(p:P2)(hp:p∈bU sp s):rz p.1≤12∧rz p.2≤12:=by
 obtain⟨q,hq,rfl⟩:=rX hp;exact h q hq
theorem acQ(sq:Rat)(es:List Ent){x:Nat}(h:x<es.length)(hE:bH (es.getD x E0)=[]):jA sq es (x+1)=⟨(jA sq es x).sp,(jA sq es x).es++[es.getD x E0],(jA sq es x).cs⟩∧nE es (x+1)=nE es x:=by
 rw[Hg sq es h,Ai es h,hE];refine⟨?_,rfl⟩;have h2:gW (es.getD x E0) []=es.getD x E0:=by rw[←hE];exact MI _
 simp only[joinL,h2,gq]
theorem ab7(sq:Rat)(es:List Ent){x:Nat}{a b:P2}(h:x<es.length)(hE:bH (es.getD x E0)=[a,b]):jA sq es (x+1)=⟨(dD sq (dD sq (jA sq es x).sp (es.getD x E0).layer a).1 (es.getD x E0).layer b).1,(jA sq es x).es++[gW (es.getD x E0) [(dD sq (jA sq es x).sp (es.getD x E0).layer a).2,(dD sq (dD sq (jA sq es x).sp (es.getD x E0).layer a).1 (es.getD x E0).layer b).2]],(jA sq es x).cs++(jn x 0 a (dD sq (jA sq es x).sp (es.getD x E0).layer a).2++jn x 1 b (dD sq (dD sq (jA sq es x).sp (es.getD x E0).layer a).1 (es.getD x E0).layer b).2)⟩∧nE es (x+1)=nE es x+1+1:=by
 rw[Hg sq es h,Ai es h,hE];refine⟨?_,rfl⟩;simp[joinL]
def N0:Ent×Nat:=(E0,0)
def okE(e:Ent):Prop:=(∀p∈e.pts,dB p)∧e.layer.size≤1000∧e.pts.length≤3
theorem agt:okE E0:=⟨λp hp=>by simp[E0]at hp,by decide,by decide⟩
theorem OB{l:List (Ent×Nat)}(h:∀x∈l,okE x.1)(x:Nat):okE (l.getD x N0).1:=by
 by_cases hx:x<l.length
 ·have:l.getD x N0=l[x]:=by simp[pz,hx]
  rw[this];exact h _ (DR hx)
 ·have:l.getD x N0=N0:=by simp[pz,Nat.le_of_not_lt hx]
  rw[this];exact agt
theorem U7{v w:P2}:(decide (v.1=w.1)&&decide (v.2=w.2))=decide (v=w):=by
 rw[ZX];simp[Prod.ext_iff]
theorem wC{l:List (Ent×Nat)}{x:Nat}(h:x<l.length):l[x]?=some (l.getD x N0):=by simp[pz,h]
theorem Sz{l:List (Ent×Nat)}{s:ByteArray}{i k:Nat}{v:P2}{x:Nat}(h:x<l.length)(hE:bH (l.getD x N0).1=[]):metAt l s i k v x=false:=by
 unfold metAt;rw[wC h];simp only[];rw[hE];simp
theorem QY{l:List (Ent×Nat)}{s:ByteArray}{i k:Nat}{v a b:P2}{x:Nat}(h:x<l.length)(hE:bH (l.getD x N0).1=[a,b]):metAt l s i k v x=(eqS (l.getD x N0).1.layer s&&(((x != i||0 != k)&&decide (v=a)) ||((x != i||1 != k)&&decide (v=b)))):=by
 unfold metAt;rw[wC h];simp only[];rw[hE]
theorem Ei{l:List (Ent×Nat)}{s:ByteArray}{i k:Nat}{v:P2}{x:Nat}(h:x<l.length)(hE:(!((l.getD x N0).1.layer.toList == s.toList))=true):metAt l s i k v x=false:=by
 unfold metAt;rw[wC h];simp only[eqS];simp only[BR]at hE;rw[hE];simp
theorem NY{l:List (Ent×Nat)}{s:ByteArray}{i k:Nat}{v a b:P2}{x:Nat}(h:x<l.length)(hE:bH (l.getD x N0).1=[a,b])(hL:(!((l.getD x N0).1.layer.toList == s.toList))=false):metAt l s i k v x=(((x != i||0 != k)&&(decide (v.1=a.1)&&decide (v.2=a.2))) ||((x != i||1 != k)&&(decide (v.1=b.1)&&decide (v.2=b.2)))):=by
 rw[QY h hE,U7,U7];simp only[Bool.not_eq_false']at hL;simp only[eqS,hL,XG]
theorem adh{l:List (Ent×Nat)}{s:ByteArray}{i k:Nat}{v:P2}{x:Nat}(h:x<l.length)(hm:metAt l s i k v x=true):D8 l s i k v=true:=by
 unfold D8;exact List.any_eq_true.2 ⟨x,by simpa using h,hm⟩
theorem Tj{l:List (Ent×Nat)}{s:ByteArray}{i k:Nat}{v:P2}(hm:∀j<l.length,metAt l s i k v j=false):D8 l s i k v=false:=by
 unfold D8;rw[KY];intro j hj;rw[hm j (by simpa using hj)];simp
theorem wS{l:List (Ent×Nat)}{s:ByteArray}{i k:Nat}{v:P2}{x:Nat}(hm:∀j<x,metAt l s i k v j=false)(h:metAt l s i k v x=false):∀j<x+1,metAt l s i k v j=false:=λj hj=>by
 rcases D7 j x with h1|h1
 ·exact hm j h1
 ·have:j=x:=by omega
  subst this;exact h
def Tz(l:List (Ent×Nat))(x:Nat):List Chn:=(List.range x).flatMap (opn l)
theorem Oi(l:List (Ent×Nat)):Tz l l.length=BN l:=rfl
theorem O9{l:List (Ent×Nat)}{x:Nat}(h:x<l.length)(hE:bH (l.getD x N0).1=[]):Tz l (x+1)=Tz l x:=by
 unfold Tz;rw[List.range_succ,Xc]
 have:opn l x=[]:=by
  unfold opn;rw[wC h];simp only[];rw[hE]
 simp[this]
theorem Pv{l:List (Ent×Nat)}{x:Nat}{a b:P2}(h:x<l.length)(hE:bH (l.getD x N0).1=[a,b]):Tz l (x+1)=Tz l x++(wZ l (l.getD x N0).1.layer (l.getD x N0).2 x 0 a++wZ l (l.getD x N0).1.layer (l.getD x N0).2 x 1 b):=by
 unfold Tz;rw[List.range_succ,Xc]
 have:opn l x=wZ l (l.getD x N0).1.layer (l.getD x N0).2 x 0 a++wZ l (l.getD x N0).1.layer (l.getD x N0).2 x 1 b:=by
  unfold opn;rw[wC h];simp only[];rw[hE]
 simp[this]
theorem FM{l:List (Ent×Nat)}{s:ByteArray}{n i k:Nat}{v:P2}(h:(!D8 l s i k v)=true):wZ l s n i k v=[⟨4,n,k,some v,some v⟩]:=by
 unfold wZ;rw[if_neg];simpa using h
theorem H6{l:List (Ent×Nat)}{s:ByteArray}{n i k:Nat}{v:P2}(h:(!D8 l s i k v)=false):wZ l s n i k v=[]:=by
 unfold wZ;rw[if_pos];simpa using h
theorem KC{l:List (Ent×Nat)}{s:ByteArray}{n i k:Nat}{v:P2}:(wZ l s n i k v).length≤1:=by
 unfold wZ;split<;>simp
theorem AA(l:List (Ent×Nat)):∀x,x≤l.length→(Tz l x).length≤2*x
 |0,_=>by simp[Tz]
 |x+1,h=>by
  have ih:=AA l x (by omega);rcases mV (l.getD x N0).1 with hE|⟨a,b,hE⟩
  ·rw[O9 (by omega) hE];omega
  ·rw[Pv (by omega) hE];have h1:=KC (l:=l) (s:=(l.getD x N0).1.layer) (n:=(l.getD x N0).2) (i:=x) (k:=0) (v:=a);have h2:=KC (l:=l) (s:=(l.getD x N0).1.layer) (n:=(l.getD x N0).2) (i:=x) (k:=1) (v:=b);simp only[iy];omega
abbrev qm(a b c:P2):Rat:=cD a.1 a.2 b.1 b.2 c.1 c.2
abbrev cU3(a b c:P2):Rat:=cU a.1 a.2 b.1 b.2 c.1 c.2
abbrev cV3(a b c:P2):Rat:=cV a.1 a.2 b.1 b.2 c.1 c.2
def ctX(a b c:P2):Rat:=a.1+cU3 a b c/(qm a b c+qm a b c)
def ctY(a b c:P2):Rat:=a.2+cV3 a b c/(qm a b c+qm a b c)
def VH(a b c:P2):Rat:=cU3 a b c/(qm a b c+qm a b c)*(cU3 a b c/(qm a b c+qm a b c))+cV3 a b c/(qm a b c+qm a b c)*(cV3 a b c/(qm a b c+qm a b c))
@[reducible] def ctr(a b c:P2):P2:=(ctX a b c,ctY a b c)
abbrev H9(k:P2)(q:Rat)(p:P2):Prop:=(p.1-k.1)*(p.1-k.1)+(p.2-k.2)*(p.2-k.2)=q
def onP(k:P2)(q:Rat)(cw:Bool)(a c p:P2):Bool:=decide (H9 k q p)&&decide ((if cw=true then Dx k c p a else Dx k a p c)≤0)
theorem Zt{x y X Y Q:Rat}:decide (-(bG ((x-X)*(x-X)+(y-Y)*(y-Y)-Q))=0)=decide (H9 (X,Y) Q (x,y)):=by
 rw[decide_eq_decide];constructor
 ·intro h;have:=(iM (a:=(x-X)*(x-X)+(y-Y)*(y-Y)-Q)).1 (by omega);unfold H9;simp only;grind
 ·intro h;unfold H9 at h;simp only at h;have:bG ((x-X)*(x-X)+(y-Y)*(y-Y)-Q)=0:=iM.2 (by grind);omega
theorem abp(a b:Rat):rD a b 0=bG a:=by
 unfold rD;have:bG b*bG 0=0:=by rw[iM.2 rfl];omega
 rw[if_pos (.inr this)]
set_option synthInstance.maxSize 4000 in
set_option synthInstance.maxHeartbeats 400000 in
theorem Le{a b c:P2}(h1:dB a)(h2:dB b)(h3:dB c):rz (ctX a b c)≤7000∧rz (ctY a b c)≤7000∧rz (VH a b c)≤27000:=by
 obtain⟨a1,a2⟩:=a;obtain⟨b1,b2⟩:=b;obtain⟨c1,c2⟩:=c;have i1:RzB a1 12:=⟨h1.1⟩
 have i2:RzB a2 12:=⟨h1.2⟩
 have i3:RzB b1 12:=⟨h2.1⟩
 have i4:RzB b2 12:=⟨h2.2⟩
 have i5:RzB c1 12:=⟨h3.1⟩
 have i6:RzB c2 12:=⟨h3.2⟩
 simp only[ctX,ctY,VH,cU3,cV3,qm,cU,cV,cD];exact⟨xI (by omega),xI (by omega),xI (by omega)⟩
theorem acM(a b c:P2):kR a b c=qm a b c:=by unfold kR qm cD;grind
theorem Y0{a b c:P2}(h:¬qm a b c=0):H9 (ctr a b c) (VH a b c) a∧H9 (ctr a b c) (VH a b c) b∧H9 (ctr a b c) (VH a b c) c∧0<VH a b c :=
 ⟨abV h rfl rfl,acS h rfl rfl,ab9 h rfl rfl,adg h⟩
theorem Y9{a b c p:P2}(h:¬qm a b c=0):H9 (ctr a b c) (VH a b c) p↔cU3 a b c*(p.1-a.1)+cV3 a b c*(p.2-a.2)=qm a b c*((p.1-a.1)*(p.1-a.1)+(p.2-a.2)*(p.2-a.2)):=by
 have h2:=FB h;unfold H9 ctr ctX ctY VH;generalize qm a b c=D at *;generalize cU3 a b c=U at *;generalize cV3 a b c=V at *;obtain⟨a1,a2⟩:=a;obtain⟨p1,p2⟩:=p;simp only;have e1:U/(D+D)*(D+D)=U:=by grind
 have e2:V/(D+D)*(D+D)=V:=by grind
 generalize U/(D+D)=u at *;generalize V/(D+D)=v at *;subst e1 e2;constructor
 ·intro e;have e3:u*(p1-a1)+u*(p1-a1)+(v*(p2-a2)+v*(p2-a2))=(p1-a1)*(p1-a1)+(p2-a2)*(p2-a2):=by grind
  have e4:D*(u*(p1-a1)+u*(p1-a1)+(v*(p2-a2)+v*(p2-a2)))=D*((p1-a1)*(p1-a1)+(p2-a2)*(p2-a2)):=by rw[e3]
  grind
 ·intro e;have e4:D*((u*(p1-a1)+u*(p1-a1)+(v*(p2-a2)+v*(p2-a2)))-((p1-a1)*(p1-a1)+(p2-a2)*(p2-a2)))=0:=by grind
  rcases Rat.mul_eq_zero.1 e4 with h3|h3
  ·exact absurd h3 h
  ·grind
theorem Ep(a:Int):jr (-a) = -jr a:=by unfold jr;(repeat' split)<;>omega
theorem QK(k p:P2):fC k p p=0:=by
 have:=jl k p p;omega
theorem Vt(k p:P2):JW k p p=0:=by unfold JW;rw[QK];rfl
theorem abk(k f p:P2):0≤JW k f p:=by unfold JW;(repeat' split)<;>omega
theorem Qa(k f p:P2):0≤JW k f p∧JW k f p≤2:=by unfold JW;(repeat' split)<;>omega
theorem J4(k f p q:P2):Dx k f p q = -Dx k f q p:=by
 unfold Dx;rw[jl k p q]
 by_cases h:JW k f p=JW k f q
 ·rw[if_pos h,if_pos h.symm,Ep]
 ·rw[if_neg h,if_neg (λe=>h e.symm),←Ep];congr 1;omega
theorem QL(k f q:P2):Dx k f f q≤0:=by
 unfold Dx;rw[Vt];have:=abk k f q;split
 ·rename_i e
  have h0:fC k q f=0:=by
   unfold JW at e
   (repeat' split at e)<;>first|assumption|omega
  rw[jl,h0];decide
 ·rw[J3];omega
theorem V5(k f q:P2):Dx k f q q≤0:=by
 have:=J4 k f q q;omega
theorem Zc{k f p q:P2}(h:Dx k f p q=0):fC k p q=0:=by
 unfold Dx at h;split at h
 ·exact yP.1 h
 ·rw[yP]at h;omega
theorem cwE{a b c d e f:Rat}:decide (iV ((c-a)*(f-b)) ((d-b)*(e-a))>0)=decide (0<cD a b c d e f):=by
 rw[decide_eq_decide,I4];unfold cD;constructor<;>intro h<;>grind
theorem cwF{a b c d e f:Rat}:decide ((d-b)*(e-a)<(c-a)*(f-b))=decide (0<cD a b c d e f):=by
 rw[decide_eq_decide];unfold cD;constructor<;>intro h<;>grind
theorem abo{k a p c:P2}{q:Rat}(hq:0<q)(e1:H9 k q a)(e2:H9 k q p)(e3:H9 k q c)(h1:p≠a)(h2:p≠c)(h3:a≠c):kR a p c≠0:=by
 have n1:=ons hq e1;have n2:=ons hq e2;have n3:=ons hq e3;have d1:fC k a p≠0:=λg=>h1 (tH e1 e2 n1 n2 g).symm
 have d2:fC k p c≠0:=λg=>h2 (tH e2 e3 n2 n3 g)
 have d3:fC k a c≠0:=λg=>h3 (tH e1 e3 n1 n3 g)
 have a1:=jl k a p;have a2:=jl k p c;have a3:=jl k a c;have x1:kR a c p = -kR a p c:=by unfold kR;grind
 have x2:kR c a p=kR a p c:=by unfold kR;grind
 have x3:kR p a c = -kR a p c:=by unfold kR;grind
 have x4:kR p c a=kR a p c:=by unfold kR;grind
 have x5:kR c p a = -kR a p c:=by unfold kR;grind
 intro hz;have l1:fC k a p<0→fC k p c<0→False:=λg1 g2=>by have:=ZH e1 e2 e3 n1 n2 n3 g1 g2;grind
 have l2:fC k a c<0→fC k c p<0→False:=λg1 g2=>by have:=ZH e1 e3 e2 n1 n3 n2 g1 g2;grind
 have l3:fC k c a<0→fC k a p<0→False:=λg1 g2=>by have:=ZH e3 e1 e2 n3 n1 n2 g1 g2;grind
 have l4:fC k p a<0→fC k a c<0→False:=λg1 g2=>by have:=ZH e2 e1 e3 n2 n1 n3 g1 g2;grind
 have l5:fC k p c<0→fC k c a<0→False:=λg1 g2=>by have:=ZH e2 e3 e1 n2 n3 n1 g1 g2;grind
 have l6:fC k c p<0→fC k p a<0→False:=λg1 g2=>by have:=ZH e3 e2 e1 n3 n2 n1 g1 g2;grind
 clear e1 e2 e3 n1 n2 n3 x1 x2 x3 x4 x5 hz;generalize fC k a p=A at *;generalize fC k p c=B at *;generalize fC k a c=C at *;generalize fC k p a=A' at *;generalize fC k c p=B' at *;generalize fC k c a=C' at *
 by_cases g1:A<0<;>by_cases g2:B<0<;>by_cases g3:C<0
 ·exact l1 g1 g2
 ·exact l1 g1 g2
 ·exact l2 g3 (by omega)
 ·exact l3 (by omega) g1
 ·exact l4 (by omega) g3
 ·exact l5 g2 (by omega)
 ·exact l6 (by omega) (by omega)
 ·exact l6 (by omega) (by omega)
theorem KN{k a p c:P2}{q:Rat}(hq:0<q)(e1:H9 k q a)(e2:H9 k q p)(e3:H9 k q c)(h3:a≠c):Dx k a p c≤0↔(p=a∨p=c∨0<kR a p c):=by
 have n1:=ons hq e1;have n2:=ons hq e2;have n3:=ons hq e3;constructor
 ·intro h
  by_cases h1:p=a
  ·exact .inl h1
  by_cases h2:p=c
  ·exact .inr (.inl h2)
  refine .inr (.inr ?_);have hne:=abo hq e1 e2 e3 h1 h2 h3;refine Decidable.byContradiction λhn=>?_
  have hx:0<kR a c p:=by
   have:kR a c p = -kR a p c:=by unfold kR;grind
   grind
  have h4:=OQ e1 e3 e2 n1 n3 n2 hx;have h5:=J4 k a p c;have h6:Dx k a p c=0:=by omega
  exact h2 (tH e2 e3 n2 n3 (Zc h6))
 ·rintro (rfl|rfl|h)
  ·exact QL k p c
  ·exact V5 k a p
  ·exact OQ e1 e2 e3 n1 n2 n3 h
theorem Zz{a b c p:P2}(h:¬qm a b c=0):onP (ctr a b c) (VH a b c) (!decide (0<qm a b c)) a c p=XK a b c p:=by
 obtain⟨e1,e2,e3,hq⟩:=Y0 h;have hac:a≠c:=λe=>h (by subst e;unfold qm cD;grind)
 unfold onP XK;rw[ZX];simp only[eF,decide_eq_true_eq,ne_eq];rw[←Y9 (p:=p) h]
 have key:∀ep:H9 (ctr a b c) (VH a b c) p,((if(!decide (0<qm a b c))=true then Dx (ctr a b c) c p a else Dx (ctr a b c) a p c)≤0↔(p=a∨p=c∨0<kR a p c*kR a b c)):=by
  intro ep;rw[acM a b c]
  by_cases hd:0<qm a b c
  ·rw[if_neg (by simp[hd]),KN hq e1 ep e3 hac]
   have:0<kR a p c↔0<kR a p c*qm a b c:=⟨λh=>Am h hd,λh=>by
    refine Decidable.byContradiction λhn=>?_
    have:=zC (show 0≤-kR a p c by grind) (show 0≤qm a b c by grind)
    grind⟩
   rw[this]
  ·have hd':qm a b c<0:=by grind
   rw[if_pos (by simp[hd]),KN hq e3 ep e1 (λe=>hac e.symm)];have hx:kR c p a = -kR a p c:=by unfold kR;grind
   have:0<kR c p a↔0<kR a p c*qm a b c:=⟨λh=>by
    have:=Am (show 0 < -kR a p c by grind) (show 0 < -qm a b c by grind)
    grind,λh=>by
    refine Decidable.byContradiction λhn=>?_
    have:=zC (show 0≤kR a p c by grind) (show 0≤-qm a b c by grind)
    grind⟩
   rw[this];constructor
   ·rintro (h|h|h)
    ·exact .inr (.inl h)
    ·exact .inl h
    ·exact .inr (.inr h)
   ·rintro (h|h|h)
    ·exact .inr (.inl h)
    ·exact .inl h
    ·exact .inr (.inr h)
 constructor
 ·rintro ⟨g1,g2⟩;exact⟨h,g1,(key g1).1 g2⟩
 ·rintro ⟨_,g1,g2⟩;exact⟨g1,(key g1).2 g2⟩
def ccE(a b c p:P2):Rat:=cU3 a b c*(p.1-a.1)+cV3 a b c*(p.2-a.2)-qm a b c*((p.1-a.1)*(p.1-a.1)+(p.2-a.2)*(p.2-a.2))
theorem ZJ{a b c p:P2}:XK a b c p=true↔(qm a b c≠0∧ccE a b c p=0∧(p=a∨p=c∨0<kR a p c*kR a b c)):=by
 unfold XK ccE;rw[decide_eq_true_eq];constructor
 ·rintro ⟨h1,h2,h3⟩;exact⟨h1,by rw[h2];grind,h3⟩
 ·rintro ⟨h1,h2,h3⟩;exact⟨h1,by grind,h3⟩
theorem acP{kd:Int}{ly:ByteArray}{a m b:P2}{rd:Rq}:DY ⟨kd,ly,[a,m,b],rd⟩=decide (qm a m b=0):=rfl
theorem acJ{a b c p:P2}(h:qm a b c=0):XK a b c p=false:=by
 rw[Bool.eq_false_iff];intro e;exact(ZJ.1 e).1 h
@[reducible] def nD(q:Rat):Rq:=⟨decide (q.num<0),lim q.num.natAbs,decide ((q.den:Int)<0),lim (q.den:Int).natAbs⟩
theorem WR{α:Type}{p:List α→Prop}(h0:p [])(h1:∀l e,p l→p (l++[e]))(l:List α):p l:=by
 have key:∀r:List α,p r.reverse:=λr=>by
  induction r with
  |nil=>exact h0
  |cons e r ih=>rw[List.reverse_cons];exact h1 _ _ ih
 have:=key l.reverse
 rwa [List.reverse_reverse]at this
theorem Fq(l:List Ent)(e:Ent):zS (l++[e])=zS l++[(e,(zS l).any λp=>!p.2&&iZ e p.1)]:=by
 unfold zS;rw[List.foldl_append];rfl
theorem KI(l:List Ent):(zS l).map (·.1)=l:=by
 induction l using WR with
 |h0=>rfl
 |h1 l e ih=>rw[Fq,gG,ih];rfl
theorem BX(l:List Ent):(zS l).length=l.length:=by
 have:=congrArg List.length (KI l);simpa using this
theorem jo(l:List Ent):(dY l).length=l.length:=by unfold dY;rw[aZ,BX]
theorem YN{l:List Ent}{k:Nat}(h:k<l.length):(zS l)[k]?=some (l.getD k E0,(dY l).getD k false):=by
 have h1:k<(zS l).length:=by rw[BX];exact h
 have e1:((zS l).map (·.1))[k]?=l[k]?:=by rw[KI]
 rw[zQ,jg h1,jg h]at e1;simp only[xP,nU]at e1;rw[jg h1];congr 1;refine Prod.ext ?_ ?_
 ·rw[e1];simp[pz,h]
 ·simp[dY,pz,h1]
theorem Yr{l:List Ent}{x:Nat}(h:x<l.length):l.take (x+1)=l.take x++[l.getD x E0]:=by
 rw[List.take_succ,jg h];simp[pz,h]
def zk(l:List Ent)(x:Nat):List Bool:=dY (l.take x)++List.replicate (l.length-x) false
theorem Zb{l:List Ent}{x:Nat}(h:x≤l.length):(zk l x).length=l.length:=by
 unfold zk;rw[iy,jo,uM,zO];omega
theorem afo(l:List Ent):zk l 0=List.replicate l.length false:=rfl
theorem YX(l:List Ent):zk l l.length=dY l:=by unfold zk;rw[Jl,Nat.sub_self];simp
def uG(l:List Ent)(x k:Nat):Bool:=((zS (l.take x)).take k).any λp=>!p.2&&iZ (l.getD x E0) p.1
theorem Eh{l:List Ent}{x k:Nat}(hx:x<l.length)(hk:k<x):uG l x (k+1)=(uG l x k ||(!(zk l x).getD k false&&iZ (l.getD x E0) (l.getD k E0))):=by
 have hk':k<(l.take x).length:=by simp;omega
 unfold uG;rw[List.take_succ,List.any_append,YN hk'];have e1:(l.take x).getD k E0=l.getD k E0:=by simp[pz,hk,Dw]
 have e2:(zk l x).getD k false=(dY (l.take x)).getD k false:=by
  unfold zk;simp only[pz];rw[Nr (by rw[jo];exact hk')]
 rw[e1,e2];simp
theorem IJ{l:List Ent}{x:Nat}(hx:x≤l.length):uG l x x=((zS (l.take x)).any λp=>!p.2&&iZ (l.getD x E0) p.1):=by
 unfold uG;rw[XU (by rw[BX,uM];omega)]
theorem Qx{l:List Ent}{x k:Nat}(hx:x<l.length)(hk:k<x)(h:uG l x (k+1)=true):uG l x x=true:=by
 rw[IJ (by omega)];unfold uG at h;obtain⟨p,h1,h2⟩:=List.any_eq_true.1 h;exact List.any_eq_true.2 ⟨p,List.mem_of_mem_take h1,h2⟩
theorem Jo{l:List Ent}{x:Nat}(hx:x<l.length):zk l (x+1)=(zk l x).set x (uG l x x):=by
 unfold zk
 have h1:dY (l.take (x+1))=dY (l.take x)++[uG l x x]:=by
  rw[Yr hx];unfold dY;rw[Fq,gG,IJ (by omega)];rfl
 have h2:List.replicate (l.length-x) false=false::List.replicate (l.length-(x+1)) false:=by
  rw[show l.length-x=(l.length-(x+1))+1 by omega];rfl
 have h3:(dY (l.take x)).length=x:=by rw[jo,uM];omega
 rw[h1,h2,List.set_append_right _ _ (by omega),h3,Nat.sub_self];simp
theorem aeR{l:List Ent}{x:Nat}(hx:x<l.length)(h:uG l x x=false):zk l (x+1)=zk l x:=by
 rw[Jo hx,h];have h3:(dY (l.take x)).length=x:=by rw[jo,uM];omega
 have h2:List.replicate (l.length-x) false=false::List.replicate (l.length-(x+1)) false:=by
  rw[show l.length-x=(l.length-(x+1))+1 by omega];rfl
 unfold zk;rw[h2,List.set_append_right _ _ (by omega),h3,Nat.sub_self];simp
theorem ad6{l:List Ent}{x k:Nat}(hx:x<l.length)(hk:k<x)(h:uG l x (k+1)=true):zk l (x+1)=(zk l x).set x true:=by
 rw[Jo hx,Qx hx hk h]
structure EntR where
 kind:Int
 layer:ByteArray
 pts:List (Rq×Rq)
 rad:Rq
structure LayD where
 name:ByteArray
 kind:Int
 depth:Int
@[reducible] def YI(r:Rq):List Cell:=[.v (.bool r.a),aV r.l,.v (.bool r.b),aV r.m]
@[reducible] def xE(p:Rq × Rq):List Cell:=[.v (.bool p.1.a),aV p.1.l,.v (.bool p.1.b),aV p.1.m,.v (.bool p.2.a),aV p.2.l,.v (.bool p.2.b),aV p.2.m]
@[reducible] def dV(e:EntR):List Cell:=[.v (.int .i64 e.kind),.v (.string e.layer),.sl 8 (e.pts.map xE),.v (.bool e.rad.a),aV e.rad.l,.v (.bool e.rad.b),aV e.rad.m]
@[reducible] def aS(l:LayD):List Cell:=[.v (.string l.name),.v (.int .i64 l.kind),.v (.int .i64 l.depth)]
def vR(r:Rq):Bool:=jv r.a r.l r.b r.m
def qR(r:Rq):Rat:=((eG r.a (val r.l):Int):Rat)/((eG r.b (val r.m):Int):Rat)
def Iu(r:Rq):Prop:=r.l.length≤6∧r.m.length≤6
theorem ac0(q:Rat):((q.num:Int):Rat)/((q.den:Int):Rat)=q:=by
 have h:=Rat.num_divInt_den q
 rwa [Rat.divInt_eq_div]at h
theorem N7(q:Rat):qR (nD q)=q:=by
 unfold qR nD;simp only;rw[aB,Aj,aB,Aj,ac0]
theorem adY(q:Rat):vR (nD q)=true:=NS q
theorem Bc{r:Rq}(h:vR r=true):r=nD (qR r):=by
 obtain⟨q,h1,h2,h3,h4⟩:=QH h;obtain⟨a,l,b,m⟩:=r;simp only at h1 h2 h3 h4;subst h1 h2 h3 h4;exact(congrArg nD (N7 q)).symm
theorem Hl{q:Rat}(h:Iu (nD q)):rz q≤12:=by
 obtain⟨h1,h2⟩:=h;have h1':(lim q.num.natAbs).length≤6:=h1;have h2':(lim (q.den:Int).natAbs).length≤6:=h2;unfold rz sz;omega
@[reducible] def Kr:Rat:=((1:Int):Rat) / ((1000:Int):Rat)
def exN(a:Rat):Option Nat:=(List.range 31).find? λn=>decide (10^n%a.den=0)
def Nb(q:Rat):Bool:=decide (¬((10000000:Int):Rat)<q)&&(decide (¬q < -((10000000:Int):Rat))&&(exN (q*Kr)).isSome)
def jX(r:Rq):Bool:=vR r&&Nb (qR r)
theorem zW(q:Rat):jX (nD q)=Nb q:=by unfold jX;rw[adY,N7];rfl
def o9(e:EntR):Bool:=decide (e.kind=1∧e.pts.length=2∨e.kind=2∧e.pts.length=3∨e.kind=3∧e.pts.length=1)&&(e.pts.all (λp=>jX p.1&&jX p.2)&&(decide (¬e.kind=3) ||(jX e.rad&&decide (0<qR e.rad))))
def uO(e:EntR):Prop:=(∀p∈e.pts,Iu p.1∧Iu p.2)∧Iu e.rad∧e.pts.length≤5∧e.layer.size≤60
def ltr(c:Nat):Bool:=decide (97≤c∧c≤122)||decide (65≤c∧c≤90)
def dgB(c:Nat):Bool:=decide (48≤c∧c≤57)
def nmB(c:Nat):Bool:=ltr c ||(dgB c ||(decide (c=95)||decide (c=45)))
def rnN(s:ByteArray):Nat:=((xR s).takeWhile nmB).length
def Rz(s:ByteArray):Bool:=decide (0<s.size)&&(decide (s.size≤24)&&(ltr ((xR s).getD 0 0)&&decide (rnN s=s.size)))
theorem aar(p:Nat→Bool):∀(l:List Nat) (x:Nat),x≤l.length→(∀j<x,p (l.getD j 0)=true)→(x<l.length→p (l.getD x 0)=false)→(l.takeWhile p).length=x
 |[],x,h,_,_=>by simp at h;subst h;rfl
 |c::r,0,_,_,h2=>by
  have:=h2 (by simp);simp only[List.getD_cons_zero]at this;simp[List.takeWhile_cons,this]
 |c::r,x+1,h,h1,h2=>by
  have h3:=h1 0 (by omega);simp only[List.getD_cons_zero]at h3;rw[List.takeWhile_cons,if_pos h3,iR];rw[aar p r x (by simpa using h) (λj hj=>by simpa using h1 (j+1) (by omega)) (λhx=>by simpa using h2 (by simpa using hx))]
theorem acg{s:ByteArray}{x:Nat}(h:x≤s.size)(h1:∀j<x,nmB ((xR s).getD j 0)=true)(h2:x<s.size→nmB ((xR s).getD x 0)=false):rnN s=x :=
 aar nmB (xR s) x (by rw[wz];exact h) h1 (λhx=>h2 (by rwa [wz]at hx))
theorem Ux{s:ByteArray}(h:(!(s.toList ==(ByteArray.mk #[]).toList))=true):0<s.size:=by
 rw[Oa]at h;have h1:¬xR s=xR (ByteArray.mk #[]):=by simpa using h
 refine Decidable.byContradiction λhn=>h1 ?_
 have:(xR s).length=0:=by rw[wz];omega
 rw[Jk this];rfl
theorem ZA{s:ByteArray}(h:(!(s.toList ==(ByteArray.mk #[]).toList))=false):s.size=0:=by
 rw[Oa]at h;have h1:xR s=xR (ByteArray.mk #[]):=by simpa using h
 rw[←wz,h1];rfl
theorem ab3{s:ByteArray}(h:s.size=0∨¬s.size≤24∨ltr ((xR s).getD 0 0)=false):Rz s=false:=by
 unfold Rz;rcases h with h|h|h
 ·rw[h];rfl
 ·rw[decide_eq_false h];simp
 ·rw[h];simp
theorem abG{s:ByteArray}(h1:0<s.size)(h2:s.size≤24)(h3:ltr ((xR s).getD 0 0)=true):Rz s=decide (rnN s=s.size):=by
 unfold Rz;rw[decide_eq_true h1,decide_eq_true h2,h3];simp
def V7(l:LayD):Bool:=Rz l.name&&decide (((l.kind=1∨l.kind=3)∧1≤l.depth∧l.depth≤10000000)∨((l.kind=2∨l.kind=4)∧l.depth=0))
def L9{α:Type}(n:Nat)(f:Nat→Option α):Option α:=(List.range n).findSome? f
theorem tZ{α:Type}{n:Nat}{f:Nat→Option α}(h:∀j<n,f j=none):L9 n f=none:=by
 unfold L9;rw[List.findSome?_eq_none_iff];intro x hx;exact h x (by simpa using hx)
theorem wo{α:Type}{f:Nat→Option α}{x:Nat}{r:α}:∀{n:Nat},x<n→(∀j<x,f j=none)→f x=some r→L9 n f=some r
 |0,hx,_,_=>by omega
 |n+1,hx,h,hr=>by
  unfold L9;rw[List.range_succ,List.findSome?_append];rcases D7 x n with h1|h1
  ·have:=wo (n:=n) h1 h hr;unfold L9 at this;rw[this];rfl
  ·have:x=n:=by omega
   subst this;have h2:=tZ h;unfold L9 at h2;rw[h2,List.findSome?_cons,hr];rfl
theorem iC{p:Nat→Prop}{x:Nat}(h:∀j<x,p j)(h1:p x):∀j<x+1,p j:=λj hj=>by
 rcases D7 j x with g|g
 ·exact h j g
 ·have:j=x:=by omega
  subst this;exact h1
def L0:LayD:=⟨⟨#[]⟩,0,0⟩
def vY:EntR:=⟨0,⟨#[]⟩,[],⟨false,[],false,[]⟩⟩
def vM(ls:List LayD)(s:ByteArray):Int:=match L9 ls.length (λi=>if eqS (ls.getD i L0).name s=true then some i else none)with
 |some i=>((i:Nat):Int)
 |none=>-1
theorem Hz{ls:List LayD}{s:ByteArray}{x:Nat}(hx:x<ls.length)(h:∀j<x,eqS (ls.getD j L0).name s=false)(h1:eqS (ls.getD x L0).name s=true):vM ls s=(x:Nat):=by
 unfold vM;rw[wo (x:=x) (r:=x) hx (λj hj=>by rw[h j hj];rfl) (by rw[h1];rfl)]
theorem abg{ls:List LayD}{s:ByteArray}(h:∀j<ls.length,eqS (ls.getD j L0).name s=false):vM ls s = -1:=by
 unfold vM;rw[tZ (λj hj=>by rw[h j hj];rfl)]
theorem EC(ls:List LayD)(s:ByteArray):∀n≤ls.length,(∀j<n,eqS (ls.getD j L0).name s=false)∨∃x<n,(∀j<x,eqS (ls.getD j L0).name s=false)∧eqS (ls.getD x L0).name s=true
 |0,_ => .inl λj hj=>absurd hj (Sv _)
 |n+1,h=>by
  rcases EC ls s n (by omega)with g|⟨x,g1,g2,g3⟩
  ·cases e:eqS (ls.getD n L0).name s with
   |false=>exact .inl (iC g e)
   |true=>exact .inr ⟨n,by omega,g,e⟩
  ·exact .inr ⟨x,by omega,g2,g3⟩
def yM(ls:List LayD)(i:Nat):Option Int:=if V7 (ls.getD i L0)=false then some 1 else if vM ls (ls.getD i L0).name<i then some 5 else none
def uT(ls:List LayD):Int:=if V7 (ls.getD (ls.length-1) L0)=false then 1 else if vM ls (ls.getD (ls.length-1) L0).name<((ls.length-1:Nat):Int)then 5 else 0
theorem getD_take'{α:Type}{l:List α}{d:α}{i n:Nat}(h:i<n):(l.take n).getD i d=l.getD i d:=by
 simp[pz,h,Dw]
theorem XF{ls:List LayD}{i:Nat}(h:i<ls.length):vM (ls.take (i+1)) (ls.getD i L0).name=vM ls (ls.getD i L0).name:=by
 have hl:(ls.take (i+1)).length=i+1:=by simp;omega
 have hself:eqS (ls.getD i L0).name (ls.getD i L0).name=true:=by unfold eqS;simp
 rcases EC ls (ls.getD i L0).name (i+1) (by omega)with g|⟨x,g1,g2,g3⟩
 ·have:=g i (by omega);rw[hself]at this;cases this
 ·rw[Hz (x:=x) (by omega) g2 g3];exact Hz (by omega) (λj hj=>by rw[getD_take' (by omega)];exact g2 j hj) (by rw[getD_take' g1];exact g3)
theorem NV{ls:List LayD}{i:Nat}(h:i<ls.length):uT (ls.take (i+1))=(yM ls i).getD 0:=by
 have hl:(ls.take (i+1)).length=i+1:=by simp;omega
 unfold uT yM;rw[hl,show i+1-1=i by omega,getD_take' (by omega),XF h];split
 ·rfl
 ·split<;>rfl
def wI(ls:List LayD)(es:List EntR)(i:Nat):Option Int:=if vM ls (es.getD i vY).layer<0 then some 4 else if o9 (es.getD i vY)=false then some 1 else none
def jD(ls:List LayD)(es:List EntR):Int :=
 if 20<ls.length∨200<es.length then 3
 else match L9 ls.length (yM ls)with
  |some r=>r
  |none=>match L9 es.length (wI ls es)with
   |some r=>r
   |none=>0
theorem Y1{ls:List LayD}{es:List EntR}(h:20<ls.length∨200<es.length):jD ls es=3:=by unfold jD;rw[if_pos h]
theorem XW{ls:List LayD}{es:List EntR}{x:Nat}{r:Int}(h:¬(20<ls.length∨200<es.length))(hx:x<ls.length)(h1:∀j<x,yM ls j=none)(h2:yM ls x=some r):jD ls es=r:=by
 unfold jD;rw[if_neg h,wo hx h1 h2]
theorem aak{ls:List LayD}{es:List EntR}{x:Nat}{r:Int}(h:¬(20<ls.length∨200<es.length))(h0:∀j<ls.length,yM ls j=none)(hx:x<es.length)(h1:∀j<x,wI ls es j=none)(h2:wI ls es x=some r):jD ls es=r:=by
 unfold jD;rw[if_neg h,tZ h0];simp only;rw[wo hx h1 h2]
theorem U2{ls:List LayD}{es:List EntR}(h:¬(20<ls.length∨200<es.length))(h0:∀j<ls.length,yM ls j=none)(h1:∀j<es.length,wI ls es j=none):jD ls es=0:=by
 unfold jD;rw[if_neg h,tZ h0];simp only;rw[tZ h1]
def okV(e:Ent):Prop:=(e.kind=1∧e.pts.length=2∨e.kind=2∧e.pts.length=3∨e.kind=3∧e.pts.length=1∧∃q:Rat,0<q∧rz q≤12∧e.rad=nD q)∧okE e
@[reducible] def fK(e:Ent):EntR:=⟨e.kind,e.layer,e.pts.map λp=>(nD p.1,nD p.2),e.rad⟩
theorem ab4(e:Ent):dV (fK e)=aK e:=by
 unfold dV fK aK;simp only[List.map_map];rfl
theorem YB{e:EntR}(hs:uO e)(h:o9 e=true):∃x:Ent,e=fK x∧okV x:=by
 obtain⟨kd,ly,pts,rd⟩:=e;obtain⟨s1,s2,s3,s4⟩:=hs;unfold o9 at h;simp only[eF,decide_eq_true_eq,lU]at h;obtain⟨h1,h2,h3⟩:=h;simp only at s1 s2 s3 s4 h1 h2 h3
 have hp:∀p∈pts,p=(nD (qR p.1),nD (qR p.2)):=λp hp=>by
  obtain⟨a1,a2⟩:=h2 p hp;unfold jX at a1 a2;rw[eF]at a1 a2;exact Prod.ext (Bc a1.1) (Bc a2.1)
 have he:(pts.map λp=>(qR p.1,qR p.2)).map (λp:P2=>(nD p.1,nD p.2))=pts:=by
  rw[List.map_map];exact(List.map_congr_left (λp hp'=>(hp p hp').symm)).trans (List.map_id pts)
 refine⟨⟨kd,ly,pts.map λp=>(qR p.1,qR p.2),rd⟩, ?_, ?_, ?_, ?_, ?_⟩
 ·unfold fK;simp only;rw[he]
 ·simp only[aZ];rcases h1 with g|g|g
  ·exact .inl g
  ·exact .inr (.inl g)
  ·refine .inr (.inr ⟨g.1,g.2,qR rd, ?_⟩);rcases Bool.or_eq_true_iff.1 h3 with f|f
   ·rw[decide_eq_true_eq]at f;exact absurd g.1 f
   ·rw[eF,decide_eq_true_eq]at f;have f1:=f.1;unfold jX at f1;rw[eF]at f1;have e1:=Bc f1.1;exact⟨f.2,Hl (e1▸s2),e1⟩
 ·intro p hp';obtain⟨u,hu,rfl⟩:=fV.1 hp';have e1:=hp u hu;have e2:=s1 u hu;exact⟨Hl (by have:=e2.1;rw[e1]at this;exact this),Hl (by have:=e2.2;rw[e1]at this;exact this)⟩
 ·show ly.size≤1000;omega
 ·simp only[aZ];omega
theorem Na{α:Type}{n:Nat}{f:Nat→Option α}(h:L9 n f=none):∀j<n,f j=none:=by
 unfold L9 at h;rw[List.findSome?_eq_none_iff]at h;exactλj hj=>h j (by simpa using hj)
theorem MW{α:Type}{n:Nat}{f:Nat→Option α}{r:α}(h:L9 n f=some r):∃j<n,f j=some r:=by
 unfold L9 at h;obtain⟨j,h1,h2⟩:=List.exists_of_findSome?_eq_some h;exact⟨j,by simpa using h1,h2⟩
theorem aaL{ls:List LayD}{es:List EntR}(h:jD ls es=0):ls.length≤20∧es.length≤200∧(∀j<ls.length,yM ls j=none)∧∀j<es.length,wI ls es j=none:=by
 unfold jD at h;split at h
 ·cases h
 ·rename_i g;split at h
  ·rename_i r e;obtain⟨j,_,h2⟩:=MW e;subst h;unfold yM at h2;split at h2
   ·cases h2
   ·split at h2<;>cases h2
  ·rename_i e;split at h
   ·rename_i r e';obtain⟨j,_,h2⟩:=MW e';subst h;unfold wI at h2;split at h2
    ·cases h2
    ·split at h2<;>cases h2
   ·rename_i e';exact⟨by omega,by omega,Na e,Na e'⟩
theorem Uc{ls:List LayD}{es:List EntR}(hs:∀e∈es,uO e)(h:jD ls es=0):∃xs:List Ent,es=xs.map fK∧∀x∈xs,okV x:=by
 have h4:=(aaL h).2.2.2
 have key:∀e∈es,∃x:Ent,e=fK x∧okV x:=λe he=>by
  obtain⟨j,hj,rfl⟩:=FQ he;refine YB (hs _ he) ?_;have h5:=h4 j hj;unfold wI at h5;have e1:es.getD j vY=es[j]:=by simp[pz,hj]
  rw[e1]at h5;split at h5
  ·cases h5
  ·split at h5
   ·cases h5
   ·rename_i g;simpa using g
 clear h h4 hs;induction es with
 |nil=>exact⟨[],rfl,λx hx=>by simp at hx⟩
 |cons e r ih =>
  obtain⟨x,h1,h2⟩:=key e (by simp);obtain⟨xs,h3,h4⟩:=ih (λe he=>key e (by simp[he]));refine⟨x::xs,by rw[gY,←h1,←h3],λy hy=>?_⟩;rcases rF.1 hy with rfl|hy
  ·exact h2
  ·exact h4 y hy
theorem ab2{sq:Rat}{es:List Ent}{e:Ent}(h:e∈(dA sq 0 [] es).es):∀v∈bH e,v∈bU (dA sq 0 [] es).sp e.layer:=by
 have hj:=pR sq 0 [] es;obtain⟨j,hj1,rfl⟩:=FQ h;have hl:=hj.len;obtain⟨ws,h1,h2,h3⟩:=hj.ent j (es[j]'(by omega)) _ (jg _) (jg hj1);rw[h2];have h4:=qN h1;rw[h4.1,h4.2.1];exact h3
theorem zip_fst{l:List Ent}{x:Ent×Nat}(h:x∈l.zipIdx):x.1∈l:=by
 have:=List.mem_map_of_mem (f:=(·.1)) h;simpa using this
theorem IC{l:List (Ent×Nat)}{x:Ent×Nat}(h:x∈sV l):x∈l:=by
 unfold sV at h;obtain⟨y,h1,rfl⟩:=fV.1 h;have h2:=(Af.1 h1).1;exact(List.of_mem_zip h2).1
theorem ade(sq:Rat)(es:List Ent):∀e∈(aH sq es).es,e∈(dA sq 0 [] es).es∧jc e=0:=by
 intro e he;unfold aH at he;simp only at he;obtain⟨x,hx,rfl⟩:=fV.1 he;have h1:=IC hx;unfold nV at h1;obtain⟨h2,h3⟩:=Af.1 h1;exact⟨zip_fst h2,by simpa using h3⟩
theorem Y8{sq:Rat}{es:List Ent}{q:P2→Prop}(hq:∀e∈es,∀p∈e.pts,q p){e':Ent}(h:e'∈(aH sq es).es):∃e∈es,e'.layer=e.layer∧e'.kind=e.kind∧e'.pts.length=e.pts.length∧e'.rad=e.rad∧∀p∈e'.pts,q p:=by
 have h1:=(ade sq es e' h).1;have hj:=pR sq 0 [] es;have h2:=(Kt (sq:=sq) hq es.length (jE _)).2.1;rw[Cb]at h2;obtain⟨j,hj1,hj2⟩:=FQ h1;have hl:=hj.len;obtain⟨ws,g1,g2,g3⟩:=hj.ent j (es[j]'(by omega)) e' (jg _) (by rw[jg hj1,hj2]);obtain⟨m1,m2,m3,m4,m5⟩:=qN g1;refine⟨es[j]'(by omega),DR _, ?_, ?_, ?_, ?_,h2 e' h1⟩<;>rw[g2]<;>assumption
end Go.Sw
namespace Go.Sw
open Go Go.Lib
@[reducible] def p10(n:Nat):Int:=((10 ^ n:Nat):Int)
theorem Js(n:Nat):p10 n*10=p10 (n+1):=by unfold p10;rw[AB];omega
theorem CZ{n:Nat}(h:n≤31):sz (p10 n)≤4:=by
 show(lim (p10 n).natAbs).length≤4;refine ji ?_;have h1:10^n≤10^31:=Ik (by decide) h;show(p10 n).natAbs<_;unfold p10;rw[Nz];have h2:(10:Nat)^31<1000000000^4:=by decide +kernel
 omega
theorem TT{n:Nat}(h:n≤31):rz ((p10 n:Int):Rat)≤8:=by
 have h1:=qH (p10 n);have h2:=CZ h;omega
@[reducible] def tmR(a:Rat)(n:Nat):Rat:=a*(((p10 n:Int):Rat) / ((1:Int):Rat))
def RS(k:Nat):ByteArray:=⟨(List.replicate k (48:UInt8)).toArray⟩
theorem EK(k:Nat):(RS k).size=k:=by
 show(List.replicate k (48:UInt8)).toArray.size=k;simp
def Du(n:Int):ByteArray:=if n<0 then(uF n).extract 1 (uF n).size else uF n
def ZM(n:Int):ByteArray:=if n<0 then⟨#[45]⟩else⟨#[]⟩
def Ij(n:Int)(k:Nat):ByteArray:=RS (k+1-(Du n).size)++Du n
def ptD(n:Int)(k:Nat):ByteArray:=if k=0 then ZM n++Du n else ZM n++(Ij n k).extract 0 ((Ij n k).size-k)++⟨#[46]⟩++(Ij n k).extract ((Ij n k).size-k) (Ij n k).size
def exS(a:Rat):ByteArray:=match exN a with
 |some n=>ptD (tmR a n).num n
 |none=>⟨#[]⟩
theorem adf{a:Rat}{x:Nat}(hx:x≤30)(h:∀j<x,¬10^j%a.den=0)(h1:10^x%a.den=0):exN a=some x:=by
 unfold exN;rw[List.find?_range_eq_some];refine⟨by simpa using h1,by simp;omega,λj hj=>by simpa using h j hj⟩
theorem aee{a:Rat}(h:∀j<31,¬10^j%a.den=0):exN a=none:=by
 unfold exN;rw[List.find?_range_eq_none];intro j hj;simpa using h j hj
theorem Sj(n:Int):1≤(uF n).size:=by
 rw[EJ];have:=nDigits_pos n.natAbs;split<;>omega
theorem Xe{n:Nat}(h:n≤31):rz (((p10 n:Int):Rat)/((1:Int):Rat))≤8:=by
 have e:((p10 n:Int):Rat)/((1:Int):Rat)=((p10 n:Int):Rat):=by
  have:((1:Int):Rat)=1:=rfl;rw[this];generalize((p10 n:Int):Rat)=K
  grind
 rw[e];exact TT h
theorem Nc{n:Int}(h:sz n≤50):(Du n).size≤460:=by
 have:=Z5 h (by decide);unfold Du;split
 ·rw[ByteArray.size_extract];omega
 ·omega
theorem Td{n:Int}{k:Nat}(h:sz n≤50)(hk:k≤30):(Ij n k).size≤500∧k+1≤(Ij n k).size:=by
 have:=Nc h;unfold Ij;rw[ByteArray.size_append,EK];omega
theorem aaX{n:Int}{k:Nat}(h:sz n≤50)(hk:k≤30):(ptD n k).size≤1000:=by
 have h1:=Td h hk;have h2:=Nc h;have h3:(ZM n).size≤1:=by unfold ZM;split<;>decide
 have h4:(⟨#[46]⟩:ByteArray).size=1:=rfl;unfold ptD;split
 ·rw[ByteArray.size_append];omega
 ·rw[ByteArray.size_append,ByteArray.size_append,ByteArray.size_append,ByteArray.size_extract,ByteArray.size_extract,h4];omega
theorem ae9{n:Int}{k:Nat}(h:(Du n).size≤k):RS ((k:Int)+1-((Du n).size:Int)).toNat++Du n=Ij n k:=by
 have:((k:Int)+1-((Du n).size:Int)).toNat=k+1-(Du n).size:=by omega
 rw[this];rfl
theorem afm{n:Int}{k:Nat}(h:¬(Du n).size≤k):Ij n k=Du n:=by
 unfold Ij;rw[show k+1-(Du n).size=0 by omega,ByteArray.ext_iff,ByteArray.data_append];simp[RS]
theorem aeU{n:Int}{k:Nat}(h:k=0):ptD n k=ZM n++Du n:=by unfold ptD;rw[if_pos h]
theorem aaC{n:Int}{k:Nat}(h:¬k=0):ptD n k=ZM n++(Ij n k).extract 0 ((Ij n k).size-k)++⟨#[46]⟩++(Ij n k).extract ((Ij n k).size-k) (Ij n k).size:=by unfold ptD;rw[if_neg h]
theorem Ur{a:Rat}{x:Nat}(h:rz a≤20)(hx:x≤30):sz (tmR a x).num≤50:=by
 have z1:=nC (tmR a x);have z2:=oD a (((p10 x:Int):Rat)/((1:Int):Rat));have z3:=Xe (n:=x) (by omega);unfold tmR at *;omega
theorem aeG{n:Int}(h:n<0):(uF n).extract (Int.toNat 1) (uF n).size=Du n:=by unfold Du;rw[if_pos h];rfl
theorem ae3{n:Int}(h:¬n<0):uF n=Du n:=by unfold Du;rw[if_neg h]
end Go.Sw
namespace Go.Sw
open Go
@[reducible] def pE(u v:P2):Bool:=decide (u.1=v.1) && decide (u.2=v.2)
theorem qW{u v:P2}:pE u v=decide (u=v):=U7
theorem aae{p q:Rat}:nD p=nD q↔p=q:=⟨λh=>by have:=congrArg qR h;rwa [N7,N7]at this,λh=>h▸rfl⟩
theorem UA{l1 l2:ByteArray}{a b c d:P2}{r1 r2:Rq}:iZ ⟨1,l1,[a,b],r1⟩ ⟨1,l2,[c,d],r2⟩=((l1.toList == l2.toList)&&((pE a c&&pE b d) ||(pE a d&&pE b c))):=by
 rw[qW,qW,qW,qW];unfold iZ eqS Ia;simp[Bool.decide_or,Bool.decide_and]
theorem Vh{l1 l2:ByteArray}{a m b c n d:P2}{r1 r2:Rq}:iZ ⟨2,l1,[a,m,b],r1⟩ ⟨2,l2,[c,n,d],r2⟩=((l1.toList == l2.toList)&&(((pE a c&&pE b d) ||(pE a d&&pE b c))&&(if(decide (qm a m b=0)||decide (qm c n d=0))=true then decide (qm a m b=0)&&(decide (qm c n d=0)&&pE m n)else XK c n d m&&XK a m b n))):=by
 rw[qW,qW,qW,qW,qW];unfold iZ eqS Ia;simp[Bool.decide_or,Bool.decide_and,acP,Bool.and_assoc]
theorem Xw{l1 l2:ByteArray}{a c:P2}{q1 q2:Rat}:iZ ⟨3,l1,[a],nD q1⟩ ⟨3,l2,[c],nD q2⟩=((l1.toList == l2.toList)&&(pE a c&&decide (q1=q2))):=by
 rw[qW];have:decide (nD q1=nD q2)=decide (q1=q2):=decide_eq_decide.2 aae;rw[←this];show((l1.toList == l2.toList)&&decide ((3:Int)=3)&&(decide (a=c)&&decide (nD q1=nD q2)))=_;rw[decide_eq_true (show(3:Int)=3 from rfl),Bool.and_true]
theorem uq{e f:Ent}(h:¬e.kind=f.kind):iZ e f=false:=by
 unfold iZ;simp[h]
theorem yA{e:Ent}(h:okV e):(∃l a b r,e=⟨1,l,[a,b],r⟩∧dB a∧dB b∧l.size≤1000)∨(∃l a m b r,e=⟨2,l,[a,m,b],r⟩∧dB a∧dB m∧dB b∧l.size≤1000)∨(∃l a q,e=⟨3,l,[a],nD q⟩∧dB a∧0<q∧rz q≤12∧l.size≤1000):=by
 obtain⟨kd,ly,pts,rd⟩:=e;obtain⟨h1,h2,h3,h4⟩:=h;simp only at h1 h2 h3 h4;rcases h1 with⟨rfl,g⟩|⟨rfl,g⟩|⟨rfl,g,q,q1,q2,rfl⟩
 ·match pts,g,h2 with
  |[a,b],_,h2=>exact .inl ⟨ly,a,b,rd,rfl,h2 a (by simp),h2 b (by simp),h3⟩
 ·match pts,g,h2 with
  |[a,m,b],_,h2=>exact .inr (.inl ⟨ly,a,m,b,rd,rfl,h2 a (by simp),h2 m (by simp),h2 b (by simp),h3⟩)
 ·match pts,g,h2 with
  |[a],_,h2=>exact .inr (.inr ⟨ly,a,q,rfl,h2 a (by simp),q1,q2,h3⟩)
theorem Rf{e:Ent}{l:List P2}(h:okV e)(hl:l.length=(bH e).length)(hp:∀p∈l,dB p):okV (gW e l):=by
 obtain⟨m1,m2,m3,m4,m5⟩:=qN hl;obtain⟨h1,h2,h3,h4⟩:=h;refine⟨?_,CP h2 hp,by rw[m2];exact h3,by rw[m4];exact h4⟩;rw[m3,m4,m5];exact h1
theorem ac2{sq:Rat}{es:List Ent}(h:∀e∈es,okV e):∀e∈(dA sq 0 [] es).es,okV e:=by
 intro e he;have hj:=pR sq 0 [] es;have h2:=(Kt (q:=dB) (sq:=sq) (λe he=>(h e he).2.1) es.length (jE _)).1;rw[Cb]at h2;obtain⟨j,hj1,rfl⟩:=FQ he;have hl:=hj.len;obtain⟨ws,g1,g2,g3⟩:=hj.ent j (es[j]'(by omega)) _ (jg _) (jg hj1);rw[g2];refine Rf (h _ (DR _)) g1 λp hp=>?_
 obtain⟨q,q1,rfl⟩:=rX (g3 p hp);exact h2 q q1
theorem GX{l:List (Ent×Nat)}(h:∀x∈l,okV x.1){x:Nat}(hx:x<l.length):okV (l.getD x N0).1:=by
 have:l.getD x N0=l[x]:=by simp[pz,hx]
 rw[this];exact h _ (DR hx)
theorem Gi{l:List (Ent×Nat)}{x:Nat}(h:x<l.length):l.take (x+1)=l.take x++[l.getD x N0]:=by
 rw[List.take_succ,jg h];simp[pz,h]
def SV(l:List (Ent×Nat))(x:Nat):List (Ent×Nat):=nV (l.take x)
def SK(l:List (Ent×Nat))(x:Nat):List Chn:=lS (l.take x)
theorem OT(l:List (Ent×Nat)):SV l l.length=nV l:=by unfold SV;rw[Jl]
theorem N9(l:List (Ent×Nat)):SK l l.length=lS l:=by unfold SK;rw[Jl]
theorem aax{l:List (Ent×Nat)}{x:Nat}(h:x<l.length)(hf:jc (l.getD x N0).1=0):SV l (x+1)=SV l x++[l.getD x N0]∧SK l (x+1)=SK l x:=by
 unfold SV SK nV lS;rw[Gi h,XP,XP];simp only[List.filter_cons,List.filter_nil,hf];simp
theorem WW{l:List (Ent×Nat)}{x k:Nat}(h:x<l.length)(hf:jc (l.getD x N0).1=k+1):SV l (x+1)=SV l x∧SK l (x+1)=SK l x++[⟨k+1,(l.getD x N0).2,0,none,none⟩]:=by
 unfold SV SK nV lS;rw[Gi h,XP,XP];generalize l.getD x N0=y at *;simp only[List.filter_cons,List.filter_nil,hf];simp[hf]
theorem F8(l:List (Ent×Nat))(x:Nat):(SV l x).length≤l.length∧(SK l x).length≤l.length:=by
 unfold SV SK nV lS;have h1:=qbO (λx:Ent×Nat=>jc x.1 == 0) (l.take x);have h2:=qbO (λx:Ent×Nat=>!(jc x.1 == 0)) (l.take x);rw[uM]at h1 h2;rw[aZ];omega
theorem Z4{e:Ent}{a b:P2}(hE:bH e=[a,b])(h:pE a b=true):jc e=2:=by
 rw[qW,decide_eq_true_eq]at h;unfold jc;rw[hE];simp[h]
theorem OD{e:Ent}{a b:P2}(hE:bH e=[a,b])(h:pE a b=false):jc e=if e.kind=2∧DY e=true then 5 else 0:=by
 rw[qW,decide_eq_false_iff_not]at h;unfold jc;rw[hE];simp[h]
theorem P6{e:Ent}(hE:bH e=[]):jc e=if e.kind=2∧DY e=true then 5 else 0:=by
 unfold jc;rw[hE]
def La(l:List (Ent×Nat))(x:Nat):List (Ent×Nat):=(((l.zip (dY (l.map (·.1)))).take x).filter λp=>!p.2).map (·.1)
def SQ(l:List (Ent×Nat))(x:Nat):List Chn:=(((l.zip (dY (l.map (·.1)))).take x).filter λp=>p.2).map λx=>⟨3,x.1.2,0,none,none⟩
theorem wL(l:List (Ent×Nat)):(l.zip (dY (l.map (·.1)))).length=l.length:=by rw[List.length_zip,jo,aZ,Nat.min_self]
theorem FW(l:List (Ent×Nat)):La l l.length=sV l:=by
 unfold La sV;rw[XU (by rw[wL];exact jE _)]
theorem XV(l:List (Ent×Nat)):SQ l l.length=F9 l:=by
 unfold SQ F9;rw[XU (by rw[wL];exact jE _)]
theorem ES{l:List (Ent×Nat)}{x:Nat}(h:x<l.length):(l.zip (dY (l.map (·.1)))).take (x+1)=(l.zip (dY (l.map (·.1)))).take x++[(l.getD x N0,(dY (l.map (·.1))).getD x false)]:=by
 have h1:x<(l.zip (dY (l.map (·.1)))).length:=by rw[wL];exact h
 have h2:x<(dY (l.map (·.1))).length:=by rw[jo,aZ];exact h
 rw[List.take_succ,jg h1,List.getElem_zip];simp[pz,h,h2]
theorem adV{l:List (Ent×Nat)}{x:Nat}(h:x<l.length)(hb:(dY (l.map (·.1))).getD x false=true):La l (x+1)=La l x∧SQ l (x+1)=SQ l x++[⟨3,(l.getD x N0).2,0,none,none⟩]:=by
 unfold La SQ;rw[ES h,hb,XP,XP];simp
theorem afL{l:List (Ent×Nat)}{x:Nat}(h:x<l.length)(hb:(dY (l.map (·.1))).getD x false=false):La l (x+1)=La l x++[l.getD x N0]∧SQ l (x+1)=SQ l x:=by
 unfold La SQ;rw[ES h,hb,XP,XP];simp
theorem Hr(l:List (Ent×Nat))(x:Nat):(La l x).length≤l.length∧(SQ l x).length≤l.length:=by
 unfold La SQ;have h1:=qbO (λp:(Ent×Nat)×Bool=>!p.2) ((l.zip (dY (l.map (·.1)))).take x);have h2:=qbO (λp:(Ent×Nat)×Bool=>p.2) ((l.zip (dY (l.map (·.1)))).take x);rw[uM,wL]at h1 h2;rw[aZ,aZ];omega
theorem left_ok{q:Ent→Prop}{l:List (Ent×Nat)}(h:∀x∈l,q x.1):∀x∈sV l,q x.1:=λx hx=>h x (IC hx)
theorem aal{q:Ent→Prop}{l:List (Ent×Nat)}(h:∀x∈l,q x.1):∀x∈nV l,q x.1:=λx hx=>h x (Af.1 hx).1
theorem agE{l:List (Ent×Nat)}{x:Nat}(h:x<l.length):(l.take (x+1)).map (·.1)=(l.take x).map (·.1)++[(l.getD x N0).1]:=by rw[Gi h,gG];rfl
theorem rpL{l:List (Ent×Nat)}{x:Nat}(h:x≤l.length):(zk (l.map (·.1)) x).length=l.length:=by
 rw[Zb (by rw[aZ];exact h),aZ]
theorem Om{l:List (Ent×Nat)}{x:Nat}(h:x<l.length):(l.map (·.1)).getD x E0=(l.getD x N0).1:=by
 simp[pz,h]
theorem abe{l:List (Ent×Nat)}{x k:Nat}(hx:x<l.length)(hk:k<x)(h0:uG (l.map (·.1)) x k=false)(h:(!(zk (l.map (·.1)) x).getD k false)=false∨iZ (l.getD x N0).1 (l.getD k N0).1=false):uG (l.map (·.1)) x (k+1)=false:=by
 rw[Eh (by rw[aZ];exact hx) hk,h0,Om hx,Om (by omega)];rcases h with h|h<;>rw[h]<;>simp
theorem ac9{l:List (Ent×Nat)}{x k:Nat}(hx:x<l.length)(hk:k<x)(h1:(!(zk (l.map (·.1)) x).getD k false)=true)(h2:iZ (l.getD x N0).1 (l.getD k N0).1=true):zk (l.map (·.1)) (x+1)=(zk (l.map (·.1)) x).set x true:=by
 refine ad6 (by rw[aZ];exact hx) hk ?_;rw[Eh (by rw[aZ];exact hx) hk,Om hx,Om (by omega),h1,h2];simp
theorem ad1{l:List (Ent×Nat)}{x:Nat}(hx:x<l.length)(h:uG (l.map (·.1)) x x=false):zk (l.map (·.1)) (x+1)=zk (l.map (·.1)) x:=aeR (by rw[aZ];exact hx) h
theorem Zy(l:List (Ent×Nat)):zk (l.map (·.1)) l.length=dY (l.map (·.1)):=by
 have:=YX (l.map (·.1))
 rwa [aZ]at this
def xO:Rq×Rq:=(⟨false,[],false,[]⟩,⟨false,[],false,[]⟩)
theorem Az{e:EntR}(h:¬(e.kind=1∧e.pts.length=2∨e.kind=2∧e.pts.length=3∨e.kind=3∧e.pts.length=1)):o9 e=false:=by
 unfold o9;rw[decide_eq_false h,Bool.false_and]
theorem F7{e:EntR}{x:Nat}(hx:x<e.pts.length)(h:(jX (e.pts.getD x xO).1&&jX (e.pts.getD x xO).2)=false):o9 e=false:=by
 have:(e.pts.all λp=>jX p.1&&jX p.2)=false:=by
  rw[List.all_eq_false];refine⟨e.pts.getD x xO, ?_,by rw[h];decide⟩;have:e.pts.getD x xO=e.pts[x]:=by simp[pz,hx]
  rw[this];exact DR hx
 unfold o9;rw[this];simp
theorem Dl{e:EntR}(h:e.kind=1∧e.pts.length=2∨e.kind=2∧e.pts.length=3∨e.kind=3∧e.pts.length=1)(h1:∀j<e.pts.length,(jX (e.pts.getD j xO).1&&jX (e.pts.getD j xO).2)=true):o9 e=(decide (¬e.kind=3) ||(jX e.rad&&decide (0<qR e.rad))):=by
 have:(e.pts.all λp=>jX p.1&&jX p.2)=true:=by
  rw[lU];intro p hp;obtain⟨j,hj,rfl⟩:=FQ hp;have h2:=h1 j hj;have e1:e.pts.getD j xO=e.pts[j]:=by simp[pz,hj]
  rwa [e1]at h2
 unfold o9;rw[this,decide_eq_true h];simp
theorem Ny{r:Rq}(h:jX r=true):vR r=true:=by
 unfold jX at h;rw[eF]at h;exact h.1
theorem yX{e:EntR}(h:uO e){x:Nat}(hx:x<e.pts.length):Iu (e.pts.getD x xO).1∧Iu (e.pts.getD x xO).2:=by
 have:e.pts.getD x xO=e.pts[x]:=by simp[pz,hx]
 rw[this];exact h.1 _ (DR hx)
def knE(ls:List LayD)(e:EntR):Int:=if vM ls e.layer<0 then 4 else if o9 e=false then 1 else 0
theorem XB{ls:List LayD}{es:List EntR}{x:Nat}:(knE ls (es.getD x vY)=0→wI ls es x=none)∧(¬knE ls (es.getD x vY)=0→wI ls es x=some (knE ls (es.getD x vY))):=by
 unfold knE wI;split
 ·exact⟨λh=>(by cases h),λ_=>rfl⟩
 ·split
  ·exact⟨λh=>(by cases h),λ_=>rfl⟩
  ·exact⟨λ_=>rfl,λh=>absurd rfl h⟩
theorem V6{ls:List LayD}{x:Nat}(hx:x<ls.length):(uT (ls.take (x+1))=0→yM ls x=none)∧(¬uT (ls.take (x+1))=0→yM ls x=some (uT (ls.take (x+1)))):=by
 rw[NV hx];unfold yM;split
 ·exact⟨λh=>(by cases h),λ_=>rfl⟩
 ·split
  ·exact⟨λh=>(by cases h),λ_=>rfl⟩
  ·exact⟨λ_=>rfl,λh=>absurd rfl h⟩
theorem adH{es:List EntR}(h:∀e∈es,uO e){x:Nat}(hx:x<es.length):uO (es.getD x vY):=by
 have:es.getD x vY=es[x]:=by simp[pz,hx]
 rw[this];exact h _ (DR hx)
theorem aeD{ls:List LayD}{n:Nat}(h:∀l∈ls,l.name.size≤n)(x:Nat):(ls.getD x L0).name.size≤n:=by
 by_cases hx:x<ls.length
 ·have:ls.getD x L0=ls[x]:=by simp[pz,hx]
  rw[this];exact h _ (DR hx)
 ·have:ls.getD x L0=L0:=by simp[pz,Nat.le_of_not_lt hx]
  rw[this];exact rC _
theorem OZ:rz Kr≤8:=dh (agy 1 1000 (by decide) ⟨by decide,by decide⟩ ⟨by decide,by decide⟩) (by decide)
theorem afM{a:Rat}(h:rz a≤12):rz (a*Kr)≤20:=by
 have h1:=oD a Kr;have h2:=OZ;omega
theorem abK:rz ((10000000:Int):Rat)≤4:=RH _ (by decide) (by decide)
end Go.Sw
