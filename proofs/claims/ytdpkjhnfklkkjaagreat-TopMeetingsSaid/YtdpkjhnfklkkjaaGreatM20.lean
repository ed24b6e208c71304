/-
  Rules of the abstract run, plain laws, and what functions answer, for the law TopMeetings.
  Conditions: none.
-/
import Derived.Test.YtdpkjhnfklkkjaaGreatM19
set_option linter.all false
namespace Go.Proofs.YtdpkjhnfklkkjaaGreat
open Go Go.RowKit Go.Sw Go.Proofs.Tryz
set_option maxRecDepth 100000
set_option maxHeartbeats 16000000
set_option synthInstance.maxSize 4000
set_option synthInstance.maxHeartbeats 400000
theorem aiR(c d:Cv)(l:List Pnt)(Hc:PC c)(Hd:PC d)(hl:∀p∈l,PB p)(hn:l.length<=16)(hi:zH (λp=>!Le c d p) l = -1):EW prog 26 37 20 (l.map λp=>aY p) [.c (.fn 28 [.p (dL c),.p (dL d)])] (.c (.sl 20 (l.map λp=>aY p))):=by
 haveI ii:DenI prog 73 [.c (.sl 20 (l.map λp=>aY p)),.c (.fn 28 [.p (dL c),.p (dL d)])] True (.int .i64 (-1)):=⟨λ_=>hi▸(adA c d l).den ⟨Hc,Hd,hl,ω⟩⟩
 refine Xo (λ_=>trivial) (τ:=tab) dJ dF func26 rfl ζ ζ ζ ?_
 all_goals(repeat'((try(conv=>whnf));first
  |refine aC ?_|(with_reducible refine aO (λ_=>?_) (λ_=>?_))|refine aK ?_ ?_|apply zaa))
 all_goals(try apply zab)
 all_goals(try simp only[bW,dI]at *)
 all_goals first
  |rfl|trivial
theorem afZ(l:List Pnt)(hl:∀p∈l,PB p)(hn:l.length<=16)(hno:∀j,0<j->j<l.length->pE (l.getD j O0) (l.getD (j-1) O0)=false):EW prog 79 37 20 (l.map λp=>aY p) [.c (.v (.func (.func 13) #[] #[]))] (.c (.sl 20 (l.map λp=>aY p))):=by
 refine Xo (λ_=>trivial) (τ:=tab) dJ dF func79 rfl ζ ζ ζ ?_
 all_goals(repeat'((try(conv=>whnf));first
  |(with_reducible refine aO (λ_=>?_) (λ_=>?_))|refine aK ?_ ?_|apply zaa))
 all_goals(try apply zab)
 all_goals(try simp only[bW,dI]at *)
 all_goals first
  |rfl|skip
 all_goals first
  |((conv=>whnf);refine Sw.Loop.inv (α:=Nat) (λk=>[(0,.gs 0 l.length),(1,.c (.v (.func (.func 13) #[] #[]))),(5,.int .i64 (k:Nat))]) (λk=>[(0,.grow 37 20 (l.map λp=>aY p))]) (λk=>1<=k/\True) (λk=>l.length-k) 1 ?_ ?_ ?_ (λk ⟨hk,_⟩=>?_))
 all_goals(repeat'((try(conv=>whnf));first
  |refine ak ?_ ?_|(with_reducible refine aO (λ_=>?_) (λ_=>?_))|refine zad (λ_=>?_) (λ_=>?_)|refine aK ?_ ?_|refine zac ζ ?_|refine aH ?_ ?_|refine aT O0 ?_ ?_|apply zaa))
 all_goals(try apply zab)
 all_goals(try simp only[bW,dI]at *)
 all_goals(try simp(disch:=omega) only[bG,jB,dI,bW,kG]at *)
 all_goals(try(exfalso;rename_i hx;rw[hno k ω ω]at hx;cases hx;done))
 all_goals first|(show SubE _ _;repeat'(first|exact trivial|refine And.intro ?_ ?_))|(show SubB _ _;repeat'(first|exact trivial|refine And.intro ?_ ?_))|skip
 all_goals(try rfl)
 all_goals first
  |omega|trivial|exact⟨bP hl ω,bP hl ω⟩|((conv=>whnf);exact⟨k+1,⟨⟨rfl,rfl,(show some (AV.int .i64 _)=some (AV.int .i64 _)from by first|(refine congrArg (λz=>some (AV.int .i64 z)) ?_;(try dsimp only);omega)|(refine congrArg (λz=>some (AV.int .i64 z)) ?_;(try dsimp only);rw[bG ω ω];omega)),trivial⟩,⟨rfl,trivial⟩,⟨ω,trivial⟩,by show l.length-(k+1)<l.length-k;omega⟩⟩)
instance amd(c d:Cv)(l:List Pnt):DenI prog 26 [.own 37 20 (l.map λp=>aY p),.c (.fn 28 [.p (dL c),.p (dL d)])] (PC c/\PC d/\(∀p∈l,PB p)/\l.length<=16) (.tup [.rd [],.c (.sl 20 ((l.filter (Le c d)).map λp=>aY p))]):=⟨λ⟨Hc,Hd,hl,hn⟩=>by
 show EW _ _ _ _ _ _ _;rcases KG (λp=>!Le c d p) O0 l with⟨hi,h⟩|⟨k,hi,h1,h2,h3⟩
 .rw[abY (d:=O0) (λj hj=>by simpa using h j hj)];exact aiR c d l Hc Hd hl hn hi
 .exact aaw c d l Hc Hd hl hn hi h1 h2 h3⟩
instance anv(l:List Pnt):DenI prog 79 [.own 37 20 (l.map λp=>aY p),.c (.v (.func (.func 13) #[] #[]))] ((∀p∈l,PB p)/\l.length<=16) (.tup [.rd [],.c (.sl 20 ((xI pE l).map λp=>aY p))]):=⟨λ⟨hl,hn⟩=>by
 show EW _ _ _ _ _ _ _;rcases V7 pE O0 l with⟨hi,h⟩|⟨k,h1,h2,h3,h4,h5⟩
 .rw[hi];exact afZ l hl hn h
 .exact abe l hl hn h1 h2 h3 h4 h5⟩
instance ajb(c d:Cv)(l:List Pnt):DenI prog 26 [.c (.sl 20 (l.map λp=>aY p)),.c (.fn 28 [.p (dL c),.p (dL d)])] (PC c/\PC d/\l.length=0) (.c (.sl 20 ((l.filter (Le c d)).map λp=>aY p))):=⟨λhp=>by
 obtain⟨Hc,Hd,hz⟩:=hp
 all_goals refine aS func26 rfl ?_
 all_goals(repeat'((try(conv=>whnf));first
  |refine ak ?_ ?_|(with_reducible refine aO (λ_=>?_) (λ_=>?_))|apply zaa))
 all_goals(try apply zab)
 all_goals(try simp only[bW,dI]at *)
 all_goals first
  |skip
 all_goals first
  |exact⟨Hc,Hd,λp hp=>(by rw[List.length_eq_zero_iff.1 hz]at hp;cases hp),ω⟩|(exfalso;rename_i hx;obtain rfl:=List.length_eq_zero_iff.1 hz;exact hx rfl)|(obtain rfl:=List.length_eq_zero_iff.1 hz;rfl)⟩
instance aj3(l:List Pnt):DenI prog 79 [.c (.sl 20 (l.map λp=>aY p)),.c (.v (.func (.func 13) #[] #[]))] (l.length=0) (.c (.sl 20 ((xI pE l).map λp=>aY p))):=⟨λhp=>by
 have hz:=hp
 all_goals refine aS func79 rfl ?_
 all_goals(repeat'((try(conv=>whnf));first
  |(with_reducible refine aO (λ_=>?_) (λ_=>?_))|apply zaa))
 all_goals(try simp only[bW,dI]at *)
 all_goals(try simp(disch:=omega) only[bG,jB,dI,bW,kG]at *)
 all_goals first
  |(exfalso;omega)|skip
 all_goals first
  |(obtain rfl:=List.length_eq_zero_iff.1 hz;rfl)⟩
instance al1(c:Cv)(l:List Pnt):DenI prog 30 [.agg (dL c),.c (.sl 20 (l.map λp=>aY p))] (PC c/\(∀p∈l,PB p)/\l.length<=16) (.c (.sl 20 ((c.sd l).map λp=>aY p))):=⟨λhp=>by
 obtain⟨Hc,hl,hn⟩:=hp
 all_goals refine zK (τ:=ahj) aa4 dF func30 rfl ζ ζ ζ ?_
 all_goals(repeat'((try(conv=>whnf));first
  |refine zae (λ_=>?_) (λ_=>?_)|refine ak ?_ ?_|refine aK ?_ ?_|apply zaa))
 all_goals(try apply zab)
 all_goals(try simp only[bW,dI]at *)
 all_goals first
  |omega|exact⟨Hc,hl,hn⟩|(rw[xW];done)|(rw[IU];exact⟨MF hl,by rw[JA];exact hn⟩)|(rw[IU];rfl)|(rename_i hz;obtain rfl:=List.length_eq_zero_iff.1 hz;rfl)⟩
instance W9(c:Cv)(l:List Pnt):DenC prog 10 [.agg (dL c),.c (.sl 20 (l.map λp=>aY p))] (PC c/\(∀p∈l,PB p)/\l.length<=16) (l.all c.on=true) (.tup [.c (.sl 66 ((c.split l).map λc=>dL c)),.int .i64 0]) (.tup [.c (.sl 0 []),.int .i64 1]):=⟨Ew λhp q e1 e2=>by
 obtain⟨Hc,hl,hn⟩:=hp;have hsd:∀p∈c.sd l,PB p:=Nh hl;have hsl:=Nz (c:=c) (l:=l)
 all_goals refine aS func10 rfl ?_
 all_goals(repeat'((try(conv=>whnf));first
  |refine ak ?_ ?_|refine zad (λ_=>?_) (λ_=>?_)|apply zaa))
 all_goals(try apply zab)
 all_goals first
  |((conv=>whnf);refine Sw.Loop.ghost 6 41 39 66 ?_ rfl rfl rfl ψ rfl)|skip
 all_goals first
  |((conv=>whnf);refine Sw.Loop.inv (α:=Nat) (λx=>[(2,.ptr 2 0),(6,.gs 41 (c.spS ((c.sd l).take x)).1.length),(7,.ptr 7 0),(17,.c (.sl 20 ((c.sd l).map λp=>aY p))),(18,.int .i64 ((c.sd l).length:Nat)),(19,.int .i64 (x:Nat))]) (λx=>[(2,.fvar (dL c)),(7,.var (dL ⟨c.s,(c.spS ((c.sd l).take x)).2,c.q⟩)),(41,.grow 39 66 ((c.spS ((c.sd l).take x)).1.map λc=>dL c))]) (λx=>x<=(c.sd l).length/\True) (λx=>(c.sd l).length-x) 0 ?_ ?_ ?_ (λx ⟨hx,_⟩=>?_))|skip
 all_goals(try(have hsa:=Qd (c:=c) (P:=PB) Hc.p (l:=(c.sd l).take x) (λp hp=>hsd p (qbL hp));have hsn:=RH (c:=c) ((c.sd l).take x);have htl:=List.length_take_le x (c.sd l)))
 all_goals(repeat'((try(conv=>whnf));first
  |refine ak ?_ ?_|(with_reducible first|refine aN ?_|refine aI ?_|refine aO (λ_=>?_) (λ_=>?_))|refine zad (λ_=>?_) (λ_=>?_)|refine aK ?_ ?_|refine zac ζ ?_|refine aT O0 ?_ ?_|apply zaa))
 all_goals(try apply zab)
 all_goals(try simp only[bW,dI]at *)
 all_goals first|(show SubE _ _;repeat'(first|exact trivial|refine And.intro ?_ ?_))|(show SubB _ _;repeat'(first|exact trivial|refine And.intro ?_ ?_))|skip
 all_goals(try rfl)
 all_goals first
  |omega|trivial|exact⟨Hc,hl,ω⟩|exact⟨Au _,trivial⟩|exact⟨bP hsd ω,Hc.p⟩|exact⟨bP hsd ω,Hc.q⟩|(rw[e2 (agm ξ)];rfl)|(simp only[rQ,bW,ji,mg];omega)|(have he:c.spS ((c.sd l).take (x+1))=c.spS ((c.sd l).take x):=((CS ω).trans (Vg (ajE (by with_reducible assumption))));((conv=>whnf);exact⟨x+1,⟨⟨rfl,(by show some (AV.gs 41 _)=some (AV.gs 41 _);rw[he]),rfl,rfl,rfl,(show some (AV.int .i64 _)=some (AV.int .i64 _)from by first|exact zaj|exact zak),trivial⟩,⟨rfl,(by show some (Bk.var _)=some (Bk.var _);rw[he]),(by show some (Bk.grow _ _ _)=some (Bk.grow _ _ _);rw[he]),trivial⟩,⟨ω,trivial⟩,by show(c.sd l).length-(x+1)<(c.sd l).length-x;omega⟩⟩))|(have he:c.spS ((c.sd l).take (x+1))=c.spS ((c.sd l).take x):=((CS ω).trans (Vg (alj (by with_reducible assumption))));((conv=>whnf);exact⟨x+1,⟨⟨rfl,(by show some (AV.gs 41 _)=some (AV.gs 41 _);rw[he]),rfl,rfl,rfl,(show some (AV.int .i64 _)=some (AV.int .i64 _)from by first|exact zaj|exact zak),trivial⟩,⟨rfl,(by show some (Bk.var _)=some (Bk.var _);rw[he]),(by show some (Bk.grow _ _ _)=some (Bk.grow _ _ _);rw[he]),trivial⟩,⟨ω,trivial⟩,by show(c.sd l).length-(x+1)<(c.sd l).length-x;omega⟩⟩))|(have he:c.spS ((c.sd l).take (x+1))=((c.spS ((c.sd l).take x)).1++[⟨c.s,(c.spS ((c.sd l).take x)).2,(c.sd l).getD x O0⟩],(c.sd l).getD x O0):=((CS ω).trans (ac6 (amr (by with_reducible assumption) (by with_reducible assumption))));((conv=>whnf);exact⟨x+1,⟨⟨rfl,(by refine congrArg (λn=>some (AV.gs 41 n)) ?_;rw[he];simp only[rQ,bW,ji,mg]),rfl,rfl,rfl,(show some (AV.int .i64 _)=some (AV.int .i64 _)from by first|exact zaj|exact zak),trivial⟩,⟨rfl,(by show some (Bk.var _)=some (Bk.var _);rw[he]),(by show some (Bk.grow _ _ _)=some (Bk.grow _ _ _);rw[he,UZ];rfl),trivial⟩,⟨ω,trivial⟩,by show(c.sd l).length-(x+1)<(c.sd l).length-x;omega⟩⟩))|(rw[e1 (ahc ξ),Gv,show(c.sd l).take x=(c.sd l)from MV ω,UZ];rfl)⟩
instance ajS(d:Cv):DenI prog 80 [.c (.sl 0 []),.c (.fn 81 [.p (dL d)])] (PC d) (.bool false):=⟨λh=>XP ((ahs d []).den ⟨h,λ_ hp=>(by cases hp),ψ⟩)⟩
instance ald(p q r s:Pnt):DenI prog 27 [.c (.sl 20 [[zs p.ax.num,zl p.ax.num,zs p.ax.den,zl p.ax.den,zs p.bx.num,zl p.bx.num,zs p.bx.den,zl p.bx.den,zs p.ay.num,zl p.ay.num,zs p.ay.den,zl p.ay.den,zs p.bb.num,zl p.bb.num,zs p.bb.den,zl p.bb.den,zs p.c.num,zl p.c.num,zs p.c.den,zl p.c.den],[zs q.ax.num,zl q.ax.num,zs q.ax.den,zl q.ax.den,zs q.bx.num,zl q.bx.num,zs q.bx.den,zl q.bx.den,zs q.ay.num,zl q.ay.num,zs q.ay.den,zl q.ay.den,zs q.bb.num,zl q.bb.num,zs q.bb.den,zl q.bb.den,zs q.c.num,zl q.c.num,zs q.c.den,zl q.c.den],[zs r.ax.num,zl r.ax.num,zs r.ax.den,zl r.ax.den,zs r.bx.num,zl r.bx.num,zs r.bx.den,zl r.bx.den,zs r.ay.num,zl r.ay.num,zs r.ay.den,zl r.ay.den,zs r.bb.num,zl r.bb.num,zs r.bb.den,zl r.bb.den,zs r.c.num,zl r.c.num,zs r.c.den,zl r.c.den],[zs s.ax.num,zl s.ax.num,zs s.ax.den,zl s.ax.den,zs s.bx.num,zl s.bx.num,zs s.bx.den,zl s.bx.den,zs s.ay.num,zl s.ay.num,zs s.ay.den,zl s.ay.den,zs s.bb.num,zl s.bb.num,zs s.bb.den,zl s.bb.den,zs s.c.num,zl s.c.num,zs s.c.den,zl s.c.den]])] True (.own 37 20 ([p,q,r,s].map λp=>aY p)):=⟨λ_=>Dv (es:=([p,q,r,s].map λp=>aY p)) η⟩
instance anW(c d:Cv)(l:List Pnt):DenI prog 31 [.agg (dL c),.agg (dL d),.c (.sl 20 (l.map λp=>aY p))] (PC c/\PC d/\(∀p∈l,PB p)/\l.length<=16) (.bool ((c.splitO l).any λp=>d.cov p)):=⟨λhp=>by
 obtain⟨Hc,Hd,hl,hn⟩:=hp;have hs:=yO Hc hl
 all_goals refine aS func31 rfl ?_
 all_goals(repeat'((try(conv=>whnf));first
  |refine ak ?_ ?_|refine aQ ?_ (λ_=>?_) (λ_=>?_)|apply zaa))
 all_goals(try apply zab)
 all_goals first
  |omega|exact⟨Hc,hl,hn⟩|exact⟨Hd,hs.1,ω⟩|(rename_i h;rw[V8 h];rfl)|(rename_i h;rw[Yh h];rfl)⟩
instance anB(c d:Cv):DenI prog 6 [.agg (dL c),.agg (dL d)] (QC c/\QC d) (.tup [.c (.sl 20 ((c.meet d).map λp=>aY p)),.bool (c.com d)]):=⟨λhp=>by
 obtain⟨hc,hd⟩:=hp;have Hc:=hc.1;have Hd:=hd.1;have hcd:=PW hc hd;have hcf:=Kw hc hd;have hm:=nG hc hd
 all_goals refine zK (τ:=tabs) Hf dF func6 rfl ζ ζ ζ ?_
 all_goals(repeat'((try(conv=>whnf));first
  |refine aC ?_|refine zae (λ_=>?_) (λ_=>?_)|refine ak ?_ ?_|(with_reducible first|refine aN ?_|refine aI ?_)|refine zad (λ_=>?_) (λ_=>?_)|refine aK ?_ ?_|apply zaa))
 all_goals(try apply zab)
 all_goals(try simp only[bW,dI]at *)
 all_goals(try(exfalso;have hq:=(by assumption:c.s.same d.s=true).symm.trans (by assumption:c.s.same d.s=false);cases hq;done))
 all_goals(try(exact⟨Hc,Hd,ξ⟩))
 all_goals(try rw[<-aeF (c:=c) (d:=d) ξ])
 all_goals(try rw[<-afh (c:=c) (d:=d) ξ])
 all_goals(try rw[<-Px])
 all_goals first
  |omega|exact⟨Hc,Hd⟩|exact⟨Hc,Hd,hc.2,hd.2⟩|exact⟨Hc,Hd,hcd.1,fZ hcd.2 ψ⟩|exact⟨Hc,hcf.1,fZ hcf.2 ψ⟩|exact⟨Hc,Hd,hm.1,fZ hm.2 ψ⟩|(rw[agj ξ];rfl)|(rw[show c.com d=false from(ahP ξ).symm];rfl)⟩
theorem akL{e:List Cell}{pf:FuncId}{pc:List Cell}(hI:Den prog 73 [.c (.sl 20 [e]),.c (.fn pf pc)] (.int .i64 0)):EW prog 26 37 20 [e] [.c (.fn pf pc)] (.c (.sl 20 [])):=by
 refine⟨ζ,λw X g cap uss rest vs ho hX hgX hg hS hc hcm hn hs hl hR=>?_⟩
 letI G:Gr:=⟨[g]⟩
 letI K:Kp:=Vs (.slice (some ⟨g,0,none⟩) 1 cap)
 haveI:WOk prog w:=⟨λw' _=>trivial⟩
 refine enter func26 rfl rfl (by simp only[ji,hl];rfl) λa hF=>?_
 have hcc:=uD hX hgX hg hS hc hcm hn hs hl hR hF;refine jI (τ:=tab) dJ dF 4 _ (QA:=λz e' bx=>z=.normal/\SubE [(0,.gs 0 1),(5,.int .i64 0)] e'/\SubB [(0,.grow 37 20 [e])] bx) (jy _ ζ) ?_ hcc (λe' b a1 w1 hq hc2=>?_) (λx e' b a w hx hq hc=>absurd hq.1 hx)
 case refine_1 =>
  haveI ii:DenI prog 73 [.c (.sl 20 [e]),.c (.fn pf pc)] True (.int .i64 0):=⟨λ_=>hI⟩
  clear hcc hF
  (conv=>whnf)
  all_goals(repeat'((try(conv=>whnf));first
   |refine aC ?_|(with_reducible refine aO (λ_=>?_) (λ_=>?_))|refine aK ?_ ?_))
  all_goals(try apply zab)
  all_goals first
   |((conv=>whnf);refine Sw.Loop.unroll ?_)|skip
  all_goals(repeat'((try rw[Jt]);(try rw[EP]);(try(conv=>whnf));first
   |(with_reducible refine aO (λ_=>?_) (λ_=>?_))|refine aK ?_ ?_))
  all_goals(try apply zab)
  all_goals first
   |omega|trivial
 replace hc2:=hc2.sub hq.2.1 hq.2.2;obtain⟨S,M,hst⟩:=hc2;obtain⟨m,hM,q1,q2,q3,q4,q5,q6⟩:=hst.box 0 _ rfl;have hv:=hst.env 0 _ rfl;have hu0:a1.tmps.getD 0 undef=.slice (some ⟨g,0,none⟩) 1 cap:=hst.df.1.2 0 _ (pI.2 rfl);have h5:a1.tmps.getD 5 undef=.int .i64 0:=(hst.env 5 _ rfl).v_;rw[hu0]at hv;cases hv with
 |d hd=>cases hd
 |gs hm' _ _ hh _ =>
 rw[hM]at hm';cases hm';have he:=hh (by rw[q5];rfl);unfold hdr at he;rcases q6 with⟨g1,_,g3⟩|⟨g',uss',rest',g1,g2,g3,g4,g5,g6⟩
 .rw[g1]at he;cases he
 rw[g1]at he;simp only[vI,Value.slice.injEq,qH,Addr.mk.injEq]at he;obtain⟨⟨rfl,_⟩,_,hcap⟩:=he;have hrow:=hst.row hM q2 g1;have hsz:m.us.toArray.size=cap*20:=by rw[Yx,<-g4,<-hcap]
 have hcap1:1<=cap:=hn;have hgr:=qO hst.ms.st.below;obtain⟨_,hsl,_⟩:=sliceT (bU dJ (t:=43) rfl);have hFm:Frm 42 a1 [(0,.slice (some ⟨g,0,none⟩) 1 cap),(5,.int .i64 0)]:=((show Frm 42 a1 []from⟨hst.sz,hst.df.1.1,λt v h=>by simp[lk]at h⟩).cons h5).cons hu0;refine bI (bK (wp1 rfl (bT (hFm.ev rfl)) ?_));replace hFm:=hFm.put (d:=36) ψ (.slice (some ⟨g,0,none⟩) 1 cap);refine wp1 rfl (bT (hFm.ev rfl)) ?_;replace hFm:=hFm.put (d:=37) ψ (.int .i64 0);refine wp1 rfl (qw (j:=0) hsl (hFm.ev rfl) (hFm.ev rfl) rfl ψ hcap1) ?_;replace hFm:=hFm.put (d:=38) ψ (.slice (some ⟨g,0*20,none⟩) (1-0) (cap-0));obtain⟨zs,hz1,hz2⟩:=yX (P:=prog) (ty:=0) (t:=43) (s:=20) (n:=1-0) (o:=0*20) (c:=cap-0) underlying43 zeroValue37 rfl (λv hv=>oH.1 (by rfl:(List.all _ λv:Value=>v.oneCell')=true) v hv) hrow ψ (by rw[hsz];omega);have h38:=hFm.ev (x:=.tmp 38) rfl
 refine wp1 (u:=.tuple #[]) (w':=w1.setRow g (m.us.toArray.toList.take (0*20)++zs++m.us.toArray.toList.drop (0*20+zs.length)).toArray) rfl (by
  simp only[execOp,resolve,invoke,builtin,List.map_toArray,xZ,List.map_nil,h38,Sem.run_bind,Sem.run_pure,Result.andThen_ok];rw[hz2]
  simp) ?_
 have hgr2:=jm w1 g (m.us.toArray.toList.take (0*20)++zs++m.us.toArray.toList.drop (0*20+zs.length)).toArray;generalize w1.setRow g (m.us.toArray.toList.take (0*20)++zs++m.us.toArray.toList.drop (0*20+zs.length)).toArray=w2 at hgr2;refine(show Exit.then _ _ .normal _ _ from dW (bI (bK ?_)));refine wp1 rfl (bT (hFm.ev rfl)) ?_;replace hFm:=hFm.put (d:=39) ψ (.slice (some ⟨g,0,none⟩) 1 cap);refine wp1 rfl (bT (hFm.ev rfl)) ?_;replace hFm:=hFm.put (d:=40) ψ (.int .i64 0);refine wp1 rfl (oZ (j:=0) hsl (hFm.ev rfl) (hFm.ev rfl) rfl (Au _)) ?_;replace hFm:=hFm.put (d:=41) ψ (.slice (some ⟨g,0,none⟩) 0 cap);refine wp1 rfl (jF (hFm.ev rfl)) ?_;replace hFm:=hFm.put (d:=4) ψ (.slice (some ⟨g,0,none⟩) 0 cap);refine(show Exit.then _ _ .normal _ _ from dW (tV ?_));refine Js rfl hFm.defers (kP hFm rfl) ⟨_,rfl,.d (.c (.sl _ 0 cap 20 [] [] rfl rfl (Cl.nil _ _ _) (Au _) (by unfold maxLen at hcm;omega) (λi us e h=>by simp at h) (λi us e h=>by simp at h))),⟨hgr2.os.trans hgr.os,hgr2.tape.trans hgr.tape,hgr2.output.trans hgr.output,fZ hgr.size hgr2.size,λk hk hne=>(hgr2.block k (Ea hk hgr.size) hne).trans (hgr.block k hk hne)⟩⟩
end Go.Proofs.YtdpkjhnfklkkjaaGreat
namespace Go.Sw
open Go Go.RowKit
def ad9:Value->Value->Bool
 |.int k a,.int k' b=>(match decide (k=k')with|true=>decide (a=b)|false=>false)
 |.bool a,.bool b=>(match a,b with|true,true=>true|false,false=>true|_,_=>false)
 |_,_=>false
theorem aas{u v:Value}(h:ad9 u v=true):u=v:=by
 unfold ad9 at h;split at h
 .split at h
  .rename_i h1;rw[of_decide_eq_true h1,of_decide_eq_true h]
  .cases h
 .split at h<;>first|rfl|cases h
 .cases h
def N9{α:Type}(f:α->α->Bool):List α->List α->Bool
 |[],[]=>true
 |x::r,y::s=>(match f x y with|true=>N9 f r s|false=>false)
 |_,_=>false
theorem yK{α:Type}{f:α->α->Bool}(hf:∀x y,f x y=true->x=y):∀{l m:List α},N9 f l m=true->l=m
 |[],[],_=>rfl
 |x::r,y::s,h=>by
  simp only[N9]at h;split at h
  .rename_i h1;rw[hf x y h1,yK hf h]
  .cases h
 |[],_::_,h=>by cases h
 |_::_,[],h=>by cases h
def Vr:Nat->Cell->Cell->Bool
 |0,_,_=>false
 |n+1,x,y=>match x,y with
  |.v u,.v v=>ad9 u v
  |.sl s es,.sl t fs=>(match Nat.beq s t with|true=>N9 (N9 (Vr n)) es fs|false=>false)
  |_,_=>false
theorem IE:∀(n:Nat) (x y:Cell),Vr n x y=true->x=y
 |0,_,_,h=>by cases h
 |n+1,x,y,h=>by
  simp only[Vr]at h;split at h
  .rw[aas h]
  .split at h
   .rename_i h1;rw[jX h1,yK (λ_ _=>yK (IE n)) h]
   .cases h
  .cases h
def aeh:AV->AV->Bool
 |.c x,.c y=>Vr 9 x y
 |.agg l,.agg m=>N9 (Vr 9) l m
 |_,_=>false
theorem ZN(x y:AV)(h:aeh x y=true):x=y:=by
 unfold aeh at h;split at h
 .rw[IE _ _ _ h]
 .rw[yK (IE 9) h]
 .cases h
def LX(f:FuncId)(xs:List AV):List (FuncId×List AV×AV)->Option AV
 |[]=>none
 |(g,ys,r)::t=>(match Nat.beq g f with
  |true=>(match N9 aeh xs ys with|true=>some r|false=>LX f xs t)
  |false=>LX f xs t)
theorem Du{P:Program}[Wld P]{f:FuncId}{xs:List AV}{r:AV}:∀{T:List (FuncId×List AV×AV)},(∀x∈T,Den P x.1 x.2.1 x.2.2)->LX f xs T=some r->Den P f xs r
 |[],_,h=>by cases h
 |(g,ys,q)::t,hT,h=>by
  simp only[LX]at h;split at h
  .rename_i h1;split at h
   .rename_i h2;cases h;have:=hT _ List.mem_cons_self;rw[jX h1]at this;rw[yK ZN h2];exact this
   .exact Du (λx hx=>hT x (vX _ hx)) h
  .exact Du (λx hx=>hT x (vX _ hx)) h
end Go.Sw
namespace Go.Proofs.YtdpkjhnfklkkjaaGreat
open Go Go.RowKit Go.Sw Go.Proofs.Tryz
set_option maxRecDepth 100000
set_option maxHeartbeats 16000000
set_option synthInstance.maxSize 4000
set_option synthInstance.maxHeartbeats 400000
def cl0(T k:Nat)(xs:List AV):Option AV :=
 match xs with
 |[.c (.sl 0 [])]=>some (.own T k [])
 |[.c (.sl s es)]=>(match Nat.beq s k,Nat.ble es.length 1000000 with|true,true=>some (.own T k es)|_,_=>none)
 |_=>none
theorem VJ{f T k:Nat}(hc:∀es:List (List Cell),es.length<=1000000->Den prog f [.c (.sl k es)] (.own T k es)){xs:List AV}{r:AV}(h:cl0 T k xs=some r):Den prog f xs r:=by
 unfold cl0 at h;split at h
 .cases h;exact JO (hc [] ψ)
 .split at h
  .rename_i h1 h2;cases h;rw[jX h1];exact hc _ (Nat.le_of_ble_eq_true h2)
  .cases h
 .cases h
def c0x(C:FuncId->List AV->Option AV)(f:FuncId)(xs:List AV):Option AV :=
 match Nat.beq f 27 with
 |true=>cl0 37 20 xs
 |false=>match Nat.beq f 193 with
  |true=>cl0 39 66 xs
  |false=>match Nat.beq f 259 with
   |true=>(match xs with
    |[.c (.v (.slice none 0 0)),.c (.v (.int .i64 (.ofNat n)))]=>(match Nat.ble n 1000000 with|true=>some (.own 39 66 [])|false=>none)
    |_=>none)
   |false=>match Nat.beq f 26 with
    |true=>(match xs with
     |[.own T s [e],.c (.fn pf pc)]=>(match Nat.beq T 37,Nat.beq s 20,C 73 [.c (.sl 20 [e]),.c (.fn pf pc)]with
      |true,true,some (.c (.v (.int .i64 0)))=>some (.tup [.rd [],.c (.sl 20 [])])
      |_,_,_=>none)
     |_=>none)
    |false=>none
theorem aev{C:FuncId->List AV->Option AV}(hC:∀f xs r,C f xs=some r->Den prog f xs r){f:FuncId}{xs:List AV}{r:AV}(h:c0x C f xs=some r):Den prog f xs r:=by
 unfold c0x at h;split at h
 .rename_i h1;rw[jX h1];exact VJ (λes hn=>Dv hn) h
 .split at h
  .rename_i h1;rw[jX h1];exact VJ (λes hn=>adL hn) h
  .split at h
   .rename_i h1;rw[jX h1];split at h
    .split at h
     .rename_i h2;cases h;exact abX (Nat.le_of_ble_eq_true h2)
     .cases h
    .cases h
   .split at h
    .rename_i h1;rw[jX h1];split at h
     .split at h
      .rename_i h2 h3 h4;cases h;rw[jX h2,jX h3];exact akL (hC _ _ _ h4)
      .cases h
     .cases h
    .cases h
def c0w(T:List (FuncId×List AV×AV))(C:FuncId->List AV->Option AV)(f:FuncId)(xs:List AV):Option AV :=
 match LX f xs T with
 |some r=>some r
 |none=>(match c0r opx f xs with
  |some r=>some r
  |none=>c0x C f xs)
theorem aem{T:List (FuncId×List AV×AV)}(hT:∀x∈T,Den prog x.1 x.2.1 x.2.2)(C:FuncId->List AV->Option AV)(hC:∀f xs r,C f xs=some r->Den prog f xs r)(f:FuncId)(xs:List AV)(r:AV)(h:c0w T C f xs=some r):Den prog f xs r:=by
 unfold c0w at h;split at h
 .rename_i h1;cases h;exact Du hT h1
 .split at h
  .rename_i h1;cases h;exact afF aiU afm h1
  .exact aev hC h
theorem gu{T:List (FuncId×List AV×AV)}(hT:∀x∈T,Den prog x.1 x.2.1 x.2.2){f:FuncId}{xs:List AV}{r:AV}(h:Gu prog afo rsX (c0w T) 200 30 f xs=some r):Den prog f xs r :=
 uF (λ_=>trivial) aaW dF (aem hT) 30 f xs r h
def oD:List Nat->List Cell
 |[]=>[]
 |n::r=>(if n=0 then .v (.bool false)else if n=1 then .v (.bool true)else if n=2 then .sl 1 []else .sl 1 [[.v (.int .u32 ((n-4:Nat):Int))]])::oD r
def aLA:AV:=.c (.sl 66 [(oD [0,0,2,0,5,0,6,0,5,0,2,0,5,0,2,0,2,0,2,0,2,0,2,0,2,0,0,2,0,5,0,2,0,5,0,2,0,5,0,2,0,5,0,2,0,5,0,6,0,5,0,2,0,5,0,2,0,5,0,2,0,5,0,2,0,5]),(oD [0,1,6,0,5,0,2,0,5,1,8,0,5,0,2,0,2,0,2,0,2,0,2,0,2,0,0,6,0,5,0,2,0,5,0,2,0,5,0,2,0,5,0,2,0,5,0,6,0,5,0,2,0,5,0,6,0,5,0,2,0,5,0,2,0,5]),(oD [0,0,2,0,5,1,6,0,5,1,8,0,5,0,2,0,2,0,2,0,2,0,2,0,2,0,0,6,0,5,0,2,0,5,0,6,0,5,0,2,0,5,0,2,0,5,0,2,0,5,0,2,0,5,0,6,0,5,0,2,0,5,0,2,0,5]),(oD [0,0,6,0,5,0,2,0,5,0,2,0,5,0,2,0,2,0,2,0,2,0,2,0,2,0,0,2,0,5,0,2,0,5,0,6,0,5,0,2,0,5,0,2,0,5,0,2,0,5,0,2,0,5,0,2,0,5,0,2,0,5,0,2,0,5])])
def aLB:AV:=.c (.sl 66 [(oD [0,0,2,0,5,0,6,0,5,0,6,0,5,0,2,0,2,0,2,0,2,0,2,0,2,0,0,5,0,5,0,2,0,5,0,5,0,5,0,2,0,5,0,2,0,5,0,7,0,5,0,2,0,5,0,5,0,5,0,2,0,5,0,2,0,5]),(oD [0,1,6,0,5,0,2,0,5,1,10,0,5,0,2,0,2,0,2,0,2,0,2,0,2,0,0,7,0,5,0,2,0,5,0,5,0,5,0,2,0,5,0,2,0,5,0,7,0,5,0,2,0,5,0,7,0,5,0,2,0,5,0,2,0,5]),(oD [0,0,2,0,5,1,6,0,5,1,10,0,5,0,2,0,2,0,2,0,2,0,2,0,2,0,0,7,0,5,0,2,0,5,0,7,0,5,0,2,0,5,0,2,0,5,0,5,0,5,0,2,0,5,0,7,0,5,0,2,0,5,0,2,0,5]),(oD [0,0,6,0,5,0,2,0,5,0,6,0,5,0,2,0,2,0,2,0,2,0,2,0,2,0,0,5,0,5,0,2,0,5,0,7,0,5,0,2,0,5,0,2,0,5,0,5,0,5,0,2,0,5,0,5,0,5,0,2,0,5,0,2,0,5])])
def af0:AV:=.c (.sl 66 [(oD [0,0,2,0,5,0,6,0,5,0,2,0,5,0,2,0,2,0,2,0,2,0,2,0,2,0,0,2,0,5,0,2,0,5,0,2,0,5,0,2,0,5,0,2,0,5,0,6,0,5,0,2,0,5,0,2,0,5,0,2,0,5,0,2,0,5]),(oD [0,1,6,0,5,0,2,0,5,1,8,0,5,0,2,0,2,0,2,0,2,0,2,0,2,0,0,6,0,5,0,2,0,5,0,2,0,5,0,2,0,5,0,2,0,5,0,6,0,5,0,2,0,5,0,6,0,5,0,2,0,5,0,2,0,5]),(oD [0,0,2,0,5,1,6,0,5,1,8,0,5,0,2,0,2,0,2,0,2,0,2,0,2,0,0,2,0,5,0,2,0,5,0,6,0,5,0,2,0,5,0,2,0,5,0,6,0,5,0,2,0,5,0,6,0,5,0,2,0,5,0,2,0,5]),(oD [0,0,6,0,5,0,2,0,5,0,2,0,5,0,2,0,2,0,2,0,2,0,2,0,2,0,0,2,0,5,0,2,0,5,0,2,0,5,0,2,0,5,0,2,0,5,0,2,0,5,0,2,0,5,0,6,0,5,0,2,0,5,0,2,0,5])])
def ahV:AV:=.c (.sl 66 [(oD [0,0,2,0,5,0,6,0,5,0,6,0,5,0,2,0,2,0,2,0,2,0,2,0,2,0,0,5,0,5,0,2,0,5,0,5,0,5,0,2,0,5,0,2,0,5,0,7,0,5,0,2,0,5,0,5,0,5,0,2,0,5,0,2,0,5]),(oD [0,1,6,0,5,0,2,0,5,1,10,0,5,0,2,0,2,0,2,0,2,0,2,0,2,0,0,7,0,5,0,2,0,5,0,5,0,5,0,2,0,5,0,2,0,5,0,7,0,5,0,2,0,5,0,7,0,5,0,2,0,5,0,2,0,5]),(oD [0,0,2,0,5,1,6,0,5,1,10,0,5,0,2,0,2,0,2,0,2,0,2,0,2,0,0,5,0,5,0,2,0,5,0,7,0,5,0,2,0,5,0,2,0,5,0,7,0,5,0,2,0,5,0,7,0,5,0,2,0,5,0,2,0,5]),(oD [0,0,6,0,5,0,2,0,5,0,6,0,5,0,2,0,2,0,2,0,2,0,2,0,2,0,0,5,0,5,0,2,0,5,0,5,0,5,0,2,0,5,0,2,0,5,0,5,0,5,0,2,0,5,0,7,0,5,0,2,0,5,0,2,0,5])])
def ag6:AV:=.tup [.agg [.sl 66 [(oD [0,0,2,0,5,0,6,0,5,0,2,0,5,0,2,0,2,0,2,0,2,0,2,0,2,0,0,2,0,5,0,2,0,5,0,2,0,5,0,2,0,5,0,2,0,5,0,6,0,5,0,2,0,5,0,2,0,5,0,2,0,5,0,2,0,5]),(oD [0,0,6,0,5,0,2,0,5,0,2,0,5,0,2,0,2,0,2,0,2,0,2,0,2,0,0,2,0,5,0,2,0,5,0,2,0,5,0,2,0,5,0,2,0,5,0,2,0,5,0,2,0,5,0,6,0,5,0,2,0,5,0,2,0,5]),(oD [0,0,2,0,5,1,6,0,5,1,8,0,5,0,2,0,2,0,2,0,2,0,2,0,2,0,0,2,0,5,0,2,0,5,0,6,0,5,0,2,0,5,0,2,0,5,0,6,0,5,0,2,0,5,0,6,0,5,0,2,0,5,0,2,0,5]),(oD [0,1,6,0,5,0,2,0,5,1,8,0,5,0,2,0,2,0,2,0,2,0,2,0,2,0,0,6,0,5,0,2,0,5,0,2,0,5,0,2,0,5,0,2,0,5,0,6,0,5,0,2,0,5,0,6,0,5,0,2,0,5,0,2,0,5])]],.c (.v (.int .i64 0))]
def ain:AV:=.tup [.agg [.sl 66 [(oD [0,0,2,0,5,0,6,0,5,0,6,0,5,0,2,0,2,0,2,0,2,0,2,0,2,0,0,5,0,5,0,2,0,5,0,5,0,5,0,2,0,5,0,2,0,5,0,7,0,5,0,2,0,5,0,5,0,5,0,2,0,5,0,2,0,5]),(oD [0,0,6,0,5,0,2,0,5,0,6,0,5,0,2,0,2,0,2,0,2,0,2,0,2,0,0,5,0,5,0,2,0,5,0,5,0,5,0,2,0,5,0,2,0,5,0,5,0,5,0,2,0,5,0,7,0,5,0,2,0,5,0,2,0,5]),(oD [0,0,2,0,5,1,6,0,5,1,10,0,5,0,2,0,2,0,2,0,2,0,2,0,2,0,0,5,0,5,0,2,0,5,0,7,0,5,0,2,0,5,0,2,0,5,0,7,0,5,0,2,0,5,0,7,0,5,0,2,0,5,0,2,0,5]),(oD [0,1,6,0,5,0,2,0,5,1,10,0,5,0,2,0,2,0,2,0,2,0,2,0,2,0,0,7,0,5,0,2,0,5,0,5,0,5,0,2,0,5,0,2,0,5,0,7,0,5,0,2,0,5,0,7,0,5,0,2,0,5,0,2,0,5])]],.c (.v (.int .i64 0))]
def aA:AV:=.agg [.sl 66 [(oD [0,0,2,0,5,0,6,0,5,0,2,0,5,0,2,0,2,0,2,0,2,0,2,0,2,0,0,2,0,5,0,2,0,5,0,2,0,5,0,2,0,5,0,2,0,5,0,6,0,5,0,2,0,5,0,2,0,5,0,2,0,5,0,2,0,5]),(oD [0,0,6,0,5,0,2,0,5,0,2,0,5,0,2,0,2,0,2,0,2,0,2,0,2,0,0,2,0,5,0,2,0,5,0,2,0,5,0,2,0,5,0,2,0,5,0,2,0,5,0,2,0,5,0,6,0,5,0,2,0,5,0,2,0,5]),(oD [0,0,2,0,5,1,6,0,5,1,8,0,5,0,2,0,2,0,2,0,2,0,2,0,2,0,0,2,0,5,0,2,0,5,0,6,0,5,0,2,0,5,0,2,0,5,0,6,0,5,0,2,0,5,0,6,0,5,0,2,0,5,0,2,0,5]),(oD [0,1,6,0,5,0,2,0,5,1,8,0,5,0,2,0,2,0,2,0,2,0,2,0,2,0,0,6,0,5,0,2,0,5,0,2,0,5,0,2,0,5,0,2,0,5,0,6,0,5,0,2,0,5,0,6,0,5,0,2,0,5,0,2,0,5])]]
def aB:AV:=.agg [.sl 66 [(oD [0,0,2,0,5,0,6,0,5,0,6,0,5,0,2,0,2,0,2,0,2,0,2,0,2,0,0,5,0,5,0,2,0,5,0,5,0,5,0,2,0,5,0,2,0,5,0,7,0,5,0,2,0,5,0,5,0,5,0,2,0,5,0,2,0,5]),(oD [0,0,6,0,5,0,2,0,5,0,6,0,5,0,2,0,2,0,2,0,2,0,2,0,2,0,0,5,0,5,0,2,0,5,0,5,0,5,0,2,0,5,0,2,0,5,0,5,0,5,0,2,0,5,0,7,0,5,0,2,0,5,0,2,0,5]),(oD [0,0,2,0,5,1,6,0,5,1,10,0,5,0,2,0,2,0,2,0,2,0,2,0,2,0,0,5,0,5,0,2,0,5,0,7,0,5,0,2,0,5,0,2,0,5,0,7,0,5,0,2,0,5,0,7,0,5,0,2,0,5,0,2,0,5]),(oD [0,1,6,0,5,0,2,0,5,1,10,0,5,0,2,0,2,0,2,0,2,0,2,0,2,0,0,7,0,5,0,2,0,5,0,5,0,5,0,2,0,5,0,2,0,5,0,7,0,5,0,2,0,5,0,7,0,5,0,2,0,5,0,2,0,5])]]
def ah7:AV:=.agg [.sl 66 [(oD [0,0,2,0,5,0,6,0,5,0,6,0,5,0,2,0,2,0,2,0,2,0,2,0,2,0,0,5,0,5,0,2,0,5,0,5,0,5,0,2,0,5,0,2,0,5,0,7,0,5,0,2,0,5,0,5,0,5,0,2,0,5,0,2,0,5]),(oD [0,0,6,0,5,0,2,0,5,0,6,0,5,0,2,0,2,0,2,0,2,0,2,0,2,0,0,5,0,5,0,2,0,5,0,5,0,5,0,2,0,5,0,2,0,5,0,5,0,5,0,2,0,5,0,7,0,5,0,2,0,5,0,2,0,5]),(oD [0,0,2,0,5,1,6,0,5,1,10,0,5,0,2,0,2,0,2,0,2,0,2,0,2,0,0,5,0,5,0,2,0,5,0,7,0,5,0,2,0,5,0,2,0,5,0,7,0,5,0,2,0,5,0,7,0,5,0,2,0,5,0,2,0,5]),(oD [0,1,6,0,5,0,2,0,5,1,10,0,5,0,2,0,2,0,2,0,2,0,2,0,2,0,0,7,0,5,0,2,0,5,0,5,0,5,0,2,0,5,0,2,0,5,0,7,0,5,0,2,0,5,0,7,0,5,0,2,0,5,0,2,0,5])]]
def aia:AV:=.agg [.sl 66 [(oD [0,0,2,0,5,0,6,0,5,0,2,0,5,0,2,0,2,0,2,0,2,0,2,0,2,0,0,2,0,5,0,2,0,5,0,2,0,5,0,2,0,5,0,2,0,5,0,6,0,5,0,2,0,5,0,2,0,5,0,2,0,5,0,2,0,5]),(oD [0,0,6,0,5,0,2,0,5,0,2,0,5,0,2,0,2,0,2,0,2,0,2,0,2,0,0,2,0,5,0,2,0,5,0,2,0,5,0,2,0,5,0,2,0,5,0,2,0,5,0,2,0,5,0,6,0,5,0,2,0,5,0,2,0,5]),(oD [0,0,2,0,5,1,6,0,5,1,8,0,5,0,2,0,2,0,2,0,2,0,2,0,2,0,0,2,0,5,0,2,0,5,0,6,0,5,0,2,0,5,0,2,0,5,0,6,0,5,0,2,0,5,0,6,0,5,0,2,0,5,0,2,0,5]),(oD [0,1,6,0,5,0,2,0,5,1,8,0,5,0,2,0,2,0,2,0,2,0,2,0,2,0,0,6,0,5,0,2,0,5,0,2,0,5,0,2,0,5,0,2,0,5,0,6,0,5,0,2,0,5,0,6,0,5,0,2,0,5,0,2,0,5])]]
def adb:AV:=.c (.sl 66 [(oD [0,0,2,0,5,0,6,0,5,0,2,0,5,0,2,0,2,0,2,0,2,0,2,0,2,0,0,2,0,5,0,2,0,5,0,2,0,5,0,2,0,5,0,2,0,5,0,6,0,5,0,2,0,5,0,2,0,5,0,2,0,5,0,2,0,5]),(oD [0,0,6,0,5,0,2,0,5,0,2,0,5,0,2,0,2,0,2,0,2,0,2,0,2,0,0,2,0,5,0,2,0,5,0,2,0,5,0,2,0,5,0,2,0,5,0,2,0,5,0,2,0,5,0,6,0,5,0,2,0,5,0,2,0,5]),(oD [0,0,2,0,5,1,6,0,5,1,8,0,5,0,2,0,2,0,2,0,2,0,2,0,2,0,0,2,0,5,0,2,0,5,0,6,0,5,0,2,0,5,0,2,0,5,0,5,0,5,0,2,0,5,0,6,0,5,0,2,0,5,0,2,0,5]),(oD [0,0,2,0,5,1,6,0,5,1,8,0,5,0,2,0,2,0,2,0,2,0,2,0,2,0,0,5,0,5,0,2,0,5,0,6,0,5,0,2,0,5,0,2,0,5,0,6,0,5,0,2,0,5,0,6,0,5,0,2,0,5,0,2,0,5]),(oD [0,1,6,0,5,0,2,0,5,1,8,0,5,0,2,0,2,0,2,0,2,0,2,0,2,0,0,6,0,5,0,2,0,5,0,2,0,5,0,2,0,5,0,2,0,5,0,6,0,5,0,2,0,5,0,5,0,5,0,2,0,5,0,2,0,5]),(oD [0,1,6,0,5,0,2,0,5,1,8,0,5,0,2,0,2,0,2,0,2,0,2,0,2,0,0,6,0,5,0,2,0,5,0,5,0,5,0,2,0,5,0,2,0,5,0,6,0,5,0,2,0,5,0,6,0,5,0,2,0,5,0,2,0,5])])
def adx:AV:=.c (.sl 66 [(oD [0,0,2,0,5,0,6,0,5,0,6,0,5,0,2,0,2,0,2,0,2,0,2,0,2,0,0,5,0,5,0,2,0,5,0,5,0,5,0,2,0,5,0,2,0,5,0,6,0,5,0,2,0,5,0,5,0,5,0,2,0,5,0,2,0,5]),(oD [0,0,2,0,5,0,6,0,5,0,6,0,5,0,2,0,2,0,2,0,2,0,2,0,2,0,0,6,0,5,0,2,0,5,0,5,0,5,0,2,0,5,0,2,0,5,0,7,0,5,0,2,0,5,0,5,0,5,0,2,0,5,0,2,0,5]),(oD [0,0,6,0,5,0,2,0,5,0,6,0,5,0,2,0,2,0,2,0,2,0,2,0,2,0,0,5,0,5,0,2,0,5,0,5,0,5,0,2,0,5,0,2,0,5,0,5,0,5,0,2,0,5,0,6,0,5,0,2,0,5,0,2,0,5]),(oD [0,0,6,0,5,0,2,0,5,0,6,0,5,0,2,0,2,0,2,0,2,0,2,0,2,0,0,5,0,5,0,2,0,5,0,6,0,5,0,2,0,5,0,2,0,5,0,5,0,5,0,2,0,5,0,7,0,5,0,2,0,5,0,2,0,5]),(oD [0,0,2,0,5,1,6,0,5,1,10,0,5,0,2,0,2,0,2,0,2,0,2,0,2,0,0,5,0,5,0,2,0,5,0,7,0,5,0,2,0,5,0,2,0,5,0,7,0,5,0,2,0,5,0,7,0,5,0,2,0,5,0,2,0,5]),(oD [0,1,6,0,5,0,2,0,5,1,10,0,5,0,2,0,2,0,2,0,2,0,2,0,2,0,0,7,0,5,0,2,0,5,0,5,0,5,0,2,0,5,0,2,0,5,0,7,0,5,0,2,0,5,0,7,0,5,0,2,0,5,0,2,0,5])])
def am1:AV:=.agg (oD [0,2,0,5,0,2,0,5,0,5,0,5,0,2,0,5,0,2,0,5])
def am0:AV:=.agg (oD [0,5,0,5,0,2,0,5,0,2,0,5,0,2,0,5,0,2,0,5])
def am2:AV:=.agg (oD [0,5,0,6,0,2,0,5,0,6,0,5,0,2,0,5,0,2,0,5])
def am3:AV:=.agg (oD [0,7,0,6,0,2,0,5,0,6,0,5,0,2,0,5,0,2,0,5])
def am4:AV:=.agg (oD [0,6,0,5,0,2,0,5,0,5,0,6,0,2,0,5,0,2,0,5])
def am5:AV:=.agg (oD [0,6,0,5,0,2,0,5,0,7,0,6,0,2,0,5,0,2,0,5])
def am6:AV:=.agg (oD [0,7,0,6,0,2,0,5,0,5,0,5,0,2,0,5,0,2,0,5])
def am7:AV:=.agg (oD [0,9,0,6,0,2,0,5,0,5,0,5,0,2,0,5,0,2,0,5])
def am8:AV:=.agg (oD [0,5,0,5,0,2,0,5,0,7,0,6,0,2,0,5,0,2,0,5])
def am9:AV:=.agg (oD [0,5,0,5,0,2,0,5,0,9,0,6,0,2,0,5,0,2,0,5])
def aic:AV:=.agg (oD [0,6,0,5,0,2,0,5,0,7,0,5,0,2,0,5,0,2,0,5])
def aip:AV:=.agg (oD [0,7,0,5,0,2,0,5,0,6,0,5,0,2,0,5,0,2,0,5])
def run:AV:=.tup [.agg [.sl 66 [(oD [0,0,2,0,5,0,6,0,5,0,2,0,5,0,2,0,2,0,2,0,2,0,2,0,2,0,0,2,0,5,0,2,0,5,0,2,0,5,0,2,0,5,0,2,0,5,0,6,0,5,0,2,0,5,0,2,0,5,0,2,0,5,0,2,0,5]),(oD [0,0,6,0,5,0,2,0,5,0,2,0,5,0,2,0,2,0,2,0,2,0,2,0,2,0,0,2,0,5,0,2,0,5,0,2,0,5,0,2,0,5,0,2,0,5,0,2,0,5,0,2,0,5,0,6,0,5,0,2,0,5,0,2,0,5]),(oD [0,0,2,0,5,1,6,0,5,1,8,0,5,0,2,0,2,0,2,0,2,0,2,0,2,0,0,2,0,5,0,2,0,5,0,6,0,5,0,2,0,5,0,2,0,5,0,5,0,5,0,2,0,5,0,6,0,5,0,2,0,5,0,2,0,5]),(oD [0,0,6,0,5,0,2,0,5,0,6,0,5,0,2,0,2,0,2,0,2,0,2,0,2,0,0,5,0,5,0,2,0,5,0,6,0,5,0,2,0,5,0,2,0,5,0,5,0,5,0,2,0,5,0,7,0,5,0,2,0,5,0,2,0,5]),(oD [0,0,2,0,5,1,6,0,5,1,10,0,5,0,2,0,2,0,2,0,2,0,2,0,2,0,0,5,0,5,0,2,0,5,0,7,0,5,0,2,0,5,0,2,0,5,0,7,0,5,0,2,0,5,0,7,0,5,0,2,0,5,0,2,0,5]),(oD [0,1,6,0,5,0,2,0,5,1,8,0,5,0,2,0,2,0,2,0,2,0,2,0,2,0,0,6,0,5,0,2,0,5,0,2,0,5,0,2,0,5,0,2,0,5,0,6,0,5,0,2,0,5,0,5,0,5,0,2,0,5,0,2,0,5]),(oD [0,0,2,0,5,0,6,0,5,0,6,0,5,0,2,0,2,0,2,0,2,0,2,0,2,0,0,6,0,5,0,2,0,5,0,5,0,5,0,2,0,5,0,2,0,5,0,7,0,5,0,2,0,5,0,5,0,5,0,2,0,5,0,2,0,5]),(oD [0,1,6,0,5,0,2,0,5,1,10,0,5,0,2,0,2,0,2,0,2,0,2,0,2,0,0,7,0,5,0,2,0,5,0,5,0,5,0,2,0,5,0,2,0,5,0,7,0,5,0,2,0,5,0,7,0,5,0,2,0,5,0,2,0,5])]],.c (.v (.int .i64 0))]
def aU:AV:=.agg [.sl 66 [(oD [0,0,2,0,5,0,6,0,5,0,2,0,5,0,2,0,2,0,2,0,2,0,2,0,2,0,0,2,0,5,0,2,0,5,0,2,0,5,0,2,0,5,0,2,0,5,0,6,0,5,0,2,0,5,0,2,0,5,0,2,0,5,0,2,0,5]),(oD [0,0,6,0,5,0,2,0,5,0,2,0,5,0,2,0,2,0,2,0,2,0,2,0,2,0,0,2,0,5,0,2,0,5,0,2,0,5,0,2,0,5,0,2,0,5,0,2,0,5,0,2,0,5,0,6,0,5,0,2,0,5,0,2,0,5]),(oD [0,0,2,0,5,1,6,0,5,1,8,0,5,0,2,0,2,0,2,0,2,0,2,0,2,0,0,2,0,5,0,2,0,5,0,6,0,5,0,2,0,5,0,2,0,5,0,5,0,5,0,2,0,5,0,6,0,5,0,2,0,5,0,2,0,5]),(oD [0,0,6,0,5,0,2,0,5,0,6,0,5,0,2,0,2,0,2,0,2,0,2,0,2,0,0,5,0,5,0,2,0,5,0,6,0,5,0,2,0,5,0,2,0,5,0,5,0,5,0,2,0,5,0,7,0,5,0,2,0,5,0,2,0,5]),(oD [0,0,2,0,5,1,6,0,5,1,10,0,5,0,2,0,2,0,2,0,2,0,2,0,2,0,0,5,0,5,0,2,0,5,0,7,0,5,0,2,0,5,0,2,0,5,0,7,0,5,0,2,0,5,0,7,0,5,0,2,0,5,0,2,0,5]),(oD [0,1,6,0,5,0,2,0,5,1,8,0,5,0,2,0,2,0,2,0,2,0,2,0,2,0,0,6,0,5,0,2,0,5,0,2,0,5,0,2,0,5,0,2,0,5,0,6,0,5,0,2,0,5,0,5,0,5,0,2,0,5,0,2,0,5]),(oD [0,0,2,0,5,0,6,0,5,0,6,0,5,0,2,0,2,0,2,0,2,0,2,0,2,0,0,6,0,5,0,2,0,5,0,5,0,5,0,2,0,5,0,2,0,5,0,7,0,5,0,2,0,5,0,5,0,5,0,2,0,5,0,2,0,5]),(oD [0,1,6,0,5,0,2,0,5,1,10,0,5,0,2,0,2,0,2,0,2,0,2,0,2,0,0,7,0,5,0,2,0,5,0,5,0,5,0,2,0,5,0,2,0,5,0,7,0,5,0,2,0,5,0,7,0,5,0,2,0,5,0,2,0,5])]]
def apt:AV:=.agg (oD [0,6,0,5,0,2,0,5,0,6,0,5,0,2,0,5,0,2,0,5])
end Go.Proofs.YtdpkjhnfklkkjaaGreat
