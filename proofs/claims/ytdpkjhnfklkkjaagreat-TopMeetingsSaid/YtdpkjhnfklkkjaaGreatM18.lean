/-
  Rules of the abstract run, plain laws, and what functions answer, for the law TopMeetings.
  Conditions: none.
-/
import Derived.Test.YtdpkjhnfklkkjaaGreatM17
import Derived.Maps.OwnSet
set_option linter.all false
namespace Go.Proofs.YtdpkjhnfklkkjaaGreat
open Go Go.RowKit Go.Sw Go.Proofs.Tryz
set_option maxRecDepth 100000
set_option maxHeartbeats 16000000
set_option synthInstance.maxSize 4000
set_option synthInstance.maxHeartbeats 400000
theorem BH{p:Nat->Prop}{x:Nat}(h:∀j<x,p j)(h1:p x):∀j<x+1,p j:=λj hj=>by
 rcases Ju j x with g|g
 .exact h j g
 .rw[show j=x by omega];exact h1
def O1:Cv:=⟨.ln 0 0 0,O0,O0⟩
instance aom(c d:Cv)(p:Pnt):DenI prog 28 [.agg (aY p),.c (.p (dL c)),.c (.p (dL d))] (PC c/\PC d/\PB p) (.bool (!Le c d p)):=⟨λhp=>by
 obtain⟨Hc,Hd,hp⟩:=hp
 all_goals refine aS func28 rfl ?_
 all_goals(repeat'((try(conv=>whnf));first
  |refine ak ?_ ?_|(with_reducible first|refine aN ?_|refine aI ?_)|refine zad (λ_=>?_) (λ_=>?_)|apply zaa))
 all_goals(try apply zab)
 all_goals first
  |exact bE (by unfold Le;simp[*])|exact⟨Hc,hp⟩|exact⟨Hd,hp⟩⟩
instance aof(c:Cv)(p:Pnt):DenI prog 37 [.agg (aY p),.c (.p (dL c))] (PC c/\PB p) (.bool (!c.on p)):=⟨λhp=>by
 obtain⟨Hc,hp⟩:=hp
 all_goals refine aS func37 rfl ?_
 all_goals(repeat'((try(conv=>whnf));first
  |refine ak ?_ ?_|apply zaa))
 all_goals(try apply zab)
 all_goals first
  |rfl|exact⟨Hc,hp⟩⟩
instance aob(p q:Pnt):DenI prog 35 [.agg (aY q),.c (.p (aY p))] (PB p/\PB q) (.bool (pE p q)):=⟨λhp=>by
 obtain⟨hp,hq⟩:=hp
 all_goals refine aS func35 rfl ?_
 all_goals(repeat'((try(conv=>whnf));first
  |refine ak ?_ ?_|apply zaa))
 all_goals(try apply zab)
 all_goals first
  |rfl|exact⟨hp,hq⟩⟩
instance aog(d c:Cv):DenI prog 81 [.agg (dL c),.c (.p (dL d))] (PC d/\PC c) (.bool (d.cov c)):=⟨λhp=>by
 obtain⟨Hd,hp⟩:=hp
 all_goals refine aS func81 rfl ?_
 all_goals(repeat'((try(conv=>whnf));first
  |refine ak ?_ ?_|apply zaa))
 all_goals(try apply zab)
 all_goals first
  |rfl|exact⟨Hd,hp⟩⟩
instance adA(c d:Cv)(l:List Pnt):DenI prog 73 [.c (.sl 20 (l.map λp=>aY p)),.c (.fn 28 [.p (dL c),.p (dL d)])] (PC c/\PC d/\(∀p∈l,PB p)/\l.length<=1000) (.int .i64 (zH (λp=>!Le c d p) l)):=⟨λhp=>by
 obtain⟨Hc,Hd,hl,hn⟩:=hp
 all_goals refine aS func73 rfl ?_
 all_goals first
  |((conv=>whnf);refine Sw.Loop.inv (α:=Nat) (λk=>[(0,.c (.sl 20 (l.map λp=>aY p))),(1,.c (.fn 28 [.p (dL c),.p (dL d)])),(6,.c (.sl 20 (l.map λp=>aY p))),(7,.int .i64 (l.length:Nat)),(8,.int .i64 (k:Nat))]) (λk=>[]) (λk=>k<=l.length/\∀j<k,(λp=>!Le c d p) (l.getD j O0)=false) (λk=>l.length-k) 0 ?_ ?_ ?_ (λk hk=>?_))
 all_goals(repeat'((try(conv=>whnf));first
  |refine ak ?_ ?_|(with_reducible refine aO (λ_=>?_) (λ_=>?_))|refine zad (λ_=>?_) (λ_=>?_)|refine aT O0 ?_ ?_|apply zaa))
 all_goals(try apply zab)
 all_goals(try simp only[bW,dI]at *)
 all_goals first
  |omega|trivial|exact⟨Hc,Hd,bP hl ω⟩|exact⟨Au _,λj hj=>absurd hj (Nat.not_lt_zero _)⟩|((conv=>whnf);exact⟨k+1,⟨⟨rfl,rfl,rfl,rfl,kC ω,trivial⟩,trivial,⟨ω,BH hk.2 ξ⟩,(by show l.length-(k+1)<l.length-k;omega)⟩⟩)|exact zaw|exact zax⟩
instance amQ(c:Cv)(l:List Pnt):DenI prog 73 [.c (.sl 20 (l.map λp=>aY p)),.c (.fn 37 [.p (dL c)])] (PC c/\(∀p∈l,PB p)/\l.length<=1000) (.int .i64 (zH (λp=>!c.on p) l)):=⟨λhp=>by
 obtain⟨Hc,hl,hn⟩:=hp
 all_goals refine aS func73 rfl ?_
 all_goals first
  |((conv=>whnf);refine Sw.Loop.inv (α:=Nat) (λk=>[(0,.c (.sl 20 (l.map λp=>aY p))),(1,.c (.fn 37 [.p (dL c)])),(6,.c (.sl 20 (l.map λp=>aY p))),(7,.int .i64 (l.length:Nat)),(8,.int .i64 (k:Nat))]) (λk=>[]) (λk=>k<=l.length/\∀j<k,(λp=>!c.on p) (l.getD j O0)=false) (λk=>l.length-k) 0 ?_ ?_ ?_ (λk hk=>?_))
 all_goals(repeat'((try(conv=>whnf));first
  |refine ak ?_ ?_|(with_reducible refine aO (λ_=>?_) (λ_=>?_))|refine zad (λ_=>?_) (λ_=>?_)|refine aT O0 ?_ ?_|apply zaa))
 all_goals(try apply zab)
 all_goals(try simp only[bW,dI]at *)
 all_goals first
  |omega|trivial|exact⟨Hc,bP hl ω⟩|exact⟨Au _,λj hj=>absurd hj (Nat.not_lt_zero _)⟩|((conv=>whnf);exact⟨k+1,⟨⟨rfl,rfl,rfl,rfl,kC ω,trivial⟩,trivial,⟨ω,BH hk.2 ξ⟩,(by show l.length-(k+1)<l.length-k;omega)⟩⟩)|exact zaw|exact zax⟩
instance amH(p:Pnt)(l:List Pnt):DenI prog 73 [.c (.sl 20 (l.map λp=>aY p)),.c (.fn 35 [.p (aY p)])] (PB p/\(∀p∈l,PB p)/\l.length<=1000) (.int .i64 (zH (λq=>pE p q) l)):=⟨λhp=>by
 obtain⟨Hc,hl,hn⟩:=hp
 all_goals refine aS func73 rfl ?_
 all_goals first
  |((conv=>whnf);refine Sw.Loop.inv (α:=Nat) (λk=>[(0,.c (.sl 20 (l.map λp=>aY p))),(1,.c (.fn 35 [.p (aY p)])),(6,.c (.sl 20 (l.map λp=>aY p))),(7,.int .i64 (l.length:Nat)),(8,.int .i64 (k:Nat))]) (λk=>[]) (λk=>k<=l.length/\∀j<k,(λq=>pE p q) (l.getD j O0)=false) (λk=>l.length-k) 0 ?_ ?_ ?_ (λk hk=>?_))
 all_goals(repeat'((try(conv=>whnf));first
  |refine ak ?_ ?_|(with_reducible refine aO (λ_=>?_) (λ_=>?_))|refine zad (λ_=>?_) (λ_=>?_)|refine aT O0 ?_ ?_|apply zaa))
 all_goals(try apply zab)
 all_goals(try simp only[bW,dI]at *)
 all_goals first
  |omega|trivial|exact⟨Hc,bP hl ω⟩|exact⟨Au _,λj hj=>absurd hj (Nat.not_lt_zero _)⟩|((conv=>whnf);exact⟨k+1,⟨⟨rfl,rfl,rfl,rfl,kC ω,trivial⟩,trivial,⟨ω,BH hk.2 ξ⟩,(by show l.length-(k+1)<l.length-k;omega)⟩⟩)|exact zaw|exact zax⟩
instance anU(d:Cv)(L:List Cv):DenI prog 149 [.c (.sl 66 (L.map λc=>dL c)),.c (.fn 81 [.p (dL d)])] (PC d/\(∀p∈L,PC p)/\L.length<=1000) (.int .i64 (zH (λp=>d.cov p) L)):=⟨λhp=>by
 obtain⟨Hc,hl,hn⟩:=hp
 all_goals refine aS func149 rfl ?_
 all_goals first
  |((conv=>whnf);refine Sw.Loop.inv (α:=Nat) (λk=>[(0,.c (.sl 66 (L.map λc=>dL c))),(1,.c (.fn 81 [.p (dL d)])),(6,.c (.sl 66 (L.map λc=>dL c))),(7,.int .i64 (L.length:Nat)),(8,.int .i64 (k:Nat))]) (λk=>[]) (λk=>k<=L.length/\∀j<k,(λp=>d.cov p) (L.getD j O1)=false) (λk=>L.length-k) 0 ?_ ?_ ?_ (λk hk=>?_))
 all_goals(repeat'((try(conv=>whnf));first
  |refine ak ?_ ?_|(with_reducible refine aO (λ_=>?_) (λ_=>?_))|refine zad (λ_=>?_) (λ_=>?_)|refine aT O1 ?_ ?_|apply zaa))
 all_goals(try apply zab)
 all_goals(try simp only[bW,dI]at *)
 all_goals first
  |omega|trivial|exact⟨Hc,bP hl ω⟩|exact⟨Au _,λj hj=>absurd hj (Nat.not_lt_zero _)⟩|((conv=>whnf);exact⟨k+1,⟨⟨rfl,rfl,rfl,rfl,kC ω,trivial⟩,trivial,⟨ω,BH hk.2 ξ⟩,(by show L.length-(k+1)<L.length-k;omega)⟩⟩)|((with_reducible show aW _=_);rw[Cc (d:=O1) (k:=k) ω hk.2 ξ];rfl)|((with_reducible show aW _=_);have hxx:k=L.length:=ω;subst hxx;rw[L8 (d:=O1) hk.2];rfl)⟩
instance ani(c:Cv)(l:List Pnt):DenI prog 34 [.c (.sl 20 (l.map λp=>aY p)),.c (.fn 37 [.p (dL c)])] (PC c/\(∀p∈l,PB p)/\l.length<=1000) (.bool (l.any (λp=>!c.on p))):=⟨λhp=>by
 refine aS func34 rfl ?_
 all_goals(repeat'((try(conv=>whnf));first
  |refine ak ?_ ?_|apply zaa))
 all_goals(try apply zab)
 all_goals first
  |exact hp|(refine bE ?_;show decide (0<=_)=_;exact Ih)⟩
instance anC(p:Pnt)(l:List Pnt):DenI prog 34 [.c (.sl 20 (l.map λp=>aY p)),.c (.fn 35 [.p (aY p)])] (PB p/\(∀p∈l,PB p)/\l.length<=1000) (.bool (l.any (λq=>pE p q))):=⟨λhp=>by
 refine aS func34 rfl ?_
 all_goals(repeat'((try(conv=>whnf));first
  |refine ak ?_ ?_|apply zaa))
 all_goals(try apply zab)
 all_goals first
  |exact hp|(refine bE ?_;show decide (0<=_)=_;exact Ih)⟩
instance ahs(d:Cv)(L:List Cv):DenI prog 80 [.c (.sl 66 (L.map λc=>dL c)),.c (.fn 81 [.p (dL d)])] (PC d/\(∀p∈L,PC p)/\L.length<=1000) (.bool (L.any (λp=>d.cov p))):=⟨λhp=>by
 refine aS func80 rfl ?_
 all_goals(repeat'((try(conv=>whnf));first
  |refine ak ?_ ?_|apply zaa))
 all_goals(try apply zab)
 all_goals first
  |exact hp|(refine bE ?_;show decide (0<=_)=_;exact Ih)⟩
instance amY(l:List Pnt):DenI prog 27 [.c (.sl 20 (l.map λp=>aY p))] (l.length<=1000) (.own 37 20 (l.map λp=>aY p)):=⟨λh=>Dv (by rw [bW];omega)⟩
instance alJ(l:List Pnt):DenI prog 27 [.c (pL l)] (l.length<=1000) (.own 37 20 (l.map λp=>aY p)):=⟨λh=>by
 cases l with
 |nil=>exact JO (Dv (es:=[]) ψ)
 |cons p r=>exact Dv (es:=((p::r).map λp=>aY p)) (by rw[bW];omega)⟩
end Go.Proofs.YtdpkjhnfklkkjaaGreat
namespace Go.Sw
theorem MI{c:Cv}{p:Pnt}:∀{L:List Pnt} {k:Nat},(∀j<k,c.od (L.getD j O0) p<0)->k<L.length->¬c.od (L.getD k O0) p<0->pE (L.getD k O0) p=true->c.ins p L=L
 |[],k,_,h,_,_=>by simp at h
 |y::r,0,_,_,h1,h2=>by
  have h1:¬c.od y p<0:=h1;have h2:pE y p=true:=h2;unfold Cv.ins;rw[if_neg h1,if_pos h2]
 |y::r,k+1,h,hk,h1,h2=>by
  have h0:c.od y p<0:=h 0 ω;have ih:=MI (c:=c) (p:=p) (L:=r) (k:=k) (λj hj=>h (j+1) ω) (by simpa using hk) h1 h2;unfold Cv.ins;rw[if_pos h0,ih]
theorem P7{c:Cv}{p:Pnt}:∀{L:List Pnt} {k:Nat},(∀j<k,c.od (L.getD j O0) p<0)->k<=L.length->(k<L.length->¬c.od (L.getD k O0) p<0/\¬pE (L.getD k O0) p=true)->c.ins p L=L.take k++p::L.drop k
 |[],k,_,h,_=>by
  have:k=0:=by simpa using h
  subst this;rfl
 |y::r,0,_,_,h=>by
  obtain⟨h1,h2⟩:=h η;have h1:¬c.od y p<0:=h1;have h2:¬pE y p=true:=h2;unfold Cv.ins;rw[if_neg h1,if_neg h2];rfl
 |y::r,k+1,h,hk,h1=>by
  have h0:c.od y p<0:=h 0 ω;have ih:=P7 (c:=c) (p:=p) (L:=r) (k:=k) (λj hj=>h (j+1) ω) (by simpa using hk) (λhh=>h1 (by simpa using hh));unfold Cv.ins;rw[if_pos h0,ih];rfl
theorem KX{c:Cv}{l:List Pnt}{x:Nat}(h:x<l.length):c.srt (l.take (x+1))=c.ins (l.getD x O0) (c.srt (l.take x)):=by
 rw[lG (d:=O0) h];unfold Cv.srt;rw[List.foldl_append];rfl
theorem ZW{c:Cv}{l:List Pnt}{x:Nat}:(c.srt (l.take x)).length<=l.length:=fZ (BA _) (by rw[xB];omega)
theorem acp{c:Cv}{l:List Pnt}{x:Nat}(h:∀p∈l,PB p):∀p∈c.srt (l.take x),PB p:=Ib λp hp=>h p (qbL hp)
def nbA(f:Pnt->Pnt->Bool):List Pnt->Bool
 |a::b::r=>f a b||nbA f (b::r)
 |_=>false
theorem Eh{f:Pnt->Pnt->Bool}:∀{l:List Pnt} {i:Nat},0<i->i<l.length->nbA f (l.take (i+1))=(nbA f (l.take i)||f (l.getD (i-1) O0) (l.getD i O0))
 |[],i,_,h=>by simp at h
 |[a],i,h0,h=>by simp at h;omega
 |a::b::r,1,_,_=>by simp[nbA]
 |a::b::r,i+2,_,h=>by
  have ih:=Eh (f:=f) (l:=b::r) (i:=i+1) ω (by simpa using h);show(f a b||nbA f ((b::r).take (i+1+1)))=((f a b||nbA f ((b::r).take (i+1)))||_)
  rw[ih,Bool.or_assoc];rfl
theorem ab1{f:Pnt->Pnt->Bool}{l:List Pnt}{i:Nat}(h:i<=1):nbA f (l.take i)=false:=by
 match i,h with
 |0,_=>rfl
 |1,_=>cases l<;>rfl
theorem MJ{c:Cv}:∀{l:List Pnt} {i:Nat},0<i->i<l.length->c.prs (l.take (i+1))=c.prs (l.take i)++[⟨c.s,l.getD (i-1) O0,l.getD i O0⟩]
 |[],i,_,h=>by simp at h
 |[a],i,h0,h=>by simp at h;omega
 |a::b::r,1,_,_=>rfl
 |a::b::r,i+2,_,h=>by
  have ih:=MJ (c:=c) (l:=b::r) (i:=i+1) ω (by simpa using h);show _::c.prs ((b::r).take (i+1+1))=_ ::(c.prs ((b::r).take (i+1))++_)
  rw[ih];rfl
theorem abO{c:Cv}{l:List Pnt}{i:Nat}(h:i<=1):c.prs (l.take i)=[]:=by
 match i,h with
 |0,_=>rfl
 |1,_=>cases l<;>rfl
end Go.Sw
namespace Go.Proofs.YtdpkjhnfklkkjaaGreat
open Go Go.RowKit Go.Sw Go.Proofs.Tryz
set_option maxRecDepth 100000
set_option maxHeartbeats 16000000
set_option synthInstance.maxSize 4000
set_option synthInstance.maxHeartbeats 400000
def agu:Tab:=[(5000000000,.flag),(5000009006,.flag)]++tab
theorem aa1:dQ prog agu=true:=ζ
instance afu(c:Cv)(l:List Pnt):DenI prog 46 [.agg (dL c),.c (.sl 20 (l.map λp=>aY p))] (PC c/\(∀p∈l,PB p)/\l.length<=1000) (.c (.sl 20 ((c.srt l).map λp=>aY p))):=⟨λhp=>by
 obtain⟨Hc,hl,hn⟩:=hp
 all_goals refine zK (τ:=agu) aa1 dF func46 rfl ζ ζ ζ ?_
 all_goals first
  |((conv=>whnf);refine Sw.Loop.ghost 5 48 37 20 ?_ rfl rfl rfl ψ rfl)
 all_goals first
  |((conv=>whnf);refine Sw.Loop.inv (α:=Nat) (λx=>[(2,.ptr 2 0),(1,.c (.sl 20 (l.map λp=>aY p))),(5,.gs 48 (c.srt (l.take x)).length),(6,.int .i64 (x:Nat))]) (λx=>[(2,.var (dL c)),(48,.grow 37 20 ((c.srt (l.take x)).map λp=>aY p))]) (λx=>x<=l.length/\True) (λx=>l.length-x) 0 ?_ ?_ ?_ (λx ⟨hx,_⟩=>?_))
 all_goals(try(have hsl:=ZW (c:=c) (l:=l) (x:=x);have hsp:=acp (c:=c) (x:=x) hl))
 all_goals(repeat'((try(conv=>whnf));first
  |(with_reducible refine aO (λ_=>?_) (λ_=>?_))|refine aK ?_ ?_|apply zaa))
 all_goals(try apply zab)
 all_goals(try simp only[bW,dI]at *)
 all_goals first
  |((conv=>whnf);refine Sw.Loop.inv (α:=Nat) (λk=>[(2,.ptr 2 0),(1,.c (.sl 20 (l.map λp=>aY p))),(5,.gs 48 (c.srt (l.take x)).length),(6,.int .i64 (x:Nat)),(7,.int .i64 (k:Nat))]) (λk=>[(2,.var (dL c)),(48,.grow 37 20 ((c.srt (l.take x)).map λp=>aY p))]) (λk=>k<=(c.srt (l.take x)).length/\∀j<k,c.od ((c.srt (l.take x)).getD j O0) (l.getD x O0)<0) (λk=>(c.srt (l.take x)).length-k) 0 ?_ ?_ ?_ (λk ⟨hk,hko⟩=>?_))|skip
 all_goals(repeat'((try(conv=>whnf));first
  |refine ak ?_ ?_|(with_reducible first|refine aN ?_|refine aI ?_|refine aO (λ_=>?_) (λ_=>?_))|refine zad (λ_=>?_) (λ_=>?_)|refine aK ?_ ?_|refine zac ζ ?_|refine aH ?_ ?_|refine aT O0 ?_ ?_))
 all_goals(try apply zab)
 all_goals(try simp only[bW,dI]at *)
 all_goals(try simp only[Bd,Zw,dI]at *)
 all_goals first|(show SubE _ _;repeat'(first|exact trivial|refine And.intro ?_ ?_))|(show SubB _ _;repeat'(first|exact trivial|refine And.intro ?_ ?_))|skip
 all_goals(try rfl)
 all_goals first
  |omega|exact⟨Au _,λj hj=>absurd hj (Nat.not_lt_zero _)⟩|exact⟨Au _,trivial⟩|exact⟨Hc,bP hsp ω,bP hl ω⟩|exact⟨bP hsp ω,bP hl ω⟩|((conv=>whnf);exact⟨k+1,⟨⟨rfl,rfl,rfl,rfl,(show some (AV.int .i64 _)=some (AV.int .i64 _)from by first|(refine congrArg (λz=>some (AV.int .i64 z)) ?_;(try dsimp only);omega)|(refine congrArg (λz=>some (AV.int .i64 z)) ?_;(try dsimp only);rw[bG ω ω];omega)),trivial⟩,⟨rfl,rfl,trivial⟩,⟨ω,BH hko ξ⟩,by show(c.srt (l.take x)).length-(k+1)<(c.srt (l.take x)).length-k;omega⟩⟩)|(refine⟨ω,ω,ω,ω,λh=>?_⟩;first|exact h|rfl|(cases h))|(simp only[rQ,List.length_drop,xB,bW,mg,ji];omega)|(have he:c.srt (l.take (x+1))=c.srt (l.take x):=((KX ω).trans (MI hko ω ξ ξ));((conv=>whnf);exact⟨x+1,⟨⟨rfl,rfl,(by show some (AV.gs 48 _)=some (AV.gs 48 _);rw[he]),(show some (AV.int .i64 _)=some (AV.int .i64 _)from by first|exact zaj|exact zak),trivial⟩,⟨rfl,(by show some (Bk.grow _ _ _)=some (Bk.grow _ _ _);rw[he]),trivial⟩,⟨ω,trivial⟩,by show l.length-(x+1)<l.length-x;omega⟩⟩))|(have he:c.srt (l.take (x+1))=(c.srt (l.take x)).take k++l.getD x O0 ::(c.srt (l.take x)).drop k:=((KX ω).trans (P7 hko hk (λhh=>⟨by first|assumption|omega,by first|simp_all|omega⟩)));have htk:List.take (c.srt (l.take x)).length (List.map (λp=>aY p) (c.srt (l.take x)))=List.map (λp=>aY p) (c.srt (l.take x)):=MV (by rw[bW];exact jg _);((conv=>whnf);exact⟨x+1,⟨⟨rfl,rfl,(by refine congrArg (λn=>some (AV.gs 48 n)) ?_;rw[he];simp only[rQ,List.length_drop,xB,bW,mg,ji,dI,Int.toNat_zero];omega),(show some (AV.int .i64 _)=some (AV.int .i64 _)from by first|exact zaj|exact zak),trivial⟩,⟨rfl,(by show some (Bk.grow _ _ _)=some (Bk.grow _ _ _);rw[he];simp only[UZ,xZ,List.map_take,List.map_drop,qbN,S9,List.singleton_append,dI,Int.toNat_zero,UW,Bd,Zw];rw[htk]),trivial⟩,⟨ω,trivial⟩,by show l.length-(x+1)<l.length-x;omega⟩⟩))|((with_reducible show aW _=_);rw[MV ω];rfl)⟩
end Go.Proofs.YtdpkjhnfklkkjaaGreat
namespace Go.Sw
section
variable {α:Type} {e:α->α->Bool} {d:α}
theorem BZ{l:List α}:∀{k:Nat},k<=l.length->(∀j,0<j->j<k->e (l.getD j d) (l.getD (j-1) d)=false)->xI e (l.take k)=l.take k
 |0,_,_=>rfl
 |1,h,_=>afS (by intro e;subst e;simp at h)
 |k+2,h,g=>by
  have ih:=BZ (k:=k+1) ω λj h1 h2=>g j h1 ω
  exact Z5 (d:=d) ω ω ih (by rw[g (k+1) ω ω];decide)
theorem V7(e:α->α->Bool)(d:α)(l:List α):(xI e l=l/\∀j,0<j->j<l.length->e (l.getD j d) (l.getD (j-1) d)=false) \/
 ∃k,0<k/\k<l.length/\(∀j,0<j->j<k->e (l.getD j d) (l.getD (j-1) d)=false)/\xI e (l.take k)=l.take k/\e (l.getD k d) (l.getD (k-1) d)=true:=by
 have key:∀m,m<=l.length->(∀j,0<j->j<m->e (l.getD j d) (l.getD (j-1) d)=false)\/∃k,0<k/\k<l.length/\(∀j,0<j->j<k->e (l.getD j d) (l.getD (j-1) d)=false)/\e (l.getD k d) (l.getD (k-1) d)=true:=by
  intro m;induction m with
  |zero=>intro _;exact .inl λj _ h=>by omega
  |succ m ih =>
   intro hm;rcases ih ω with h|h
   .by_cases hz:m=0
    .subst hz;exact .inl λj h1 h2=>by omega
    .cases hc:e (l.getD m d) (l.getD (m-1) d)with
     |true=>exact .inr ⟨m,ω,ω,h,hc⟩
     |false =>
      refine .inl λj h1 h2=>?_
      by_cases hj:j=m
      .subst hj;exact hc
      .exact h j h1 ω
   .exact .inr h
 rcases key l.length (jg _)with h|⟨k,h1,h2,h3,h4⟩
 .refine .inl ⟨?_,h⟩;have:=BZ (jg _) h
  rwa [oU]at this
 .exact .inr ⟨k,h1,h2,h3,BZ ω h3,h4⟩
end
theorem abD{e:Pnt->Pnt->Bool}{P:Pnt->Prop}{l:List Pnt}(h:∀p∈l,P p):∀p∈xI e l,P p:=λp hp=>h p (V4 hp)
theorem JA{o:Pnt->Pnt->Int}(l:List Pnt):(AB o l).length=l.length:=by rw[<-IU (d:=O0),xW]
theorem QK{e:Pnt->Pnt->Bool}:∀(l:List Pnt) (p:Pnt),(Dp e p l).length<=l.length
 |[],_=>jg _
 |b::r,p=>by
  have h:=QK (e:=e) r b;simp only[Dp,ji];split
  .omega
  .simp only[ji];omega
theorem aap{e:Pnt->Pnt->Bool}(l:List Pnt):(xI e l).length<=l.length:=by
 cases l with
 |nil=>exact jg _
 |cons a r=>have:=QK (e:=e) r a;simp only[xI,ji];omega
def Cv.sd(c:Cv)(l:List Pnt):List Pnt:=xI pE (AB c.odP l)
theorem Nh{c:Cv}{P:Pnt->Prop}{l:List Pnt}(h:∀p∈l,P p):∀p∈c.sd l,P p:=abD (MF h)
theorem Nz{c:Cv}{l:List Pnt}:(c.sd l).length<=l.length:=by unfold Cv.sd;exact fZ (aap _) (by rw[JA];exact jg _)
theorem Px(c d:Cv):c.meet d=c.sd ((c.cand d).filter (Le c d)):=rfl
theorem YH(c:Cv)(l:List Pnt):c.split l=(Tn pE c.p c.q c.p (c.sd l)).map λa=>⟨c.s,a.1,a.2⟩:=rfl
def Cv.stp(c:Cv)(s:List Cv×Pnt)(p:Pnt):List Cv×Pnt:=if(pE p c.p||pE p c.q)=true then s else(s.1++[⟨c.s,s.2,p⟩],p)
theorem Vg{c:Cv}{s:List Cv×Pnt}{p:Pnt}(h:(pE p c.p||pE p c.q)=true):c.stp s p=s:=by unfold Cv.stp;rw[if_pos h]
theorem ac6{c:Cv}{s:List Cv×Pnt}{p:Pnt}(h:¬(pE p c.p||pE p c.q)=true):c.stp s p=(s.1++[⟨c.s,s.2,p⟩],p):=by unfold Cv.stp;rw[if_neg h]
def Cv.spS(c:Cv)(l:List Pnt):List Cv×Pnt:=l.foldl c.stp ([],c.p)
theorem CS{c:Cv}{l:List Pnt}{x:Nat}(h:x<l.length):c.spS (l.take (x+1))=c.stp (c.spS (l.take x)) (l.getD x O0):=by
 rw[lG (d:=O0) h];unfold Cv.spS;rw[List.foldl_append];rfl
theorem IW(c:Cv):∀(l:List Pnt) (A:List Cv) (cur:Pnt),(l.foldl c.stp (A,cur)).1++[⟨c.s,(l.foldl c.stp (A,cur)).2,c.q⟩]=A++(Tn pE c.p c.q cur l).map λa=>⟨c.s,a.1,a.2⟩
 |[],A,cur=>rfl
 |p::r,A,cur=>by
  rw[Na]
  by_cases h:(pE p c.p||pE p c.q)=true
  .rw[Vg h,IW c r A cur]
   conv=>rhs;unfold Tn
   rw[if_pos h]
  .rw[ac6 h];dsimp only;refine(IW c r (A++[(⟨c.s,cur,p⟩:Cv)]) p).trans ?_;rw[S9]
   conv=>rhs;unfold Tn
   rw[if_neg h];rfl
theorem Gv(c:Cv)(l:List Pnt):c.split l=(c.spS (c.sd l)).1++[⟨c.s,(c.spS (c.sd l)).2,c.q⟩]:=by
 rw[YH];exact(IW c (c.sd l) [] c.p).symm
theorem aaK{c:Cv}{P:Pnt->Prop}{s:List Cv×Pnt}{p:Pnt}(h:(∀a∈s.1,a.s=c.s/\P a.p/\P a.q)/\P s.2)(hp:P p):(∀a∈(c.stp s p).1,a.s=c.s/\P a.p/\P a.q)/\P (c.stp s p).2:=by
 unfold Cv.stp;split
 .exact h
 .refine⟨λa ha=>?_,hp⟩;rcases uh.1 ha with ha|ha
  .exact h.1 a ha
  .rw[pI.1 ha];exact⟨rfl,h.2,hp⟩
theorem Qd{c:Cv}{P:Pnt->Prop}(h0:P c.p){l:List Pnt}(h:∀p∈l,P p):(∀a∈(c.spS l).1,a.s=c.s/\P a.p/\P a.q)/\P (c.spS l).2:=by
 have key:∀(l:List Pnt) (s:List Cv×Pnt),(∀p∈l,P p)->((∀a∈s.1,a.s=c.s/\P a.p/\P a.q)/\P s.2)->(∀a∈(l.foldl c.stp s).1,a.s=c.s/\P a.p/\P a.q)/\P (l.foldl c.stp s).2:=by
  intro l;induction l with
  |nil=>intro s _ hs;exact hs
  |cons p r ih=>intro s hl hs;exact ih _ (λq hq=>hl q (vX _ hq)) (aaK hs (hl p List.mem_cons_self))
 exact key l _ h ⟨λa ha=>(by cases ha),h0⟩
theorem abA{c:Cv}{s:List Cv×Pnt}{p:Pnt}:(c.stp s p).1.length<=s.1.length+1:=by
 unfold Cv.stp;split<;>simp
theorem RH{c:Cv}:∀(l:List Pnt),(c.spS l).1.length<=l.length:=by
 have key:∀(l:List Pnt) (s:List Cv×Pnt),(l.foldl c.stp s).1.length<=s.1.length+l.length:=by
  intro l;induction l with
  |nil=>intro s;exact jg _
  |cons p r ih=>intro s;have:=ih (c.stp s p);have:=abA (c:=c) (s:=s) (p:=p);simp only[Na,ji];omega
 intro l;have:=key l ([],c.p);simp only[mg,uY]at this;exact this
theorem yO{c:Cv}(hc:PC c){l:List Pnt}(h:∀p∈l,PB p):(∀a∈c.split l,PC a)/\(c.split l).length<=l.length+1:=by
 rw[Gv];have h1:=Qd (c:=c) (P:=PB) hc.p (Nh (c:=c) h);have h2:=RH (c:=c) (c.sd l);have h3:=Nz (c:=c) (l:=l);refine⟨λa ha=>?_,by simp only[rQ,ji,mg];omega⟩;rcases uh.1 ha with ha|ha
 .obtain⟨e,h4,h5⟩:=h1.1 a ha;exact⟨by rw[e];exact hc.s,h4,h5⟩
 .rw[pI.1 ha];exact⟨hc.s,h1.2,hc.q⟩
theorem Jd{c:Cv}:∀{l:List Pnt},(l.any λp=>!c.on p) = !l.all c.on
 |[]=>rfl
 |p::r=>by rw[List.any_cons,List.all_cons,Jd,Bool.not_and]
theorem agm{c:Cv}{l:List Pnt}(h:(l.any λp=>!c.on p)=true):¬l.all c.on=true:=by rw[Jd]at h;intro g;rw[g]at h;cases h
theorem ahc{c:Cv}{l:List Pnt}(h:(l.any λp=>!c.on p)=false):l.all c.on=true:=by rw[Jd]at h;cases hz:l.all c.on with|true=>rfl|false=>rw[hz]at h;cases h
theorem ajE{a b:Bool}(h:a=true):(a||b)=true:=by rw[h];rfl
theorem alj{a b:Bool}(h:b=true):(a||b)=true:=by rw[h];cases a<;>rfl
theorem amr{a b:Bool}(h:a=false)(g:b=false):¬(a||b)=true:=by rw[h,g];decide
theorem afe{A B:Rat}(ha:hb A 645)(hbb:hb B 645):hb (lV A B) 645/\hb (l9 A B) 645:=by
 unfold lV l9;constructor
 .split
  .exact ni hbb
  .exact hbb
 .split
  .exact ni (ni ha)
  .exact ni ha
theorem N7{A B C X Y Q:Rat}(h:HL A B C X Y Q):∀p∈Dj A B C X Y Q,PB p:=by
 obtain⟨r1,r2,r3⟩:=h.ft;obtain⟨d1,d2⟩:=afe h.a h.b;have g:∀{q:Rat} {n N:Nat},hb q n->2*(n/29+1)<=N->rz q<=N:=λh k=>fZ (dM h) k
 intro p hp;unfold Dj at hp;split at hp
 .cases hp
 .rename_i k1;split at hp
  .rw[pI.1 hp];exact VO (g r1 ψ) (g r2 ψ)
  .have h0:0<=xX A B C X Y Q:=ν
   simp only[jA,List.not_mem_nil,or_false]at hp;rcases hp with rfl|rfl
   .exact XM r1 (ni d1) r2 (ni d2) r3 h0
   .exact XM r1 d1 r2 d2 r3 h0
theorem aav{a b:Sprt}(ha:SB a)(hb:SB b)(oa:a.ok)(ob:b.ok):∀p∈rC a b,PB p:=by
 cases a<;>cases b<;>simp only[rC]
 .intro p hp;exact((Zi ha hb).1 p hp).1
 .exact N7 (HL.of ha hb (FD oa))
 .exact N7 (HL.of hb ha (FD ob))
 .unfold TD;split
  .intro p hp;cases hp
  .rename_i h;exact N7 (HL.rad ha hb h)
def QC(c:Cv):Prop:=PC c/\c.s.ok
theorem GC.qc{c:Cv}(h:GC c):QC c:=⟨h.b.c,h.ok.s⟩
theorem PW{c d:Cv}(hc:QC c)(hd:QC d):(∀p∈c.cand d,PB p)/\(c.cand d).length<=4:=by
 unfold Cv.cand;split
 .refine⟨λp hp=>?_,η⟩;simp only[jA,List.not_mem_nil,or_false]at hp;rcases hp with rfl|rfl|rfl|rfl
  .exact hc.1.p
  .exact hc.1.q
  .exact hd.1.p
  .exact hd.1.q
 .exact⟨aav hc.1.s hd.1.s hc.2 hd.2,fZ (GU _ _) ψ⟩
theorem Kw{c d:Cv}(hc:QC c)(hd:QC d):(∀p∈(c.cand d).filter (Le c d),PB p)/\((c.cand d).filter (Le c d)).length<=4:=by
 obtain⟨h1,h2⟩:=PW hc hd;exact⟨λp hp=>h1 p (yS.1 hp).1,fZ (List.length_filter_le _ _) h2⟩
theorem nG{c d:Cv}(hc:QC c)(hd:QC d):(∀p∈c.meet d,PB p)/\(c.meet d).length<=4:=by
 obtain⟨h1,h2⟩:=Kw hc hd;rw[Px];exact⟨Nh h1,fZ Nz h2⟩
theorem aeF{c d:Cv}(h:c.s.same d.s=true):c.cand d=[c.p,c.q,d.p,d.q]:=by unfold Cv.cand;rw[if_pos h]
theorem afh{c d:Cv}(h:c.s.same d.s=false):c.cand d=rC c.s d.s:=by unfold Cv.cand;rw[if_neg (by rw[h];decide)]
theorem ahP{c d:Cv}(h:c.s.same d.s=false):false=c.com d:=by unfold Cv.com;rw[h];rfl
theorem agj{c d:Cv}(h:c.s.same d.s=true):((c.splitO (c.meet d)).any λp=>d.cov p)=c.com d:=by unfold Cv.com;rw[h];rfl
theorem V8{c:Cv}{l:List Pnt}(h:l.all c.on=true):c.splitO l=c.split l:=by unfold Cv.splitO;rw[if_pos h]
theorem Yh{c:Cv}{l:List Pnt}(h:¬l.all c.on=true):c.splitO l=[]:=by unfold Cv.splitO;rw[if_neg h]
end Go.Sw
namespace Go.Proofs.YtdpkjhnfklkkjaaGreat
open Go Go.RowKit Go.Sw Go.Proofs.Tryz
set_option maxRecDepth 100000
set_option maxHeartbeats 16000000
set_option synthInstance.maxSize 4000
set_option synthInstance.maxHeartbeats 400000
instance aju(c:Cv)(l:List Pnt):DenI prog 46 [.agg (dL c),.c (.sl 20 ([[zs c.p.ax.num,zl c.p.ax.num,zs c.p.ax.den,zl c.p.ax.den,zs c.p.bx.num,zl c.p.bx.num,zs c.p.bx.den,zl c.p.bx.den,zs c.p.ay.num,zl c.p.ay.num,zs c.p.ay.den,zl c.p.ay.den,zs c.p.bb.num,zl c.p.bb.num,zs c.p.bb.den,zl c.p.bb.den,zs c.p.c.num,zl c.p.c.num,zs c.p.c.den,zl c.p.c.den],[zs c.q.ax.num,zl c.q.ax.num,zs c.q.ax.den,zl c.q.ax.den,zs c.q.bx.num,zl c.q.bx.num,zs c.q.bx.den,zl c.q.bx.den,zs c.q.ay.num,zl c.q.ay.num,zs c.q.ay.den,zl c.q.ay.den,zs c.q.bb.num,zl c.q.bb.num,zs c.q.bb.den,zl c.q.bb.den,zs c.q.c.num,zl c.q.c.num,zs c.q.c.den,zl c.q.c.den]]++(l.map λp=>aY p)))] (PC c/\(∀p∈l,PB p)/\l.length<=900) (.c (.sl 20 ((c.srt (c.p :: c.q :: l)).map λp=>aY p))):=⟨λ⟨h1,h2,h3⟩=>(afu c (c.p :: c.q :: l)).den ⟨h1,λp hp=>by
 rcases jA.1 hp with rfl|hp
 .exact h1.p
 .rcases jA.1 hp with rfl|hp
  .exact h1.q
  .exact h2 p hp,by simp only[ji];omega⟩⟩
instance Vw(c:Cv)(l:List Pnt):DenI prog 16 [.agg (dL c),.c (.sl 20 (l.map λp=>aY p))] (PC c/\(∀p∈l,yZ p/\c.onR p=true)/\l.length<=16) (.tup [.c (.sl 66 ((c.splR l).map λc=>dL c)),.int .i64 0]):=⟨λhp=>by
 obtain⟨Hc,hl,hn⟩:=hp;have hcl:(c.srt (c.p::c.q::l)).length<=l.length+2:=by have:=BA (c:=c) (c.p::c.q::l);simpa using this
 all_goals refine zK (τ:=agP) aaF dF func16 rfl ζ ζ ζ ?_
 all_goals first
  |((conv=>whnf);refine Sw.Loop.inv (α:=Nat) (λx=>[(2,.ptr 2 0),(1,.c (.sl 20 (l.map λp=>aY p))),(6,.int .i64 (x:Nat))]) (λx=>[(2,.var (dL c))]) (λx=>x<=l.length/\True) (λx=>l.length-x) 0 ?_ ?_ ?_ (λx ⟨hx,_⟩=>?_))
 all_goals(repeat'((try(conv=>whnf));first
  |refine ak ?_ ?_|(with_reducible refine aO (λ_=>?_) (λ_=>?_))|refine zad (λ_=>?_) (λ_=>?_)|refine aK ?_ ?_|refine zac ζ ?_|refine aT O0 ?_ ?_|apply zaa))
 all_goals(try apply zab)
 all_goals(try simp only[bW,dI]at *)
 all_goals(try(exfalso;first|(rename_i h _;rw[(bP (P:=λp=>yZ p/\c.onR p=true) (d:=O0) hl ω).2]at h;cases h;done)|(rename_i h;rw[(bP (P:=λp=>yZ p/\c.onR p=true) (d:=O0) hl ω).2]at h;cases h;done)))
 all_goals first
  |((conv=>whnf);refine Sw.Loop.ghost 8 54 39 66 ?_ rfl rfl rfl ψ rfl)|skip
 all_goals first
  |((conv=>whnf);refine Sw.Loop.inv (α:=Nat) (λi=>[(2,.ptr 2 0),(7,.c (.sl 20 ((c.srt (c.p::c.q::l)).map λp=>aY p))),(8,.gs 54 (c.prs ((c.srt (c.p::c.q::l)).take i)).length),(9,.int .i64 (i:Nat))]) (λi=>[(2,.var (dL c)),(54,.grow 39 66 ((c.prs ((c.srt (c.p::c.q::l)).take i)).map λc=>dL c))]) (λi=>1<=i/\(i<=(c.srt (c.p::c.q::l)).length\/i=1)) (λi=>(c.srt (c.p::c.q::l)).length-i) 1 ?_ ?_ ?_ (λi ⟨hi,hi2⟩=>?_))|skip
 all_goals(try(have hpl:(c.prs ((c.srt (c.p::c.q::l)).take i)).length<=l.length+2:=by(rw[AP];have:=List.length_take_le i (c.srt (c.p::c.q::l));have:=List.length_take_le' i (c.srt (c.p::c.q::l));omega)))
 all_goals(repeat'((try(conv=>whnf));first
  |(with_reducible refine aO (λ_=>?_) (λ_=>?_))|refine aK ?_ ?_|refine zac ζ ?_|refine aT O0 ?_ ?_|apply zaa))
 all_goals(try apply zab)
 all_goals(try simp only[bW,dI]at *)
 all_goals(try simp(disch:=omega) only[bG,jB,dI,bW,kG]at *)
 all_goals first|(show SubE _ _;repeat'(first|exact trivial|refine And.intro ?_ ?_))|(show SubB _ _;repeat'(first|exact trivial|refine And.intro ?_ ?_))|skip
 all_goals(try rfl)
 all_goals first
  |omega|exact⟨Hc,(bP hl ω).1⟩|exact⟨Au _,trivial⟩|exact⟨Hc,λp hp=>(hl p hp).1.1,ω⟩|((conv=>whnf);exact⟨x+1,⟨⟨rfl,rfl,(show some (AV.int .i64 _)=some (AV.int .i64 _)from by first|(refine congrArg (λz=>some (AV.int .i64 z)) ?_;(try dsimp only);omega)|(refine congrArg (λz=>some (AV.int .i64 z)) ?_;(try dsimp only);rw[bG ω ω];omega)),trivial⟩,⟨rfl,trivial⟩,⟨ω,trivial⟩,by show l.length-(x+1)<l.length-x;omega⟩⟩)|exact⟨jg _,.inr trivial⟩|(simp only[rQ,bW,ji,mg];omega)|(rw[abO (jg 1)];rfl)|(have he:=MJ (c:=c) (l:=(c.srt (c.p::c.q::l))) (i:=i) ω ω;((conv=>whnf);exact⟨i+1,⟨⟨rfl,rfl,(by refine congrArg (λn=>some (AV.gs 54 n)) ?_;rw[he];simp only[rQ,bW,ji,mg]),(show some (AV.int .i64 _)=some (AV.int .i64 _)from by first|exact zaj|exact zak),trivial⟩,⟨rfl,(by show some (Bk.grow _ _ _)=some (Bk.grow _ _ _);rw[he,UZ];rfl),trivial⟩,⟨ω,.inl ω⟩,by show(c.srt (c.p::c.q::l)).length-(i+1)<(c.srt (c.p::c.q::l)).length-i;omega⟩⟩))|(rw[show(c.srt (c.p::c.q::l)).take i=(c.srt (c.p::c.q::l))from MV ω];rfl)⟩
end Go.Proofs.YtdpkjhnfklkkjaaGreat
namespace Go.Sw
def Cv.rvR(c d:Cv):Bool:=(c.s.arc&&d.s.arc&&(c.s.cw != d.s.cw)) ||(!c.s.arc&&(kH c.p c.q != kH d.p d.q))
def Cv.dR(c d:Cv):Cv:=if c.rvR d=true then d.rev else d
def Cv.nxR(c d:Cv)(p q:Pnt):Bool:=decide ((c.dR d).od p q<0)
def Cv.comR(c d:Cv):Bool:=c.s.same d.s&&nbA (c.nxR d) (c.meetR d)
theorem QL{c d:Cv}(h:PC d):PC (c.dR d):=by
 unfold Cv.dR;split
 .exact h.rev
 .exact h
theorem abd{c d:Cv}(h:c.rvR d=true):d.rev=c.dR d:=by unfold Cv.dR;rw[if_pos h]
theorem Uy{c d:Cv}(h:c.rvR d=false):d=c.dR d:=by unfold Cv.dR;rw[if_neg (by rw[h];decide)]
theorem ZL{c d:Cv}(h:c.s.same d.s=true):[c.p,c.q,d.p,d.q]=c.candR d:=by unfold Cv.candR;rw[if_pos h]
theorem ZI{c d:Cv}(h:c.s.same d.s=false):Aq c.s d.s=c.candR d:=by unfold Cv.candR;rw[if_neg (by rw[h];decide)]
def Cv.bothR(c d:Cv)(p:Pnt):Bool:=c.onR p&&d.onR p
theorem NW{b:Bool}(h:(!b)=true):b=false:=by cases b<;>simp_all
theorem ag9{b:Bool}(h:(!b)=false):b=true:=by cases b<;>simp_all
theorem aik{c d:Cv}{p:Pnt}(h:c.onR p=true)(g:d.onR p=true):c.bothR d p=true:=by unfold Cv.bothR;rw[h,g];rfl
theorem aib{c d:Cv}{p:Pnt}(h:c.onR p=false):¬c.bothR d p=true:=by unfold Cv.bothR;rw[h,Bool.false_and];decide
theorem ag7{c d:Cv}{p:Pnt}(g:d.onR p=false):¬c.bothR d p=true:=by unfold Cv.bothR;rw[g,Bool.and_false];decide
theorem alE{s a b:Bool}(h:(s&&a)=true):true=(s&&(a||b)):=by cases s<;>cases a<;>simp_all
theorem amc{s a b:Bool}(h:(s&&a)=false)(hs:s=true):b=(s&&(a||b)):=by cases s<;>cases a<;>simp_all
theorem ag1{c d:Cv}(h:c.s.arc=true)(g:d.s.arc=true)(k:(c.s.cw != d.s.cw)=true):c.rvR d=true:=by unfold Cv.rvR;rw[h,g,k];rfl
theorem ah3{c d:Cv}(h:c.s.arc=true)(g:d.s.arc=true)(k:(c.s.cw != d.s.cw)=false):c.rvR d=false:=by unfold Cv.rvR;rw[h,g,k];rfl
theorem ahJ{c d:Cv}(h:c.s.arc=true)(g:d.s.arc=false):c.rvR d=false:=by unfold Cv.rvR;rw[h,g];rfl
theorem aiq{c d:Cv}(h:c.s.arc=false)(k:¬kH c.p c.q=kH d.p d.q):c.rvR d=true:=by unfold Cv.rvR;rw[h];simp[k]
theorem agF{c d:Cv}(h:c.s.arc=false)(k:kH c.p c.q=kH d.p d.q):c.rvR d=false:=by unfold Cv.rvR;rw[h];simp[k]
def TW(c:Cv)(B:List Cv)(n:Nat):Cv:=(c.splR (B.flatMap λd=>c.meetR d)).getD (n%(c.splR (B.flatMap λd=>c.meetR d)).length) ⟨.ln 0 0 0,O0,O0⟩
theorem acw{c:Cv}(hc:GC c){B:List Cv}(hB:∀d∈B,GC d):∀p∈B.flatMap (λd=>c.meetR d),yZ p/\c.onR p=true:=by
 intro p hp;obtain⟨d,hd,h⟩:=List.mem_flatMap.1 hp;exact(nY hc (hB d hd)).1 p h
theorem aaG{c:Cv}(hc:GC c){B:List Cv}(hB:∀d∈B,GC d)(n:Nat):GC (TW c B n):=by
 obtain⟨h1,h2,_⟩:=Bf hc (acw hc hB);exact bP h1 (qx _ h2)
theorem aaB(k:Nat)(A B C D E F:Rat):(ED k A B C D E F).length<=2:=by
 unfold ED WB;split<;>split<;>(try split)<;>simp
def Vd(c:Cv)(l:List Pnt)(n:Nat):Cv:=(c.splR l).getD (n%(c.splR l).length) ⟨.ln 0 0 0,O0,O0⟩
theorem ahb(c b:Cv)(n:Nat):Vd c (c.meetR b) n=TW c [b] n:=by
 unfold TW;rw[Jy,List.flatMap_nil,EG];rfl
theorem aiV(c b b2:Cv)(n:Nat):Vd c (c.meetR b++c.meetR b2) n=TW c [b,b2] n:=by
 unfold TW;rw[Jy,Jy,List.flatMap_nil,EG];rfl
theorem tmN(n m:Nat):((n:Nat):Int).tmod ((m:Nat):Int)=((n%m:Nat):Int):=by rw[Int.tmod_eq_emod_of_nonneg ω];rfl
open Go Go.RowKit
open Go.WideElems (rd rg pl)
section
variable {P:Program} {kT eT:TypeId} {g0:Nat} {ks:List Nat} {w:World}
end
section
variable {P:Program} {kT eT:TypeId} {g0:Nat} {ks:List Nat} [Kp] {N:Nat} {w0:World} {X0:List Nat} {e:Env} {b:aZ} {a:Act} {w:World} {i:Nat}
end
section
variable {P:Program} {ops:Array Oper} {Q:Exit->Act->World->Prop} {a:Act} {w w':World}
end
section
variable {P:Program} {kT eT:TypeId} {g0:Nat} {ks:List Nat} {K:Kp} {N:Nat} {w0:World} {X0:List Nat} {e:Env} {b:aZ} {a:Act} {w:World} {i:Nat}
end
end Go.Sw
namespace Go.Sw
open Go Go.RowKit
section
variable {P:Program} [Wld P] {τ:Tab}
section
variable [K:Kp] [G:Gr] {N:Nat} {w0:World} {X0:List Nat} {S:List Bx} {M:MM} {e:Env} {b:aZ} {a:Act} {w:World}
theorem Sta.belowG(h:Sta N w0 X0 S M a w e b){w':World}(hB:Below w.heap.size w w'):Sta N w0 X0 S M a w' e b:=by
 have hx:=Ext.call (bl S++X0) hB
 exact⟨h.ms.call hB,h.x0,h.sz,⟨h.df.1,h.df.2.ext hx⟩,λt v hv=>(h.env t v hv).ext hx λi _ m hm=>⟨m,hm,Comp.refl m⟩,λi x hx'=>by
  obtain⟨m,h1,h2⟩:=h.box i x hx'
  exact⟨m,h1,h2.ext0 hx⟩⟩
theorem Sta.moveG(h:Sta N w0 X0 S M a w e b){a':Act}(hsz:a'.tmps.size=N)(hd:a'.defers=[])(hk:∀t u,(t,u)∈Kp.l->a'.tmps.getD t undef=u)(he:∀t v,ld t e=some v->a'.tmps.getD t undef=a.tmps.getD t undef):Sta N w0 X0 S M a' w e b :=
 ⟨h.ms,h.x0,hsz,⟨⟨hd,hk⟩,h.df.2⟩,λt v hv=>by rw[he t v hv];exact h.env t v hv,h.box⟩
theorem Sta.addG(h:Sta N w0 X0 S M a w e b){t:Nat}{v:AV}(hv:RepV w (bl S++X0) M (a.tmps.getD t undef) v):Sta N w0 X0 S M a w ((t,v)::e) b:=by
 refine⟨h.ms,h.x0,h.sz,h.df,λs x hx=>?_,h.box⟩
 by_cases hs:t=s
 .subst hs;rw[dn]at hx;cases hx;exact hv
 .rw[dD _ _ hs]at hx;exact h.env s x hx
theorem Sta.keepG(K2:List (Nat×Value))(h : @Sta K G N w0 X0 S M a w e b)(hK:∀t u,(t,u)∈K2->a.tmps.getD t undef=u):@Sta ⟨K2,K.h⟩ G N w0 X0 S M a w e b :=
 @Sta.mk ⟨K2,K.h⟩ G N w0 X0 S M a w e b h.ms h.x0 h.sz ⟨⟨h.df.1.1,λt u ht=>hK t u ht⟩,h.df.2⟩ h.env h.box
theorem GL[WOk P w0]{O l2:List Oper}{Q:Exit->Act->World->Prop}{k:Env->aZ->Prop}(hτ:dQ P τ=true)(hQ:∀e b a w,k e b->Conc N w0 X0 e b a w->wpList P O.toArray Q l2 a w):∀{l:List Oper} {e:Env} {b:aZ} {a:Act} {w:World},pU N l=true->wo (Den P) τ O l e b k->Conc N w0 X0 e b a w->wpList P O.toArray Q (l++l2) a w
 |[],e,b,a,w,_,hk,hc=>hQ e b a w hk hc
 |o::r,e,b,a,w,hd,hk,hc=>by
  simp only[pU,List.all_cons,gX]at hd;simp only[wo,yA,oI]at hk
  have hdo:∀t,o.dst=some t->DL N t:=by
   intro t ht;have:=hd.1;rw[ht]at this;simpa[DL,I7]using this
  have:=BO (k:=λe b=>wo (Den P) τ O r e b k) (K:=wpList P O.toArray Q (r++l2)) (Q:=Q) hτ hc hdo hk (λe b a w hk hc=>GL hτ hQ (l:=r) hd.2 hk hc);rw[List.cons_append];unfold wpList;cases hw:Region.wanted o (yielded O.toArray a.tmps)with
  |true=>simp only[if_true];exact .inl (this.1 hw)
  |false=>simp only[eF,if_false];exact this.2 hw
end
theorem WO{P:Program}[Wld P]{K:Kp}{G:Gr}{N:Nat}{w0:World}{X0:List Nat}{e e':Env}{b b':aZ}{a:Act}{w:World}(h : @Conc K G N w0 X0 e' b' a w)(he:SubE e e')(hb:SubB b b'):@Conc K G N w0 X0 e b a w:=h.sub he hb
theorem ajL{b:Bool}(h:(!b)=false):b=true:=by cases b<;>simp_all
theorem akQ{b:Bool}(h:(!b)=true):¬b=true:=by cases b<;>simp_all
theorem ldk:∀{e:Env} {t:Nat} {v:AV},ld t e=some v->t∈e.map (·.1)
 |[],t,v,h=>by simp[ld]at h
 |(s,x)::r,t,v,h=>by
  by_cases hs:s=t
  .subst hs;simp
  .rw[dD _ _ hs]at h;exact vX _ (ldk h)
theorem aae{P:Program}{ops:Array Oper}{Q:Exit->Act->World->Prop}{l:List Oper}{a:Act}{w:World}(h:wpList P ops Q (l++[]) a w):wpList P ops Q l a w:=by rwa [EG]at h
theorem NP(ks:List (Nat×Value)){N:Nat}{w:World}{X:List Nat}{e:Env}{a:Act}(hsz:a.tmps.size=N)(hd:a.defers=[])(hX:∀m∈X,m<w.heap.size)(hK:∀t u,(t,u)∈ks->a.tmps.getD t undef=u)(he:∀t v,ld t e=some v->RepD w X (a.tmps.getD t undef) v):@Conc ⟨ks,[]⟩ Wi N w X e [] a w:=by
 letI K:Kp:=⟨ks,[]⟩
 exact⟨[],λ_=>none,⟨StG.refl w,Ghs.none_ _ _,λ_ _ h=>(by cases h),λ_ _ _ _ _ h=>(by cases h)⟩,λm hm=>⟨hX m hm,QF m⟩,hsz,⟨⟨hd,hK⟩,λ_ _ h=>nomatch h⟩,λt v hv => .d ((he t v hv).ext (Ext.drop λx hx=>by simpa[bl]using hx)),λi x h=>(by simp[ld]at h)⟩
theorem Ou[K:Kp]{N:Nat}{w:World}{X:List Nat}[WOk P w]{e1:Env}{a:Act}{c:Code}{QA:Ex->Env->aZ->Prop}{Q:Exit->Act->World->Prop}(hτ:dQ P τ=true)(hm:P.follows .mixedOrders=true)(ht:fV N c=true)(hk:nH (Den P) τ c QA e1 [])(hc:Conc N w X e1 [] a w)
 (hQ:∀x e' b' a' w',QA x e' b'->Conc N w X e' b' a' w'->a'.tmps.size=N->a'.defers=[]->Below w.heap.size w w'->(∀t u,(t,u)∈K.l->a'.tmps.getD t undef=u)->Q x.x a' w'):c.wp P Q a w :=
 iL hτ hm c ht hk hc λx e' b' a' w' hq hc'=>hQ x e' b' a' w' hq hc' hc'.sz.1 hc'.sz.2.1 hc'.sz.2.2 λt u h=>hc'.kp h
theorem BM(hτ:dQ P τ=true)(hm:P.follows .mixedOrders=true){K:Kp}{G:Gr}{N:Nat}{w0:World}{X0:List Nat}{S:List Bx}{M:MM}{a:Act}{w:World}{e:Env}{b:aZ}(hst : @Sta K G N w0 X0 S M a w e b){e1:Env}(ks:List (Nat×Value))(hks:∀t u,(t,u)∈ks->a.tmps.getD t undef=u)
 (hkl:∀t u,(t,u)∈K.l->(t,u)∈ks) (hke:∀t v,ld t e=some v->∃u,(t,u)∈ks) {X1:List Nat} (hX1:∀m∈X1,m<w.heap.size) (he1:∀t v,ld t e1=some v->RepD w X1 (a.tmps.getD t undef) v) (hwo : @WOk Wi P _ w) (c:Code) {QA:Ex->Env->aZ->Prop} {Q:Exit->Act->World->Prop} (ht : @fV ⟨ks,[]⟩ N c=true) (hk:nH (Den P) τ c QA e1 [])
 (hQ:∀x e' b' a' w',QA x e' b'->@Sta K G N w0 X0 S M a' w' e b->@Conc ⟨ks,[]⟩ Wi N w X1 e' b' a' w'->Q x.x a' w'):c.wp P Q a w:=by
 have hc:=NP ks hst.sz hst.df.1.1 hX1 hks he1;refine @Ou P _ τ ⟨ks,[]⟩ N w X1 hwo e1 a c QA Q hτ hm ht hk hc (λx e' b' a' w' hq hc' h1 h2 h3 hk'=>hQ x e' b' a' w' hq ?_ hc');refine(hst.belowG h3).moveG h1 h2 (λt u h=>hk' t u (hkl t u h)) (λt v hv=>?_);obtain⟨u,hu⟩:=hke t v hv;rw[hk' t u hu,hks t u hu]
end
theorem SL{w:World}{X X':List Nat}{g cap k s n:Nat}{T:TypeId}{uss:List (List Value)}{rest:List Value}{es:List (List Cell)}(hS:RepS w X s uss es)(hz:∀e∈es,e.length=s)(hn:n=es.length)(hk:k<=n)(hcap:n<=cap)(hm:cap<=9223372036854775807)
 (hsub:∀x∈X',x∈X) (hg:w.heap[g]?=some (.cells (uss.flatten++rest).toArray T (0,0))) (hx:g ∉ X'):RepD w X' (.slice (some ⟨g,k*s,none⟩) (n-k) (cap-k)) (.c (.sl s (es.drop k))):=by
 have hS2:=hS.ext (Ext.drop hsub)
 have hcl:Cl w X' (some ⟨g,k*s,none⟩) ((uss.drop k).flatten):=by
  have h1:=Cl.of_block hg hx uss.flatten.length;rw[Yf,List.take_left' rfl]at h1;have h2:=h1.drop (k*s)
  have h3:(uss.flatten).drop (k*s)=(uss.drop k).flatten:=by
   have hl:(uss.take k).flatten.length=k*s:=by
    have:=fC (uss:=uss.take k) (s:=s) λu hu=>hS2.sz u (qbL hu)
    rw[this,xB,hS2.len,Nat.min_eq_left ω]
   conv=>lhs;rw[<-RP k uss,List.flatten_append]
   rw[List.drop_left' hl]
  rw[h3]at h2
  have h4:((some ⟨g,0,none⟩:Option Addr).map (·.add (k*s)))=some ⟨g,k*s,none⟩:=by
   simp only[vI,Addr.add];split<;>simp_all
  rwa [h4]at h2
 refine .c (.sl _ (n-k) (cap-k) s (uss.drop k) (es.drop k) (by rw[List.length_drop];omega) (by simp[hS2.len]) hcl ω ω (λj us e h1 h2=>⟨hS2.sz us (List.mem_of_mem_drop (Gt h1)),hz e (List.mem_of_mem_drop (Gt h2))⟩) (λj us e h1 h2=>?_));rw[Pj]at h1 h2;exact(hS2.get (k+j) us e h1 h2).get
theorem XP{P:Program}[Wld P]{f:FuncId}{k:Nat}{xs:List AV}{r:AV}(h:Den P f (.c (.sl k [])::xs) r):Den P f (.c (.sl 0 [])::xs) r:=by
 have h':=h.old rfl;refine Den.of ⟨h'.1,λw X vs ho hX hl hR=>h'.2 w X vs ho hX hl λi u v hu hv=>?_⟩ rfl
 match i,hv with
 |0,hv =>
  cases hv;have:=hR 0 u _ hu rfl;cases this with
  |c h =>
   obtain⟨A,cap,uss,rfl,h1,h2,h3,h4⟩:=RepS.of_sl h;exact .c (.sl A 0 cap k [] [] rfl rfl (Cl.nil _ _ _) h1 h2 (λi us e h=>by simp at h) (λi us e h=>by simp at h))
 |i+1,hv=>exact hR (i+1) u v hu hv
theorem YS{P:Program}[Wld P]{f:FuncId}{k:Nat}{xs:List AV}{r:AV}(h:Den P f xs (.tup [.c (.sl 0 []),r]))(hr:BJ (.tup [.c (.sl 0 []),r])=true)(hn:mG xs=true):Den P f xs (.tup [.c (.sl k []),r]):=by
 have h':=h.old hn;refine Den.of ⟨h'.1,λw X vs ho hX hl hR=>Calls.mono (h'.2 w X vs ho hX hl hR) λe w' hq=>?_⟩ hn;obtain⟨u,rfl,hu,hb⟩:=hq;refine⟨u,rfl,RepR.f ?_,hb⟩;have:=hu.r hr;cases this with
 |d hd=>cases hd
 |tup hl2 h2 =>
  refine .tup (by simpa using hl2) λi x v hx hv=>?_
  match i,hv with
  |0,hv =>
   cases hv;have:=h2 0 x _ hx rfl;cases this with
   |c h =>
    obtain⟨A,cap,uss,rfl,h1,h2,h3,h4⟩:=RepS.of_sl h;exact .c (.sl A 0 cap k [] [] rfl rfl (Cl.nil _ _ _) h1 h2 (λi us e h=>by simp at h) (λi us e h=>by simp at h))
  |i+1,hv=>exact h2 (i+1) x v hx hv
theorem aiX{P:Program}[Wld P]{f:FuncId}{k:Nat}{y:List Cell}{xs:List AV}{r:AV}(h:Den P f (.agg y :: .c (.sl k [])::xs) r):Den P f (.agg y :: .c (.v (.slice none 0 0))::xs) r:=by
 have h':=h.old rfl;refine Den.of ⟨h'.1,λw X vs ho hX hl hR=>h'.2 w X vs ho hX hl λi u v hu hv=>?_⟩ rfl
 match i,hv with
 |0,hv=>exact hR 0 u v hu hv
 |1,hv =>
  cases hv;have:=hR 1 u _ hu rfl;cases this with
  |c h =>
   cases h;exact .c (RepC.nil w X k)
 |i+2,hv=>exact hR (i+2) u v hu hv
theorem Xz{P:Program}[Wld P]{f:FuncId}{k:Nat}{y:List Cell}{xs:List AV}{r:AV}(h:Den P f (.agg y :: .c (.sl k [])::xs) r):Den P f (.agg y :: .c (.sl 0 [])::xs) r:=by
 have h':=h.old rfl;refine Den.of ⟨h'.1,λw X vs ho hX hl hR=>h'.2 w X vs ho hX hl λi u v hu hv=>?_⟩ rfl
 match i,hv with
 |0,hv=>exact hR 0 u v hu hv
 |1,hv =>
  cases hv;have:=hR 1 u _ hu rfl;cases this with
  |c h =>
   obtain⟨A,cap,uss,rfl,h1,h2,h3,h4⟩:=RepS.of_sl h;exact .c (.sl A 0 cap k [] [] rfl rfl (Cl.nil _ _ _) h1 h2 (λi us e h=>by simp at h) (λi us e h=>by simp at h))
 |i+2,hv=>exact hR (i+2) u v hu hv
end Go.Sw
namespace Go.Proofs.YtdpkjhnfklkkjaaGreat
open Go Go.RowKit Go.Sw Go.Proofs.Tryz
set_option maxRecDepth 100000
set_option maxHeartbeats 16000000
set_option synthInstance.maxSize 4000
set_option synthInstance.maxHeartbeats 400000
instance(priority:=3000) ajX(c d:Cv):DenI prog 44 [.agg (dL c),.agg (dL d)] (PC c/\PC d/\c.s.ok/\d.s.ok) (.tup [.c (.sl 20 ((Aq c.s d.s).map λp=>aY p)),.int .i64 (erT c.s d.s)]):=⟨λh=>by
 have h2:=(aeD c d).den h;cases hL:Aq c.s d.s with
 |nil=>rw[hL]at h2;exact YS h2 rfl rfl
 |cons p r=>rw[hL]at h2;exact h2⟩
instance VD(A B C:Rat)(a b:Pnt):DenI prog 48 [.agg (xJ A B C a b)] (PC (⟨.ln A B C,a,b⟩:Cv)) (.agg (xJ A B C b a)):=⟨λhp=>by
 have Hc:=hp;have ha:=Hc.p;have hb:=Hc.q;have:RzB a.ax 5000:=⟨ha.ax⟩
 have:RzB a.bx 250:=⟨ha.bx⟩
 have:RzB a.ay 5000:=⟨ha.ay⟩
 have:RzB a.bb 250:=⟨ha.bb⟩
 have:RzB a.c 5000:=⟨ha.c⟩
 have:RzB b.ax 5000:=⟨hb.ax⟩
 have:RzB b.bx 250:=⟨hb.bx⟩
 have:RzB b.ay 5000:=⟨hb.ay⟩
 have:RzB b.bb 250:=⟨hb.bb⟩
 have:RzB b.c 5000:=⟨hb.c⟩
 have:RzB A 40:=⟨Hc.ln.1⟩
 have:RzB B 40:=⟨Hc.ln.2.1⟩
 have:RzB C 100:=⟨Hc.ln.2.2⟩
 all_goals refine aS func48 rfl ?_
 all_goals(repeat'((try(conv=>whnf));first
  |(with_reducible refine aI ?_)|apply zaa))
 all_goals(try simp only[bn]at *)
 all_goals first
  |rfl⟩
instance Yi(X Y Q:Rat)(a b:Pnt):DenI prog 48 [.agg (qM X Y Q true a b)] (PC (⟨.ar X Y Q true,a,b⟩:Cv)) (.agg (qM X Y Q false b a)):=⟨λhp=>by
 have Hc:=hp;have ha:=Hc.p;have hb:=Hc.q;have:RzB a.ax 5000:=⟨ha.ax⟩
 have:RzB a.bx 250:=⟨ha.bx⟩
 have:RzB a.ay 5000:=⟨ha.ay⟩
 have:RzB a.bb 250:=⟨ha.bb⟩
 have:RzB a.c 5000:=⟨ha.c⟩
 have:RzB b.ax 5000:=⟨hb.ax⟩
 have:RzB b.bx 250:=⟨hb.bx⟩
 have:RzB b.ay 5000:=⟨hb.ay⟩
 have:RzB b.bb 250:=⟨hb.bb⟩
 have:RzB b.c 5000:=⟨hb.c⟩
 have:RzB X 100:=⟨Hc.ar.1⟩
 have:RzB Y 100:=⟨Hc.ar.2.1⟩
 have:RzB Q 400:=⟨Hc.ar.2.2⟩
 all_goals refine aS func48 rfl ?_
 all_goals(repeat'((try(conv=>whnf));first
  |(with_reducible refine aN ?_)|apply zaa))
 all_goals(try simp only[bn]at *)
 all_goals first
  |rfl⟩
instance VH(X Y Q:Rat)(a b:Pnt):DenI prog 48 [.agg (qM X Y Q false a b)] (PC (⟨.ar X Y Q false,a,b⟩:Cv)) (.agg (qM X Y Q true b a)):=⟨λhp=>by
 have Hc:=hp;have ha:=Hc.p;have hb:=Hc.q;have:RzB a.ax 5000:=⟨ha.ax⟩
 have:RzB a.bx 250:=⟨ha.bx⟩
 have:RzB a.ay 5000:=⟨ha.ay⟩
 have:RzB a.bb 250:=⟨ha.bb⟩
 have:RzB a.c 5000:=⟨ha.c⟩
 have:RzB b.ax 5000:=⟨hb.ax⟩
 have:RzB b.bx 250:=⟨hb.bx⟩
 have:RzB b.ay 5000:=⟨hb.ay⟩
 have:RzB b.bb 250:=⟨hb.bb⟩
 have:RzB b.c 5000:=⟨hb.c⟩
 have:RzB X 100:=⟨Hc.ar.1⟩
 have:RzB Y 100:=⟨Hc.ar.2.1⟩
 have:RzB Q 400:=⟨Hc.ar.2.2⟩
 all_goals refine aS func48 rfl ?_
 all_goals(repeat'((try(conv=>whnf));first
  |(with_reducible refine aN ?_)|apply zaa))
 all_goals(try simp only[bn]at *)
 all_goals first
  |rfl⟩
instance akY(c:Cv):DenI prog 48 [.agg (dL c)] (PC c) (.agg (dL c.rev)):=⟨λhp=>by
 rcases c with⟨⟨_,_,_⟩|⟨_,_,_,_|_⟩,_,_⟩
 all_goals first
 |exact(VD ..).den hp|exact(Yi ..).den hp|exact(VH ..).den hp⟩
theorem ahR(c d:Cv)(gc:GC c)(gd:GC d):nH (Den prog) tab (vY 4 (Tryz.f15.body.getD .skip)) (λz e9 b9=>z=.normal/\SubE [(2,.ptr 2 0),(3,.ptr 3 0),(6,.bool (c.s.same d.s)),(7,.c (.sl 20 ((c.candR d).map λp=>aY p)))] e9/\SubB [(2,.var (dL c)),(3,.var (dL d))] b9) (uM 0 [.agg (dL c),.agg (dL d)]) []:=by
 have Hc:=gc.b.c;have Hd:=gd.b.c;have hca:=uO gc gd;have hm:=nY gc gd;have He:PC (c.dR d):=QL Hd
 all_goals(repeat'((try(conv=>whnf));first
  |refine ak ?_ ?_|refine zad (λ_=>?_) (λ_=>?_)))
 all_goals(try apply zab)
 all_goals(try simp only[bW,dI]at *)
 all_goals first
  |exact⟨Hc,Hd⟩|exact⟨Hc,Hd,gc.ok.s,gd.ok.s⟩|exact⟨rfl,⟨rfl,rfl,rfl,congrArg (λL=>some (AV.c (.sl 20 (List.map (λp=>aY p) L)))) (ZI (NW (by with_reducible assumption))),trivial⟩,⟨rfl,rfl,trivial⟩⟩|exact⟨rfl,⟨rfl,rfl,rfl,congrArg (λL=>some (AV.c (.sl 20 (List.map (λp=>aY p) L)))) (ZL (ag9 (by with_reducible assumption))),trivial⟩,⟨rfl,rfl,trivial⟩⟩
theorem aiH(c d:Cv)(gc:GC c)(gd:GC d):nH (Den prog) tab (vY 4 (mJ 4 (Tryz.f15.body.getD .skip))) (λz e9 b9=>z=.normal/\SubE [(2,.ptr 2 0),(3,.ptr 3 0),(6,.bool (c.s.same d.s)),(8,.c (.sl 20 ((c.meetR d).map λp=>aY p))),(10,.bool false)] e9/\SubB [(2,.var (dL c)),(3,.var (dL d))] b9) ([(2,.ptr 2 0),(3,.ptr 3 0),(6,.bool (c.s.same d.s)),(7,.c (.sl 20 ((c.candR d).map λp=>aY p)))]) [(2,.var (dL c)),(3,.var (dL d))]:=by
 have Hc:=gc.b.c;have Hd:=gd.b.c;have hca:=uO gc gd;have hm:=nY gc gd;have He:PC (c.dR d):=QL Hd
 all_goals first
  |((conv=>whnf);refine Sw.Loop.ghost 8 58 37 20 ?_ rfl rfl rfl ψ rfl)
 all_goals first
  |((conv=>whnf);refine Sw.Loop.inv (α:=Nat) (λx=>[(2,.ptr 2 0),(3,.ptr 3 0),(6,.bool (c.s.same d.s)),(7,.c (.sl 20 ((c.candR d).map λp=>aY p))),(8,.gs 58 (((c.candR d).take x).filter (c.bothR d)).length),(9,.int .i64 (x:Nat))]) (λx=>[(2,.var (dL c)),(3,.var (dL d)),(58,.grow 37 20 ((((c.candR d).take x).filter (c.bothR d)).map λp=>aY p))]) (λx=>x<=(c.candR d).length/\True) (λx=>(c.candR d).length-x) 0 ?_ ?_ ?_ (λx ⟨hx,_⟩=>?_))
 all_goals(try(have hfl:(((c.candR d).take x).filter (c.bothR d)).length<=4:=fZ (List.length_filter_le _ _) (fZ (List.length_take_le' _ _) hca.2);have hca2:=hca.2))
 all_goals(repeat'((try(conv=>whnf));first
  |refine ak ?_ ?_|(with_reducible first|refine aN ?_|refine aI ?_|refine aO (λ_=>?_) (λ_=>?_))|refine zad (λ_=>?_) (λ_=>?_)|refine aK ?_ ?_|refine zac ζ ?_|refine aT O0 ?_ ?_))
 all_goals(try apply zab)
 all_goals(try simp only[bW,dI]at *)
 all_goals first|(show SubE _ _;repeat'(first|exact trivial|refine And.intro ?_ ?_))|(show SubB _ _;repeat'(first|exact trivial|refine And.intro ?_ ?_))|skip
 all_goals(try rfl)
 all_goals first
  |omega|exact⟨Hc,(bP hca.1 ω)⟩|exact⟨Hd,(bP hca.1 ω)⟩|exact⟨Au _,trivial⟩|(simp only[rQ,bW,ji,mg];omega)|exact⟨Hc,λp hp=>(hca.1 p (qbL (yS.1 hp).1)).1,ω⟩|(have he:=(pz (f:=c.bothR d) (l:=c.candR d) (d:=O0) (j:=x) ω).trans (if_pos (aik (by with_reducible assumption) (by with_reducible assumption)));((conv=>whnf);exact⟨x+1,⟨⟨rfl,rfl,rfl,rfl,(by refine congrArg (λn=>some (AV.gs 58 n)) ?_;rw[he];simp only[rQ,bW,ji,mg]),(show some (AV.int .i64 _)=some (AV.int .i64 _)from by first|exact zaj|exact zak),trivial⟩,⟨rfl,rfl,(by show some (Bk.grow _ _ _)=some (Bk.grow _ _ _);rw[he,UZ];rfl),trivial⟩,⟨ω,trivial⟩,by show(c.candR d).length-(x+1)<(c.candR d).length-x;omega⟩⟩))|(have he:=(pz (f:=c.bothR d) (l:=c.candR d) (d:=O0) (j:=x) ω).trans (if_neg (aib (by with_reducible assumption)));((conv=>whnf);exact⟨x+1,⟨⟨rfl,rfl,rfl,rfl,(by show some (AV.gs 58 _)=some (AV.gs 58 _);rw[he]),(show some (AV.int .i64 _)=some (AV.int .i64 _)from by first|exact zaj|exact zak),trivial⟩,⟨rfl,rfl,(by show some (Bk.grow _ _ _)=some (Bk.grow _ _ _);rw[he]),trivial⟩,⟨ω,trivial⟩,by show(c.candR d).length-(x+1)<(c.candR d).length-x;omega⟩⟩))|(have he:=(pz (f:=c.bothR d) (l:=c.candR d) (d:=O0) (j:=x) ω).trans (if_neg (ag7 (by with_reducible assumption)));((conv=>whnf);exact⟨x+1,⟨⟨rfl,rfl,rfl,rfl,(by show some (AV.gs 58 _)=some (AV.gs 58 _);rw[he]),(show some (AV.int .i64 _)=some (AV.int .i64 _)from by first|exact zaj|exact zak),trivial⟩,⟨rfl,rfl,(by show some (Bk.grow _ _ _)=some (Bk.grow _ _ _);rw[he]),trivial⟩,⟨ω,trivial⟩,by show(c.candR d).length-(x+1)<(c.candR d).length-x;omega⟩⟩))|((conv=>whnf);exact⟨rfl,⟨rfl,rfl,rfl,congrArg (λ(L:List Pnt)=>some (AV.c (.sl 20 (List.map (λp=>aY p) (c.srt (List.filter (c.bothR d) L)))))) (show(c.candR d).take x=c.candR d from MV ω),rfl,trivial⟩,⟨rfl,rfl,trivial⟩⟩)
theorem ahW(c d:Cv)(gc:GC c)(gd:GC d):nH (Den prog) tab (vY 1 (mJ 8 (Tryz.f15.body.getD .skip))) (λz e9 b9=>z=.normal/\SubE [(3,.ptr 3 0),(6,.bool (c.s.same d.s)),(8,.c (.sl 20 ((c.meetR d).map λp=>aY p))),(10,.bool false)] e9/\SubB [(3,.var (dL (c.dR d)))] b9) ([(2,.ptr 2 0),(3,.ptr 3 0),(6,.bool (c.s.same d.s)),(8,.c (.sl 20 ((c.meetR d).map λp=>aY p))),(10,.bool false)]) [(2,.var (dL c)),(3,.var (dL d))]:=by
 have Hc:=gc.b.c;have Hd:=gd.b.c;have hca:=uO gc gd;have hm:=nY gc gd;have He:PC (c.dR d):=QL Hd
 all_goals(repeat'((try(conv=>whnf));first
  |refine ak ?_ ?_|(with_reducible first|refine aN ?_|refine aI ?_|refine aP (λ_=>?_) (λ_=>?_))|refine zad (λ_=>?_) (λ_=>?_)|refine zac ζ ?_))
 all_goals(try apply zab)
 all_goals(try simp only[bW,dI]at *)
 all_goals(try(exfalso;have q1:c.s.arc=true:=(by with_reducible assumption);have q2:=NW (by with_reducible assumption:(!c.s.arc)=true);rw[q1]at q2;cases q2;done))
 all_goals(try(exfalso;have q1:c.s.arc=false:=(by with_reducible assumption);have q2:=ag9 (by with_reducible assumption:(!c.s.arc)=false);rw[q1]at q2;cases q2;done))
 all_goals first
  |exact⟨gc.b.p.1,gc.b.q.1⟩|exact⟨gd.b.p.1,gd.b.q.1⟩|exact Hd|exact⟨rfl,⟨rfl,rfl,rfl,rfl,trivial⟩,⟨congrArg (λx=>some (Bk.var (dL x))) (abd (ag1 (by with_reducible assumption) (by with_reducible assumption) (by with_reducible assumption))),trivial⟩⟩|exact⟨rfl,⟨rfl,rfl,rfl,rfl,trivial⟩,⟨congrArg (λx=>some (Bk.var (dL x))) (Uy (ah3 (by with_reducible assumption) (by with_reducible assumption) (by with_reducible assumption))),trivial⟩⟩|exact⟨rfl,⟨rfl,rfl,rfl,rfl,trivial⟩,⟨congrArg (λx=>some (Bk.var (dL x))) (Uy (ahJ (by with_reducible assumption) (by with_reducible assumption))),trivial⟩⟩|exact⟨rfl,⟨rfl,rfl,rfl,rfl,trivial⟩,⟨congrArg (λx=>some (Bk.var (dL x))) (abd (aiq (by with_reducible assumption) (by with_reducible assumption))),trivial⟩⟩|exact⟨rfl,⟨rfl,rfl,rfl,rfl,trivial⟩,⟨congrArg (λx=>some (Bk.var (dL x))) (Uy (agF (by with_reducible assumption) (by with_reducible assumption))),trivial⟩⟩
theorem agw(c d:Cv)(gc:GC c)(gd:GC d):nH (Den prog) tab (mJ 9 (Tryz.f15.body.getD .skip)) (Hz tab Tryz.f15 [none,none] (.tup [.c (.sl 20 ((c.meetR d).map λp=>aY p)),.bool (c.comR d)])) [(3,.ptr 3 0),(6,.bool (c.s.same d.s)),(8,.c (.sl 20 ((c.meetR d).map λp=>aY p))),(10,.bool false)] [(3,.var (dL (c.dR d)))]:=by
 have Hc:=gc.b.c;have Hd:=gd.b.c;have hca:=uO gc gd;have hm:=nY gc gd;have He:PC (c.dR d):=QL Hd
 all_goals first
  |((conv=>whnf);refine Sw.Loop.inv (α:=Nat) (λi=>[(3,.ptr 3 0),(6,.bool (c.s.same d.s)),(8,.c (.sl 20 ((c.meetR d).map λp=>aY p))),(10,.bool (c.s.same d.s&&nbA (c.nxR d) ((c.meetR d).take i))),(11,.int .i64 (i:Nat))]) (λi=>[(3,.var (dL (c.dR d)))]) (λi=>1<=i/\True) (λi=>(c.meetR d).length-i) 1 ?_ ?_ ?_ (λi ⟨hi,_⟩=>?_))
 all_goals(try(have hm2:=hm.2))
 all_goals(repeat'((try(conv=>whnf));first
  |refine ak ?_ ?_|(with_reducible first|refine aN ?_|refine aI ?_|refine aO (λ_=>?_) (λ_=>?_))|refine zad (λ_=>?_) (λ_=>?_)|refine zac ζ ?_|refine aT O0 ?_ ?_|apply zaa))
 all_goals(try apply zab)
 all_goals(try simp only[bW,dI]at *)
 all_goals(try simp(disch:=omega) only[bG,jB,dI,bW,kG]at *)
 all_goals first|(show SubE _ _;repeat'(first|exact trivial|refine And.intro ?_ ?_))|(show SubB _ _;repeat'(first|exact trivial|refine And.intro ?_ ?_))|skip
 all_goals(try rfl)
 all_goals first
  |omega|trivial|(refine congrArg (λb=>some (AV.bool b)) ?_;rw[ab1 (jg 1),Bool.and_false])|exact⟨He,(bP (P:=λp=>yZ p/\c.onR p=true) (d:=O0) hm.1 ω).1.1,(bP (P:=λp=>yZ p/\c.onR p=true) (d:=O0) hm.1 ω).1.1⟩|(have he:=Eh (f:=c.nxR d) (l:=c.meetR d) (i:=i) ω ω;((conv=>whnf);exact⟨i+1,⟨⟨rfl,rfl,rfl,(by refine congrArg (λb=>some (AV.bool b)) ?_;rw[he];exact alE ξ),(show some (AV.int .i64 _)=some (AV.int .i64 _)from by first|exact zaj|exact zak),trivial⟩,⟨rfl,trivial⟩,⟨ω,trivial⟩,by show(c.meetR d).length-(i+1)<(c.meetR d).length-i;omega⟩⟩))|(have he:=Eh (f:=c.nxR d) (l:=c.meetR d) (i:=i) ω ω;((conv=>whnf);exact⟨i+1,⟨⟨rfl,rfl,rfl,(by refine congrArg (λb=>some (AV.bool b)) ?_;rw[he];exact amc ξ ξ),(show some (AV.int .i64 _)=some (AV.int .i64 _)from by first|exact zaj|exact zak),trivial⟩,⟨rfl,trivial⟩,⟨ω,trivial⟩,by show(c.meetR d).length-(i+1)<(c.meetR d).length-i;omega⟩⟩))|(unfold Cv.comR;rw[show c.s.same d.s=false by assumption];rfl)|(unfold Cv.comR;rw[show(c.meetR d).take i=c.meetR d from MV ω];rfl)
instance anV(c d:Cv):DenI prog 15 [.agg (dL c),.agg (dL d)] (GC c/\GC d) (.tup [.c (.sl 20 ((c.meetR d).map λp=>aY p)),.bool (c.comR d)]):=⟨λ⟨gc,gd⟩=>by
 refine Den.of ⟨ζ,λw X vs ho hX hl hR=>?_⟩ rfl
 haveI:WOk prog w:=.of ho
 refine enter func15 rfl rfl (by rw[hl];rfl) λa9 hFr=>?_
 have hc:=vM (N:=121) hX hl hR hFr;refine jI (τ:=tab) dJ dF 4 _ ζ (ahR c d gc gd) hc (λe9 b9 a w hq hc2=>?_) (λx e b a w hx hq hc=>absurd hq.1 hx);replace hc2:=hc2.sub hq.2.1 hq.2.2;refine jI (τ:=tab) dJ dF 4 _ ζ (aiH c d gc gd) hc2 (λe9 b9 a w hq hc2=>?_) (λx e b a w hx hq hc=>absurd hq.1 hx);replace hc2:=hc2.sub hq.2.1 hq.2.2;refine jI (τ:=tab) dJ dF 1 _ ζ (ahW c d gc gd) hc2 (λe9 b9 a w hq hc2=>?_) (λx e b a w hx hq hc=>absurd hq.1 hx);replace hc2:=hc2.sub hq.2.1 hq.2.2
 exact iL (τ:=tab) dJ dF _ ζ (agw c d gc gd) hc2 (λx e b a w' hx hc'=>tq dJ hx hc')⟩
end Go.Proofs.YtdpkjhnfklkkjaaGreat
