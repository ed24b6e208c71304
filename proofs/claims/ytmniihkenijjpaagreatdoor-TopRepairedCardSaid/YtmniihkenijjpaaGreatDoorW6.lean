/-
  Rules of the abstract run, plain laws, and what functions answer, for the law TopRepaired.
  Conditions: none.
-/
import Derived.Test.YtmniihkenijjpaaGreatDoorW5
import Derived.OpenShut
import Derived.Lib.SmallJoins
import Derived.Test.YtmniihkenijjpaaGreatDoorRows
import Derived.Test.YtmniihkenijjpaaGreatDoorTie
import Derived.Test.YtmniihkenijjpaaGreatDoorCards
import Derived.Lay
import Derived.SevenTiedAt
import Derived.ProofKit
import Derived.Test.YtmniihkenijjpaaGreatDoorChecked
import Derived.Maps.Keyed
import Derived.Maps.StringElems
import Derived.LaidMore
import Derived.Shelf.LaysM
import Derived.Shelf.Strconv.Itoa1
import Derived.Shelf.Strconv.Itoa2
import Derived.Lib.Walk
import Derived.Lib.ItoaMem
import Derived.Lib.ItoaLen
import Derived.Lib.AppendIntMem
import Derived.WalkKit
import Derived.BigCall
import Derived.BigGuard
import Derived.Lib.Itoa
import Derived.Lib.ItoaNum
set_option linter.all false
namespace Go.Sw
open Go Go.RowKit
section
variable {P:Program} [Wld P] [Kp] {τ:Tab}
structure AnyOk (P:Program) [Wld P] (O:List Oper) (o:Oper) (e:Env) (b:Bxs) (v:AV) (f:Bxs) (lg:Lg):Prop where
 wr:lg.wr=f.map (·.1)
 al:∀i∈lg.al,i∈alO o
 ids:∀i∈aaF v,i∈lg.mn\/i∈lg.al
 obs:∀i x,(i,x)∈f->∀c∈acy x,c∈lg.mn
 go:∀(N:Nat) (w0:World) (X0:List Nat) (a:Act) (w:World) (e':Env) (b':Bxs),WOk P w0->Conc N w0 X0 e' b' a w->(∀t∈abI O o,ld t e'=ld t e)->acU lg.rd b b'->(∀t,o.dst=some t->DL N t) ->
  (∀t x,ld t e'=some x->∀i∈aaF x,i ∉ lg.al)->(∀i x,ld i b'=some x->∀c∈acy x,c ∉ lg.al)->∀(K:Act->World->Prop) (Q:Exit->Act->World->Prop),(∀a' w',Conc N w0 X0 (apE o v e') (ups f b') a' w'->K a' w')->aiH P O o a w K Q
theorem aiB{O:List Oper}{o:Oper}{t:Nat}(h:Operand.tmp t∈o.op.operands.toList):t∈abI O o:=by
 unfold abI;exact ng _ (List.mem_flatMap.2 ⟨_,h,η⟩)
theorem agu{O:List Oper}{o:Oper}{j t:Nat}{want:Bool}(h:o.guard=some (j,want))(hs:abP O j=some t):t∈abI O o:=by
 unfold abI;exact kG _ (by simp[h,hs])
theorem afU:∀{f:Bxs} {i:Nat} {x:Bk},(i,x)∈f->∀c∈acy x,c∈agP f
 |[],_,_,h,_,_=>by cases h
 |(j,y)::r,i,x,h,c,hc=>by
  rcases mQ.1 h with h|h
  .cases h;cases y<;>simp only[acy]at hc<;>first|(cases hc;done)|skip
   simp only[agP];exact ng _ hc
  .have:=afU h c hc;cases y<;>simp only[agP]<;>first|exact this|exact kG _ this
theorem ahP{O:List Oper}{o:Oper}{e:Env}{b:Bxs}{k:Env->AV->Bxs->Lg->Prop}(hτ:aaH P τ=true)(hk:adQ (Den P) τ O o e b k):∃e₀ v f lg,k e₀ v f lg/\(∀t,ld t e₀=ld t e)/\AnyOk P O o e b v f lg:=by
 have run:∀e₀,(∀t,ld t e₀=ld t e)->NB (alO o) b (aop (Den P) τ o e₀ b λv f=>k e₀ v f (ae1 o e₀ b v f))->(∀(N:Nat) (w0:World) (X0:List Nat) (a:Act) (w:World) (e':Env) (b':Bxs),Conc N w0 X0 e' b' a w->(∀t∈abI O o,ld t e'=ld t e)->Region.wanted o (yielded O.toArray a.tmps)=true) ->
  ∃e₀ v f lg,k e₀ v f lg/\(∀t,ld t e₀=ld t e)/\AnyOk P O o e b v f lg:=by
  intro e₀ he hk hw;obtain⟨hk,_⟩:=agf hk;obtain⟨v,f,h1,h2⟩:=ahZ hτ hk;refine⟨e₀,v,f,_,h1,he,rfl,λi hi=>hi,λi hi=>?_,λi x hx c hc=>kG _ (afU hx c hc), ?_⟩
  .simp only[ae1]
   by_cases hm:i∈alO o
   .exact .inr hm
   .exact .inl (ng _ (kG _ (uP.2 ⟨hi,by simpa using hm⟩)))
  .intro N w0 X0 a w e' b' hwo hc hs hB hd hno hnb K Q hK
   haveI:WOk P w0:=hwo
   have hwt:=hw N w0 X0 a w e' b' hc hs;refine⟨λ_=>?_,λh=>(by rw[hwt]at h;cases h)⟩;obtain⟨S,M,h⟩:=hc
   have hA:∀x∈o.op.operands.toList,ae e' x=ae e₀ x:=by
    intro x hx;cases x with
    |tmp t=>simp only[ae];rw[hs t (aiB hx),he]
    |const v=>rfl
    |global g=>rfl
    |func f=>rfl
   obtain⟨v',f',⟨rfl,rfl⟩,hD⟩:=h2 e' b' hwo h hA hB;exact hD.wp λu w' hp=>hK _ _ (hp.conc h hd (λt x _ hx=>hno t x hx) hnb)
 have skip:∀e₀,(∀t,ld t e₀=ld t e)->k e₀ .bad [] ⟨[],[],[],[]⟩->(∀(N:Nat) (w0:World) (X0:List Nat) (a:Act) (w:World) (e':Env) (b':Bxs),Conc N w0 X0 e' b' a w->(∀t∈abI O o,ld t e'=ld t e)->Region.wanted o (yielded O.toArray a.tmps)=false) ->
  ∃e₀ v f lg,k e₀ v f lg/\(∀t,ld t e₀=ld t e)/\AnyOk P O o e b v f lg:=by
  intro e₀ he hk hw;refine⟨e₀,_,_,_,hk,he,rfl,λi hi=>(by simp at hi),λi hi=>(by simp[aaF]at hi),λi x hx=>(by cases hx), ?_⟩;intro N w0 X0 a w e' b' hwo hc hs hB hd hno hnb K Q hK;have hwt:=hw N w0 X0 a w e' b' hc hs;refine⟨λh=>(by rw[hwt]at h;cases h),λ_=>?_⟩;obtain⟨S,M,h⟩:=hc;have hp:Post w0 X0 S M w [] .bad [] undef w:=Post.pure h.ms (.bad rfl);refine hK _ _ ⟨S,M,h.ms,h.x0, ?_, ?_,λt x hx=>?_,h.box⟩
  .cases hq:o.dst with
   |none=>exact h.sz
   |some t=>simp[Act.put,h.sz]
  .cases hq:o.dst with
   |none=>exact h.df
   |some t=>exact⟨acD h.df.1 (hd _ hq),h.df.2⟩
  .cases hq:o.dst with
   |none=>unfold apE at hx;rw[hq]at hx;exact h.env t x hx
   |some s =>
    unfold apE at hx;rw[hq]at hx
    by_cases hs:s=t
    .subst hs;rw[aap]at hx;cases hx;rw[aaE undef h.sz (hd _ hq).1];exact .bad rfl
    .rw[aat _ _ hs]at hx;rw[aau undef hs];exact h.env t x hx
 unfold adQ at hk;cases hg:o.guard with
 |none =>
  simp only[hg]at hk;exact run e (λ_=>rfl) hk (λ_ _ _ _ _ _ _ _ _=>by simp[Region.wanted,hg])
 |some jw =>
  obtain⟨j,want⟩:=jw;simp only[hg]at hk;cases hs:abP O j with
  |none=>simp[hs]at hk
  |some t =>
   simp only[hs]at hk;split at hk
   .rename_i p hp
    have hbr:(match p == want with
     |true=>NB (alO o) b (aop (Den P) τ o ((t,.bool p)::e) b λv f=>k ((t,.bool p)::e) v f (ae1 o ((t,.bool p)::e) b v f))
     |false=>k ((t,.bool p)::e) .bad [] ⟨[],[],[],[]⟩):=by
     cases p
     .exact hk.f rfl
     .exact hk.t rfl
    have hy:∀(N:Nat) (w0:World) (X0:List Nat) (a:Act) (w:World) (e':Env) (b':Bxs),Conc N w0 X0 e' b' a w->(∀t∈abI O o,ld t e'=ld t e)->yielded O.toArray a.tmps j=some p:=by
     intro N w0 X0 a w e' b' hc hsl;obtain⟨S,M,h⟩:=hc;exact adR hs ((h.env t _ ((hsl t (agu hg hs)).trans hp)).v_)
    cases hpw:p == want with
    |true =>
     simp only[hpw]at hbr;refine run _ (aeZ hp) hbr (λN w0 X0 a w e' b' hc hsl=>?_);simp only[Region.wanted,hg,hy N w0 X0 a w e' b' hc hsl];have:=eq_of_beq hpw;subst this;simp
    |false =>
     simp only[hpw]at hbr;refine skip _ (aeZ hp) hbr (λN w0 X0 a w e' b' hc hsl=>?_);simp only[Region.wanted,hg,hy N w0 X0 a w e' b' hc hsl];cases p<;>cases want<;>first|rfl|cases hpw
   .rename_i hp;refine skip e (λ_=>rfl) hk (λN w0 X0 a w e' b' hc hsl=>?_);obtain⟨S,M,h⟩:=hc
    have hu:a.tmps.getD t undef=undef:=by
     have:=h.env t _ ((hsl t (agu hg hs)).trans hp);generalize hz:a.tmps.getD t undef=z at this;cases this with
     |d hd=>cases hd
     |bad hb=>exact hb
    simp[Region.wanted,hg,aeg (a:=a) hs hu]
   .cases hk
structure TrE where
 o:Oper
 v:AV
 f:Bxs
 lg:Lg
def FF:List TrE->(Nat->Bool)->Env->Env
 |[],_,e=>e
 |x::r,ls,e=>FF r (λj=>ls (j+1)) (if ls 0 then apE x.o x.v e else e)
def GG:List TrE->(Nat->Bool)->Bxs->Bxs
 |[],_,b=>b
 |x::r,ls,b=>GG r (λj=>ls (j+1)) (if ls 0 then ups x.f b else b)
theorem ab8{o:Oper}{v:AV}{e:Env}{t:Nat}(h:o.dst≠some t):ld t (apE o v e)=ld t e:=by
 unfold apE;cases hq:o.dst with
 |none=>rfl
 |some s=>exact aat _ _ (λhs=>h (by rw[hq,hs]))
theorem ab6{o:Oper}{v:AV}{e:Env}{t:Nat}(h:o.dst=some t):ld t (apE o v e)=some v:=by
 unfold apE;simp only[h];exact aap _ _ _
theorem ac4{o:Oper}{v:AV}{e e':Env}{t:Nat}(h:ld t e=ld t e'):ld t (apE o v e)=ld t (apE o v e'):=by
 by_cases hd:o.dst=some t
 .rw[ab6 hd,ab6 hd]
 .rw[ab8 hd,ab8 hd,h]
theorem ab7{α:Type}:∀{f:List (Nat×α)} {b:List (Nat×α)} {i:Nat},i ∉ f.map (·.1)->ld i (ups f b)=ld i b
 |[],b,i,_=>rfl
 |(t,x)::r,b,i,h=>by
  simp only[dJ,mQ,not_or]at h;simp only[ups];rw[ab7 h.2,ace,if_neg h.1]
theorem ado{α:Type}:∀{f:List (Nat×α)} {b b':List (Nat×α)} {i:Nat},i∈f.map (·.1)->ld i (ups f b)=ld i (ups f b')
 |[],b,b',i,h=>by simp at h
 |(t,x)::r,b,b',i,h=>by
  simp only[ups]
  by_cases hr:i∈r.map (·.1)
  .exact ado hr
  .have:i=t:=by simp only[dJ,mQ]at h;rcases h with h|h;exact h;exact absurd h hr
   subst this;rw[ab7 hr,ab7 hr,ace,ace,if_pos rfl,if_pos rfl]
theorem acs{t:Nat}:∀{tr:List TrE} {ls ls':Nat->Bool} {e e':Env},(∀(j:Nat) x,tr[j]?=some x->x.o.dst=some t->ls j=ls' j)->ld t e=ld t e'->ld t (FF tr ls e)=ld t (FF tr ls' e')
 |[],_,_,_,_,_,h=>h
 |x::r,ls,ls',e,e',hl,h=>by
  simp only[FF];refine acs (tr:=r) (λj y hy hd=>hl (j+1) y (by simpa using hy) hd) ?_
  by_cases hd:x.o.dst=some t
  .rw[hl 0 x rfl hd];split
   .exact ac4 h
   .exact h
  .have h1:∀(c:Bool) (e:Env),ld t (if c then apE x.o x.v e else e)=ld t e:=by
    intro c e;split
    .exact ab8 hd
    .rfl
   rw[h1,h1,h]
theorem ac8{i:Nat}:∀{tr:List TrE} {ls ls':Nat->Bool} {b b':Bxs},(∀(j:Nat) x,tr[j]?=some x->i∈x.f.map (·.1)->ls j=ls' j)->ld i b=ld i b'->ld i (GG tr ls b)=ld i (GG tr ls' b')
 |[],_,_,_,_,_,h=>h
 |x::r,ls,ls',b,b',hl,h=>by
  simp only[GG];refine ac8 (tr:=r) (λj y hy hd=>hl (j+1) y (by simpa using hy) hd) ?_
  by_cases hd:i∈x.f.map (·.1)
  .rw[hl 0 x rfl hd];split
   .exact ado hd
   .exact h
  .have h1:∀(c:Bool) (b:Bxs),ld i (if c then ups x.f b else b)=ld i b:=by
    intro c b;split
    .exact ab7 hd
    .rfl
   rw[h1,h1,h]
theorem adF:∀{tr:List TrE} {e:Env},FF tr (λ_=>false) e=e
 |[],_=>rfl
 |x::r,e=>by simp only[FF,DF,if_false];exact adF
theorem adE:∀{tr:List TrE} {b:Bxs},GG tr (λ_=>false) b=b
 |[],_=>rfl
 |x::r,e=>by simp only[GG,DF,if_false];exact adE
theorem agz{t:Nat}:∀{tr:List TrE} {ls:Nat->Bool} {e:Env} {i:Nat} {x:TrE},tr[i]?=some x->x.o.dst=some t->ls i=true->(∀(j:Nat) y,i<j->tr[j]?=some y->y.o.dst=some t->ls j=false)->ld t (FF tr ls e)=some x.v
 |[],_,_,i,x,h,_,_,_=>by simp at h
 |y::r,ls,e,0,x,h,hd,hl,hn=>by
  have:y=x:=by simpa using h
  subst this;simp only[FF,hl,if_true];rw[acs (ls':=λ_=>false) (e':=apE y.o y.v e) (λj z hz hzd=>hn (j+1) z ω (by simpa using hz) hzd) rfl,adF,ab6 hd]
 |y::r,ls,e,i+1,x,h,hd,hl,hn=>by
  simp only[FF];exact agz (by simpa using h) hd hl (λj z hj hz hzd=>hn (j+1) z ω (by simpa using hz) hzd)
theorem agv{c:Nat}{b0:Bxs}:∀{tr:List TrE} {ls:Nat->Bool} {b:Bxs} {i:Nat} {x:TrE},tr[i]?=some x->c∈x.f.map (·.1)->ls i=true->(∀(j:Nat) y,i<j->tr[j]?=some y->c∈y.f.map (·.1)->ls j=false)->ld c (GG tr ls b)=ld c (ups x.f b0)
 |[],_,_,i,x,h,_,_,_=>by simp at h
 |y::r,ls,b,0,x,h,hd,hl,hn=>by
  have:y=x:=by simpa using h
  subst this;simp only[GG,hl,if_true];rw[ac8 (ls':=λ_=>false) (b':=ups y.f b) (λj z hz hzd=>hn (j+1) z ω (by simpa using hz) hzd) rfl,adE];exact ado hd
 |y::r,ls,b,i+1,x,h,hd,hl,hn=>by
  simp only[GG];exact agv (by simpa using h) hd hl (λj z hj hz hzd=>hn (j+1) z ω (by simpa using hz) hzd)
theorem aiR{tr:List TrE}{ls:Nat->Bool}{e:Env}{i:Nat}{x:TrE}(hi:tr[i]?=some x)(hn:∀(j:Nat) y t,i<j->tr[j]?=some y->x.o.dst=some t->y.o.dst=some t->ls j=false)(t:Nat):
 ld t (FF tr (λj=>Nat.beq j i||ls j) e)=ld t (apE x.o x.v (FF tr ls e)):=by
 by_cases hd:x.o.dst=some t
 .rw[ab6 hd];refine agz hi hd η (λj y hj hy hyd=>?_);rw[aaL ω,hn j y t hj hy hd hyd];rfl
 .rw[ab8 hd];refine acs (λj y hy hyd=>?_) rfl;have:j≠i:=by rintro rfl;rw[hi]at hy;cases hy;exact hd hyd
  rw[aaL this];rfl
theorem aiL{tr:List TrE}{ls:Nat->Bool}{b:Bxs}{i:Nat}{x:TrE}(hi:tr[i]?=some x)(hn:∀(j:Nat) y c,i<j->tr[j]?=some y->c∈x.f.map (·.1)->c∈y.f.map (·.1)->ls j=false)(c:Nat):
 ld c (GG tr (λj=>Nat.beq j i||ls j) b)=ld c (ups x.f (GG tr ls b)):=by
 by_cases hd:c∈x.f.map (·.1)
 .refine agv hi hd η (λj y hj hy hyd=>?_);rw[aaL ω,hn j y c hj hy hd hyd];rfl
 .rw[ab7 hd];refine ac8 (λj y hy hyd=>?_) rfl;have:j≠i:=by rintro rfl;rw[hi]at hy;cases hy;exact hd hyd
  rw[aaL this];rfl
theorem agB{t:Nat}{y:AV}:∀{tr:List TrE} {ls:Nat->Bool} {e:Env},ld t (FF tr ls e)=some y->ld t e=some y\/∃(j:Nat) (x:TrE),tr[j]?=some x/\ls j=true/\y=x.v
 |[],_,_,h => .inl h
 |x::r,ls,e,h=>by
  simp only[FF]at h;rcases agB h with h1|⟨j,z,h1,h2,h3⟩
  .split at h1
   .rename_i hl
    by_cases hd:x.o.dst=some t
    .rw[ab6 hd]at h1;cases h1;exact .inr ⟨0,x,rfl,hl,rfl⟩
    .rw[ab8 hd]at h1;exact .inl h1
   .exact .inl h1
  .exact .inr ⟨j+1,z,by simpa using h1,h2,h3⟩
theorem ahg{α:Type}{i:Nat}{y:α}:∀{f l:List (Nat×α)},ld i (ups f l)=some y->(i,y)∈f\/ld i l=some y:=fun {f l} h=>by
 rcases adi f l i y h with h1|⟨_,h1⟩
 .exact .inl h1
 .exact .inr h1
theorem agx{i:Nat}{y:Bk}:∀{tr:List TrE} {ls:Nat->Bool} {b:Bxs},ld i (GG tr ls b)=some y->ld i b=some y\/∃(j:Nat) (x:TrE),tr[j]?=some x/\ls j=true/\(i,y)∈x.f
 |[],_,_,h => .inl h
 |x::r,ls,b,h=>by
  simp only[GG]at h;rcases agx h with h1|⟨j,z,h1,h2,h3⟩
  .split at h1
   .rename_i hl;rcases ahg h1 with h2|h2
    .exact .inr ⟨0,x,rfl,hl,h2⟩
    .exact .inl h2
   .exact .inl h1
  .exact .inr ⟨j+1,z,by simpa using h1,h2,h3⟩
theorem aeR{O:List Oper}(hτ:aaH P τ=true):∀{l:List Oper} {e:Env} {b:Bxs} {lg0:List Lg} {k:Env->Bxs->List Lg->Prop},aen (Den P) τ O l e b lg0 k ->
 ∃(tr:List TrE) (eN:Env) (bN:Bxs),tr.map (·.o)=l/\k eN bN (lg0++tr.map (·.lg))/\(∀t,ld t eN=ld t (FF tr (λ_=>true) e))/\(∀i,ld i bN=ld i (GG tr (λ_=>true) b)) /\
  ∀(i:Nat) x,tr[i]?=some x->AnyOk P O x.o (FF tr (λj=>decide (j<i)) e) (GG tr (λj=>decide (j<i)) b) x.v x.f x.lg
 |[],e,b,lg0,k,hk=>⟨[],e,b,rfl,by simp only[aen]at hk;simpa using hk,λ_=>rfl,λ_=>rfl,λi x h=>by simp at h⟩
 |o::r,e,b,lg0,k,hk=>by
  simp only[aen,af5,acn]at hk;obtain⟨e₀,v,f,lg,h1,he,hA⟩:=ahP hτ hk;obtain⟨tr,eN,bN,q1,q2,q3,q4,q5⟩:=aeR hτ h1;have hap:∀t,ld t (apE o v e₀)=ld t (apE o v e):=λt=>ac4 (he t)
  refine⟨⟨o,v,f,lg⟩::tr,eN,bN,by simp[q1],by simpa using q2,λt=>?_,λi=>?_,λi x hx=>?_⟩
  .rw[q3];simp only[FF,if_true];exact acs (λ_ _ _ _=>rfl) (hap t)
  .rw[q4];simp only[GG,if_true]
  .cases i with
   |zero =>
    have:(⟨o,v,f,lg⟩:TrE)=x:=by simpa using hx
    subst this;simp only[FF,GG,EK,decide_false,DF,if_false];rw[adF,adE];exact hA
   |succ i =>
    have h5:=q5 i x (by simpa using hx);have e1:(λj=>decide (j+1<i+1))=λj=>decide (j<i):=by funext j;simp
    simp only[FF,GG,Nat.zero_lt_succ,decide_true,if_true,e1];refine⟨h5.wr,h5.al,h5.ids,h5.obs,λN w0 X0 a w e' b' hwo hc hs hB hd hno hnb K Q hK=>h5.go N w0 X0 a w e' b' hwo hc (λt ht=>(hs t ht).trans (acs (λ_ _ _ _=>rfl) (hap t).symm)) hB hd hno hnb K Q hK⟩
end
def ahF(o:Oper)(acc:List Nat):Nat:=o.after.toList.foldl (λm e=>cond (Region.binds .any e) (m ||| 2^e.on ||| acc.getD e.on 0) m) 0
theorem aeD:∀(O:List Oper) (acc:List Nat),(∃rest,abk O acc=acc++rest)/\∀(j:Nat) o,O[j]?=some o->∃acc',acc'.length=acc.length+j/\(∃rest,abk O acc=acc'++rest)/\(abk O acc).getD (acc.length+j) 0=ahF o acc'
 |[],acc=>⟨⟨[],by simp[abk]⟩,λj o h=>by simp at h⟩
 |x::r,acc=>by
  obtain⟨⟨rest,h1⟩,h2⟩:=aeD r (acc++[ahF x acc]);have hx:abk (x::r) acc=abk r (acc++[ahF x acc]):=rfl;refine⟨⟨ahF x acc::rest,by rw[hx,h1];simp⟩,λj o hj=>?_⟩;cases j with
  |zero =>
   have:x=o:=by simpa using hj
   subst this;refine⟨acc,η,⟨ahF x acc::rest,by rw[hx,h1];simp⟩, ?_⟩;rw[hx,h1];simp[List.getD]
  |succ j =>
   obtain⟨acc',q1,q2,q3⟩:=h2 j o (by simpa using hj);refine⟨acc',by simp at q1;omega,by rw[hx];exact q2, ?_⟩;rw[hx,<-q3];congr 1;simp;omega
theorem testBit_fold(acc:List Nat)(i:Nat):∀(l:List Edge) (m:Nat),Nat.testBit (l.foldl (λm e=>cond (Region.binds .any e) (m ||| 2^e.on ||| acc.getD e.on 0) m) m) i=true ->
 Nat.testBit m i=true\/∃e∈l,Region.binds .any e=true/\(e.on=i\/Nat.testBit (acc.getD e.on 0) i=true)
 |[],m,h => .inl h
 |e::r,m,h=>by
  simp only[List.foldl_cons]at h;rcases testBit_fold acc i r _ h with h1|⟨e',he',hb,h1⟩
  .cases hb:Region.binds .any e with
   |false=>rw[hb]at h1;exact .inl h1
   |true =>
    rw[hb]at h1;simp only[cond_true,Nat.testBit_or,zx]at h1;rcases h1 with(h1|h1)|h1
    .exact .inl h1
    .rw[Nat.testBit_two_pow]at h1;exact .inr ⟨e,η,hb,.inl (by simpa using h1)⟩
    .exact .inr ⟨e,η,hb,.inr h1⟩
  .exact .inr ⟨e',by simp[he'],hb,h1⟩
def DC(O:List Oper)(ls:Nat->Bool):Prop:=∀(j:Nat) (o:Oper),O[j]?=some o->ls j=true->∀e∈o.after,Region.binds .any e=true->ls e.on=true
theorem adT{O:List Oper}{ls:Nat->Bool}(hc:DC O ls):∀(j:Nat) (o:Oper),O[j]?=some o->(∀e∈o.after,Region.binds .any e=true->ls e.on=true)->∀i,Nat.testBit ((abk O []).getD j 0) i=true->ls i=true:=by
 intro j;induction j using Nat.strongRecOn with
 |_ j ih =>
  intro o ho hr i hi;obtain⟨acc',q1,⟨rest,q2⟩,q3⟩:=(aeD O []).2 j o ho;simp only[dZ,nU]at q1 q3;rw[q3]at hi;rcases testBit_fold acc' i _ 0 hi with h|⟨e,he,hb,h⟩
  .simp at h
  .have hon:=hr e (by simpa using he) hb;rcases h with h|h
   .rw[<-h];exact hon
   .have hlt:e.on<j:=by
     rcases sW e.on j with h1|h1
     .exact h1
     .have:acc'.getD e.on 0=0:=by simp[List.getD,List.getElem?_eq_none (show acc'.length<=e.on by omega)]
      rw[this]at h;simp at h
    have hsame:(abk O []).getD e.on 0=acc'.getD e.on 0:=by
     rw[q2];simp only[List.getD,zQ (show e.on<acc'.length by omega)]
    rw[<-hsame]at h;have hO:e.on<O.length:=by have:=(iy.1 ho).1;omega
    exact ih e.on hlt O[e.on] (eY hO) (hc e.on _ (eY hO) hon) i h
section
variable {P:Program} [Wld P] [Kp] {τ:Tab} {Q:Exit->Act->World->Prop}
theorem Conc.drew{N:Nat}{w0:World}{X0:List Nat}{e:Env}{b:Bxs}{a:Act}{w:World}(h:Conc N w0 X0 e b a w):Conc N w0 X0 e b a w.drew:=by
 obtain⟨S,M,h⟩:=h;have hx:=Ext.drew w (bl S++X0)
 exact⟨S,M,⟨h.ms.st.drew,h.ms.gh.kept (λ_ _ _ h=>h),h.ms.inS,h.ms.inj⟩,h.x0,h.sz,⟨h.df.1,h.df.2.ext hx⟩,λt v hv=>(h.env t v hv).ext hx λi _ m hm=>⟨m,hm,Comp.refl m⟩,λi x hx'=>by
  obtain⟨m,h1,h2⟩:=h.box i x hx'
  exact⟨m,h1,h2.ext0 hx⟩⟩
theorem agD{O:List Oper}{i:Nat}{o:Oper}(ho:O[i]?=some o){c:Nat}(hc:c∈alO o):c∈als O:=List.mem_flatMap.2 ⟨o,FW ho,hc⟩
theorem ah4{O:List Oper}{e:Env}{t:Nat}{x:AV}(h:ld t (prep O e)=some x):∀i∈aaF x,i ∉ als O:=by
 unfold prep at h;cases hm:mention (als O) e with
 |true=>rw[hm]at h;exact agp h
 |false=>rw[hm]at h;exact aby hm h
theorem Conc.prep{N:Nat}{w0:World}{X0:List Nat}{e:Env}{b:Bxs}{a:Act}{w:World}(h:Conc N w0 X0 e b a w)(O:List Oper):Conc N w0 X0 (prep O e) b a w:=by
 obtain⟨S,M,h⟩:=h;unfold Sw.prep;split
 .exact⟨S,M,h.kill _⟩
 .exact⟨S,M,h⟩
theorem ah9{N:Nat}{w0:World}{X0:List Nat}{e:Env}{b:Bxs}{a:Act}{w:World}{O:List Oper}{id:Nat}{k:Env->Bxs->Prop}(hwo:WOk P w0)(hτ:aaH P τ=true)(hm:P.follows .mixedOrders=true)(hac:afY O=true)(hso:agl O=true)(hdl:afn N O=true)
 (hc:Conc N w0 X0 e b a w) (hk:aex (Den P) τ true O e b k) (hQ:∀e b a w,k e b->Conc N w0 X0 e b a w->Q .normal a w):(Code.region id O.toArray true).wp P Q a w:=by
 simp only[aex,aee]at hk;obtain⟨hk,hnB⟩:=agf hk;obtain⟨tr,eN,bN,q1,⟨q2,q2'⟩,q3,q4,q5⟩:=aeR hτ hk;simp only[lS]at q2;have hlen:tr.length=O.length:=by rw[<-q1];simp
 have hat:∀{i:Nat} {o:Oper},O[i]?=some o->∃x,tr[i]?=some x/\x.o=o:=by
  intro i o ho;rw[<-q1,rE]at ho;cases hx:tr[i]? with
  |none=>simp[hx]at ho
  |some x=>simp[hx]at ho;exact⟨x,rfl,ho⟩
 have hat':∀{i:Nat} {x:TrE},tr[i]?=some x->O[i]?=some x.o:=by
  intro i x hx;rw[<-q1,rE,hx];rfl
 have hdst:∀{i:Nat} {o:Oper},O[i]?=some o->∀t,o.dst=some t->DL N t:=by
  intro i o ho t ht;have:=gQ.1 hdl o (FW ho);rw[ht]at this;simpa[DL,xu]using this
 have pairS:∀{i j:Nat} {x y:TrE},i<j->tr[i]?=some x->tr[j]?=some y->Nat.testBit ((abk O []).getD j 0) i=true \/
  ((∀t,x.o.dst=some t->t ∉ abI O y.o/\y.o.dst≠some t)/\∀t,y.o.dst=some t->t ∉ abI O x.o):=by
  intro i j x y hij hx hy;have hjl:j<O.length:=by rw[<-hlen];exact(iy.1 hy).1
  have h1:=gQ.1 (gQ.1 hso j (by simpa using hjl)) i (by simpa using hij);simp only[hat' hx,hat' hy,zx,bG]at h1;rcases h1 with h1|⟨h1,h2⟩
  .exact .inl h1
  .refine .inr ⟨λt ht=>?_,λt ht=>?_⟩
   .rw[ht]at h1;simp only[bG,qJ]at h1;refine⟨λhm=>?_,λhe=>?_⟩
    .have:=h1.1;simp[hm]at this
    .have:=h1.2;rw[he]at this;simp at this
   .rw[ht]at h2;simp only[qJ]at h2;intro hm;simp[hm]at h2
 have pairB:∀{i j:Nat} {x y:TrE},i<j->tr[i]?=some x->tr[j]?=some y->(∀c∈y.lg.al,c ∉ x.lg.mn/\c ∉ x.lg.al)/\(Nat.testBit ((abk O []).getD j 0) i=true \/
  ((∀c∈x.lg.rd,c ∉ y.lg.wr)/\(∀c∈x.lg.wr,c ∉ y.lg.rd/\c ∉ y.lg.wr)/\∀c∈x.lg.al,c ∉ y.lg.mn)):=by
  intro i j x y hij hx hy;have hjl:j<(tr.map (·.lg)).length:=by simpa using(iy.1 hy).1
  have h1:=gQ.1 (gQ.1 q2 j (by simpa using hjl)) i (by simpa using hij);simp only[rE,hx,hy,oJ,bG,zx,qJ]at h1;refine⟨λc hc=>?_, ?_⟩
  .have:=yF.1 h1.1 c hc;simpa using this
  .rcases h1.2 with h2|h2
   .exact .inl h2
   .unfold apart at h2;simp only[qJ,Bool.or_eq_false_iff]at h2;refine .inr ⟨λc hc=>?_,λc hc=>?_,λc hc=>?_⟩
    .have:=yF.1 h2.1.1 c hc;simpa using this
    .have:=yF.1 h2.1.2 c hc;simpa using this
    .have:=yF.1 h2.2 c hc;simpa using this
 refine adt hm hac (λls a w=>DC O ls/\Conc N w0 X0 (FF tr ls (prep O e)) (GG tr ls b) a w) ⟨λ_ _ _ h=>(by cases h), ?_⟩ ?_ ?_
 .rw[adF,adE];exact(hc.prep O).drew
 .rintro ls a w i o ⟨hdc,hcc⟩ ho hi hpre;obtain⟨x,hx,rfl⟩:=hat ho;have hbefore:∀{j:Nat} {y:TrE},j<i->tr[j]?=some y->Nat.testBit ((abk O []).getD i 0) j=true->ls j=true:=λhji hy hb=>adT hdc i x.o ho hpre _ hb
  have hafter:∀{j:Nat} {y:TrE},i<j->tr[j]?=some y->Nat.testBit ((abk O []).getD j 0) i=true->ls j=false:=by
   intro j y hij hy hb;cases hl:ls j with
   |false=>rfl
   |true =>
    have:=adT hdc j y.o (hat' hy) (hdc j y.o (hat' hy) hl) i hb;rw[hi]at this;cases this
  have hany:=q5 i x hx;have hgo:=hany.go N w0 X0 a w (FF tr ls (prep O e)) (GG tr ls b) hwo hcc (λt ht=>?_) (λc hcr=>?_) (hdst ho) (λt y hy c hcy hcal=>?_) (λbi y hy c hcy hcal=>?_) (λa' w'=>DC O (λj=>Nat.beq j i||ls j)/\Conc N w0 X0 (FF tr (λj=>Nat.beq j i||ls j) (prep O e)) (GG tr (λj=>Nat.beq j i||ls j) b) a' w') Q (λa' w' hc'=>⟨?_, ?_⟩)
  .unfold wpOp;simp only[Fj,ho];cases hw:Region.wanted x.o (yielded O.toArray a.tmps)with
   |true=>simp only[if_true];exact .inl (hgo.1 hw)
   |false=>simp only[DF,if_false];exact hgo.2 hw
  .refine acs (λj y hy hyd=>?_) rfl;rcases Nat.lt_trichotomy j i with hji|rfl|hij
   .rw[decide_eq_true hji];rcases pairS hji hy hx with hb|⟨h1,_⟩
    .exact hbefore hji hy hb
    .exact absurd ht (h1 t hyd).1
   .rw[hi];simp
   .rw[decide_eq_false ω];rcases pairS hij hx hy with hb|⟨_,h2⟩
    .exact hafter hij hy hb
    .exact absurd ht (h2 t hyd)
  .refine ac8 (λj y hy hyd=>?_) rfl;have hyw:c∈y.lg.wr:=by rw[(q5 j y hy).wr];exact hyd
   rcases Nat.lt_trichotomy j i with hji|rfl|hij
   .rw[decide_eq_true hji];rcases(pairB hji hy hx).2 with hb|⟨_,h2,_⟩
    .exact hbefore hji hy hb
    .exact absurd hcr (h2 c hyw).1
   .rw[hi];simp
   .rw[decide_eq_false ω];rcases(pairB hij hx hy).2 with hb|⟨h1,_,_⟩
    .exact hafter hij hy hb
    .exact absurd hyw (h1 c hcr)
  .rcases agB hy with h0|⟨j,z,hz,hlj,rfl⟩
   .exact ah4 h0 c hcy (agD ho (hany.al c hcal))
   .have hids:=(q5 j z hz).ids c hcy;rcases Nat.lt_trichotomy j i with hji|rfl|hij
    .have:=(pairB hji hz hx).1 c hcal;rcases hids with h1|h1
     .exact this.1 h1
     .exact this.2 h1
    .rw[hi]at hlj;cases hlj
    .rcases hids with h1|h1
     .rcases(pairB hij hx hz).2 with hb|⟨_,_,h3⟩
      .have:=hafter hij hz hb;rw[hlj]at this;cases this
      .exact h3 c hcal h1
     .exact((pairB hij hx hz).1 c h1).2 hcal
  .rcases agx hy with h0|⟨j,z,hz,hlj,hzf⟩
   .exact hnB bi y h0 c hcy (agD ho (hany.al c hcal))
   .have h1:=(q5 j z hz).obs bi y hzf c hcy;rcases Nat.lt_trichotomy j i with hji|rfl|hij
    .exact((pairB hji hz hx).1 c hcal).1 h1
    .rw[hi]at hlj;cases hlj
    .rcases(pairB hij hx hz).2 with hb|⟨_,_,h3⟩
     .have:=hafter hij hz hb;rw[hlj]at this;cases this
     .exact h3 c hcal h1
  .intro j o' ho' hl e' he' hb';have hl:(Nat.beq j i||ls j)=true:=hl;show(Nat.beq e'.on i||ls e'.on)=true
   by_cases hji:j=i
   .subst hji;rw[ho]at ho';cases ho';rw[hpre e' he' hb'];simp
   .rw[aaL hji]at hl;rw[hdc j o' ho' (by simpa using hl) e' he' hb'];simp
  .refine hc'.congr (λt=>aiR hx (λj y t hij hy hxd hyd=>?_) t) (λc=>aiL hx (λj y c hij hy hxc hyc=>?_) c)
   .rcases pairS hij hx hy with hb|⟨h1,_⟩
    .exact hafter hij hy hb
    .exact absurd hyd (h1 t hxd).2
   .rcases(pairB hij hx hy).2 with hb|⟨_,h2,_⟩
    .exact hafter hij hy hb
    .exact absurd (by rw[(q5 j y hy).wr];exact hyc) (h2 c (by rw[hany.wr];exact hxc)).2
 .rintro ls a w ⟨_,hcc⟩ hall;refine hQ eN bN a w q2' (hcc.congr (λt=>?_) (λi=>?_))
  .rw[q3];refine acs (λj y hy _=>?_) rfl;rw[hall j (by rw[<-hlen];exact(iy.1 hy).1)]
  .rw[q4];refine ac8 (λj y hy _=>?_) rfl;rw[hall j (by rw[<-hlen];exact(iy.1 hy).1)]
end
def Ex.x:Ex->Exit
 |.normal => .normal
 |.ret => .ret
 |.exit id => .exit id
theorem Ghs.none_(w0 w:World):Ghs w0 w [] (λ_=>none):=⟨λ_ _ _ h=>by simp at h,λ_ _ _ _ _ _ h=>by simp at h,λ_ _ _ _ _ _ h=>by simp at h⟩
section
variable {P:Program} [Wld P] [Kp] {τ:Tab} {N:Nat} {w0:World} {X0:List Nat}
variable [hwo:WOk P w0]
def LW(P:Program)(c:Code)(Q:Exit->Act->World->Prop)(a:Act)(w:World):Prop:=∀b k cs,∃e a' w',Q e a' w'/\Arrives P (lone (b.at a (.code c :: .inLoop c::k)) cs w) b k cs e a' w'
theorem LW.loop{c:Code}{Q:Exit->Act->World->Prop}{a:Act}{w:World}(h:LW P c Q a w):(Code.loop c).wp P Q a w:=by
 intro b k cs;obtain⟨e,a',w',hq,harr⟩:=h b k cs;exact⟨e,a',w',hq,.of_steps (.one step_loop) harr⟩
theorem LW.step{c:Code}{Q:Exit->Act->World->Prop}{a:Act}{w:World}(h:c.wp P (Exit.then (LW P c Q) Q) a w):LW P c Q a w:=by
 intro b k cs;obtain⟨e,a₁,w₁,hq,harr⟩:=h b (.inLoop c::k) cs;cases e with
 |normal =>
  obtain⟨e₂,a₂,w₂,hq₂,harr₂⟩:=hq b k cs;exact⟨e₂,a₂,w₂,hq₂,.of_steps (Steps.trans harr (.one step_inLoop)) harr₂⟩
 |exit id=>exact⟨_,a₁,w₁,hq,.pass (x:=.inLoop c) rfl (λ_ _ => .inl η) harr⟩
 |goto l=>exact⟨_,a₁,w₁,hq,.pass (x:=.inLoop c) rfl (λ_ _ => .inl η) harr⟩
 |ret=>exact⟨_,a₁,w₁,hq,.pass (x:=.inLoop c) rfl (λ_ _ => .inl η) harr⟩
 |panic ch=>exact⟨_,a₁,w₁,hq,.pass (x:=.inLoop c) rfl (λ_ _ => .inl η) harr⟩
 |outgrown=>exact⟨_,a₁,w₁,hq,.pass (x:=.inLoop c) rfl (λ_ _ => .inl η) harr⟩
theorem aiV{id:Nat}{ops:Array Oper}{dr:Bool}{QA:Ex->Env->Bxs->Prop}{Q:Exit->Act->World->Prop}{e:Env}{b:Bxs}{a:Act}{w:World}(hτ:aaH P τ=true)(hm:P.follows .mixedOrders=true)(ht:aa6 N (.region id ops dr)=true)(hc:Conc N w0 X0 e b a w)
 (hk:aex (Den P) τ dr ops.toList e b (QA .normal)) (hQ:∀e b a w,QA .normal e b->Conc N w0 X0 e b a w->Q .normal a w):(Code.region id ops dr).wp P Q a w:=by
 obtain⟨l⟩:=ops;simp only[aa6,bG]at ht;cases dr with
 |false =>
  simp only[aex]at hk;exact aal (adH hτ hQ ht.1 hk hc)
 |true =>
  simp only[Bool.not_true,KA,bG]at ht;exact ah9 hwo hτ hm ht.2.1 ht.2.2 ht.1 hc hk hQ
theorem SubE.get:∀{e₀ e:Env},SubE e₀ e->∀{t:Nat} {v:AV},ld t e₀=some v->ld t e=some v
 |[],e,_,t,v,h=>by simp[ld]at h
 |(s,u)::r,e,hs,t,v,h=>by
  by_cases hst:s=t
  .subst hst;rw[aap]at h;cases h;exact hs.1
  .rw[aat _ _ hst]at h;exact SubE.get hs.2 h
theorem SubB.get:∀{e₀ e:Bxs},SubB e₀ e->∀{t:Nat} {v:Bk},ld t e₀=some v->ld t e=some v
 |[],e,_,t,v,h=>by simp[ld]at h
 |(s,u)::r,e,hs,t,v,h=>by
  by_cases hst:s=t
  .subst hst;rw[aap]at h;cases h;exact hs.1
  .rw[aat _ _ hst]at h;exact SubB.get hs.2 h
theorem Conc.sub{e e':Env}{b b':Bxs}{a:Act}{w:World}(h:Conc N w0 X0 e' b' a w)(he:SubE e e')(hb:SubB b b'):Conc N w0 X0 e b a w:=by
 obtain⟨S,M,h⟩:=h;exact⟨S,M,h.ms,h.x0,h.sz,h.df,λt v hv=>h.env t v (he.get hv),λi x hx=>h.box i x (hb.get hx)⟩
theorem Conc.ghost{e:Env}{b:Bxs}{a:Act}{w:World}{t i T s:Nat}(h:Conc N w0 X0 e b a w)(ht:ld t e=some (.c (.v (.slice none 0 0))))(hm:mention [i] e=false)(hi:ld i b=none)(hs:0<s)(hmb:aa3 [i] b=false):Conc N w0 X0 ((t,.gs i 0)::e) ((i,.grow T s [])::b) a w:=by
 obtain⟨S,M,h⟩:=h;refine⟨S,M.set i ⟨false,true,none,T,s,0,0,[],none⟩,⟨h.ms.st,h.ms.gh.set (λx hx=>by cases hx) (λ_ _ _ _ _ _ _ h=>h) (λ_ _ _ h=>h) (λg' h1 h2=>by cases h2),λc mc hc hco gc hgc=>?_,λc c' mc mc' gc h1 h2 h3 h4 h5 h6=>?_⟩,h.x0,h.sz,h.df,λc v hv=>?_,λc x hx=>?_⟩
 .by_cases hci:c=i
  .subst hci;rw[MM.set_same]at hc;cases hc;cases hgc
  .rw[MM.set_other _ _ hci]at hc;exact h.ms.inS c mc hc hco gc hgc
 .by_cases hci:c=i
  .subst hci;rw[MM.set_same]at h1;cases h1;cases h5
  .by_cases hci':c'=i
   .subst hci';rw[MM.set_same]at h2;cases h2;cases h6
   .rw[MM.set_other _ _ hci]at h1;rw[MM.set_other _ _ hci']at h2;exact h.ms.inj c c' mc mc' gc h1 h2 h3 h4 h5 h6
 .by_cases hct:t=c
  .subst hct;rw[aap]at hv;cases hv;refine .gs (MM.set_same _ _ _) rfl (gW _) (λ_=>?_) ?_
   .exact(h.env _ _ ht).v_
   .rw[(h.env _ _ ht).v_];exact⟨_,_,rfl⟩
  .rw[aat _ _ hct]at hv;refine(h.env c v hv).ext (Ext.refl _ _) λj hj m hm'=>⟨m, ?_,Comp.refl m⟩
   have hne:j≠i:=λe=>by subst e;exact aby hm hv j hj η
   rw[MM.set_other _ _ hne];exact hm'
 .by_cases hci:i=c
  .subst hci;rw[aap]at hx;cases hx;exact⟨_,MM.set_same _ _ _,rfl,rfl,rfl,⟨rfl,hs⟩,rfl,.inl ⟨rfl,rfl,rfl⟩⟩
  .rw[aat _ _ hci]at hx;obtain⟨m,h1,h2⟩:=h.box c x hx;exact⟨m,by rw[MM.set_other _ _ (λe=>hci e.symm)];exact h1,h2.ext (Ext.refl _ _) λc hc mc hmc=>⟨mc,by rw[MM.set_other _ _ (λe=>by subst e;exact abl hmb _ x hx c hc η)];exact hmc,Comp.refl mc⟩⟩
theorem abr(hτ:aaH P τ=true)(hm:P.follows .mixedOrders=true):∀(c:Code) {QA:Ex->Env->Bxs->Prop} {Q:Exit->Act->World->Prop} {e:Env} {b:Bxs} {a:Act} {w:World},aa6 N c=true->awp (Den P) τ c QA e b->Conc N w0 X0 e b a w ->
 (∀x e b a w,QA x e b->Conc N w0 X0 e b a w->Q x.x a w)->c.wp P Q a w
 |.skip,QA,Q,e,b,a,w,_,hk,hc,hQ=>aa1 (hQ .normal _ _ _ _ hk hc)
 |.ret,QA,Q,e,b,a,w,_,hk,hc,hQ=>ac6 (hQ .ret _ _ _ _ hk hc)
 |.exit id,QA,Q,e,b,a,w,_,hk,hc,hQ=>acr (hQ (.exit id) _ _ _ _ hk hc)
 |.region id ops dr,QA,Q,e,b,a,w,ht,hk,hc,hQ=>aiV (QA:=QA) hτ hm ht hc hk (λe b a w h1 h2=>hQ .normal _ _ _ _ h1 h2)
 |.seq x y,QA,Q,e,b,a,w,ht,hk,hc,hQ=>by
  simp only[aa6,bG]at ht;refine aak (abr hτ hm x ht.1 hk hc λz e b a w hz hc=>?_);cases z with
  |normal=>exact aaG (abr hτ hm y ht.2 hz hc hQ)
  |ret=>exact agT (hQ .ret _ _ _ _ hz hc)
  |exit id=>exact acG (hQ (.exit id) _ _ _ _ hz hc)
 |.cond c x y,QA,Q,e,b,a,w,ht,hk,hc,hQ=>by
  simp only[aa6,bG]at ht;simp only[awp]at hk;split at hk
  .rename_i p hp;obtain⟨S,M,h⟩:=hc;refine wp_cond_split ((h.ev hp).v_) (λhp1=>?_) (λhp1=>?_)
   .subst hp1;exact abr hτ hm x ht.1 (hk.t rfl) ⟨S,M,h⟩ hQ
   .subst hp1;exact abr hτ hm y ht.2 (hk.f rfl) ⟨S,M,h⟩ hQ
  .cases hk
 |.block id x,QA,Q,e,b,a,w,ht,hk,hc,hQ=>by
  simp only[aa6]at ht;refine aa8 (abr hτ hm x ht hk hc λz e b a w hz hc=>?_);cases z with
  |normal=>exact acV (hQ .normal _ _ _ _ hz hc)
  |ret=>exact ajl (hQ .ret _ _ _ _ hz hc)
  |exit i =>
   simp only at hz;cases hi:Nat.beq i id with
   |true =>
    rw[hi]at hz;have:=iO hi;subst this;exact afl (hQ .normal _ _ _ _ hz hc)
   |false =>
    rw[hi]at hz;exact aiX hi (hQ (.exit i) _ _ _ _ hz hc)
 |.loop x,QA,Q,e,b,a,w,ht,hk,hc,hQ=>by
  simp only[aa6]at ht;obtain⟨hwl⟩:=hk;refine LW.loop (hwl (λe b=>∀a w,Conc N w0 X0 e b a w->LW P x Q a w) (λe b hF a w hc=>?_) (λe b e' b' hI he hb a w hc=>hI a w (hc.sub he hb)) (λe b t i T s hI h1 h2 h3 h4 h5 a w hc=>hI a w (hc.ghost h1 h2 h3 h4 h5)) a w hc);refine LW.step (abr hτ hm x ht hF hc λz e b a w hz hc=>?_);cases z with
  |normal=>exact aaG (hz a w hc)
  |ret=>exact agT (hQ .ret _ _ _ _ hz hc)
  |exit id=>exact acG (hQ (.exit id) _ _ _ _ hz hc)
 |.rangeFunc _ _ _ _,QA,Q,e,b,a,w,_,hk,hc,hQ=>False.elim hk
 |.scope _,QA,Q,e,b,a,w,_,hk,hc,hQ=>False.elim hk
 |.label _,QA,Q,e,b,a,w,_,hk,hc,hQ=>False.elim hk
 |.goto _,QA,Q,e,b,a,w,_,hk,hc,hQ=>False.elim hk
 |.refuse _,QA,Q,e,b,a,w,_,hk,hc,hQ=>False.elim hk
theorem afd:∀(xs:List AV) (i t:Nat) (v:AV),ld t (aes i xs)=some v->i<=t/\xs[t-i]?=some v
 |[],_,_,_,h=>by simp[aes,ld]at h
 |u::r,i,t,v,h=>by
  simp only[aes]at h
  by_cases e:i=t
  .subst e;rw[aap]at h;cases h;simp
  .rw[aat _ _ e]at h;obtain⟨h1,h2⟩:=afd r (i+1) t v h;refine⟨ω, ?_⟩;rw[show t-i=(t-(i+1))+1 by omega];simpa using h2
theorem ahv{X:List Nat}{M:MM}{w:World}{t:TypeId}{ti:TI}{ad:Addr}{us:List Value}{cs:List Cell}{v:AV}(ht:aaU P t ti=true)(hm:Mem w ad us)(hr:RepL w X us cs)(hv:aa0 ti cs=some v):
 ∃u,(loadVar t ad).run P w=.ok u w/\RepV w X M u v:=by
 obtain⟨u,hu,hR⟩:=aeb (M:=M) (ρ:=λ_ => .pointer (some ad)) (d:=none) (ty:=0) (pos := "") (af:=#[]) (gd:=none) (x:=.tmp 0) ht rfl hm hr hv;refine⟨u, ?_,hR⟩;simp only[execOp,Instr.loadAt,Instr.sureAddr,Sem.run_bind,Sem.run_pure,Result.andThen_ok]at hu;cases hl:(loadVar t ad).run P w with
 |ok u' w1=>rw[hl]at hu;simp at hu;rw[hu.1,hu.2]
 |halt u' w1=>rw[hl]at hu;simp at hu
theorem aeQ{w:World}{X:List Nat}{M:MM}{u:Value}{ti:TI}{cs:List Cell}{v:AV}(hv:aa0 ti cs=some v)(h:RepV w X M u v):RepD w X u v:=by
 have hd:(∃x,v=.c x)\/∃l,v=.agg l:=by
  cases ti<;>simp only[aa0]at hv<;>first|(simp at hv;done)|(split at hv<;>cases hv<;>first|exact .inl ⟨_,rfl⟩|exact .inr ⟨_,rfl⟩)
 rcases hd with⟨x,rfl⟩|⟨l,rfl⟩
 .cases h with
  |d h=>exact h
 .cases h with
  |d h=>exact h
theorem ail{S:List Bx}{M:MM}{a:Act}{w:World}{e:Env}{b:Bxs}{r:ResultVar}{k:AV->Prop}(hτ:aaH P τ=true)(h:Sta N w0 X0 S M a w e b)(hk:ae3 τ e b r k):∃u v,k v/\(aaO a.tmps r).run P w=.ok u w/\RepD w X0 u v:=by
 unfold ae3 at hk;cases r with
 |tmp t =>
  simp only at hk;cases ht:ld t e with
  |none=>simp[ht]at hk
  |some v =>
   simp only[ht]at hk;obtain⟨v',f,S',M',h1,h2,h3,h4,h5⟩:=ac0 h (h.env t v ht) hk;exact⟨_,v',h1,rfl,h4.ext (Ext.drop λx hx=>kG _ hx)⟩
 |cell c t =>
  simp only at hk;split at hk
  .rename_i ti i ht hc;split at hk
   .rename_i cs hb;split at hk
    .rename_i v hv;obtain⟨m,g,hm,hvv,hg,hxe⟩:=(h.env c _ hc).ptr_;obtain⟨m',hm',h1,h2,⟨g',h3⟩,h4⟩:=h.box i _ hb;rw[hm]at hm';cases hm';obtain⟨u,hu,hR⟩:=ahv (M:=M) (aaq hτ ht) (Mem.of_row (h.row hm h2 hg)) h4 hv;refine⟨u,v,hk, ?_,(aeQ hv hR).ext (Ext.drop λx hx=>kG _ hx)⟩;simp only[aaO,hxe,asAddr,Sem.run_bind,Sem.run_pure,Result.andThen_ok];rw[hu]
    .cases hk
   .cases hk
  .cases hk
theorem afS{S:List Bx}{M:MM}{a:Act}{w:World}{e:Env}{b:Bxs}(hτ:aaH P τ=true)(h:Sta N w0 X0 S M a w e b):∀{l:List ResultVar} {k:List AV->Prop},aeH τ e b l k->∃us vs,k vs/\(l.mapM (aaO a.tmps)).run P w=.ok us w/\us.length=vs.length/\∀(i:Nat) u v,us[i]?=some u->vs[i]?=some v->RepD w X0 u v
 |[],k,hk=>⟨[],[],hk,η,rfl,λi u v h=>by simp at h⟩
 |r::l,k,hk=>by
  simp only[aeH]at hk;obtain⟨u,v,h1,h2,h3⟩:=ail hτ h hk;obtain⟨us,vs,q1,q2,q3,q4⟩:=afS hτ h h1;refine⟨u::us,v::vs,q1, ?_,by simp[q3],λi x y hx hy=>?_⟩
  .rw[List.mapM_cons,Sem.run_bind,h2];simp only[Result.andThen_ok,Sem.run_bind,q2,Sem.run_pure]
  .cases i with
   |zero=>simp at hx hy;subst hx hy;exact h3
   |succ i=>exact q4 i x y (by simpa using hx) (by simpa using hy)
theorem aik{w:World}{us:List Value}{vs:List AV}(hl:us.length=vs.length)(h:∀(i:Nat) u v,us[i]?=some u->vs[i]?=some v->RepD w X0 u v):RepR w X0 (if h:us.toArray.size=1 then us.toArray[0]else .tuple us.toArray) (aai vs):=by
 match us,vs,hl with
 |[],[],_=>exact .tup rfl λi u v h=>by simp at h
 |[u],[v],_=>exact .d (h 0 u v rfl rfl)
 |u::u'::us,v::v'::vs,hl=>exact .tup hl h
end
section
variable {P:Program} [Wld P] {τ:Tab} {N:Nat} {w0:World} {X0:List Nat}
variable [hwo:WOk P w0]
theorem adq{N:Nat}{w:World}{X:List Nat}{xs:List AV}{vs:List Value}{a:Act}(hX:∀m∈X,m<w.heap.size)(hl:vs.length=xs.length)(hR:∀(i:Nat) u v,vs[i]?=some u->xs[i]?=some v->RepD w X u v)(hF:Frm N a (adB 0 vs)):Conc N w X (aes 0 xs) [] a w:=by
 refine⟨[],λ_=>none,⟨St.refl w,Ghs.none_ _ _,λ_ _ h=>(by cases h),λ_ _ _ _ _ h=>(by cases h)⟩,hX,hF.size,⟨⟨hF.defers,λ_ _ h=>nomatch h⟩,λ_ _ h=>nomatch h⟩,λt v hv=>?_,λi x h=>(by simp[ld]at h)⟩;obtain⟨_,h2⟩:=afd xs 0 t v hv;simp only[Nat.sub_zero]at h2;have hlt:t<vs.length:=by rw[hl];exact(iy.1 h2).1
 have h3:vs[t]?=some vs[t]:=eY hlt
 have h4:=hF.get t vs[t] (by
  have:∀(vs:List Value) (i t:Nat) u,vs[t]?=some u->lk (i+t) (adB i vs)=some u:=by
   intro vs;induction vs with
   |nil=>intro i t u h;simp at h
   |cons x r ih =>
    intro i t u h;cases t with
    |zero=>simp at h;subst h;simp[adB,lk]
    |succ t =>
     simp only[adB,lk];rw[aaL ω];have:=ih (i+1) t u (by simpa using h);rw[show i+1+t=i+(t+1) by omega]at this;exact this
  have:=this vs 0 t _ h3
  rwa [nU]at this)
 rw[h4];exact .d (hR t _ v h3 h2)
theorem aaP{f:FuncId}{fn:Func}{c:Code}{xs:List AV}{r:AV}(hτ:aaH P τ=true)(hm:P.follows .mixedOrders=true)(hf:P.funcs[f]?=some fn)(hb:fn.body=some c)(hbody:aaM P f=true)(ht:aa6 fn.ntmps c=true)(hle:Nat.ble xs.length fn.ntmps=true)
 (h:awp (Den P) τ c (af7 τ fn r) (aes 0 xs) []) (hn:abA xs=true:=by rfl):Den P f xs r:=by
 refine Den.of ⟨hbody,λw X vs ho hX hl hR=>?_⟩ hn
 haveI:WOk P w:=⟨ho⟩
 refine enter hf hb rfl (by rw[hl];exact hle) λa hF=>?_
 have hc:Conc fn.ntmps w X (aes 0 xs) [] a w:=by
  refine⟨[],λ_=>none,⟨St.refl w,Ghs.none_ _ _,λ_ _ h=>(by cases h),λ_ _ _ _ _ h=>(by cases h)⟩,hX,hF.size,⟨⟨hF.defers,λ_ _ h=>nomatch h⟩,λ_ _ h=>nomatch h⟩,λt v hv=>?_,λi x h=>(by simp[ld]at h)⟩;obtain⟨_,h2⟩:=afd xs 0 t v hv;simp only[Nat.sub_zero]at h2;have hlt:t<vs.length:=by rw[hl];exact(iy.1 h2).1
  have h3:vs[t]?=some vs[t]:=eY hlt
  have h4:=hF.get t vs[t] (by
   have:∀(vs:List Value) (i t:Nat) u,vs[t]?=some u->lk (i+t) (adB i vs)=some u:=by
    intro vs;induction vs with
    |nil=>intro i t u h;simp at h
    |cons x r ih =>
     intro i t u h;cases t with
     |zero=>simp at h;subst h;simp[adB,lk]
     |succ t =>
      simp only[adB,lk];rw[aaL ω];have:=ih (i+1) t u (by simpa using h);rw[show i+1+t=i+(t+1) by omega]at this;exact this
   have:=this vs 0 t _ h3
   rwa [nU]at this)
  rw[h4];exact .d (hR t _ v h3 h2)
 refine abr hτ hm c ht h hc λx e b a w' hx hc'=>?_
 obtain⟨S,M,hs⟩:=hc'
 have fin:∀us vs,(fn.results.toList.mapM (aaO a.tmps)).run P w'=.ok us w'->us.length=vs.length->(∀(i:Nat) u v,us[i]?=some u->vs[i]?=some v->RepD w' X u v)->aai vs=r->a.defers=[]/\∃v,(results fn a.tmps).run P w'=.ok v w'/\Ret (λu w1=>RepF w.heap.size w1 X u r/\Below w.heap.size w w1) (.returned v) w':=by
  intro us vs h1 h2 h3 h4;subst h4;refine⟨hs.df.1.1,_, ?_,_,rfl,(aik h2 h3).f,hs.ms.st.below⟩;rw[abm,Sem.run_bind,SL];simp[h1]
 cases x with
 |normal =>
  simp only[af7]at hx;split at hx
  .rename_i hr;exact fin [] [] (by rw[hr];simp) rfl (λi u v h=>by simp at h) hx.eq
  .cases hx
 |ret =>
  simp only[af7]at hx;obtain⟨us,vs,h1,h2,h3,h4⟩:=afS hτ hs hx;exact fin us vs h2 h3 h4 h1.eq
 |exit id=>cases hx
inductive OwnR (P:Program) (w:World) (XX:List Nat) (M:MM) (a:Act) (b':Bxs):List ResultVar->List (Option AV)->List (Nat × Nat)->Prop where
 |nil:OwnR P w XX M a b' [] [] []
 |no {r l vs G} (t:OwnR P w XX M a b' l vs G):OwnR P w XX M a b' (r::l) (none::vs) G
 |own0 {r l vs G T s} (hr:(aaO a.tmps r).run P w=.ok (.slice none 0 0) w) (hs:0<s) (t:OwnR P w XX M a b' l vs G):OwnR P w XX M a b' (r::l) (some (.own T s [])::vs) G
 |own {r l vs G T s es id g m cap} {uss:List (List Value)} {rest:List Value} (hr:(aaO a.tmps r).run P w=.ok (.slice (some ⟨g,0,none⟩) es.length cap) w) (hs:0<s) (hg:w.heap[g]?=some (.cells (uss.flatten++rest).toArray T (0,0))) (hS:RepS w XX s uss es) (hc:cap*s=(uss.flatten++rest).length) (hm:cap<=maxLen) (hn:es.length<=cap)
  (hM:M id=some m) (ho:m.own=true) (hmg:m.g=some g) (hd:ld id b'=some .dead) (hid:id ∉ G.map (·.1)) (t:OwnR P w XX M a b' l vs G):OwnR P w XX M a b' (r::l) (some (.own T s es)::vs) ((id,g)::G)
theorem OwnR.at{P:Program}{w:World}{XX:List Nat}{M:MM}{a:Act}{b':Bxs}{l:List ResultVar}{vs:List (Option AV)}{G:List (Nat×Nat)}(h:OwnR P w XX M a b' l vs G):∀p∈G,∃m,M p.1=some m/\m.own=true/\m.g=some p.2/\ld p.1 b'=some .dead:=by
 induction h with
 |nil=>intro p hp;cases hp
 |no t ih=>exact ih
 |own0 _ _ t ih=>exact ih
 |own hr hs hg hS hc hm hn hM ho hmg hd hid t ih =>
  intro p hp;rcases mQ.1 hp with rfl|hp
  .exact⟨_,hM,ho,hmg,hd⟩
  .exact ih p hp
theorem OwnR.nd{P:Program}{w:World}{XX:List Nat}{M:MM}{a:Act}{b':Bxs}{S:List Bx}(hms:MS w0 w S M){l:List ResultVar}{vs:List (Option AV)}{G:List (Nat×Nat)}(h:OwnR P w XX M a b' l vs G):(G.map (·.2)).Nodup:=by
 induction h with
 |nil=>exact List.nodup_nil
 |no t ih=>exact ih
 |own0 _ _ t ih=>exact ih
 |own hr hs hg hS hc hm hn hM ho hmg hd hid t ih =>
  simp only[dJ,List.nodup_cons];refine⟨λhm=>?_,ih⟩;obtain⟨p,hp,hpe⟩:=dw.1 hm;obtain⟨m',h1,h2,h3,_⟩:=t.at p hp;have:=hms.inj _ _ _ _ _ hM h1 ho h2 hmg (hpe▸h3);exact hid (dw.2 ⟨p,hp,this.symm⟩)
theorem acH{S:List Bx}{M:MM}{a:Act}{w:World}{e:Env}:∀{l:List ResultVar} {os:List (Option (TypeId×Nat))} {b:Bxs} {k:List (Option AV)->Bxs->Prop},Sta N w0 X0 S M a w e b->ady e l os b k ->
 ∃vs b' G,k vs b'/\Sta N w0 X0 S M a w e b'/\(∀i,ld i b=some .dead->ld i b'=some .dead)/\OwnR P w (bl S++X0) M a b' l vs G/\∀p∈G,∃T s es,ld p.1 b=some (.grow T s es)
 |[],[],b,k,h,hk=>⟨[],b,[],hk,h,λ_ h=>h,.nil,λp hp=>by cases hp⟩
 |[],_::_,b,k,h,hk=>False.elim hk
 |.tmp _::_,[],b,k,h,hk=>False.elim hk
 |.cell _ _::_,[],b,k,h,hk=>False.elim hk
 |.cell _ _::_,some _::_,b,k,h,hk=>False.elim hk
 |.cell c t::l,none::os,b,k,h,hk=>by
  simp only[ady]at hk;obtain⟨vs,b',G,h1,h2,h3,h4,h5⟩:=acH h hk;exact⟨_,b',G,h1,h2,h3,.no h4,h5⟩
 |.tmp t::l,none::os,b,k,h,hk=>by
  simp only[ady]at hk;obtain⟨vs,b',G,h1,h2,h3,h4,h5⟩:=acH h hk;exact⟨_,b',G,h1,h2,h3,.no h4,h5⟩
 |.tmp t::l,some (T,s)::os,b,k,h,hk=>by
  simp only[ady]at hk;split at hk
  .rename_i i n ht;split at hk
   .rename_i T' s' es hb;split at hk
    .rename_i hT hs;have:=iO hT;subst this;have:=iO hs;subst this;obtain⟨hn,hk⟩:=hk;rw[af4]at hk;obtain⟨m,hm,q1,q2,q3,q4,q5,q6⟩:=h.box i _ hb
     have hsta:Sta N w0 X0 S M a w e (up i .dead b):=⟨h.ms,h.x0,h.sz,h.df,h.env,λc x hx=>by
      rw[ace]at hx;split at hx
      .rename_i hc;subst hc;cases hx;exact⟨m,hm,trivial⟩
      .exact h.box c x hx⟩
     obtain⟨vs,b',G,h1,h2,h3,h4,h5⟩:=acH hsta hk;have hdead:ld i b'=some .dead:=h3 i (by rw[ace,if_pos rfl])
     have hold:∀c,ld c b=some .dead->ld c b'=some .dead:=λc hc=>h3 c (by
      rw[ace];split
      .rfl
      .exact hc)
     have h5':∀p∈G,p.1≠i/\∃T s es,ld p.1 b=some (.grow T s es):=λp hp=>by
      obtain⟨T,s,es,h6⟩:=h5 p hp;rw[ace]at h6;split at h6
      .cases h6
      .rename_i hc;exact⟨hc,T,s,es,h6⟩
     obtain⟨m',hm',hvv,hh⟩:=(h.env t _ ht).gs_;rw[hm]at hm';cases hm';have hval:=hh ω;rcases q6 with⟨g1,rfl,g3⟩|⟨g,uss,rest,g1,g2,g3,g4,g5,g6⟩
     .refine⟨_,b',G,h1,h2,hold,.own0 ?_ q4.2 h4,λp hp=>(h5' p hp).2⟩;simp only[aaO,hval,Sem.run_pure];unfold hdr;rw[g1,g3,q5];rfl
     .have hrow:=h.row hm q2 g1;refine⟨_,b',(i,g)::G,h1,h2,hold,.own (m:=m) (cap:=m.cap) (uss:=uss) (rest:=rest) ?_ q4.2 (by rw[<-q3,<-g2];exact hrow) g3 (by rw[g4,g2]) g5 ω hm q2 g1 hdead (λhc=>?_) h4,λp hp=>?_⟩
      .simp only[aaO,hval,Sem.run_pure];unfold hdr;rw[g1,q5];rfl
      .obtain⟨p,hp,hpe⟩:=dw.1 hc;exact(h5' p hp).1 hpe
      .rcases mQ.1 hp with rfl|hp
       .exact⟨_,_,_,hb⟩
       .exact(h5' p hp).2
    .cases hk
   .cases hk
  .rename_i ht;split at hk
   .rename_i hs;obtain⟨vs,b',G,h1,h2,h3,h4,h5⟩:=acH h hk;refine⟨_,b',G,h1,h2,h3,.own0 ?_ (by simpa[xu]using hs) h4,h5⟩;simp only[aaO,(h.env t _ ht).v_,Sem.run_pure]
   .cases hk
  .cases hk
theorem aht{S:List Bx}{M:MM}{a:Act}{w:World}{e:Env}{b:Bxs}{r:ResultVar}{k:AV->Prop}{G:List (Nat×Nat)}(hG:∀p∈G,∃m,M p.1=some m/\m.own=true/\m.g=some p.2/\ld p.1 b=some .dead)(hτ:aaH P τ=true)(h:Sta N w0 X0 S M a w e b)(hk:ae3 τ e b r k):
 ∃u v,k v/\(aaO a.tmps r).run P w=.ok u w/\RepD w (G.map (·.2)++X0) u v:=by
 have sub:∀{S':List Bx} {M':MM},MS w0 w S' M'->(∀p∈G,M' p.1=M p.1)->∀x∈G.map (·.2)++X0,x∈bl S'++X0:=by
  intro S' M' hms hM x hx;rcases iH.1 hx with hx|hx
  .obtain⟨p,hp,rfl⟩:=dw.1 hx;obtain⟨m,h1,h2,h3,_⟩:=hG p hp;exact ng _ (dw.2 ⟨_,hms.inS p.1 m ((hM p hp).trans h1) h2 p.2 h3,rfl⟩)
  .exact kG _ hx
 unfold ae3 at hk;cases r with
 |tmp t =>
  simp only at hk;cases ht:ld t e with
  |none=>simp[ht]at hk
  |some v =>
   simp only[ht]at hk;obtain⟨v',f,S',M',h1,h2,h3,h4,h5⟩:=ac0 h (h.env t v ht) hk;refine⟨_,v',h1,rfl,h4.ext (Ext.drop (sub h2 λp hp=>h3.same p.1 λhm=>?_))⟩;obtain⟨q,hq,hqe⟩:=dw.1 hm;obtain⟨m,_,_,_,hd⟩:=hG p hp;rcases(h5 q.1 q.2 hq).1 with⟨T,s,es,h6⟩|⟨cs,h6⟩<;>rw[hqe,hd]at h6<;>cases h6
 |cell c t =>
  simp only at hk;split at hk
  .rename_i ti i ht hc;split at hk
   .rename_i cs hb;split at hk
    .rename_i v hv;obtain⟨m,g,hm,hvv,hg,hxe⟩:=(h.env c _ hc).ptr_;obtain⟨m',hm',h1,h2,⟨g',h3⟩,h4⟩:=h.box i _ hb;rw[hm]at hm';cases hm';obtain⟨u,hu,hR⟩:=ahv (M:=M) (aaq hτ ht) (Mem.of_row (h.row hm h2 hg)) h4 hv;refine⟨u,v,hk, ?_,(aeQ hv hR).ext (Ext.drop (sub h.ms λ_ _=>rfl))⟩;simp only[aaO,hxe,asAddr,Sem.run_bind,Sem.run_pure,Result.andThen_ok];rw[hu]
    .cases hk
   .cases hk
  .cases hk
theorem ais{S:List Bx}{M:MM}{a:Act}{w:World}{e:Env}{b:Bxs}{G0:List (Nat×Nat)}(hG:∀p∈G0,∃m,M p.1=some m/\m.own=true/\m.g=some p.2/\ld p.1 b=some .dead)(hτ:aaH P τ=true)(h:Sta N w0 X0 S M a w e b){l:List ResultVar}{vs:List (Option AV)}{G:List (Nat×Nat)}
 (hO:OwnR P w (bl S++X0) M a b l vs G):∀{k:List AV->Prop},af8 τ e b l vs k->∃us vs',k vs'/\(l.mapM (aaO a.tmps)).run P w=.ok us w/\RepFs w (G0.map (·.2)++X0) us vs' (G.map (·.2)):=by
 have sub:∀x∈G0.map (·.2)++X0,x∈bl S++X0:=by
  intro x hx;rcases iH.1 hx with hx|hx
  .obtain⟨p,hp,rfl⟩:=dw.1 hx;obtain⟨m,h1,h2,h3,_⟩:=hG p hp;exact ng _ (dw.2 ⟨_,h.ms.inS p.1 m h1 h2 p.2 h3,rfl⟩)
  .exact kG _ hx
 have step:∀{r:ResultVar} {l:List ResultVar} {u:Value} {us:List Value},(aaO a.tmps r).run P w=.ok u w->(l.mapM (aaO a.tmps)).run P w=.ok us w->((r::l).mapM (aaO a.tmps)).run P w=.ok (u::us) w:=by
  intro r l u us h1 h2;rw[List.mapM_cons,Sem.run_bind,h1];simp only[Result.andThen_ok,Sem.run_bind,h2,Sem.run_pure]
 induction hO with
 |nil=>intro k hk;exact⟨[],[],hk,η,.nil⟩
 |no t ih =>
  rename_i r l vs G;intro k hk
  have hk:ae3 τ e b r λv=>af8 τ e b l vs λus=>k (v::us):=by
   cases r<;>exact hk
  obtain⟨u,v,h1,h2,h3⟩:=aht hG hτ h hk;obtain⟨us,vs',q1,q2,q3⟩:=ih h1;exact⟨_,_,q1,step h2 q2,.d h3 q3⟩
 |own0 hr hs t ih =>
  intro k hk;simp only[af8]at hk;obtain⟨us,vs',q1,q2,q3⟩:=ih hk;exact⟨_,_,q1,step hr q2,.own0 hs q3⟩
 |own hr hs hg hS hc hm hn hM ho hmg hd hid t ih =>
  intro k hk;simp only[af8]at hk;obtain⟨us,vs',q1,q2,q3⟩:=ih hk;exact⟨_,_,q1,step hr q2,.own hs hg (hS.ext (Ext.drop sub)) hc hm hn q3⟩
theorem ajf{B:Nat}{w:World}{us:List Value}{vs:List AV}{G:List Nat}(h:RepFs w (G++X0) us vs G)(hB:∀g∈G,B<=g)(hnd:G.Nodup):RepF B w X0 (if h:us.toArray.size=1 then us.toArray[0]else .tuple us.toArray) (aai vs):=by
 have hlen:us.length=vs.length:=by
  generalize G++X0=XX at h;clear hB hnd;induction h<;>simp_all
 match us,vs,hlen,h with
 |[],[],_,h=>exact⟨[],[],G,.inl ⟨rfl,rfl⟩,hB,hnd,h⟩
 |[u],[v],_,h =>
  refine⟨[u],[v],G,.inr ⟨rfl,rfl, ?_⟩,hB,hnd,h⟩;cases h with
  |d hd _=>exact hd.notTup
  |own0=>rfl
  |own=>rfl
 |u::u'::us,v::v'::vs,_,h=>exact⟨_,_,G,.inl ⟨rfl,rfl⟩,hB,hnd,h⟩
end
section
variable {D:FuncId->List AV->AV->Prop} {τ:Tab}
theorem afs{o:Oper}{e:Env}{b:Bxs}{k k':AV->Bxs->Prop}(h:∀v f,k v f->k' v f)(hk:aop D τ o e b k):aop D τ o e b k':=by
 obtain⟨v,f,h1,h2⟩:=afN hk;exact h2 e b k' ⟨λ_ _=>rfl,λ_ _=>rfl⟩ (h v f h1)
theorem ae6{ids:List Nat}{b:Bxs}{p q:Prop}(h:p->q)(hp:NB ids b p):NB ids b q:=by
 cases ids with
 |nil=>exact h hp
 |cons i r =>
  unfold NB at hp ⊢;simp only at hp ⊢;split at hp
  .exact h hp
  .exact hp
theorem aeX{O:List Oper}{o:Oper}{e:Env}{b:Bxs}{k k':Env->AV->Bxs->Lg->Prop}(h:∀e v f l,k e v f l->k' e v f l)(hk:adQ D τ O o e b k):adQ D τ O o e b k':=by
 unfold adQ at hk ⊢;cases hg:o.guard with
 |none=>simp only[hg]at hk;exact ae6 (afs (λv f q=>h _ _ _ _ q)) hk
 |some jw =>
  obtain⟨j,want⟩:=jw;simp only[hg]at hk ⊢;cases hs:abP O j with
  |none=>simp[hs]at hk
  |some t =>
   simp only[hs]at hk ⊢
   have key:∀(q:Bool),(match q == want with
    |true=>NB (alO o) b (aop D τ o ((t,.bool q)::e) b λv f=>k ((t,.bool q)::e) v f (ae1 o ((t,.bool q)::e) b v f))
    |false=>k ((t,.bool q)::e) .bad [] ⟨[],[],[],[]⟩)->(match q == want with
    |true=>NB (alO o) b (aop D τ o ((t,.bool q)::e) b λv f=>k' ((t,.bool q)::e) v f (ae1 o ((t,.bool q)::e) b v f))
    |false=>k' ((t,.bool q)::e) .bad [] ⟨[],[],[],[]⟩):=by
    intro q hq;cases hw:q == want with
    |true=>rw[hw]at hq;exact ae6 (afs (λv f q=>h _ _ _ _ q)) hq
    |false=>rw[hw]at hq;exact h _ _ _ _ hq
   split at hk
   .exact⟨λhp=>key _ (hk.t hp),λhp=>key _ (hk.f hp)⟩
   .exact h _ _ _ _ hk
   .cases hk
theorem aeN{O:List Oper}{k k':Env->Bxs->Prop}(h:∀e b,k e b->k' e b):∀{l:List Oper} {e:Env} {b:Bxs},aer D τ O l e b k->aer D τ O l e b k'
 |[],e,b,hk=>h e b hk
 |o::r,e,b,hk=>by
  simp only[aer,ae8,acn]at hk ⊢;exact aeX (λe v f l q=>aeN h q) hk
theorem aeV{O:List Oper}{k k':Env->Bxs->List Lg->Prop}(h:∀e b l,k e b l->k' e b l):∀{l:List Oper} {e:Env} {b:Bxs} {lg:List Lg},aen D τ O l e b lg k->aen D τ O l e b lg k'
 |[],e,b,lg,hk=>h e b lg hk
 |o::r,e,b,lg,hk=>by
  simp only[aen,af5,acn]at hk ⊢;exact aeX (λe v f l q=>aeV h q) hk
theorem agN{dr:Bool}{O:List Oper}{e:Env}{b:Bxs}{k k':Env->Bxs->Prop}(h:∀e b,k e b->k' e b)(hk:aex D τ dr O e b k):aex D τ dr O e b k':=by
 cases dr with
 |false=>exact aeN h hk
 |true =>
  simp only[aex,aee]at hk ⊢;exact ae6 (aeV λe b l q=>⟨q.ok,h e b q.k⟩) hk
theorem abD:∀(c:Code) {Q Q':Ex->Env->Bxs->Prop} {e:Env} {b:Bxs},(∀z e b,Q z e b->Q' z e b)->awp D τ c Q e b->awp D τ c Q' e b
 |.skip,Q,Q',e,b,h,hk=>h _ _ _ hk
 |.ret,Q,Q',e,b,h,hk=>h _ _ _ hk
 |.exit id,Q,Q',e,b,h,hk=>h _ _ _ hk
 |.region id ops dr,Q,Q',e,b,h,hk=>agN (h .normal) hk
 |.seq x y,Q,Q',e,b,h,hk=>abD x (λz e b q=>by cases z<;>first|exact abD y h q|exact h _ _ _ q) hk
 |.cond c x y,Q,Q',e,b,h,hk=>by
  simp only[awp]at hk ⊢;split at hk
  .rename_i p hp;refine⟨λh1=>?_,λh1=>?_⟩
   .exact abD x h (hk.t h1)
   .exact abD y h (hk.f h1)
  .cases hk
 |.block id x,Q,Q',e,b,h,hk=>abD x (λz e b q=>by
  cases z with
  |normal=>exact h _ _ _ q
  |ret=>exact h _ _ _ q
  |exit i =>
   simp only at q ⊢;cases hi:Nat.beq i id with
   |true=>rw[hi]at q;exact h _ _ _ q
   |false=>rw[hi]at q;exact h _ _ _ q) hk
 |.loop x,Q,Q',e,b,h,hk=>⟨λI h1 h2 h3=>hk.wl I (λe b hF=>h1 e b (abD x (λz e b q=>by cases z<;>first|exact q|exact h _ _ _ q) hF)) h2 h3⟩
 |.rangeFunc _ _ _ _,Q,Q',e,b,h,hk=>False.elim hk
 |.scope _,Q,Q',e,b,h,hk=>False.elim hk
 |.label _,Q,Q',e,b,h,hk=>False.elim hk
 |.goto _,Q,Q',e,b,h,hk=>False.elim hk
 |.refuse _,Q,Q',e,b,h,hk=>False.elim hk
variable {x:Code} {Q:Ex->Env->Bxs->Prop} {e:Env} {b:Bxs}
theorem Loop.unroll(h:awp D τ x (λz e b=>match z with|.normal=>Loop (awp D τ x) Q e b|z=>Q z e b) e b):Loop (awp D τ x) Q e b :=
 ⟨λI h1 h2 h3=>h1 e b (abD x (λz e b q=>by cases z<;>first|exact q.wl I h1 h2 h3|exact q) h)⟩
theorem Loop.ghost(t i T s:Nat)(h:Loop (awp D τ x) Q ((t,.gs i 0)::e) ((i,.grow T s [])::b))(h1:ld t e=some (.c (.v (.slice none 0 0))))(h2:mention [i] e=false)(h3:ld i b=none)(h4:0<s)(h5:aa3 [i] b=false:=by rfl):Loop (awp D τ x) Q e b :=
 ⟨λI k1 k2 k3=>k3 e b t i T s (h.wl I k1 k2 k3) h1 h2 h3 h4 h5⟩
structure Again {α:Type} (E:α->Env) (B:α->Bxs) (p:α->Prop) (μ:α->Nat) (n:Nat) (e:Env) (b:Bxs) (y:α):Prop where
 e:SubE (E y) e
 b:SubB (B y) b
 p:p y
 lt:μ y<n
theorem Loop.inv{α:Type}(E:α->Env)(B:α->Bxs)(p:α->Prop)(μ:α->Nat)(x0:α)(he:SubE (E x0) e)(hb:SubB (B x0) b)(hp:p x0)
 (step:∀y,p y->awp D τ x (λz e b=>match z with|.normal=>∃y',Again E B p μ (μ y) e b y'|z=>Q z e b) (E y) (B y)):Loop (awp D τ x) Q e b:=by
 refine⟨λI h1 h2 h3=>h2 _ _ _ _ ?_ he hb⟩
 have key:∀n y,μ y=n->p y->I (E y) (B y):=by
  intro n;induction n using Nat.strongRecOn with
  |_ n ih =>
   intro y hn hy;refine h1 _ _ (abD x (λz e b q=>?_) (step y hy));cases z with
   |normal =>
    obtain⟨y',q1,q2,q3,q4⟩:=q;exact h2 _ _ _ _ (ih (μ y') ω y' rfl q3) q1 q2
   |ret=>exact q
   |exit id=>exact q
 exact key _ x0 rfl hp
end
class DenI (P:Program) [Wld P] (f:FuncId) (xs:List AV) (pre:outParam Prop) (r:outParam AV):Prop where
 den:pre->Den P f xs r
structure Pr (p:Prop):Prop where
 p:p
theorem zar:type_of% @Pr.mk:=@Pr.mk
section
variable {P:Program} [Wld P]
theorem y5{f:FuncId}{xs:List AV}{pre:Prop}{r:AV}{k:AV->Prop}[h:DenI P f xs pre r](hp:Pr pre)(hk:k r):CallP (Den P) f xs k:=⟨r,h.den hp.p,hk⟩
theorem aaj{f:FuncId}{xs:List AV}{r:AV}{k:AV->Prop}[h:DenI P f xs True r](hk:k r):CallP (Den P) f xs k:=⟨r,h.den trivial,hk⟩
theorem aax{p k:Prop}(hp:Pr p)(hk:k):Obl p k:=⟨hp.p,hk⟩
theorem aam{k:Bool->Prop}(h:k true):OnB true k:=⟨λ_=>h,λh=>Bool.noConfusion h⟩
theorem aao{k:Bool->Prop}(h:k false):OnB false k:=⟨λh=>Bool.noConfusion h,λ_=>h⟩
theorem aah{p:Prop}[Decidable p]{k:Bool->Prop}(ht:p->k true)(hf:¬p->k false):OnB (decide p) k:=⟨λh=>ht (of_decide_eq_true h),λh=>hf (of_decide_eq_false h)⟩
theorem aav{p:Prop}[Decidable p]{k:Bool->Prop}(ht:¬p->k true)(hf:p->k false):OnB (!decide p) k:=⟨λh=>ht (by simpa using h),λh=>hf (by simpa using h)⟩
end
@[reducible] def lmc(l:List Nat):Cell:=.sl 1 (l.map λx=>[.v (u32 x)])
@[reducible] def zs(n:Int):Cell:=.v (.bool (decide (n<0)))
@[reducible] def zl(n:Int):Cell:=lmc (lim n.natAbs)
@[reducible] def Z(n:Int):AV:=.agg [zs n,zl n]
@[reducible] def Zr(neg:Bool)(l:List Nat):AV:=.agg [.v (.bool neg),lmc l]
@[reducible] def R(q:Rat):AV:=.agg [zs q.num,zl q.num,zs q.den,zl q.den]
theorem agK(l:List Nat):(l.map λx=>[u32 x]).flatten=us l:=by
 induction l with
 |nil=>rfl
 |cons x r ih=>simp[us]at ih ⊢;exact ih
theorem afI{w:World}{X:List Nat}:∀{l:List Nat} {uss:List (List Value)},RepS w X 1 uss (l.map λx=>[.v (u32 x)])->uss=l.map λx=>[u32 x]
 |[],uss,h=>zA (by simpa using h.len)
 |x::l,uss,h=>by
  cases uss with
  |nil=>have:=h.len;simp at this
  |cons us r =>
   have h0:=h.get 0 us [.v (u32 x)] rfl rfl;obtain⟨u,r',rfl,h1,h2⟩:=h0.inv;have hr':r'=[]:=zA (by simpa using h2.len);subst hr';cases h1;have ih:=afI (w:=w) (X:=X) (l:=l) (uss:=r) ⟨by simpa using h.len,λus hu=>h.sz us (by simp[hu]),λi us e a b=>h.get (i+1) us e (by simpa using a) (by simpa using b)⟩;rw[ih];rfl
theorem UL.of_rep{w:World}{X:List Nat}{u:Value}{l:List Nat}(h:RepC w X u (lmc l)):UL w X u l:=by
 obtain⟨A,cap,uss,rfl,h1,h2,h3,h4⟩:=RepS.of_sl h;have:=afI h4;subst this;rw[agK]at h3;exact⟨A,_,cap,rfl,η,h3,by simpa using h1,h2⟩
theorem UL.rep{w:World}{X:List Nat}{u:Value}{l:List Nat}(h:UL w X u l):RepC w X u (lmc l):=by
 obtain⟨A,n,c,rfl,rfl,h1,h2,h3⟩:=h
 have hS:RepS w X 1 (l.map λx=>[u32 x]) (l.map λx=>[.v (u32 x)]):=by
  refine⟨η,λus hu=>?_,λi us e a b=>?_⟩
  .obtain⟨x,_,rfl⟩:=dw.1 hu;rfl
  .rw[rE]at a b;cases hx:l[i]? with
   |none=>simp[hx]at a
   |some x =>
    simp[hx]at a b;subst a b;exact .cons (.v _ rfl) (.nil _ _)
 have:=hS.sl (A:=A) (cap:=c) (by rw[agK];exact h1) (by simpa using h2) h3;simpa using this
theorem Raw.of_rep{w:World}{X:List Nat}{u:Value}{neg:Bool}{l:List Nat}(h:RepD w X u (Zr neg l)):ajd w X u neg l:=by
 cases h with
 |agg h =>
  obtain⟨u0,r,rfl,h1,h2⟩:=h.inv;obtain⟨u1,r',rfl,h3,h4⟩:=h2.inv;have hr':r'=[]:=zA (by simpa using h4.len);subst hr';cases h1;obtain⟨A,n,c,rfl,rfl,h5⟩:=UL.of_rep h3;exact⟨_,rfl,A,c,rfl,h5⟩
theorem IntV.of_rep{w:World}{X:List Nat}{u:Value}{n:Int}(h:RepD w X u (Z n)):IntV w X u n:=Raw.of_rep h
theorem aaW{l c:Int}{by_:Nat}{k:Nat->Prop}(hp:Pr (0<=l/\l<=c/\c*(by_+1)<=140737488355328))(hk:k l.toNat):MkS l c by_ k:=by
 obtain⟨⟨h1,h2,h3⟩⟩:=hp;refine⟨l.toNat,c.toNat,ω,ω,ω, ?_,hk⟩
 have:((c.toNat * (by_+1):Nat):Int)<=140737488355328:=by
  rw[KD,Int.toNat_of_nonneg ω,Int.natCast_add];exact h3
 omega
theorem aa2{n:Nat}{lo hi mx:Option Int}{k:Nat->Nat->Prop}(hp:Pr (0<=lo.getD 0/\lo.getD 0<=hi.getD n/\hi.getD n<=mx.getD n/\mx.getD n<=n/\(mx.isSome=true->hi.isSome=true)))(hk:k (lo.getD 0).toNat (hi.getD n).toNat):SlP n lo hi mx k:=by
 obtain⟨⟨h1,h2,h3,h4,h5⟩⟩:=hp;exact⟨_,_,(mx.getD n).toNat,ω,ω,ω,ω,ω,ω,h5,hk⟩
theorem aar{M:Type}(d:M){f:M->List Cell}{l:List M}{i:Int}{k:List Cell->Prop}(hp:Pr (0<=i/\i<l.length))(hk:k (f (l.getD i.toNat d))):Elem (l.map f) i k:=by
 obtain⟨⟨h1,h2⟩⟩:=hp;have hlt:i.toNat<l.length:=ω
 refine⟨i.toNat,_,ω, ?_,hk⟩;simp[List.getD,hlt]
theorem aaB{l:List Nat}{i:Int}{k:List Cell->Prop}(hp:Pr (0<=i/\i<l.length))(hk:k [.v (u32 (l.getD i.toNat 0))]):Elem (l.map λx=>[.v (u32 x)]) i k:=aar 0 hp hk
theorem aaA{e:List Cell}{es:List (List Cell)}{k:List Cell->Prop}(hk:k e):Elem (e::es) 0 k:=⟨0,e,rfl,rfl,hk⟩
theorem aaK{e e':List Cell}{es:List (List Cell)}{k:List Cell->Prop}(hk:k e'):Elem (e::e'::es) 1 k:=⟨1,e',rfl,rfl,hk⟩
section
variable {P:Program} [Wld P] {f:FuncId} {r:AV}
def RR(P:Program)(f:FuncId)(vs:Array Value)(w:World)(X:List Nat)(r:AV):Prop:=Calls P f vs w (Ret λu w'=>RepR w' X u r/\Below w.heap.size w w')
theorem RR.den{vs:Array Value}{w:World}{X:List Nat}(h:RR P f vs w X r):Calls P f vs w (Ret λu w'=>RepF w.heap.size w' X u r/\Below w.heap.size w w') :=
 h.mono λe w' ⟨u,he,hi,hb⟩=>⟨u,he,hi.f,hb⟩
theorem ajm{x y:AV}(hb:aaM P f=true)(h:∀(w:World) (X:List Nat) (u v:Value),(∀m∈X,m<w.heap.size)->RepD w X u x->RepD w X v y->RR P f #[u,v] w X r)(hn:abA [x,y]=true:=by rfl):Den P f [x,y] r :=
 Den.of ⟨hb,λw X vs _ hX hl hr=>by
  obtain⟨u,v,rfl⟩:∃u v,vs=[u,v]:=by
   match vs,hl with
   |[u,v],_=>exact⟨u,v,rfl⟩
  exact RR.den (h w X u v hX (hr 0 u x rfl rfl) (hr 1 v y rfl rfl))⟩ hn
theorem RepD.v{w:World}{X:List Nat}{x:Value}{u:Value}(h:RepD w X u (.c (.v x))):u=x:=by
 cases h with
 |c h=>cases h;rfl
theorem RepD.int_{w:World}{X:List Nat}{u:Value}{n:Int}(h:RepD w X u (Z n)):IntV w X u n:=IntV.of_rep h
theorem RepD.ul{w:World}{X:List Nat}{l:List Nat}{u:Value}(h:RepD w X u (.c (lmc l))):UL w X u l:=by
 cases h with
 |c h=>exact UL.of_rep h
theorem ajq{w:World}{X:List Nat}{u v:Value}{x y:AV}(h:RepD w X u x)(k:RepD w X v y):RepR w X (.tuple #[u,v]) (.tup [x,y]) :=
 .tup (us:=[u,v]) rfl λi a b ha hb=>by
  match i,ha,hb with
  |0,ha,hb=>simp at ha hb;subst ha hb;exact h
  |1,ha,hb=>simp at ha hb;subst ha hb;exact k
end
open Go.ChangeShapes Go.WideShapes Go.ChangeAt Go.Joins Go.Deep
inductive TS where
 |int (k:IntKind)
 |bool
 |str
 |slice (e:TS)
 |nil
 |cons (a b:TS)
def TS.n:TS->Nat
 |.int _=>1
 |.bool=>1
 |.str=>1
 |.slice _=>1
 |.nil=>0
 |.cons a b=>a.n+b.n
def TS.one:TS->Bool
 |.nil=>false
 |.cons _ _=>false
 |_=>true
def Fit:TS->List Cell->Prop
 |.int k,cs=>∃n,(Lit.int k n).wf=true/\cs=[.v (.int k n)]
 |.bool,cs=>∃b,cs=[.v (.bool b)]
 |.str,cs=>∃s,s.size<=maxLen/\cs=[.v (.string s)]
 |.slice e,cs=>∃es,es.length<=maxLen/\(∀x∈es,Fit e x)/\cs=[.sl e.n es]
 |.nil,cs=>cs=[]
 |.cons a b,cs=>∃x y,Fit a x/\Fit b y/\cs=x++y
theorem Fit.len:∀{T:TS} {cs:List Cell},Fit T cs->cs.length=T.n
 |.int _,_,⟨_,_,h⟩=>by subst h;rfl
 |.bool,_,⟨_,h⟩=>by subst h;rfl
 |.str,_,⟨_,_,h⟩=>by subst h;rfl
 |.slice _,_,⟨_,_,_,h⟩=>by subst h;rfl
 |.nil,_,h=>by rw[show _=[]from h];rfl
 |.cons a b,_,⟨x,y,h1,h2,h⟩=>by subst h;simp[TS.n,Fit.len h1,Fit.len h2]
def agA(P:Program):Nat->List Field->Bool
 |_,[]=>true
 |o,f::r=>decide (f.offset=o)&&agA P (o+P.cellsOf f.type) r
def acW(P:Program)(t:TypeId):Option (List TypeId) :=
 match P.underlying t with
 |some (.struct fs)=>if agA P 0 fs.toList&&Nat.beq (P.cellsOf t) (fs.toList.map λf=>P.cellsOf f.type).sum then some (fs.toList.map (·.type))else none
 |some (.array n e)=>if Nat.beq (P.cellsOf t) (n*P.cellsOf e)then some (List.replicate n e)else none
 |_=>none
def abq(P:Program):TS->TypeId ⊕ List TypeId->Bool
 |.int k,.inl t=>(match P.underlying t with|some (.int k')=>decide (k'=k)|_=>false)
 |.bool,.inl t=>(match P.underlying t with|some .bool=>true|_=>false)
 |.str,.inl t=>(match P.underlying t with|some .string=>true|_=>false)
 |.slice e,.inl t=>(match P.underlying t with|some (.slice u)=>abq P e (.inl u)&&Nat.beq (P.cellsOf u) e.n&&Nat.blt 0 e.n|_=>false)
 |.nil,.inl t=>(match acW P t with|some []=>true|_=>false)
 |.cons a b,.inl t=>(match acW P t with|some (u::us)=>abq P a (.inl u)&&abq P b (.inr us)|_=>false)
 |.nil,.inr []=>true
 |.cons a b,.inr (u::us)=>abq P a (.inl u)&&abq P b (.inr us)
 |_,_=>false
section
variable {P:Program} {H:Type} {enc:TypeId × Value->H} {w:World}
def afo(enc:TypeId×Value->H)(P:Program)(w:World):List TypeId->List Value->Prop
 |[],cs=>cs=[]
 |t::ts,cs=>∃a b fuel x,cs=a++b/\DataW.trod enc P w 0 (λ_=>true) true fuel t a=some x/\afo enc P w ts b
theorem ac7{fuel:Nat}:∀(fs:List Field) (o:Nat) (cs:List Value),agA P o fs=true->cs.length=o+(fs.map λf=>P.cellsOf f.type).sum ->
 (∀f∈fs,∃x,DataW.trod enc P w 0 (λ_=>true) true fuel f.type ((cs.drop f.offset).take (P.cellsOf f.type))=some x)->afo enc P w (fs.map (·.type)) (cs.drop o)
 |[],o,cs,_,hl,_=>by
  simp only[eF,List.sum_nil,JU]at hl;exact Qb ω
 |f::r,o,cs,hr,hl,h=>by
  simp only[agA,bG,decide_eq_true_eq]at hr;obtain⟨rfl,h2⟩:=hr;obtain⟨x,hx⟩:=h f η;refine⟨_,_,fuel,x, ?_,hx,ac7 r (f.offset+P.cellsOf f.type) cs h2 (by simp only[dJ,List.sum_cons]at hl;omega) λg hg=>h g (by simp[hg])⟩;rw[<-List.drop_drop,FP]
theorem adZ{fuel:Nat}{e:TypeId}:∀(n o:Nat) (cs:List Value),cs.length=(o+n)*P.cellsOf e ->
 (∀i,i<n->∃x,DataW.trod enc P w 0 (λ_=>true) true fuel e ((cs.drop ((o+i)*P.cellsOf e)).take (P.cellsOf e))=some x)->afo enc P w (List.replicate n e) (cs.drop (o*P.cellsOf e))
 |0,o,cs,hl,_=>by
  exact Qb (by rw[hl];simp)
 |n+1,o,cs,hl,h=>by
  obtain⟨x,hx⟩:=h 0 ω
  have:=adZ n (o+1) cs (by rw[hl];congr 1;omega) λi hi=>by
   obtain⟨x,hx⟩:=h (i+1) ω;refine⟨x, ?_⟩;rw[show o+1+i=o+(i+1) by omega];exact hx
  refine⟨_,_,fuel,x, ?_,hx,this⟩;rw[JU,GX,<-List.drop_drop,FP]
theorem afe{a:Addr}{v:Value}(h:w.cell? a=some v):a.block<w.heap.size:=by
 unfold World.cell? at h;rcases sW a.block w.heap.size with h1|h1
 .exact h1
 .have:w.heap[a.block]?=none:=by simp[h1]
  rw[this]at h;simp at h
theorem cells?_mem{base n:Nat}{a:Addr}{us:List Value}(h:w.cells? base a n=some us):us.length=n/\∀(j:Nat) u,us[j]?=some u->w.cell? (a.add j)=some u:=by
 unfold World.cells? at h;split at h
 .refine⟨by simpa using mapM_some_length h,λj u hu=>?_⟩;have hj:j<n:=by have:=(iy.1 hu).1;have:=mapM_some_length h;simp at this;omega
  have:=mapM_some_get h j j (by simp[hj]);rw[this,hu]
 .cases h
theorem aeW{α:Type}{Q:Nat->α->Prop}:∀{n:Nat},(∀i,i<n->∃x,Q i x)->∃l:List α,l.length=n/\∀(i:Nat) x,l[i]?=some x->Q i x
 |0,_=>⟨[],rfl,λi x h=>by simp at h⟩
 |n+1,h=>by
  obtain⟨l,h1,h2⟩:=aeW (n:=n) (Q:=Q) λi hi=>h i ω
  obtain⟨x,hx⟩:=h n ω;refine⟨l++[x],by simp[h1],λi y hy=>?_⟩;rcases sW i n with hi|hi
  .rw[zQ ω]at hy;exact h2 i y hy
  .rw[Kv ω]at hy
   have:i=n:=by
    have:=(iy.1 hy).1;simp at this;omega
   subst this;simp[h1]at hy;subst hy;exact hx
theorem afq{t:TypeId}{ts:List TypeId}{fuel:Nat}{cs:List Value}{x:DataW H×List MemPlace}(hk:acW P t=some ts)(h:DataW.trod enc P w 0 (λ_=>true) true fuel t cs=some x):afo enc P w ts cs:=by
 unfold acW at hk;split at hk
 .rename_i fs hu;split at hk
  .rename_i hc;injection hk with hk
   subst hk;simp only[bG]at hc;obtain⟨xs,n,_,_,h2,h3,h4⟩:=DataW.trod_struct hu h
   have:=ac7 (enc:=enc) (P:=P) (w:=w) (fuel:=n) fs.toList 0 cs hc.1 (by rw[h2,iO hc.2,nU]) λf hf=>by
    obtain⟨i,hi⟩:=List.getElem?_of_mem hf;have hi':i<fs.size:=by have:=(iy.1 hi).1;simpa using this
    have:=h4 i f (by simpa using hi);rw[this];exact⟨_,eY ω⟩
   simpa using this
  .cases hk
 .rename_i n e hu;split at hk
  .rename_i hc;injection hk with hk
   subst hk;obtain⟨xs,m,_,_,h2,h3,h4⟩:=DataW.trod_array hu h
   have:=adZ (enc:=enc) (P:=P) (w:=w) (fuel:=m) (e:=e) n 0 cs (by rw[h2,iO hc,nU]) λi hi=>by
    have:=h4 i hi;rw[nU,this];exact⟨_,eY ω⟩
   simpa using this
  .cases hk
 .cases hk
theorem acf:∀(T:TS),(∀t,abq P T (.inl t)=true->∀fuel cs x,DataW.trod enc P w 0 (λ_=>true) true fuel t cs=some x->∃cl,Fit T cl/\RepL w [] cs cl) /\
 (∀ts,abq P T (.inr ts)=true->∀cs,afo enc P w ts cs->∃cl,Fit T cl/\RepL w [] cs cl)
 |.int k=>⟨λt ht fuel cs x h=>(by
  simp only[abq]at ht;split at ht
  .rename_i k' hu;have:=of_decide_eq_true ht;subst this;obtain⟨n,rfl,h1,h2⟩:=DataW.trod_int hu h
   first
    |exact⟨[.v (.int k' n)],⟨n,h1,rfl⟩,.cons (.v _ rfl) (.nil _ _)⟩|exact⟨[.v (.int k' n)],⟨n,h2,rfl⟩,.cons (.v _ rfl) (.nil _ _)⟩
  .cases ht),λts ht=>by simp[abq]at ht⟩
 |.bool=>⟨λt ht fuel cs x h=>(by
  simp only[abq]at ht;split at ht
  .rename_i hu;obtain⟨b,rfl,_⟩:=DataW.trod_bool hu h;exact⟨[.v (.bool b)],⟨b,rfl⟩,.cons (.v _ rfl) (.nil _ _)⟩
  .cases ht),λts ht=>by simp[abq]at ht⟩
 |.str=>⟨λt ht fuel cs x h=>(by
  simp only[abq]at ht;split at ht
  .rename_i hu;obtain⟨s,rfl,h1,h2⟩:=DataW.trod_string hu h
   first
    |exact⟨[.v (.string s)],⟨s,h1,rfl⟩,.cons (.v _ rfl) (.nil _ _)⟩|exact⟨[.v (.string s)],⟨s,h2,rfl⟩,.cons (.v _ rfl) (.nil _ _)⟩
  .cases ht),λts ht=>by simp[abq]at ht⟩
 |.slice e=>⟨λt ht fuel cs x h=>(by
  simp only[abq]at ht;split at ht
  .rename_i u hu;simp only[bG]at ht;obtain⟨⟨h1,h2⟩,h3⟩:=ht;have h2:=iO h2;have h3:0<e.n:=by simpa[xu]using h3
   rcases DataW.trod_slice hu h with⟨rfl,_⟩|⟨a,len,cap,elems,rest,n,rfl,rfl,_,_,hl,hc,hlen,hel,_,_⟩
   .exact⟨[.sl e.n []],⟨[],η,λx hx=>by simp at hx,rfl⟩,.cons (.nil _ _ _) (.nil _ _)⟩
   .have ex:∀i,i<len->∃q:List Value×List Cell,Fit e q.2/\RepL w [] q.1 q.2/\∀(j:Nat) v,q.1[j]?=some v->w.cell? ((a.add (i*e.n)).add j)=some v:=λi hi=>by
     have hE:=hel i hi;have hi':i<elems.length:=ω
     rw[eY hi',h2]at hE;simp only[Option.bind_eq_some_iff]at hE;obtain⟨us,hus,htr⟩:=hE;obtain⟨cl,f1,f2⟩:=(acf e).1 u h1 _ _ _ htr;exact⟨(us,cl),f1,f2,(cells?_mem hus).2⟩
    obtain⟨l,l1,l2⟩:=aeW ex
    have hS:RepS w [] e.n (l.map (·.1)) (l.map (·.2)):=by
     refine⟨η,λus hus=>?_,λi us x hi hx=>?_⟩
     .obtain⟨q,hq,rfl⟩:=dw.1 hus;obtain⟨i,hi⟩:=List.getElem?_of_mem hq;have:=l2 i q hi;rw[this.2.1.len];exact this.1.len
     .rw[rE]at hi hx;cases hq:l[i]? with
      |none=>rw[hq]at hi;cases hi
      |some q =>
       rw[hq]at hi hx;simp at hi hx;subst hi hx;exact(l2 i q hq).2.1
    have hCl:Cl w [] (some a) (l.map (·.1)).flatten:=λhne=>by
     have fl:∀(q:Nat) v,(l.map (·.1)).flatten[q]?=some v->w.cell? (a.add q)=some v:=λq v hv=>by
      have hq:q<l.length*e.n:=by
       have:=(iy.1 hv).1
       rwa [aaD hS.sz,aN]at this
      have hi:q/e.n<l.length:=Nat.div_lt_of_lt_mul (by rw[wU];exact hq);have hj:q%e.n<e.n:=oO _ h3;have e1:q/e.n*e.n+q%e.n=q:=by rw[wU];exact Nat.div_add_mod _ _
      have:=aaR hS.sz (i:=q/e.n) (us:=(l[q/e.n]).1) (by rw[rE,eY hi];rfl) (q%e.n) hj;rw[e1,hv]at this;have:=(l2 _ _ (eY hi)).2.2 _ _ this.symm
      rwa [add_add',e1]at this
     have hpos:0<(l.map (·.1)).flatten.length:=List.length_pos_iff.2 hne;have h0:=fl 0 _ (eY hpos);have hb:=afe h0;rw[block_add]at hb;exact⟨a,rfl,hb,η,fl⟩
    refine⟨[.sl e.n (l.map (·.2))],⟨_,κ,λx hx=>?_,rfl⟩,.cons ?_ (.nil _ _)⟩
    .obtain⟨q,hq,rfl⟩:=dw.1 hx;obtain⟨i,hi⟩:=List.getElem?_of_mem hq;exact(l2 i q hi).1
    .have:=hS.sl hCl (cap:=cap) κ hc;simp only[aN,l1]at this;exact this
  .cases ht),λts ht=>by simp[abq]at ht⟩
 |.nil=>⟨λt ht fuel cs x h=>(by
  simp only[abq]at ht
  have hk:acW P t=some []:=by
   split at ht
   .assumption
   .cases ht
  have:=afq hk h;rw[show cs=[]from this]
  exact⟨[],rfl,.nil _ _⟩),λts ht cs h=>by
  cases ts with
  |nil=>rw[show cs=[]from h];exact⟨[],rfl,.nil _ _⟩
  |cons _ _=>simp[abq]at ht⟩
 |.cons a b=>⟨λt ht fuel cs x h=>(by
  simp only[abq]at ht;split at ht
  .rename_i u us hk;simp only[bG]at ht;obtain⟨c1,c2,fuel',x',rfl,h1,h2⟩:=afq hk h;obtain⟨l1,f1,r1⟩:=(acf a).1 u ht.1 _ _ _ h1;obtain⟨l2,f2,r2⟩:=(acf b).2 us ht.2 _ h2;exact⟨_,⟨l1,l2,f1,f2,rfl⟩,r1.append r2⟩
  .cases ht),λts ht cs h=>by
  cases ts with
  |nil=>simp[abq]at ht
  |cons u us =>
   simp only[abq,bG]at ht;obtain⟨c1,c2,fuel',x',rfl,h1,h2⟩:=h;obtain⟨l1,f1,r1⟩:=(acf a).1 u ht.1 _ _ _ h1;obtain⟨l2,f2,r2⟩:=(acf b).2 us ht.2 _ h2
   exact⟨_,⟨l1,l2,f1,f2,rfl⟩,r1.append r2⟩⟩
theorem agd{T:TS}{t:TypeId}{r:Reach}{b0:Nat}{v:Value}(h1:T.one=true)(ht:abq P T (.inl t)=true)(hv:Value.okWide P w r b0 t v):v.cells = #[v]:=by
 cases T with
 |nil=>cases h1
 |cons _ _=>cases h1
 |int k =>
  simp only[abq]at ht;split at ht
  .rename_i k' hu;simp only[Value.okWide,hu,Cell.okWide,Cell.ok]at hv;cases v<;>first|rfl|exact False.elim hv
  .cases ht
 |bool =>
  simp only[abq]at ht;split at ht
  .rename_i hu;simp only[Value.okWide,hu,Cell.okWide,Cell.ok]at hv;cases v<;>first|rfl|exact False.elim hv
  .cases ht
 |str =>
  simp only[abq]at ht;split at ht
  .rename_i hu;simp only[Value.okWide,hu,Cell.okWide,Cell.ok]at hv;cases v<;>first|rfl|exact False.elim hv
  .cases ht
 |slice e =>
  simp only[abq]at ht;split at ht
  .rename_i u hu;simp only[Value.okWide,hu,Cell.okWide,Cell.ok]at hv;cases v<;>first|rfl|exact False.elim hv
  .cases ht
def ah7(T:TS)(x:AV):Prop:=match T.one with
 |true=>∃c,Fit T [c]/\x=.c c
 |false=>∃cl,Fit T cl/\x=.agg cl
theorem ahN{T:TS}{t:TypeId}{r:Reach}{b0:Nat}{v:Value}{d:DataW H}{p:List MemPlace}(ht:abq P T (.inl t)=true)(hv:Value.okWide P w r b0 t v)(h:DataW.Trod enc P w 0 (λ_=>true) true t v d p):∃x,ah7 T x/\RepD w [] v x:=by
 obtain⟨fuel,h⟩:=h;obtain⟨cl,h1,h2⟩:=(acf T).1 t ht _ _ _ h;cases h3:T.one with
 |true =>
  have hc:=agd h3 ht hv;have hl:=h1.len;have hl1:T.n=1:=by cases T<;>first|rfl|cases h3
  rw[hc]at h2
  match cl,hl,h2 with
  |[c],_,h2 =>
   obtain⟨u,r',he,h5,_⟩:=h2.inv;simp at he;obtain⟨rfl,_⟩:=he;exact⟨.c c,by unfold ah7;rw[h3];exact⟨c,h1,rfl⟩,.c h5⟩
  |[],hl,_=>rw[hl1]at hl;simp at hl
  |_::_::_,hl,_=>rw[hl1]at hl;simp at hl
 |false =>
  have ha:∃cs,v=.agg cs:=by
   have hk:(acW P t).isSome=true:=by
    cases T with
    |nil=>simp only[abq]at ht;split at ht;rename_i hk;rw[hk];rfl;cases ht
    |cons a b=>simp only[abq]at ht;split at ht;rename_i hk;rw[hk];rfl;cases ht
    |int _=>cases h3
    |bool=>cases h3
    |str=>cases h3
    |slice _=>cases h3
   unfold acW at hk;unfold Value.okWide at hv;split at hk
   .rename_i hu;rw[hu]at hv;exact⟨_,hv.choose_spec.1⟩
   .rename_i hu;rw[hu]at hv;exact⟨_,hv.choose_spec.1⟩
   .cases hk
  obtain⟨cs,rfl⟩:=ha;refine⟨.agg cl,by unfold ah7;rw[h3];exact⟨cl,h1,rfl⟩, ?_⟩;have:RepD w [] (.agg cs.toList.toArray) (.agg cl):=.agg h2;simpa using this
def agt:List TS->List AV->Prop
 |[],xs=>xs=[]
 |T::Ts,xs=>∃x r,ah7 T x/\agt Ts r/\xs=x::r
def aeK(P:Program):List TS->List TypeId->Bool
 |[],[]=>true
 |T::Ts,t::ts=>abq P T (.inl t)&&aeK P Ts ts
 |_,_=>false
theorem aeA{r:Reach}{b0:Nat}:∀{Ts:List TS} {ts:List TypeId} {vs:List Value} {ds:List (DataW H)} {p:List MemPlace},aeK P Ts ts=true->(∀(j:Nat) t v,ts[j]?=some t->vs[j]?=some v->Value.okWide P w r b0 t v) ->
 DataW.TrodAll enc P w 0 (λ_=>true) true ts vs ds p->∃xs,agt Ts xs/\vs.length=xs.length/\∀(i:Nat) u v,vs[i]?=some u->xs[i]?=some v->RepD w [] u v
 |[],[],vs,ds,p,_,_,h=>by
  match vs,ds,h with
  |[],[],_=>exact⟨[],rfl,rfl,λi u v h=>by simp at h⟩
 |T::Ts,t::ts,vs,ds,p,hk,hv,h=>by
  simp only[aeK,bG]at hk
  match vs,ds,h with
  |v::vs,d::ds,⟨p1,p2,h1,h2,_⟩ =>
   obtain⟨x,f1,r1⟩:=ahN hk.1 (hv 0 t v rfl rfl) h1;obtain⟨xs,f2,l2,r2⟩:=aeA hk.2 (λj t v a b=>hv (j+1) t v (by simpa using a) (by simpa using b)) h2
   exact⟨x::xs,⟨x,xs,f1,f2,rfl⟩,by simp[l2],λi u y a b=>by
    cases i with
    |zero=>simp at a b;subst a b;exact r1
    |succ i=>exact r2 i u y (by simpa using a) (by simpa using b)⟩
 |[],_::_,_,_,_,hk,_,_=>by simp[aeK]at hk
 |_::_,[],_,_,_,hk,_,_=>by simp[aeK]at hk
theorem agS{w:World}{X:List Nat}{u:Value}{b:Bool}(h:RepR w X u (.bool b)):u=.bool b:=by
 generalize hv:AV.bool b=v at h;cases h with
 |d h =>
  cases h with
  |c h =>
   injection hv with hv
   subst hv;generalize hc:Cell.v (.bool b)=c at h;cases h with
   |v _ _=>injection hc with hc;exact hc.symm
   |sl=>cases hc
   |p=>cases hc
   |fn=>cases hc
  |agg h=>cases hv
 |tup _ _=>cases hv
def readAll(P:Program)(ts:List TypeId):Bool:=ts.all λt=>P.readableRec t&&Nat.blt t P.types.size
theorem acT{W W':World}(hl:laidOutB P=true)(hb:Below W.heap.size W W'):∀{ts:List TypeId} {vs:List Value} {ds:List (DataW H)} {p:List MemPlace},readAll P ts=true->(∀x∈p,x.block<W.heap.size)->DataW.TrodAll enc P W 0 (λ_=>true) true ts vs ds p ->
 DataW.TrodAll enc P W' 0 (λb=>decide (b<W.heap.size)) true ts vs ds p
 |[],[],[],p,_,_,h=>h
 |t::ts,v::vs,d::ds,p,hr,hlt,h=>by
  obtain⟨p1,p2,h1,h2,rfl⟩:=h;simp only[readAll,List.all_cons,bG]at hr;exact⟨p1,p2,Below.trod hl hr.1.1 (by simpa[xu]using hr.1.2) h1 hb (λx hx=>hlt x (iH.2 (.inl hx))),acT hl hb (ts:=ts) hr.2 (λx hx=>hlt x (iH.2 (.inr hx))) h2,rfl⟩
 |[],_::_,_,_,_,_,h=>h.elim
 |[],[],_::_,_,_,_,h=>h.elim
 |_::_,[],_,_,_,_,h=>h.elim
 |_::_,_::_,[],_,_,_,h=>h.elim
theorem aiy[Wld P]{f:FuncId}{Ts:List TS}{ts:List TypeId}{args:Array Value}{ds:List (DataW H)}{p:List MemPlace}{r:Reach}{b0:Nat}(hk:aeK P Ts ts=true)(hden:∀xs,agt Ts xs->Den P f xs (.bool true))
 (hv:∀(j:Nat) t v,ts[j]?=some t->args.toList[j]?=some v->Value.okWide P w r b0 t v) (h:DataW.TrodAll enc P w 0 (λ_=>true) true ts args.toList ds p) (ho:Wld.ok P w:=by trivial):Calls P f args w (Ret λu w'=>u=.bool true/\Below w.heap.size w w'):=by
 obtain⟨xs,h1,h2,h3⟩:=aeA hk hv h;have:=((hden xs h1).old (acd h2 h3)).2 w [] args.toList ho η h2 h3;simp only[Array.toArray_toList]at this;exact this.mono λe w' ⟨u,he,hr,hb⟩=>⟨u,he,agS hr.r,hb⟩
theorem air{k:IntKind}{c:Cell}(h:Fit (.int k) [c]):∃n,(Lit.int k n).wf=true/\c=.v (.int k n):=by
 obtain⟨n,h1,h2⟩:=h;exact⟨n,h1,by simpa using h2⟩
theorem aiE{k:IntKind}{n:Int}(hk:k=.u8\/k=.u16\/k=.u32\/k=.u64)(h:(Lit.int k n).wf=true):∃m:Nat,n=m/\m<2^k.bits:=by
 refine⟨n.toNat, ?_⟩;simp only[Lit.wf,bG,decide_eq_true_eq]at h;rcases hk with rfl|rfl|rfl|rfl<;>simp[IntKind.min,IntKind.max,IntKind.signed,IntKind.bits]at h ⊢<;>omega
theorem ajh{n:Int}(h:(Lit.int .i64 n).wf=true):-9223372036854775808<=n/\n<=9223372036854775807:=by
 simp only[Lit.wf,bG,decide_eq_true_eq]at h;simp[IntKind.min,IntKind.max,IntKind.signed,IntKind.bits]at h;omega
theorem aeS{cs:List Cell}(h:Fit (.slice (.int .u32)) cs):∃l:List Nat,l.length<=maxLen/\(∀x∈l,x<4294967296)/\cs=[lmc l]:=by
 obtain⟨es,h1,h2,rfl⟩:=h
 have:∀es:List (List Cell),(∀x∈es,Fit (.int .u32) x)->∃l:List Nat,l.length=es.length/\(∀x∈l,x<4294967296)/\es=l.map λx=>[Cell.v (.int .u32 (x:Nat))]:=by
  intro es;induction es with
  |nil=>exactλ_=>⟨[],rfl,λx h=>by simp at h,rfl⟩
  |cons e r ih =>
   intro h;obtain⟨l,l1,l2,l3⟩:=ih λx hx=>h x (by simp[hx])
   obtain⟨n,hn,rfl⟩:=h e η;obtain⟨m,rfl,hm⟩:=aiE (.inr (.inr (.inl rfl))) hn;exact⟨m::l,by simp[l1],λx hx=>by rcases mQ.1 hx with rfl|hx;exact hm;exact l2 x hx,by simp[l3]⟩
 obtain⟨l,l1,l2,l3⟩:=this es h2;exact⟨l,ω,l2,by rw[l3];rfl⟩
theorem adz{W:World}{sp:Nat->Bool}:∀{ts:List TypeId} {vs:List Value} {ds:List (DataW H)} {p:List MemPlace},DataW.TrodAll enc P W 0 sp true ts vs ds p->ds.length=ts.length
 |[],[],[],_,_=>rfl
 |_::ts,_::vs,_::ds,_,⟨_,_,_,h,_⟩=>by simp[adz h]
 |[],_::_,_,_,h=>h.elim
 |[],[],_::_,_,h=>h.elim
 |_::_,[],_,_,h=>h.elim
 |_::_,_::_,[],_,h=>h.elim
theorem len2{α:Type}{l:List α}(h:l.length=2):∃a b,l=[a,b]:=by
 match l,h with
 |[a,b],_=>exact⟨a,b,rfl⟩
end
end Go.Sw
namespace Go.Proofs.YtmniihkenijjpaaGreatDoor
open Go
theorem ζ{p:Prop}(h:p:=by kernel_rfl):p:=h
theorem Tryz.own:ownKnob Tryz.prog.godebug=none:=ζ
theorem Tryz.laidOut:laidOutB Tryz.prog=true:=ζ
open Go.RowKit Go.Sw
set_option maxRecDepth 100000
instance GH:Wld Tryz.prog:=Wld.any _
def tab:Tab:=[(30,.row 4 [(0,2,true),(2,2,true)] [.v (.bool false),.sl 1 [],.v (.bool false),.sl 1 []]),
 (28,.row 2 [(0,1,false),(1,1,false)] [.v (.bool false),.sl 1 []]),
 (26,.slice 154 1 4 [.v (.int .u32 0)]),
 (45,.row 8 [(0,4,true),(4,4,true)] [.v (.bool false),.sl 1 [],.v (.bool false),.sl 1 [],.v (.bool false),.sl 1 [],.v (.bool false),.sl 1 []]),
 (55,.row 7 [(0,1,false),(1,1,false),(2,1,false),(3,4,true)] [.v (.int .i64 0),.v (.string ByteArray.empty),.sl 8 [],.v (.bool false),.sl 1 [],.v (.bool false),.sl 1 []]),
 (161,.row 20 [(0,4,true),(4,4,true),(8,4,true),(12,4,true),(16,4,true)] [.v (.bool false),.sl 1 [],.v (.bool false),.sl 1 [],.v (.bool false),.sl 1 [],.v (.bool false),.sl 1 [],.v (.bool false),.sl 1 [],.v (.bool false),.sl 1 [],.v (.bool false),.sl 1 [],.v (.bool false),.sl 1 [],.v (.bool false),.sl 1 [],.v (.bool false),.sl 1 []]),
 (25,.row 2 [(0,1,false),(1,1,false)] [.sl 3 [],.sl 7 []]),
 (2,.int .i64),
 (53,.slice 45 8 128 [.v (.bool false),.sl 1 [],.v (.bool false),.sl 1 [],.v (.bool false),.sl 1 [],.v (.bool false),.sl 1 []]),
 (260,.row 12 [(0,4,true),(4,4,true),(8,4,true)] [.v (.bool false),.sl 1 [],.v (.bool false),.sl 1 [],.v (.bool false),.sl 1 [],.v (.bool false),.sl 1 [],.v (.bool false),.sl 1 [],.v (.bool false),.sl 1 []]),
 (292,.row 2 [(0,1,false),(1,1,false)] [.v (.int .i64 0),.v (.int .i64 0)]),
 (154,.int .u32),
 (209,.slice 2 1 8 [.v (.int .i64 0)]),
 (23,.slice 55 7 112 [.v (.int .i64 0),.v (.string ByteArray.empty),.sl 8 [],.v (.bool false),.sl 1 [],.v (.bool false),.sl 1 []]),
 (3,.int .i64),
 (9,.str),
 (163,.row 66 [(0,1,false),(1,12,true),(13,12,true),(25,1,false),(26,20,true),(46,20,true)] [.v (.bool false),.v (.bool false),.sl 1 [],.v (.bool false),.sl 1 [],.v (.bool false),.sl 1 [],.v (.bool false),.sl 1 [],.v (.bool false),.sl 1 [],.v (.bool false),.sl 1 [],.v (.bool false),.sl 1 [],.v (.bool false),.sl 1 [],.v (.bool false),.sl 1 [],.v (.bool false),.sl 1 [],.v (.bool false),.sl 1 [],.v (.bool false),.sl 1 [],.v (.bool false),.v (.bool false),.sl 1 [],.v (.bool false),.sl 1 [],.v (.bool false),.sl 1 [],.v (.bool false),.sl 1 [],.v (.bool false),.sl 1 [],.v (.bool false),.sl 1 [],.v (.bool false),.sl 1 [],.v (.bool false),.sl 1 [],.v (.bool false),.sl 1 [],.v (.bool false),.sl 1 [],.v (.bool false),.sl 1 [],.v (.bool false),.sl 1 [],.v (.bool false),.sl 1 [],.v (.bool false),.sl 1 [],.v (.bool false),.sl 1 [],.v (.bool false),.sl 1 [],.v (.bool false),.sl 1 [],.v (.bool false),.sl 1 [],.v (.bool false),.sl 1 [],.v (.bool false),.sl 1 []]),
 (4,.bool),
 (159,.row 12 [(0,4,true),(4,4,true),(8,4,true)] [.v (.bool false),.sl 1 [],.v (.bool false),.sl 1 [],.v (.bool false),.sl 1 [],.v (.bool false),.sl 1 [],.v (.bool false),.sl 1 [],.v (.bool false),.sl 1 []]),
 (304,.row 24 [(0,4,true),(4,4,true),(8,4,true),(12,4,true),(16,4,true),(20,4,true)] [.v (.bool false),.sl 1 [],.v (.bool false),.sl 1 [],.v (.bool false),.sl 1 [],.v (.bool false),.sl 1 [],.v (.bool false),.sl 1 [],.v (.bool false),.sl 1 [],.v (.bool false),.sl 1 [],.v (.bool false),.sl 1 [],.v (.bool false),.sl 1 [],.v (.bool false),.sl 1 [],.v (.bool false),.sl 1 [],.v (.bool false),.sl 1 []]),
 (152,.int .u64),
 (22,.slice 89 3 32 [.v (.string ByteArray.empty),.v (.int .i64 0),.v (.int .i64 0)]),
 (147,.row 4 [(0,1,false),(1,1,false),(2,1,false),(3,1,false)] [.v (.int .i64 0),.v (.int .i64 0),.v (.int .i64 0),.v (.bool false)]),
 (47,.row 19 [(0,1,false),(1,1,false),(2,1,false),(3,8,true),(11,8,true)] [.v (.int .i64 0),.v (.int .i64 0),.v (.int .i64 0),.v (.bool false),.sl 1 [],.v (.bool false),.sl 1 [],.v (.bool false),.sl 1 [],.v (.bool false),.sl 1 [],.v (.bool false),.sl 1 [],.v (.bool false),.sl 1 [],.v (.bool false),.sl 1 [],.v (.bool false),.sl 1 []]),
 (270,.slice 5 1 1 [.v (.int .u8 0)]),
 (33,.slice 47 19 280 [.v (.int .i64 0),.v (.int .i64 0),.v (.int .i64 0),.v (.bool false),.sl 1 [],.v (.bool false),.sl 1 [],.v (.bool false),.sl 1 [],.v (.bool false),.sl 1 [],.v (.bool false),.sl 1 [],.v (.bool false),.sl 1 [],.v (.bool false),.sl 1 [],.v (.bool false),.sl 1 []]),
 (113,.row 2 [(0,1,false),(1,1,false)] [.v (.int .i64 0),.v (.int .i64 0)]),
 (157,.row 12 [(0,4,true),(4,4,true),(8,4,true)] [.v (.bool false),.sl 1 [],.v (.bool false),.sl 1 [],.v (.bool false),.sl 1 [],.v (.bool false),.sl 1 [],.v (.bool false),.sl 1 [],.v (.bool false),.sl 1 []]),
 (60,.slice 3 1 8 [.v (.int .i64 0)]),
 (5,.int .u8),
 (86,.row 8 [(0,7,true),(7,1,false)] [.v (.int .i64 0),.v (.string ByteArray.empty),.sl 8 [],.v (.bool false),.sl 1 [],.v (.bool false),.sl 1 [],.v (.int .i64 0)]),
 (89,.row 3 [(0,1,false),(1,1,false),(2,1,false)] [.v (.string ByteArray.empty),.v (.int .i64 0),.v (.int .i64 0)]),
 (79,.slice 86 8 120 [.v (.int .i64 0),.v (.string ByteArray.empty),.sl 8 [],.v (.bool false),.sl 1 [],.v (.bool false),.sl 1 [],.v (.int .i64 0)]),
 (96,.row 19 [(0,1,false),(1,1,false),(2,1,false),(3,8,true),(11,8,true)] [.v (.int .i64 0),.v (.int .i64 0),.v (.int .i64 0),.v (.bool false),.sl 1 [],.v (.bool false),.sl 1 [],.v (.bool false),.sl 1 [],.v (.bool false),.sl 1 [],.v (.bool false),.sl 1 [],.v (.bool false),.sl 1 [],.v (.bool false),.sl 1 [],.v (.bool false),.sl 1 []]),
 (38,.slice 96 19 280 [.v (.int .i64 0),.v (.int .i64 0),.v (.int .i64 0),.v (.bool false),.sl 1 [],.v (.bool false),.sl 1 [],.v (.bool false),.sl 1 [],.v (.bool false),.sl 1 [],.v (.bool false),.sl 1 [],.v (.bool false),.sl 1 [],.v (.bool false),.sl 1 [],.v (.bool false),.sl 1 []]),
 (114,.slice 113 2 16 [.v (.int .i64 0),.v (.int .i64 0)]),
 (83,.slice 4 1 1 [.v (.bool false)]),
 (67,.slice 68 2 16 [.v (.int .i64 0),.v (.int .i64 0)]),
 (228,.int .u64),
 (119,.row 2 [(0,1,false),(1,1,false)] [.v (.int .i64 0),.v (.int .i64 0)]),
 (115,.slice 147 4 32 [.v (.int .i64 0),.v (.int .i64 0),.v (.int .i64 0),.v (.bool false)]),
 (285,.int .u64),
 (120,.slice 119 2 16 [.v (.int .i64 0),.v (.int .i64 0)]),
 (91,.slice 95 9 144 [.v (.string ByteArray.empty),.v (.bool false),.sl 1 [],.v (.bool false),.sl 1 [],.v (.bool false),.sl 1 [],.v (.bool false),.sl 1 []]),
 (68,.arr 2 1 true [.v (.int .i64 0),.v (.int .i64 0)]),
 (354,.arr 65 1 true [.v (.int .u8 0),.v (.int .u8 0),.v (.int .u8 0),.v (.int .u8 0),.v (.int .u8 0),.v (.int .u8 0),.v (.int .u8 0),.v (.int .u8 0),.v (.int .u8 0),.v (.int .u8 0),.v (.int .u8 0),.v (.int .u8 0),.v (.int .u8 0),.v (.int .u8 0),.v (.int .u8 0),.v (.int .u8 0),.v (.int .u8 0),.v (.int .u8 0),.v (.int .u8 0),.v (.int .u8 0),.v (.int .u8 0),.v (.int .u8 0),.v (.int .u8 0),.v (.int .u8 0),.v (.int .u8 0),.v (.int .u8 0),.v (.int .u8 0),.v (.int .u8 0),.v (.int .u8 0),.v (.int .u8 0),.v (.int .u8 0),.v (.int .u8 0),.v (.int .u8 0),.v (.int .u8 0),.v (.int .u8 0),.v (.int .u8 0),.v (.int .u8 0),.v (.int .u8 0),.v (.int .u8 0),.v (.int .u8 0),.v (.int .u8 0),.v (.int .u8 0),.v (.int .u8 0),.v (.int .u8 0),.v (.int .u8 0),.v (.int .u8 0),.v (.int .u8 0),.v (.int .u8 0),.v (.int .u8 0),.v (.int .u8 0),.v (.int .u8 0),.v (.int .u8 0),.v (.int .u8 0),.v (.int .u8 0),.v (.int .u8 0),.v (.int .u8 0),.v (.int .u8 0),.v (.int .u8 0),.v (.int .u8 0),.v (.int .u8 0),.v (.int .u8 0),.v (.int .u8 0),.v (.int .u8 0),.v (.int .u8 0),.v (.int .u8 0)]),
 (349,.row 1 [(0,1,false)] [.v (.bool false)]),
 (95,.row 9 [(0,1,false),(1,8,true)] [.v (.string ByteArray.empty),.v (.bool false),.sl 1 [],.v (.bool false),.sl 1 [],.v (.bool false),.sl 1 [],.v (.bool false),.sl 1 []]),
 (171,.row 2 [(0,1,false),(1,1,false)] [.v (.string ByteArray.empty),.v (.int .i64 0)]),
 (136,.slice 163 66 1040 [.v (.bool false),.v (.bool false),.sl 1 [],.v (.bool false),.sl 1 [],.v (.bool false),.sl 1 [],.v (.bool false),.sl 1 [],.v (.bool false),.sl 1 [],.v (.bool false),.sl 1 [],.v (.bool false),.sl 1 [],.v (.bool false),.sl 1 [],.v (.bool false),.sl 1 [],.v (.bool false),.sl 1 [],.v (.bool false),.sl 1 [],.v (.bool false),.sl 1 [],.v (.bool false),.v (.bool false),.sl 1 [],.v (.bool false),.sl 1 [],.v (.bool false),.sl 1 [],.v (.bool false),.sl 1 [],.v (.bool false),.sl 1 [],.v (.bool false),.sl 1 [],.v (.bool false),.sl 1 [],.v (.bool false),.sl 1 [],.v (.bool false),.sl 1 [],.v (.bool false),.sl 1 [],.v (.bool false),.sl 1 [],.v (.bool false),.sl 1 [],.v (.bool false),.sl 1 [],.v (.bool false),.sl 1 [],.v (.bool false),.sl 1 [],.v (.bool false),.sl 1 [],.v (.bool false),.sl 1 [],.v (.bool false),.sl 1 [],.v (.bool false),.sl 1 [],.v (.bool false),.sl 1 []]),
 (172,.arr 4 2 false [.v (.string ByteArray.empty),.v (.int .i64 0),.v (.string ByteArray.empty),.v (.int .i64 0),.v (.string ByteArray.empty),.v (.int .i64 0),.v (.string ByteArray.empty),.v (.int .i64 0)]),
 (340,.arr 24 1 true [.v (.int .u8 0),.v (.int .u8 0),.v (.int .u8 0),.v (.int .u8 0),.v (.int .u8 0),.v (.int .u8 0),.v (.int .u8 0),.v (.int .u8 0),.v (.int .u8 0),.v (.int .u8 0),.v (.int .u8 0),.v (.int .u8 0),.v (.int .u8 0),.v (.int .u8 0),.v (.int .u8 0),.v (.int .u8 0),.v (.int .u8 0),.v (.int .u8 0),.v (.int .u8 0),.v (.int .u8 0),.v (.int .u8 0),.v (.int .u8 0),.v (.int .u8 0),.v (.int .u8 0)]),
 (353,.arr 20 1 true [.v (.int .u64 0),.v (.int .u64 0),.v (.int .u64 0),.v (.int .u64 0),.v (.int .u64 0),.v (.int .u64 0),.v (.int .u64 0),.v (.int .u64 0),.v (.int .u64 0),.v (.int .u64 0),.v (.int .u64 0),.v (.int .u64 0),.v (.int .u64 0),.v (.int .u64 0),.v (.int .u64 0),.v (.int .u64 0),.v (.int .u64 0),.v (.int .u64 0),.v (.int .u64 0),.v (.int .u64 0)]),
 (355,.arr 32 1 true [.v (.int .u8 0),.v (.int .u8 0),.v (.int .u8 0),.v (.int .u8 0),.v (.int .u8 0),.v (.int .u8 0),.v (.int .u8 0),.v (.int .u8 0),.v (.int .u8 0),.v (.int .u8 0),.v (.int .u8 0),.v (.int .u8 0),.v (.int .u8 0),.v (.int .u8 0),.v (.int .u8 0),.v (.int .u8 0),.v (.int .u8 0),.v (.int .u8 0),.v (.int .u8 0),.v (.int .u8 0),.v (.int .u8 0),.v (.int .u8 0),.v (.int .u8 0),.v (.int .u8 0),.v (.int .u8 0),.v (.int .u8 0),.v (.int .u8 0),.v (.int .u8 0),.v (.int .u8 0),.v (.int .u8 0),.v (.int .u8 0),.v (.int .u8 0)]),
 (356,.arr 64 1 true [.v (.int .u8 0),.v (.int .u8 0),.v (.int .u8 0),.v (.int .u8 0),.v (.int .u8 0),.v (.int .u8 0),.v (.int .u8 0),.v (.int .u8 0),.v (.int .u8 0),.v (.int .u8 0),.v (.int .u8 0),.v (.int .u8 0),.v (.int .u8 0),.v (.int .u8 0),.v (.int .u8 0),.v (.int .u8 0),.v (.int .u8 0),.v (.int .u8 0),.v (.int .u8 0),.v (.int .u8 0),.v (.int .u8 0),.v (.int .u8 0),.v (.int .u8 0),.v (.int .u8 0),.v (.int .u8 0),.v (.int .u8 0),.v (.int .u8 0),.v (.int .u8 0),.v (.int .u8 0),.v (.int .u8 0),.v (.int .u8 0),.v (.int .u8 0),.v (.int .u8 0),.v (.int .u8 0),.v (.int .u8 0),.v (.int .u8 0),.v (.int .u8 0),.v (.int .u8 0),.v (.int .u8 0),.v (.int .u8 0),.v (.int .u8 0),.v (.int .u8 0),.v (.int .u8 0),.v (.int .u8 0),.v (.int .u8 0),.v (.int .u8 0),.v (.int .u8 0),.v (.int .u8 0),.v (.int .u8 0),.v (.int .u8 0),.v (.int .u8 0),.v (.int .u8 0),.v (.int .u8 0),.v (.int .u8 0),.v (.int .u8 0),.v (.int .u8 0),.v (.int .u8 0),.v (.int .u8 0),.v (.int .u8 0),.v (.int .u8 0),.v (.int .u8 0),.v (.int .u8 0),.v (.int .u8 0),.v (.int .u8 0)]),
 (21,.int .i32),
 (68,.flat [0,0] [.v (.int .i64 0),.v (.int .i64 0)]),
 (89,.flat [2,0,0] [.v (.string ByteArray.empty),.v (.int .i64 0),.v (.int .i64 0)])]
theorem fA:aaH Tryz.prog tab=true:=ζ
theorem aP:Tryz.prog.follows .mixedOrders=true:=ζ
theorem aA{f:FuncId}{fn:Func}{c:Code}{xs:List AV}{r:AV}(hf:Tryz.prog.funcs[f]?=some fn)(hb:fn.body=some c)(h:awp (Den Tryz.prog) tab c (af7 tab fn r) (aes 0 xs) [])(a:aaM Tryz.prog f=true:=by kernel_rfl)(t:aa6 fn.ntmps c=true:=by kernel_rfl)(l:Nat.ble xs.length fn.ntmps=true:=by kernel_rfl)(n:abA xs=true:=by rfl):Den Tryz.prog f xs r:=aaP fA aP hf hb a t l h n
end Go.Proofs.YtmniihkenijjpaaGreatDoor
namespace Go.Sw
open Go Go.RowKit
theorem ab9{P:Program}(i j:Wld P)(hij:∀w,j.ok w->i.ok w){f:FuncId}{xs:List AV}{r:AV}(h : @Den P i f xs r):@Den P j f xs r:=by
 revert h;unfold Den;split
 .exactλh=>⟨h.1,λw X g T us vs more mo hW=>h.2 w X g T us vs more mo (hij w hW)⟩
 .exact id
 .exactλh=>⟨h.1,λw X g cap uss rest vs hW=>h.2 w X g cap uss rest vs (hij w hW)⟩
 .exactλh=>⟨h.1,λw X vs hW=>h.2 w X vs (hij w hW)⟩
structure MapSays (P:Program) (t:TypeId) (g:Nat) (f:Int->ByteArray) (w:World):Prop where
 ex:∃bm es clock,w.cell? ⟨g,0,none⟩=some (.map (some bm))/\w.heap[bm]?=some (.map es clock)/\∀w':World,w'.heap[bm]?=some (.map es clock)->∀k:Int,-9223372036854775808<=k->k<=9223372036854775807->(Instr.lookup t (.map (some bm)) (.int .i64 k) false).run P w'=.ok (.string (f k)) w'
theorem MapSays.run{P:Program}{t:TypeId}{g:Nat}{f:Int->ByteArray}{w:World}(h:MapSays P t g f w)(k:Int)(h1 : -9223372036854775808<=k)(h2:k<=9223372036854775807):
 ∃bm,w.cell? ⟨g,0,none⟩=some (.map (some bm))/\(Instr.lookup t (.map (some bm)) (.int .i64 k) false).run P w=.ok (.string (f k)) w:=by
 obtain⟨bm,es,clock,a,b,c⟩:=h.ex;exact⟨bm,a,c w b k h1 h2⟩
end Go.Sw
namespace Go.Proofs.YtmniihkenijjpaaGreatDoor
open Go Go.RowKit Go.Sw Go.Shelf Go.Sort Go.Lib
set_option maxRecDepth 100000
set_option maxHeartbeats 16000000
def OQ:Go.Shelf.Ren:=⟨λn=>if n=284 then 351 else if n=317 then 362 else if n=318 then 363 else if n=129 then 267 else n,λn=>if n=46 then 228 else if n=53 then 152 else if n=212 then 353 else n,λn=>if n=17 then 1 else n⟩
theorem QK:Go.Proofs.Lays.n284 Tryz.prog OQ where
 mixed:=aP
 f284:=qh Tryz.func351 (congrArg some (Eq.refl _))
 f317:=qh Tryz.func362 (congrArg some (Eq.refl _))
 f318:=qh Tryz.func363 (congrArg some (Eq.refl _))
 f129:=qh Tryz.func267 (congrArg some (Eq.refl _))
 t0:=Tryz.underlying0
 a0:=Tryz.isAgg0
 z0:=Tryz.sizeOf0
 v0:=Tryz.zeroValue0
 t3:=Tryz.underlying3
 a3:=Tryz.isAgg3
 z3:=Tryz.sizeOf3
 v3:=Tryz.zeroValue3
 t4:=Tryz.underlying4
 a4:=Tryz.isAgg4
 z4:=Tryz.sizeOf4
 v4:=Tryz.zeroValue4
 t5:=Tryz.underlying5
 a5:=Tryz.isAgg5
 z5:=Tryz.sizeOf5
 v5:=Tryz.zeroValue5
 t9:=Tryz.underlying9
 a9:=Tryz.isAgg9
 z9:=Tryz.sizeOf9
 v9:=Tryz.zeroValue9
 t46:=Tryz.underlying228
 a46:=Tryz.isAgg228
 z46:=Tryz.sizeOf228
 v46:=Tryz.zeroValue228
 t53:=Tryz.underlying152
 a53:=Tryz.isAgg152
 z53:=Tryz.sizeOf152
 v53:=Tryz.zeroValue152
 t212:=Tryz.underlying353
 a212:=Tryz.isAgg353
 z212:=Tryz.sizeOf353
 v212:=Tryz.zeroValue353
 g17:=ζ
theorem Tj:Go.Proofs.LaysM.n284 Tryz.prog OQ where
 ton284:=QK
 i0:=ζ
 i3:=ζ
 i4:=ζ
 i5:=ζ
 i9:=ζ
 i46:=ζ
 i53:=ζ
 i212:=ζ
 m17:=ζ
def VN:Go.Shelf.Ren:=⟨λn=>if n=285 then 352 else n,λn=>if n=37 then 270 else if n=51 then 154 else if n=53 then 152 else n,λn=>n⟩
theorem PK:Go.Proofs.Lays.n285 Tryz.prog VN where
 mixed:=aP
 f285:=qh Tryz.func352 (congrArg some (Eq.refl _))
 t0:=Tryz.underlying0
 a0:=Tryz.isAgg0
 z0:=Tryz.sizeOf0
 v0:=Tryz.zeroValue0
 t3:=Tryz.underlying3
 a3:=Tryz.isAgg3
 z3:=Tryz.sizeOf3
 v3:=Tryz.zeroValue3
 t4:=Tryz.underlying4
 a4:=Tryz.isAgg4
 z4:=Tryz.sizeOf4
 v4:=Tryz.zeroValue4
 t5:=Tryz.underlying5
 a5:=Tryz.isAgg5
 z5:=Tryz.sizeOf5
 v5:=Tryz.zeroValue5
 t9:=Tryz.underlying9
 a9:=Tryz.isAgg9
 z9:=Tryz.sizeOf9
 v9:=Tryz.zeroValue9
 t37:=Tryz.underlying270
 a37:=Tryz.isAgg270
 z37:=Tryz.sizeOf270
 v37:=Tryz.zeroValue270
 t51:=Tryz.underlying154
 a51:=Tryz.isAgg154
 z51:=Tryz.sizeOf154
 v51:=Tryz.zeroValue154
 t53:=Tryz.underlying152
 a53:=Tryz.isAgg152
 z53:=Tryz.sizeOf152
 v53:=Tryz.zeroValue152
set_option maxRecDepth 100000 in
theorem LQ(u:Nat)(h1:100<=u)(hu64:u<18446744073709551616)(w:World)(htab:Lib.TabIs Tryz.prog w "internal/strconv.uint64pow10" .u64 Lib.pow10Tab):
 Calls Tryz.prog 325 #[.int .u64 u,.int .i64 10] w λe w'=>e=.returned (.string ⟨(Lib.decDigits u).toArray⟩)/\Below w.heap.size w w':=by
 have hu1:1<=u:=ω
 have hlt:¬((u:Int)<100):=ω
 have hnd20:Lib.nDigits u<=20:=Lib.nDigits_le20 u hu64;have hal:Tryz.prog.arrayLen 340=24:=ζ
 have hsl:∀W,(Instr.sliceAt 340 (.pointer (some ⟨w.heap.size,0,none⟩)) none (some (.int .i64 (Lib.nDigits u:Int))) none).run Tryz.prog W=.ok (.slice (some ⟨w.heap.size,0,none⟩) (Lib.nDigits u) 24) W:=λW=>by
  rw[run_sliceAt_array_h W 340 ⟨w.heap.size,0,none⟩ (by simp[Program.arrayLen,Program.elem,Tryz.underlying340]) .i64 (Lib.nDigits u:Int) ω (by rw[hal];omega)]
  go_simp
 have hH0:=Lib.holds_zero0 w 340 (Lib.nDigits u) ω;have hfmt:=Any.internal_strconv_formatBase10 PK w.heap.size 0 24 u (Array.replicate (Lib.nDigits u) 0) (w.alloc (.cells Lib.zeros24 340)) hH0 (by rw[Array.size_replicate];exact Lib.lt_pow_nDigits u) hu64 (by rw[Array.size_replicate];omega);rw[Array.size_replicate]at hfmt;have HH0:=Lib.hid hH0;clear hH0 hal
 go_enter Tryz.func325,Tryz.ntmps325
 go_wp2_with (first
  |(go_at_call 351;refine(Any.internal_strconv_numDigits Tj u hu1 hu64 _ (Lib.tabIs_alloc htab _)).mono ?_;rintro e w' ⟨rfl,rfl⟩))
 go_at_call 352
 refine hfmt.mono ?_;rintro e w' ⟨rfl,k,v',dk,rfl,hF⟩
 have hcv:(convert 270 9 (.slice (some ⟨w.heap.size,0,none⟩) (Lib.nDigits u) 24)).run Tryz.prog ((putRow (λ(b:UInt8)=>Value.int .u8 (b.toNat:Int)) (w.alloc (.cells Lib.zeros24 340)) w.heap.size 0 dk).drewN k)=.ok (.string ⟨(Lib.decDigits u).toArray⟩) ((putRow (λ(b:UInt8)=>Value.int .u8 (b.toNat:Int)) (w.alloc (.cells Lib.zeros24 340)) w.heap.size 0 dk).drewN k):=by
  have h:=run_convert_bytes_back (P:=Tryz.prog) ((putRow (λ(b:UInt8)=>Value.int .u8 (b.toNat:Int)) (w.alloc (.cells Lib.zeros24 340)) w.heap.size 0 dk).drewN k) 270 9 5 ⟨w.heap.size,0,none⟩ 24 (Lib.decDigits u) Tryz.underlying270 Tryz.underlying5 Tryz.underlying9 (λj hj=>by
   rw[Lib.row_is_numeral hF j hj,Lib.add_plain,World.cell?_drewN]
   exact cell?_putRow (λ(b:UInt8)=>Value.int .u8 (b.toNat:Int)) _ w.heap.size 0 _ dk HH0.out (by rw[hF.size,Array.size_replicate]) j (by rw[hF.size];rw[Lib.decDigits_length]at hj;exact hj))
  rw[Lib.decDigits_length]at h;exact h
 go_wp2
 go_ret
 refine⟨rfl, ?_⟩;rw[alloc_eq_grow];obtain⟨os',_,e⟩:=putRow_grow_new (λ(b:UInt8)=>Value.int .u8 (b.toNat:Int)) w #[.cells Lib.zeros24 340] w.heap.size 0 dk (gW _);rw[e];exact Lib.below_grow _ w (gW _) k os'
end Go.Proofs.YtmniihkenijjpaaGreatDoor
namespace Go.Sw
open Go Go.RowKit
theorem adM{P:Program}{w:World}:∀{l:List (String×DataW Unit)} {ps:List MemPlace},DataW.LaidVars P w l ps->∀x∈l,∃g t cs fuel p,P.globalNamed x.1=some g/\(P.globals[g]?).map (·.type)=some t/\w.var? P x.1=some cs/\DataW.trod (λ_=>()) P w 0 (λ_=>true) false fuel t cs.toList=some (x.2,p)
 |[],_,_,x,hx=>by cases hx
 |(n,d)::r,ps,h,x,hx=>by
  obtain⟨g,t,cs,fuel,p,q,h1,h2,h3,h4,h5,_⟩:=h;rcases mQ.1 hx with rfl|hx
  .exact⟨g,t,cs,fuel,p,h1,h2,h3,h4⟩
  .exact adM h5 x hx
theorem ai5{P:Program}{W:World}{l:List (String×DataW Unit)}{nm:String}{k:IntKind}{zs:List Int}{g:Nat}{t e:TypeId}(h:laidMet P l W)(hm:(nm,DataW.agg (zs.map λz => .lit (.int k z)))∈l)
 (hg:P.globalNamed nm=some g) (htg:(P.globals[g]?).map (·.type)=some t) (ht:P.underlying t=some (.array zs.length e)) (he:P.underlying e=some (.int k)) (ce:P.cellsOf e=1) (ct:P.cellsOf t=zs.length):Lib.TabIs P W nm k zs:=by
 obtain⟨ps,hl,_⟩:=h;obtain⟨g0,t0,cs,fuel,p,hg0,ht0,hv,hd⟩:=adM hl _ hm;obtain rfl:=E5 (hg.symm.trans hg0);obtain rfl:=E5 (htg.symm.trans ht0);obtain⟨xs,m,_,ex,hlen,hxl,hel⟩:=DataW.trod_array ht hd
 have e1:zs.map (λz=>DataW.lit (.int k z))=xs.map (·.1):=by
  have:=(Prod.mk.inj ex).1;exact DataW.agg.inj this
 unfold Lib.TabIs;rw[hv];congr 1;apply tY;rw[List.toArray];show cs.toList=zs.map (Value.int k);apply List.ext_getElem
 .rw[hlen,ct,aN]
 .intro i h1 h2;have hi:i<zs.length:=by simpa using h2
  have h3:=hel i hi;rw[ce,Nat.mul_one]at h3;have hx:xs[i]?=some xs[i]:=eY ω;rw[hx]at h3;obtain⟨n,a,b,_⟩:=DataW.trod_int he h3;have h4:(zs.map (λz=>DataW.lit (H:=Unit) (.int k z)))[i]?=(xs.map (·.1))[i]?:=by rw[e1]
  rw[rE,rE,eY hi,hx,b]at h4;simp at h4
  have h5:cs.toList[i]?=some (.int k n):=by
   have:((cs.toList.drop i).take 1)[0]?=some (.int k n):=by rw[a];rfl
   rw[tH,if_pos ω,zM,JU]at this;exact this
  rw[eY h1]at h5;rw[E5 h5,List.getElem_map,h4]
theorem afv{P:Program}{w w':World}{nm:String}{k:IntKind}{zs:List Int}(h:Lib.TabIs P w nm k zs)(hb:Below w.heap.size w w'):Lib.TabIs P w' nm k zs:=by
 unfold Lib.TabIs World.var? at h ⊢;cases hg:P.globalNamed nm with
 |none=>rw[hg]at h;cases h
 |some g =>
  rw[hg]at h;simp only[Ef]at h ⊢
  have hl:g<w.heap.size:=by
   rcases sW g w.heap.size with h'|h'
   .exact h'
   .rw[Array.getElem?_eq_none h']at h;cases h
  rw[hb.block g hl];exact h
end Go.Sw
namespace Go.Sw
open Go Go.Lib
def vV:Nat->Nat->List UInt8
 |0,_=>[]
 |k+1,n=>vV k (n/10)++[UInt8.ofNat (48+n%10)]
theorem zJ:∀(k n:Nat),(vV k n).length=k
 |0,_=>rfl
 |k+1,n=>by rw[vV,dY,zJ k];rfl
theorem lH{n:Nat}(h:n<10):decDigits n=[UInt8.ofNat (48+n)]:=by rw[decDigits,dif_pos h]
theorem Cc{n:Nat}(h:¬n<10):decDigits n=decDigits (n/10)++[UInt8.ofNat (48+n%10)]:=by rw[decDigits,dif_neg h]
theorem BU(n:Nat):0<(decDigits n).length:=by rw[decDigits_length];exact nDigits_pos n
theorem Ec:∀(k a x:Nat),0<a->x<10^k->decDigits (a*10^k+x)=decDigits a++vV k x
 |0,a,x,ha,hx=>by
  have:x=0:=by simpa using hx
  subst this;simp[vV]
 |k+1,a,x,ha,hx=>by
  have hp:10^(k+1)=10^k*10:=uK 10 k;have h1:0<10^k:=Nat.pow_pos ψ;have e:a*10^(k+1)+x=(a*10^k)*10+x:=by rw[hp,Il]
  have hge:¬(a*10^(k+1)+x)<10:=by
   have:=Nat.mul_pos ha h1;omega
  have hd:(a*10^(k+1)+x)/10=a*10^k+x/10:=ω
  have hm:(a*10^(k+1)+x)%10=x%10:=ω
  rw[Cc hge,hd,hm,Ec k a (x/10) ha ω,vV,jf]
theorem vG:∀(k n:Nat),0<k->n<10^k->vV k n=List.replicate (k-nDigits n) 48++decDigits n
 |0,n,hk,_=>absurd hk ψ
 |1,n,_,h=>by
  have h:n<10:=by simpa using h
  rw[nDigits_small h,lH h];simp[vV,EH h]
 |k+2,n,_,h=>by
  have hp:10^(k+2)=10^(k+1)*10:=uK 10 (k+1);rw[vV,vG (k+1) (n/10) ω ω]
  by_cases h10:n<10
  .have h0:n/10=0:=ω
   rw[h0,nDigits_small h10,nDigits_small (show 0<10 by decide),lH h10,lH (show 0<10 by decide),EH h10];rw[show k+2-1=(k+1-1)+1 by omega,List.replicate_succ'];rfl
  .rw[nDigits_big h10,Cc h10,show k+2-(nDigits (n/10)+1)=k+1-nDigits (n/10) by omega,jf]
theorem mV{k n:Nat}(hk:0<k)(h:n<10^k):nDigits n<=k:=by
 have h1:=zJ k n;rw[vG k n hk h,dY,xC,decDigits_length]at h1;omega
def kN(n:Nat):ByteArray:=⟨(decDigits n).toArray⟩
def lJ(n:Int):ByteArray:=⟨((if n<0 then[45]else[])++decDigits n.natAbs).toArray⟩
end Go.Sw
namespace Go.Sw
open Go
def rz(q:Rat):Nat:=sz q.num+sz q.den
theorem jg(q:Rat):sz q.num<=rz q:=Nat.le_add_right _ _
theorem jW(q:Rat):sz q.den<=rz q:=Nat.le_add_left _ _
theorem CQ{q:Rat}{a b:Int}(h1:q.num=a)(h2:(q.den:Int)=b):aai [AV.agg [zs a,zl a,zs b,zl b]]=R q:=by subst h1 h2;rfl
theorem Jz(n d:Int):((Nat.gcd n.natAbs d.natAbs:Nat):Int)=((d.gcd n:Nat):Int):=by rw[Nat.gcd_comm];rfl
theorem vM{n d:Int}(hd:0<d):((n:Rat)/d).num=n.fdiv (Nat.gcd n.natAbs d.natAbs:Nat)/\((((n:Rat)/d).den:Nat):Int)=d.fdiv (Nat.gcd n.natAbs d.natAbs:Nat):=by
 rw[<-Rat.divInt_eq_div,Rat.num_divInt,Rat.den_divInt,Jz,if_neg ω];have hg:0<d.gcd n:=Int.gcd_pos_of_ne_zero_left n ω;rw[Int.sign_eq_one_of_pos hd,Int.one_mul];refine⟨?_, ?_⟩
 .rw[Lr _ ω]
 .rw[Lr _ ω,Int.natCast_ediv];congr 1;omega
theorem NQ{n d:Int}(hd:d<0):((n:Rat)/d).num=(-n).fdiv (Nat.gcd (-n).natAbs (-d).natAbs:Nat)/\((((n:Rat)/d).den:Nat):Int)=(-d).fdiv (Nat.gcd (-n).natAbs (-d).natAbs:Nat):=by
 have h:=vM (n:=-n) (d:=-d) ω
 have e:((-n:Int):Rat)/((-d:Int):Rat)=(n:Rat)/d:=by
  have:(d:Rat)≠0:=by intro h0;have:=(Rat.intCast_inj (a:=d) (b:=0)).1 (by simpa using h0);omega
  rw[Rat.intCast_neg,Rat.intCast_neg];grind
 rwa [e]at h
theorem P7{n d:Int}(hd:d≠0):sz ((n:Rat)/d).num<=sz n/\sz ((n:Rat)/d).den<=sz d:=by
 have key:∀{n d:Int},0<d->sz ((n:Rat)/d).num<=sz n/\sz ((n:Rat)/d).den<=sz d:=by
  intro n d hd;obtain⟨h1,h2⟩:=vM (n:=n) hd;have hg:0<Nat.gcd n.natAbs d.natAbs:=Nat.gcd_pos_of_pos_right _ ω;rw[h1,h2];constructor<;>apply iY
  .rw[Lr _ ω];have:(Nat.gcd n.natAbs d.natAbs:Int) ∣ n:=Int.ofNat_dvd_left.2 (Nat.gcd_dvd_left _ _);rw[Int.natAbs_ediv_of_dvd this];exact Ky _ _
  .rw[Lr _ ω];have:(Nat.gcd n.natAbs d.natAbs:Int) ∣ d:=Int.ofNat_dvd_left.2 (Nat.gcd_dvd_right _ _);rw[Int.natAbs_ediv_of_dvd this];exact Ky _ _
 rcases Int.lt_or_gt_of_ne hd with h|h
 .have e:((-n:Int):Rat)/((-d:Int):Rat)=(n:Rat)/d:=by
   have:(d:Rat)≠0:=by intro h0;have:=(Rat.intCast_inj (a:=d) (b:=0)).1 (by simpa using h0);omega
   rw[Rat.intCast_neg,Rat.intCast_neg];grind
  have:=key (n:=-n) (d:=-d) ω;rw[e,fO,fO]at this;exact this
 .exact key h
theorem ak(q:Rat):(q.den:Int)≠0:=by have:=q.den_nz;omega
theorem den_pos(q:Rat):(0:Int)<q.den:=by have:=q.den_nz;omega
theorem gY(q:Rat):((q.den:Int):Rat)≠0:=by
 intro h0;have:=(Rat.intCast_inj (a:=q.den) (b:=0)).1 (by simpa using h0);exact ak q this
theorem gV(q:Rat):(q.num:Rat)=q*(q.den:Int):=by
 have h:=Rat.num_divInt_den q;rw[Rat.divInt_eq_div]at h;have:=gY q
 grind
theorem add_div(a b:Rat):((a.num*b.den+b.num*a.den:Int):Rat)/((a.den*b.den:Int):Rat)=a+b:=by
 have h1:=gV a;have h2:=gV b;have h3:=gY a;have h4:=gY b;rw[Rat.intCast_add,E8,E8,E8]
 grind
theorem He(a b:Rat)(h:(a.den:Int)=b.den):((a.num+b.num:Int):Rat)/((a.den:Int):Rat)=a+b:=by
 have h1:=gV a;have h2:=gV b;have h3:=gY a;rw[Rat.intCast_add,h1,h2,<-h]
 grind
theorem mul_div(a b:Rat):((a.num*b.num:Int):Rat)/((a.den*b.den:Int):Rat)=a*b:=by
 have h1:=gV a;have h2:=gV b;have h3:=gY a;have h4:=gY b;rw[E8,E8]
 grind
theorem Qa{b:Rat}(h:b≠0):((b.num:Int):Rat)≠0:=by
 rw[gV];have:=gY b;grind
theorem CG(a b:Rat)(h:b≠0):((a.num*b.den:Int):Rat)/((a.den*b.num:Int):Rat)=a/b:=by
 have h1:=gV a;have h2:=gV b;have h3:=gY a;have h4:=gY b;rw[E8,E8]
 grind
theorem wI{n d:Int}(hd:d≠0):rz ((n:Rat)/d)<=sz n+sz d:=by
 have:=P7 (n:=n) hd;unfold rz;omega
theorem kH(a b:Rat):rz (a+b)<=2*(rz a+rz b)+1:=by
 rw[<-add_div];have h:=wI (n:=a.num*b.den+b.num*a.den) (d:=(a.den*b.den:Int)) (mD (ak a) (ak b));have h1:=jM (a.num*b.den) (b.num*a.den);have h2:=fG a.num b.den;have h3:=fG b.num a.den;have h4:=fG a.den b.den;unfold rz at h ⊢;omega
theorem jh(a b:Rat):rz (a*b)<=rz a+rz b:=by
 rw[<-mul_div];have h:=wI (n:=a.num*b.num) (d:=(a.den*b.den:Int)) (mD (ak a) (ak b));have h2:=fG a.num b.num;have h4:=fG a.den b.den;unfold rz at h ⊢;omega
theorem jP(a:Rat):rz (-a)=rz a:=by unfold rz;rw[Rat.neg_num,Rat.neg_den,fO]
theorem mW(a b:Rat):rz (a-b)<=2*(rz a+rz b)+1:=by
 have:=kH a (-b);rw[jP]at this;rwa [Rat.sub_eq_add_neg]
theorem RF(a b:Rat)(h:b≠0):rz (a/b)<=rz a+rz b:=by
 rw[<-CG a b h];have hb:b.num≠0:=λh0=>Qa h (by rw[h0];rfl)
 have h:=wI (n:=a.num*b.den) (d:=(a.den*b.num:Int)) (mD (ak a) hb);have h2:=fG a.num b.den;have h4:=fG a.den b.num;unfold rz at h ⊢;omega
theorem kM:sz 1<=1:=Dv ψ
theorem jU(n:Int):rz (n:Rat)<=sz n+1:=by
 unfold rz;rw[Rat.num_intCast,Rat.den_intCast];have:=kM;simp;exact this
theorem IZ{a:Int}:fD a<0↔a<0:=by unfold fD;split<;>(try split)<;>omega
theorem zI{a:Int}:fD a<=0↔a<=0:=by unfold fD;split<;>(try split)<;>omega
theorem G5{a:Int}:fD a>0↔a>0:=by unfold fD;split<;>(try split)<;>omega
theorem JB{a:Int}:fD a>=0↔a>=0:=by unfold fD;split<;>(try split)<;>omega
theorem jG{a:Int}:fD a=1↔0<a:=by unfold fD;split<;>(try split)<;>omega
theorem I4{a b:Int}:fC a b<=0↔a<=b:=by unfold fC;split<;>(try split)<;>omega
theorem Ib{a b:Int}:fC a b>=0↔a>=b:=by unfold fC;split<;>(try split)<;>omega
def dU(a b:Rat):Int:=if a<b then -1 else if b<a then 1 else 0
def aC(a:Rat):Int:=if a<0 then -1 else if a=0 then 0 else 1
theorem MO(a b:Rat):fC (a.num*b.den) (b.num*a.den)=dU a b:=by
 unfold fC dU;simp only[Rat.lt_iff]
theorem KN(a:Rat):a.num<0↔a<0:=by rw[Rat.lt_iff];simp
theorem DR(a:Rat):a.num=0↔a=0:=by simp
theorem LG(a:Rat):fD a.num=aC a:=by unfold fD aC;simp only[KN,DR]
theorem Ia{a b:Rat}:dU a b<0↔a<b:=by unfold dU;split<;>(try split)<;>simp_all
theorem yN{a b:Rat}:dU a b>0↔b<a:=by unfold dU;split<;>(try split)<;>simp_all<;>grind
theorem xW{a b:Rat}:dU a b=0↔a=b:=by unfold dU;split<;>(try split)<;>simp_all<;>grind
theorem Iz{a b:Rat}:dU a b<=0↔a<=b:=by unfold dU;split<;>(try split)<;>simp_all<;>grind
theorem Je{a b:Rat}:dU a b>=0↔b<=a:=by unfold dU;split<;>(try split)<;>simp_all<;>grind
theorem yD{a:Rat}:aC a<0↔a<0:=by unfold aC;split<;>(try split)<;>simp_all
theorem dQ{a:Rat}:aC a=0↔a=0:=by unfold aC;split<;>(try split)<;>simp_all<;>grind
theorem H6{a:Rat}:aC a>0↔0<a:=by unfold aC;split<;>(try split)<;>simp_all<;>grind
theorem Gj{a:Rat}:aC a<=0↔a<=0:=by unfold aC;split<;>(try split)<;>simp_all<;>grind
theorem IX{a:Rat}:aC a>=0↔0<=a:=by unfold aC;split<;>(try split)<;>simp_all<;>grind
theorem jq{a:Rat}:aC a=1↔0<a:=by unfold aC;split<;>(try split)<;>simp_all<;>grind
def dO:=And.intro @IZ <| And.intro @oM <| And.intro @zI <| And.intro @G5 <| And.intro @JB <| And.intro @jG <| And.intro @sG <| And.intro @rY <| And.intro @zB <| And.intro @I4 <| And.intro @Ib <| And.intro @MO <| And.intro @LG <| And.intro @yD <| And.intro @dQ <| And.intro @H6 <| And.intro @Gj <| And.intro @IX <| And.intro @jq <| And.intro @Ia <| And.intro @yN <| And.intro @xW <| And.intro @Iz <| @Je
theorem zh(a:Rat):a.num.fdiv a.den=a.floor:=by
 rw[Rat.floor_def,Lr _ ω]
def ZR:AV:=.agg [.v (.bool false),.sl 1 [],.v (.bool false),.sl 1 []]
theorem VU(n:Int):((0:Int):Rat)/((1:Int):Rat)=(n:Rat)/((0:Int):Rat):=by
 have h1:((0:Int):Rat)=0:=rfl;rw[h1,Rat.div_def (n:Rat),Rat.inv_zero];grind
end Go.Sw
