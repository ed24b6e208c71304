/-
  Rules of the abstract run, plain laws, and what functions answer, for the law TopRepaired.
  Conditions: none.
-/
import Derived.Test.YtmniihkenijjpaaGreatDoorW4
import Derived.Lib.ConvBytes
set_option linter.all false
set_option maxHeartbeats 16000000
namespace Go.Sw
open Go Go.RowKit
section
variable {P:Program} [Wld P] [Kp] {τ:Tab} {N:Nat} {w0:World} {X0:List Nat} {S:List Bx} {M:MM} {a:Act} {w:World} {e:Env} {b:Bxs}
variable [WOk P w0]
variable {d:Option Nat} {ty:TypeId} {pos:String} {af:Array Edge} {gd:Option (Nat × Bool)} {k:AV->Bxs->Prop}
theorem MS.regrow(h:MS w0 w S M){i:Nat}{gold:Option Nat}(hold:∀g,gold=some g->∃m,M i=some m/\m.own=true/\m.g=some g){w':World}(hgr:w.grownBy w' gold){g':Nat}{m':MB}(hn:w'.heap[g']?=some (.cells m'.us.toArray m'.T (0,0)))
 (hat:gold=some g'\/g'=w.heap.size) (ho':m'.own=true) (hg':m'.g=some g') (hgx:m'.gx=none) (X:List Nat):∃S',MS w0 w' S' (M.set i m')/\Ext w (bl S++X) w' (bl S'++X):=by
 have hgin:∀g,gold=some g->g∈bl S/\w0.heap.size<=g/\g<w.heap.size:=by
  intro g hg;obtain⟨m,h1,h2,h3⟩:=hold g hg;have h4:=h.inS i m h1 h2 g h3;exact⟨dw.2 ⟨_,h4,rfl⟩,(h.st.box _ h4).2,h.st.lt h4⟩
 have hg0:w0.heap.size<=g':=by
  rcases hat with h1|h1
  .exact(hgin g' h1).2.1
  .rw[h1];exact h.st.below.size
 have hnew:∀q∈S,gold≠some q.1->q.1≠g':=by
  intro q hq hne e;rcases hat with h1|h1
  .exact hne (by rw[h1,e])
  .have:=h.st.lt hq;omega
 refine⟨(g',m'.T,m'.us.toArray)::S.filter λq=>!(decide (gold=some q.1)),⟨⟨?_, ?_, ?_⟩,h.gh.set (λx hx=>by rw[hgx]at hx;cases hx) (λc mc x hc hx q hq hqS=>yZ _ (uP.2 ⟨hqS,by
  simp only[qJ,decide_eq_false_iff_not];intro e;obtain⟨m,k1,k2,k3⟩:=hold q.1 e
  exact h.gh.own c mc x i m q.1 hc hx k1 k2 k3 q hq rfl⟩)) (aeE hgr λg e=>by
   obtain⟨m,k1,k2,k3⟩:=hold g e
   exact .row (h.st.box _ (h.inS i m k1 k2 g k3)).1) (λg h1 h2=>by
   rw[hg']at h2;cases h2;rcases hat with e|e
   .obtain⟨m,k1,k2,k3⟩:=hold g' e;exact .inl ⟨m,k1,k2,k3⟩
   .refine .inr λhm=>?_
    obtain⟨q,hq,e'⟩:=dw.1 hm;have:=h.st.lt hq
    omega), ?_, ?_⟩, ?_⟩
 .exact h.st.below.grown hgr h.st.below.size (λk hk=>(hgin k hk).2.1)
 .intro q hq;rcases mQ.1 hq with rfl|hq
  .exact⟨hn,hg0⟩
  .obtain⟨q1,q2⟩:=uP.1 hq;have q2':gold≠some q.1:=by simpa using q2
   exact⟨(hgr.block _ (h.st.lt q1) (λe=>q2' e.symm)).trans (h.st.box q q1).1,(h.st.box q q1).2⟩
 .refine List.pairwise_cons.2 ⟨λq hq=>?_,h.st.nd.filter _⟩;obtain⟨q1,q2⟩:=uP.1 hq;exactλe=>hnew q q1 (by simpa using q2) e.symm
 .intro c mc hc hco gc hgc
  by_cases hci:c=i
  .subst hci;rw[MM.set_same]at hc;cases hc;rw[hg']at hgc;cases hgc;simp
  .rw[MM.set_other _ _ hci]at hc;refine yZ _ (uP.2 ⟨h.inS c mc hc hco gc hgc, ?_⟩);simp only[qJ,decide_eq_false_iff_not];intro e;obtain⟨m,h1,h2,h3⟩:=hold gc e;exact hci (h.inj c i mc m gc hc h1 hco h2 hgc h3)
 .intro c c' mc mc' gc h1 h2 h3 h4 h5 h6
  have other:∀c mc,c≠i->M.set i m' c=some mc->mc.own=true->∀g,mc.g=some g->g≠g':=by
   intro c mc hci hc hco g hg;rw[MM.set_other _ _ hci]at hc;refine hnew _ (h.inS c mc hc hco g hg) (λe=>?_);obtain⟨m,k1,k2,k3⟩:=hold g e;exact hci (h.inj c i mc m g hc k1 hco k2 hg k3)
  by_cases hci:c=i
  .by_cases hci':c'=i
   .rw[hci,hci']
   .subst hci;rw[MM.set_same]at h1;cases h1;rw[hg']at h5;cases h5;exact absurd rfl (other c' mc' hci' h2 h4 _ h6)
  .by_cases hci':c'=i
   .subst hci';rw[MM.set_same]at h2;cases h2;rw[hg']at h6;cases h6;exact absurd rfl (other c mc hci h1 h3 _ h5)
   .rw[MM.set_other _ _ hci]at h1;rw[MM.set_other _ _ hci']at h2;exact h.inj c c' mc mc' gc h1 h2 h3 h4 h5 h6
 .refine⟨hgr.size,λc hc hcx _=>?_⟩;simp only[iH,not_or]at hcx;refine⟨hgr.block c hc (λe=>hcx.1 (hgin c e.symm).1), ?_⟩;simp only[bl,dJ,iH,mQ,not_or];refine⟨⟨λe=>?_,λhm=>?_⟩,hcx.2⟩
  .rcases hat with h1|h1
   .exact hcx.1 (e▸(hgin g' h1).1)
   .omega
  .obtain⟨q,hq,e⟩:=dw.1 hm;exact hcx.1 (dw.2 ⟨q,(uP.1 hq).1,e⟩)
theorem agr{base:Nat}{t e':TypeId}{s by_:Nat}{zz:Array Value}(hs0:0<s)(hsl:sliceOf P t=some (e',s))(hel:Sw.elemOf P e'=some (zz,s,by_))(hzs:zz.size=s)
 {v:Value} {n:Nat} {xs:List Value} (hown:w.ownsRow base e' s v n xs) {A:Option Addr} {m c:Nat} {news:List Value} (hl:news.length=m*s) (hc:∀ad,A=some ad->∀j u,news[j]?=some u->w.cell? (ad.add j)=some u) (hA:A=none->m=0)
 (h1:∀u∈news,u.oneCell'=true) (hb:(n+m)*(by_+1)<=140737488355328) (hbase:base<=w.heap.size) :
 ∃v' w',(Builtin.append_ #[t,t] ty #[v,.slice A m c]).run P w=.ok v' w'/\w'.ownsRow base e' s v' (n+m) (xs++news)/\w.grownBy w' v.ownBlock/\(v'.ownBlock=v.ownBlock\/v'.ownBlock=some w.heap.size)/\(v'=.slice none 0 0↔v=.slice none 0 0/\m=0)/\(m=0->v'=v):=by
 unfold sliceOf at hsl;split at hsl
 .rename_i e0 hu;cases hq:P.info? e0 with
  |none=>simp[hq]at hsl
  |some i =>
   simp only[hq,oJ,ji,kQ]at hsl;obtain⟨rfl,hi1⟩:=hsl;unfold Sw.elemOf at hel;cases hz:i.zero with
   |none=>simp[hq,hz]at hel
   |some zv =>
    simp only[hq,hz,Ef,oJ,ji,kQ]at hel;obtain⟨rfl,_,rfl⟩:=hel;rw[xG,Nat.mul_one]at hb;rcases rG m with hm0|hm0
    .subst hm0;have hn0:news=[]:=zA (by simpa using hl);subst hn0;refine⟨v,w, ?_,by simpa using hown,⟨rfl,rfl,rfl,gW _,λ_ _ _=>rfl⟩,.inl rfl,η,λ_=>rfl⟩;rcases hown.2 with⟨rfl,h0⟩|⟨g,c',cur,rfl,_,_,hnc,_⟩
     .cases A<;>simp[Builtin.append_,run_underlying hu,sizeOf,typeInfo,hq,Builtin.lenOf,Builtin.firstCells,loadCells,loadCellsFrom]
     .cases A<;>simp[Builtin.append_,run_underlying hu,sizeOf,typeInfo,hq,Builtin.lenOf,Builtin.firstCells,hnc,storeCells,loadCells,loadCellsFrom]
    .cases A with
     |some ad =>
      obtain⟨v',w',r1,r2,r3,r4,r5⟩:=run_append_own_at (P:=P) (ty:=ty) w base t e0 i zv s i.bytes hu hq hz hi1 rfl hzs hs0 v n xs hown ad m c news hl (hc ad rfl) h1 (by unfold maxLen;omega) ω hbase;exact⟨v',w',r1,r2,r3,r5,r4,λh0=>by omega⟩
     |none=>have:=hA rfl;omega
 .cases hsl
theorem grown_below{gold:Option Nat}{w':World}(hgr:w.grownBy w' gold)(h:gold=none):Below w.heap.size w w':=by
 subst h;exact⟨hgr.os,hgr.tape,hgr.output,hgr.size,λk hk=>hgr.block k hk η⟩
theorem aiP{i t T s by_:Nat}{z:List Cell}(htt:aaU P t (.slice T s by_ z)=true)(h:MS w0 w S M){v:Value}{uss uss':List (List Value)}{es es':List (List Cell)}(hS:RepS w (bl S++X0) s uss es)(hS':RepS w (bl S++X0) s uss' es')
 (hown:w.ownsRow w0.heap.size T s v es.length uss.flatten) (hold:∀g,v.ownBlock=some g->∃m,M i=some m/\m.own=true/\m.g=some g)
 {A:Option Addr} {c:Nat} (hcl:Cl w (bl S++X0) A uss'.flatten) (hb:(es++es').length*(by_+1)<=140737488355328) :
 ∃v' w' S' m',(Builtin.append_ #[t,t] ty #[v,.slice A es'.length c]).run P w=.ok v' w'/\MS w0 w' S' (M.set i m')/\Ext w (bl S++X0) w' (bl S'++X0)/\(∀M',RepM w' (bl S'++X0) M' m' (.grow T s (es++es')))/\v'=hdr m'/\(es'.length=0->v'=v):=by
 obtain⟨hs0,hsl,zz,hel,hzz,hzs⟩:=sliceT htt;have hfl:uss'.flatten.length=es'.length*s:=by rw[aaD hS'.sz,hS'.len]
 have h1:∀u∈uss'.flatten,u.oneCell'=true:=by
  intro u hu;obtain⟨us,hus,hu⟩:=List.mem_flatten.1 hu;obtain⟨j,hj,rfl⟩:=xH hus;exact(hS'.get j _ _ (eY hj) (eY (by rw[<-hS'.len];exact hj))).one u hu
 have hA:A=none->es'.length=0:=by
  intro hA;rcases rG es'.length with h0|h0
  .exact h0
  .have hlt:0<uss'.flatten.length:=by rw[hfl];exact Nat.mul_pos h0 hs0
   obtain⟨ad,had,_⟩:=hcl.at_ (eY hlt);rw[hA]at had;cases had
 obtain⟨v',w',r1,r2,r3,r4,r5,r6⟩:=agr (ty:=ty) hs0 hsl hel hzs hown hfl (λad had j u hu=>by
  obtain⟨ad',h2,h3⟩:=hcl.at_ hu
  rw[had]at h2;cases h2;exact h3) hA h1 (by rw[dY]at hb;exact hb) h.st.below.size
 have hnew:∀{X':List Nat},Ext w (bl S++X0) w' X'->RepS w' X' s (uss++uss') (es++es'):=λhe=>(hS.append hS').ext he
 have hflat:(uss++uss').flatten=uss.flatten++uss'.flatten:=by simp
 rcases r2.2 with⟨hv,h0⟩|⟨g',cap,cur,hv,hb',hg',hle,hmx,hcs,htk⟩
 ·
  have hv0:=r5.1 hv;have hgn:v.ownBlock=none:=by rw[hv0.1];rfl
  have hB:=grown_below r3 hgn;have he0:es++es'=[]:=zA (by rw[dY];exact h0);refine⟨v',w',S,⟨false,true,none,T,s,0,0,[],none⟩,r1,⟨h.st.call hB,h.gh.set (λx hx=>by cases hx) (λ_ _ _ _ _ _ _ h=>h) (aeU hB) (λg' h1 h2=>by cases h2), ?_, ?_⟩,Ext.call _ hB,λ_=>⟨rfl,rfl,rfl,⟨rfl,hs0⟩,by rw[he0];rfl,.inl ⟨rfl,he0,rfl⟩⟩,hv,r6⟩
  .intro c mc hc hco gc hgc
   by_cases hci:c=i
   .subst hci;rw[MM.set_same]at hc;cases hc;cases hgc
   .rw[MM.set_other _ _ hci]at hc;exact h.inS c mc hc hco gc hgc
  .intro c c' mc mc' gc h1 h2 h3 h4 h5 h6
   by_cases hci:c=i
   .subst hci;rw[MM.set_same]at h1;cases h1;cases h5
   .by_cases hci':c'=i
    .subst hci';rw[MM.set_same]at h2;cases h2;cases h6
    .rw[MM.set_other _ _ hci]at h1;rw[MM.set_other _ _ hci']at h2;exact h.inj c c' mc mc' gc h1 h2 h3 h4 h5 h6
 .subst hv
  obtain⟨S',q1,q2⟩:=h.regrow hold r3 (g':=g') (m':=⟨false,true,some g',T,s,es.length+es'.length,cap,cur.toList,none⟩) (by simpa using hg') (by
   rcases r4 with r4|r4
   .left;rw[<-r4];rfl
   .right;simpa[Value.ownBlock]using r4) rfl rfl rfl X0
  refine⟨_,w',S',_,r1,q1,q2,λ_=>⟨rfl,rfl,rfl,⟨rfl,hs0⟩,η,.inr ⟨g',uss++uss',cur.toList.drop ((es.length+es'.length)*s),rfl, ?_,hnew q2,by simpa using hcs.symm,hmx,hle⟩⟩,rfl,r6⟩;rw[hflat,<-htk,FP]
theorem ad9{α:Type}:∀{f:List (Nat×α)} {b:List (Nat×α)} {i:Nat},i ∉ f.map (·.1)->ld i (ups f b)=ld i b
 |[],b,i,_=>rfl
 |(t,x)::r,b,i,h=>by
  simp only[dJ,mQ,not_or]at h;simp only[ups];rw[ad9 h.2,ace,if_neg h.1]
theorem abY{xs:Array Operand}{x:AV}{t T s by_:Nat}{z:List Cell}{es':List (List Cell)}(htt:aaU P t (.slice T s by_ z)=true)(h:Sta N w0 X0 S M a w e b){y:AV}{fz:Bxs}{S1:List Bx}{M1:MM}(hv:aaZ (λx=>ae e x) xs.toList=some [x,y])(hm1:MS w0 w S1 M1)(hc1:Chg w (bl S++X0) M w (bl S1++X0) M1 [] fz)(hfo:FrzOnly b fz)(hy:∀u,RepV w (bl S++X0) M u y->RepD w (bl S1++X0) u (.c (.sl s es')))
 (hx:(x=.c (.v (.slice none 0 0))/\∃i,d=some i/\i ∉ fz.map (·.1)/\es'.length*(by_+1)<=140737488355328/\k (.gs i es'.length) (fz++[(i,.grow T s es')])) \/
  (∃i n es,x=.gs i n/\i ∉ fz.map (·.1)/\ld i b=some (.grow T s es)/\n=es.length/\(es++es').length*(by_+1)<=140737488355328/\k (.gs i (es++es').length) (fz++[(i,.grow T s (es++es'))]))) :
 Good P w0 X0 S M a w ⟨d,.call ⟨.builtin .append,xs,#[t,t]⟩,ty,pos,af,gd⟩ k:=by
 obtain⟨us,hu,hl,hr⟩:=aco h hv
 obtain⟨u,u',rfl⟩:∃u u',us=[u,u']:=by
  match us,hl with
  |[u,u'],_=>exact⟨u,u',rfl⟩
 have h1:=h.chg hm1 hc1
 obtain⟨A,c,uss',rfl,hcc1,hcc2,hcl,hS'⟩:∃A cap uss,u'=.slice A es'.length cap/\es'.length<=cap/\cap<=9223372036854775807/\Cl w (bl S1++X0) A uss.flatten/\RepS w (bl S1++X0) s uss es':=by
  have:=hy u' (hr 1 u' _ rfl rfl);cases this with
  |c hC=>exact RepS.of_sl hC
 have hu0:=(hr 0 u x rfl rfl).ext hc1.ext λc _ m hm=>hc1.comp c m hm η
 have fin:∀(i:Nat) (es:List (List Cell)) (uss:List (List Value)),i ∉ fz.map (·.1)->RepS w (bl S1++X0) s uss es->w.ownsRow w0.heap.size T s u es.length uss.flatten->(∀g,u.ownBlock=some g->∃m,M1 i=some m/\m.own=true/\m.g=some g)->(es++es').length*(by_+1)<=140737488355328 ->
  (∀m,M1 i=some m->i∈alO ⟨d,.call ⟨.builtin .append,xs,#[t,t]⟩,ty,pos,af,gd⟩\/(m.isVar=false/\m.s=s/\m.n=es.length/\u=hdr m))->k (.gs i (es++es').length) (fz++[(i,.grow T s (es++es'))])->Good P w0 X0 S M a w ⟨d,.call ⟨.builtin .append,xs,#[t,t]⟩,ty,pos,af,gd⟩ k:=by
  intro i es uss hif hS hown hold hb hcomp hk;obtain⟨v',w',S',m',r1,r2,r3,r4,r5,r6⟩:=aiP (ty:=ty) (i:=i) (c:=c) htt hm1 hS hS' hown hold hcl hb;have r4':=r4;replace r4:=r4 (λ_=>none);have hn':m'.n=(es++es').length:=r4.2.2.2.2.1
  have hc2:Chg w (bl S1++X0) M1 w' (bl S'++X0) (M1.set i m') (alO ⟨d,.call ⟨.builtin .append,xs,#[t,t]⟩,ty,pos,af,gd⟩) [(i,.grow T s (es++es'))]:=by
   refine⟨r3,λc hc=>MM.set_other _ _ (by simpa using hc),λc mc hc hca=>?_,λc y hy=>?_⟩
   .by_cases hci:c=i
    .subst hci;refine⟨m',MM.set_same _ _ _, ?_⟩;rcases hcomp mc hc with h1|⟨h1,h2,h3,h4⟩
     .exact absurd h1 hca
     .refine⟨by rw[r4.1,h1],λh0=>absurd (h1.symm.trans h0) ψ,λ_=>?_⟩;rcases rG es'.length with h0|h0
      .left;have hsame:=r6 h0;rw[r5,h4]at hsame;unfold hdr at hsame;injection hsame with e1 e2 e3
       refine⟨?_,r4.2.2.2.1.1.trans h2.symm,e2,e3⟩;cases q1:m'.g<;>cases q2:mc.g<;>rw[q1,q2]at e1<;>simp_all
      .right;rw[h3,hn'];simp;omega
    .exact⟨mc,by rw[MM.set_other _ _ hci,hc],Comp.refl _⟩
   .simp only[qB,kQ]at hy;obtain⟨rfl,rfl⟩:=hy;exact⟨m',MM.set_same _ _ _,r4' _⟩
  refine⟨_,_,hk,.inl ⟨v',w', ?_,(hc1.trans hc2 (λc hc=>by simp at hc;subst hc;exact hif) hfo.obs).post r2 (.gs (MM.set_same _ _ _) r4.1 ω (λ_=>r5) (by rw[r5];unfold hdr;rw[hn'];exact⟨_,_,rfl⟩))⟩⟩;simp only[execOp,resolve,invoke,builtin,hu,Sem.run_bind,Sem.run_pure,Result.andThen_ok];rw[r1];simp
 rcases hx with⟨rfl,i,rfl,hif,hb,hk⟩|⟨i,n,es,rfl,hif,hb0,hn,hb,hk⟩
 .have:=hu0.v_;subst this;exact fin i [] [] hif (.nil _ _ _) (World.ownsRow_nil _ _ _ _) (λg hg=>by cases hg) (by simpa using hb) (λm hm => .inl (by simp[alO,aeO,adn])) (by simpa using hk)
 .obtain⟨m,hm,hvv,hh⟩:=hu0.gs_;obtain⟨m',hm',q1,q2,q3,q4,q5,q6⟩:=h1.box i _ (show ld i (ups fz b)=_ by rw[ad9 hif];exact hb0);rw[hm]at hm';cases hm';have hue:=hh ω;rcases q6 with⟨g1,rfl,g3⟩|⟨g,uss,rest,g1,g2,g3,g4,g5,g6⟩
  .refine fin i [] [] hif (.nil _ _ _) ?_ (λg hg=>?_) hb (λm' hm'=>?_) hk
   .rw[hue];unfold hdr;rw[g1,g3,q5];exact World.ownsRow_nil _ _ _ _
   .rw[hue]at hg;unfold hdr at hg;rw[g1]at hg;cases hg
   .rw[hm]at hm';cases hm';exact .inr ⟨q1,q4.1,q5,hue⟩
  .refine fin i es uss hif g3 ?_ (λg' hg=>?_) hb (λm' hm'=>?_) hk
   .rw[hue];unfold hdr;rw[g1,q5];have hg8:=hm1.st.box _ (hm1.inS i m hm q2 g g1);have hfl:uss.flatten.length=es.length*s:=by rw[aaD g3.sz,g3.len]
    refine⟨hfl,.inr ⟨g,m.cap,m.us.toArray,rfl,hg8.2, ?_,ω,g5,by simp[g4], ?_⟩⟩
    .rw[<-q3];exact hg8.1
    .rw[KC,g2,<-hfl,List.take_left' rfl]
   .rw[hue]at hg;unfold hdr at hg;rw[g1]at hg;simp[Value.ownBlock]at hg;exact⟨m,hm,q2,by rw[g1,hg]⟩
   .rw[hm]at hm';cases hm';exact .inr ⟨q1,q4.1,q5,hue⟩
theorem afV{X:List Nat}{zz:Array Value}{z:List Cell}{s n:Nat}(hs:zz.size=s)(hs0:0<s)(hz:RepL w X zz.toList z):(madeCells zz (n*s)).toList=(List.replicate n zz.toList).flatten/\RepS w X s (List.replicate n zz.toList) (List.replicate n z):=by
 refine⟨?_,η,λus hu=>by rw[List.eq_of_mem_replicate hu];simpa using hs,λi us e a c=>?_⟩
 .apply Ku;intro i;have hfl:(List.replicate n zz.toList).flatten.length=n*s:=by rw[aaD (s:=s) (λus hu=>by rw[List.eq_of_mem_replicate hu];simpa using hs)];simp
  by_cases hi:i<n*s
  .have hq:i/s<n:=by rw[Nat.div_lt_iff_lt_mul hs0];exact hi
   have hr:i%s<s:=oO _ hs0;have h1:=aaR (s:=s) (uss:=List.replicate n zz.toList) (λus hu=>by rw[List.eq_of_mem_replicate hu];simpa using hs) (i:=i/s) (us:=zz.toList) (by simp[hq]) (i%s) hr;have hdm:i/s*s+i%s=i:=by rw[wU];exact Nat.div_add_mod i s
   rw[hdm]at h1;rw[h1];have hzz:i%s<zz.size:=ω
   simp[madeCells,hi,hs];rw[Array.getElem?_eq_getElem hzz,getElem!_pos zz (i%s) hzz]
  .rw[List.getElem?_eq_none (by rw[Array.length_toList,size_madeCells];omega),List.getElem?_eq_none ω]
 .rw[List.getElem?_replicate]at a c;split at a
  .rename_i hi;rw[if_pos hi]at c;cases a;cases c;exact hz
  .cases a
theorem aey{t:TypeId}{x y:Operand}(hτ:aaH P τ=true)(h:Sta N w0 X0 S M a w e b)(hk:aop (Den P) τ ⟨d,.makeSlice t x y,ty,pos,af,gd⟩ e b k):Good P w0 X0 S M a w ⟨d,.makeSlice t x y,ty,pos,af,gd⟩ k:=by
 unfold aop at hk;simp only at hk;split at hk
 .rename_i T s by_ z k1 l k2 c i ht hx hy;obtain⟨n,m,rfl,rfl,hnm,hb,hk1⟩:=hk;obtain⟨hs0,hsl,zz,hel,hzz,hzs⟩:=sliceT (aaq hτ ht);obtain⟨hmd,hS⟩:=afV (w:=w) (X:=bl S++X0) (n:=n) hzs hs0 (abt w (bl S++X0) hzz);obtain⟨hmdm,hSm⟩:=afV (w:=w) (X:=bl S++X0) (n:=m) hzs hs0 (abt w (bl S++X0) hzz);rw[xG,Nat.mul_one]at hb;have hms:=h.ms.alloc (i:=i) (m:=⟨false,true,some w.heap.size,T,s,n,m,(madeCells zz (m*s)).toList,none⟩) rfl rfl rfl rfl;simp only[Array.toArray_toList]at hms;have hext:Ext w (bl S++X0) (w.alloc (.cells (madeCells zz (m*s)) T)) (bl ((w.heap.size,T,madeCells zz (m*s))::S)++X0):=Ext.alloc _ _ _
  have hrun:(execOp a.eval ⟨some i,.makeSlice t x y,ty,pos,af,gd⟩).run P w=.ok (.value (.slice (some ⟨w.heap.size,0,none⟩) n m)) (w.alloc (.cells (madeCells zz (m*s)) T)):=by
   unfold sliceOf at hsl;split at hsl
   .rename_i e0 hu;cases hq:P.info? e0 with
    |none=>simp[hq]at hsl
    |some j =>
     simp only[hq,oJ,ji,kQ]at hsl;obtain⟨rfl,rfl⟩:=hsl;unfold Sw.elemOf at hel;cases hzv:j.zero with
     |none=>simp[hq,hzv]at hel
     |some zv =>
      simp only[hq,hzv,Ef,oJ,ji,kQ]at hel;obtain⟨rfl,_,rfl⟩:=hel;have hb2:((m*j.bytes:Nat):Int)<=281474976710656:=ω
      have hr:=run_make (P:=P) w t e0 j zv hu hq hzv k1 k2 (n:Int) (m:Int) ω ω (by rw[Int.mul_comm];rwa [KD]at hb2) ω;simp only[fB]at hr;simp only[execOp,(h.ev hx).v_,(h.ev hy).v_,Sem.run_bind,hr,Result.andThen_ok,Sem.run_pure]
   .cases hsl
  have hflat:(List.replicate m zz.toList).flatten=(List.replicate n zz.toList).flatten++(List.replicate (m-n) zz.toList).flatten:=by
   rw[<-List.flatten_append,List.replicate_append_replicate];congr 2;omega
  refine⟨_,_,hk1,.inl ⟨_,_,hrun,_,_,hms,hext,.gs (MM.set_same _ _ _) rfl (gW _) (λ_=>rfl) ⟨_,_,rfl⟩,λc hc=>MM.set_other _ _ (by simpa using hc),λc mc hc hci=>⟨mc,by rw[MM.set_other _ _ (λe=>hci (by subst e;simp[alO,aeO,adn])),hc],Comp.refl _⟩,λc y hy=>?_⟩⟩;simp only[qB,kQ]at hy;obtain⟨rfl,rfl⟩:=hy;refine⟨_,MM.set_same _ _ _,rfl,rfl,rfl,⟨rfl,hs0⟩,η,.inr ⟨_,List.replicate n zz.toList,(List.replicate (m-n) zz.toList).flatten,rfl, ?_,hS.ext hext, ?_,by unfold maxLen;simp only;omega,hnm⟩⟩
  .simp only;rw[hmdm,hflat]
  .simp only[Array.length_toList,size_madeCells]
 .cases hk
theorem aci{s:Nat}:∀{uss:List (List Value)} (a:Nat),(∀us∈uss,us.length=s)->(uss.drop a).flatten=uss.flatten.drop (a*s)/\(uss.take a).flatten=uss.flatten.take (a*s)
 |uss,0,_=>by simp
 |[],a+1,_=>by simp
 |u::r,a+1,h=>by
  have hu:=h u η;obtain⟨h1,h2⟩:=aci (uss:=r) a (λus hm=>h us (by simp[hm]));have e:(a+1)*s=u.length+a*s:=by rw[GX,hu];omega
  constructor
  .rw[List.drop_succ_cons,h1,OG,e,List.drop_length_add_append]
  .rw[List.take_succ_cons,OG,h2,OG,e,List.take_length_add_append]
theorem RepS.part{X:List Nat}{s:Nat}{uss:List (List Value)}{es:List (List Cell)}(h:RepS w X s uss es)(p q:Nat):RepS w X s ((uss.take q).drop p) ((es.take q).drop p):=by
 refine⟨by simp[h.len],λus hu=>h.sz us (List.mem_of_mem_take (List.mem_of_mem_drop hu)),λi us e a c=>?_⟩;rw[zM,tH]at a c;split at a
 .rename_i hi;rw[if_pos hi]at c;exact h.get _ us e a c
 .cases a
theorem abu(h:Sta N w0 X0 S M a w e b){x:Option Operand}{n:Option Int}(hx:acQ e x=some n):∃k,x.map a.eval=n.map λi => .int k i:=by
 cases x with
 |none=>simp[acQ]at hx;subst hx;exact⟨.i64,rfl⟩
 |some y =>
  simp only[acQ]at hx;split at hx
  .rename_i k i hy;simp at hx;subst hx;exact⟨k,by simp[(h.ev hy).v_]⟩
  .cases hx
theorem adY{s:Nat}:∀{n:Nat} {cs:List Cell} {es:List (List Cell)},chunk s n cs=some es->es.length=n/\cs.length=n*s/\∀{X:List Nat} {us:List Value},RepL w X us cs->∃uss,us=uss.flatten/\RepS w X s uss es
 |0,[],es,h=>by
  simp[chunk]at h;subst h;refine⟨rfl,η,fun {X us} hr=>⟨[], ?_,RepS.nil _ _ _⟩⟩;have:=hr.len;cases us with
  |nil=>rfl
  |cons=>simp at this
 |0,_::_,es,h=>by simp[chunk]at h
 |n+1,cs,es,h=>by
  simp only[chunk]at h;cases h1:takeN s cs with
  |none=>rw[h1]at h;cases h
  |some l =>
   rw[h1]at h;simp only at h;cases h2:chunk s n (aaz s cs)with
   |none=>rw[h2]at h;cases h
   |some r =>
    rw[h2]at h;simp only[ji]at h;subst h;obtain⟨q1,q2⟩:=abT h1;obtain⟨c1,c2,c3⟩:=adY h2;rw[aaV]at c2 c3;rw[List.length_drop]at c2;refine⟨by simp[c1],by rw[GX];omega,fun {X us} hr=>?_⟩;obtain⟨uss,k1,k2⟩:=c3 (hr.drop s);have hl:=hr.take s;rw[<-q1]at hl;have hlen:(us.take s).length=s:=by have:=hr.len;rw[qy];omega
    have hone:RepS w X s [us.take s] [l]:=⟨rfl,λu hu=>by simp at hu;rw[hu];exact hlen,λi u e a c=>by
     cases i with
     |zero=>simp at a c;subst a c;exact hl
     |succ i=>simp at a⟩
    refine⟨us.take s::uss,by rw[OG,<-k1,FP],hone.append k2⟩
theorem ajo{t:TypeId}{n s:Nat}{one:Bool}{z:List Cell}(h:aaU P t (.arr n s one z)=true):∃e':TypeId,P.underlying t=some (.array n e')/\(P.info? e').map (·.size)=some s:=by
 unfold aaU at h;simp only[bG]at h;obtain⟨_,h⟩:=h;split at h
 .rename_i m e' he;simp at h;exact⟨e',by rw[he,h.1],by simpa using h.2⟩
 .simp at h
theorem RepD.c_{w:World}{X:List Nat}{u:Value}{c:Cell}(h:RepD w X u (.c c)):RepC w X u c:=by
 cases h with
 |c h=>exact h
theorem afx{t:TypeId}{x:Operand}{lo hi mx:Option Operand}{T s by_:Nat}{z:List Cell}{es:List (List Cell)}{lo' hi' mx':Option Int}{f:Bxs}{S1:List Bx}{M1:MM}(hτ:aaH P τ=true)(h:Sta N w0 X0 S M a w e b)(ht:ld t τ=some (.slice T s by_ z))(h2:acQ e lo=some lo')(h3:acQ e hi=some hi')(h4:acQ e mx=some mx')
 (hc1:Chg w (bl S++X0) M w (bl S1++X0) M1 [] f) (hm1:MS w0 w S1 M1) (hC:RepC w (bl S1++X0) (a.eval x) (.sl s es)) (hk:SlP es.length lo' hi' mx' λa b=>k (.c (.sl s ((es.take b).drop a))) f):Good P w0 X0 S M a w ⟨d,.slice t x lo hi mx,ty,pos,af,gd⟩ k:=by
 obtain⟨p,q,m,q1,q2,q3,q4,q5,q6,q7,hk1⟩:=hk;obtain⟨hs0,hsl,_⟩:=sliceT (aaq hτ ht);obtain⟨A,cap,uss,ha,hcap,hcmx,hcl,hS⟩:=RepS.of_sl hC;obtain⟨ka,ea⟩:=abu h h2;obtain⟨kb,eb⟩:=abu h h3;obtain⟨kc,ec⟩:=abu h h4
 obtain⟨m',hk2,hk3,hb⟩:∃m',q<=m'/\m'<=cap/\(Instr.sliceBounds true es.length cap (lo.map a.eval) (hi.map a.eval) (mx.map a.eval)).run P w=.ok (p,q,m') w:=by
  rw[ea,eb,ec];cases lo'<;>cases hi'<;>cases mx'<;>simp only[Kq,vP]at q1 q2 q3<;>simp at q7
  all_goals(try subst q1);(try subst q2);(try subst q3)
  .refine⟨cap,ω,gW _, ?_⟩;have:p=0:=ω
   have:q=es.length:=ω
   simp_all[Instr.sliceBounds]
  .refine⟨cap,ω,gW _, ?_⟩;have:p=0:=ω
   have hh:q<=cap:=ω
   subst this;simp[Instr.sliceBounds,run_sliceBound,hh]
  .refine⟨m,ω,ω, ?_⟩;have:p=0:=ω
   have hh:m<=cap:=ω
   subst this;simp[Instr.sliceBounds,run_sliceBound,hh,q5]
  .refine⟨cap,ω,gW _, ?_⟩;have:q=es.length:=ω
   subst this;simp[Instr.sliceBounds,run_sliceBound,q4]
  .refine⟨cap,ω,gW _, ?_⟩;have hh:q<=cap:=ω
   simp[Instr.sliceBounds,run_sliceBound,hh,q4]
  .refine⟨m,ω,ω, ?_⟩;have hh:m<=cap:=ω
   simp[Instr.sliceBounds,run_sliceBound,hh,q4,q5]
 have hrun:=abU (P:=P) (w:=w) (A:=A) hsl hb;refine⟨_,_,hk1,.inl ⟨sliced A p q m' s,w, ?_,hc1.al.post hm1 (.d (.c ?_))⟩⟩
 .simp only[execOp,ha,Sem.run_bind,hrun,Result.andThen_ok,Sem.run_pure]
 .have hR:=hS.part p q;have hlen:((es.take q).drop p).length=q-p:=by simp;omega
  have hfl:=(aci (s:=s) (uss:=uss.take q) p (λus hu=>hS.sz us (List.mem_of_mem_take hu))).1;have hfl2:=(aci (s:=s) (uss:=uss) q hS.sz).2;rw[hfl2]at hfl
  have hc2:Cl w (bl S1++X0) (if m'=p then A else A.map (·.add (p*s))) ((uss.take q).drop p).flatten:=by
   rw[hfl];split
   .rename_i hmp;have:q=p:=ω
    subst this;rw[Qb (by rw[qy];omega)];exact Cl.nil _ _ _
   .exact(hcl.take _).drop _
  have:=hR.sl hc2 (cap:=m'-p) (by rw[hlen];omega) ω;rw[hlen]at this;exact this
theorem agQ{t:TypeId}{x:Operand}{lo hi mx:Option Operand}(hτ:aaH P τ=true)(h:Sta N w0 X0 S M a w e b)(hk:aop (Den P) τ ⟨d,.slice t x lo hi mx,ty,pos,af,gd⟩ e b k):Good P w0 X0 S M a w ⟨d,.slice t x lo hi mx,ty,pos,af,gd⟩ k:=by
 unfold aop at hk;simp only at hk;split at hk
 .rename_i T s by_ z s' es lo' hi' mx' ht hx h2 h3 h4;split at hk
  .rename_i hs;have:=iO hs;subst this;exact afx hτ h ht h2 h3 h4 (Chg.refl _ _ _) h.ms (h.ev hx).sl_ hk
  .cases hk
 .rename_i T s by_ z c n lo' hi' mx' ht hx h2 h3 h4;obtain⟨v',f,S1,M1,hk1,hm1,hc1,hd1,_⟩:=abZ h (h.ev hx) hk;split at hk1
  .split at hk1
   .rename_i hs;have:=iO hs;subst this;exact afx hτ h ht h2 h3 h4 hc1 hm1 hd1.c_ hk1
   .cases hk1
  .cases hk1
 .rename_i s lo' hi' ht hx h2 h3 h4;obtain⟨p,q,m,q1,q2,q3,q4,q5,q6,q7,hk1⟩:=hk;have hxe:=(h.ev hx).v_;obtain⟨ka,ea⟩:=abu h h2;obtain⟨kb,eb⟩:=abu h h3;obtain⟨kc,ec⟩:=abu h h4;have hm:mx=none:=by cases mx with|none=>rfl|some y=>simp[acQ]at h4;split at h4<;>cases h4
  subst hm;simp only[Kq]at q3
  have hb:∃m',(Instr.sliceBounds false s.size s.size (lo.map a.eval) (hi.map a.eval) none).run P w=.ok (p,q,m') w:=by
   rw[ea,eb];cases lo'<;>cases hi'<;>simp only[Kq,vP]at q1 q2
   all_goals(try subst q1);(try subst q2)
   .have:p=0:=ω
    have:q=s.size:=ω
    simp_all[Instr.sliceBounds]
   .have:p=0:=ω
    have hh:q<=s.size:=ω
    subst this;simp[Instr.sliceBounds,run_sliceBound,hh]
   .have:q=s.size:=ω
    subst this;simp[Instr.sliceBounds,run_sliceBound,q4]
   .have hh:q<=s.size:=ω
    simp[Instr.sliceBounds,run_sliceBound,hh,q4]
  obtain⟨m',hb⟩:=hb;refine .val h.ms hk1 (u:=.string (s.extract p q)) ?_ (.d (.c (.v _ rfl)));simp only[execOp,Option.map_none]at *;simp[hxe,Instr.sliceAt,Instr.slice,run_underlying (agW (aaq hτ ht)),hb]
 .rename_i n s one z i ht hx h2 h3 h4;split at hk
  .rename_i cs hb hn hs;cases hch:chunk s n cs with
   |none=>rw[hch]at hk;cases hk
   |some es =>
    rw[hch]at hk;simp only at hk;obtain⟨c1,c2,c3⟩:=adY (w:=w) hch;obtain⟨e',hu,hi⟩:=ajo (aaq hτ ht);have hn':n<=1048576:=Nat.le_of_ble_eq_true hn;obtain⟨m,hm,v1,v2,⟨g,hg⟩,v3⟩:=h.box i _ hb;obtain⟨m',g',hm',_,hg',ev⟩:=(h.ev hx).ptr_;rw[hm]at hm';cases hm';rw[hg]at hg';cases hg';obtain⟨ka,ea⟩:=abu h h2;obtain⟨kb,eb⟩:=abu h h3;obtain⟨kc,ec⟩:=abu h h4;have hrow:=h.row hm v2 hg
    have hng:g ∉ bl (S.filter λq=>!(Nat.beq q.1 g))++X0:=by
     intro hx;rcases iH.1 hx with hx|hx
     .exact(aaY hx).2 rfl
     .have h7:=h.x0 g hx;have h8:=(h.ms.st.box _ (h.ms.inS i m hm v2 g hg)).2;simp only at h8;omega
    have hsub:∀x∈bl (S.filter λq=>!(Nat.beq q.1 g))++X0,x∈bl S++X0:=λx hx=>by
     rcases iH.1 hx with hx|hx
     .exact ng _ (aaY hx).1
     .exact kG _ hx
    have hms:=h.ms.drop (m':={ m with own:=false }) hm v2 hg rfl rfl;obtain⟨uss,k1,k2⟩:=c3 (v3.ext (Ext.drop hsub));have hcl:=Cl.of_block hrow hng uss.flatten.length;rw[KC,k1,AQ]at hcl;have hC:=k2.sl hcl (cap:=n) ω ω;have hcomp:Comp m { m with own:=false }:=⟨rfl,λ_=>rfl,λ_ => .inl ⟨rfl,rfl,rfl,rfl⟩⟩
    have hchg:Chg w (bl S++X0) M w (bl (S.filter λq=>!(Nat.beq q.1 g))++X0) (M.set i { m with own:=false }) [] [(i,.dead)]:=by
     refine⟨Ext.drop hsub,λc hc=>MM.set_other _ _ (by simpa using hc),λc mc hc _=>?_,λc x hx=>?_⟩
     .by_cases hci:c=i
      .subst hci;rw[hm]at hc;cases hc;exact⟨_,MM.set_same _ _ _,hcomp⟩
      .exact⟨mc,by rw[MM.set_other _ _ hci,hc],Comp.refl _⟩
     .simp only[qB,kQ]at hx;obtain⟨rfl,rfl⟩:=hx;exact⟨_,MM.set_same _ _ _,trivial⟩
    refine⟨_,_,hk,.inl ⟨.slice (some ⟨g,0,none⟩) n n,w, ?_,hchg.post hms (.d (.c (by rw[<-c1]at hC ⊢;exact hC)))⟩⟩;simp only[Option.map_none]at ea eb ec;cases hq:P.info? e' with
    |none=>simp[hq]at hi
    |some j =>
     simp[execOp,ev,ea,eb,ec,Instr.sliceAt,run_underlying hu,Instr.sureAddr,Instr.sliceBounds,sizeOf,typeInfo,hq,Addr.add]
  .cases hk
 .cases hk
theorem aiq{ρ:Operand->Value}{t:TypeId}{x y:Operand}{s:ByteArray}{ki:IntKind}{j:Nat}(ht:P.underlying t=some .string)(hx:ρ x=.string s)(hy:ρ y=.int ki (j:Nat))(hj:j<s.size):
 (execOp ρ ⟨d,.index t x y,ty,pos,af,gd⟩).run P w=.ok (.value (.int .u8 ((s.data.toList.getD j 0).toNat:Nat))) w:=by
 have h1:s[j]?=some (s.data.toList.getD j 0):=by
  rw[getElem?_pos s j hj];simp[jH,hj];rfl
 simp[execOp,hx,hy,Instr.index,asIntOf,run_underlying ht,h1]
theorem agR{t:TypeId}{x y:Operand}(hτ:aaH P τ=true)(h:Sta N w0 X0 S M a w e b)(hk:aop (Den P) τ ⟨d,.index t x y,ty,pos,af,gd⟩ e b k):Good P w0 X0 S M a w ⟨d,.index t x y,ty,pos,af,gd⟩ k:=by
 unfold aop at hk;simp only at hk;split at hk
 .rename_i s ki i ht hx hy;obtain⟨j,hi,hj,hk⟩:=hk;subst hi;exact .val h.ms hk (aiq (agW (aaq hτ ht)) (h.ev hx).v_ (h.ev hy).v_ hj) (.d (.c (.v _ rfl)))
 .cases hk
theorem ahL{src dst:TypeId}{x:Operand}(hτ:aaH P τ=true)(h:Sta N w0 X0 S M a w e b)(hk:aop (Den P) τ ⟨d,.convert src dst x,ty,pos,af,gd⟩ e b k):Good P w0 X0 S M a w ⟨d,.convert src dst x,ty,pos,af,gd⟩ k:=by
 unfold aop at hk;simp only at hk;split at hk
 .rename_i k0 ki k1 n h1 h2 hx;exact .val h.ms hk (aaJ (by rw[ain (aaq hτ h1)];rfl) (ain (aaq hτ h2)) (h.ev hx).v_ rfl) (.d (.c (.v _ rfl)))
 .rename_i T s by_ z b0 h1 h2 hx;split at hk
  .rename_i h3 h4;have hs1:=iO h4;subst hs1;obtain⟨_,hsl,_⟩:=sliceT (aaq hτ h2)
   have hd:P.underlying dst=some (.slice T):=by
    unfold sliceOf at hsl;split at hsl
    .rename_i q hq;cases hi:P.info? q with
     |none=>simp[hi]at hsl
     |some j=>simp[hi]at hsl;rw[hq,hsl.1]
    .cases hsl
   have hxe:=(h.ev hx).v_;have hrun:=Lib.run_convert_string_bytes (P:=P) w src dst T b0 (agW (aaq hτ h1)) hd (ain (aaq hτ h3));have hb:Below w.heap.size w (Lib.bytesWorld w T b0):=⟨rfl,rfl,rfl,by rw[Lib.bytesWorld_size];omega,λk hk=>Lib.bytesWorld_at_old w T b0 k hk⟩
   have hext:=Ext.call (bl S++X0) hb
   have hS:RepS (Lib.bytesWorld w T b0) (bl S++X0) 1 (b0.data.toList.map λc=>[Value.int .u8 c.toNat]) (ade b0):=by
    refine⟨by simp[ade],λu hu=>?_,λj u c hu hc=>?_⟩
    .obtain⟨c,_,rfl⟩:=dw.1 hu;rfl
    .unfold ade at hc;rw[rE]at hu hc;cases hq:b0.data.toList[j]? with
     |none=>rw[hq]at hu;cases hu
     |some x =>
      rw[hq]at hu hc;simp only[oJ,ji]at hu hc;subst hu hc;exact .cons (.v _ rfl) (.nil _ _)
   have hfl:(b0.data.toList.map λc=>[Value.int .u8 c.toNat]).flatten=b0.data.toList.map λc=>Value.int .u8 c.toNat:=by
    induction b0.data.toList with
    |nil=>rfl
    |cons x r ih=>simp[ih]
   have hcl:Cl (Lib.bytesWorld w T b0) (bl S++X0) (some ⟨w.heap.size,0,none⟩) (b0.data.toList.map λc=>[Value.int .u8 c.toNat]).flatten:=by
    rw[hfl];intro _;refine⟨_,rfl,by rw[Lib.bytesWorld_size];exact Nat.lt_succ_self _,λhm=>absurd (h.bnd _ hm) (Nat.lt_irrefl _),λj u hu=>?_⟩;rw[Addr.add_lit,nU];rw[rE]at hu;cases hq:b0.data.toList[j]? with
    |none=>rw[hq]at hu;cases hu
    |some x =>
     rw[hq]at hu;simp only[oJ,ji]at hu;subst hu
     have hj:j<b0.size:=by
      have:=(iy.1 hq).1;simpa using this
     rw[Lib.bytesWorld_cell w T b0 j hj];rw[jH,hq];rfl
   have hlen:(ade b0).length=b0.size:=by simp[ade]
   have hcap:b0.size<=grownCap w b0.size 0 T:=grownCap_ge w b0.size 0 T;have hcm:grownCap w b0.size 0 T<=9223372036854775807:=aU (grownCap_le_maxLen w b0.size 0 T (by have:=hk.p;unfold maxLen;omega)) (by unfold maxLen;omega);have hrep:=hS.sl hcl (cap:=grownCap w b0.size 0 T) (by rw[hlen];exact hcap) hcm;rw[hlen]at hrep;refine⟨_,_,hk.k,.inl ⟨_,_, ?_,(((Chg.refl w (bl S++X0) M).ext_ hext).al).post (h.ms.call hb) (.d (.c hrep))⟩⟩;simp only[execOp,hxe,Sem.run_bind,hrun,Result.andThen_ok,Sem.run_pure]
  .cases hk
 .rename_i k0 k1 n h1 h2 hx;refine .val h.ms hk ?_ (.d (.c (.v _ rfl)));simp[execOp,(h.ev hx).v_,convert,run_underlying (ain (aaq hτ h1)),run_underlying (agW (aaq hτ h2)),Conv.intToString]
 .cases hk
theorem ae2{fn:Fn}{first captured:Array Operand}(h:Sta N w0 X0 S M a w e b)(hk:aop (Den P) τ ⟨d,.makeFunc fn first captured,ty,pos,af,gd⟩ e b k):Good P w0 X0 S M a w ⟨d,.makeFunc fn first captured,ty,pos,af,gd⟩ k:=by
 unfold aop at hk;simp only at hk;split at hk
 .rename_i fn' _ _ g vs hfi hv;obtain⟨hl,hr⟩:=afc h hv;obtain⟨a_s,f,S1,M1,hk1,hm1,hc1,⟨hl1,hr1⟩,_⟩:=abW h hl hr hk;split at hk1
  .rename_i cs hcs
   have hall:∀{a_s:List AV} {cs:List Cell},cellsAll a_s=some cs->a_s=cs.map .c:=by
    intro a_s;induction a_s with
    |nil=>intro cs h;simp[cellsAll]at h;subst h;rfl
    |cons v r ih =>
     intro cs h;cases v<;>simp only[cellsAll]at h<;>first|(cases h;done)|skip
     rename_i c;cases hq:cellsAll r with
     |none=>simp[hq]at h
     |some l=>simp[hq]at h;subst h;rw[ih hq];rfl
   have has:=hall hcs;subst has;have hfirst:first = #[]:=tY (by simpa using hfi)
   subst hfirst;refine⟨_,_,hk1,.inl ⟨.func (.func g) #[] (captured.toList.map a.eval).toArray,w, ?_,hc1.al.post hm1 (.d (.c (.fn g _ cs (by simpa using hl1) λj u c hu hc=>?_)))⟩⟩
   .rw[show(captured.toList.map a.eval).toArray=captured.map a.eval from tY η];simp[execOp,Instr.makeFunc]
   .have:=hr1 j u (.c c) hu (by rw[rE,hc];rfl);cases this with
    |c h=>exact h
  .cases hk1
 .cases hk
end
section
variable {D:FuncId->List AV->AV->Prop} {τ:Tab}
def acU(ids:List Nat)(b b':Bxs):Prop:=∀i∈ids,ld i b'=ld i b
theorem abb{b:Bxs}{v:AV}{k:AV->Bxs->Prop}(hk:aa9 b v k):∃v' f,k v' f/\∀(b':Bxs) (k':AV->Bxs->Prop),acU (aaF v) b b'->k' v' f->aa9 b' v k':=by
 unfold aa9 at hk;split at hk
 .exact⟨_,_,hk,λb' k' _ h=>h⟩
 .rename_i x hn;refine⟨_,_,hk,λb' k' _ h=>?_⟩;unfold aa9
  split<;>first
   |(rename_i heq;cases heq;exact absurd rfl hn)|(rename_i heq;cases heq;exact h)|(rename_i heq;cases heq;done)|simp_all
 .exact⟨_,_,hk,λb' k' _ h=>h⟩
 .rename_i i n;split at hk
  .rename_i T s es hb;refine⟨_,_,hk.k,λb' k' hB h=>?_⟩;unfold aa9;simp only[hB i (by simp[aaF]),hb];exact⟨hk.p,h⟩
  .rename_i s es hb;refine⟨_,_,hk.k,λb' k' hB h=>?_⟩;unfold aa9;simp only[hB i (by simp[aaF]),hb];exact⟨hk.p,h⟩
  .cases hk
 .rename_i i o;simp only[abV]at hk;split at hk
  .rename_i cs hb;refine⟨_,_,hk,λb' k' hB h=>?_⟩;unfold aa9;simp only[hB i (by simp[aaF]),hb,abV];exact h
  .rename_i cs hb;refine⟨_,_,hk,λb' k' hB h=>?_⟩;unfold aa9;simp only[hB i (by simp[aaF]),hb,abV];exact h
  .cases hk
 .exact⟨_,_,hk,λb' k' _ h=>h⟩
 .cases hk
theorem abJ{α:Type}:∀(f:List (Nat×α)) {b b':List (Nat×α)} {i:Nat},ld i b'=ld i b->ld i (ups f b')=ld i (ups f b)
 |[],b,b',i,h=>h
 |(t,x)::r,b,b',i,h=>by
  refine abJ r ?_;rw[ace,ace,h]
theorem abw:∀{vs:List AV} {b:Bxs} {k:List AV->Bxs->Prop},abe vs b k->∃vs' f,k vs' f/\∀(b':Bxs) (k':List AV->Bxs->Prop),acU (vs.flatMap aaF) b b'->k' vs' f->abe vs b' k'
 |[],b,k,hk=>⟨_,_,hk,λb' k' _ h=>h⟩
 |v::r,b,k,hk=>by
  obtain⟨v',f,h1,h2⟩:=abb hk;obtain⟨vs',g,h3,h4⟩:=abw h1;refine⟨_,_,h3,λb' k' hB hk'=>h2 b' _ (λi hi=>hB i (by simp[hi])) (h4 _ _ (λi hi=>abJ f (hB i (by rw[BO];exact kG _ hi))) hk')⟩
theorem acp{e:Env}:∀{ps:List (Nat×Operand)} {b:Bxs} {k:List (Nat×List Cell)->Bxs->Prop},abH e ps b k->∃vs' f,k vs' f/\∀(e':Env) (b':Bxs) (k':List (Nat×List Cell)->Bxs->Prop),(∀p∈ps,ae e' p.2=ae e p.2)->acU (ps.flatMap λp=>abf e p.2) b b'->k' vs' f->abH e' ps b' k'
 |[],b,k,hk=>⟨_,_,hk,λe' b' k' _ _ h=>h⟩
 |(j,x)::r,b,k,hk=>by
  simp only[abH]at hk;cases hx:ae e x with
  |none=>simp[hx]at hk
  |some v =>
   simp only[hx]at hk;obtain⟨v',f,h1,h2⟩:=abb hk;obtain⟨vs',g,h3,h4⟩:=acp h1;refine⟨_,_,h3,λe' b' k' hE hB hk'=>?_⟩;have hx':ae e' x=some v:=(hE (j,x) η).trans hx;simp only[abH,hx'];refine h2 b' _ (λi hi=>hB i ?_) (h4 e' _ _ (λp hp=>hE p (by simp[hp])) (λi hi=>abJ f (hB i ?_)) hk')
   .rw[BO];exact ng _ (by simp only[abf,hx];exact hi)
   .rw[BO];exact kG _ hi
theorem ag7{v:AV}{b:Bxs}{k:List Cell->Prop}(hk:ac9 b v k):∃cs,k cs/\∀(b':Bxs) (k':List Cell->Prop),acU (aaF v) b b'->k' cs->ac9 b' v k':=by
 unfold ac9 at hk;split at hk
 .exact⟨_,hk,λb' k' _ h=>by unfold ac9;exact h⟩
 .rename_i c hne;refine⟨_,hk,λb' k' _ h=>?_⟩;unfold ac9;split
  .rename_i heq;cases heq;exact(hne rfl).elim
  .rename_i heq;cases heq;exact h
  .rename_i heq;cases heq
  .rename_i heq;cases heq
  .exfalso;simp_all
 .exact⟨_,hk,λb' k' _ h=>by unfold ac9;exact h⟩
 .rename_i c n;split at hk
  .rename_i m hm;refine⟨_,hk.k,λb' k' hB h=>?_⟩
   have:acw c b'=some m:=by
    have hb:=hB c (by simp[aaF]);unfold acw at hm ⊢;rw[hb];exact hm
   unfold ac9;simp only[this];exact⟨hk.p,h⟩
  .cases hk
 .cases hk
theorem adI{e:Env}:∀{ps:List (Nat×Operand)} {b:Bxs} {k:List (Nat×List Cell)->Prop},acv e b ps k->∃vs',k vs'/\∀(e':Env) (b':Bxs) (k':List (Nat×List Cell)->Prop),(∀p∈ps,ae e' p.2=ae e p.2)->acU (ps.flatMap λp=>abf e p.2) b b'->k' vs'->acv e' b' ps k'
 |[],b,k,hk=>⟨_,hk,λe' b' k' _ _ h=>h⟩
 |(j,x)::r,b,k,hk=>by
  simp only[acv]at hk;cases hx:ae e x with
  |none=>simp[hx]at hk
  |some v =>
   simp only[hx]at hk;obtain⟨cs,h1,h2⟩:=ag7 hk;obtain⟨vs',h3,h4⟩:=adI h1;refine⟨_,h3,λe' b' k' hE hB hk'=>?_⟩;have hx':ae e' x=some v:=(hE (j,x) η).trans hx;simp only[acv,hx'];refine h2 b' _ (λi hi=>hB i ?_) (h4 e' b' _ (λp hp=>hE p (by simp[hp])) (λi hi=>hB i ?_) hk')
   .rw[BO];exact ng _ (by simp only[abf,hx];exact hi)
   .rw[BO];exact kG _ hi
theorem aei{e:Env}:∀{l:List Operand} {vs:List AV},aaZ (λx=>ae e x) l=some vs->vs.flatMap aaF=l.flatMap (abf e)
 |[],vs,h=>by simp[aaZ]at h;subst h;rfl
 |x::l,vs,h=>by
  simp only[aaZ]at h;cases hx:ae e x with
  |none=>simp[hx]at h
  |some y =>
   cases hq:aaZ (λx=>ae e x) l with
   |none=>simp[hx,hq]at h
   |some q =>
    simp[hx,hq]at h;subst h;rw[BO,BO,aei hq];simp only[abf,hx]
theorem acj{α β:Type}{f g:α->Option β}:∀{l:List α},(∀x∈l,f x=g x)->aaZ f l=aaZ g l
 |[],_=>rfl
 |x::r,h=>by simp only[aaZ,h x η,acj (l:=r) (λy hy=>h y (by simp[hy]))]
structure Alike (o:Oper) (e:Env) (b:Bxs) (e':Env) (b':Bxs):Prop where
 op:∀x∈o.op.operands.toList,ae e' x=ae e x
 bx:acU (rdO o e b) b b'
def abG(D:FuncId->List AV->AV->Prop)(τ:Tab)(o:Oper)(e:Env)(b:Bxs)(k:AV->Bxs->Prop):Prop:=∃v f,k v f/\∀(e':Env) (b':Bxs) (k':AV->Bxs->Prop),Alike o e b e' b'->k' v f->aop D τ o e' b' k'
variable {d:Option Nat} {ty:TypeId} {pos:String} {af:Array Edge} {gd:Option (Nat × Bool)} {k:AV->Bxs->Prop} {e:Env} {b:Bxs}
theorem ahT{x:Operand}(hk:aop D τ ⟨d,.move x,ty,pos,af,gd⟩ e b k):abG D τ ⟨d,.move x,ty,pos,af,gd⟩ e b k:=by
 unfold aop at hk;cases hx:ae e x with
 |none=>simp[hx]at hk
 |some v =>
  simp only[hx]at hk;refine⟨_,_,hk,λe' b' k' hA h=>?_⟩;unfold aop;simp only[hA.op x υ,hx];exact h
theorem af6{x:Operand}(hk:aop D τ ⟨d,.assign x,ty,pos,af,gd⟩ e b k):abG D τ ⟨d,.assign x,ty,pos,af,gd⟩ e b k:=by
 unfold aop at hk;cases hx:ae e x with
 |none=>simp[hx]at hk
 |some v =>
  simp only[hx]at hk;refine⟨_,_,hk,λe' b' k' hA h=>?_⟩;unfold aop;simp only[hA.op x υ,hx];exact h
theorem ahQ{x y z:Operand}(hk:aop D τ ⟨d,.pick x y z,ty,pos,af,gd⟩ e b k):abG D τ ⟨d,.pick x y z,ty,pos,af,gd⟩ e b k:=by
 unfold aop at hk;simp only at hk;split at hk
 .rename_i p hx;have hb:(match ae e (cond p y z)with|some v=>k v []|none=>False):=by cases p<;>first|exact hk.t rfl|exact hk.f rfl
  cases hq:ae e (cond p y z)with
  |none=>simp[hq]at hb
  |some v =>
   simp only[hq]at hb;refine⟨_,_,hb,λe' b' k' hA h=>?_⟩;unfold aop;simp only[hA.op x υ,hx];refine⟨λh1=>?_,λh1=>?_⟩<;>subst h1
   .have:ae e' y=ae e y:=hA.op y υ;simp only[cond_true]at hq ⊢;rw[this,hq];exact h
   .have:ae e' z=ae e z:=hA.op z υ;simp only[cond_false]at hq ⊢;rw[this,hq];exact h
 .cases hk
theorem agX{t:TypeId}(hk:aop D τ ⟨d,.alloc t,ty,pos,af,gd⟩ e b k):abG D τ ⟨d,.alloc t,ty,pos,af,gd⟩ e b k:=by
 unfold aop at hk;simp only at hk;split at hk
 .rename_i ti i h1;split at hk
  .rename_i hty;refine⟨_,_,hk,λe' b' k' hA h=>?_⟩;unfold aop;simp only[h1,hty];exact h
  .cases hk
 .cases hk
theorem aiw{t:TypeId}{x:Operand}(hk:aop D τ ⟨d,.box t x,ty,pos,af,gd⟩ e b k):abG D τ ⟨d,.box t x,ty,pos,af,gd⟩ e b k:=by
 unfold aop at hk;simp only at hk;split at hk
 .rename_i i v hx;obtain⟨v',f,h1,h2⟩:=abb hk;split at h1
  .rename_i hf;refine⟨_,_,h1,λe' b' k' hA h=>?_⟩;unfold aop;simp only[hA.op x υ,hx];refine h2 b' _ (λi hi=>hA.bx i (by simp[rdO,passes,abj,mnO,Op.operands,abf,hx,hi])) ?_;simp only[hf];exact h
  .cases h1
 .cases hk
theorem adb{b:Bxs}{es:List (List Cell)}{n:Nat}{j:Int}{ti:TI}{off:Nat}(hk:Obl (n=es.length) (Elem es j λcs=>(match aa0 ti (aaz off cs)with|some v=>k v []|none=>False))):
 ∃v,k v []/\∀(k':AV->Bxs->Prop),k' v []->Obl (n=es.length) (Elem es j λcs=>(match aa0 ti (aaz off cs)with|some v=>k' v []|none=>False)):=by
 obtain⟨hl,⟨j',cs,hj,he,hkk⟩⟩:=hk;cases hr:aa0 ti (aaz off cs)with
 |none=>simp[hr]at hkk
 |some v =>
  simp only[hr]at hkk;exact⟨v,hkk,λk' h=>⟨hl,⟨j',cs,hj,he,by simp only[hr];exact h⟩⟩⟩
theorem acg:∀{cs:List Cell} {b:Bxs} {k:List Cell->Bxs->Prop},obK cs b k->∃cs' f,k cs' f/\∀(b':Bxs) (k':List Cell->Bxs->Prop),acU (abp cs) b b'->k' cs' f->obK cs b' k'
 |[],b,k,hk=>⟨_,_,hk,λb' k' _ h=>h⟩
 |.ob i n::r,b,k,hk=>by
  simp only[obK]at hk;obtain⟨v',f,h1,h2⟩:=abb hk;cases v' with
  |c c' =>
   simp only at h1;obtain⟨cs',g,h3,h4⟩:=acg h1;refine⟨_,_,h3,λb' k' hB hk'=>?_⟩;simp only[obK];exact h2 b' _ (λj hj=>hB j (by simp[aaF]at hj;subst hj;simp[abp])) (h4 _ _ (λj hj=>abJ f (hB j (by simp[abp,hj]))) hk')
  |_=>exact False.elim h1
 |.v u::r,b,k,hk=>by
  simp only[obK]at hk;obtain⟨cs',g,h3,h4⟩:=acg hk;exact⟨_,_,h3,λb' k' hB hk'=>by simp only[obK];exact h4 _ _ (λj hj=>hB j (by simpa only[abp]using hj)) hk'⟩
 |.sl s es::r,b,k,hk=>by
  simp only[obK]at hk;obtain⟨cs',g,h3,h4⟩:=acg hk;exact⟨_,_,h3,λb' k' hB hk'=>by simp only[obK];exact h4 _ _ (λj hj=>hB j (by simpa only[abp]using hj)) hk'⟩
 |.p ps::r,b,k,hk=>by
  simp only[obK]at hk;obtain⟨cs',g,h3,h4⟩:=acg hk;exact⟨_,_,h3,λb' k' hB hk'=>by simp only[obK];exact h4 _ _ (λj hj=>hB j (by simpa only[abp]using hj)) hk'⟩
 |.fn ff ps::r,b,k,hk=>by
  simp only[obK]at hk;obtain⟨cs',g,h3,h4⟩:=acg hk;exact⟨_,_,h3,λb' k' hB hk'=>by simp only[obK];exact h4 _ _ (λj hj=>hB j (by simpa only[abp]using hj)) hk'⟩
theorem adg:∀{n:Nat} {cs l:List Cell},takeN n cs=some l->∀i∈abp l,i∈abp cs
 |0,cs,l,h,i,hi=>by simp[takeN]at h;subst h;simp[abp]at hi
 |n+1,[],l,h,i,hi=>by simp[takeN]at h
 |n+1,c::cs,l,h,i,hi=>by
  simp only[takeN]at h;cases hq:takeN n cs with
  |none=>simp[hq]at h
  |some q =>
   simp[hq]at h;subst h;have ih:=adg hq;cases c<;>simp only[abp,mQ]at hi ⊢<;>first|exact ih i hi|(rcases hi with hi|hi;exact .inl hi;exact .inr (ih i hi))
theorem ads:∀{n:Nat} {cs:List Cell},∀i∈abp (aaz n cs),i∈abp cs
 |0,cs,i,hi=>by simpa[aaz]using hi
 |n+1,[],i,hi=>by simp[aaz,abp]at hi
 |n+1,c::cs,i,hi=>by
  have:=ads (n:=n) (cs:=cs) i hi;cases c<;>simp only[abp,mQ]<;>first|exact this|exact .inr this
theorem agO{ti:TI}{cs:List Cell}{b:Bxs}{k:AV->Bxs->Prop}(hk:acE ti cs b k):∃v f,k v f/\∀(b':Bxs) (k':AV->Bxs->Prop),acU (abp cs) b b'->k' v f->acE ti cs b' k':=by
 unfold acE at hk;split at hk
 .rename_i n hn;split at hk
  .rename_i l hl;obtain⟨cs',f,h1,h2⟩:=acg hk;refine⟨_,_,h1,λb' k' hB h=>?_⟩;unfold acE;simp only[hn,hl];exact h2 b' _ (λi hi=>hB i (adg hl i hi)) h
  .cases hk
 .rename_i hn;cases ti<;>(try simp only at hk)<;>first|(cases hk;done)|(simp[ahy]at hn;done)|skip
  all_goals(cases cs with
   |nil=>cases hk
   |cons c r=>exact⟨_,_,hk,λb' k' hB h=>h⟩)
theorem ahW{t:TypeId}{x:Operand}(hk:aop D τ ⟨d,.load t x,ty,pos,af,gd⟩ e b k):abG D τ ⟨d,.load t x,ty,pos,af,gd⟩ e b k:=by
 unfold aop at hk;simp only at hk;split at hk
 .rename_i ti i off ht hx;split at hk
  .rename_i cs hb;cases hr:aa0 ti (aaz off cs)with
   |none=>simp[hr]at hk
   |some v =>
    simp only[hr]at hk;refine⟨_,_,hk,λe' b' k' hA h=>?_⟩;have hb':=hA.bx i (by simp[rdO,passes,abj,mnO,Op.operands,abf,hx,aaF]);unfold aop;simp only[ht,hA.op x υ,hx,hb',hb,hr];exact h
  .rename_i cs hb;cases hr:aa0 ti (aaz off cs)with
   |none=>simp[hr]at hk
   |some v =>
    simp only[hr]at hk;refine⟨_,_,hk,λe' b' k' hA h=>?_⟩;have hb':=hA.bx i (by simp[rdO,passes,abj,mnO,Op.operands,abf,hx,aaF]);unfold aop;simp only[ht,hA.op x υ,hx,hb',hb,hr];exact h
  .rename_i cs hb;obtain⟨v,f,h1,h2⟩:=agO hk;refine⟨_,_,h1,λe' b' k' hA h=>?_⟩;have hb':=hA.bx i (by simp[rdO,passes,abj,mnO,Op.operands,abf,hx,aaF]);unfold aop;simp only[ht,hA.op x υ,hx,hb',hb];refine h2 b' k' (λj hj=>hA.bx j ?_) h;simp only[rdO,passes,cond_false,abj];exact kG _ (List.mem_flatMap.2 ⟨i,by simp[mnO,Op.operands,abf,hx,aaF],by simp only[ahJ,hb];exact ads j hj⟩)
  .cases hk
 .rename_i ti cs ht hx;cases hr:aa0 ti cs with
  |none=>simp[hr]at hk
  |some v =>
   simp only[hr]at hk;refine⟨_,_,hk,λe' b' k' hA h=>?_⟩;unfold aop;simp only[ht,hA.op x υ,hx,hr];exact h
 .rename_i ti cs ht hx;cases hr:aa0 ti cs with
  |none=>simp[hr]at hk
  |some v =>
   simp only[hr]at hk;refine⟨_,_,hk,λe' b' k' hA h=>?_⟩;unfold aop;simp only[ht,hA.op x υ,hx,hr];exact h
 .rename_i ti g off ht hx;split at hk
  .rename_i kk cs hg;cases hr:aa0 ti (aaz off cs)with
   |none=>simp[hr]at hk
   |some v =>
    simp only[hr]at hk;refine⟨_,_,hk,λe' b' k' hA h=>?_⟩;unfold aop;simp only[ht,hA.op x υ,hx,hg,hr];exact h
  .cases hk
 .rename_i ti i n j off ht hx;split at hk
  .rename_i T s es hb;obtain⟨v,h1,h2⟩:=adb (b:=b) hk;refine⟨_,_,h1,λe' b' k' hA h=>?_⟩;have hb':=hA.bx i (by simp[rdO,passes,abj,mnO,Op.operands,abf,hx,aaF]);unfold aop;simp only[ht,hA.op x υ,hx,hb',hb];exact h2 k' h
  .rename_i s es hb;obtain⟨v,h1,h2⟩:=adb (b:=b) hk;refine⟨_,_,h1,λe' b' k' hA h=>?_⟩;have hb':=hA.bx i (by simp[rdO,passes,abj,mnO,Op.operands,abf,hx,aaF]);unfold aop;simp only[ht,hA.op x υ,hx,hb',hb];exact h2 k' h
  .cases hk
 .cases hk
theorem agY{t:TypeId}{x y:Operand}(hk:aop D τ ⟨d,.store t x y,ty,pos,af,gd⟩ e b k):abG D τ ⟨d,.store t x y,ty,pos,af,gd⟩ e b k:=by
 unfold aop at hk;simp only at hk;split at hk
 .rename_i ds hag;split at hk
  .rename_i ti i off ht hx;split at hk
   .rename_i cs hb;split at hk
    .rename_i cs' hsz hp;refine⟨_,_,hk,λe' b' k' hA h=>?_⟩;have hb':=hA.bx i (by simp[rdO,passes,abj,mnO,Op.operands,abf,hx,aaF]);unfold aop;simp only[hA.op x υ,hA.op y υ,hag,ht,hx,hb',hb,hsz,hp];exact h
    .cases hk
   .cases hk
  .cases hk
 rename_i hag;split at hk
 .rename_i ti i off v ht hx hy
  have old:∀{cs:List Cell} (vo:Bool),(aa9 b v λv' f=>(match f.any (λp=>Nat.beq p.1 i),szB ti (cellsOf v').length,abK off (cellsOf v') cs with|false,true,some cs'=>k .any (f++[(i,cond vo (.varo cs') (.var cs'))])|_,_,_=>False)) ->
   ∃f,k .any f/\∀(b':Bxs) (k':AV->Bxs->Prop),acU (aaF v) b b'->k' .any f->(aa9 b' v λv' f=>(match f.any (λp=>Nat.beq p.1 i),szB ti (cellsOf v').length,abK off (cellsOf v') cs with|false,true,some cs'=>k' .any (f++[(i,cond vo (.varo cs') (.var cs'))])|_,_,_=>False)):=by
   intro cs vo hk;obtain⟨v',f,h1,h2⟩:=abb hk;split at h1
   .rename_i cs' hf hsz hp;refine⟨_,h1,λb' k' hB h=>h2 b' _ hB ?_⟩;simp only[hf,hsz,hp];exact h
   .exact False.elim h1
  have hlen:∀{e':Env} {b':Bxs} {c n:Nat},Alike ⟨d,.store t x y,ty,pos,af,gd⟩ e b e' b'->afO v=some (c,n)->acw c b'=acw c b:=by
   intro e' b' c n hA hg
   have hv:v=.gs c n:=by
    unfold afO at hg;split at hg
    .cases hg;rfl
    .cases hg
   unfold acw;rw[hA.bx c (by subst hv;simp[rdO,passes,abj,mnO,Op.operands,abf,hy,aaF])]
  split at hk
  .rename_i cs hb;split at hk
   .rename_i c n ho hsl hgs;split at hk
    .rename_i ml cs' hl hp;refine⟨_,_,hk.k,λe' b' k' hA h=>?_⟩;have hb':=hA.bx i (by simp[rdO,passes,abj,mnO,Op.operands,abf,hx,aaF]);unfold aop;have hagv:acS (some v)=none:=by rw[<-hy];exact hag
     simp only[hagv,ht,hA.op x υ,hA.op y υ,hx,hy,hb',hb,ho,hsl,hgs,hlen hA hgs,hl,hp];exact⟨hk.p,h⟩
    .cases hk
   .rename_i hno;obtain⟨f,h1,h2⟩:=old (cs:=cs) false hk;refine⟨_,_,h1,λe' b' k' hA h=>?_⟩;have hb':=hA.bx i (by simp[rdO,passes,abj,mnO,Op.operands,abf,hx,aaF]);have h3:=h2 b' k' (λc hc=>hA.bx c (by simp[rdO,passes,abj,mnO,Op.operands,abf,hy,hc])) h;unfold aop;have hagv:acS (some v)=none:=by rw[<-hy];exact hag
    simp only[hagv,ht,hA.op x υ,hA.op y υ,hx,hy,hb',hb]
    first
     |exact h3
     |(split
       .rename_i c n ho hsl hgs;exact absurd hgs (hno c n ho hsl)
       .exact h3)
  .rename_i cs hb;split at hk
   .rename_i c n hsl hgs;split at hk
    .rename_i ml cs' hl hp;refine⟨_,_,hk.k,λe' b' k' hA h=>?_⟩;have hb':=hA.bx i (by simp[rdO,passes,abj,mnO,Op.operands,abf,hx,aaF]);unfold aop;have hagv:acS (some v)=none:=by rw[<-hy];exact hag
     simp only[hagv,ht,hA.op x υ,hA.op y υ,hx,hy,hb',hb,hsl,hgs,hlen hA hgs,hl,hp];exact⟨hk.p,h⟩
    .cases hk
   .rename_i hno;obtain⟨f,h1,h2⟩:=old (cs:=cs) true hk;refine⟨_,_,h1,λe' b' k' hA h=>?_⟩;have hb':=hA.bx i (by simp[rdO,passes,abj,mnO,Op.operands,abf,hx,aaF]);have h3:=h2 b' k' (λc hc=>hA.bx c (by simp[rdO,passes,abj,mnO,Op.operands,abf,hy,hc])) h;unfold aop;have hagv:acS (some v)=none:=by rw[<-hy];exact hag
    simp only[hagv,ht,hA.op x υ,hA.op y υ,hx,hy,hb',hb]
    first
     |exact h3
     |(split
       .rename_i c n hsl hgs;exact absurd hgs (hno c n hsl)
       .exact h3)
  .cases hk
 .rename_i ti i n j off v ht hx hy;split at hk
  .rename_i T s es hb;obtain⟨v',f,h1,h2⟩:=abb hk;split at h1
   .obtain⟨hl,⟨j',cs,hj,he,hkk⟩⟩:=h1;split at hkk
    .rename_i cs' hsz hp;refine⟨_,_,hkk,λe' b' k' hA h=>?_⟩;have hb':=hA.bx i (by simp[rdO,passes,abj,mnO,Op.operands,abf,hx,aaF]);unfold aop;have hagv:acS (some v)=none:=by rw[<-hy];exact hag
     simp only[hagv,ht,hA.op x υ,hA.op y υ,hx,hy,hb',hb];refine h2 b' _ (λc hc=>hA.bx c (by simp[rdO,passes,abj,mnO,Op.operands,abf,hy,hc])) ?_;refine⟨hl,⟨j',cs,hj,he, ?_⟩⟩;simp only[hsz,hp];exact h
    .exact False.elim hkk
   .exact False.elim h1
  .cases hk
 .cases hk
theorem aem{t:TypeId}{x:Operand}{i:Nat}(hk:aop D τ ⟨d,.fieldAddr t x i,ty,pos,af,gd⟩ e b k):abG D τ ⟨d,.fieldAddr t x i,ty,pos,af,gd⟩ e b k:=by
 unfold aop at hk;simp only at hk;split at hk
 .rename_i n fs z ht;split at hk
  .rename_i off s1 s2 j o' hi hx;refine⟨_,_,hk,λe' b' k' hA h=>?_⟩;unfold aop;simp only[ht,hA.op x υ,hx,hi];exact h
  .rename_i off s1 s2 c n' j o' hi hx;split at hk
   .rename_i T s es hb;refine⟨_,_,hk.k,λe' b' k' hA h=>?_⟩;have hb':=hA.bx c (by simp[rdO,passes,Op.operands,hx,aiQ]);unfold aop;simp only[ht,hA.op x υ,hx,hi,hb',hb];exact⟨hk.p,h⟩
   .rename_i s es hb;refine⟨_,_,hk.k,λe' b' k' hA h=>?_⟩;have hb':=hA.bx c (by simp[rdO,passes,Op.operands,hx,aiQ]);unfold aop;simp only[ht,hA.op x υ,hx,hi,hb',hb];exact⟨hk.p,h⟩
   .cases hk
  .rename_i off s1 s2 cs hi hx;refine⟨_,_,hk,λe' b' k' hA h=>?_⟩;unfold aop;simp only[ht,hA.op x υ,hx,hi];exact h
  .rename_i off s1 s2 cs hi hx;refine⟨_,_,hk,λe' b' k' hA h=>?_⟩;unfold aop;simp only[ht,hA.op x υ,hx,hi];exact h
  .rename_i off s1 s2 g o' hi hx;refine⟨_,_,hk,λe' b' k' hA h=>?_⟩;unfold aop;simp only[ht,hA.op x υ,hx,hi];exact h
  .cases hk
 .cases hk
theorem ag0{t:TypeId}{x:Operand}{i:Nat}(hk:aop D τ ⟨d,.field t x i,ty,pos,af,gd⟩ e b k):abG D τ ⟨d,.field t x i,ty,pos,af,gd⟩ e b k:=by
 unfold aop at hk;simp only at hk;split at hk
 .rename_i n fs z ht;split at hk
  .rename_i off s ag cs hi hx;cases hr:takeN s (aaz off cs)with
   |none=>simp[hr]at hk
   |some l =>
    simp only[hr]at hk;cases ag with
    |true =>
     refine⟨_,_,hk,λe' b' k' hA h=>?_⟩;unfold aop;simp only[ht,hA.op x υ,hx,hi,hr];exact h
    |false =>
     cases l with
     |nil=>cases hk
     |cons c r =>
      refine⟨_,_,hk,λe' b' k' hA h=>?_⟩;unfold aop;simp only[ht,hA.op x υ,hx,hi,hr];exact h
  .cases hk
 .cases hk
theorem aep{t:TypeId}{x y:Operand}(hk:aop D τ ⟨d,.indexAddr t x y,ty,pos,af,gd⟩ e b k):abG D τ ⟨d,.indexAddr t x y,ty,pos,af,gd⟩ e b k:=by
 unfold aop at hk;simp only at hk;split at hk
 .rename_i e1 s by_ z s' es ki i ht hx hy;split at hk
  .rename_i hs;obtain⟨j,cs,h1,h2,hkk⟩:=hk;refine⟨_,_,hkk,λe' b' k' hA h=>?_⟩;unfold aop;simp only[ht,hA.op x υ,hA.op y υ,hx,hy,hs];exact⟨j,cs,h1,h2,h⟩
  .cases hk
 .rename_i e1 s by_ z c n ki i ht hx hy;split at hk
  .rename_i T s' es hb;split at hk
   .rename_i hs;obtain⟨hl,⟨j,cs,h1,h2,hkk⟩⟩:=hk;refine⟨_,_,hkk,λe' b' k' hA h=>?_⟩;have hb':=hA.bx c (by simp[rdO,passes,abj,mnO,Op.operands,abf,hx,aaF]);unfold aop;simp only[ht,hA.op x υ,hA.op y υ,hx,hy,hb',hb,hs];exact⟨hl,⟨j,cs,h1,h2,h⟩⟩
   .cases hk
  .rename_i s' es hb;split at hk
   .rename_i hs;obtain⟨hl,⟨j,cs,h1,h2,hkk⟩⟩:=hk;refine⟨_,_,hkk,λe' b' k' hA h=>?_⟩;have hb':=hA.bx c (by simp[rdO,passes,abj,mnO,Op.operands,abf,hx,aaF]);unfold aop;simp only[ht,hA.op x υ,hA.op y υ,hx,hy,hb',hb,hs];exact⟨hl,⟨j,cs,h1,h2,h⟩⟩
   .cases hk
  .cases hk
 .rename_i n s one z c o' ki i ht hx hy;split at hk
  .rename_i hs;refine⟨_,_,hk,λe' b' k' hA h=>?_⟩;unfold aop;simp only[ht,hA.op x υ,hA.op y υ,hx,hy,hs];exact h
  .cases hk
 .rename_i n s one z g o' ki i ht hx hy;split at hk
  .rename_i hs;refine⟨_,_,hk,λe' b' k' hA h=>?_⟩;unfold aop;simp only[ht,hA.op x υ,hA.op y υ,hx,hy,hs];exact h
  .cases hk
 .rename_i n s one z cs ki i ht hx hy;split at hk
  .rename_i hs;refine⟨_,_,hk,λe' b' k' hA h=>?_⟩;unfold aop;simp only[ht,hA.op x υ,hA.op y υ,hx,hy,hs];exact h
  .cases hk
 .rename_i n s one z cs ki i ht hx hy;split at hk
  .rename_i hs;refine⟨_,_,hk,λe' b' k' hA h=>?_⟩;unfold aop;simp only[ht,hA.op x υ,hA.op y υ,hx,hy,hs];exact h
  .cases hk
 .rename_i n s one z c m j o' ki i ht hx hy;split at hk
  .rename_i T s' es hs hb;refine⟨_,_,hk.k,λe' b' k' hA h=>?_⟩;have hb':=hA.bx c (by simp[rdO,passes,abj,mnO,Op.operands,abf,hx,aaF]);unfold aop;simp only[ht,hA.op x υ,hA.op y υ,hx,hy,hs,hb',hb];exact⟨hk.p,h⟩
  .rename_i s' es hs hb;refine⟨_,_,hk.k,λe' b' k' hA h=>?_⟩;have hb':=hA.bx c (by simp[rdO,passes,abj,mnO,Op.operands,abf,hx,aaF]);unfold aop;simp only[ht,hA.op x υ,hA.op y υ,hx,hy,hs,hb',hb];exact⟨hk.p,h⟩
  .cases hk
 .cases hk
theorem afR{x:Operand}{i:Nat}(hk:aop D τ ⟨d,.extract x i,ty,pos,af,gd⟩ e b k):abG D τ ⟨d,.extract x i,ty,pos,af,gd⟩ e b k:=by
 unfold aop at hk;simp only at hk;split at hk
 .rename_i vs hx;cases hi:vs[i]? with
  |none=>simp[hi]at hk
  |some v =>
   simp only[hi]at hk;refine⟨_,_,hk,λe' b' k' hA h=>?_⟩;unfold aop;simp only[hA.op x υ,hx,hi];exact h
 .cases hk
theorem ah2{t:TypeId}{x:Operand}(hk:aop D τ ⟨d,.unOp .not t x,ty,pos,af,gd⟩ e b k):abG D τ ⟨d,.unOp .not t x,ty,pos,af,gd⟩ e b k:=by
 unfold aop at hk;simp only at hk;split at hk
 .rename_i p hx;refine⟨_,_,hk,λe' b' k' hA h=>?_⟩;unfold aop;simp only[hA.op x υ,hx];exact h
 .cases hk
theorem aff{x:Operand}(hk:aop D τ ⟨d,.nilCheck x,ty,pos,af,gd⟩ e b k):abG D τ ⟨d,.nilCheck x,ty,pos,af,gd⟩ e b k:=by
 unfold aop at hk;simp only at hk;split at hk
 all_goals first
  |(rename_i hx
    refine⟨_,_,hk,λe' b' k' hA h=>?_⟩;unfold aop;simp only[hA.op x υ,hx]
    exact h)
  |cases hk
theorem afg{fn:Fn}{first captured:Array Operand}(hk:aop D τ ⟨d,.makeFunc fn first captured,ty,pos,af,gd⟩ e b k):abG D τ ⟨d,.makeFunc fn first captured,ty,pos,af,gd⟩ e b k:=by
 unfold aop at hk;simp only at hk;split at hk
 .rename_i g vs hf hv;obtain⟨a_s,f,h1,h2⟩:=abw hk;split at h1
  .rename_i cs hcs;refine⟨_,_,h1,λe' b' k' hA h=>?_⟩
   have hv':aaZ (λx=>ae e' x) captured.toList=some vs:=by
    rw[<-hv];exact acj λx hx=>hA.op x (by simp only[Op.operands,Array.toList_append];exact kG _ hx)
   unfold aop;simp only[hf,hv'];refine h2 b' _ (λi hi=>hA.bx i ?_) (by simp only[hcs];exact h);simp only[rdO,passes,cond_false,abj,dB,mnO,Op.operands,Array.toList_append];rw[Kw,<-aei hv];exact kG _ hi
  .cases h1
 .cases hk
theorem ah8{t:TypeId}{x:Operand}(hk:aop D τ ⟨d,.unOp .neg t x,ty,pos,af,gd⟩ e b k):abG D τ ⟨d,.unOp .neg t x,ty,pos,af,gd⟩ e b k:=by
 unfold aop at hk;simp only at hk;split at hk
 .rename_i p q hx;refine⟨_,_,hk,λe' b' k' hA h=>?_⟩;unfold aop;simp only[hA.op x υ,hx];exact h
 .cases hk
theorem ahV{src dst:TypeId}{x:Operand}(hk:aop D τ ⟨d,.convert src dst x,ty,pos,af,gd⟩ e b k):abG D τ ⟨d,.convert src dst x,ty,pos,af,gd⟩ e b k:=by
 unfold aop at hk;simp only at hk;split at hk
 .rename_i k0 ki k1 n h1 h2 hx;refine⟨_,_,hk,λe' b' k' hA h=>?_⟩;unfold aop;simp only[h1,h2,hA.op x υ,hx];exact h
 .rename_i T s by_ z b0 h1 h2 hx;split at hk
  .rename_i h3 h4;refine⟨_,_,hk.k,λe' b' k' hA h=>?_⟩;unfold aop;simp only[h1,h2,hA.op x υ,hx,h3,h4];exact⟨hk.p,h⟩
  .cases hk
 .rename_i k0 k1 n h1 h2 hx;refine⟨_,_,hk,λe' b' k' hA h=>?_⟩;unfold aop;simp only[h1,h2,hA.op x υ,hx];exact h
 .cases hk
theorem ag4{t:TypeId}{x y:Operand}(hk:aop D τ ⟨d,.index t x y,ty,pos,af,gd⟩ e b k):abG D τ ⟨d,.index t x y,ty,pos,af,gd⟩ e b k:=by
 unfold aop at hk;simp only at hk;split at hk
 .rename_i s ki i h1 hx hy;obtain⟨j,hi,hj,hk⟩:=hk;refine⟨_,_,hk,λe' b' k' hA h=>?_⟩;unfold aop;simp only[h1,hA.op x υ,hA.op y υ,hx,hy];exact⟨j,hi,hj,h⟩
 .cases hk
theorem ahR{op:BinOp}{x y:AV}{k:AV->Prop}(hk:adJ op x y k):∃v,k v/\∀k':AV->Prop,k' v->adJ op x y k':=by
 unfold adJ at hk
 split at hk<;>first
  |exact False.elim hk|exact⟨_,hk.k,λk' h=>by unfold adJ;exact⟨hk.p,h⟩⟩|exact⟨_,hk,λk' h=>by unfold adJ;exact h⟩
  |(split at hk<;>first
   |exact False.elim hk
   |(rename_i hd;first
    |exact⟨_,hk.k,λk' h=>by unfold adJ;simp only[hd];exact⟨hk.p,h⟩⟩|exact⟨_,hk,λk' h=>by unfold adJ;simp only[hd];exact h⟩))
theorem aiD{op:BinOp}{t u:TypeId}{x y:Operand}(hk:aop D τ ⟨d,.binOp op t x y u,ty,pos,af,gd⟩ e b k):abG D τ ⟨d,.binOp op t x y u,ty,pos,af,gd⟩ e b k:=by
 unfold aop at hk;simp only at hk;split at hk
 .rename_i p q hx hy;split at hk
  .rename_i ht;refine⟨_,_,hk,λe' b' k' hA h=>?_⟩;unfold aop;simp only[hA.op x υ,hA.op y υ,hx,hy,ht];exact h
  .rename_i ht;refine⟨_,_,hk,λe' b' k' hA h=>?_⟩;unfold aop;simp only[hA.op x υ,hA.op y υ,hx,hy,ht];exact h
  .cases hk
 .rename_i cs ds hx hy;split at hk
  .rename_i ks hf;split at hk
   .rename_i q hq;refine⟨_,_,hk,λe' b' k' hA h=>?_⟩;unfold aop;simp only[hA.op x υ,hA.op y υ,hx,hy,hf,hq];exact h
   .cases hk
  .rename_i ks hf;split at hk
   .rename_i q hq;refine⟨_,_,hk,λe' b' k' hA h=>?_⟩;unfold aop;simp only[hA.op x υ,hA.op y υ,hx,hy,hf,hq];exact h
   .cases hk
  .cases hk
 .rename_i p q hn hn2 hx hy;obtain⟨v,h1,h2⟩:=ahR hk;refine⟨_,_,h1,λe' b' k' hA h=>?_⟩;unfold aop;simp only[hA.op x υ,hA.op y υ,hx,hy];exact h2 _ h
 .cases hk
theorem ag3{t:TypeId}{ps:Array (Nat×Operand)}(hk:aop D τ ⟨d,.build t ps,ty,pos,af,gd⟩ e b k):abG D τ ⟨d,.build t ps,ty,pos,af,gd⟩ e b k:=by
 unfold aop at hk;simp only at hk;split at hk
 .rename_i n fs z ht;split at hk
  .rename_i ho;obtain⟨vs,h1,h2⟩:=adI hk;cases hf:abv fs vs z with
   |none=>simp[hf]at h1
   |some cs =>
    simp only[hf]at h1;refine⟨_,_,h1,λe' b' k' hA h=>?_⟩;unfold aop;simp only[ht,ho];refine h2 e' b' _ (λp hp=>hA.op p.2 (by simp only[Op.operands];exact dw.2 ⟨p,hp,rfl⟩)) (λi hi=>hA.bx i ?_) (by simp only[hf];exact h);simp only[rdO,passes,cond_false,abj,dB,mnO,Op.operands];rw[List.flatMap_map];exact hi
  .rename_i ho;obtain⟨vs,f,h1,h2⟩:=acp hk;cases hf:abv fs vs z with
   |none=>simp[hf]at h1
   |some cs =>
    simp only[hf]at h1;refine⟨_,_,h1,λe' b' k' hA h=>?_⟩;unfold aop;simp only[ht,ho];refine h2 e' b' _ (λp hp=>hA.op p.2 (by simp only[Op.operands];exact dw.2 ⟨p,hp,rfl⟩)) (λi hi=>hA.bx i ?_) (by simp only[hf];exact h);simp only[rdO,passes,cond_false,abj,dB,mnO,Op.operands];rw[List.flatMap_map];exact hi
 .rename_i n s one z ht;obtain⟨vs,f,h1,h2⟩:=acp hk;cases hf:abv (aek s n 0) vs z with
  |none=>simp[hf]at h1
  |some cs =>
   simp only[hf]at h1;refine⟨_,_,h1,λe' b' k' hA h=>?_⟩;unfold aop;simp only[ht];refine h2 e' b' _ (λp hp=>hA.op p.2 (by simp only[Op.operands];exact dw.2 ⟨p,hp,rfl⟩)) (λi hi=>hA.bx i ?_) (by simp only[hf];exact h);simp only[rdO,passes,cond_false,abj,dB,mnO,Op.operands];rw[List.flatMap_map];exact hi
 .cases hk
theorem adO{t:TypeId}{n:Nat}{ps:Array (Nat×Operand)}(hk:aop D τ ⟨d,.buildSlice t n ps,ty,pos,af,gd⟩ e b k):abG D τ ⟨d,.buildSlice t n ps,ty,pos,af,gd⟩ e b k:=by
 unfold aop at hk;simp only at hk;split at hk
 .rename_i e1 s by_ z ht ho;obtain⟨vs,f,h1,h2⟩:=acp hk;split at h1
  .rename_i es hl h3
   have fin:∀{v:AV} {g:Bxs},(∀{k':AV->Bxs->Prop},k' v g->(match ahm τ||Nat.beq n 0 with
    |true=>(match(generalizing:=false) d with
     |some d=>(match f.any λp=>Nat.beq p.1 d with|false=>k' (.gs d n) (f++[(d,.grow e1 s es)])|true=>False)
     |none=>False)
    |false=>k' (.c (.sl s es)) f))->k v g->abG D τ ⟨d,.buildSlice t n ps,ty,pos,af,gd⟩ e b k:=by
    intro v g hkk hkv;refine⟨_,_,hkv,λe' b' k' hA h=>?_⟩;unfold aop;simp only[ht,ho];refine h2 e' b' _ (λp hp=>hA.op p.2 (by simp only[Op.operands];exact dw.2 ⟨p,hp,rfl⟩)) (λi hi=>hA.bx i ?_) (by simp only[hl,h3];exact hkk h);simp only[rdO,passes,cond_false,abj,dB,mnO,Op.operands];rw[List.flatMap_map];exact hi
   split at h1
   .rename_i hm;split at h1
    .rename_i i;split at h1
     .rename_i hf;exact fin (fun {k'} hk'=>by simp only[hm,hf];exact hk') h1
     .cases h1
    .cases h1
   .rename_i hm;exact fin (fun {k'} hk'=>by simp only[hm];exact hk') h1
  .exact False.elim h1
 .cases hk
theorem ael{t:TypeId}{x y:Operand}(hk:aop D τ ⟨d,.makeSlice t x y,ty,pos,af,gd⟩ e b k):abG D τ ⟨d,.makeSlice t x y,ty,pos,af,gd⟩ e b k:=by
 unfold aop at hk;simp only at hk;split at hk
 .rename_i T s by_ z k1 l k2 c i h1 hx hy;obtain⟨n,m,h2,h3,h4,h5,hk1⟩:=hk;refine⟨_,_,hk1,λe' b' k' hA h=>?_⟩;unfold aop;simp only[h1,hA.op x υ,hA.op y υ,hx,hy];exact⟨n,m,h2,h3,h4,h5,h⟩
 .cases hk
theorem aaN{e e':Env}{x:Option Operand}(h:∀y∈x.toArray.toList,ae e' y=ae e y):acQ e' x=acQ e x:=by
 cases x with
 |none=>rfl
 |some y=>simp only[acQ,h y η]
theorem ag6{t:TypeId}{x:Operand}{lo hi mx:Option Operand}(hk:aop D τ ⟨d,.slice t x lo hi mx,ty,pos,af,gd⟩ e b k):abG D τ ⟨d,.slice t x lo hi mx,ty,pos,af,gd⟩ e b k:=by
 unfold aop at hk;simp only at hk;split at hk
 .rename_i T s by_ z s' es lo' hi' mx' h1 hx h2 h3 h4;split at hk
  .rename_i hs;obtain⟨p,q,m,q1,q2,q3,q4,q5,q6,q7,hk1⟩:=hk;refine⟨_,_,hk1,λe' b' k' hA h=>?_⟩;unfold aop;simp only[h1,hA.op x υ,hx,aaN (x:=lo) (λy hy=>hA.op y (by simp[Op.operands];simp at hy;simp[hy])),aaN (x:=hi) (λy hy=>hA.op y (by simp[Op.operands];simp at hy;simp[hy])),aaN (x:=mx) (λy hy=>hA.op y (by simp[Op.operands];simp at hy;simp[hy])),h2,h3,h4,hs];exact⟨p,q,m,q1,q2,q3,q4,q5,q6,q7,h⟩
  .cases hk
 .rename_i T s by_ z c n lo' hi' mx' h1 hx h2 h3 h4;obtain⟨v',f,hk1,hloc⟩:=abb hk;split at hk1
  .split at hk1
   .rename_i hs;obtain⟨p,q,m,q1,q2,q3,q4,q5,q6,q7,hk1⟩:=hk1;refine⟨_,_,hk1,λe' b' k' hA h=>?_⟩;unfold aop;simp only[h1,hA.op x υ,hx,aaN (x:=lo) (λy hy=>hA.op y (by simp[Op.operands];simp at hy;simp[hy])),aaN (x:=hi) (λy hy=>hA.op y (by simp[Op.operands];simp at hy;simp[hy])),aaN (x:=mx) (λy hy=>hA.op y (by simp[Op.operands];simp at hy;simp[hy])),h2,h3,h4];refine hloc b' _ (λi hi=>hA.bx i (by simp[aaF]at hi;subst hi;simp[rdO,passes,abj,mnO,Op.operands,abf,hx,aaF])) ?_;simp only[hs];exact⟨p,q,m,q1,q2,q3,q4,q5,q6,q7,h⟩
   .cases hk1
  .cases hk1
 .rename_i s lo' hi' h1 hx h2 h3 h4;obtain⟨p,q,m,q1,q2,q3,q4,q5,q6,q7,hk1⟩:=hk;refine⟨_,_,hk1,λe' b' k' hA h=>?_⟩;unfold aop;simp only[h1,hA.op x υ,hx,aaN (x:=lo) (λy hy=>hA.op y (by simp[Op.operands];simp at hy;simp[hy])),aaN (x:=hi) (λy hy=>hA.op y (by simp[Op.operands];simp at hy;simp[hy])),aaN (x:=mx) (λy hy=>hA.op y (by simp[Op.operands];simp at hy;simp[hy])),h2,h3,h4];exact⟨p,q,m,q1,q2,q3,q4,q5,q6,q7,h⟩
 .rename_i n s one z i h1 hx h2 h3 h4;split at hk
  .rename_i cs hb hn hs;cases hch:chunk s n cs with
   |none=>rw[hch]at hk;cases hk
   |some es =>
    rw[hch]at hk;refine⟨_,_,hk,λe' b' k' hA h=>?_⟩;have hb':=hA.bx i (by simp[rdO,passes,abj,mnO,Op.operands,abf,hx,aaF]);unfold aop;simp only[h1,hA.op x υ,hx,aaN (x:=lo) (λy hy=>hA.op y (by simp[Op.operands];simp at hy;simp[hy])),aaN (x:=hi) (λy hy=>hA.op y (by simp[Op.operands];simp at hy;simp[hy])),aaN (x:=mx) (λy hy=>hA.op y (by simp[Op.operands];simp at hy;simp[hy])),h2,h3,h4,hb',hb,hn,hs,hch];exact h
  .cases hk
 .cases hk
end
section
variable {P:Program} [Wld P] [Kp] {τ:Tab} {N:Nat} {w0:World} {X0:List Nat} {S:List Bx} {M:MM} {a:Act} {w:World} {e:Env} {b:Bxs}
variable [WOk P w0]
variable {d:Option Nat} {ty:TypeId} {pos:String} {af:Array Edge} {gd:Option (Nat × Bool)} {k:AV->Bxs->Prop}
inductive CallA (D:FuncId->List AV->AV->Prop) (τ:Tab) (e:Env) (d:Option Nat) (callee:Callee) (vs:List AV) (ts:List TypeId) (b:Bxs) (k:AV->Bxs->Prop):Prop where
 |fn (f:FuncId) (cap:List AV) (x:Operand) (h:callee=.value x) (hx:fnA e x=some (f,cap)) (hn:ab1 vs=none) (hs:wrH τ f vs=.no) (hk:abe (vs++cap) b λa_s fz=>CallP D f a_s λr=>abC d r λv g=>(match abO fz g with|true=>k v (acu r fz++g)|false=>False))
 |fnw (f:FuncId) (cap:List AV) (x:Operand) (i:Nat) (r:List AV) (h:callee=.value x) (hx:fnA e x=some (f,cap)) (hn:ab1 vs=some (i,r)) (hk:ad1 D f i (r++cap) b k)
 |fns (f:FuncId) (cap:List AV) (x:Operand) (i n:Nat) (r:List AV) (h:callee=.value x) (hx:fnA e x=some (f,cap)) (hn:ab1 vs=none) (hs:wrH τ f vs=.s i n r) (hk:adX D f i n (r++cap) b k)
 |fnn (f:FuncId) (cap:List AV) (x:Operand) (r:List AV) (h:callee=.value x) (hx:fnA e x=some (f,cap)) (hn:ab1 vs=none) (hs:wrH τ f vs=.nil r) (hk:abe (r++cap) b λa_s fz=>CallP D f (.c (.v (.slice none 0 0))::a_s) λr=>abC d r λv g=>(match abO fz g with|true=>k v (acu r fz++g)|false=>False))
 |lens (s:Nat) (es:List (List Cell)) (t:TypeId) (e' s' b':Nat) (z:List Cell) (h:callee=.builtin .len) (hv:vs=[.c (.sl s es)]) (ht:ts=[t]) (hl:ld t τ=some (.slice e' s' b' z)) (hk:k (.int .i64 (es.length:Nat)) [])
 |lenstr (s:ByteArray) (t:TypeId) (h:callee=.builtin .len) (hv:vs=[.c (.v (.string s))]) (ht:ts=[t]) (hl:ld t τ=some .str) (hk:k (.int .i64 (s.size:Nat)) [])
 |leng (i n:Nat) (x:Bk) (s:Nat) (es:List (List Cell)) (t:TypeId) (e' s' b':Nat) (z:List Cell) (h:callee=.builtin .len) (hv:vs=[.gs i n]) (ht:ts=[t]) (hb:ld i b=some x) (hx:(∃T,x=.grow T s es)\/x=.froz s es) (hl:ld t τ=some (.slice e' s' b' z)) (hn:n=es.length) (hk:k (.int .i64 (es.length:Nat)) [])
 |app0 (s:Nat) (es':List (List Cell)) (t T by_:Nat) (z:List Cell) (i:Nat) (h:callee=.builtin .append) (hv:vs=[.c (.v (.slice none 0 0)),.c (.sl s es')]) (ht:ts=[t,t]) (hl:ld t τ=some (.slice T s by_ z)) (hd:d=some i) (hb:es'.length*(by_+1)<=140737488355328) (hk:k (.gs i es'.length) [(i,.grow T s es')])
 |app (s:Nat) (es es':List (List Cell)) (t T by_:Nat) (z:List Cell) (i n:Nat) (h:callee=.builtin .append) (hv:vs=[.gs i n,.c (.sl s es')]) (ht:ts=[t,t]) (hl:ld t τ=some (.slice T s by_ z)) (hx:ld i b=some (.grow T s es)) (hn:n=es.length) (hb:(es++es').length*(by_+1)<=140737488355328) (hk:k (.gs i (es++es').length) [(i,.grow T s (es++es'))])
 |app0g (s c m:Nat) (es':List (List Cell)) (f:Bxs) (t T by_:Nat) (z:List Cell) (i:Nat) (h:callee=.builtin .append) (hv:vs=[.c (.v (.slice none 0 0)),.gs c m]) (ht:ts=[t,t]) (hl:ld t τ=some (.slice T s by_ z)) (hd:d=some i) (ha:aa9 b (.gs c m) λv g=>v=.c (.sl s es')/\g=f) (hi:(f.any λp=>Nat.beq p.1 i)=false) (hb:es'.length*(by_+1)<=140737488355328) (hk:k (.gs i es'.length) (f++[(i,.grow T s es')]))
 |appg (s c m:Nat) (es es':List (List Cell)) (f:Bxs) (t T by_:Nat) (z:List Cell) (i n:Nat) (h:callee=.builtin .append) (hv:vs=[.gs i n,.gs c m]) (ht:ts=[t,t]) (hl:ld t τ=some (.slice T s by_ z)) (hx:ld i b=some (.grow T s es)) (hic:¬i=c) (ha:aa9 b (.gs c m) λv g=>v=.c (.sl s es')/\g=f) (hn:n=es.length) (hb:(es++es').length*(by_+1)<=140737488355328) (hk:k (.gs i (es++es').length) (f++[(i,.grow T s (es++es'))]))
 |min (ki:IntKind) (n0 n1:Int) (ns:List Int) (r:List AV) (h:callee=.builtin .min) (hv:vs=.c (.v (.int ki n1))::r) (hn:aaZ aez vs=some (n0::ns)) (hk:k (.int ki (ns.foldl (λx y=>if y<x then y else x) n0)) [])
 |max (ki:IntKind) (n0 n1:Int) (ns:List Int) (r:List AV) (h:callee=.builtin .max) (hv:vs=.c (.v (.int ki n1))::r) (hn:aaZ aez vs=some (n0::ns)) (hk:k (.int ki (ns.foldl (λx y=>if y>x then y else x) n0)) [])
theorem ahC{D:FuncId->List AV->AV->Prop}{callee:Callee}{xs:Array Operand}{ts:Array TypeId}(hk:aop D τ ⟨d,.call ⟨callee,xs,ts⟩,ty,pos,af,gd⟩ e b k):
 ∃vs,aaZ (λx=>ae e x) xs.toList=some vs/\CallA D τ e d callee vs ts.toList b k:=by
 unfold aop at hk;simp only at hk;split at hk
 .rename_i x vs hv;split at hk
  .rename_i f cap hx hn;split at hk
   .rename_i i n r hs;exact⟨_,hv,.fns f cap x i n r rfl hx hn hs hk⟩
   .rename_i r hs;exact⟨_,hv,.fnn f cap x r rfl hx hn hs hk⟩
   .rename_i hs;exact⟨_,hv,.fn f cap x rfl hx hn hs hk⟩
  .rename_i f cap i r hx hn;exact⟨_,hv,.fnw f cap x i r rfl hx hn hk⟩
  .exact False.elim hk
 .rename_i s es hv;split at hk
  .rename_i t ht;split at hk
   .rename_i e' s' b' z hl;exact⟨_,hv,.lens s es t e' s' b' z rfl rfl ht hl hk⟩
   .cases hk
  .cases hk
 .rename_i s hv;split at hk
  .rename_i t ht;split at hk
   .rename_i hl;exact⟨_,hv,.lenstr s t rfl rfl ht hl hk⟩
   .cases hk
  .cases hk
 .rename_i i n hv;split at hk
  .rename_i t T s es ht hb;split at hk
   .rename_i e' s' b' z hl;exact⟨_,hv,.leng i n _ s es t e' s' b' z rfl rfl ht hb (.inl ⟨T,rfl⟩) hl hk.p hk.k⟩
   .cases hk
  .rename_i t s es ht hb;split at hk
   .rename_i e' s' b' z hl;exact⟨_,hv,.leng i n _ s es t e' s' b' z rfl rfl ht hb (.inr rfl) hl hk.p hk.k⟩
   .cases hk
  .cases hk
 .rename_i x y hv;split at hk
  .rename_i t t' ht;split at hk
   .rename_i T s by_ z htt hl;have:=iO htt;subst this;split at hk
    .rename_i c m;split at hk
     .rename_i i n;obtain⟨v',f,h1,h2⟩:=abb hk;have ha:∀{x:AV} {f':Bxs},v'=x->f=f'->aa9 b (.gs c m) λv g=>v=x/\g=f':=λe1 e2=>h2 b _ (λ_ _=>rfl) ⟨e1,e2⟩
      split at h1
      .rename_i s' es' T' s'' es hb hbc;split at h1
       .rename_i hT hs2 hs;have e1:=iO hT;have e2:=iO hs2;have e3:=iO hs;subst e1 e2 e3;exact⟨_,hv,.appg s c m es es' f t T by_ z i n rfl rfl ht hl hb (λe=>by subst e;simp at hbc) (ha rfl rfl) h1.p h1.k.p h1.k.k⟩
       .cases h1
      .cases h1
     .obtain⟨v',f,h1,h2⟩:=abb hk;have ha:∀{x:AV} {f':Bxs},v'=x->f=f'->aa9 b (.gs c m) λv g=>v=x/\g=f':=λe1 e2=>h2 b _ (λ_ _=>rfl) ⟨e1,e2⟩
      split at h1
      .rename_i s' es' i;split at h1
       .rename_i hs hi;have e3:=iO hs;subst e3;exact⟨_,hv,.app0g s c m es' f t T by_ z i rfl rfl ht hl rfl (ha rfl rfl) hi h1.p h1.k⟩
       .cases h1
      .cases h1
     .cases hk
    .rename_i s' es';split at hk
     .rename_i hs;have:=iO hs;subst this;split at hk
      .split at hk
       .rename_i i;exact⟨_,hv,.app0 s es' t T by_ z i rfl rfl ht hl rfl hk.p hk.k⟩
       .cases hk
      .rename_i i n;split at hk
       .rename_i T' s'' es hb;split at hk
        .rename_i hT hs2;have h1:=iO hT;have h2:=iO hs2;subst h1 h2;exact⟨_,hv,.app s es es' t T by_ z i n rfl rfl ht hl hb hk.p hk.k.p hk.k.k⟩
        .cases hk
       .cases hk
      .cases hk
     .cases hk
    .cases hk
   .cases hk
  .cases hk
 .rename_i vs hv;split at hk
  .rename_i n0 ns ki n1 r hn;exact⟨_,hv,.min ki n0 n1 ns r rfl rfl hn hk⟩
  .cases hk
 .rename_i vs hv;split at hk
  .rename_i n0 ns ki n1 r hn;exact⟨_,hv,.max ki n0 n1 ns r rfl rfl hn hk⟩
  .cases hk
 .cases hk
theorem gs_len{c m:Nat}{v0:AV}{f0:Bxs}(h:Sta N w0 X0 S M a w e b)(ha:aa9 b (.gs c m) λv g=>v=v0/\g=f0){mb:MB}(hm:M c=some mb):mb.n=m:=by
 unfold aa9 at ha;simp only at ha;split at ha
 .rename_i T s es hb;obtain⟨m',hm',q1,q2,q3,q4,q5,q6⟩:=h.box c _ hb;rw[hm]at hm';cases hm';have:=ha.p;omega
 .rename_i s es hb;obtain⟨m',hm',q1,q2,q3,q4⟩:=h.box c _ hb;rw[hm]at hm';cases hm';have:=ha.p;omega
 .cases ha
theorem aij{c m:Nat}{v0:AV}{f0:Bxs}(ha:aa9 b (.gs c m) λv g=>v=v0/\g=f0):∀i∈f0.map (·.1),i=c:=by
 unfold aa9 at ha;simp only at ha;split at ha
 .have:=ha.k.2;subst this;simp
 .have:=ha.k.2;subst this;simp
 .cases ha
theorem ahl{c:Call}(hτ:aaH P τ=true)(h:Sta N w0 X0 S M a w e b)(hk:aop (Den P) τ ⟨d,.call c,ty,pos,af,gd⟩ e b k):Good P w0 X0 S M a w ⟨d,.call c,ty,pos,af,gd⟩ k:=by
 obtain⟨callee,xs,ts⟩:=c;obtain⟨vs,hv,hc⟩:=ahC hk;have hta:∀{l:List TypeId},ts.toList=l->ts=l.toArray:=λh=>tY (by simpa using h)
 cases hc with
 |fn f cap x h1 hx hn hs hk1=>subst h1;exact ahX hx h hv hk1
 |fnw f cap x i r h1 hx hn hk1=>subst h1;rw[ach hn]at hv;exact ahE hx h hv hk1
 |fns f cap x i n r h1 hx hn hs hk1=>subst h1;rw[afK hs]at hv;exact ai0 hx h hv hk1
 |fnn f cap x r h1 hx hn hs hk1=>subst h1;rw[agC hs]at hv;exact ahU hx h hv hk1
 |lens s es t e' s' b' z h1 h2 h3 h4 hk1 =>
  subst h1 h2;rw[hta h3];exact ac3 (aaq hτ h4) h hv (λu hu=>by obtain⟨A,cap,uss,ha,_⟩:=RepS.of_sl hu.sl_;exact⟨A,cap,ha⟩) hk1
 |lenstr s t h1 h2 h3 h4 hk1 =>
  subst h1 h2;rw[hta h3];obtain⟨us,hu,hl,hr⟩:=aco h hv
  obtain⟨u,rfl⟩:∃u,us=[u]:=by
   match us,hl with
   |[u],_=>exact⟨u,rfl⟩
  have hue:=(hr 0 u _ rfl rfl).v_;subst hue;refine .val h.ms hk1 (u:=.int .i64 s.size) ?_ (.d (.c (.v _ rfl)));simp[execOp,resolve,invoke,builtin,hu,Builtin.len_,run_underlying (agW (aaq hτ h4)),goInt]
 |leng i n x s es t e' s' b' z h1 h2 h3 h4 h5 h6 h7 hk1 =>
  subst h1 h2;rw[hta h3];refine ac3 (aaq hτ h6) h hv (λu hu=>?_) hk1;obtain⟨m,hm,q1,q2,q3,_⟩:=h.elems h4 h5;obtain⟨m',hm',hvv,hn⟩:=hu.gs_;rw[hm]at hm';cases hm';rw[hn ω];unfold hdr;exact⟨_,_,by rw[q3]⟩
 |app0 s es' t T by_ z i h1 h2 h3 h4 h5 h6 hk1 =>
  subst h1 h2;rw[hta h3];exact abY (aaq hτ h4) h hv h.ms (Chg.refl _ _ _) (FrzOnly.nil _) (λu hu => .c hu.sl_) (.inl ⟨rfl,i,h5,η,h6,hk1⟩)
 |app0g s c m es' f t T by_ z i h1 h2 h3 h4 h5 h6 h7 h8 hk1 =>
  subst h1 h2;rw[hta h3];obtain⟨us,hu,hl,hr⟩:=aco h hv
  obtain⟨u0,u1,rfl⟩:∃u0 u1,us=[u0,u1]:=by
   match us,hl with
   |[u0,u1],_=>exact⟨u0,u1,rfl⟩
  obtain⟨v',f',S1,M1,⟨rfl,rfl⟩,hm1,hc1,hd1,hfo⟩:=abZ h (hr 1 u1 _ rfl rfl) h6
  have huq:∀u,RepV w (bl S++X0) M u (.gs c m)->RepD w (bl S1++X0) u (.c (.sl s es')):=λu hu=>by
   obtain⟨mb,q1,q2,q3⟩:=hu.gs_;obtain⟨mb',q1',q2',q3'⟩:=(hr 1 u1 _ rfl rfl).gs_;rw[q1]at q1';cases q1';have hn:mb.n=m:=gs_len h h6 q1;rw[q3 hn,<-q3' hn];exact hd1
  refine abY (aaq hτ h4) h hv hm1 hc1 hfo huq (.inl ⟨rfl,i,h5,λhm=>?_,h8,hk1⟩);obtain⟨p,hp,hpe⟩:=dw.1 hm;have:=yF.1 h7 p hp;rw[hpe]at this;simp at this
 |app s es es' t T by_ z i n h1 h2 h3 h4 h5 h6 h7 hk1 =>
  subst h1 h2;rw[hta h3];exact abY (aaq hτ h4) h hv h.ms (Chg.refl _ _ _) (FrzOnly.nil _) (λu hu => .c hu.sl_) (.inr ⟨i,n,es,rfl,η,h5,h6,h7,hk1⟩)
 |appg s c m es es' f t T by_ z i n h1 h2 h3 h4 h5 h6 h7 h8 h9 hk1 =>
  subst h1 h2;rw[hta h3];obtain⟨us,hu,hl,hr⟩:=aco h hv
  obtain⟨u0,u1,rfl⟩:∃u0 u1,us=[u0,u1]:=by
   match us,hl with
   |[u0,u1],_=>exact⟨u0,u1,rfl⟩
  have hkeys:=aij h7;obtain⟨v',f',S1,M1,⟨rfl,rfl⟩,hm1,hc1,hd1,hfo⟩:=abZ h (hr 1 u1 _ rfl rfl) h7
  have huq:∀u,RepV w (bl S++X0) M u (.gs c m)->RepD w (bl S1++X0) u (.c (.sl s es')):=λu hu=>by
   obtain⟨mb,q1,q2,q3⟩:=hu.gs_;obtain⟨mb',q1',q2',q3'⟩:=(hr 1 u1 _ rfl rfl).gs_;rw[q1]at q1';cases q1';have hn:mb.n=m:=gs_len h h7 q1;rw[q3 hn,<-q3' hn];exact hd1
  exact abY (aaq hτ h4) h hv hm1 hc1 hfo huq (.inr ⟨i,n,es,rfl,λhm=>h6 (hkeys i hm),h5,h8,h9,hk1⟩)
 |min ki n0 n1 ns r h1 h2 h3 hk1=>subst h1 h2;exact adx false h hv h3 (by simpa using hk1)
 |max ki n0 n1 ns r h1 h2 h3 hk1=>subst h1 h2;exact adx true h hv h3 (by simpa using hk1)
theorem agG{r:AV}{fz:Bxs}(hkr:abC d r λv g=>(match abO fz g with|true=>k v (acu r fz++g)|false=>False)):∃v g,k v g/\∀k':AV->Bxs->Prop,k' v g->abC d r λv g=>(match abO fz g with|true=>k' v (acu r fz++g)|false=>False):=by
 rcases adN hkr with⟨hno,hk2,h4⟩|⟨T,s,es,i,rfl,rfl,hk2,h4⟩|⟨vs',i,V,F,rfl,rfl,hle,hVF,hk2,h4⟩
 .exact⟨_,_,hk2,λk' hk'=>(by
   have h5:∀{q:AV->Bxs->Prop},q r []->abC d r q:=fun {q} hq=>by
    unfold abC;cases r<;>first|exact hq|(simp[aeL]at hno;done)|skip
    rename_i vs'
    have:vs'.any abN=false:=by
     rw[yF];intro y hy;have:=gQ.1 hno y hy;simpa using this
    simp only[this];exact hq
   exact h5 hk')⟩
 .split at hk2
  .rename_i hdj;exact⟨_,_,hk2,λk' hk'=>by unfold abC;simp only[hdj];exact hk'⟩
  .cases hk2
 .split at hk2
  .rename_i hdj;refine⟨_,_,hk2,λk' hk'=>?_⟩;unfold abC at hkr ⊢;simp only at hkr ⊢;cases hq:vs'.any abN with
   |false =>
    simp only[hq]at hkr ⊢
    have hall:(vs'.all λv=>!abN v)=true:=gQ.2 λy hy=>by
     have:=yF.1 hq y hy;simpa using this
    have hV:V=vs'/\F=[]:=by
     have key:∀{vs:List AV} {i j:Nat} {k:List AV->Bxs->Prop},(vs.all λv=>!abN v)=true->abx i j vs k->k vs []:=by
      intro vs;induction vs with
      |nil=>intro i j k _ h;exact h
      |cons v r ih =>
       intro i j k h hk;simp only[List.all_cons,bG]at h
       cases v<;>first
        |(simp[abN]at h;done)|exact ih (k:=λvs f=>k (_::vs) f) h.2 hk
     have:=key (i:=i) (j:=KK) (k:=λa c=>V=a/\F=c) hall (by rw[hVF];exact⟨rfl,rfl⟩);exact this
    obtain⟨rfl,rfl⟩:=hV;simp only[hdj];exact hk'
   |true =>
    simp only[Nat.ble_eq_true_of_le hle];rw[hVF];simp only[hdj];exact hk'
  .cases hk2
theorem ahr{D:FuncId->List AV->AV->Prop}{c:Call}(hk:aop D τ ⟨d,.call c,ty,pos,af,gd⟩ e b k):abG D τ ⟨d,.call c,ty,pos,af,gd⟩ e b k:=by
 obtain⟨callee,xs,ts⟩:=c;obtain⟨vs,hv,hc⟩:=ahC hk
 have hops:∀{e' b'},Alike ⟨d,.call ⟨callee,xs,ts⟩,ty,pos,af,gd⟩ e b e' b'->aaZ (λx=>ae e' x) xs.toList=some vs:=by
  intro e' b' hA;rw[<-hv];exact acj λx hx=>hA.op x (by simp only[Op.operands,Call.operands];simp only[Array.toList_append];exact kG _ hx)
 have hfnA:∀{e' b'} {x:Operand},Alike ⟨d,.call ⟨callee,xs,ts⟩,ty,pos,af,gd⟩ e b e' b'->callee=.value x->fnA e' x=fnA e x:=by
  intro e' b' x hA hc;subst hc;unfold fnA;rw[hA.op x (by simp[Op.operands,Call.operands])]
 have hids:∀{e' b'},Alike ⟨d,.call ⟨callee,xs,ts⟩,ty,pos,af,gd⟩ e b e' b'->acU (vs.flatMap aaF) b b':=by
  intro e' b' hA i hi;refine hA.bx i ?_;simp only[rdO,passes,cond_false,abj,dB,mnO,Op.operands,Call.operands,Array.toList_append];rw[Kw,aei hv]at *;exact kG _ hi
 have hcap:∀{f:FuncId} {cap:List AV} {x:Operand},fnA e x=some (f,cap)->cap.flatMap aaF=[]:=by
  intro f cap x hx;unfold fnA at hx;split at hx
  .split at hx
   .cases hx;rfl
   .cases hx
  .rename_i f' cs hu;cases hx;induction cs with
   |nil=>rfl
   |cons c r ih=>rw[dJ,BO];simpa[aaF]using ih
  .cases hx
 cases hc with
 |fn f cap x h1 hx hn hs hk1 =>
  subst h1;have hfx:=fun {e' b'} (hA:Alike ⟨d,.call ⟨.value x,xs,ts⟩,ty,pos,af,gd⟩ e b e' b')=>hfnA hA rfl
  obtain⟨a_s,fz,⟨r,hr,hkr⟩,h3⟩:=abw hk1;obtain⟨v,g,hkv,h4⟩:=agG hkr;refine⟨_,_,hkv,λe' b' k' hA h=>?_⟩;unfold aop;simp only[hops hA,hfx hA,hx,hn,hs]
  .refine h3 b' _ (λi hi=>?_) ⟨r,hr,h4 _ h⟩;rw[Kw,hcap hx,dB]at hi;exact hids hA i hi
 |fnw f cap x i r h1 hx hn hk1 =>
  subst h1;have hfx:=fun {e' b'} (hA:Alike ⟨d,.call ⟨.value x,xs,ts⟩,ty,pos,af,gd⟩ e b e' b')=>hfnA hA rfl
  rcases aed hk1 with⟨cs,hbx,hk1⟩|⟨G,hbx,hk1⟩
  case inr =>
   obtain⟨a_s,fz,hk2,h3⟩:=abw hk1
   match fz,hk2,h3 with
   |_::_,hk2,_=>exact False.elim hk2
   |[],⟨q,hq,hkq⟩,h3 =>
   obtain⟨G',v,rfl,hpl,hkv⟩:=adw hkq;refine⟨_,_,hkv,λe' b' k' hA h=>?_⟩;have hvs:=ach hn;have hid:=hids hA;unfold aop;simp only[hops hA,hfx hA,hx,hn];unfold ad1;rw[hid i (by rw[hvs];simp[aaF]),hbx];exact h3 b' _ (λj hj=>hid j (by rw[Kw,hcap hx,dB]at hj;rw[hvs,BO];exact kG _ hj)) ⟨_,hq,by unfold adl;simp only[hpl];exact h⟩
  obtain⟨a_s,fz,hk2,h3⟩:=abw hk1
  match fz,hk2,h3 with
  |_::_,hk2,_=>exact False.elim hk2
  |[],⟨q,hq,hkq⟩,h3 =>
  obtain⟨cs',v,rfl,hpl,hkv⟩:=adP hkq;refine⟨_,_,hkv,λe' b' k' hA h=>?_⟩;have hvs:=ach hn;have hid:=hids hA;unfold aop;simp only[hops hA,hfx hA,hx,hn];unfold ad1;rw[hid i (by rw[hvs];simp[aaF]),hbx];exact h3 b' _ (λj hj=>hid j (by rw[Kw,hcap hx,dB]at hj;rw[hvs,BO];exact kG _ hj)) ⟨_,hq,by unfold afG;simp only[hpl];exact h⟩
 |fnn f cap x r0 h1 hx hn hs hk1 =>
  subst h1;have hfx:=fun {e' b'} (hA:Alike ⟨d,.call ⟨.value x,xs,ts⟩,ty,pos,af,gd⟩ e b e' b')=>hfnA hA rfl
  obtain⟨a_s,fz,⟨r,hr,hkr⟩,h3⟩:=abw hk1;obtain⟨v,g,hkv,h4⟩:=agG hkr;refine⟨_,_,hkv,λe' b' k' hA h=>?_⟩;unfold aop;simp only[hops hA,hfx hA,hx,hn,hs];refine h3 b' _ (λi hi=>?_) ⟨r,hr,h4 _ h⟩;rw[Kw,hcap hx,dB]at hi;exact hids hA i (by rw[agC hs,BO];exact kG _ hi)
 |fns f cap x i n r h1 hx hn hs hk1 =>
  subst h1;have hfx:=fun {e' b'} (hA:Alike ⟨d,.call ⟨.value x,xs,ts⟩,ty,pos,af,gd⟩ e b e' b')=>hfnA hA rfl
  obtain⟨T,s,es,hbx,hk1⟩:=aef hk1;obtain⟨a_s,fz,hk2,h3⟩:=abw hk1
  match fz,hk2,h3 with
  |_::_,hk2,_=>exact False.elim hk2
  |[],⟨hp,hlen⟩,h3 =>
  have hvs:=afK hs;rcases rG es.length with hz|hpos
  .obtain⟨q,hq,hkq⟩:=hlen.f hz;obtain⟨hpl,hkv⟩:=adA hkq;refine⟨_,_,hkv,λe' b' k' hA h=>?_⟩;have hid:=hids hA;unfold aop;simp only[hops hA,hfx hA,hx,hn,hs];unfold adX;rw[hid i (by rw[hvs];simp[aaF]),hbx];exact h3 b' _ (λj hj=>hid j (by rw[Kw,hcap hx,dB]at hj;rw[hvs,BO];exact kG _ hj)) ⟨hp,⟨λh0=>absurd hz ω,λ_=>⟨_,hq,by unfold adW;rw[hpl];exact h⟩⟩⟩
  obtain⟨q,hq,hkq⟩:=hlen.t hpos;obtain⟨es',v,rfl,hpl,hkv⟩:=adv hkq;refine⟨_,_,hkv,λe' b' k' hA h=>?_⟩;have hid:=hids hA;unfold aop;simp only[hops hA,hfx hA,hx,hn,hs];unfold adX;rw[hid i (by rw[hvs];simp[aaF]),hbx];exact h3 b' _ (λj hj=>hid j (by rw[Kw,hcap hx,dB]at hj;rw[hvs,BO];exact kG _ hj)) ⟨hp,⟨λ_=>⟨_,hq,by unfold adU;simp only[Nat.beq_refl,hpl];exact h⟩,λh0=>absurd h0 ω⟩⟩
 |lens s es t e' s' b' z h1 h2 h3 h4 hk1 =>
  subst h1 h2;refine⟨_,_,hk1,λe' b' k' hA h=>?_⟩;unfold aop;simp only[hops hA,h3,h4];exact h
 |lenstr s t h1 h2 h3 h4 hk1 =>
  subst h1 h2;refine⟨_,_,hk1,λe' b' k' hA h=>?_⟩;unfold aop;simp only[hops hA,h3,h4];exact h
 |leng i n x s es t e' s' b' z h1 h2 h3 h4 h5 h6 h7 hk1 =>
  subst h1 h2;refine⟨_,_,hk1,λe' b' k' hA h=>?_⟩;have hb':=hids hA i (by simp[aaF]);unfold aop;rcases h5 with⟨T,rfl⟩|rfl
  .simp only[hops hA,h3,hb',h4,h6];exact⟨h7,h⟩
  .simp only[hops hA,h3,hb',h4,h6];exact⟨h7,h⟩
 |app0 s es' t T by_ z i h1 h2 h3 h4 h5 h6 hk1 =>
  subst h1 h2 h5;refine⟨_,_,hk1,λe' b' k' hA h=>?_⟩;unfold aop;simp only[hops hA,h3,h4,Nat.beq_refl];exact⟨h6,h⟩
 |app0g s c m es' f t T by_ z i h1 h2 h3 h4 h5 h6 h7 h8 hk1 =>
  subst h1 h2 h5;refine⟨_,_,hk1,λe' b' k' hA h=>?_⟩;obtain⟨v',f',⟨rfl,rfl⟩,h9⟩:=abb h6;unfold aop;simp only[hops hA,h3,h4,Nat.beq_refl];refine h9 b' _ (λj hj=>hids hA j (by simp only[BO];exact kG _ (ng _ hj))) ?_;simp only[Nat.beq_refl,h7];exact⟨h8,h⟩
 |appg s c m es es' f t T by_ z i n h1 h2 h3 h4 h5 h6 h7 h8 h9 hk1 =>
  subst h1 h2;refine⟨_,_,hk1,λe' b' k' hA h=>?_⟩;have hb':=hids hA i (by simp[aaF]);obtain⟨v',f',⟨rfl,rfl⟩,h10⟩:=abb h7;unfold aop;simp only[hops hA,h3,h4,Nat.beq_refl];refine h10 b' _ (λj hj=>hids hA j (by simp[aaF]at hj ⊢;exact .inr hj)) ?_;simp only[hb',h5,Nat.beq_refl,aaL h6];exact⟨h8,⟨h9,h⟩⟩
 |app s es es' t T by_ z i n h1 h2 h3 h4 h5 h6 h7 hk1 =>
  subst h1 h2;refine⟨_,_,hk1,λe' b' k' hA h=>?_⟩;have hb':=hids hA i (by simp[aaF]);unfold aop;simp only[hops hA,h3,h4,hb',h5,Nat.beq_refl];exact⟨h6,⟨h7,h⟩⟩
 |min ki n0 n1 ns r h1 h2 h3 hk1 =>
  subst h1 h2;refine⟨_,_,hk1,λe' b' k' hA h=>?_⟩;unfold aop;simp only[hops hA,h3];exact h
 |max ki n0 n1 ns r h1 h2 h3 hk1 =>
  subst h1 h2;refine⟨_,_,hk1,λe' b' k' hA h=>?_⟩;unfold aop;simp only[hops hA,h3];exact h
theorem ad3{o:Oper}(hτ:aaH P τ=true)(h:Sta N w0 X0 S M a w e b)(hk:aop (Den P) τ o e b k):Good P w0 X0 S M a w o k:=by
 obtain⟨d,op,ty,pos,af,gd⟩:=o;cases op with
 |move x=>exact ahD (τ:=τ) h hk
 |assign x=>exact af0 h hk
 |pick x y z=>exact ahI h hk
 |alloc t=>exact aha hτ h hk
 |box t x=>exact aiv h hk
 |load t x=>exact ahj hτ h hk
 |store t x y=>exact ag9 hτ h hk
 |fieldAddr t x i=>exact aej hτ h hk
 |field t x i=>exact agZ hτ h hk
 |indexAddr t x y=>exact aeo hτ h hk
 |index t x y=>exact agR hτ h hk
 |extract x i=>exact afu h hk
 |binOp op t x y u=>exact ah6 hτ h hk
 |unOp op t x =>
  cases op with
  |not=>exact ait h hk
  |neg=>exact aiu h hk
  |_=>exact False.elim hk
 |convert s t x=>exact ahL hτ h hk
 |build t ps=>exact agU hτ h hk
 |buildSlice t n ps=>exact ad6 hτ h hk
 |makeFunc fn first captured=>exact ae2 h hk
 |call c=>exact ahl hτ h hk
 |makeSlice t x y=>exact aey hτ h hk
 |slice t x lo hi mx=>exact agQ hτ h hk
 |nilCheck x=>exact afh h hk
 |_=>exact False.elim hk
theorem afN{D:FuncId->List AV->AV->Prop}{o:Oper}(hk:aop D τ o e b k):abG D τ o e b k:=by
 obtain⟨d,op,ty,pos,af,gd⟩:=o;cases op with
 |move x=>exact ahT hk
 |assign x=>exact af6 hk
 |pick x y z=>exact ahQ hk
 |alloc t=>exact agX hk
 |box t x=>exact aiw hk
 |load t x=>exact ahW hk
 |store t x y=>exact agY hk
 |fieldAddr t x i=>exact aem hk
 |field t x i=>exact ag0 hk
 |indexAddr t x y=>exact aep hk
 |index t x y=>exact ag4 hk
 |extract x i=>exact afR hk
 |binOp op t x y u=>exact aiD hk
 |unOp op t x =>
  cases op with
  |not=>exact ah2 hk
  |neg=>exact ah8 hk
  |_=>exact False.elim hk
 |convert s t x=>exact ahV hk
 |build t ps=>exact ag3 hk
 |buildSlice t n ps=>exact adO hk
 |makeFunc fn first captured=>exact afg hk
 |call c=>exact ahr hk
 |makeSlice t x y=>exact ael hk
 |slice t x lo hi mx=>exact ag6 hk
 |nilCheck x=>exact aff hk
 |_=>exact False.elim hk
theorem ahf{t:TypeId}{x:Operand}{v:AV}{c:Nat}(h:c∈mnO ⟨d,.load t x,ty,pos,af,gd⟩ e):c∈rdL ⟨d,.load t x,ty,pos,af,gd⟩ e b v:=by
 cases v<;>simp only[rdL,rdO,passes,cond_false]<;>first|exact h|exact ng _ h
theorem ai4{t:TypeId}{x:Operand}{v:AV}{c:Nat}(hv:∀i n,v ≠ .gs i n)(h:c∈rdO ⟨d,.load t x,ty,pos,af,gd⟩ e b):c∈rdL ⟨d,.load t x,ty,pos,af,gd⟩ e b v:=by
 cases v<;>simp only[rdL]<;>first|exact h|exact absurd rfl (hv _ _)
theorem afZ{ti:TI}{cs:List Cell}{b:Bxs}{k:AV->Bxs->Prop}(hk:acE ti cs b k):∃v f,k v f/\∀(b':Bxs) (k':AV->Bxs->Prop),((∀i n,v ≠ .gs i n)->acU (abp cs) b b')->k' v f->acE ti cs b' k':=by
 unfold acE at hk;split at hk
 .rename_i n hn;split at hk
  .rename_i l hl;obtain⟨cs',f,h1,h2⟩:=acg hk;refine⟨_,_,h1,λb' k' hB h=>?_⟩;unfold acE;simp only[hn,hl];exact h2 b' _ (λi hi=>hB (λ_ _ h=>by cases h) i (adg hl i hi)) h
  .cases hk
 .rename_i hn;cases ti<;>(try simp only at hk)<;>first|(cases hk;done)|(simp[ahy]at hn;done)|skip
  all_goals(cases cs with
   |nil=>cases hk
   |cons c r=>exact⟨_,_,hk,λb' k' hB h=>h⟩)
theorem ag2{D:FuncId->List AV->AV->Prop}{t:TypeId}{x:Operand}(hk:aop D τ ⟨d,.load t x,ty,pos,af,gd⟩ e b k):∃v f,k v f/\∀(e':Env) (b':Bxs) (k':AV->Bxs->Prop),ae e' x=ae e x->acU (rdL ⟨d,.load t x,ty,pos,af,gd⟩ e b v) b b'->k' v f->aop D τ ⟨d,.load t x,ty,pos,af,gd⟩ e' b' k':=by
 unfold aop at hk;simp only at hk;split at hk
 case h_1 =>
  rename_i ti i off ht hx;have hi:∀v,i∈rdL ⟨d,.load t x,ty,pos,af,gd⟩ e b v:=λv=>ahf (by simp[mnO,Op.operands,abf,hx,aaF])
  split at hk
  .rename_i cs hb;cases hr:aa0 ti (aaz off cs)with
   |none=>simp[hr]at hk
   |some v =>
    simp only[hr]at hk;refine⟨_,_,hk,λe' b' k' hA hB h=>?_⟩;have hb':=hB i (hi _);unfold aop;simp only[ht,hA,hx,hb',hb,hr];exact h
  .rename_i cs hb;cases hr:aa0 ti (aaz off cs)with
   |none=>simp[hr]at hk
   |some v =>
    simp only[hr]at hk;refine⟨_,_,hk,λe' b' k' hA hB h=>?_⟩;have hb':=hB i (hi _);unfold aop;simp only[ht,hA,hx,hb',hb,hr];exact h
  .rename_i cs hb;obtain⟨v,f,h1,h2⟩:=afZ hk;refine⟨_,_,h1,λe' b' k' hA hB h=>?_⟩;have hb':=hB i (hi _);unfold aop;simp only[ht,hA,hx,hb',hb];refine h2 b' k' (λhv j hj=>hB j (ai4 hv ?_)) h;simp only[rdO,passes,cond_false,abj];exact kG _ (List.mem_flatMap.2 ⟨i,by simp[mnO,Op.operands,abf,hx,aaF],by simp only[ahJ,hb];exact ads j hj⟩)
  .cases hk
 case h_2 =>
  rename_i ti cs ht hx;cases hr:aa0 ti cs with
  |none=>simp[hr]at hk
  |some v =>
   simp only[hr]at hk;refine⟨_,_,hk,λe' b' k' hA hB h=>?_⟩;unfold aop;simp only[ht,hA,hx,hr];exact h
 case h_3 =>
  rename_i ti cs ht hx;cases hr:aa0 ti cs with
  |none=>simp[hr]at hk
  |some v =>
   simp only[hr]at hk;refine⟨_,_,hk,λe' b' k' hA hB h=>?_⟩;unfold aop;simp only[ht,hA,hx,hr];exact h
 case h_4 =>
  rename_i ti g off ht hx;split at hk
  .rename_i kk cs hg;cases hr:aa0 ti (aaz off cs)with
   |none=>simp[hr]at hk
   |some v =>
    simp only[hr]at hk;refine⟨_,_,hk,λe' b' k' hA hB h=>?_⟩;unfold aop;simp only[ht,hA,hx,hg,hr];exact h
  .cases hk
 case h_5 =>
  rename_i ti i n j off ht hx;have hi:∀v,i∈rdL ⟨d,.load t x,ty,pos,af,gd⟩ e b v:=λv=>ahf (by simp[mnO,Op.operands,abf,hx,aaF])
  split at hk
  .rename_i T s es hb;obtain⟨v,h1,h2⟩:=adb (b:=b) hk;refine⟨_,_,h1,λe' b' k' hA hB h=>?_⟩;have hb':=hB i (hi _);unfold aop;simp only[ht,hA,hx,hb',hb];exact h2 k' h
  .rename_i s es hb;obtain⟨v,h1,h2⟩:=adb (b:=b) hk;refine⟨_,_,h1,λe' b' k' hA hB h=>?_⟩;have hb':=hB i (hi _);unfold aop;simp only[ht,hA,hx,hb',hb];exact h2 k' h
  .cases hk
 case h_6=>cases hk
theorem ahZ{o:Oper}(hτ:aaH P τ=true)(hk:aop (Den P) τ o e b k):∃v f,k v f/\∀{N:Nat} {w0:World} {X0:List Nat} {S:List Bx} {M:MM} {a:Act} {w:World} (e':Env) (b':Bxs),WOk P w0->Sta N w0 X0 S M a w e' b'->(∀x∈o.op.operands.toList,ae e' x=ae e x)->acU (rdL o e b v) b b'->Good P w0 X0 S M a w o (λv' f'=>v'=v/\f'=f):=by
 obtain⟨d,op,ty,pos,af,gd⟩:=o
 have old:(∀v,rdL ⟨d,op,ty,pos,af,gd⟩ e b v=rdO ⟨d,op,ty,pos,af,gd⟩ e b)->∃v f,k v f/\∀{N:Nat} {w0:World} {X0:List Nat} {S:List Bx} {M:MM} {a:Act} {w:World} (e':Env) (b':Bxs),WOk P w0->Sta N w0 X0 S M a w e' b'->(∀x∈op.operands.toList,ae e' x=ae e x)->acU (rdL ⟨d,op,ty,pos,af,gd⟩ e b v) b b'->Good P w0 X0 S M a w ⟨d,op,ty,pos,af,gd⟩ (λv' f'=>v'=v/\f'=f):=by
  intro hrd;obtain⟨v,f,h1,h2⟩:=afN hk;refine⟨v,f,h1,fun {N w0 X0 S M a w} e' b' hwo h hA hB=>?_⟩
  haveI:WOk P w0:=hwo
  exact ad3 hτ h (h2 e' b' (λv' f'=>v'=v/\f'=f) ⟨hA,by rw[hrd]at hB;exact hB⟩ ⟨rfl,rfl⟩)
 cases op with
 |load t x =>
  obtain⟨v,f,h1,h2⟩:=ag2 hk;refine⟨v,f,h1,fun {N w0 X0 S M a w} e' b' hwo h hA hB=>?_⟩
  haveI:WOk P w0:=hwo
  exact ad3 hτ h (h2 e' b' (λv' f'=>v'=v/\f'=f) (hA x υ) hB ⟨rfl,rfl⟩)
 |call c =>
  obtain⟨callee,xs,ts⟩:=c
  by_cases hlen:callee=.builtin .len
  .subst hlen;obtain⟨vs,hv,hc⟩:=ahC hk;have hta:∀{l:List TypeId},ts.toList=l->ts=l.toArray:=λh=>tY (by simpa using h)
   have hops:∀{e':Env},(∀x∈(Op.call ⟨.builtin .len,xs,ts⟩).operands.toList,ae e' x=ae e x)->aaZ (λx=>ae e' x) xs.toList=some vs:=by
    intro e' hA;rw[<-hv];exact acj λx hx=>hA x (by simp only[Op.operands,Call.operands];simp only[Array.toList_append];exact kG _ hx)
   cases hc with
   |lens s es t e1 s' b1 z h1 h2 h3 h4 hk1 =>
    subst h2;rw[hta h3]at hops ⊢;exact⟨_,_,hk1,λe' b' hwo h hA hB=>ac3 (aaq hτ h4) h (hops hA) (λu hu=>by obtain⟨A,cap,uss,ha,_⟩:=RepS.of_sl hu.sl_;exact⟨A,cap,ha⟩) ⟨rfl,rfl⟩⟩
   |lenstr s t h1 h2 h3 h4 hk1 =>
    subst h2;rw[hta h3]at hops ⊢;refine⟨_,_,hk1,λe' b' hwo h hA hB=>?_⟩;obtain⟨us,hu,hl,hr⟩:=aco h (hops hA)
    obtain⟨u,rfl⟩:∃u,us=[u]:=by
     match us,hl with
     |[u],_=>exact⟨u,rfl⟩
    have hue:=(hr 0 u _ rfl rfl).v_;subst hue;refine .val h.ms ⟨rfl,rfl⟩ (u:=.int .i64 s.size) ?_ (.d (.c (.v _ rfl)));simp[execOp,resolve,invoke,builtin,hu,Builtin.len_,run_underlying (agW (aaq hτ h4)),goInt]
   |leng i n x s es t e1 s' b1 z h1 h2 h3 h4 h5 h6 h7 hk1 =>
    subst h2;rw[hta h3]at hops ⊢;exact⟨_,_,hk1,λe' b' hwo h hA hB=>ac3 (aaq hτ h6) h (hops hA) (λu hu=>by obtain⟨A,c,hq⟩:=hu.gs_len;exact⟨A,c,by rw[hq,h7]⟩) ⟨rfl,rfl⟩⟩
   |fn f cap x h1=>cases h1
   |fnw f cap x i r h1=>cases h1
   |fns f cap x i n r h1=>cases h1
   |fnn f cap x r h1=>cases h1
   |app0 s es' t T by_ z i h1=>cases h1
   |app s es es' t T by_ z i n h1=>cases h1
   |app0g s c m es' f t T by_ z i h1=>cases h1
   |appg s c m es es' f t T by_ z i n h1=>cases h1
   |min ki n0 n1 ns r h1=>cases h1
   |max ki n0 n1 ns r h1=>cases h1
  .refine old λv=>?_
   unfold rdL;split
   .rename_i heq;cases heq
   .rename_i heq;simp only[Op.call.injEq,Call.mk.injEq]at heq;exact absurd heq.1 hlen
   .rfl
 |_=>exact old λv=>rfl
end
section
variable {P:Program} [Wld P] [Kp] {τ:Tab} {N:Nat} {w0:World} {X0:List Nat} {S:List Bx} {M:MM} {a:Act} {w:World} {e:Env} {b:Bxs}
variable [WOk P w0]
theorem aeI{t s:Nat}{x:Value}(h:agh t=true)(hs:(s,x)∈Kp.l):t≠s:=by
 have:=gQ.1 h _ hs;rintro rfl;simp at this
theorem acD{a:Act}{t:Nat}{u:Value}(h:a.defers=[]/\∀t u,(t,u)∈Kp.l->a.tmps.getD t undef=u)(ht:DL N t):(a.put (some t) u).defers=[]/\∀s x,(s,x)∈Kp.l->(a.put (some t) u).tmps.getD s undef=x :=
 ⟨h.1,λs x hs=>by rw[aau u (aeI ht.2 hs)];exact h.2 s x hs⟩
theorem Sta.congr(h:Sta N w0 X0 S M a w e b){e':Env}{b':Bxs}(he:∀t,ld t e'=ld t e)(hb:∀i,ld i b'=ld i b):Sta N w0 X0 S M a w e' b' :=
 ⟨h.ms,h.x0,h.sz,h.df,λt v hv=>h.env t v (by rw[<-he];exact hv),λi x hx=>h.box i x (by rw[<-hb];exact hx)⟩
theorem Conc.congr(h:Conc N w0 X0 e b a w){e':Env}{b':Bxs}(he:∀t,ld t e'=ld t e)(hb:∀i,ld i b'=ld i b):Conc N w0 X0 e' b' a w:=by
 obtain⟨S,M,h⟩:=h;exact⟨S,M,h.congr he hb⟩
theorem aap{α:Type}(t:Nat)(v:α)(e:List (Nat×α)):ld t ((t,v)::e)=some v:=by simp[ld]
theorem aat{α:Type}{t s:Nat}(v:α)(e:List (Nat×α))(h:s≠t):ld t ((s,v)::e)=ld t e:=by simp[ld,aaL h]
theorem ae5(ids:List Nat):∀(e:Env) (t:Nat),ld t (kill ids e)=(ld t e).map λx=>cond ((aaF x).any λb=>ids.elem b) .any x
 |[],t=>rfl
 |(s,v)::r,t=>by
  have ih:=ae5 ids r t;unfold kill at ih ⊢;simp only[dJ]
  by_cases hs:s=t
  .subst hs;rw[aap];simp only[oJ];cases hc:(aaF v).any λb=>ids.elem b<;>exact aap _ _ _
  .have e1:ld t ((cond ((aaF v).any λb=>ids.elem b) (s,AV.any) (s,v))::List.map (λp=>cond ((aaF p.2).any λb=>ids.elem b) (p.1,AV.any) p) r)=ld t (List.map (λp=>cond ((aaF p.2).any λb=>ids.elem b) (p.1,AV.any) p) r):=by
    cases hc:(aaF v).any λb=>ids.elem b<;>exact aat _ _ hs
   rw[e1,ih,aat _ _ hs]
theorem Sta.kill(h:Sta N w0 X0 S M a w e b)(ids:List Nat):Sta N w0 X0 S M a w (kill ids e) b:=by
 refine⟨h.ms,h.x0,h.sz,h.df,λt v hv=>?_,h.box⟩;rw[ae5]at hv;cases hx:ld t e with
 |none=>simp[hx]at hv
 |some x =>
  simp only[hx,oJ,ji]at hv;cases hc:(aaF x).any λb=>ids.elem b with
  |true=>rw[hc]at hv;subst hv;exact .any
  |false=>rw[hc]at hv;subst hv;exact h.env t _ hx
theorem agp{ids:List Nat}{t:Nat}{x:AV}(h:ld t (kill ids e)=some x):∀i∈aaF x,i ∉ ids:=by
 intro i hi hm;rw[ae5]at h;cases hx:ld t e with
 |none=>simp[hx]at h
 |some y =>
  simp only[hx,oJ,ji]at h;cases hc:(aaF y).any λb=>ids.elem b with
  |true=>rw[hc]at h;subst h;simp[aaF]at hi
  |false =>
   rw[hc]at h;subst h;have:=yF.1 hc i hi;simp[hm]at this
theorem aby{ids:List Nat}(hm:mention ids e=false){t:Nat}{x:AV}(h:ld t e=some x):∀i∈aaF x,i ∉ ids:=by
 intro i hi hmi;have h1:=yF.1 hm _ (agb h);simp only[KF,not_exists,not_and]at h1;exact h1 i hi (by simpa using hmi)
theorem Post.conc(h:Sta N w0 X0 S M a w e b){o:Oper}{v:AV}{f:Bxs}{u:Value}{w':World}(hp:Post w0 X0 S M w (alO o) v f u w')(hd:∀t,o.dst=some t->DL N t)(hno:∀t x,o.dst≠some t->ld t e=some x->∀i∈aaF x,i ∉ alO o)(hnb:∀i x,ld i b=some x->∀c∈acy x,c ∉ alO o):
 Conc N w0 X0 (apE o v e) (ups f b) (a.put o.dst u) w':=by
 obtain⟨S',M',h1,h2,h3,h4,h5,h6⟩:=hp;refine⟨S',M',h1,h.x0, ?_, ?_,λt x hx=>?_,λi x hx=>?_⟩
 .cases hq:o.dst with
  |none=>exact h.sz
  |some t=>simp[Act.put,h.sz]
 .cases hq:o.dst with
  |none=>exact⟨h.df.1,h.df.2.ext h2⟩
  |some t=>exact⟨acD h.df.1 (hd _ hq),h.df.2.ext h2⟩
 .have old:o.dst≠some t->ld t e=some x->RepV w' (bl S'++X0) M' (a.tmps.getD t undef) x:=λhne hx=>(h.env t x hx).ext h2 λi hi m hm=>h5 i m hm (hno t x hne hx i hi)
  cases hq:o.dst with
  |none =>
   unfold apE at hx;rw[hq]at hx;exact old (by rw[hq];simp) hx
  |some s =>
   unfold apE at hx;rw[hq]at hx
   by_cases hs:s=t
   .subst hs;rw[aap]at hx;cases hx;rw[aaE u h.sz (hd _ hq).1];exact h3
   .rw[aat _ _ hs]at hx;rw[aau u hs];exact old (by rw[hq];simpa using hs) hx
 .rcases adi f b i x hx with hh|⟨hh,hx'⟩
  .exact h6 i x hh
  .obtain⟨m,k1,k2⟩:=h.box i x hx';exact⟨m,(h4 i hh).trans k1,k2.ext h2 λc hc mc hmc=>h5 c mc hmc (hnb i x hx' c hc)⟩
theorem abl{ids:List Nat}:∀{b:Bxs},aa3 ids b=false->∀i x,ld i b=some x->∀c∈acy x,c ∉ ids
 |[],_,i,x,hx,_,_=>by simp[ld]at hx
 |(s,y)::r,hm,i,x,hx,c,hc=>by
  have h1:aa3 ids r=false/\∀c∈acy y,c ∉ ids:=by
   cases y<;>simp only[aa3,Bool.or_eq_false_iff]at hm<;>first|exact⟨hm,λc hc=>by simp[acy]at hc⟩|skip
   refine⟨hm.2,λc hc hmc=>?_⟩;have:=yF.1 hm.1 c hc;simp[hmc]at this
  by_cases hs:s=i
  .subst hs;rw[aap]at hx;cases hx;exact h1.2 c hc
  .rw[aat _ _ hs]at hx;exact abl h1.1 i x hx c hc
theorem agf{ids:List Nat}{b:Bxs}{p:Prop}(h:NB ids b p):p/\∀i x,ld i b=some x->∀c∈acy x,c ∉ ids:=by
 unfold NB at h;split at h
 .exact⟨h,λi x hx c hc=>by simp⟩
 .split at h
  .rename_i hm;exact⟨h,abl hm⟩
  .cases h
theorem aeF(o:Oper):alO o=[]\/∃t j r,o.dst=some t/\alO o=j::r:=by
 unfold alO;cases aeO o.op with
 |false=>exact .inl rfl
 |true =>
  cases o.dst with
  |none=>exact .inl rfl
  |some t =>
   cases adn o.op with
   |true=>exact .inr ⟨t,_,_,rfl,rfl⟩
   |false=>exact .inr ⟨t,_,_,rfl,rfl⟩
theorem Post.concP(h:Sta N w0 X0 S M a w e b){o:Oper}{v:AV}{f:Bxs}{u:Value}{w':World}(hp:Post w0 X0 S M w (alO o) v f u w')(hd:∀t,o.dst=some t->DL N t)(hnb:∀i x,ld i b=some x->∀c∈acy x,c ∉ alO o):
 Conc N w0 X0 (acZ o v e) (ups f b) (a.put o.dst u) w':=by
 rcases aeF o with ha|⟨t,j,r,ht,ha⟩
 .have:=hp.conc h hd (λt x _ _ i _=>by rw[ha];simp) hnb;refine this.congr (λs=>?_) (λ_=>rfl);unfold acZ apE;cases hq:o.dst with
  |none=>rfl
  |some t=>simp only[ha]
 .unfold acZ;simp only[ht,ha];cases hm:mention (j::r) e with
  |true =>
   have:=hp.conc (h.kill (j::r)) hd (λs x _ hx i hi=>by rw[ha];exact agp hx i hi) hnb;unfold apE at this;simpa only[ht]using this
  |false =>
   have:=hp.conc h hd (λs x _ hx i hi=>by rw[ha];exact aby hm hx i hi) hnb;unfold apE at this;simpa only[ht]using this
def aiH(P:Program)(O:List Oper)(o:Oper)(a:Act)(w:World)(K:Act->World->Prop)(Q:Exit->Act->World->Prop):Prop :=
 (Region.wanted o (yielded O.toArray a.tmps)=true->o.wp P a w K Q)/\(Region.wanted o (yielded O.toArray a.tmps)=false->K (a.put o.dst undef) w)
theorem adR{O:List Oper}{j t:Nat}{p:Bool}(ho:abP O j=some t)(ht:a.tmps.getD t undef=.bool p):yielded O.toArray a.tmps j=some p:=by
 unfold abP at ho;unfold yielded;cases hq:O[j]? with
 |none=>simp[hq]at ho
 |some o =>
  simp only[hq]at ho;simp only[Fj,hq,Ef,ho];cases hx:a.tmps[t]? with
  |none=>simp[J8,hx,undef]at ht
  |some u=>simp[J8,hx]at ht;simp[ht]
theorem aeg{O:List Oper}{j t:Nat}(ho:abP O j=some t)(ht:a.tmps.getD t undef=undef):yielded O.toArray a.tmps j=none:=by
 unfold abP at ho;unfold yielded;cases hq:O[j]? with
 |none=>simp[hq]
 |some o =>
  simp only[hq]at ho;simp only[Fj,hq,Ef,ho];cases hx:a.tmps[t]? with
  |none=>simp
  |some u=>simp[J8,hx]at ht;simp[ht,undef]
theorem Sta.skip(h:Sta N w0 X0 S M a w e b){o:Oper}(hd:∀t,o.dst=some t->DL N t):Sta N w0 X0 S M (a.put o.dst undef) w (apE o .bad e) b:=by
 refine⟨h.ms,h.x0, ?_, ?_,λt x hx=>?_,h.box⟩
 .cases hq:o.dst with
  |none=>exact h.sz
  |some t=>simp[Act.put,h.sz]
 .cases hq:o.dst with
  |none=>exact h.df
  |some t=>exact⟨acD h.df.1 (hd _ hq),h.df.2⟩
 .cases hq:o.dst with
  |none=>unfold apE at hx;rw[hq]at hx;exact h.env t x hx
  |some s =>
   unfold apE at hx;rw[hq]at hx
   by_cases hs:s=t
   .subst hs;rw[aap]at hx;cases hx;rw[aaE undef h.sz (hd _ hq).1];exact .bad rfl
   .rw[aat _ _ hs]at hx;rw[aau undef hs];exact h.env t x hx
theorem Sta.skipP(h:Sta N w0 X0 S M a w e b){o:Oper}(hd:∀t,o.dst=some t->DL N t):Conc N w0 X0 (acZ o .bad e) b (a.put o.dst undef) w:=by
 rcases aeF o with ha|⟨t,j,r,ht,ha⟩
 .have:=h.skip hd;refine⟨S,M,this.congr (λs=>?_) (λ_=>rfl)⟩;unfold acZ apE;cases hq:o.dst with
  |none=>rfl
  |some t=>simp only[ha]
 .unfold acZ;simp only[ht,ha];cases hm:mention (j::r) e with
  |true =>
   have:=(h.kill (j::r)).skip hd;unfold apE at this;simp only[ht]at this;exact⟨S,M,this⟩
  |false =>
   have:=h.skip hd;unfold apE at this;simp only[ht]at this;exact⟨S,M,this⟩
theorem aeZ{t:Nat}{x:AV}(h:ld t e=some x):∀s,ld s ((t,x)::e)=ld s e:=λs=>by
 by_cases hs:t=s
 .subst hs;rw[aap,h]
 .rw[aat _ _ hs]
theorem ahk{O:List Oper}{o:Oper}{k:Env->Bxs->Prop}(hτ:aaH P τ=true)(hc:Conc N w0 X0 e b a w)(hd:∀t,o.dst=some t->DL N t)(hk:adQ (Den P) τ O o e b λe v f _=>k (acZ o v e) (ups f b))
 {K:Act->World->Prop} {Q:Exit->Act->World->Prop} (hK:∀e b a w,k e b->Conc N w0 X0 e b a w->K a w):aiH P O o a w K Q:=by
 obtain⟨S,M,h⟩:=hc
 have run:∀e,Sta N w0 X0 S M a w e b->NB (alO o) b (aop (Den P) τ o e b λv f=>k (acZ o v e) (ups f b))->o.wp P a w K Q:=by
  intro e h hk;obtain⟨hk,hnb⟩:=agf hk;obtain⟨v,f,h1,h2⟩:=ad3 hτ h hk;exact h2.wp λu w' hp=>hK _ _ _ _ h1 (hp.concP h hd hnb)
 have skip:∀e,Sta N w0 X0 S M a w e b->k (acZ o .bad e) b->K (a.put o.dst undef) w:=by
  intro e h hk;exact hK _ _ _ _ hk (h.skipP hd)
 unfold adQ at hk;cases hg:o.guard with
 |none =>
  simp only[hg]at hk;exact⟨λ_=>run e h hk,λhw=>by simp[Region.wanted,hg]at hw⟩
 |some jw =>
  obtain⟨j,want⟩:=jw;simp only[hg]at hk;cases hs:abP O j with
  |none=>simp[hs]at hk
  |some t =>
   simp only[hs]at hk;split at hk
   .rename_i p hp;have hy:=adR (a:=a) hs ((h.env t _ hp).v_)
    have hbr:(match p == want with
     |true=>NB (alO o) b (aop (Den P) τ o ((t,.bool p)::e) b λv f=>k (acZ o v ((t,.bool p)::e)) (ups f b))
     |false=>k (acZ o .bad ((t,.bool p)::e)) (ups [] b)):=by
     cases p
     .exact hk.f rfl
     .exact hk.t rfl
    have h':=h.congr (aeZ hp) (λ_=>rfl);cases hpw:p == want with
    |true =>
     simp only[hpw]at hbr;refine⟨λ_=>run _ h' hbr,λhw=>?_⟩;simp only[Region.wanted,hg,hy]at hw;have:=eq_of_beq hpw;subst this;simp at hw
    |false =>
     simp only[hpw]at hbr;refine⟨λhw=>?_,λ_=>skip _ h' hbr⟩;simp only[Region.wanted,hg,hy]at hw;have:p=want:=by simpa using hw
     subst this;simp at hpw
   .rename_i hp
    have hu:a.tmps.getD t undef=undef:=by
     have:=h.env t _ hp;generalize hz:a.tmps.getD t undef=z at this;cases this with
     |d hd=>cases hd
     |bad hb=>exact hb
    have hy:=aeg (a:=a) hs hu;refine⟨λhw=>?_,λ_=>skip _ h hk⟩;simp[Region.wanted,hg,hy]at hw
   .cases hk
theorem adH{O:List Oper}{Q:Exit->Act->World->Prop}{k:Env->Bxs->Prop}(hτ:aaH P τ=true)(hQ:∀e b a w,k e b->Conc N w0 X0 e b a w->Q .normal a w):∀{l:List Oper} {e:Env} {b:Bxs} {a:Act} {w:World},afn N l=true->aer (Den P) τ O l e b k->Conc N w0 X0 e b a w->wpList P O.toArray Q l a w
 |[],e,b,a,w,_,hk,hc=>hQ e b a w hk hc
 |o::r,e,b,a,w,hd,hk,hc=>by
  simp only[afn,List.all_cons,bG]at hd;simp only[aer,ae8,acn]at hk
  have hdo:∀t,o.dst=some t->DL N t:=by
   intro t ht;have:=hd.1;rw[ht]at this;simpa[DL,xu]using this
  have:=ahk (k:=λe b=>aer (Den P) τ O r e b k) (K:=wpList P O.toArray Q r) (Q:=Q) hτ hc hdo hk (λe b a w hk hc=>adH hτ hQ (l:=r) hd.2 hk hc);unfold wpList;cases hw:Region.wanted o (yielded O.toArray a.tmps)with
  |true=>simp only[if_true];exact .inl (this.1 hw)
  |false=>simp only[DF,if_false];exact this.2 hw
end
end Go.Sw
