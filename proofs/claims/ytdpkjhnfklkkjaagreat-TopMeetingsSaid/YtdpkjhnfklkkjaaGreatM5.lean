/-
  Rules of the abstract run, plain laws, and what functions answer, for the law TopMeetings.
  Conditions: none.
-/
import Derived.Test.YtdpkjhnfklkkjaaGreatM4
import Derived.Lib.ConvBytes
set_option linter.all false
set_option maxHeartbeats 16000000
namespace Go.Sw
open Go Go.RowKit
section
variable {P:Program} [Wld P] [Kp] [Gr] {τ:Tab} {N:Nat} {w0:World} {X0:List Nat} {S:List Bx} {M:MM} {a:Act} {w:World} {e:Env} {b:aZ}
variable [WOk P w0]
variable {d:Option Nat} {ty:TypeId} {pos:String} {af:Array Edge} {gd:Option (Nat × Bool)} {k:AV->aZ->Prop}
theorem GZ{α β:Type}{f:α->Option β}:∀{l:List α} {r:List β},je f l=some r->l.length=r.length/\∀(i:Nat) x,l[i]?=some x->∃y,r[i]?=some y/\f x=some y
 |[],r,h=>by simp[je]at h;subst h;simp
 |x::l,r,h=>by
  simp only[je]at h;cases hx:f x with
  |none=>simp[hx]at h
  |some y =>
   cases hq:je f l with
   |none=>simp[hx,hq]at h
   |some q =>
    simp[hx,hq]at h;subst h;obtain⟨h1,h2⟩:=GZ hq;refine⟨by simp[h1],λi z hz=>?_⟩;cases i with
    |zero=>simp at hz;subst hz;exact⟨y,rfl,hx⟩
    |succ i=>simpa using h2 i z (by simpa using hz)
theorem CQ{w:World}{X X':List Nat}{u:Value}{c:Cell}(hc:kX c=true)(h:RepC w X u c):RepC w X' u c:=by
 cases h with
 |v u h=>exact .v u h
 |sl=>simp[kX]at hc
 |p=>simp[kX]at hc
 |fn=>simp[kX]at hc
theorem Hw{w:World}{X X':List Nat}{u:Value}{v:AV}(hp:(match v with|.c x=>kX x|.agg cs=>cs.all kX|_=>false)=true)(h:RepD w X u v):RepD w X' u v:=by
 cases h with
 |c h=>exact .c (CQ hp h)
 |agg h=>exact .agg ⟨h.len,λj u c a b=>CQ (oH.1 hp _ (Gt b)) (h.get j u c a b)⟩
theorem OL{w:World}{X X':List Nat}{u:Value}{r:AV}(hp:lU r=true)(h:RepR w X u r):RepR w X' u r:=by
 cases h with
 |d h =>
  cases h with
  |c h=>exact .d (Hw (v:=.c _) hp (.c h))
  |agg h=>exact .d (Hw (v:=.agg _) hp (.agg h))
 |tup hl h =>
  refine .tup hl λi u v a b=>?_
  have:=oH.1 hp _ (Gt b);exact Hw this (h i u v a b)
theorem RepR.v{w:World}{X:List Nat}{M:MM}{u:Value}{r:AV}(h:RepR w X u r):RepV w X M u r:=by
 cases h with
 |d h=>exact .d h
 |tup hl h=>exact .tup hl λi u v a b => .inl (h i u v a b)
theorem IG(h:Sta N w0 X0 S M a w e b){l:List Operand}{vs:List AV}(hv:je (λx=>ae e x) l=some vs):
 (l.map a.eval).length=vs.length/\∀(i:Nat) u v,(l.map a.eval)[i]?=some u->vs[i]?=some v->RepV w (bl S++X0) M u v:=by
 obtain⟨h1,h2⟩:=GZ hv;refine⟨by simp[h1],λi u v hu hv'=>?_⟩;rw[MQ]at hu;cases hx:l[i]? with
 |none=>simp[hx]at hu
 |some x =>
  simp[hx]at hu;subst hu;obtain⟨y,q1,q2⟩:=h2 i x hx;rw[hv']at q1;cases q1;exact h.ev q2
theorem SK{u:Value}{f:FuncId}(h:afM u=some f):u=.func (.func f) #[] #[]:=by
 unfold afM at h;split at h
 .rename_i f' a c;split at h
  .rename_i h1 h2;cases h;have e1:a = #[]:=Jv (by simpa using h1);have e2:c = #[]:=Jv (by simpa using h2);rw[e1,e2]
  .cases h
 .cases h
theorem XZ{x:Operand}{f:FuncId}{cap:List AV}(h:Sta N w0 X0 S M a w e b)(hf:Gg e x=some (f,cap)):∃us:List Value,a.eval x=.func (.func f) #[] us.toArray/\us.length=cap.length/\∀(i:Nat) u v,us[i]?=some u->cap[i]?=some v->RepD w (bl S++X0) u v:=by
 unfold Gg at hf;split at hf
 .rename_i u hu;split at hf
  .rename_i f' hff;simp only[qH,ou]at hf;obtain⟨rfl,rfl⟩:=hf;have e1:=SK hff;subst e1;have e2:=h.ev hu;generalize a.eval x=y at e2 ⊢;cases e2 with
   |d hd=>cases hd with
    |c hc=>cases hc;exact⟨[],rfl,rfl,λi u v q=>by simp at q⟩
  .cases hf
 .rename_i f' cs hu;simp only[qH,ou]at hf;obtain⟨rfl,rfl⟩:=hf;have e2:=h.ev hu;generalize a.eval x=y at e2 ⊢;cases e2 with
  |d hd=>cases hd with
   |c hc=>cases hc with
    |fn f us cs hl hr=>exact⟨us,rfl,by simpa using hl,λi u v p q=>by
     rw[MQ]at q;cases hq:cs[i]? with
     |none=>simp[hq]at q
     |some c=>simp[hq]at q;subst q;exact .c (hr i u c p hq)⟩
 .cases hf
theorem qZ{ρ:Operand->Value}{P:Program}{w:World}{d:Option Nat}{ty:TypeId}{pos:String}{af:Array Edge}{gd:Option (Nat×Bool)}{f:FuncId}{x:Operand}{xs:Array Operand}{ts:Array TypeId}{vs:Array Value}{cap:Array Value}(hf:fE P f=true)(hv:xs.map ρ++cap=vs)(hfn:ρ x=.func (.func f) #[] cap):
 (execOp ρ ⟨d,.call ⟨.value x,xs,ts⟩,ty,pos,af,gd⟩).run P w=.ok (.enter f vs) w:=by
 unfold fE at hf;cases hq:P.funcs[f]? with
 |none=>simp[hq]at hf
 |some fn =>
  simp only[hq,gX,Jh]at hf;obtain⟨h1,h2⟩:=hf;have h2':¬ fn.name = "runtime.NumGoroutine" := by simpa using h2
  cases hb:fn.body with
  |none=>simp[hb]at h1
  |some c=>simp[execOp,resolve,hfn,Deferred.ofValue,invoke,callFunc,hq,h2',hb,hv]
theorem MS.push{w':World}(h:MS w0 w' S M){i g:Nat}{m:MB}(ho:m.own=true)(hg:m.g=some g)(hh:w'.heap[g]?=some (.cells m.us.toArray m.T (0,0)))(h0:w0.heap.size<=g)(hn:g ∉ bl S)(hgx:m.gx=none):MS w0 w' ((g,m.T,m.us.toArray)::S) (M.set i m):=by
 refine⟨h.st.push hh h0 hn,h.gh.set (λx hx=>by rw[hgx]at hx;cases hx) (λ_ _ _ _ _ _ _ h=>vX _ h) (λ_ _ _ h=>h) (λg' h1 h2 => .inr (by rw[hg]at h2;cases h2;exact hn)),λc mc hc hco gc hgc=>?_,λc c' mc mc' gc h1 h2 h3 h4 h5 h6=>?_⟩
 .by_cases hci:c=i
  .subst hci;rw[MM.set_same]at hc;cases hc;rw[hg]at hgc;cases hgc;simp
  .rw[MM.set_other _ _ hci]at hc;exact vX _ (h.inS c mc hc hco gc hgc)
 .have old:∀c mc,c≠i->M.set i m c=some mc->mc.own=true->∀g',mc.g=some g'->g'≠g:=by
   intro c mc hci hc hco g' hgc e;rw[MM.set_other _ _ hci]at hc;exact hn (iV.2 ⟨_,h.inS c mc hc hco g' hgc,e⟩)
  by_cases hci:c=i
  .by_cases hci':c'=i
   .rw[hci,hci']
   .subst hci;rw[MM.set_same]at h1;cases h1;rw[hg]at h5;cases h5;exact absurd rfl (old c' mc' hci' h2 h4 _ h6)
  .by_cases hci':c'=i
   .subst hci';rw[MM.set_same]at h2;cases h2;rw[hg]at h6;cases h6;exact absurd rfl (old c mc hci h1 h3 _ h5)
   .rw[MM.set_other _ _ hci]at h1;rw[MM.set_other _ _ hci']at h2;exact h.inj c c' mc mc' gc h1 h2 h3 h4 h5 h6
theorem MS.none_{w':World}(h:MS w0 w' S M){i:Nat}{m:MB}(hg:m.g=none)(hgx:m.gx=none):MS w0 w' S (M.set i m):=by
 refine⟨h.st,h.gh.set (λx hx=>by rw[hgx]at hx;cases hx) (λ_ _ _ _ _ _ _ h=>h) (λ_ _ _ h=>h) (λg' h1 h2=>by rw[hg]at h2;cases h2),λc mc hc hco gc hgc=>?_,λc c' mc mc' gc h1 h2 h3 h4 h5 h6=>?_⟩
 .by_cases hci:c=i
  .subst hci;rw[MM.set_same]at hc;cases hc;rw[hg]at hgc;cases hgc
  .rw[MM.set_other _ _ hci]at hc;exact h.inS c mc hc hco gc hgc
 .by_cases hci:c=i
  .subst hci;rw[MM.set_same]at h1;cases h1;rw[hg]at h5;cases h5
  .by_cases hci':c'=i
   .subst hci';rw[MM.set_same]at h2;cases h2;rw[hg]at h6;cases h6
   .rw[MM.set_other _ _ hci]at h1;rw[MM.set_other _ _ hci']at h2;exact h.inj c c' mc mc' gc h1 h2 h3 h4 h5 h6
inductive OwnV (w':World) (XX:List Nat) (T:TypeId) (s:Nat):List (List Cell)->Value->Option Nat->Prop where
 |no (h:0<s):OwnV w' XX T s [] (.slice none 0 0) none
 |some {g cap:Nat} {es:List (List Cell)} {uss:List (List Value)} {rest:List Value} (hs:0<s) (hg:w'.heap[g]?=some (.cells (uss.flatten++rest).toArray T (0,0))) (hr:RepS w' XX s uss es) (hc:cap*s=(uss.flatten++rest).length) (hm:cap<=maxLen) (hn:es.length<=cap):OwnV w' XX T s es (.slice (some ⟨g,0,none⟩) es.length cap) (some g)
theorem Lm{w':World}{XX:List Nat}{u:Value}{T:TypeId}{s:Nat}{es:List (List Cell)}{og:Option Nat}(i:Nat)(hv:OwnV w' XX T s es u og)(hG:∀g,og=some g->w0.heap.size<=g/\g ∉ bl S)(h:MS w0 w' S M):
 ∃S' m,MS w0 w' S' (M.set i m)/\(∀x∈bl S',og=some x\/x∈bl S)/\(∀x∈bl S,x∈bl S')/\(∀M',RepM w' XX M' m (.grow T s es))/\(∀M':MM,M' i=some m->RepG M' u (.gs i es.length)):=by
 cases hv with
 |no hs=>exact⟨S,⟨false,true,none,T,s,0,0,[],none⟩,h.none_ rfl rfl,λx hx => .inr hx,λx hx=>hx,λM'=>⟨rfl,rfl,rfl,⟨rfl,hs⟩,rfl,.inl ⟨rfl,rfl,rfl⟩⟩,λM' hM => .gs hM rfl (jg _) (λ_=>rfl) ⟨_,_,rfl⟩⟩
 |some hs hg hr hc hm hn =>
  rename_i g cap uss rest;obtain⟨h0,h1⟩:=hG g rfl;refine⟨_,⟨false,true,some g,T,s,es.length,cap,uss.flatten++rest,none⟩,h.push (i:=i) (g:=g) rfl rfl hg h0 h1 rfl,λx hx=>?_,λx hx=>vX _ hx,λM'=>⟨rfl,rfl,rfl,⟨rfl,hs⟩,rfl,.inr ⟨g,uss,rest,rfl,rfl,hr,hc,hm,hn⟩⟩,λM' hM => .gs hM rfl (jg _) (λ_=>rfl) ⟨_,_,rfl⟩⟩;simp only[bl,xZ,jA]at hx;rcases hx with rfl|hx
  .exact .inl rfl
  .exact .inr hx
theorem abr{w':World}{XX:List Nat}{us:List Value}{vs:List AV}{G:List Nat}(hR:RepFs w' XX us vs G):∀{i j:Nat} {k:List AV->aZ->Prop},(∀g∈G,w0.heap.size<=g/\g ∉ bl S)->G.Nodup->MS w0 w' S M->nD i j vs k ->
 ∃vs' f S' M',k vs' f/\MS w0 w' S' M'/\(∀x∈bl S',x∈G\/x∈bl S)/\(∀x∈bl S,x∈bl S')/\(∀c,c ∉ f.map (·.1)->M' c=M c)/\(∀c x,(c,x)∈f->tX x=[]/\(∃q,q<us.length/\c=i+j+q*KK)/\∃m,M' c=some m/\RepM w' XX M' m x)/\us.length=vs'.length/\∀(n:Nat) u v,us[n]?=some u->vs'[n]?=some v->RepD w' XX u v\/(RepG M' u v/\∀c∈wz [v],∃q,c=i+j+q*KK):=by
 have own:∀{u:Value} {us:List Value} {T:TypeId} {s:Nat} {es:List (List Cell)} {og:Option Nat} {vs:List AV} {G:List Nat},OwnV w' XX T s es u og->(∀g,og=some g->g ∉ G) ->
  (∀{i j:Nat} {k:List AV->aZ->Prop},(∀g∈G,w0.heap.size<=g/\g ∉ bl S)->G.Nodup->MS w0 w' S M->nD i j vs k ->
   ∃vs' f S' M',k vs' f/\MS w0 w' S' M'/\(∀x∈bl S',x∈G\/x∈bl S)/\(∀x∈bl S,x∈bl S')/\(∀c,c ∉ f.map (·.1)->M' c=M c)/\(∀c x,(c,x)∈f->tX x=[]/\(∃q,q<us.length/\c=i+j+q*KK)/\∃m,M' c=some m/\RepM w' XX M' m x)/\us.length=vs'.length/\∀(n:Nat) u v,us[n]?=some u->vs'[n]?=some v->RepD w' XX u v\/(RepG M' u v/\∀c∈wz [v],∃q,c=i+j+q*KK)) ->
  ∀{i j:Nat} {k:List AV->aZ->Prop},(∀g∈G,w0.heap.size<=g/\g ∉ bl S)->(∀g,og=some g->w0.heap.size<=g/\g ∉ bl S)->G.Nodup->MS w0 w' S M->(nD i (j+KK) vs λvs f=>k (.gs (i+j) es.length::vs) ((i+j,.grow T s es)::f)) ->
  ∃vs' f S' M',k vs' f/\MS w0 w' S' M'/\(∀x∈bl S',(og=some x\/x∈G)\/x∈bl S)/\(∀x∈bl S,x∈bl S')/\(∀c,c ∉ f.map (·.1)->M' c=M c)/\(∀c x,(c,x)∈f->tX x=[]/\(∃q,q<(u::us).length/\c=i+j+q*KK)/\∃m,M' c=some m/\RepM w' XX M' m x)/\(u::us).length=vs'.length/\∀(n:Nat) x v,(u::us)[n]?=some x->vs'[n]?=some v->RepD w' XX x v\/(RepG M' x v/\∀c∈wz [v],∃q,c=i+j+q*KK):=by
  intro u us T s es og vs G hv hgG ih i j k hG hog hnd h hk;obtain⟨vs',f,S',M',h1,h2,h3,h4,h5,h6,h7,h8⟩:=ih hG hnd h hk
  obtain⟨S'',m,p1,p2,p3,p4,p5⟩:=Lm (i+j) hv (λg hg=>⟨(hog g hg).1,λhm=>by
   rcases h3 g hm with h9|h9
   .exact hgG g hg h9
   .exact(hog g hg).2 h9⟩) h2
  have hne:∀q,i+(j+KK)+q*KK≠i+j:=λq=>by unfold KK;omega
  refine⟨_,_,S'',_,h1,p1,λx hx=>?_,λx hx=>p3 x (h4 x hx),λc hc=>?_,λc x hx=>?_,by simp[h7],λn a b ha hb=>?_⟩
  .rcases p2 x hx with h9|h9
   .exact .inl (.inl h9)
   .rcases h3 x h9 with h9|h9
    .exact .inl (.inr h9)
    .exact .inr h9
  .simp only[xZ,jA,not_or]at hc;rw[MM.set_other _ _ hc.1,h5 c hc.2]
  .rcases jA.1 hx with hx|hx
   .simp only[ou]at hx;obtain⟨rfl,rfl⟩:=hx;exact⟨rfl,⟨0,η,η⟩,_,MM.set_same _ _ _,p4 _⟩
   .obtain⟨q1,⟨q,q2,q3⟩,m',q4,q5⟩:=h6 c x hx;exact⟨q1,⟨q+1,by simpa using q2,by rw[q3,Nat.add_mul];omega⟩,m',by rw[MM.set_other _ _ (by rw[q3];exact hne q)];exact q4,q5.ext (Ext.refl _ _) (by rw[q1];simp)⟩
  .cases n with
   |zero=>simp at ha hb;subst ha hb;exact .inr ⟨p5 _ (MM.set_same _ _ _),λc hc=>⟨0,by simp[wz]at hc;omega⟩⟩
   |succ n =>
    rcases h8 n a b (by simpa using ha) (by simpa using hb)with h9|⟨h9,h10⟩
    .exact .inl h9
    .right;cases h9 with
     |gs hm hv hle hh hu =>
      rename_i c n' m';obtain⟨q,hq⟩:=h10 c (by simp[wz]);refine⟨.gs (by rw[MM.set_other _ _ (by rw[hq];exact hne q)];exact hm) hv hle hh hu,λd hd=>?_⟩;simp[wz]at hd;subst hd;exact⟨q+1,by rw[hq,Nat.add_mul];omega⟩
 induction hR with
 |nil =>
  intro i j k hG hnd h hk;exact⟨_,_,S,M,hk,h,λx hx => .inr hx,λx hx=>hx,λ_ _=>rfl,λc x hx=>by simp at hx,rfl,λn u v hu=>by simp at hu⟩
 |d hd t ih =>
  rename_i u v us vs G;intro i j k hG hnd h hk
  have hk':nD i (j+KK) vs λvs f=>k (v::vs) f:=by
   cases hd<;>exact hk
  obtain⟨vs',f,S',M',h1,h2,h3,h4,h5,h6,h7,h8⟩:=ih hG hnd h hk';refine⟨_,f,S',M',h1,h2,h3,h4,h5,λc x hx=>?_,by simp[h7],λn a b ha hb=>?_⟩
  .obtain⟨q1,⟨q,q2,q3⟩,q4⟩:=h6 c x hx;exact⟨q1,⟨q+1,by simpa using q2,by rw[q3,Nat.add_mul];omega⟩,q4⟩
  .cases n with
   |zero=>simp at ha hb;subst ha hb;exact .inl hd
   |succ n =>
    rcases h8 n a b (by simpa using ha) (by simpa using hb)with h9|⟨h9,h10⟩
    .exact .inl h9
    .exact .inr ⟨h9,λc hc=>by obtain⟨q,hq⟩:=h10 c hc;exact⟨q+1,by rw[hq,Nat.add_mul];omega⟩⟩
 |own0 hs t ih =>
  intro i j k hG hnd h hk;simp only[nD]at hk;obtain⟨vs',f,S',M',h1,h2,h3,h4⟩:=own (.no hs) (λg hg=>by cases hg) ih hG (λg hg=>by cases hg) hnd h hk;exact⟨vs',f,S',M',h1,h2,λx hx=>by simpa using h3 x hx,h4⟩
 |own hs hg hr hc hm hn t ih =>
  intro i j k hG hnd h hk;simp only[nD]at hk;obtain⟨vs',f,S',M',h1,h2,h3,h4⟩:=own (.some hs hg hr hc hm hn) (λg hg=>by cases hg;exact(List.nodup_cons.1 hnd).1) ih (λg hg=>hG g (vX _ hg)) (λg hg=>by cases hg;exact hG _ η) (List.nodup_cons.1 hnd).2 h hk;refine⟨vs',f,S',M',h1,h2,λx hx=>?_,h4⟩;rcases h3 x hx with(h9|h9)|h9
  .cases h9;exact .inl η
  .exact .inl (vX _ h9)
  .exact .inr h9
theorem Ql:∀{vs:List AV} {i j:Nat},∃V F,∀k,nD i j vs k=k V F
 |[],i,j=>⟨[],[],λk=>rfl⟩
 |v::r,i,j=>by
  obtain⟨V,F,h⟩:=Ql (vs:=r) (i:=i) (j:=j+KK);cases v with
  |own T s es=>exact⟨_,_,λk=>by simp only[nD];rw[h]⟩
  |c x=>exact⟨_,_,λk=>by simp only[nD];rw[h]⟩
  |agg x=>exact⟨_,_,λk=>by simp only[nD];rw[h]⟩
  |tup x=>exact⟨_,_,λk=>by simp only[nD];rw[h]⟩
  |ptr x y=>exact⟨_,_,λk=>by simp only[nD];rw[h]⟩
  |pe x y z t=>exact⟨_,_,λk=>by simp only[nD];rw[h]⟩
  |rd x=>exact⟨_,_,λk=>by simp only[nD];rw[h]⟩
  |gs x y=>exact⟨_,_,λk=>by simp only[nD];rw[h]⟩
  |gp x y=>exact⟨_,_,λk=>by simp only[nD];rw[h]⟩
  |gh x=>exact⟨_,_,λk=>by simp only[nD];rw[h]⟩
  |ago x=>exact⟨_,_,λk=>by simp only[nD];rw[h]⟩
  |bad=>exact⟨_,_,λk=>by simp only[nD];rw[h]⟩
  |any=>exact⟨_,_,λk=>by simp only[nD];rw[h]⟩
theorem CB{r:AV}(h:mV d r k):(BJ r=true/\k r []/\∀k':AV->aZ->Prop,k' r []->mV d r k') \/
 (∃T s es i,r=.own T s es/\d=some i/\k (.gs i es.length) [(i,.grow T s es)]/\∀k':AV->aZ->Prop,k' (.gs i es.length) [(i,.grow T s es)]->mV d r k') \/
 (∃vs i V F,r=.tup vs/\d=some i/\vs.length<=3/\(∀k,nD i KK vs k=k V F)/\k (.tup V) F/\∀k':AV->aZ->Prop,k' (.tup V) F->mV d r k'):=by
 unfold mV at h;split at h
 .rename_i T s es;split at h
  .rename_i i;exact .inr (.inl ⟨T,s,es,i,rfl,rfl,h,λk' hk'=>by unfold mV;exact hk'⟩)
  .cases h
 .rename_i vs;split at h
  .rename_i hn;refine .inl ⟨?_,h,λk' hk'=>by unfold mV;simp only[hn];exact hk'⟩;have:=JX.1 hn;exact oH.2 λx hx=>by simpa using this x hx
  .rename_i hn;split at h
   .rename_i i hl;obtain⟨V,F,hVF⟩:=Ql (vs:=vs) (i:=i) (j:=KK);rw[hVF]at h;exact .inr (.inr ⟨vs,i,V,F,rfl,rfl,Nat.le_of_ble_eq_true hl,hVF,h,λk' hk'=>by unfold mV;simp only[hn,hl];rw[hVF];exact hk'⟩)
   .cases h
 .rename_i h1 h2;refine .inl ⟨?_,h,λk' hk'=>?_⟩
  .cases r<;>first|rfl|exact absurd rfl (h1 _ _ _)|exact absurd rfl (h2 _)
  .unfold mV;cases r<;>first|exact hk'|exact absurd rfl (h1 _ _ _)|exact absurd rfl (h2 _)
theorem Vm{fz g:aZ}(h:nU fz g=true){c:Nat}(h1:c∈fz.map (·.1))(h2:c∈g.map (·.1)):False:=by
 obtain⟨p,hp,rfl⟩:=iV.1 h1;obtain⟨q,hq,hqe⟩:=iV.1 h2;unfold nU at h;split at h
 .cases hq
 .simp only[Jh]at h;have h3:=JX.1 h p hp;simp only[List.any_eq_true,not_exists,not_and]at h3;exact h3 q hq (by rw[hqe];simp)
theorem LM{w':World}{G:List Nat}{al:List Nat}{fz F:aZ}{S1 S':List Bx}{M1 M':MM}{u:Value}{v:AV}(hc1:Chg w (bl S++X0) M w (bl S1++X0) M1 [] fz)(hfo:FrzOnly b fz)(hB:Below w.heap.size w w')(hG:∀g∈G,w.heap.size<=g)(hdj:nU fz F=true)
 (hms:MS w0 w' S' M') (h3:∀x∈bl S',x∈G\/x∈bl S1) (h5:∀c,c ∉ F.map (·.1)->M' c=M1 c) (h6:∀c x,(c,x)∈F->tX x=[]/\c∈al/\∃m,M' c=some m/\RepM w' (G++(bl S1++X0)) M' m x) (hv:∀{X:List Nat},(∀x∈X,x∈G++(bl S1++X0))->RepV w' X M' u v) :
 Post w0 X0 S M w al v (fz++F) u w':=by
 have hsub:∀x∈bl S'++X0,x∈G++(bl S1++X0):=λx hx=>by
  rcases uh.1 hx with hx|hx
  .rcases h3 x hx with h|h
   .exact yQ _ h
   .exact qP _ (yQ _ h)
  .exact qP _ (qP _ hx)
 have hext:Ext w (bl S1++X0) w' (bl S'++X0):=⟨hB.size,λc hc hcx _=>⟨hB.block c hc,λhm=>by
  rcases uh.1 (hsub c hm)with h|h
  .have:=hG c h;omega
  .exact hcx h⟩⟩
 refine⟨S',M',hms,hc1.ext.trans hext,hv hsub,λi hi=>?_,λi m hm hi=>?_,λi x hx=>?_⟩
 .simp only[UZ,uh,not_or]at hi;rw[h5 i hi.2,hc1.same i hi.1]
 .obtain⟨m',q1,q2⟩:=hc1.comp i m hm η;refine⟨m', ?_,q2⟩
  rw[h5 i (λhf=>by
   obtain⟨p,hp,rfl⟩:=iV.1 hf
   exact hi (h6 p.1 p.2 hp).2.1)]
  exact q1
 .rcases uh.1 hx with hx|hx
  .obtain⟨m',q1,q2⟩:=hc1.new i x hx;refine⟨m', ?_,q2.ext hext (by rw[hfo.obs i x hx];simp)⟩;rw[h5 i (λhf=>Vm hdj (iV.2 ⟨_,hx,rfl⟩) hf)];exact q1
  .obtain⟨_,_,m',q1,q2⟩:=h6 i x hx;exact⟨m',q1,q2.ext0 (Ext.drop hsub)⟩
theorem vg{xs:Array Operand}{vs cap:List AV}{f:FuncId}{x:Operand}(hx:Gg e x=some (f,cap))(h:Sta N w0 X0 S M a w e b)(hv:je (λx=>ae e x) xs.toList=some vs):
 ∃cu:List Value,a.eval x=.func (.func f) #[] cu.toArray/\(xs.toList.map a.eval).length=vs.length/\(xs.toList.map a.eval++cu).length=(vs++cap).length/\∀(i:Nat) u v,(xs.toList.map a.eval++cu)[i]?=some u->(vs++cap)[i]?=some v->RepV w (bl S++X0) M u v:=by
 obtain⟨hl,hr⟩:=IG h hv;obtain⟨cu,h1,h2,h3⟩:=XZ h hx;refine⟨cu,h1,hl,by simp only[rQ,hl,h2],λi u v hu hv'=>?_⟩
 by_cases hi:i<(xs.toList.map a.eval).length
 .rw[UA hi]at hu;rw[UA (by rw[<-hl];exact hi)]at hv';exact hr i u v hu hv'
 .rw[ZA ω]at hu;rw[ZA (by rw[<-hl];omega),<-hl]at hv';exact .d (h3 _ u v hu hv')
theorem KH{f:FuncId}{x:Operand}{cap:List AV}(hx:Gg e x=some (f,cap)){xs:Array Operand}{ts:Array TypeId}{vs pre:List AV}(hp:pre=[]\/pre=[.c (.v (.slice none 0 0))])(h:Sta N w0 X0 S M a w e b)(hv:je (λx=>ae e x) xs.toList=some (pre++vs))
 (hk:jU (vs++cap) b λa_s fz=>CallP (Den P) f (pre++a_s) λr=>mV d r λv g=>(match nU fz g with|true=>k v (qI r fz++g)|false=>False)):Good P w0 X0 S M a w ⟨d,.call ⟨.value x,xs,ts⟩,ty,pos,af,gd⟩ k:=by
 obtain⟨cu,hfe,_,hl,hr⟩:=vg hx h hv
 obtain⟨a_s,fz,S1,M1,⟨r,hden,hk1⟩,hm1,hc1,⟨hl1,hr1⟩,hfo⟩:∃a_s fz S1 M1,(CallP (Den P) f a_s λr=>mV d r λv g=>(match nU fz g with|true=>k v (qI r fz++g)|false=>False))/\MS w0 w S1 M1/\Chg w (bl S++X0) M w (bl S1++X0) M1 [] fz /\
  ((xs.toList.map a.eval++cu).length=a_s.length/\∀(i:Nat) u v,(xs.toList.map a.eval++cu)[i]?=some u->a_s[i]?=some v->RepD w (bl S1++X0) u v)/\FrzOnly b fz:=by
  rcases hp with rfl|rfl
  .obtain⟨a_s,fz,S1,M1,h1⟩:=pV h hl hr hk;exact⟨a_s,fz,S1,M1,h1⟩
  .generalize xs.toList.map a.eval++cu=us at hl hr;cases us with
   |nil=>simp at hl
   |cons u us =>
    obtain⟨a_s,fz,S1,M1,h1,h2,h3,⟨h4,h5⟩,h6⟩:=pV h (us:=us) (by simpa using hl) (λj u v hu hv'=>hr (j+1) u v (by simpa using hu) (by simpa using hv')) hk;refine⟨_,fz,S1,M1,h1,h2,h3,⟨by simp[h4],λi y z ha hc=>?_⟩,h6⟩;cases i with
    |zero =>
     simp at ha hc;subst ha hc;have:=hr 0 _ _ rfl rfl;cases this with
     |d hd=>exact hd.ext h3.ext
    |succ i=>exact h5 i y z (by simpa using ha) (by simpa using hc)
 obtain⟨hb,hd⟩:=hden.old (rP hl1 hr1);have h1:=h.chg hm1 hc1;have hcall:=hd w (bl S1++X0) (xs.toList.map a.eval++cu) (h.ms.st.wok (P:=P)) h1.bnd hl1 hr1;have hex:=qZ (P:=P) (w:=w) (d:=d) (ty:=ty) (pos:=pos) (af:=af) (gd:=gd) (xs:=xs) (ts:=ts) (vs:=(xs.toList.map a.eval++cu).toArray) hb (Jv η) hfe
 have hbase:∀{G:List Nat},(∀g∈G,w.heap.size<=g)->∀g∈G,w0.heap.size<=g/\g ∉ bl S1:=fun {G} hG g hg=>⟨fZ h.ms.st.below.size (hG g hg),λhm=>by
  have:=h1.bnd g (yQ _ hm);have:=hG g hg
  omega⟩
 rcases CB hk1 with⟨hn,hk2,_⟩|⟨T,s,es,i,rfl,rfl,hk2,_⟩|⟨vs',i,V,F,rfl,rfl,hle,hVF,hk2,_⟩
 .have hk2:k r (qI r fz++[]):=hk2;rw[EG]at hk2;refine⟨r,_,hk2,.inr (.inr ⟨f,_,hex,hcall.mono ?_⟩)⟩;rintro en w' ⟨u,rfl,hR,hB⟩;have hR:=hR.r hn;refine⟨u,rfl, ?_⟩;unfold qI;cases hp:lU r with
  |true =>
   have hext:=Ext.call (bl S++X0) hB;exact⟨S,M,h.ms.call hB,hext,(OL hp hR).v,λ_ _=>rfl,λi m hm _=>⟨m,hm,Comp.refl m⟩,λi x hx=>by simp at hx⟩
  |false =>
   have hext:=Ext.call (bl S1++X0) hB;exact((hc1.ext_ hext).al).post (hm1.call hB) hR.v
 .split at hk2
  .rename_i hdj;refine⟨_,_,hk2,.inr (.inr ⟨f,_,hex,hcall.mono ?_⟩)⟩;rintro en w' ⟨u,rfl,hR,hB⟩;refine⟨u,rfl, ?_⟩;obtain⟨us,vs0,G,h2,hG,hnd,hF⟩:=hR;rcases h2 with⟨_,h2⟩|⟨rfl,rfl,_⟩
   .cases h2
   .have fin:∀{og:Option Nat},OwnV w' (G++(bl S1++X0)) T s es u og->(∀g,og=some g->g∈G)->Post w0 X0 S M w (qN ⟨some i,.call ⟨.value x,xs,ts⟩,ty,pos,af,gd⟩) (.gs i es.length) (qI (.own T s es) fz++[(i,.grow T s es)]) u w':=by
     intro og hov hog;obtain⟨S',m,p1,p2,p3,p4,p5⟩:=Lm i hov (λg hg=>hbase hG g (hog g hg)) (hm1.call hB);refine LM (G:=G) hc1 hfo hB hG hdj p1 (λx hx=>?_) (λc hc=>MM.set_other _ _ (by simpa using hc)) (λc y hy=>?_) (λ_=>(p5 _ (MM.set_same _ _ _)).v)
     .rcases p2 x hx with h9|h9
      .exact .inl (hog x h9)
      .exact .inr h9
     .simp only[pI,ou]at hy;obtain⟨rfl,rfl⟩:=hy;exact⟨rfl,by simp[qN,DF,wQ],_,MM.set_same _ _ _,p4 _⟩
    cases hF with
    |d hd=>cases hd
    |own0 hs t=>exact fin (.no hs) (λg hg=>by cases hg)
    |own hs hg hr hc hm hn t=>exact fin (.some hs hg hr hc hm hn) (λg hg=>by cases hg;simp)
  .cases hk2
 .split at hk2
  .rename_i hdj;refine⟨_,_,hk2,.inr (.inr ⟨f,_,hex,hcall.mono ?_⟩)⟩;rintro en w' ⟨u,rfl,hR,hB⟩;refine⟨u,rfl, ?_⟩;obtain⟨us,vs0,G,h2,hG,hnd,hF⟩:=hR;rcases h2 with⟨rfl,h2⟩|⟨_,rfl,h2⟩
   .cases h2;obtain⟨vs2,f2,S',M',⟨rfl,rfl⟩,p1,p2,p3,p4,p5,p6,p7⟩:=abr hF (i:=i) (j:=KK) (k:=λa c=>a=V/\c=F) (hbase hG) hnd (hm1.call hB) (by rw[hVF];exact⟨rfl,rfl⟩)
    have hlen:us.length<=3:=by
     have:∀{us vs G},RepFs w' (G++(bl S1++X0)) us vs G->us.length=vs.length:=by
      intro us vs G' h;generalize G'++(bl S1++X0)=XX at h;induction h<;>simp_all
     rw[this hF];exact hle
    have hfz:qI (.tup vs') fz=fz\/lU (.tup vs')=true:=by
     unfold qI;cases lU (.tup vs')<;>simp
    rcases hfz with hfz|hpl
    .rw[hfz];refine LM (G:=G) hc1 hfo hB hG hdj p1 p2 p4 (λc y hy=>?_) (fun {X} hX => .tup p6 λn a c ha hc=>?_)
     .obtain⟨q1,⟨q,q2,q3⟩,q4⟩:=p5 c y hy;refine⟨q1, ?_,q4⟩;have:q=0\/q=1\/q=2:=ω
      rcases this with rfl|rfl|rfl<;>simp[qN,DF,wQ,q3]<;>omega
     .rcases p7 n a c ha hc with h9|h9
      .exact .inl (h9.ext (Ext.drop hX))
      .exact .inr h9.1
    .have hno:BJ (.tup vs')=true:=oH.2 λy hy=>by
      have:=oH.1 hpl y hy;cases y<;>first|rfl|cases this
     have hd0:=hF.d_of hno;obtain⟨rfl,d1,d2⟩:=hd0
     have hemp:f2=[]:=by
      cases hf2:f2 with
      |nil=>rfl
      |cons p r =>
       exfalso
       have key:∀{vs:List AV} {i j:Nat} {k:List AV->aZ->Prop},(vs.all λv=>!oQ v)=true->nD i j vs k->∃V,k V []:=by
        intro vs;induction vs with
        |nil=>intro i j k _ h;exact⟨[],h⟩
        |cons v r ih =>
         intro i j k h hk;simp only[List.all_cons,gX]at h
         cases v<;>first
          |(simp[oQ]at h;done)|(obtain⟨V,hV⟩:=ih h.2 hk;exact⟨_,hV⟩)
       obtain⟨V2,hV2⟩:=key (k:=λa c=>c=f2) hno (by rw[hVF]);rw[hf2]at hV2;cases hV2
     rw[hemp]at p4 p5 hdj ⊢;have hz:qI (.tup vs') fz=[]:=by unfold qI;rw[hpl]
     rw[hz,EG];have hext:=Ext.call (bl S++X0) hB;have hMM:∀c,M' c=M1 c:=λc=>p4 c η
     refine⟨S,M,h.ms.call hB,hext, ?_,λ_ _=>rfl,λi m hm _=>⟨m,hm,Comp.refl m⟩,λi x hx=>by simp at hx⟩
     have hvv:∀(n:Nat) a c,us[n]?=some a->vs2[n]?=some c->vs'[n]?=some c:=by
      have key:∀{vs:List AV} {i j:Nat} {k:List AV->aZ->Prop},(vs.all λv=>!oQ v)=true->nD i j vs k->∃F,k vs F:=by
       intro vs;induction vs with
       |nil=>intro i j k _ h;exact⟨[],h⟩
       |cons v r ih =>
        intro i j k h hk;simp only[List.all_cons,gX]at h
        cases v<;>first
         |(simp[oQ]at h;done)|(obtain⟨V,hV⟩:=ih h.2 hk;exact⟨_,hV⟩)
      obtain⟨F2,hF2⟩:=key (k:=λa c=>a=vs2) hno (by rw[hVF]);intro n a c _ hc;rw[hF2];exact hc
     refine .tup p6 λn a c ha hc => .inl ?_
     have hd9:=d2 n a c ha (hvv n a c ha hc);have hp9:=oH.1 hpl c (Gt (hvv n a c ha hc));exact Hw hp9 hd9
   .cases h2
  .cases hk2
theorem RepV.ptr_i{w:World}{X:List Nat}{M:MM}{u:Value}{i o:Nat}(h:RepV w X M u (.ptr i o)):∃m g,M i=some m/\m.isVar=true/\m.g=some g/\u=.pointer (some ⟨g,o,none⟩):=by
 cases h with
 |d h=>exact nomatch h
 |ptr hm hv hg=>exact⟨_,_,hm,hv,hg,rfl⟩
theorem D7{i:Nat}{k:AV->aZ->Prop}{r:AV}(h:LH i k r):∃cs v,r=.tup [.agg cs,v]/\lU v=true/\k v [(i,.var cs)]:=by
 unfold LH at h;split at h
 .rename_i cs v;cases hv:lU v with
  |true=>rw[hv]at h;exact⟨cs,v,rfl,hv,h⟩
  |false=>rw[hv]at h;exact False.elim h
 .exact False.elim h
theorem Ae{i:Nat}{k:AV->aZ->Prop}{r:AV}(h:zG i k r):∃G v,r=.tup [.gh G,v]/\KP v=true/\k v [(i,.gh G)]:=by
 unfold zG at h;split at h
 .rename_i G v;cases hv:KP v with
  |true=>rw[hv]at h;exact⟨G,v,rfl,hv,h⟩
  |false=>rw[hv]at h;exact False.elim h
 .exact False.elim h
theorem CU{D:FuncId->List AV->AV->Prop}{f:FuncId}{i:Nat}{vs:List AV}{bx:aZ}{k:AV->aZ->Prop}(h:Dl D f i vs bx k):
 (∃cs,ld i bx=some (.var cs)/\jU vs bx λa_s fz=>(match fz with|[]=>CallP D f (.tup [.agg cs]::a_s) (LH i k)|_::_=>False)) \/
 ∃G,ld i bx=some (.gh G)/\jU vs bx λa_s fz=>(match fz with|[]=>CallP D f (.gh G::a_s) (zG i k)|_::_=>False):=by
 unfold Dl at h;split at h
 .rename_i G hc;exact .inr ⟨G,hc,h⟩
 .rename_i cs hc;exact .inl ⟨cs,hc,h⟩
 .exact False.elim h
theorem rV{vs r:List AV}{i:Nat}(h:qA vs=some (i,r)):vs=.ptr i 0::r:=by
 unfold qA at h;split at h
 .cases h;rfl
 .cases h
theorem RepR.drop{w:World}{X X':List Nat}{u:Value}{r:AV}(h:RepR w X u r)(hs:∀x∈X',x∈X):RepR w X' u r:=by
 cases h with
 |d h=>exact .d (h.ext (Ext.drop hs))
 |tup hl h=>exact .tup hl λi u v a b=>(h i u v a b).ext (Ext.drop hs)
theorem Zn{f:FuncId}{x:Operand}{cap:List AV}(hx:Gg e x=some (f,cap)){xs:Array Operand}{ts:Array TypeId}{vs:List AV}{i:Nat}{G:Gho}(h:Sta N w0 X0 S M a w e b)(hv:je (λx=>ae e x) xs.toList=some (.ptr i 0::vs))(hbx:ld i b=some (.gh G))
 (hk:jU (vs++cap) b λa_s fz=>(match fz with|[]=>CallP (Den P) f (.gh G::a_s) (zG i k)|_::_=>False)):Good P w0 X0 S M a w ⟨d,.call ⟨.value x,xs,ts⟩,ty,pos,af,gd⟩ k:=by
 obtain⟨cu,hfe,hl0,hl,hr⟩:=vg hx h hv
 obtain⟨u0,us,hus⟩:∃u0 us,xs.toList.map a.eval++cu=u0::us:=by
  cases hq:xs.toList.map a.eval with
  |nil=>rw[hq]at hl0;simp at hl0
  |cons u0 us=>exact⟨u0,us++cu,rfl⟩
 rw[hus]at hl hr;obtain⟨m,g,hm,hmv,hg,rfl⟩:=(hr 0 _ _ rfl rfl).ptr_i;obtain⟨a_s,fz,S1,M1,hk1,hm1,hc1,⟨hl1,hr1⟩,_⟩:=pV h (us:=us) (by simpa using hl) (λj u v hu hv'=>hr (j+1) u v (by simpa using hu) (by simpa using hv')) hk
 match fz,hk1,hc1 with
 |_::_,hk1,_=>exact False.elim hk1
 |[],⟨r,hden,hkr⟩,hc1 =>
 obtain⟨G',r',rfl,hpl,hk2⟩:=Ae hkr;obtain⟨hb,hd⟩:agi P f G a_s G' r':=hden;have h1:=h.chg hm1 hc1;have hM1:M1 i=some m:=(hc1.same i η).trans hm;obtain⟨m',hm',q1,q2,_,x',q4,q5⟩:=h1.box i _ hbx;rw[hM1]at hm';cases hm';obtain⟨mo1,mo2,mo3⟩:=x'.2;have hrow:=h1.row hM1 q2 hg;obtain⟨g1,g2,g3,g4⟩:=hm1.gh.inS i m x' hM1 q4;have hgin:g∈bl S1:=iV.2 ⟨_,hm1.inS i m hM1 q2 g hg,rfl⟩;have hmore:∀q∈x'.1,q.1∈bl S1/\q.1≠g/\w.heap[q.1]?=some (.cells q.2.2 q.2.1 (0,0)):=λq hq=>⟨iV.2 ⟨q,g1 q hq,rfl⟩,hm1.gh.own i m x' i m g hM1 q4 hM1 q2 hg q hq,(hm1.st.box q (g1 q hq)).1⟩
 have hcall:=hd w (bl S1++X0) g m.T m.us us x'.1 x'.2 (h.ms.st.wok (P:=P)) h1.bnd (yQ _ hgin) (λq hq=>⟨yQ _ (hmore q hq).1,(hmore q hq).2⟩) g4 hrow g2 q5 hl1 hr1;refine⟨r',_,hk2,.inr (.inr ⟨f,(.pointer (some ⟨g,0,none⟩)::us).toArray,qZ hb (Jv (by simpa using hus)) hfe,hcall.mono ?_⟩)⟩;rintro en w' ⟨u,rfl,more',mo',e0,hmap,hmore',hnd,⟨o1,o2,o3,o4,hblk⟩,hR,hrep⟩;refine⟨u,rfl, ?_⟩;have hsz:∀q∈S1,q.1<w.heap.size:=λq hq=>hm1.st.lt hq
 have hno:∀q∈S1,q.1≠x'.2.1:=λq hq e=>by
  have:=(hm1.st.box q hq).1;rw[e,g2]at this;cases this
 have hin:∀q∈more',q.1∈bl S1->q.1∈bl x'.1:=λq hq hs=>by
  rcases(hmore' q hq).1 with h5|h5
  .exact h5
  .obtain⟨p,hp,hpe⟩:=iV.1 hs;have:=hsz p hp;omega
 have hmS:∀n∈bl x'.1,n∈bl S1:=λn hn=>by
  obtain⟨q,hq,rfl⟩:=iV.1 hn;exact(hmore q hq).1
 have hkeep:∀q∈S1,q.1 ∉ bl x'.1->w'.heap[q.1]?=some (.cells q.2.2 q.2.1 (0,0)):=λq hq hn=>(hblk q.1 (hsz q hq) (hno q hq) hn).trans (hm1.st.box q hq).1
 let S':List Bx:=more'++S1.filter λq=>!(decide (q.1∈bl x'.1))
 have hF:∀q,q∈S'↔q∈more'\/(q∈S1/\q.1 ∉ bl x'.1):=λq=>by simp[S']
 have hbS':∀n∈bl S',n∈bl more'\/n∈bl S1:=λn hn=>by
  obtain⟨q,hq,rfl⟩:=iV.1 hn;rcases(hF q).1 hq with hq|hq
  .exact .inl (iV.2 ⟨q,hq,rfl⟩)
  .exact .inr (iV.2 ⟨q,hq.1,rfl⟩)
 have hst:StG w0 w' S':=by
  refine⟨⟨o1.trans hm1.st.below.os,o2.trans hm1.st.below.tape,o3.trans hm1.st.below.output,fZ hm1.st.below.size o4,λn hn hng=>?_⟩,λq hq=>?_, ?_⟩
  .refine(hblk n (Ea hn hm1.st.below.size) ω (λhx=>?_)).trans (hm1.st.below.block n hn hng);obtain⟨q,hq,rfl⟩:=iV.1 hx;rcases(hm1.st.box q (g1 q hq)).2 with h8|h8
   .omega
   .exact hng h8
  .rcases(hF q).1 hq with hq|⟨hq,hn⟩
   .refine⟨(hmore' q hq).2, ?_⟩;rcases(hmore' q hq).1 with h5|h5
    .obtain⟨p,hp,hpe⟩:=iV.1 h5;have:=(hm1.st.box p (g1 p hp)).2;rw[<-hpe];exact this
    .exact .inl (fZ hm1.st.below.size h5)
   .exact⟨hkeep q hq hn,(hm1.st.box q hq).2⟩
  .refine List.pairwise_append.2 ⟨hnd,hm1.st.nd.filter _,λq hq p hp e=>?_⟩;obtain⟨p1,p2⟩:=yS.1 hp;have p2':p.1 ∉ bl x'.1:=by simpa using p2
   exact p2' (e▸hin q hq (e▸iV.2 ⟨p,p1,rfl⟩))
 have hnew:∀q∈more',∀n∈bl S1,q.1=n->n∈bl x'.1:=λq hq n hn e=>e▸hin q hq (e▸hn)
 have hother:∀c mc x2,c≠i->M1 c=some mc->mc.gx=some x2->∀q∈x2.1,q.1 ∉ bl x'.1:=λc mc x2 hci hc hx2 q hq hn=>by
  obtain⟨p,hp,hpe⟩:=iV.1 hn;exact hci (hm1.gh.uni c mc x2 i m x' hc hx2 hM1 q4 (.inr ⟨q,hq,p,hp,hpe.symm⟩))
 have hown:∀c mc gc,M1 c=some mc->mc.own=true->mc.g=some gc->gc∈bl S1/\gc ∉ bl x'.1:=λc mc gc hc ho hgc=>⟨iV.2 ⟨_,hm1.inS c mc hc ho gc hgc,rfl⟩,λhn=>by
  obtain⟨p,hp,hpe⟩:=iV.1 hn
  exact hm1.gh.own i m x' c mc gc hM1 q4 hc ho hgc p hp hpe⟩
 have hset:∀c mc,M1.set i { m with gx:=some (more',mo') } c=some mc->(c=i/\mc = { m with gx:=some (more',mo') })\/(c≠i/\M1 c=some mc):=λc mc hc=>by
  by_cases hci:c=i
  .subst hci;rw[MM.set_same]at hc;cases hc;exact .inl ⟨rfl,rfl⟩
  .rw[MM.set_other _ _ hci]at hc;exact .inr ⟨hci,hc⟩
 have hownS:∀c mc,M1.set i { m with gx:=some (more',mo') } c=some mc->∃m2,M1 c=some m2/\mc.own=m2.own/\mc.g=m2.g/\mc.T=m2.T/\mc.us=m2.us:=λc mc hc=>by
  rcases hset c mc hc with⟨rfl,rfl⟩|⟨_,h5⟩
  .exact⟨m,hM1,rfl,rfl,rfl,rfl⟩
  .exact⟨mc,h5,rfl,rfl,rfl,rfl⟩
 have hgh:Ghs w0 w' S' (M1.set i { m with gx:=some (more',mo') }):=by
  refine⟨λc mc x2 hc hx2=>?_,λc mc x2 c' mc' gc hc hx2 hc' ho hgc q hq=>?_,λc mc x2 c' mc' x3 hc hx2 hc' hx3 he=>?_⟩
  .rcases hset c mc hc with⟨rfl,rfl⟩|⟨hci,h5⟩
   .simp only[qH]at hx2;subst hx2;exact⟨λq hq=>(hF q).2 (.inl hq),by rw[e0];exact hmap,by rw[e0];exact g3,hnd⟩
   .obtain⟨k1,k2,k3,k4⟩:=hm1.gh.inS c mc x2 h5 hx2;refine⟨λq hq=>(hF q).2 (.inr ⟨k1 q hq,hother c mc x2 hci h5 hx2 q hq⟩), ?_,k3,k4⟩;refine(hblk _ (lt_of_heap k2) (λe=>hci (hm1.gh.uni c mc x2 i m x' h5 hx2 hM1 q4 (.inl e))) (λhn=>?_)).trans k2;obtain⟨p,hp,hpe⟩:=iV.1 hn;have:=(hmore p hp).2.2;rw[hpe,k2]at this;cases this
  .obtain⟨m2,h5,e1,e2,e3,e4⟩:=hownS c' mc' hc';obtain⟨k1,k2⟩:=hown c' m2 gc h5 (e1▸ho) (e2▸hgc);rcases hset c mc hc with⟨rfl,rfl⟩|⟨hci,h6⟩
   .simp only[qH]at hx2;subst hx2;exactλe=>k2 (hnew q hq gc k1 e)
   .exact hm1.gh.own c mc x2 c' m2 gc h6 hx2 h5 (e1▸ho) (e2▸hgc) q hq
  .have cross:∀c mc x2,c≠i->M1 c=some mc->mc.gx=some x2->(x2.2.1=mo'.1\/∃q∈x2.1,∃q'∈more',q.1=q'.1)->False:=by
    intro c mc x2 hci h5 hx2 he;rcases he with he|⟨q,hq,q',hq',he⟩
    .exact hci (hm1.gh.uni c mc x2 i m x' h5 hx2 hM1 q4 (.inl (he.trans e0)))
    .exact hother c mc x2 hci h5 hx2 q hq (hnew q' hq' q.1 (iV.2 ⟨q,(hm1.gh.inS c mc x2 h5 hx2).1 q hq,rfl⟩) he.symm)
   rcases hset c mc hc with⟨rfl,rfl⟩|⟨hci,h5⟩
   .rcases hset c' mc' hc' with⟨rfl,rfl⟩|⟨hci',h6⟩
    .rfl
    .simp only[qH]at hx2;subst hx2;exact(cross c' mc' x3 hci' h6 hx3 (by rcases he with he|⟨q,hq,q',hq',he⟩;exact .inl he.symm;exact .inr ⟨q',hq',q,hq,he.symm⟩)).elim
   .rcases hset c' mc' hc' with⟨rfl,rfl⟩|⟨hci',h6⟩
    .simp only[qH]at hx3;subst hx3;exact(cross c mc x2 hci h5 hx2 he).elim
    .exact hm1.gh.uni c mc x2 c' mc' x3 h5 hx2 h6 hx3 he
 have hms:MS w0 w' S' (M1.set i { m with gx:=some (more',mo') }):=by
  refine⟨hst,hgh,λc mc hc ho gc hgc=>?_,λc c' mc mc' gc hc hc' ho ho' hgc hgc'=>?_⟩
  .obtain⟨m2,h5,e1,e2,e3,e4⟩:=hownS c mc hc;rw[e3,e4];exact(hF _).2 (.inr ⟨hm1.inS c m2 h5 (e1▸ho) gc (e2▸hgc),(hown c m2 gc h5 (e1▸ho) (e2▸hgc)).2⟩)
  .obtain⟨m2,h5,e1,e2,_,_⟩:=hownS c mc hc;obtain⟨m3,h6,f1,f2,_,_⟩:=hownS c' mc' hc';exact hm1.inj c c' m2 m3 gc h5 h6 (e1▸ho) (f1▸ho') (e2▸hgc) (f2▸hgc')
 have hext:Ext w (bl S1++X0) w' (bl S'++X0):=by
  refine⟨o4,λn hn hx hnm=>?_⟩;simp only[uh,not_or]at hx;refine⟨hblk n hn (λe=>hnm _ _ (e▸g2)) (λh5=>hx.1 (hmS n h5)), ?_⟩;simp only[uh,not_or];refine⟨λh5=>?_,hx.2⟩;rcases hbS' n h5 with h6|h6
  .obtain⟨q,hq,rfl⟩:=iV.1 h6;rcases(hmore' q hq).1 with h7|h7
   .exact hx.1 (hmS _ h7)
   .omega
  .exact hx.1 h6
 have hsub:∀n∈bl S'++X0,n∈bl more'++(bl S1++X0):=λn hn=>by
  rcases uh.1 hn with hn|hn
  .rcases hbS' n hn with h6|h6
   .exact yQ _ h6
   .exact qP _ (yQ _ h6)
  .exact qP _ (qP _ hn)
 have hc2:Chg w (bl S1++X0) M1 w' (bl S'++X0) (M1.set i { m with gx:=some (more',mo') }) (qN ⟨d,.call ⟨.value x,xs,ts⟩,ty,pos,af,gd⟩) [(i,.gh G')]:=by
  refine⟨hext,λc hc=>MM.set_other _ _ (by simpa using hc),λc mc hc _=>?_,λc z hz=>?_⟩
  .by_cases hci:c=i
   .subst hci;rw[hM1]at hc;cases hc;exact⟨_,MM.set_same _ _ _,rfl,λ_=>rfl,λh0=>by rw[q1]at h0;cases h0⟩
   .exact⟨mc,by rw[MM.set_other _ _ hci,hc],Comp.refl _⟩
  .simp only[pI,ou]at hz;obtain⟨rfl,rfl⟩:=hz;exact⟨_,MM.set_same _ _ _,q1,q2,⟨g,hg⟩,_,rfl,G'.ext hrep (Ext.drop hsub)⟩
 exact(hc1.trans hc2 (λc _=>by simp) (λc x hx=>by simp at hx)).post hms (hR.drop hsub).v
theorem Vl{f:FuncId}{x:Operand}{cap:List AV}(hx:Gg e x=some (f,cap)){xs:Array Operand}{ts:Array TypeId}{vs:List AV}{i:Nat}(h:Sta N w0 X0 S M a w e b)(hv:je (λx=>ae e x) xs.toList=some (.ptr i 0::vs))
 (hk:Dl (Den P) f i (vs++cap) b k):Good P w0 X0 S M a w ⟨d,.call ⟨.value x,xs,ts⟩,ty,pos,af,gd⟩ k:=by
 rcases CU hk with⟨cs,hbx,hk⟩|⟨G,hbx,hk⟩
 case inr=>exact Zn hx h hv hbx hk
 obtain⟨cu,hfe,hl0,hl,hr⟩:=vg hx h hv
 obtain⟨u0,us,hus⟩:∃u0 us,xs.toList.map a.eval++cu=u0::us:=by
  cases hq:xs.toList.map a.eval with
  |nil=>rw[hq]at hl0;simp at hl0
  |cons u0 us=>exact⟨u0,us++cu,rfl⟩
 rw[hus]at hl hr;obtain⟨m,g,hm,hmv,hg,rfl⟩:=(hr 0 _ _ rfl rfl).ptr_i;obtain⟨a_s,fz,S1,M1,hk1,hm1,hc1,⟨hl1,hr1⟩,_⟩:=pV h (us:=us) (by simpa using hl) (λj u v hu hv'=>hr (j+1) u v (by simpa using hu) (by simpa using hv')) hk
 match fz,hk1,hc1 with
 |_::_,hk1,_=>exact False.elim hk1
 |[],⟨r,hden,hkr⟩,hc1 =>
 obtain⟨cs',r',rfl,hpl,hk2⟩:=D7 hkr;obtain⟨hb,hd⟩:af6 P f cs a_s cs' r':=hden;have h1:=h.chg hm1 hc1;have hM1:M1 i=some m:=(hc1.same i η).trans hm;obtain⟨m',hm',q1,q2,_,q4⟩:=h1.box i _ hbx;rw[hM1]at hm';cases hm';have hrow:=h1.row hM1 q2 hg;have hcall:=hd w (bl S1++X0) g m.T m.us us h1.bnd hrow q4 hl1 hr1;refine⟨r',_,hk2,.inr (.inr ⟨f,(.pointer (some ⟨g,0,none⟩)::us).toArray,qZ hb (Jv (by simpa using hus)) hfe,hcall.mono ?_⟩)⟩;rintro en w' ⟨u,rfl,hR,hgr,us',hn,hL⟩;refine⟨u,rfl, ?_⟩;obtain⟨S',hms,hbl⟩:=hm1.write hM1 q2 hg hgr hn;have hgin:g∈bl S1++X0:=yQ _ (iV.2 ⟨_,hm1.inS i m hM1 q2 g hg,rfl⟩);have hext:Ext w (bl S1++X0) w' (bl S'++X0):=by rw[hbl];exact Ext.write hgr hgin
 have hc2:Chg w (bl S1++X0) M1 w' (bl S'++X0) (M1.set i { m with us:=us' }) (qN ⟨d,.call ⟨.value x,xs,ts⟩,ty,pos,af,gd⟩) [(i,.var cs')]:=by
  refine⟨hext,λc hc=>MM.set_other _ _ (by simpa using hc),λc mc hc _=>?_,λc z hz=>?_⟩
  .by_cases hci:c=i
   .subst hci;rw[hM1]at hc;cases hc;exact⟨_,MM.set_same _ _ _,rfl,λ_=>rfl,λh0=>by rw[q1]at h0;cases h0⟩
   .exact⟨mc,by rw[MM.set_other _ _ hci,hc],Comp.refl _⟩
  .simp only[pI,ou]at hz;obtain⟨rfl,rfl⟩:=hz;exact⟨_,MM.set_same _ _ _,q1,q2,⟨g,hg⟩,by rw[hbl];exact hL⟩
 have hR':RepR w' (bl S'++X0) u r':=by rw[hbl];exact hR
 exact(hc1.trans hc2 (λc _=>by simp) (λc x hx=>by simp at hx)).post hms hR'.v
theorem abW{f:FuncId}{x:Operand}{cap:List AV}(hx:Gg e x=some (f,cap)){xs:Array Operand}{ts:Array TypeId}{vs:List AV}(h:Sta N w0 X0 S M a w e b)(hv:je (λx=>ae e x) xs.toList=some vs)
 (hk:jU (vs++cap) b λa_s fz=>CallP (Den P) f a_s λr=>mV d r λv g=>(match nU fz g with|true=>k v (qI r fz++g)|false=>False)):Good P w0 X0 S M a w ⟨d,.call ⟨.value x,xs,ts⟩,ty,pos,af,gd⟩ k:=KH (pre:=[]) hx (.inl rfl) h hv hk
theorem Y6{f:FuncId}{x:Operand}{cap:List AV}(hx:Gg e x=some (f,cap)){xs:Array Operand}{ts:Array TypeId}{vs:List AV}(h:Sta N w0 X0 S M a w e b)(hv:je (λx=>ae e x) xs.toList=some (.c (.v (.slice none 0 0))::vs))
 (hk:jU (vs++cap) b λa_s fz=>CallP (Den P) f (.c (.v (.slice none 0 0))::a_s) λr=>mV d r λv g=>(match nU fz g with|true=>k v (qI r fz++g)|false=>False)):Good P w0 X0 S M a w ⟨d,.call ⟨.value x,xs,ts⟩,ty,pos,af,gd⟩ k:=KH (pre:=[_]) hx (.inr rfl) h hv hk
theorem Lj{τ:Tab}{f:FuncId}{vs r:List AV}{i n:Nat}(h:wrH τ f vs=.s i n r):vs=.gs i n::r:=by
 unfold wrH at h;split at h
 .unfold wrL at h;split at h
  .cases h;rfl
  .cases h
  .cases h
 .cases h
theorem P6{τ:Tab}{f:FuncId}{vs r:List AV}(h:wrH τ f vs=.nil r):vs=.c (.v (.slice none 0 0))::r:=by
 unfold wrH at h;split at h
 .unfold wrL at h;split at h
  .cases h
  .cases h;rfl
  .cases h
 .cases h
theorem BR{D:FuncId->List AV->AV->Prop}{f:FuncId}{i n:Nat}{vs:List AV}{bx:aZ}{k:AV->aZ->Prop}(h:wJ D f i n vs bx k):
 ∃T s es,ld i bx=some (.grow T s es)/\jU vs bx λa_s fz=>(match fz with|[]=>Obl (n=es.length) (LenD es.length (CallP D f (.own T s es::a_s) (uG i T s k)) (CallP D f (.c (.sl s es)::a_s) (zI k)))|_::_=>False):=by
 unfold wJ at h;split at h
 .rename_i T s es hc;exact⟨T,s,es,hc,h⟩
 .exact False.elim h
theorem zX{i:Nat}{T:TypeId}{s:Nat}{k:AV->aZ->Prop}{r:AV}(h:uG i T s k r):(∃es v,r=.tup [.own T s es,v]/\wL v=true/\k v [(i,.grow T s es)])\/∃v,r=.tup [.rd [],v]/\wL v=true/\k v [(i,.dead)]:=by
 unfold uG at h;split at h
 .rename_i T' s' es v;split at h
  .rename_i h1 h2 h3;have:=jX h1;subst this;have:=jX h2;subst this;exact .inl ⟨es,v,rfl,h3,h⟩
  .exact False.elim h
 .rename_i v;split at h
  .rename_i h1;exact .inr ⟨v,rfl,h1,h⟩
  .exact False.elim h
 .exact False.elim h
theorem MS.grown(h:MS w0 w S M){w':World}{g:Nat}(hgr:w.grownBy w' (some g))(hg:w0.heap.size<=g\/g∈Gr.l)(hn:g ∉ bl S)(hm:NoMap w g):MS w0 w' S M :=
 ⟨⟨h.st.below.grown hgr (λk e=>by cases e;exact hg),λq hq=>⟨(hgr.block _ (h.st.lt hq) (λe=>hn (by cases e;exact iV.2 ⟨q,hq,rfl⟩))).trans (h.st.box q hq).1,(h.st.box q hq).2⟩,h.st.nd⟩,h.gh.kept (zf hgr λg' e=>by cases e;exact hm),h.inS,h.inj⟩
theorem Aj{k:AV->aZ->Prop}{r:AV}(h:zI k r):wL r=true/\k r []:=by
 unfold zI at h;split at h
 .rename_i h1;exact⟨h1,h⟩
 .exact False.elim h
theorem Zm{r:AV}(h:wL r=true):BJ r=true:=by
 cases r with
 |tup vs =>
  refine oH.2 λy hy=>?_
  have:=oH.1 h y hy;cases y<;>first|rfl|cases this
 |_=>first|rfl|cases h
theorem afr{f:FuncId}{x:Operand}{cap:List AV}(hx:Gg e x=some (f,cap)){xs:Array Operand}{ts:Array TypeId}{vs:List AV}{i n:Nat}(h:Sta N w0 X0 S M a w e b)(hv:je (λx=>ae e x) xs.toList=some (.gs i n::vs))
 (hk:wJ (Den P) f i n (vs++cap) b k):Good P w0 X0 S M a w ⟨d,.call ⟨.value x,xs,ts⟩,ty,pos,af,gd⟩ k:=by
 obtain⟨T,s,es,hbx,hk⟩:=BR hk;obtain⟨cu,hfe,hl0,hl,hr⟩:=vg hx h hv
 obtain⟨u0,us,hus⟩:∃u0 us,xs.toList.map a.eval++cu=u0::us:=by
  cases hq:xs.toList.map a.eval with
  |nil=>rw[hq]at hl0;simp at hl0
  |cons u0 us=>exact⟨u0,us++cu,rfl⟩
 rw[hus]at hl hr;obtain⟨m,hm,hmv,hhd⟩:=(hr 0 _ _ rfl rfl).gs_;obtain⟨a_s,fz,S1,M1,hk1,hm1,hc1,⟨hl1,hr1⟩,_⟩:=pV h (us:=us) (by simpa using hl) (λj u v hu hv'=>hr (j+1) u v (by simpa using hu) (by simpa using hv')) hk
 match fz,hk1,hc1 with
 |_::_,hk1,_=>exact False.elim hk1
 |[],⟨hnl,hLD⟩,hc1 =>
 have h1:=h.chg hm1 hc1;have hM1:M1 i=some m:=(hc1.same i η).trans hm;obtain⟨m',hm',q1,q2,q3,q4,q5,q6⟩:=h1.box i _ hbx;rw[hM1]at hm';cases hm';have hu0:=hhd ω;rcases yD es.length with hz|hpos
 .obtain⟨r,hden,hkr⟩:=hLD.f hz;obtain⟨hdr',hk2⟩:=Aj hkr;obtain⟨hb,hd⟩:=hden.old rfl;have he:es=[]:=UR hz;subst he
  have hd0:RepD w (bl S1++X0) u0 (.c (.sl s [])):=by
   rw[hu0];unfold hdr;rw[q5];rcases q6 with⟨g1,_,g3⟩|⟨g,uss,rest,g1,g2,g3,g4,g5,g6⟩
   .rw[g1,g3];exact .c (RepC.nil _ _ _)
   .exact .c (.sl _ 0 m.cap s [] [] rfl rfl (Cl.nil _ _ _) (Au _) (fZ g5 ψ) (λi us e h=>by simp at h) (λi us e h=>by simp at h))
  have hcall:=hd w (bl S1++X0) (u0::us) (h.ms.st.wok (P:=P)) h1.bnd (by simp[hl1]) (λj u v hu hv'=>by
   cases j with
   |zero=>simp at hu hv';subst hu hv';exact hd0
   |succ j=>exact hr1 j u v (by simpa using hu) (by simpa using hv'))
  refine⟨r,_,hk2,.inr (.inr ⟨f,(u0::us).toArray,qZ hb (Jv (by simpa using hus)) hfe,hcall.mono ?_⟩)⟩;rintro en w' ⟨u,rfl,hR,hB⟩;have hR:=hR.r (Zm hdr');refine⟨u,rfl, ?_⟩;have hext:=Ext.call (bl S1++X0) hB;exact((hc1.ext_ hext).al).post (hm1.call hB) hR.v
 obtain⟨r,hden,hkr⟩:=hLD.t hpos;rcases q6 with⟨g1,rfl,g3⟩|⟨g,uss,rest,g1,g2,g3,g4,g5,g6⟩
 .simp at hpos
 have hrow:=h1.row hM1 q2 g1;have hgin0:g∈bl S1++X0:=yQ _ (iV.2 ⟨_,hm1.inS i m hM1 q2 g g1,rfl⟩);rcases zX hkr with⟨es',r',rfl,hpl,hk2⟩|⟨r',rfl,hpl,hk2⟩
 case inr =>
  obtain⟨hb,hd⟩:EW P f T s es a_s r':=hden;have hcall:=hd w (bl S1++X0) g m.cap uss rest us (h.ms.st.wok (P:=P)) h1.bnd hgin0 (by rw[<-q3,<-g2];exact hrow) g3 (by rw[g4,g2]) g5 ω q4.2 hl1 hr1;have hu1:u0=.slice (some ⟨g,0,none⟩) es.length m.cap:=by rw[hu0];unfold hdr;rw[g1,q5];rfl
  subst hu1;refine⟨r',_,hk2,.inr (.inr ⟨f,(.slice (some ⟨g,0,none⟩) es.length m.cap::us).toArray,qZ hb (Jv (by simpa using hus)) hfe,hcall.mono ?_⟩)⟩;rintro en w' ⟨u,rfl,hR,hgr⟩;refine⟨u,rfl, ?_⟩;have hbx1:=hm1.st.box _ (hm1.inS i m hM1 q2 g g1);have hms:=(hm1.drop (m':={ m with own:=false }) hM1 q2 g1 rfl rfl).grown hgr hbx1.2 (λhx=>(fU hx).2 rfl) (.row hbx1.1)
  have hsub:∀x∈bl (S1.filter λq=>!(Nat.beq q.1 g))++X0,x∈(bl S1++X0).filter λx=>!(Nat.beq x g):=λx hx=>by
   refine yS.2 ?_;rcases uh.1 hx with hx|hx
   .exact⟨yQ _ (fU hx).1,by simp[gI (fU hx).2]⟩
   .refine⟨qP _ hx, ?_⟩;have h7:=h.x0 x hx
    have hne:x≠g:=λe=>by
     subst e;rcases hbx1.2 with h8|h8
     .simp only at h8;omega
     .exact h7.2 h8
    simp[gI hne]
  have hext:Ext w (bl S1++X0) w' (bl (S1.filter λq=>!(Nat.beq q.1 g))++X0):=(Ext.write hgr hgin0).trans (Ext.drop λx hx=>(yS.1 (hsub x hx)).1)
  have hc2:Chg w (bl S1++X0) M1 w' (bl (S1.filter λq=>!(Nat.beq q.1 g))++X0) (M1.set i { m with own:=false }) (qN ⟨d,.call ⟨.value x,xs,ts⟩,ty,pos,af,gd⟩) [(i,.dead)]:=by
   refine⟨hext,λc hc=>MM.set_other _ _ (by simpa using hc),λc mc hc _=>?_,λc z hz=>?_⟩
   .by_cases hci:c=i
    .subst hci;rw[hM1]at hc;cases hc;exact⟨_,MM.set_same _ _ _,rfl,λ_=>rfl,λh0 => .inl ⟨rfl,rfl,rfl,rfl⟩⟩
    .exact⟨mc,by rw[MM.set_other _ _ hci,hc],Comp.refl _⟩
   .simp only[pI,ou]at hz;obtain⟨rfl,rfl⟩:=hz;exact⟨_,MM.set_same _ _ _,trivial⟩
  exact(hc1.trans hc2 (λc _=>by simp) (λc x hx=>by simp at hx)).post hms (hR.drop hsub).v
 obtain⟨hb,hd⟩:ae2 P f T s es a_s es' r':=hden;have hcall:=hd w (bl S1++X0) g m.cap uss rest us (h.ms.st.wok (P:=P)) h1.bnd hgin0 (by rw[<-q3,<-g2];exact hrow) g3 (by rw[g4,g2]) g5 ω q4.2 hl1 hr1;have hu1:u0=.slice (some ⟨g,0,none⟩) es.length m.cap:=by rw[hu0];unfold hdr;rw[g1,q5];rfl
 subst hu1;refine⟨r',_,hk2,.inr (.inr ⟨f,(.slice (some ⟨g,0,none⟩) es.length m.cap::us).toArray,qZ hb (Jv (by simpa using hus)) hfe,hcall.mono ?_⟩)⟩;rintro en w' ⟨u,rfl,hR,hgr,hlen,uss',rest',hn,hS,hrl⟩;refine⟨u,rfl, ?_⟩;obtain⟨S',hms,hbl⟩:=hm1.write hM1 q2 g1 (us:=uss'.flatten++rest') hgr (by rw[q3];exact hn);have hgin:g∈bl S1++X0:=yQ _ (iV.2 ⟨_,hm1.inS i m hM1 q2 g g1,rfl⟩);have hext:Ext w (bl S1++X0) w' (bl S'++X0):=by rw[hbl];exact Ext.write hgr hgin
 have hfl:uss'.flatten.length=uss.flatten.length:=by rw[fC hS.sz,fC g3.sz,hS.len,g3.len,hlen]
 have hc2:Chg w (bl S1++X0) M1 w' (bl S'++X0) (M1.set i { m with us:=uss'.flatten++rest' }) (qN ⟨d,.call ⟨.value x,xs,ts⟩,ty,pos,af,gd⟩) [(i,.grow T s es')]:=by
  refine⟨hext,λc hc=>MM.set_other _ _ (by simpa using hc),λc mc hc _=>?_,λc z hz=>?_⟩
  .by_cases hci:c=i
   .subst hci;rw[hM1]at hc;cases hc;exact⟨_,MM.set_same _ _ _,rfl,λ_=>rfl,λh0 => .inl ⟨rfl,rfl,rfl,rfl⟩⟩
   .exact⟨mc,by rw[MM.set_other _ _ hci,hc],Comp.refl _⟩
  .simp only[pI,ou]at hz;obtain⟨rfl,rfl⟩:=hz;refine⟨_,MM.set_same _ _ _,q1,q2,q3,q4,by simpa[hlen]using q5,.inr ⟨g,uss',rest',g1,rfl,by rw[hbl];exact hS, ?_,g5,by simpa[hlen]using g6⟩⟩;simp only[g4,g2,rQ,hfl,hrl]
 have hR':RepR w' (bl S'++X0) u r':=by rw[hbl];exact hR
 exact(hc1.trans hc2 (λc _=>by simp) (λc x hx=>by simp at hx)).post hms hR'.v
theorem rX(h:Sta N w0 X0 S M a w e b){xs:Array Operand}{vs:List AV}(hv:je (λx=>ae e x) xs.toList=some vs):∃us:List Value,xs.map a.eval=us.toArray/\us.length=vs.length/\∀(i:Nat) u v,us[i]?=some u->vs[i]?=some v->RepV w (bl S++X0) M u v:=by
 obtain⟨h1,h2⟩:=IG h hv;exact⟨_,Jv η,h1,h2⟩
theorem rJ{x:AV}{n:Nat}{xs:Array Operand}{t:TypeId}{e':TypeId}{s by_:Nat}{z:List Cell}(ht:iQ P t (.slice e' s by_ z)=true)(h:Sta N w0 X0 S M a w e b)(hv:je (λx=>ae e x) xs.toList=some [x])
 (hx:∀u,RepV w (bl S++X0) M u x->∃A c,u=.slice A n c) (hk:k (.int .i64 (n:Nat)) []):Good P w0 X0 S M a w ⟨d,.call ⟨.builtin .len,xs,#[t]⟩,ty,pos,af,gd⟩ k:=by
 obtain⟨us,hu,hl,hr⟩:=rX h hv
 obtain⟨u,rfl⟩:∃u,us=[u]:=by
  match us,hl with
  |[u],_=>exact⟨u,rfl⟩
 obtain⟨A,c,rfl⟩:=hx u (hr 0 u x rfl rfl);obtain⟨_,hsl,_⟩:=sliceT ht;refine .val h.ms hk (u:=.int .i64 n) ?_ (.d (.c (.v _ rfl)))
 have hsl':P.underlying t=some (.slice e'):=by
  unfold sliceOf at hsl;split at hsl
  .rename_i q hq;cases hi:P.info? q with
   |none=>simp[hi]at hsl
   |some j=>simp[hi]at hsl;rw[hq,hsl.1]
  .cases hsl
 simp[execOp,resolve,invoke,builtin,hu,Builtin.len_,run_underlying hsl',goInt]
theorem Uu{v:AV}{n:Int}(h:Es v=some n):∃ki,v=.c (.v (.int ki n)):=by
 unfold Es at h;split at h
 .cases h;exact⟨_,rfl⟩
 .cases h
theorem aaY{us:List Value}{vs:List AV}{ns:List Int}(hl:us.length=vs.length)(hr:∀(i:Nat) u v,us[i]?=some u->vs[i]?=some v->RepV w (bl S++X0) M u v)(hn:je Es vs=some ns):
 us.length=ns.length/\∀(i:Nat) u n,us[i]?=some u->ns[i]?=some n->∃ki,u=.int ki n:=by
 obtain⟨h1,h2⟩:=GZ hn;refine⟨ω,λi u n hu hni=>?_⟩;have hi:i<vs.length:=by rw[<-hl];exact(qG.1 hu).1
 obtain⟨m,q1,q2⟩:=h2 i _ (pW hi);rw[hni]at q1;cases q1;obtain⟨ki,hv⟩:=Uu q2;have:=hr i u _ hu (pW hi);rw[hv]at this;exact⟨ki,this.v_⟩
theorem KT(ki:IntKind):∀(us:List Value) (ns:List Int) (a:Int),us.length=ns.length->(∀(i:Nat) u n,us[i]?=some u->ns[i]?=some n->∃ki,u=.int ki n)->(us.foldlM Builtin.min2 (.int ki a)).run P w=.ok (.int ki (ns.foldl (λx y=>if y<x then y else x) a)) w
 |[],[],a,_,_=>by simp
 |u::us,n::ns,a,hl,h=>by
  obtain⟨kj,rfl⟩:=h 0 u n rfl rfl;simp only[List.foldlM_cons,Sem.run_bind,Builtin.min2,Sem.run_pure,Result.andThen_ok,Na];exact KT ki us ns _ (by simpa using hl) (λi u n a b=>h (i+1) u n (by simpa using a) (by simpa using b))
 |[],_::_,_,h,_=>by simp at h
 |_::_,[],_,h,_=>by simp at h
theorem LG(ki:IntKind):∀(us:List Value) (ns:List Int) (a:Int),us.length=ns.length->(∀(i:Nat) u n,us[i]?=some u->ns[i]?=some n->∃ki,u=.int ki n)->(us.foldlM Builtin.max2 (.int ki a)).run P w=.ok (.int ki (ns.foldl (λx y=>if y>x then y else x) a)) w
 |[],[],a,_,_=>by simp
 |u::us,n::ns,a,hl,h=>by
  obtain⟨kj,rfl⟩:=h 0 u n rfl rfl;simp only[List.foldlM_cons,Sem.run_bind,Builtin.max2,Sem.run_pure,Result.andThen_ok,Na];exact LG ki us ns _ (by simpa using hl) (λi u n a b=>h (i+1) u n (by simpa using a) (by simpa using b))
 |[],_::_,_,h,_=>by simp at h
 |_::_,[],_,h,_=>by simp at h
theorem Ak{xs:Array Operand}{ts:Array TypeId}{ns:List Int}{n0 n1:Int}{ki:IntKind}{r:List AV}(mx:Bool)(h:Sta N w0 X0 S M a w e b)(hv:je (λx=>ae e x) xs.toList=some (.c (.v (.int ki n1))::r))(hn:je Es (.c (.v (.int ki n1))::r)=some (n0::ns))
 (hk:k (.int ki (ns.foldl (λx y=>if(if mx then y>x else y<x)then y else x) n0)) []):Good P w0 X0 S M a w ⟨d,.call ⟨.builtin (if mx then .max else .min),xs,ts⟩,ty,pos,af,gd⟩ k:=by
 obtain⟨us,hu,hl,hr⟩:=rX h hv;obtain⟨g1,g2⟩:=aaY hl hr hn;cases us with
 |nil=>simp at g1
 |cons u us =>
  have hu0:=(hr 0 u _ rfl rfl).v_;subst hu0;obtain⟨kj,hk0⟩:=g2 0 _ n0 rfl rfl;injection hk0 with _ hk1
  subst hk1;refine .val h.ms hk (u:=.int ki _) ?_ (.d (.c (.v _ rfl)));cases mx with
  |true =>
   have:=LG (P:=P) (w:=w) ki us ns n1 (by simpa using g1) (λi u n a b=>g2 (i+1) u n (by simpa using a) (by simpa using b));simp[execOp,resolve,invoke,builtin,hu,Builtin.max_,this]
  |false =>
   have:=KT (P:=P) (w:=w) ki us ns n1 (by simpa using g1) (λi u n a b=>g2 (i+1) u n (by simpa using a) (by simpa using b));simp[execOp,resolve,invoke,builtin,hu,Builtin.min_,this]
end
section
variable {P:Program} [Wld P] [Kp] [Gr] {τ:Tab} {N:Nat} {w0:World} {X0:List Nat} {S:List Bx} {M:MM} {a:Act} {w:World} {e:Env} {b:aZ}
variable [WOk P w0]
variable {d:Option Nat} {ty:TypeId} {pos:String} {af:Array Edge} {gd:Option (Nat × Bool)} {k:AV->aZ->Prop}
theorem MS.regrow(h:MS w0 w S M){i:Nat}{gold:Option Nat}(hold:∀g,gold=some g->∃m,M i=some m/\m.own=true/\m.g=some g){w':World}(hgr:w.grownBy w' gold){g':Nat}{m':MB}(hn:w'.heap[g']?=some (.cells m'.us.toArray m'.T (0,0)))
 (hat:gold=some g'\/g'=w.heap.size) (ho':m'.own=true) (hg':m'.g=some g') (hgx:m'.gx=none) (X:List Nat):∃S',MS w0 w' S' (M.set i m')/\Ext w (bl S++X) w' (bl S'++X):=by
 have hgin:∀g,gold=some g->g∈bl S/\(w0.heap.size<=g\/g∈Gr.l)/\g<w.heap.size:=by
  intro g hg;obtain⟨m,h1,h2,h3⟩:=hold g hg;have h4:=h.inS i m h1 h2 g h3;exact⟨iV.2 ⟨_,h4,rfl⟩,(h.st.box _ h4).2,h.st.lt h4⟩
 have hg0:w0.heap.size<=g'\/g'∈Gr.l:=by
  rcases hat with h1|h1
  .exact(hgin g' h1).2.1
  .rw[h1];exact .inl h.st.below.size
 have hnew:∀q∈S,gold≠some q.1->q.1≠g':=by
  intro q hq hne e;rcases hat with h1|h1
  .exact hne (by rw[h1,e])
  .have:=h.st.lt hq;omega
 refine⟨(g',m'.T,m'.us.toArray)::S.filter λq=>!(decide (gold=some q.1)),⟨⟨?_, ?_, ?_⟩,h.gh.set (λx hx=>by rw[hgx]at hx;cases hx) (λc mc x hc hx q hq hqS=>vX _ (yS.2 ⟨hqS,by
  simp only[Jh,decide_eq_false_iff_not];intro e;obtain⟨m,k1,k2,k3⟩:=hold q.1 e
  exact h.gh.own c mc x i m q.1 hc hx k1 k2 k3 q hq rfl⟩)) (zf hgr λg e=>by
   obtain⟨m,k1,k2,k3⟩:=hold g e
   exact .row (h.st.box _ (h.inS i m k1 k2 g k3)).1) (λg h1 h2=>by
   rw[hg']at h2;cases h2;rcases hat with e|e
   .obtain⟨m,k1,k2,k3⟩:=hold g' e;exact .inl ⟨m,k1,k2,k3⟩
   .refine .inr λhm=>?_
    obtain⟨q,hq,e'⟩:=iV.1 hm;have:=h.st.lt hq
    omega), ?_, ?_⟩, ?_⟩
 .exact h.st.below.grown hgr (λk hk=>(hgin k hk).2.1)
 .intro q hq;rcases jA.1 hq with rfl|hq
  .exact⟨hn,hg0⟩
  .obtain⟨q1,q2⟩:=yS.1 hq;have q2':gold≠some q.1:=by simpa using q2
   exact⟨(hgr.block _ (h.st.lt q1) (λe=>q2' e.symm)).trans (h.st.box q q1).1,(h.st.box q q1).2⟩
 .refine List.pairwise_cons.2 ⟨λq hq=>?_,h.st.nd.filter _⟩;obtain⟨q1,q2⟩:=yS.1 hq;exactλe=>hnew q q1 (by simpa using q2) e.symm
 .intro c mc hc hco gc hgc
  by_cases hci:c=i
  .subst hci;rw[MM.set_same]at hc;cases hc;rw[hg']at hgc;cases hgc;simp
  .rw[MM.set_other _ _ hci]at hc;refine vX _ (yS.2 ⟨h.inS c mc hc hco gc hgc, ?_⟩);simp only[Jh,decide_eq_false_iff_not];intro e;obtain⟨m,h1,h2,h3⟩:=hold gc e;exact hci (h.inj c i mc m gc hc h1 hco h2 hgc h3)
 .intro c c' mc mc' gc h1 h2 h3 h4 h5 h6
  have other:∀c mc,c≠i->M.set i m' c=some mc->mc.own=true->∀g,mc.g=some g->g≠g':=by
   intro c mc hci hc hco g hg;rw[MM.set_other _ _ hci]at hc;refine hnew _ (h.inS c mc hc hco g hg) (λe=>?_);obtain⟨m,k1,k2,k3⟩:=hold g e;exact hci (h.inj c i mc m g hc k1 hco k2 hg k3)
  by_cases hci:c=i
  .by_cases hci':c'=i
   .rw[hci,hci']
   .subst hci;rw[MM.set_same]at h1;cases h1;rw[hg']at h5;cases h5;exact absurd rfl (other c' mc' hci' h2 h4 _ h6)
  .by_cases hci':c'=i
   .subst hci';rw[MM.set_same]at h2;cases h2;rw[hg']at h6;cases h6;exact absurd rfl (other c mc hci h1 h3 _ h5)
   .rw[MM.set_other _ _ hci]at h1;rw[MM.set_other _ _ hci']at h2;exact h.inj c c' mc mc' gc h1 h2 h3 h4 h5 h6
 .refine⟨hgr.size,λc hc hcx _=>?_⟩;simp only[uh,not_or]at hcx;refine⟨hgr.block c hc (λe=>hcx.1 (hgin c e.symm).1), ?_⟩;simp only[bl,xZ,uh,jA,not_or];refine⟨⟨λe=>?_,λhm=>?_⟩,hcx.2⟩
  .rcases hat with h1|h1
   .exact hcx.1 (e▸(hgin g' h1).1)
   .omega
  .obtain⟨q,hq,e⟩:=iV.1 hm;exact hcx.1 (iV.2 ⟨q,(yS.1 hq).1,e⟩)
theorem acj{base:Nat}{t e':TypeId}{s by_:Nat}{zz:Array Value}(hs0:0<s)(hsl:sliceOf P t=some (e',s))(hel:Sw.elemOf P e'=some (zz,s,by_))(hzs:zz.size=s)
 {v:Value} {n:Nat} {xs:List Value} (hown:w.ownsRow base e' s v n xs) {A:Option Addr} {m c:Nat} {news:List Value} (hl:news.length=m*s) (hc:∀ad,A=some ad->∀j u,news[j]?=some u->w.cell? (ad.add j)=some u) (hA:A=none->m=0)
 (h1:∀u∈news,u.oneCell'=true) (hb:(n+m)*(by_+1)<=140737488355328) (hbase:base<=w.heap.size) :
 ∃v' w',(Builtin.append_ #[t,t] ty #[v,.slice A m c]).run P w=.ok v' w'/\w'.ownsRow base e' s v' (n+m) (xs++news)/\w.grownBy w' v.ownBlock/\(v'.ownBlock=v.ownBlock\/v'.ownBlock=some w.heap.size)/\(v'=.slice none 0 0↔v=.slice none 0 0/\m=0)/\(m=0->v'=v):=by
 unfold sliceOf at hsl;split at hsl
 .rename_i e0 hu;cases hq:P.info? e0 with
  |none=>simp[hq]at hsl
  |some i =>
   simp only[hq,vI,qH,ou]at hsl;obtain⟨rfl,hi1⟩:=hsl;unfold Sw.elemOf at hel;cases hz:i.zero with
   |none=>simp[hq,hz]at hel
   |some zv =>
    simp only[hq,hz,Zz,vI,qH,ou]at hel;obtain⟨rfl,_,rfl⟩:=hel;rw[EN,Nat.mul_one]at hb;rcases yD m with hm0|hm0
    .subst hm0;have hn0:news=[]:=UR (by simpa using hl);subst hn0;refine⟨v,w, ?_,by simpa using hown,⟨rfl,rfl,rfl,jg _,λ_ _ _=>rfl⟩,.inl rfl,η,λ_=>rfl⟩;rcases hown.2 with⟨rfl,h0⟩|⟨g,c',cur,rfl,_,_,hnc,_⟩
     .cases A<;>simp[Builtin.append_,run_underlying hu,sizeOf,typeInfo,hq,Builtin.lenOf,Builtin.firstCells,loadCells,loadCellsFrom]
     .cases A<;>simp[Builtin.append_,run_underlying hu,sizeOf,typeInfo,hq,Builtin.lenOf,Builtin.firstCells,hnc,storeCells,loadCells,loadCellsFrom]
    .cases A with
     |some ad =>
      obtain⟨v',w',r1,r2,r3,r4,r5⟩:=run_append_own_at (P:=P) (ty:=ty) w base t e0 i zv s i.bytes hu hq hz hi1 rfl hzs hs0 v n xs hown ad m c news hl (hc ad rfl) h1 (by unfold maxLen;omega) ω hbase;exact⟨v',w',r1,r2,r3,r5,r4,λh0=>by omega⟩
     |none=>have:=hA rfl;omega
 .cases hsl
theorem grown_below{gold:Option Nat}{w':World}(hgr:w.grownBy w' gold)(h:gold=none):Below w.heap.size w w':=by
 subst h;exact⟨hgr.os,hgr.tape,hgr.output,hgr.size,λk hk=>hgr.block k hk η⟩
theorem ae5{i t T s by_:Nat}{z:List Cell}(htt:iQ P t (.slice T s by_ z)=true)(h:MS w0 w S M){v:Value}{uss uss':List (List Value)}{es es':List (List Cell)}(hS:RepS w (bl S++X0) s uss es)(hS':RepS w (bl S++X0) s uss' es')
 (hown:w.ownsRow 0 T s v es.length uss.flatten) (hold:∀g,v.ownBlock=some g->∃m,M i=some m/\m.own=true/\m.g=some g)
 {A:Option Addr} {c:Nat} (hcl:Cl w (bl S++X0) A uss'.flatten) (hb:(es++es').length*(by_+1)<=140737488355328) :
 ∃v' w' S' m',(Builtin.append_ #[t,t] ty #[v,.slice A es'.length c]).run P w=.ok v' w'/\MS w0 w' S' (M.set i m')/\Ext w (bl S++X0) w' (bl S'++X0)/\(∀M',RepM w' (bl S'++X0) M' m' (.grow T s (es++es')))/\v'=hdr m'/\(es'.length=0->v'=v):=by
 obtain⟨hs0,hsl,zz,hel,hzz,hzs⟩:=sliceT htt;have hfl:uss'.flatten.length=es'.length*s:=by rw[fC hS'.sz,hS'.len]
 have h1:∀u∈uss'.flatten,u.oneCell'=true:=by
  intro u hu;obtain⟨us,hus,hu⟩:=List.mem_flatten.1 hu;obtain⟨j,hj,rfl⟩:=Vt hus;exact(hS'.get j _ _ (pW hj) (pW (by rw[<-hS'.len];exact hj))).one u hu
 have hA:A=none->es'.length=0:=by
  intro hA;rcases yD es'.length with h0|h0
  .exact h0
  .have hlt:0<uss'.flatten.length:=by rw[hfl];exact Nat.mul_pos h0 hs0
   obtain⟨ad,had,_⟩:=hcl.at_ (pW hlt);rw[hA]at had;cases had
 obtain⟨v',w',r1,r2,r3,r4,r5,r6⟩:=acj (ty:=ty) hs0 hsl hel hzs hown hfl (λad had j u hu=>by
  obtain⟨ad',h2,h3⟩:=hcl.at_ hu
  rw[had]at h2;cases h2;exact h3) hA h1 (by rw[rQ]at hb;exact hb) (Au _)
 have hnew:∀{X':List Nat},Ext w (bl S++X0) w' X'->RepS w' X' s (uss++uss') (es++es'):=λhe=>(hS.append hS').ext he
 have hflat:(uss++uss').flatten=uss.flatten++uss'.flatten:=by simp
 rcases r2.2 with⟨hv,h0⟩|⟨g',cap,cur,hv,hb',hg',hle,hmx,hcs,htk⟩
 ·
  have hv0:=r5.1 hv;have hgn:v.ownBlock=none:=by rw[hv0.1];rfl
  have hB:=grown_below r3 hgn;have he0:es++es'=[]:=UR (by rw[rQ];exact h0);refine⟨v',w',S,⟨false,true,none,T,s,0,0,[],none⟩,r1,⟨h.st.call hB,h.gh.set (λx hx=>by cases hx) (λ_ _ _ _ _ _ _ h=>h) (Fq hB) (λg' h1 h2=>by cases h2), ?_, ?_⟩,Ext.call _ hB,λ_=>⟨rfl,rfl,rfl,⟨rfl,hs0⟩,by rw[he0];rfl,.inl ⟨rfl,he0,rfl⟩⟩,hv,r6⟩
  .intro c mc hc hco gc hgc
   by_cases hci:c=i
   .subst hci;rw[MM.set_same]at hc;cases hc;cases hgc
   .rw[MM.set_other _ _ hci]at hc;exact h.inS c mc hc hco gc hgc
  .intro c c' mc mc' gc h1 h2 h3 h4 h5 h6
   by_cases hci:c=i
   .subst hci;rw[MM.set_same]at h1;cases h1;cases h5
   .by_cases hci':c'=i
    .subst hci';rw[MM.set_same]at h2;cases h2;cases h6
    .rw[MM.set_other _ _ hci]at h1;rw[MM.set_other _ _ hci']at h2;exact h.inj c c' mc mc' gc h1 h2 h3 h4 h5 h6
 .subst hv
  obtain⟨S',q1,q2⟩:=h.regrow hold r3 (g':=g') (m':=⟨false,true,some g',T,s,es.length+es'.length,cap,cur.toList,none⟩) (by simpa using hg') (by
   rcases r4 with r4|r4
   .left;rw[<-r4];rfl
   .right;simpa[Value.ownBlock]using r4) rfl rfl rfl X0
  refine⟨_,w',S',_,r1,q1,q2,λ_=>⟨rfl,rfl,rfl,⟨rfl,hs0⟩,η,.inr ⟨g',uss++uss',cur.toList.drop ((es.length+es'.length)*s),rfl, ?_,hnew q2,by simpa using hcs.symm,hmx,hle⟩⟩,rfl,r6⟩;rw[hflat,<-htk,RP]
theorem DJ{α:Type}:∀{f:List (Nat×α)} {b:List (Nat×α)} {i:Nat},i ∉ f.map (·.1)->ld i (ups f b)=ld i b
 |[],b,i,_=>rfl
 |(t,x)::r,b,i,h=>by
  simp only[xZ,jA,not_or]at h;simp only[ups];rw[DJ h.2,qY,if_neg h.1]
theorem lD{xs:Array Operand}{x:AV}{t T s by_:Nat}{z:List Cell}{es':List (List Cell)}(htt:iQ P t (.slice T s by_ z)=true)(h:Sta N w0 X0 S M a w e b){y:AV}{fz:aZ}{S1:List Bx}{M1:MM}(hv:je (λx=>ae e x) xs.toList=some [x,y])(hm1:MS w0 w S1 M1)(hc1:Chg w (bl S++X0) M w (bl S1++X0) M1 [] fz)(hfo:FrzOnly b fz)(hy:∀u,RepV w (bl S++X0) M u y->RepD w (bl S1++X0) u (.c (.sl s es')))
 (hx:(x=.c (.v (.slice none 0 0))/\∃i,d=some i/\i ∉ fz.map (·.1)/\es'.length*(by_+1)<=140737488355328/\k (.gs i es'.length) (fz++[(i,.grow T s es')])) \/
  (∃i n es,x=.gs i n/\i ∉ fz.map (·.1)/\ld i b=some (.grow T s es)/\n=es.length/\(es++es').length*(by_+1)<=140737488355328/\k (.gs i (es++es').length) (fz++[(i,.grow T s (es++es'))]))) :
 Good P w0 X0 S M a w ⟨d,.call ⟨.builtin .append,xs,#[t,t]⟩,ty,pos,af,gd⟩ k:=by
 obtain⟨us,hu,hl,hr⟩:=rX h hv
 obtain⟨u,u',rfl⟩:∃u u',us=[u,u']:=by
  match us,hl with
  |[u,u'],_=>exact⟨u,u',rfl⟩
 have h1:=h.chg hm1 hc1
 obtain⟨A,c,uss',rfl,hcc1,hcc2,hcl,hS'⟩:∃A cap uss,u'=.slice A es'.length cap/\es'.length<=cap/\cap<=9223372036854775807/\Cl w (bl S1++X0) A uss.flatten/\RepS w (bl S1++X0) s uss es':=by
  have:=hy u' (hr 1 u' _ rfl rfl);cases this with
  |c hC=>exact RepS.of_sl hC
 have hu0:=(hr 0 u x rfl rfl).ext hc1.ext λc _ m hm=>hc1.comp c m hm η
 have fin:∀(i:Nat) (es:List (List Cell)) (uss:List (List Value)),i ∉ fz.map (·.1)->RepS w (bl S1++X0) s uss es->w.ownsRow 0 T s u es.length uss.flatten->(∀g,u.ownBlock=some g->∃m,M1 i=some m/\m.own=true/\m.g=some g)->(es++es').length*(by_+1)<=140737488355328 ->
  (∀m,M1 i=some m->i∈qN ⟨d,.call ⟨.builtin .append,xs,#[t,t]⟩,ty,pos,af,gd⟩\/(m.isVar=false/\m.s=s/\m.n=es.length/\u=hdr m))->k (.gs i (es++es').length) (fz++[(i,.grow T s (es++es'))])->Good P w0 X0 S M a w ⟨d,.call ⟨.builtin .append,xs,#[t,t]⟩,ty,pos,af,gd⟩ k:=by
  intro i es uss hif hS hown hold hb hcomp hk;obtain⟨v',w',S',m',r1,r2,r3,r4,r5,r6⟩:=ae5 (ty:=ty) (i:=i) (c:=c) htt hm1 hS hS' hown hold hcl hb;have r4':=r4;replace r4:=r4 (λ_=>none);have hn':m'.n=(es++es').length:=r4.2.2.2.2.1
  have hc2:Chg w (bl S1++X0) M1 w' (bl S'++X0) (M1.set i m') (qN ⟨d,.call ⟨.builtin .append,xs,#[t,t]⟩,ty,pos,af,gd⟩) [(i,.grow T s (es++es'))]:=by
   refine⟨r3,λc hc=>MM.set_other _ _ (by simpa using hc),λc mc hc hca=>?_,λc y hy=>?_⟩
   .by_cases hci:c=i
    .subst hci;refine⟨m',MM.set_same _ _ _, ?_⟩;rcases hcomp mc hc with h1|⟨h1,h2,h3,h4⟩
     .exact absurd h1 hca
     .refine⟨by rw[r4.1,h1],λh0=>absurd (h1.symm.trans h0) ψ,λ_=>?_⟩;rcases yD es'.length with h0|h0
      .left;have hsame:=r6 h0;rw[r5,h4]at hsame;unfold hdr at hsame;injection hsame with e1 e2 e3
       refine⟨?_,r4.2.2.2.1.1.trans h2.symm,e2,e3⟩;cases q1:m'.g<;>cases q2:mc.g<;>rw[q1,q2]at e1<;>simp_all
      .right;rw[h3,hn'];simp;omega
    .exact⟨mc,by rw[MM.set_other _ _ hci,hc],Comp.refl _⟩
   .simp only[pI,ou]at hy;obtain⟨rfl,rfl⟩:=hy;exact⟨m',MM.set_same _ _ _,r4' _⟩
  refine⟨_,_,hk,.inl ⟨v',w', ?_,(hc1.trans hc2 (λc hc=>by simp at hc;subst hc;exact hif) hfo.obs).post r2 (.gs (MM.set_same _ _ _) r4.1 ω (λ_=>r5) (by rw[r5];unfold hdr;rw[hn'];exact⟨_,_,rfl⟩))⟩⟩;simp only[execOp,resolve,invoke,builtin,hu,Sem.run_bind,Sem.run_pure,Result.andThen_ok];rw[r1];simp
 rcases hx with⟨rfl,i,rfl,hif,hb,hk⟩|⟨i,n,es,rfl,hif,hb0,hn,hb,hk⟩
 .have:=hu0.v_;subst this;exact fin i [] [] hif (.nil _ _ _) (World.ownsRow_nil _ _ _ _) (λg hg=>by cases hg) (by simpa using hb) (λm hm => .inl (by simp[qN,DF,wQ])) (by simpa using hk)
 .obtain⟨m,hm,hvv,hh⟩:=hu0.gs_;obtain⟨m',hm',q1,q2,q3,q4,q5,q6⟩:=h1.box i _ (show ld i (ups fz b)=_ by rw[DJ hif];exact hb0);rw[hm]at hm';cases hm';have hue:=hh ω;rcases q6 with⟨g1,rfl,g3⟩|⟨g,uss,rest,g1,g2,g3,g4,g5,g6⟩
  .refine fin i [] [] hif (.nil _ _ _) ?_ (λg hg=>?_) hb (λm' hm'=>?_) hk
   .rw[hue];unfold hdr;rw[g1,g3,q5];exact World.ownsRow_nil _ _ _ _
   .rw[hue]at hg;unfold hdr at hg;rw[g1]at hg;cases hg
   .rw[hm]at hm';cases hm';exact .inr ⟨q1,q4.1,q5,hue⟩
  .refine fin i es uss hif g3 ?_ (λg' hg=>?_) hb (λm' hm'=>?_) hk
   .rw[hue];unfold hdr;rw[g1,q5];have hg8:=hm1.st.box _ (hm1.inS i m hm q2 g g1);have hfl:uss.flatten.length=es.length*s:=by rw[fC g3.sz,g3.len]
    refine⟨hfl,.inr ⟨g,m.cap,m.us.toArray,rfl,Au _, ?_,ω,g5,by simp[g4], ?_⟩⟩
    .rw[<-q3];exact hg8.1
    .rw[Yf,g2,<-hfl,List.take_left' rfl]
   .rw[hue]at hg;unfold hdr at hg;rw[g1]at hg;simp[Value.ownBlock]at hg;exact⟨m,hm,q2,by rw[g1,hg]⟩
   .rw[hm]at hm';cases hm';exact .inr ⟨q1,q4.1,q5,hue⟩
theorem J4{X:List Nat}{zz:Array Value}{z:List Cell}{s n:Nat}(hs:zz.size=s)(hs0:0<s)(hz:RepL w X zz.toList z):(madeCells zz (n*s)).toList=(List.replicate n zz.toList).flatten/\RepS w X s (List.replicate n zz.toList) (List.replicate n z):=by
 refine⟨?_,η,λus hu=>by rw[List.eq_of_mem_replicate hu];simpa using hs,λi us e a c=>?_⟩
 .apply qbI;intro i;have hfl:(List.replicate n zz.toList).flatten.length=n*s:=by rw[fC (s:=s) (λus hu=>by rw[List.eq_of_mem_replicate hu];simpa using hs)];simp
  by_cases hi:i<n*s
  .have hq:i/s<n:=by rw[Nat.div_lt_iff_lt_mul hs0];exact hi
   have hr:i%s<s:=qx _ hs0;have h1:=iZ (s:=s) (uss:=List.replicate n zz.toList) (λus hu=>by rw[List.eq_of_mem_replicate hu];simpa using hs) (i:=i/s) (us:=zz.toList) (by simp[hq]) (i%s) hr;have hdm:i/s*s+i%s=i:=by rw[Gx];exact Nat.div_add_mod i s
   rw[hdm]at h1;rw[h1];have hzz:i%s<zz.size:=ω
   simp[madeCells,hi,hs];rw[Array.getElem?_eq_getElem hzz,getElem!_pos zz (i%s) hzz]
  .rw[List.getElem?_eq_none (by rw[qbK,size_madeCells];omega),List.getElem?_eq_none ω]
 .rw[List.getElem?_replicate]at a c;split at a
  .rename_i hi;rw[if_pos hi]at c;cases a;cases c;exact hz
  .cases a
theorem Eu{t:TypeId}{x y:Operand}(hτ:dQ P τ=true)(h:Sta N w0 X0 S M a w e b)(hk:bZ (Den P) τ ⟨d,.makeSlice t x y,ty,pos,af,gd⟩ e b k):Good P w0 X0 S M a w ⟨d,.makeSlice t x y,ty,pos,af,gd⟩ k:=by
 unfold bZ at hk;simp only at hk;split at hk
 .rename_i T s by_ z k1 l k2 c i ht hx hy;obtain⟨n,m,rfl,rfl,hnm,hb,hk1⟩:=hk;obtain⟨hs0,hsl,zz,hel,hzz,hzs⟩:=sliceT (bU hτ ht);obtain⟨hmd,hS⟩:=J4 (w:=w) (X:=bl S++X0) (n:=n) hzs hs0 (nP w (bl S++X0) hzz);obtain⟨hmdm,hSm⟩:=J4 (w:=w) (X:=bl S++X0) (n:=m) hzs hs0 (nP w (bl S++X0) hzz);rw[EN,Nat.mul_one]at hb;have hms:=h.ms.alloc (i:=i) (m:=⟨false,true,some w.heap.size,T,s,n,m,(madeCells zz (m*s)).toList,none⟩) rfl rfl rfl rfl;simp only[Array.toArray_toList]at hms;have hext:Ext w (bl S++X0) (w.alloc (.cells (madeCells zz (m*s)) T)) (bl ((w.heap.size,T,madeCells zz (m*s))::S)++X0):=Ext.alloc _ _ _
  have hrun:(execOp a.eval ⟨some i,.makeSlice t x y,ty,pos,af,gd⟩).run P w=.ok (.value (.slice (some ⟨w.heap.size,0,none⟩) n m)) (w.alloc (.cells (madeCells zz (m*s)) T)):=by
   unfold sliceOf at hsl;split at hsl
   .rename_i e0 hu;cases hq:P.info? e0 with
    |none=>simp[hq]at hsl
    |some j =>
     simp only[hq,vI,qH,ou]at hsl;obtain⟨rfl,rfl⟩:=hsl;unfold Sw.elemOf at hel;cases hzv:j.zero with
     |none=>simp[hq,hzv]at hel
     |some zv =>
      simp only[hq,hzv,Zz,vI,qH,ou]at hel;obtain⟨rfl,_,rfl⟩:=hel;have hb2:((m*j.bytes:Nat):Int)<=281474976710656:=ω
      have hr:=run_make (P:=P) w t e0 j zv hu hq hzv k1 k2 (n:Int) (m:Int) ω ω (by rw[Int.mul_comm];rwa [WR]at hb2) ω;simp only[dI]at hr;simp only[execOp,(h.ev hx).v_,(h.ev hy).v_,Sem.run_bind,hr,Result.andThen_ok,Sem.run_pure]
   .cases hsl
  have hflat:(List.replicate m zz.toList).flatten=(List.replicate n zz.toList).flatten++(List.replicate (m-n) zz.toList).flatten:=by
   rw[<-List.flatten_append,List.replicate_append_replicate];congr 2;omega
  refine⟨_,_,hk1,.inl ⟨_,_,hrun,_,_,hms,hext,.gs (MM.set_same _ _ _) rfl (jg _) (λ_=>rfl) ⟨_,_,rfl⟩,λc hc=>MM.set_other _ _ (by simpa using hc),λc mc hc hci=>⟨mc,by rw[MM.set_other _ _ (λe=>hci (by subst e;simp[qN,DF,wQ])),hc],Comp.refl _⟩,λc y hy=>?_⟩⟩;simp only[pI,ou]at hy;obtain⟨rfl,rfl⟩:=hy;refine⟨_,MM.set_same _ _ _,rfl,rfl,rfl,⟨rfl,hs0⟩,η,.inr ⟨_,List.replicate n zz.toList,(List.replicate (m-n) zz.toList).flatten,rfl, ?_,hS.ext hext, ?_,by unfold maxLen;simp only;omega,hnm⟩⟩
  .simp only;rw[hmdm,hflat]
  .simp only[qbK,size_madeCells]
 .cases hk
theorem rW{s:Nat}:∀{uss:List (List Value)} (a:Nat),(∀us∈uss,us.length=s)->(uss.drop a).flatten=uss.flatten.drop (a*s)/\(uss.take a).flatten=uss.flatten.take (a*s)
 |uss,0,_=>by simp
 |[],a+1,_=>by simp
 |u::r,a+1,h=>by
  have hu:=h u η;obtain⟨h1,h2⟩:=rW (uss:=r) a (λus hm=>h us (by simp[hm]));have e:(a+1)*s=u.length+a*s:=by rw[UY,hu];omega
  constructor
  .rw[List.drop_succ_cons,h1,ZE,e,List.drop_length_add_append]
  .rw[List.take_succ_cons,ZE,h2,ZE,e,List.take_length_add_append]
theorem RepS.part{X:List Nat}{s:Nat}{uss:List (List Value)}{es:List (List Cell)}(h:RepS w X s uss es)(p q:Nat):RepS w X s ((uss.take q).drop p) ((es.take q).drop p):=by
 refine⟨by simp[h.len],λus hu=>h.sz us (qbL (List.mem_of_mem_drop hu)),λi us e a c=>?_⟩;rw[Pj,Pz]at a c;split at a
 .rename_i hi;rw[if_pos hi]at c;exact h.get _ us e a c
 .cases a
theorem jC(h:Sta N w0 X0 S M a w e b){x:Option Operand}{n:Option Int}(hx:vW e x=some n):∃k,x.map a.eval=n.map λi => .int k i:=by
 cases x with
 |none=>simp[vW]at hx;subst hx;exact⟨.i64,rfl⟩
 |some y =>
  simp only[vW]at hx;split at hx
  .rename_i k i hy;simp at hx;subst hx;exact⟨k,by simp[(h.ev hy).v_]⟩
  .cases hx
theorem Dh{s:Nat}:∀{n:Nat} {cs:List Cell} {es:List (List Cell)},chunk s n cs=some es->es.length=n/\cs.length=n*s/\∀{X:List Nat} {us:List Value},RepL w X us cs->∃uss,us=uss.flatten/\RepS w X s uss es
 |0,[],es,h=>by
  simp[chunk]at h;subst h;refine⟨rfl,η,fun {X us} hr=>⟨[], ?_,RepS.nil _ _ _⟩⟩;have:=hr.len;cases us with
  |nil=>rfl
  |cons=>simp at this
 |0,_::_,es,h=>by simp[chunk]at h
 |n+1,cs,es,h=>by
  simp only[chunk]at h;cases h1:takeN s cs with
  |none=>rw[h1]at h;cases h
  |some l =>
   rw[h1]at h;simp only at h;cases h2:chunk s n (dU s cs)with
   |none=>rw[h2]at h;cases h
   |some r =>
    rw[h2]at h;simp only[qH]at h;subst h;obtain⟨q1,q2⟩:=oO h1;obtain⟨c1,c2,c3⟩:=Dh h2;rw[iR]at c2 c3;rw[List.length_drop]at c2;refine⟨by simp[c1],by rw[UY];omega,fun {X us} hr=>?_⟩;obtain⟨uss,k1,k2⟩:=c3 (hr.drop s);have hl:=hr.take s;rw[<-q1]at hl;have hlen:(us.take s).length=s:=by have:=hr.len;rw[xB];omega
    have hone:RepS w X s [us.take s] [l]:=⟨rfl,λu hu=>by simp at hu;rw[hu];exact hlen,λi u e a c=>by
     cases i with
     |zero=>simp at a c;subst a c;exact hl
     |succ i=>simp at a⟩
    refine⟨us.take s::uss,by rw[ZE,<-k1,RP],hone.append k2⟩
theorem alS{t:TypeId}{n s:Nat}{one:Bool}{z:List Cell}(h:iQ P t (.arr n s one z)=true):∃e':TypeId,P.underlying t=some (.array n e')/\(P.info? e').map (·.size)=some s:=by
 unfold iQ at h;simp only[gX]at h;obtain⟨_,h⟩:=h;split at h
 .rename_i m e' he;simp at h;exact⟨e',by rw[he,h.1],by simpa using h.2⟩
 .simp at h
theorem RepD.c_{w:World}{X:List Nat}{u:Value}{c:Cell}(h:RepD w X u (.c c)):RepC w X u c:=by
 cases h with
 |c h=>exact h
theorem KC{t:TypeId}{x:Operand}{lo hi mx:Option Operand}{T s by_:Nat}{z:List Cell}{es:List (List Cell)}{lo' hi' mx':Option Int}{f:aZ}{S1:List Bx}{M1:MM}(hτ:dQ P τ=true)(h:Sta N w0 X0 S M a w e b)(ht:ld t τ=some (.slice T s by_ z))(h2:vW e lo=some lo')(h3:vW e hi=some hi')(h4:vW e mx=some mx')
 (hc1:Chg w (bl S++X0) M w (bl S1++X0) M1 [] f) (hm1:MS w0 w S1 M1) (hC:RepC w (bl S1++X0) (a.eval x) (.sl s es)) (hk:SlP es.length lo' hi' mx' λa b=>k (.c (.sl s ((es.take b).drop a))) f):Good P w0 X0 S M a w ⟨d,.slice t x lo hi mx,ty,pos,af,gd⟩ k:=by
 obtain⟨p,q,m,q1,q2,q3,q4,q5,q6,q7,hk1⟩:=hk;obtain⟨hs0,hsl,_⟩:=sliceT (bU hτ ht);obtain⟨A,cap,uss,ha,hcap,hcmx,hcl,hS⟩:=RepS.of_sl hC;obtain⟨ka,ea⟩:=jC h h2;obtain⟨kb,eb⟩:=jC h h3;obtain⟨kc,ec⟩:=jC h h4
 obtain⟨m',hk2,hk3,hb⟩:∃m',q<=m'/\m'<=cap/\(Instr.sliceBounds true es.length cap (lo.map a.eval) (hi.map a.eval) (mx.map a.eval)).run P w=.ok (p,q,m') w:=by
  rw[ea,eb,ec];cases lo'<;>cases hi'<;>cases mx'<;>simp only[Zw,Bd]at q1 q2 q3<;>simp at q7
  all_goals(try subst q1);(try subst q2);(try subst q3)
  .refine⟨cap,ω,jg _, ?_⟩;have:p=0:=ω
   have:q=es.length:=ω
   simp_all[Instr.sliceBounds]
  .refine⟨cap,ω,jg _, ?_⟩;have:p=0:=ω
   have hh:q<=cap:=ω
   subst this;simp[Instr.sliceBounds,run_sliceBound,hh]
  .refine⟨m,ω,ω, ?_⟩;have:p=0:=ω
   have hh:m<=cap:=ω
   subst this;simp[Instr.sliceBounds,run_sliceBound,hh,q5]
  .refine⟨cap,ω,jg _, ?_⟩;have:q=es.length:=ω
   subst this;simp[Instr.sliceBounds,run_sliceBound,q4]
  .refine⟨cap,ω,jg _, ?_⟩;have hh:q<=cap:=ω
   simp[Instr.sliceBounds,run_sliceBound,hh,q4]
  .refine⟨m,ω,ω, ?_⟩;have hh:m<=cap:=ω
   simp[Instr.sliceBounds,run_sliceBound,hh,q4,q5]
 have hrun:=jS (P:=P) (w:=w) (A:=A) hsl hb;refine⟨_,_,hk1,.inl ⟨sliced A p q m' s,w, ?_,hc1.al.post hm1 (.d (.c ?_))⟩⟩
 .simp only[execOp,ha,Sem.run_bind,hrun,Result.andThen_ok,Sem.run_pure]
 .have hR:=hS.part p q;have hlen:((es.take q).drop p).length=q-p:=by simp;omega
  have hfl:=(rW (s:=s) (uss:=uss.take q) p (λus hu=>hS.sz us (qbL hu))).1;have hfl2:=(rW (s:=s) (uss:=uss) q hS.sz).2;rw[hfl2]at hfl
  have hc2:Cl w (bl S1++X0) (if m'=p then A else A.map (·.add (p*s))) ((uss.take q).drop p).flatten:=by
   rw[hfl];split
   .rename_i hmp;have:q=p:=ω
    subst this;rw[List.drop_eq_nil_of_le (by rw[xB];omega)];exact Cl.nil _ _ _
   .exact(hcl.take _).drop _
  have:=hR.sl hc2 (cap:=m'-p) (by rw[hlen];omega) ω;rw[hlen]at this;exact this
theorem RY{t:TypeId}{x:Operand}{lo hi mx:Option Operand}(hτ:dQ P τ=true)(h:Sta N w0 X0 S M a w e b)(hk:bZ (Den P) τ ⟨d,.slice t x lo hi mx,ty,pos,af,gd⟩ e b k):Good P w0 X0 S M a w ⟨d,.slice t x lo hi mx,ty,pos,af,gd⟩ k:=by
 unfold bZ at hk;simp only at hk;split at hk
 .rename_i T s by_ z s' es lo' hi' mx' ht hx h2 h3 h4;split at hk
  .rename_i hs;have:=jX hs;subst this;exact KC hτ h ht h2 h3 h4 (Chg.refl _ _ _) h.ms (h.ev hx).sl_ hk
  .cases hk
 .rename_i T s by_ z c n lo' hi' mx' ht hx h2 h3 h4;obtain⟨v',f,S1,M1,hk1,hm1,hc1,hd1,_⟩:=qB h (h.ev hx) hk;split at hk1
  .split at hk1
   .rename_i hs;have:=jX hs;subst this;exact KC hτ h ht h2 h3 h4 hc1 hm1 hd1.c_ hk1
   .cases hk1
  .cases hk1
 .rename_i s lo' hi' ht hx h2 h3 h4;obtain⟨p,q,m,q1,q2,q3,q4,q5,q6,q7,hk1⟩:=hk;have hxe:=(h.ev hx).v_;obtain⟨ka,ea⟩:=jC h h2;obtain⟨kb,eb⟩:=jC h h3;obtain⟨kc,ec⟩:=jC h h4;have hm:mx=none:=by cases mx with|none=>rfl|some y=>simp[vW]at h4;split at h4<;>cases h4
  subst hm;simp only[Zw]at q3
  have hb:∃m',(Instr.sliceBounds false s.size s.size (lo.map a.eval) (hi.map a.eval) none).run P w=.ok (p,q,m') w:=by
   rw[ea,eb];cases lo'<;>cases hi'<;>simp only[Zw,Bd]at q1 q2
   all_goals(try subst q1);(try subst q2)
   .have:p=0:=ω
    have:q=s.size:=ω
    simp_all[Instr.sliceBounds]
   .have:p=0:=ω
    have hh:q<=s.size:=ω
    subst this;simp[Instr.sliceBounds,run_sliceBound,hh]
   .have:q=s.size:=ω
    subst this;simp[Instr.sliceBounds,run_sliceBound,q4]
   .have hh:q<=s.size:=ω
    simp[Instr.sliceBounds,run_sliceBound,hh,q4]
  obtain⟨m',hb⟩:=hb;refine .val h.ms hk1 (u:=.string (s.extract p q)) ?_ (.d (.c (.v _ rfl)));simp only[execOp,Option.map_none]at *;simp[hxe,Instr.sliceAt,Instr.slice,run_underlying (SX (bU hτ ht)),hb]
 .rename_i n s one z i ht hx h2 h3 h4;split at hk
  .rename_i cs hb hn hs;cases hch:chunk s n cs with
   |none=>rw[hch]at hk;cases hk
   |some es =>
    rw[hch]at hk;simp only at hk;obtain⟨c1,c2,c3⟩:=Dh (w:=w) hch;obtain⟨e',hu,hi⟩:=alS (bU hτ ht);have hn':n<=1048576:=Nat.le_of_ble_eq_true hn;obtain⟨m,hm,v1,v2,⟨g,hg⟩,v3⟩:=h.box i _ hb;obtain⟨m',g',hm',_,hg',ev⟩:=(h.ev hx).ptr_;rw[hm]at hm';cases hm';rw[hg]at hg';cases hg';obtain⟨ka,ea⟩:=jC h h2;obtain⟨kb,eb⟩:=jC h h3;obtain⟨kc,ec⟩:=jC h h4;have hrow:=h.row hm v2 hg
    have hng:g ∉ bl (S.filter λq=>!(Nat.beq q.1 g))++X0:=by
     intro hx;rcases uh.1 hx with hx|hx
     .exact(fU hx).2 rfl
     .have h7:=h.x0 g hx;rcases(h.ms.st.box _ (h.ms.inS i m hm v2 g hg)).2 with h8|h8
      .simp only at h8;omega
      .exact h7.2 h8
    have hsub:∀x∈bl (S.filter λq=>!(Nat.beq q.1 g))++X0,x∈bl S++X0:=λx hx=>by
     rcases uh.1 hx with hx|hx
     .exact yQ _ (fU hx).1
     .exact qP _ hx
    have hms:=h.ms.drop (m':={ m with own:=false }) hm v2 hg rfl rfl;obtain⟨uss,k1,k2⟩:=c3 (v3.ext (Ext.drop hsub));have hcl:=Cl.of_block hrow hng uss.flatten.length;rw[Yf,k1,oU]at hcl;have hC:=k2.sl hcl (cap:=n) ω ω;have hcomp:Comp m { m with own:=false }:=⟨rfl,λ_=>rfl,λ_ => .inl ⟨rfl,rfl,rfl,rfl⟩⟩
    have hchg:Chg w (bl S++X0) M w (bl (S.filter λq=>!(Nat.beq q.1 g))++X0) (M.set i { m with own:=false }) [] [(i,.dead)]:=by
     refine⟨Ext.drop hsub,λc hc=>MM.set_other _ _ (by simpa using hc),λc mc hc _=>?_,λc x hx=>?_⟩
     .by_cases hci:c=i
      .subst hci;rw[hm]at hc;cases hc;exact⟨_,MM.set_same _ _ _,hcomp⟩
      .exact⟨mc,by rw[MM.set_other _ _ hci,hc],Comp.refl _⟩
     .simp only[pI,ou]at hx;obtain⟨rfl,rfl⟩:=hx;exact⟨_,MM.set_same _ _ _,trivial⟩
    refine⟨_,_,hk,.inl ⟨.slice (some ⟨g,0,none⟩) n n,w, ?_,hchg.post hms (.d (.c (by rw[<-c1]at hC ⊢;exact hC)))⟩⟩;simp only[Option.map_none]at ea eb ec;cases hq:P.info? e' with
    |none=>simp[hq]at hi
    |some j =>
     simp[execOp,ev,ea,eb,ec,Instr.sliceAt,run_underlying hu,Instr.sureAddr,Instr.sliceBounds,sizeOf,typeInfo,hq,Addr.add]
  .cases hk
 .rename_i T s by_ z lo' hi' mx' ht hx h2 h3 h4;have hu:=(h.ev hx).v_;obtain⟨p,q,m,q1,q2,q3,q4,q5,q6,q7,hk1⟩:=hk;obtain⟨hs0,hsl,_⟩:=sliceT (bU hτ ht);obtain⟨ka,ea⟩:=jC h h2;obtain⟨kb,eb⟩:=jC h h3;obtain⟨kc,ec⟩:=jC h h4;have e3:m=0:=ω
  have e2:q=0:=ω
  have e1:p=0:=ω
  subst e1 e2 e3
  have hb:(Instr.sliceBounds true 0 0 (lo.map a.eval) (hi.map a.eval) (mx.map a.eval)).run P w=.ok (0,0,0) w:=by
   rw[ea,eb,ec];cases lo'<;>cases hi'<;>cases mx'<;>simp only[Zw,Bd]at q1 q2 q3<;>simp at q7
   all_goals(try subst q1);(try subst q2);(try subst q3)
   all_goals simp[Instr.sliceBounds,run_sliceBound]
  have hrun:=jS (P:=P) (w:=w) (A:=none) hsl hb;refine .val h.ms hk1 (u:=.slice none 0 0) ?_ (.d (.c (.v _ rfl)));simp only[execOp,hu,Sem.run_bind,hrun,Result.andThen_ok,Sem.run_pure];simp[sliced]
 .cases hk
theorem abj{ρ:Operand->Value}{t:TypeId}{x y:Operand}{s:ByteArray}{ki:IntKind}{j:Nat}(ht:P.underlying t=some .string)(hx:ρ x=.string s)(hy:ρ y=.int ki (j:Nat))(hj:j<s.size):
 (execOp ρ ⟨d,.index t x y,ty,pos,af,gd⟩).run P w=.ok (.value (.int .u8 ((s.data.toList.getD j 0).toNat:Nat))) w:=by
 have h1:s[j]?=some (s.data.toList.getD j 0):=by
  rw[getElem?_pos s j hj];simp[Zr,hj];rfl
 simp[execOp,hx,hy,Instr.index,asIntOf,run_underlying ht,h1]
theorem Ti{t:TypeId}{x y:Operand}(hτ:dQ P τ=true)(h:Sta N w0 X0 S M a w e b)(hk:bZ (Den P) τ ⟨d,.index t x y,ty,pos,af,gd⟩ e b k):Good P w0 X0 S M a w ⟨d,.index t x y,ty,pos,af,gd⟩ k:=by
 unfold bZ at hk;simp only at hk;split at hk
 .rename_i s ki i ht hx hy;obtain⟨j,hi,hj,hk⟩:=hk;subst hi;exact .val h.ms hk (abj (SX (bU hτ ht)) (h.ev hx).v_ (h.ev hy).v_ hj) (.d (.c (.v _ rfl)))
 .cases hk
theorem XJ{src dst:TypeId}{x:Operand}(hτ:dQ P τ=true)(h:Sta N w0 X0 S M a w e b)(hk:bZ (Den P) τ ⟨d,.convert src dst x,ty,pos,af,gd⟩ e b k):Good P w0 X0 S M a w ⟨d,.convert src dst x,ty,pos,af,gd⟩ k:=by
 unfold bZ at hk;simp only at hk;split at hk
 .rename_i k0 ki k1 n h1 h2 hx;exact .val h.ms hk (fH (by rw[Z9 (bU hτ h1)];rfl) (Z9 (bU hτ h2)) (h.ev hx).v_ rfl) (.d (.c (.v _ rfl)))
 .rename_i T s by_ z b0 h1 h2 hx;split at hk
  .rename_i h3 h4;have hs1:=jX h4;subst hs1;obtain⟨_,hsl,_⟩:=sliceT (bU hτ h2)
   have hd:P.underlying dst=some (.slice T):=by
    unfold sliceOf at hsl;split at hsl
    .rename_i q hq;cases hi:P.info? q with
     |none=>simp[hi]at hsl
     |some j=>simp[hi]at hsl;rw[hq,hsl.1]
    .cases hsl
   have hxe:=(h.ev hx).v_;have hrun:=Lib.run_convert_string_bytes (P:=P) w src dst T b0 (SX (bU hτ h1)) hd (Z9 (bU hτ h3));have hb:Below w.heap.size w (Lib.bytesWorld w T b0):=⟨rfl,rfl,rfl,by rw[Lib.bytesWorld_size];omega,λk hk=>Lib.bytesWorld_at_old w T b0 k hk⟩
   have hext:=Ext.call (bl S++X0) hb
   have hS:RepS (Lib.bytesWorld w T b0) (bl S++X0) 1 (b0.data.toList.map λc=>[Value.int .u8 c.toNat]) (zq b0):=by
    refine⟨by simp[zq],λu hu=>?_,λj u c hu hc=>?_⟩
    .obtain⟨c,_,rfl⟩:=iV.1 hu;rfl
    .unfold zq at hc;rw[MQ]at hu hc;cases hq:b0.data.toList[j]? with
     |none=>rw[hq]at hu;cases hu
     |some x =>
      rw[hq]at hu hc;simp only[vI,qH]at hu hc;subst hu hc;exact .cons (.v _ rfl) (.nil _ _)
   have hfl:(b0.data.toList.map λc=>[Value.int .u8 c.toNat]).flatten=b0.data.toList.map λc=>Value.int .u8 c.toNat:=by
    induction b0.data.toList with
    |nil=>rfl
    |cons x r ih=>simp[ih]
   have hcl:Cl (Lib.bytesWorld w T b0) (bl S++X0) (some ⟨w.heap.size,0,none⟩) (b0.data.toList.map λc=>[Value.int .u8 c.toNat]).flatten:=by
    rw[hfl];intro _;refine⟨_,rfl,by rw[Lib.bytesWorld_size];exact Nat.lt_succ_self _,λhm=>absurd (h.bnd _ hm) (Nat.lt_irrefl _),λj u hu=>?_⟩;rw[Addr.add_lit,uY];rw[MQ]at hu;cases hq:b0.data.toList[j]? with
    |none=>rw[hq]at hu;cases hu
    |some x =>
     rw[hq]at hu;simp only[vI,qH]at hu;subst hu
     have hj:j<b0.size:=by
      have:=(qG.1 hq).1;simpa using this
     rw[Lib.bytesWorld_cell w T b0 j hj];rw[Zr,hq];rfl
   have hlen:(zq b0).length=b0.size:=by simp[zq]
   have hcap:b0.size<=grownCap w b0.size 0 T:=grownCap_ge w b0.size 0 T;have hcm:grownCap w b0.size 0 T<=9223372036854775807:=fZ (grownCap_le_maxLen w b0.size 0 T (by have:=hk.p;unfold maxLen;omega)) (by unfold maxLen;omega);have hrep:=hS.sl hcl (cap:=grownCap w b0.size 0 T) (by rw[hlen];exact hcap) hcm;rw[hlen]at hrep;refine⟨_,_,hk.k,.inl ⟨_,_, ?_,(((Chg.refl w (bl S++X0) M).ext_ hext).al).post (h.ms.call hb) (.d (.c hrep))⟩⟩;simp only[execOp,hxe,Sem.run_bind,hrun,Result.andThen_ok,Sem.run_pure]
  .cases hk
 .rename_i k0 k1 n h1 h2 hx;refine .val h.ms hk ?_ (.d (.c (.v _ rfl)));simp[execOp,(h.ev hx).v_,convert,run_underlying (Z9 (bU hτ h1)),run_underlying (SX (bU hτ h2)),Conv.intToString]
 .cases hk
theorem Ho{fn:Fn}{first captured:Array Operand}(h:Sta N w0 X0 S M a w e b)(hk:bZ (Den P) τ ⟨d,.makeFunc fn first captured,ty,pos,af,gd⟩ e b k):Good P w0 X0 S M a w ⟨d,.makeFunc fn first captured,ty,pos,af,gd⟩ k:=by
 unfold bZ at hk;simp only at hk;split at hk
 .rename_i fn' _ _ g vs hfi hv;obtain⟨hl,hr⟩:=IG h hv;obtain⟨a_s,f,S1,M1,hk1,hm1,hc1,⟨hl1,hr1⟩,_⟩:=pV h hl hr hk;split at hk1
  .rename_i cs hcs
   have hall:∀{a_s:List AV} {cs:List Cell},cellsAll a_s=some cs->a_s=cs.map .c:=by
    intro a_s;induction a_s with
    |nil=>intro cs h;simp[cellsAll]at h;subst h;rfl
    |cons v r ih =>
     intro cs h;cases v<;>simp only[cellsAll]at h<;>first|(cases h;done)|skip
     rename_i c;cases hq:cellsAll r with
     |none=>simp[hq]at h
     |some l=>simp[hq]at h;subst h;rw[ih hq];rfl
   have has:=hall hcs;subst has;have hfirst:first = #[]:=Jv (by simpa using hfi)
   subst hfirst;refine⟨_,_,hk1,.inl ⟨.func (.func g) #[] (captured.toList.map a.eval).toArray,w, ?_,hc1.al.post hm1 (.d (.c (.fn g _ cs (by simpa using hl1) λj u c hu hc=>?_)))⟩⟩
   .rw[show(captured.toList.map a.eval).toArray=captured.map a.eval from Jv η];simp[execOp,Instr.makeFunc]
   .have:=hr1 j u (.c c) hu (by rw[MQ,hc];rfl);cases this with
    |c h=>exact h
  .cases hk1
 .cases hk
end
end Go.Sw
