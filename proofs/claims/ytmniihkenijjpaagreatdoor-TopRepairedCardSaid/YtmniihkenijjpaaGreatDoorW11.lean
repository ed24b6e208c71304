/-
  Rules of the abstract run, plain laws, and what functions answer, for the law TopRepaired.
  Conditions: none.
-/
import Derived.Test.YtmniihkenijjpaaGreatDoorW10
set_option linter.all false
namespace Go.Sw
open Go Go.RowKit
open Go.WideElems (rd rg pl)
def JS.add(st:JS)(k:ByteArray)(c:List Cell):JS:=⟨st.sq,λx=>if x=k then st.f x++[c]else st.f x,st.n+1⟩
theorem ajg{w w3:World}{more more':List Bx}{g':Nat}{T:TypeId}{cur:Array Value}{og:Option Nat}(hm':more'=(g',T,cur)::more.filter λq=>!(decide (og=some q.1)))(hg:og=some g'\/w.heap.size<=g')(hog:∀g,og=some g->g∈bl more)(hl:∀q:Bx,q∈more->q.1<w.heap.size)
 (hn:w3.heap[g']?=some (Obj.cells cur T (0,0))) (hk:∀q:Bx,q∈more->og≠some q.1->w3.heap[q.1]?=some (Obj.cells q.2.2 q.2.1 (0,0))) (hnd:more.Pairwise λa b=>a.1≠b.1) :
 (∀q:Bx,q∈more'->(q.1∈bl more\/w.heap.size<=q.1)/\w3.heap[q.1]?=some (Obj.cells q.2.2 q.2.1 (0,0)))/\more'.Pairwise λa b=>a.1≠b.1:=by
 subst hm';refine⟨λq hq=>?_,List.pairwise_cons.2 ⟨λq hq=>?_,hnd.filter _⟩⟩
 .rcases mQ.1 hq with rfl|hq
  .refine⟨?_,hn⟩;rcases hg with h|h
   .exact .inl (hog _ h)
   .exact .inr h
  .obtain⟨h1,h2⟩:=uP.1 hq;exact⟨.inl (dw.2 ⟨q,h1,rfl⟩),hk q h1 (by simpa using h2)⟩
 .obtain⟨h1,h2⟩:=uP.1 hq;have h2':og≠some q.1:=by simpa using h2
  intro e;simp only at e;rcases hg with h|h
  .exact h2' (by rw[h,e])
  .have:=hl q h1;omega
theorem ahd{P:Program}{kT:TypeId}{es es':Array MapEntry}{kl:Lit}{d:DataW Value}{n:Nat}(h:(es'.toList.map (rg P kT Rv)).foldr DataW.insert []=ChangeMaps.putKey kl d ((es.toList.map (rg P kT Rv)).foldr DataW.insert []))(hn:es.size<=n):es'.size<=n+1:=by
 have e1:es'.size=((es'.toList.map (rg P kT Rv)).foldr DataW.insert []).length:=by rw[length_sorted];simp
 rw[e1,h];unfold ChangeMaps.putKey;rw[length_insert];have e2:=List.length_filter_le (ChangeMaps.notKey kl) ((es.toList.map (rg P kT Rv)).foldr DataW.insert []);rw[length_sorted]at e2;simp at e2;omega
theorem ajp{P:Program}{mT kT sT T:TypeId}{s:Nat}{st:JS}{w w1 w2:World}{X:List Nat}{us:List Value}{more:List Bx}{es:Array MapEntry}{ck g0:Nat}{us':List Value}{val:ByteArray->Value}{og:ByteArray->Option Nat}{k:ByteArray}{v':Value}{vs:List Value}{vC:List Cell}{uss:List (List Value)}
 (hkT:P.underlying kT=some .string) (hmT:P.underlying mT=some (.map kT sT)) (hs0:0<s)
 (hu:us=.map (some g0)::us') (hus:RepL w X us' st.sq) (hF:Go.WideElems.Fit P kT Rv es ck) (hn:es.size<=st.n) (hroom:st.n<maxLen) (hv:∀k,(datum P kT es).atKey (.string k.data.toList) (DataW.held (Value.slice none 0 0))=DataW.held (val k)) (hsl:∀k,SlotR w X T s more (val k) (st.f k) (og k)) (hinj:∀k1 k2 g,og k1=some g->og k2=some g->k1=k2)
 (hX:∀q:Bx,q∈more->q.1∈X/\w.heap[q.1]?=some (Obj.cells q.2.2 q.2.1 (0,0))) (hnd:more.Pairwise λa b=>a.1≠b.1) (hmap:w.heap[g0]?=some (Obj.map es ck)) (hk:k.size<=maxLen)
 (hvs:RepL w X vs vC) (hvl:vs.length=s) (huss:RepS w X s uss (st.f k))
 (hb1:Below w.heap.size w w1) (hown:w2.ownsRow 0 T s v' ((st.f k).length+1) (uss.flatten++vs)) (hgr:w1.grownBy w2 (val k).ownBlock) (hob:v'.ownBlock=(val k).ownBlock\/v'.ownBlock=some w1.heap.size) (hgo:(val k).ownBlock=og k) :
 ∃w3 mo' more',(Instr.mapUpdate mT (.map (some g0)) (.string k) v').run P w2=.ok () w3/\mo'.1=g0/\w3.heap[g0]?=some (Obj.map mo'.2.1 mo'.2.2)/\(∀q:Bx,q∈more'->(q.1∈bl more\/w1.heap.size<=q.1)/\w3.heap[q.1]?=some (Obj.cells q.2.2 q.2.1 (0,0)))/\(more'.Pairwise λa b=>a.1≠b.1) /\
  (w3.os=w.os/\w3.tape=w.tape/\w3.output=w.output/\w.heap.size<=w3.heap.size/\∀i,i<w.heap.size->i≠g0->i ∉ bl more->w3.heap[i]?=w.heap[i]?)/\(∀i,i<w1.heap.size->i≠g0->og k≠some i->w3.heap[i]?=w1.heap[i]?)/\aia P kT T s (st.add k vC) w3 (bl more'++X) us more' mo':=by
 have hkey:keyOf P kT (.string k)=some (.string k.data.toList):=by simp[keyOf,hkT,mapKey,hk]
 have hg0:=lt_of_heap hmap;have hlt:∀q:Bx,q∈more->q.1<w.heap.size:=λq hq=>lt_of_heap (hX q hq).2
 have hne0:∀q:Bx,q∈more->q.1≠g0:=λq hq e=>by
  have:=(hX q hq).2;rw[e,hmap]at this;cases this
 have hogm:∀k g,og k=some g->g∈bl more/\g<w.heap.size/\g≠g0:=by
  intro k1 g1 h1;have h6:=hsl k1;rw[h1]at h6;generalize val k1=vx at h6;generalize st.f k1=fx at h6;cases h6 with
  |some hm hr hc hx hn h0=>exact⟨dw.2 ⟨_,hm,rfl⟩,hlt _ hm,hne0 _ hm⟩
 have hb0:(val k).ownBlock≠some g0:=by rw[hgo];exactλe=>(hogm k g0 e).2.2 rfl
 have hmap2:w2.heap[g0]?=some (Obj.map es ck):=(hgr.block g0 (xE hg0 hb1.size) (λe=>hb0 e.symm)).trans ((hb1.block g0 hg0).trans hmap);obtain⟨es',ck',hrun,hF',hput,_⟩:=Maps.fit_store (R':=Rv) (Maps.string_keyed hkT) hmT hmap2 hF (Nat.lt_of_le_of_lt hn hroom) (λ_ _ _ _ hz=>hz) hkey (show Rv v'=some (DataW.held v',[])from rfl);rcases hown.2 with⟨_,h0⟩|⟨g',cap,cur,hv',hb',hg',hle,hmx,hcs,htk⟩
 .omega
 have hg'2:og k=some g'\/g'=w1.heap.size:=by
  rw[hv']at hob;rcases hob with h|h
  .left;rw[<-hgo,<-h];rfl
  .right;simpa[Value.ownBlock]using h
 have hg'0:g'≠g0:=λe=>by rw[e,hmap2]at hg';cases hg'
 let w3:=ChangeMaps.setBlock w2 g0 (.map es' ck')
 have hsame:w3.heap[g0]?=some (Obj.map es' ck'):=ChangeMaps.heap_setBlock_same hmap2 _;have hoth:∀i,i≠g0->w3.heap[i]?=w2.heap[i]?:=λi hi=>ChangeMaps.heap_setBlock_other hmap2 _ hi
 have h31:∀i,i<w1.heap.size->i≠g0->og k≠some i->w3.heap[i]?=w1.heap[i]?:=λi hi h1 h2=>(hoth i h1).trans (hgr.block i hi (λe=>h2 (by rw[<-hgo,<-e])))
 have h30:∀i,i<w.heap.size->i≠g0->og k≠some i->w3.heap[i]?=w.heap[i]?:=λi hi h1 h2=>(h31 i (xE hi hb1.size) h1 h2).trans (hb1.block i hi)
 have hsz:w.heap.size<=w3.heap.size:=by
  have:w3.heap.size=w2.heap.size:=by simp[w3,ChangeMaps.setBlock]
  rw[this];exact aU hb1.size hgr.size
 obtain⟨hM,hP⟩:=ajg (w:=w1) (w3:=w3) (more:=more) (g':=g') (T:=T) (cur:=cur) (og:=og k) rfl (by
  rcases hg'2 with h|h
  .exact .inl h
  .right;rw[h];exact gW _) (λg h=>(hogm k g h).1) (λq hq=>xE (hlt q hq) hb1.size) ((hoth g' hg'0).trans hg') (λq hq h=>(h30 q.1 (hlt q hq) (hne0 q hq) h).trans (hX q hq).2) hnd
 have hext:Ext w X w3 (bl ((g',T,cur)::more.filter λq=>!(decide (og k=some q.1)))++X):=by
  refine⟨hsz,λi hi hx hnm=>?_⟩;have hi0:i≠g0:=λe=>hnm _ _ (e▸hmap)
  have hik:og k≠some i:=λe=>by
   obtain⟨q,hq,rfl⟩:=dw.1 (hogm k i e).1;exact hx (hX q hq).1
  refine⟨h30 i hi hi0 hik,λhm=>?_⟩;rcases iH.1 hm with hm|hm
  .obtain⟨q,hq,rfl⟩:=dw.1 hm;rcases(hM q hq).1 with h|h
   .obtain⟨p,hp,hpe⟩:=dw.1 h;exact hx (hpe▸(hX p hp).1)
   .have:=hb1.size;omega
  .exact hx hm
 refine⟨w3,(g0,es',ck'),_,hrun,rfl,hsame,hM,hP,⟨hgr.os.trans hb1.os,hgr.tape.trans hb1.tape,hgr.output.trans hb1.output,hsz,λi hi h1 h2=>h30 i hi h1 (λe=>h2 (hogm k i e).1)⟩,h31,us',hu,hus.ext hext,hF', ?_, ?_⟩
 .exact ahd hput hn
 .have hD:datum P kT es'=(datum P kT es).put (.string k.data.toList) (.held v'):=by unfold datum;rw[DataW.put_eq,hput]
  refine⟨λx=>if x=k then v' else val x,λx=>if x=k then some g' else og x,λx=>?_,λx=>?_,λk1 k2 g1 h1 h2=>?_⟩
  .show(datum P kT es').atKey _ _=_;rw[hD]
   by_cases hx:x=k
   .subst hx;refine qh ?_ (congrArg DataW.held (if_pos rfl).symm);exact Maps.atKey_put_same (D:=datum P kT es) ⟨_,rfl⟩ (k:=.string x.data.toList) trivial _ _
   .refine qh ?_ (congrArg DataW.held (if_neg hx).symm);rw[Maps.atKey_put_other (λe=>hx ?_)]
    .exact hv x
    .injection e with e
     have:x.data=k.data:=tY e;cases x;cases k;simp_all
  .by_cases hx:x=k
   .subst hx;simp only[if_true,JS.add];rw[hv']
    have hR:RepS w X s (uss++[vs]) (st.f x++[vC]):=huss.append ⟨rfl,λu hu=>by simp at hu;subst hu;exact hvl,λi a c h1 h2=>by
     cases i with
     |zero=>simp at h1 h2;subst h1 h2;exact hvs
     |succ i=>simp at h1⟩
    have hfl:cur=((uss++[vs]).flatten++cur.toList.drop (((st.f x).length+1)*s)).toArray:=by
     have e1:(uss++[vs]).flatten=uss.flatten++vs:=by simp
     rw[e1,<-htk,FP]
    have hl:(st.f x++[vC]).length=(st.f x).length+1:=by simp
    rw[<-hl];refine .some (uss:=uss++[vs]) (rest:=cur.toList.drop (((st.f x).length+1)*s)) ?_ (hR.ext hext) ?_ hmx (by rw[hl];exact hle) (by rw[hl];omega)
    .rw[<-hfl];simp
    .have:((uss++[vs]).flatten++cur.toList.drop (((st.f x).length+1)*s)).length=cur.size:=by
      conv=>rhs;rw[hfl]
      simp
     rw[this,hcs]
   .simp only[if_neg hx,JS.add];have h6:=hsl x;generalize hgx:og x=ox at h6;generalize hvx:val x=vx at h6;generalize hfx:st.f x=fx at h6;cases h6 with
    |no=>exact .no
    |some hm hr hc hx' hn' h0' =>
     refine .some (yZ _ (uP.2 ⟨hm, ?_⟩)) (hr.ext hext) hc hx' hn' h0';simp only[qJ,decide_eq_false_iff_not];exactλe=>hx (hinj x k _ hgx e)
  .replace h1:(if k1=k then some g' else og k1)=some g1:=h1;replace h2:(if k2=k then some g' else og k2)=some g1:=h2
   have key:∀x,x≠k->og x=some g'->False:=λx hx h=>by
    rcases hg'2 with h3|h3
    .exact hx (hinj x k g' h h3)
    .have:=(hogm x g' h).2.1;have:=hb1.size;omega
   by_cases e1:k1=k<;>by_cases e2:k2=k
   .rw[e1,e2]
   .rw[if_pos e1]at h1;rw[if_neg e2]at h2;cases h1;exact(key k2 e2 h2).elim
   .rw[if_neg e1]at h1;rw[if_pos e2]at h2;cases h2;exact(key k1 e1 h1).elim
   .rw[if_neg e1]at h1;rw[if_neg e2]at h2;exact hinj k1 k2 g1 h1 h2
end Go.Sw
namespace Go.Sw
open Go
def hf(c p:Rat×Rat):Int:=if c.2<p.2\/(p.2=c.2/\c.1<p.1)then 0 else 1
def bT(c p q:Rat×Rat):Int:=if hf c p=hf c q then(if hf c p=0 then -(dU p.1 q.1)else dU p.1 q.1)else hf c p-hf c q
def y7(c f p:Rat×Rat):Int:=if bT c p f=0 then 0 else if bT c p f>0 then 1 else 2
def sZ(c f p q:Rat×Rat):Int:=if y7 c f p=y7 c f q then fD (bT c p q)else fD (y7 c f p-y7 c f q)
theorem tK(c p:Rat×Rat):hf c p=0\/hf c p=1:=by unfold hf;split<;>simp
def dW(a b c:Rat×Rat):Rat:=(b.1-a.1)*(c.2-a.2)-(b.2-a.2)*(c.1-a.1)
theorem Rx{x y:Rat}(hy:0<=y)(h:x*x<y*y):x<y:=by
 by_cases g:x<y
 .exact g
 .exfalso;have h1:0<=x-y:=ν
  have h2:0<=x+y:=ν
  have h3:=oG h1 h2
  grind
theorem conc{q u1 v1 u2 v2 u3 v3:Rat}(e1:u1*u1+v1*v1=q)(e2:u2*u2+v2*v2=q)(e3:u3*u3+v3*v3=q)(h12:u2<u1)(h23:u3<u2)(p2:0<=v2):
 (u2-u3)*v1+(u1-u2)*v3<v2*(u1-u3):=by
 have hL:0<u1-u3:=ν
 have ha:0<u2-u3:=ν
 have hb:0<u1-u2:=ν
 apply Rx (oG p2 ν);have h1:=qm ha hb;have h2:=qm h1 (qm hL hL)
 have h3:0<=(v1-v3)*(v1-v3):=by
  by_cases g:0<=v1-v3
  .exact oG g g
  .have:=oG (show 0<=v3-v1 by grind) (show 0<=v3-v1 by grind)
   grind
 have h4:=oG (show 0<=(u2-u3)*(u1-u2) by grind) h3
 have key:v2*(u1-u3)*(v2*(u1-u3))-((u2-u3)*v1+(u1-u2)*v3)*((u2-u3)*v1+(u1-u2)*v3)=(u2-u3)*(u1-u2)*((u1-u3)*(u1-u3))+(u2-u3)*(u1-u2)*((v1-v3)*(v1-v3)):=by
  clear h12 h23 p2 hL ha hb h1 h2 h3 h4
  grind
 clear e1 e2 e3;generalize(u2-u3)*(u1-u2)*((u1-u3)*(u1-u3))=z1 at *;generalize(u2-u3)*(u1-u2)*((v1-v3)*(v1-v3))=z2 at *;generalize v2*(u1-u3)*(v2*(u1-u3))=z3 at *;generalize((u2-u3)*v1+(u1-u2)*v3)*((u2-u3)*v1+(u1-u2)*v3)=z4 at *;clear h1 h3
 grind
section
variable {q u1 v1 u2 v2 u3 v3:Rat}
theorem Vz(e1:u1*u1+v1*v1=q)(e2:u2*u2+v2*v2=q)(e3:u3*u3+v3*v3=q)(h12:u2<u1)(h23:u3<u2)(p2:0<=v2):0<(u2-u1)*(v3-v1)-(v2-v1)*(u3-u1):=by
 have:=conc e1 e2 e3 h12 h23 p2
 grind
theorem UG(e1:u1*u1+v1*v1=q)(e2:u2*u2+v2*v2=q)(e3:u3*u3+v3*v3=q)(h12:u2<u1)(p1:0<=v1)(p2:0<=v2)(p3:v3<=0)(z2:v2=0->0<u2)(z3:v3=0->u3<0):0<(u2-u1)*(v3-v1)-(v2-v1)*(u3-u1):=by
 have e3':u3*u3+(-v3)*(-v3)=q:=ν
 have hb:0<u1-u2:=ν
 have hv:0<=(u1-u2)*(-v3):=oG ν ν
 by_cases c1:u3<u2
 .have:=conc e1 e2 e3' h12 c1 p2;clear e1 e2 e3 e3'
  grind
 .by_cases c2:u1<u3
  .have:=conc e3' e1 e2 c2 h12 p1;clear e1 e2 e3 e3'
   grind
  .have k1:0<=(u3-u2)*v1:=oG ν p1;have k2:0<=(u1-u3)*v2:=oG ν p2;have kD:(u2-u1)*(v3-v1)-(v2-v1)*(u3-u1)=(u3-u2)*v1+(u1-u3)*v2+(u1-u2)*(-v3):=by clear e1 e2 e3 e3';grind
   rw[kD]
   by_cases g:v3<0
   .have:=qm hb (show 0 < -v3 by grind);clear e1 e2 e3 e3' kD
    grind
   .have g0:v3=0:=ν
    have g1:=z3 g0
    have g2:0<v2:=by
     by_cases g3:v2=0
     .have g4:=z2 g3;exfalso
      grind
     .grind
    have g5:u3*u3=q:=by rw[<-e3,g0];grind
    exfalso;have g6:0<v2*v2:=qm g2 g2;have g7:u2*u2<u3*u3:=by rw[g5,<-e2];grind
    have g8:0<=u3-u2:=ν
    have g9:0≤-u3-u2:=ν
    have g10:=oG g8 g9;clear e1 e2 e3 e3' kD g5 g6
    grind
end
theorem AX{c p:Rat×Rat}(h:hf c p=0):0<=p.2-c.2/\(p.2-c.2=0->0<p.1-c.1):=by
 unfold hf at h;split at h
 .rename_i g;rcases g with g|⟨g1,g2⟩<;>constructor<;>grind
 .exact absurd h ψ
theorem AA{c p:Rat×Rat}(h:hf c p=1)(hn:p.2=c.2->p.1≠c.1):p.2-c.2<=0/\(p.2-c.2=0->p.1-c.1<0):=by
 unfold hf at h;split at h
 .exact absurd h ψ
 .rename_i g;constructor<;>grind
theorem jo{a b:Rat}:(dU a b<0->a<b)/\(-(dU a b)<0->b<a):=by
 unfold dU;constructor<;>(intro h;grind)
theorem Oq{c p1 p2 p3:Rat×Rat}{q:Rat}(e1:(p1.1-c.1)*(p1.1-c.1)+(p1.2-c.2)*(p1.2-c.2)=q)(e2:(p2.1-c.1)*(p2.1-c.1)+(p2.2-c.2)*(p2.2-c.2)=q)(e3:(p3.1-c.1)*(p3.1-c.1)+(p3.2-c.2)*(p3.2-c.2)=q)
 (n1:p1.2=c.2->p1.1≠c.1) (n2:p2.2=c.2->p2.1≠c.1) (n3:p3.2=c.2->p3.1≠c.1) (o12:bT c p1 p2<0) (o23:bT c p2 p3<0):0<dW p1 p2 p3:=by
 have kD:dW p1 p2 p3=((p2.1-c.1)-(p1.1-c.1))*((p3.2-c.2)-(p1.2-c.2))-((p2.2-c.2)-(p1.2-c.2))*((p3.1-c.1)-(p1.1-c.1)):=by unfold dW;grind
 rw[kD];rcases tK c p1 with h1|h1<;>rcases tK c p2 with h2|h2<;>rcases tK c p3 with h3|h3<;>(unfold bT at o12 o23;rw[h1,h2]at o12;rw[h2,h3]at o23;simp only[if_true,if_false,Int.reduceEq,reduceIte]at o12 o23)
 .have a:=jo.2 o12;have b:=jo.2 o23;exact Vz e1 e2 e3 ν ν (AX h2).1
 .have a:=jo.2 o12;exact UG e1 e2 e3 ν (AX h1).1 (AX h2).1 (AA h3 n3).1 (AX h2).2 (AA h3 n3).2
 .exact absurd o23 ψ
 .have a:=jo.1 o23;obtain⟨x1,x2⟩:=AX h1;obtain⟨y1,y2⟩:=AA h2 n2;obtain⟨z1,z2⟩:=AA h3 n3;have:=UG (q:=q) (u1:=-(p2.1-c.1)) (v1:=-(p2.2-c.2)) (u2:=-(p3.1-c.1)) (v2:=-(p3.2-c.2)) (u3:=-(p1.1-c.1)) (v3:=-(p1.2-c.2)) ν ν ν ν ν ν ν (λh=>by have:=z2 ν;grind) (λh=>by have:=x2 ν;grind);clear e1 e2 e3
  grind
 .exact absurd o12 ψ
 .exact absurd o12 ψ
 .exact absurd o23 ψ
 .have a:=jo.1 o12;have b:=jo.1 o23;have:=Vz (q:=q) (u1:=-(p1.1-c.1)) (v1:=-(p1.2-c.2)) (u2:=-(p2.1-c.1)) (v2:=-(p2.2-c.2)) (u3:=-(p3.1-c.1)) (v3:=-(p3.2-c.2)) ν ν ν ν ν (by have:=(AA h2 n2).1;grind);clear e1 e2 e3
  grind
theorem eP(c p q:Rat×Rat):bT c p q = -bT c q p:=by
 rcases tK c p with hp|hp<;>rcases tK c q with hq|hq<;>(simp only[bT,hp,hq];unfold dU;grind)
theorem lC{c p r:Rat×Rat}{q:Rat}(e1:(p.1-c.1)*(p.1-c.1)+(p.2-c.2)*(p.2-c.2)=q)(e2:(r.1-c.1)*(r.1-c.1)+(r.2-c.2)*(r.2-c.2)=q)(n1:p.2=c.2->p.1≠c.1)(n2:r.2=c.2->r.1≠c.1)(h:bT c p r=0):p=r:=by
 have hx:p.1=r.1/\hf c p=hf c r:=by
  rcases tK c p with hp|hp<;>rcases tK c r with hr|hr<;>(simp only[bT,hp,hr]at h;unfold dU at h;grind)
 obtain⟨h1,h2⟩:=hx;have hy:(p.2-c.2)*(p.2-c.2)=(r.2-c.2)*(r.2-c.2):=by rw[h1]at e1;grind
 have hz:(p.2-r.2)*((p.2-c.2)+(r.2-c.2))=0:=ν
 have h3:p.2=r.2:=by
  rcases Rat.mul_eq_zero.1 hz with g|g
  .grind
  .rcases tK c p with hp|hp
   .have a:=(AX hp).1;have b:=(AX (h2▸hp)).1
    grind
   .have a:=(AA hp n1).1;have b:=(AA (h2▸hp) n2).1
    grind
 exact Prod.ext h1 h3
theorem BN{c f p r:Rat×Rat}{q:Rat}(e1:(f.1-c.1)*(f.1-c.1)+(f.2-c.2)*(f.2-c.2)=q)(e2:(p.1-c.1)*(p.1-c.1)+(p.2-c.2)*(p.2-c.2)=q)(e3:(r.1-c.1)*(r.1-c.1)+(r.2-c.2)*(r.2-c.2)=q)
 (n1:f.2=c.2->f.1≠c.1) (n2:p.2=c.2->p.1≠c.1) (n3:r.2=c.2->r.1≠c.1) (h:0<dW f p r):sZ c f p r<=0:=by
 have x1:dW f r p = -dW f p r:=by unfold dW;grind
 have x2:dW r p f = -dW f p r:=by unfold dW;grind
 have x3:dW p f r = -dW f p r:=by unfold dW;grind
 have d1:bT c p f≠0:=λg=>by
  obtain rfl:=lC e2 e1 n2 n1 g;have:dW p p r=0:=by unfold dW;grind
  grind
 have d2:bT c r f≠0:=λg=>by
  obtain rfl:=lC e3 e1 n3 n1 g;have:dW r p r=0:=by unfold dW;grind
  grind
 have a1:=eP c p f;have a2:=eP c r f;have a3:=eP c p r;have l1:bT c f r<0->bT c r p<0->False:=λg1 g2=>by have:=Oq e1 e3 e2 n1 n3 n2 g1 g2;grind
 have l2:bT c r p<0->bT c p f<0->False:=λg1 g2=>by have:=Oq e3 e2 e1 n3 n2 n1 g1 g2;grind
 have l3:bT c p f<0->bT c f r<0->False:=λg1 g2=>by have:=Oq e2 e1 e3 n2 n1 n3 g1 g2;grind
 clear e1 e2 e3 n1 n2 n3 x1 x2 x3 h;unfold sZ y7 fD;generalize bT c p f=A at *;generalize bT c r f=B at *;generalize bT c p r=C at *;generalize bT c f r=B' at *;generalize bT c f p=A' at *;generalize bT c r p=C' at *
 (repeat' split)<;>first|omega|(exfalso;by_cases g1:B'<0<;>by_cases g2:C'<0<;>by_cases g3:A<0<;>simp_all<;>omega)
theorem RY(x:Rat):0<=x*x:=by
 by_cases g:0<=x
 .exact oG g g
 .have:=oG (show 0≤-x by grind) (show 0≤-x by grind)
  grind
theorem SG{c p:Rat×Rat}{q:Rat}(hq:0<q)(e:(p.1-c.1)*(p.1-c.1)+(p.2-c.2)*(p.2-c.2)=q):p.2=c.2->p.1≠c.1:=λh1 h2=>by
 rw[h1,h2]at e;grind
def cD(a b c d e f:Rat):Rat:=(c-a)*(f-b)-(d-b)*(e-a)
def cU(a b c d e f:Rat):Rat:=((c-a)*(c-a)+(d-b)*(d-b))*(f-b)-((e-a)*(e-a)+(f-b)*(f-b))*(d-b)
def cV(a b c d e f:Rat):Rat:=((e-a)*(e-a)+(f-b)*(f-b))*(c-a)-((c-a)*(c-a)+(d-b)*(d-b))*(e-a)
section
variable {a b c d e f:Rat}
theorem vk{x:Rat}(h:x≠0):x+x≠0:=ν
theorem OT{u v:Rat}(h:¬(u=0/\v=0)):0<u*u+v*v:=by
 have h1:=qj u;have h2:=qj v
 have:u*u+v*v≠0:=λhh=>by
  have a1:u*u=0:=ν
  have a2:v*v=0:=ν
  exact h ⟨by rcases Rat.mul_eq_zero.1 a1 with h|h<;>exact h,by rcases Rat.mul_eq_zero.1 a2 with h|h<;>exact h⟩
 grind
theorem Ro(h:¬cD a b c d e f=0):0<cU a b c d e f/(cD a b c d e f+cD a b c d e f)*(cU a b c d e f/(cD a b c d e f+cD a b c d e f))+cV a b c d e f/(cD a b c d e f+cD a b c d e f)*(cV a b c d e f/(cD a b c d e f+cD a b c d e f)):=by
 have h2:=vk h;refine OT λhh=>?_
 have u0:cU a b c d e f=0:=by have:=hh.1;grind
 have v0:cV a b c d e f=0:=by have:=hh.2;grind
 have e1:cU a b c d e f*(c-a)+cV a b c d e f*(d-b)=((c-a)*(c-a)+(d-b)*(d-b))*cD a b c d e f:=by unfold cU cV cD;grind
 rw[u0,v0]at e1
 have e2:(c-a)*(c-a)+(d-b)*(d-b)=0:=by
  rcases Rat.mul_eq_zero.1 (show((c-a)*(c-a)+(d-b)*(d-b))*cD a b c d e f=0 by rw[<-e1];grind)with h'|h'
  .exact h'
  .exact absurd h' h
 refine h ?_
 have h3:c-a=0/\d-b=0:=by
  refine Decidable.byContradiction λhn=>?_
  have:=OT hn;grind
 unfold cD;rw[h3.1,h3.2];grind
theorem PW(h:¬cD a b c d e f=0){u v:Rat}(hu:u=cU a b c d e f/(cD a b c d e f+cD a b c d e f))(hv:v=cV a b c d e f/(cD a b c d e f+cD a b c d e f)):
 (c-(a+u))*(c-(a+u))+(d-(b+v))*(d-(b+v))=u*u+v*v:=by
 have h2:=vk h;have e1:(c-a)*cU a b c d e f+(d-b)*cV a b c d e f=((c-a)*(c-a)+(d-b)*(d-b))*cD a b c d e f:=by unfold cU cV cD;grind
 have e2:(c-a)*u+(d-b)*v=((c-a)*(c-a)+(d-b)*(d-b))/2:=by
  rw[hu,hv];generalize cD a b c d e f=D at *;generalize cU a b c d e f=U at *;generalize cV a b c d e f=V at *
  grind
 grind
theorem Ri(h:¬cD a b c d e f=0){u v:Rat}(hu:u=cU a b c d e f/(cD a b c d e f+cD a b c d e f))(hv:v=cV a b c d e f/(cD a b c d e f+cD a b c d e f)):
 (e-(a+u))*(e-(a+u))+(f-(b+v))*(f-(b+v))=u*u+v*v:=by
 have h2:=vk h;have e1:(e-a)*cU a b c d e f+(f-b)*cV a b c d e f=((e-a)*(e-a)+(f-b)*(f-b))*cD a b c d e f:=by unfold cU cV cD;grind
 have e2:(e-a)*u+(f-b)*v=((e-a)*(e-a)+(f-b)*(f-b))/2:=by
  rw[hu,hv];generalize cD a b c d e f=D at *;generalize cU a b c d e f=U at *;generalize cV a b c d e f=V at *
  grind
 grind
theorem Rj(h:¬cD a b c d e f=0){u v:Rat}(hu:u=cU a b c d e f/(cD a b c d e f+cD a b c d e f))(hv:v=cV a b c d e f/(cD a b c d e f+cD a b c d e f)):
 (a-(a+u))*(a-(a+u))+(b-(b+v))*(b-(b+v))=u*u+v*v:=ν
end
abbrev P2:=Rat×Rat
structure Rq where
 a:Bool
 l:List Nat
 b:Bool
 m:List Nat
deriving DecidableEq
structure Ent where
 kind:Int
 layer:ByteArray
 pts:List P2
 rad:Rq
structure Chn where
 kind:Nat
 ent:Nat
 fin:Nat
 src:Option P2
 dst:Option P2
def P0:P2:=(0,0)
def aH(e:Ent):List P2 :=
 match e.pts with
 |[a,b]=>if e.kind=1 then[a,b]else[]
 |[a,_,b]=>if e.kind=2 then[a,b]else[]
 |_=>[]
def abh(p q:P2):Rat:=(p.1-q.1)*(p.1-q.1)+(p.2-q.2)*(p.2-q.2)
def aeC(sq:Rat)(v:P2)(b:Option P2)(w:P2):Option P2 :=
 if abh v w<=sq then(match b with|none=>some w|some u=>if abh v w<abh v u then some w else b)else b
def ada(sq:Rat)(v:P2)(l:List P2):Option P2:=l.foldl (aeC sq v) none
abbrev aaI:=List (ByteArray×P2)
def aan(sp:aaI)(s:ByteArray):List P2:=(sp.filter λp=>p.1.toList == s.toList).map (·.2)
def aay(sq:Rat)(sp:aaI)(s:ByteArray)(v:P2):aaI×P2 :=
 match ada sq v (aan sp s)with
 |some u=>(sp,u)
 |none=>(sp++[(s,v)],v)
def jn(i k:Nat)(v w:P2):List Chn:=if v=w then[]else[⟨1,i,k,some v,some w⟩]
structure JL where
 sp:aaI
 ws:List P2
 cs:List Chn
def joinL(sq:Rat)(s:ByteArray)(i:Nat):Nat->aaI->List P2->JL
 |_,sp,[]=>⟨sp,[],[]⟩
 |k,sp,v::r =>
  let a:=aay sq sp s v
  let b:=joinL sq s i (k+1) a.1 r
  ⟨b.sp,a.2::b.ws,jn i k v a.2++b.cs⟩
def dA(e:Ent)(l:List P2):Ent :=
 match l,e.pts with
 |[a,b],[_,_]=>{ e with pts:=[a,b] }
 |[a,b],[_,m,_]=>{ e with pts:=[a,m,b] }
 |_,_=>e
structure JA where
 sp:aaI
 es:List Ent
 cs:List Chn
def aQ(sq:Rat):Nat->aaI->List Ent->JA
 |_,sp,[]=>⟨sp,[],[]⟩
 |i,sp,e::r =>
  let a:=joinL sq e.layer i 0 sp (aH e)
  let b:=aQ sq (i+1) a.sp r
  ⟨b.sp,dA e a.ws::b.es,a.cs++b.cs⟩
def tZ(e:Ent):Bool:=match e.pts with
 |[a,b,c]=>decide (cD a.1 a.2 b.1 b.2 c.1 c.2=0)
 |_=>false
def gu(e:Ent):Nat :=
 match aH e with
 |[a,b]=>if a=b then 2 else if e.kind=2/\tZ e=true then 5 else 0
 |_=>if e.kind=2/\tZ e=true then 5 else 0
def jE(l:List (Ent×Nat)):List (Ent×Nat):=l.filter λx=>gu x.1 == 0
def jF(l:List (Ent×Nat)):List Chn:=(l.filter λx=>!(gu x.1 == 0)).map λx=>⟨gu x.1,x.2,0,none,none⟩
def eqS(a b:ByteArray):Bool:=a.toList == b.toList
def vg(a b c p:P2):Bool :=
 decide (cD a.1 a.2 b.1 b.2 c.1 c.2≠0/\(cU a.1 a.2 b.1 b.2 c.1 c.2*(p.1-a.1)+cV a.1 a.2 b.1 b.2 c.1 c.2*(p.2-a.2)=cD a.1 a.2 b.1 b.2 c.1 c.2*((p.1-a.1)*(p.1-a.1)+(p.2-a.2)*(p.2-a.2))) /\
  (p=a\/p=c\/0<dW a p c*dW a b c))
def mP(a b c d:P2):Bool:=decide ((a=c/\b=d)\/(a=d/\b=c))
def aZ(e f:Ent):Bool :=
 eqS e.layer f.layer&&decide (e.kind=f.kind) &&
 match e.pts,f.pts with
 |[a],[b]=>decide (a=b)&&decide (e.rad=f.rad)
 |[a,b],[c,d]=>mP a b c d
 |[a,m,b],[c,n,d]=>mP a b c d&&(if tZ e||tZ f then tZ e&&tZ f&&decide (m=n)else vg c n d m&&vg a m b n)
 |_,_=>false
def kR(l:List Ent):List (Ent×Bool):=l.foldl (λacc e=>acc++[(e,acc.any λp=>!p.2&&aZ e p.1)]) []
def bn(l:List Ent):List Bool:=(kR l).map (·.2)
def metAt(l:List (Ent×Nat))(s:ByteArray)(i k:Nat)(v:P2)(j:Nat):Bool :=
 match l[j]? with
 |none=>false
 |some x=>eqS x.1.layer s&&(match aH x.1 with
  |[a,b]=>((j != i||0 != k)&&decide (v=a)) ||((j != i||1 != k)&&decide (v=b))
  |_=>false)
def tN(l:List (Ent×Nat))(s:ByteArray)(i k:Nat)(v:P2):Bool:=(List.range l.length).any (metAt l s i k v)
def o8(l:List (Ent×Nat))(s:ByteArray)(n i k:Nat)(v:P2):List Chn:=if tN l s i k v=true then[]else[⟨4,n,k,some v,some v⟩]
def opn(l:List (Ent×Nat))(i:Nat):List Chn :=
 match l[i]? with
 |none=>[]
 |some x=>(match aH x.1 with
  |[a,b]=>o8 l x.1.layer x.2 i 0 a++o8 l x.1.layer x.2 i 1 b
  |_=>[])
def uG(l:List (Ent×Nat)):List Chn:=(List.range l.length).flatMap (opn l)
def kE(l:List (Ent×Nat)):List (Ent×Nat):=((l.zip (bn (l.map (·.1)))).filter λx=>!x.2).map (·.1)
def Jr(l:List (Ent×Nat)):List Chn:=((l.zip (bn (l.map (·.1)))).filter λx=>x.2).map λx=>⟨3,x.1.2,0,none,none⟩
structure RP where
 es:List Ent
 cs:List Chn
def aG(sq:Rat)(es:List Ent):RP :=
 let a:=aQ sq 0 [] es
 let nb:=a.es.zipIdx
 let k:=jE nb
 let l:=kE k
 ⟨l.map (·.1),a.cs++jF nb++Jr k++uG l⟩
theorem uT(p q:P2):abh p q=abh q p:=by unfold abh;grind
def sH(sq:Rat)(v:P2)(l:List P2):Option P2->Prop
 |none=>∀w∈l,sq<abh v w
 |some u=>u∈l/\abh v u<=sq/\∀w∈l,abh v u<=abh v w
theorem Ho{sq:Rat}{v:P2}{l:List P2}{b:Option P2}(h:sH sq v l b)(w:P2):sH sq v (l++[w]) (aeC sq v b w):=by
 unfold aeC;cases b with
 |none =>
  by_cases h1:abh v w<=sq
  .rw[if_pos h1];refine⟨η,h1,λx hx=>?_⟩;rcases iH.1 hx with hx|hx
   .have:=h x hx;grind
   .simp at hx;subst hx;exact Rat.le_refl
  .rw[if_neg h1];intro x hx;rcases iH.1 hx with hx|hx
   .exact h x hx
   .simp at hx;subst hx;exact Rat.not_le.1 h1
 |some u =>
  obtain⟨q1,q2,q3⟩:=h
  by_cases h1:abh v w<=sq
  .rw[if_pos h1]
   by_cases h2:abh v w<abh v u
   .simp only[h2,if_true];refine⟨η,h1,λx hx=>?_⟩;rcases iH.1 hx with hx|hx
    .have:=q3 x hx;grind
    .simp at hx;subst hx;exact Rat.le_refl
   .simp only[h2,if_false];refine⟨by simp[q1],q2,λx hx=>?_⟩;rcases iH.1 hx with hx|hx
    .exact q3 x hx
    .simp at hx;subst hx;exact Rat.not_lt.1 h2
  .rw[if_neg h1];refine⟨by simp[q1],q2,λx hx=>?_⟩;rcases iH.1 hx with hx|hx
   .exact q3 x hx
   .simp at hx;subst hx;grind
theorem y9{sq:Rat}{v:P2}:∀(l:List P2) {pre:List P2} {b:Option P2},sH sq v pre b->sH sq v (pre++l) (l.foldl (aeC sq v) b)
 |[],pre,b,h=>by simpa using h
 |w::r,pre,b,h=>by
  have:=y9 r (Ho h w);simpa using this
theorem Ic(sq:Rat)(v:P2)(l:List P2):sH sq v l (ada sq v l):=by
 have:=y9 (sq:=sq) (v:=v) l (pre:=[]) (b:=none) (λw hw=>by simp at hw);unfold ada;simpa using this
theorem abo(sp:aaI)(t s:ByteArray)(v:P2):aan (sp++[(t,v)]) s=aan sp s++(if eqS t s=true then[v]else[]):=by
 unfold aan eqS;rw[KG,dI];congr 1
 by_cases h:(t.toList == s.toList)=true
 .simp[h]
 .simp[h]
theorem afQ(s:ByteArray):eqS s s=true:=by unfold eqS;simp
def ApS(sq:Rat)(sp:aaI):Prop:=∀s,(aan sp s).Pairwise λa b=>sq<abh a b
def SubS(sp sp':aaI):Prop:=∀s w,w∈aan sp s->w∈aan sp' s
theorem SubS.refl(sp:aaI):SubS sp sp:=λ_ _ h=>h
theorem SubS.trans{a b c:aaI}(h:SubS a b)(k:SubS b c):SubS a c:=λs w hw=>k s w (h s w hw)
theorem iq(sq:Rat)(sp:aaI)(s:ByteArray)(v:P2):((aay sq sp s v).1=sp/\(aay sq sp s v).2∈aan sp s/\abh v (aay sq sp s v).2<=sq) \/
 ((aay sq sp s v).1=sp++[(s,v)]/\(aay sq sp s v).2=v/\∀w∈aan sp s,sq<abh v w):=by
 have h:=Ic sq v (aan sp s);unfold aay;cases hn:ada sq v (aan sp s)with
 |none=>rw[hn]at h;exact .inr ⟨rfl,rfl,h⟩
 |some u=>rw[hn]at h;exact .inl ⟨rfl,h.1,h.2.1⟩
theorem SubS.snoc(sp:aaI)(t:ByteArray)(v:P2):SubS sp (sp++[(t,v)]):=λs w hw=>by rw[abo];exact ng _ hw
theorem ER(sq:Rat)(sp:aaI)(s:ByteArray)(v:P2):SubS sp (aay sq sp s v).1:=by
 rcases iq sq sp s v with⟨h,_⟩|⟨h,_⟩<;>rw[h]
 .exact SubS.refl sp
 .exact SubS.snoc sp s v
theorem um(sq:Rat)(sp:aaI)(s:ByteArray)(v:P2):(aay sq sp s v).2∈aan (aay sq sp s v).1 s:=by
 rcases iq sq sp s v with⟨h,h1,_⟩|⟨h,h1,_⟩<;>rw[h]
 .exact h1
 .rw[h1,abo,if_pos (afQ s)];simp
theorem Jm{sq:Rat}{sp:aaI}(h:ApS sq sp)(s:ByteArray)(v:P2):ApS sq (aay sq sp s v).1:=by
 rcases iq sq sp s v with⟨e,_⟩|⟨e,_,h1⟩<;>rw[e]
 .exact h
 .intro t;rw[abo]
  by_cases ht:eqS s t=true
  .rw[if_pos ht];refine List.pairwise_append.2 ⟨h t,List.pairwise_singleton _ _,λa ha b hb=>?_⟩;simp at hb;subst hb;have:aan sp s=aan sp t:=by unfold eqS at ht;unfold aan;rw[eq_of_beq ht]
   rw[uT];exact h1 a (this▸ha)
  .rw[if_neg ht];simpa using h t
structure JLok (sq:Rat) (s:ByteArray) (i k:Nat) (sp:aaI) (l:List P2) (r:JL):Prop where
 len:r.ws.length=l.length
 sub:SubS sp r.sp
 mem:∀w∈r.ws,w∈aan r.sp s
 cs:∀c∈r.cs,c.kind=1/\c.ent=i/\∃j v w,c.fin=k+j/\l[j]?=some v/\r.ws[j]?=some w/\c.src=some v/\c.dst=some w/\v≠w/\abh v w<=sq
theorem x9(sq:Rat)(s:ByteArray)(i:Nat):∀(k:Nat) (sp:aaI) (l:List P2),JLok sq s i k sp l (joinL sq s i k sp l)
 |k,sp,[]=>⟨rfl,SubS.refl _,λw h=>by simp[joinL]at h,λc h=>by simp[joinL]at h⟩
 |k,sp,v::r=>by
  obtain⟨h1,h2,h3,h4⟩:=x9 sq s i (k+1) (aay sq sp s v).1 r;refine⟨by simp[joinL,h1],(ER sq sp s v).trans h2,λw hw=>?_,λc hc=>?_⟩
  .rcases mQ.1 hw with rfl|hw
   .exact h2 s _ (um sq sp s v)
   .exact h3 w hw
  .rcases iH.1 hc with hc|hc
   .unfold jn at hc;split at hc
    .simp at hc
    .rename_i hne;simp at hc;subst hc;refine⟨rfl,rfl,0,v,_,rfl,rfl,rfl,rfl,rfl,hne, ?_⟩;rcases iq sq sp s v with⟨_,_,g⟩|⟨_,g,_⟩
     .exact g
     .exact absurd g.symm hne
   .obtain⟨q1,q2,j,a,b,q3,q4,q5,q6⟩:=h4 c hc;exact⟨q1,q2,j+1,a,b,ω,q4,q5,q6⟩
theorem yC{sq:Rat}{s:ByteArray}{i:Nat}:∀{k:Nat} {sp:aaI} {l:List P2},ApS sq sp->ApS sq (joinL sq s i k sp l).sp
 |k,sp,[],h=>h
 |k,sp,v::r,h=>yC (l:=r) (Jm h s v)
theorem dL(e:Ent):(aH e=[]/\∀l,l.length=0->dA e l=e)\/(∃a b,e.kind=1/\e.pts=[a,b]/\aH e=[a,b])\/(∃a m b,e.kind=2/\e.pts=[a,m,b]/\aH e=[a,b]):=by
 obtain⟨kd,ly,pts,rd⟩:=e
 match pts with
 |[]=>exact .inl ⟨rfl,λl hl=>by cases l with|nil=>rfl|cons=>simp at hl⟩
 |[a]=>exact .inl ⟨rfl,λl hl=>by cases l with|nil=>rfl|cons=>simp at hl⟩
 |[a,b] =>
  by_cases h:kd=1
  .subst h;exact .inr (.inl ⟨a,b,rfl,rfl,rfl⟩)
  .exact .inl ⟨by simp[aH,h],λl hl=>by cases l with|nil=>rfl|cons=>simp at hl⟩
 |[a,m,b] =>
  by_cases h:kd=2
  .subst h;exact .inr (.inr ⟨a,m,b,rfl,rfl,rfl⟩)
  .exact .inl ⟨by simp[aH,h],λl hl=>by cases l with|nil=>rfl|cons=>simp at hl⟩
 |_::_::_::_::_=>exact .inl ⟨rfl,λl hl=>by cases l with|nil=>rfl|cons=>simp at hl⟩
theorem jV{e:Ent}{l:List P2}(h:l.length=(aH e).length):aH (dA e l)=l/\(dA e l).layer=e.layer/\(dA e l).kind=e.kind/\(dA e l).pts.length=e.pts.length/\(dA e l).rad=e.rad:=by
 obtain⟨kd,ly,pts,rd⟩:=e;rcases dL ⟨kd,ly,pts,rd⟩with⟨h1,h2⟩|⟨a,b,h1,h2,h3⟩|⟨a,m,b,h1,h2,h3⟩
 .rw[h1]at h;rw[h2 l h,h1];exact⟨(zA h).symm,rfl,rfl,rfl,rfl⟩
 .simp only at h1 h2;subst h1 h2;rw[h3]at h
  match l,h with
  |[x,y],_=>exact⟨rfl,rfl,rfl,rfl,rfl⟩
 .simp only at h1 h2;subst h1 h2;rw[h3]at h
  match l,h with
  |[x,y],_=>exact⟨rfl,rfl,rfl,rfl,rfl⟩
theorem rX(e:Ent):dA e (aH e)=e:=by
 obtain⟨kd,ly,pts,rd⟩:=e;rcases dL ⟨kd,ly,pts,rd⟩with⟨h1,h2⟩|⟨a,b,h1,h2,h3⟩|⟨a,m,b,h1,h2,h3⟩
 .exact h2 _ (by rw[h1];rfl)
 .simp only at h1 h2;subst h1 h2;rfl
 .simp only at h1 h2;subst h1 h2;rfl
structure JAok (sq:Rat) (i:Nat) (sp:aaI) (l:List Ent) (r:JA):Prop where
 len:r.es.length=l.length
 sub:SubS sp r.sp
 ent:∀(j:Nat) e e',l[j]?=some e->r.es[j]?=some e'->∃ws,ws.length=(aH e).length/\e'=dA e ws/\∀w∈ws,w∈aan r.sp e.layer
 cs:∀c∈r.cs,c.kind=1/\∃j e e' k v w,c.ent=i+j/\l[j]?=some e/\r.es[j]?=some e'/\c.fin=k/\(aH e)[k]?=some v/\(aH e')[k]?=some w/\c.src=some v/\c.dst=some w/\v≠w/\abh v w<=sq
theorem nH(sq:Rat):∀(i:Nat) (sp:aaI) (l:List Ent),JAok sq i sp l (aQ sq i sp l)
 |i,sp,[]=>⟨rfl,SubS.refl _,λj e e' h=>by simp at h,λc h=>by simp[aQ]at h⟩
 |i,sp,e::r=>by
  obtain⟨a1,a2,a3,a4⟩:=x9 sq e.layer i 0 sp (aH e);obtain⟨h1,h2,h3,h4⟩:=nH sq (i+1) (joinL sq e.layer i 0 sp (aH e)).sp r;refine⟨by simp[aQ,h1],a2.trans h2,λj x x' hx hx'=>?_,λc hc=>?_⟩
  .cases j with
   |zero =>
    simp[aQ]at hx hx';subst hx hx';exact⟨_,a1,rfl,λw hw=>h2 _ _ (a3 w hw)⟩
   |succ j=>exact h3 j x x' (by simpa using hx) (by simpa[aQ]using hx')
  .rcases iH.1 hc with hc|hc
   .obtain⟨q1,q2,j,v,w,q3,q4,q5,q6,q7,q8⟩:=a4 c hc;refine⟨q1,0,e,_,j,v,w,ω,rfl,rfl,ω,q4, ?_,q6,q7,q8⟩;rw[(jV a1).1];exact q5
   .obtain⟨q1,j,x,x',k,v,w,q2,q3,q4,q5⟩:=h4 c hc;exact⟨q1,j+1,x,x',k,v,w,ω,by simpa using q3,by simpa[aQ]using q4,q5⟩
theorem zH{sq:Rat}:∀{i:Nat} {sp:aaI} {l:List Ent},ApS sq sp->ApS sq (aQ sq i sp l).sp
 |i,sp,[],h=>h
 |i,sp,e::r,h=>zH (l:=r) (yC h)
theorem Gl{α:Type}{r:α->α->Prop}(hs:∀a b,r a b->r b a):∀{l:List α},l.Pairwise r->∀{a b:α},a∈l->b∈l->a=b\/r a b
 |[],_,a,b,ha,_=>by cases ha
 |x::l,h,a,b,ha,hb=>by
  obtain⟨h1,h2⟩:=List.pairwise_cons.1 h;rcases mQ.1 ha with e1|ha1<;>rcases mQ.1 hb with e2|hb1
  .exact .inl (e1.trans e2.symm)
  .subst e1;exact .inr (h1 b hb1)
  .subst e2;exact .inr (hs _ _ (h1 a ha1))
  .exact Gl hs h2 ha1 hb1
theorem ApS.eq{sq:Rat}{sp:aaI}(h:ApS sq sp){s:ByteArray}{a b:P2}(ha:a∈aan sp s)(hb:b∈aan sp s)(hf:abh a b<=sq):a=b:=by
 rcases Gl (λa b h=>by rw[uT];exact h) (h s) ha hb with g|g
 .exact g
 .exact absurd hf (Rat.not_le.2 g)
theorem yS{sq:Rat}{sp R:aaI}(hR:ApS sq R)(hs:SubS sp R){s:ByteArray}{v:P2}(hv:v∈aan R s):(aay sq sp s v).2=v/\SubS (aay sq sp s v).1 R:=by
 rcases iq sq sp s v with⟨h1,h2,h3⟩|⟨h1,h2,h3⟩
 .exact⟨(hR.eq hv (hs _ _ h2) h3).symm,by rw[h1];exact hs⟩
 .refine⟨h2,λt w hw=>?_⟩;rw[h1,abo]at hw;rcases iH.1 hw with hw|hw
  .exact hs t w hw
  .by_cases ht:eqS s t=true
   .rw[if_pos ht]at hw;simp at hw;subst hw;have:aan R s=aan R t:=by unfold eqS at ht;unfold aan;rw[eq_of_beq ht]
    exact this▸hv
   .rw[if_neg ht]at hw;cases hw
theorem pV{sq:Rat}{R:aaI}(hR:ApS sq R){s:ByteArray}{i:Nat}:∀{k:Nat} {sp:aaI} {l:List P2},SubS sp R->(∀v∈l,v∈aan R s)->(joinL sq s i k sp l).ws=l/\(joinL sq s i k sp l).cs=[]/\SubS (joinL sq s i k sp l).sp R
 |k,sp,[],hs,_=>⟨rfl,rfl,hs⟩
 |k,sp,v::r,hs,hv=>by
  obtain⟨a1,a2⟩:=yS hR hs (hv v η);obtain⟨h1,h2,h3⟩:=pV hR (i:=i) (k:=k+1) (l:=r) a2 (λw hw=>hv w (by simp[hw]));refine⟨by simp[joinL,a1,h1], ?_,h3⟩;simp only[joinL,a1,h2,jn,if_true,dB]
theorem pR{sq:Rat}{R:aaI}(hR:ApS sq R):∀{i:Nat} {sp:aaI} {l:List Ent},SubS sp R->(∀e∈l,∀v∈aH e,v∈aan R e.layer)->(aQ sq i sp l).es=l/\(aQ sq i sp l).cs=[]
 |i,sp,[],hs,_=>⟨rfl,rfl⟩
 |i,sp,e::r,hs,hv=>by
  obtain⟨a1,a2,a3⟩:=pV hR (i:=i) (k:=0) hs (hv e η);obtain⟨h1,h2⟩:=pR hR (i:=i+1) (l:=r) a3 (λx hx=>hv x (by simp[hx]));exact⟨by simp only[aQ,a1,h1,rX],by simp only[aQ,a2,h2,dB]⟩
open Go.RowKit
section
variable {P:Program} {ρ:Operand->Value} {w:World} {d:Option Tmp} {ty:TypeId} {pos:String} {af:Array Edge} {gd:Option (Nat × Bool)}
theorem agq{x:Operand}{ad:Addr}(hx:ρ x=.pointer (some ad)):(execOp ρ ⟨d,.nilCheck x,ty,pos,af,gd⟩).run P w=.ok (.value (.pointer (some ad))) w:=by
 simp[execOp,hx]
theorem ag8{t:TypeId}{x y:Operand}{g0:Nat}{k v:Value}(hx:ρ x=.map (some g0))(hy:ρ y=k)(h:(Instr.lookup t (.map (some g0)) k false).run P w=.ok v w):(execOp ρ ⟨d,.lookup t x y false,ty,pos,af,gd⟩).run P w=.ok (.value v) w:=by
 simp[execOp,hx,hy,h,Result.andThen]
theorem ae4{t:TypeId}{x y z:Operand}{g0:Nat}{k v:Value}{w':World}(hx:ρ x=.map (some g0))(hy:ρ y=k)(hz:ρ z=v)(h:(Instr.mapUpdate t (.map (some g0)) k v).run P w=.ok () w'):(execOp ρ ⟨d,.mapUpdate t x y z,ty,pos,af,gd⟩).run P w=.ok .skip w':=by
 simp[execOp,hx,hy,hz,h,Result.andThen]
theorem ag1{t:TypeId}{x y:Operand}{u v r:Value}{w':World}(hx:ρ x=u)(hy:ρ y=v)(h:(Builtin.append_ #[t,t] ty #[u,v]).run P w=.ok r w'):(execOp ρ ⟨d,.call ⟨.builtin .append,#[x,y],#[t,t]⟩,ty,pos,af,gd⟩).run P w=.ok (.value r) w':=by
 have hu : #[x,y].map ρ = #[u,v]:=by simp[hx,hy]
 simp only[execOp,resolve,invoke,builtin,hu,Sem.run_bind,Sem.run_pure,Result.andThen_ok];rw[h];simp
theorem af9{t:TypeId}:(execOp ρ ⟨d,.makeMap t none,ty,pos,af,gd⟩).run P w=.ok (.value (.map (some w.heap.size))) (w.alloc (.map #[] 0)):=by
 simp[execOp,run_makeMap]
theorem aii{t e:TypeId}{by_:Nat}{z:Array Value}{x:Operand}{cs:Array Value}(ht:sliceOf P t=some (e,8))(he:Sw.elemOf P e=some (z,8,by_))(hz:z.size=8)(hx:ρ x=.agg cs)(hc:cs.size=8):
 (execOp ρ ⟨d,.buildSlice t 1 #[(0,x)],ty,pos,af,gd⟩).run P w=.ok (.value (.slice (some ⟨w.heap.size,0,none⟩) 1 1)) (w.alloc (.cells cs e)):=by
 have hfill:Instr.fill (λi=>some (i*8,8)) (madeCells z (1*8)) [(0,.agg cs)]=some cs:=by
  obtain⟨l⟩:=cs
  match l,hc with
  |[a0,a1,a2,a3,a4,a5,a6,a7],_ =>
  obtain⟨zl⟩:=z
  match zl,hz with
  |[z0,z1,z2,z3,z4,z5,z6,z7],_=>simp[Instr.fill,madeCells,Value.cells,show Array.range 8 = #[0,1,2,3,4,5,6,7] by decide]
 have hr:=afm (P:=P) (w:=w) (n:=1) (parts:=#[(0,.agg cs)]) ht he ω ω hfill;simp only[execOp,Sem.run_bind];have:(#[(0,x)]:Array (Nat×Operand)).map (λp=>(p.1,ρ p.2)) = #[(0,.agg cs)]:=by simp[hx]
 rw[this,hr];simp
theorem agc{t:TypeId}{x y:Operand}{u:Value}{cs:Array Value}(hx:ρ x=u)(hu:u.cells = #[u])(hy:ρ y=.agg cs)(h:(Instr.build t #[(0,u),(1,.agg cs)]).run P w=.ok (.agg (#[u]++cs)) w):
 (execOp ρ ⟨d,.build t #[(0,x),(1,y)],ty,pos,af,gd⟩).run P w=.ok (.value (.agg (#[u]++cs))) w:=by
 simp only[execOp,Sem.run_bind];have:(#[(0,x),(1,y)]:Array (Nat×Operand)).map (λp=>(p.1,ρ p.2)) = #[(0,u),(1,.agg cs)]:=by simp[hx,hy]
 rw[this,h];simp
end
theorem SlotR.inv{w:World}{X:List Nat}{T:TypeId}{s:Nat}{more:List Bx}{v:Value}{es:List (List Cell)}{og:Option Nat}(h:SlotR w X T s more v es og)(h0:0<es.length):∃g cap uss rest,v=.slice (Option.some ⟨g,0,none⟩) es.length cap/\og=Option.some g/\((g,T,(List.flatten uss++rest).toArray):Bx)∈more/\RepS w X s uss es/\cap*s=(List.flatten uss++rest).length/\es.length<=cap:=by
 cases h with
 |no=>simp at h0
 |some hm hr hc hx hn h0=>exact⟨_,_,_,_,rfl,rfl,hm,hr,hc,hn⟩
theorem SlotR.row{w:World}{X:List Nat}{T:TypeId}{s:Nat}{more:List Bx}{v:Value}{es:List (List Cell)}{og:Option Nat}(h:SlotR w X T s more v es og)(hm:∀q:Bx,q∈more->w.heap[q.1]?=Option.some (Obj.cells q.2.2 q.2.1 (0,0))):∃uss,RepS w X s uss es/\w.ownsRow 0 T s v es.length uss.flatten/\v.ownBlock=og:=by
 cases h with
 |no=>exact⟨[],.nil _ _ _,⟨η,.inl ⟨rfl,rfl⟩⟩,rfl⟩
 |some hm' hr hc hx hn h0 =>
  rename_i g cap uss rest;refine⟨uss,hr,⟨by rw[aaD hr.sz,hr.len],.inr ⟨g,cap,_,rfl,lN _,hm _ hm',hn,hx,by simpa using hc.symm, ?_⟩⟩,rfl⟩;rw[KC];have:uss.flatten.length=es.length*s:=by rw[aaD hr.sz,hr.len]
  rw[<-this,List.take_left' rfl]
theorem afj{w w':World}{T:TypeId}{s n:Nat}{v:Value}{xs:List Value}(h:w.ownsRow 0 T s v n xs)(hk:∀i,i<w.heap.size->w'.heap[i]?=w.heap[i]?):w'.ownsRow 0 T s v n xs:=by
 refine⟨h.1, ?_⟩;rcases h.2 with h|⟨g,cap,cur,h1,h2,h3,h4⟩
 .exact .inl h
 .exact .inr ⟨g,cap,cur,h1,h2,(hk g (lt_of_heap h3)).trans h3,h4⟩
section
variable {P:Program} {ρ:Operand->Value} {w:World} {d:Option Tmp} {ty:TypeId} {pos:String} {af:Array Edge} {gd:Option (Nat × Bool)} {Q:Exit->Act->World->Prop} {l:List Oper}
theorem afz{t:TypeId}{x y:Operand}{p v:Value}{w':World}(hx:ρ x=p)(hy:ρ y=v)(h:(Instr.storeAt t p v).run P w=.ok () w'):(execOp ρ ⟨d,.store t x y,ty,pos,af,gd⟩).run P w=.ok .skip w':=by
 simp only[execOp,hx,hy,Sem.run_bind,h,Result.andThen_ok,Sem.run_pure]
theorem agF{i e:Nat}{o:Oper}{a:Act}{w':World}{K:Act->World->Prop}{v:Value}(ho:l[i]?=some o)(hg:o.guard=none)(hd:o.dst=some e)(hr:(execOp a.eval o).run P w=.ok (.value v) w')(hK:K (a.put (some e) v) w'):wpOp P l.toArray Q i K a w:=by
 refine wop ho hg ?_;unfold Oper.wp;rw[hr];simp only[Oper.upon,hd];exact hK
theorem ahe{i:Nat}{o:Oper}{a:Act}{w':World}{K:Act->World->Prop}(ho:l[i]?=some o)(hg:o.guard=none)(hd:o.dst=none)(hr:(execOp a.eval o).run P w=.ok .skip w')(hK:K (a.put none undef) w'):wpOp P l.toArray Q i K a w:=by
 refine wop ho hg ?_;unfold Oper.wp;rw[hr];simp only[Oper.upon,hd];exact hK
theorem ad7{us vs:Array Value}(h:us.size=vs.size):splice us 0 vs=vs:=by
 have:=acJ us.toList vs.toList 0;simp only[Array.toArray_toList]at this;rw[this];have hd:List.drop vs.size us.toList=[]:=Qb (by simp[h]);simp[hd]
end
theorem ags{P:Program}{fn:Func}{R:Ending->World->Prop}{a:Act}{w:World}{r:ResultVar}{u:Value}(hr:fn.results.toList=[r])(hd:a.defers=[])(h1:(aaO a.tmps r).run P w=.ok u w)(hR:R (.returned u) w):bodyPost P fn R .ret a w :=
 ⟨hd,u,by rw[abm,Sem.run_bind,SL,hr];simp[h1],hR⟩
@[reducible] def aas(p:P2):List Cell:=[zs p.1.num,zl p.1.num,zs p.1.den,zl p.1.den,zs p.2.num,zl p.2.num,zs p.2.den,zl p.2.den]
@[reducible] def aeu(q:Rat):List Cell:=[zs q.num,zl q.num,zs q.den,zl q.den]
def jst(sq:Rat)(sp:aaI)(n:Nat):JS:=⟨aeu sq,λs=>(aan sp s).map aas,n⟩
theorem aie{a b:ByteArray}:eqS a b=true↔a=b:=by
 unfold eqS;constructor
 .intro h;have:=eq_of_beq h;rw[ByteArray.toList_eq,ByteArray.toList_eq]at this;have h2:a.data=b.data:=tY this;cases a;cases b;simp_all
 .rintro rfl;simp
theorem ah5(sq:Rat)(sp:aaI)(n:Nat)(s:ByteArray)(v:P2):(jst sq sp n).add s (aas v)=jst sq (sp++[(s,v)]) (n+1):=by
 unfold jst JS.add;congr 1
 funext x
 rw[abo]
 by_cases h:x=s
 .subst h;rw[if_pos rfl,if_pos (afQ x)];simp
 .rw[if_neg h,if_neg (λe=>h (aie.1 e).symm)];simp
def aaS(sq:Rat)(v:P2)(l:List P2):Nat->Int
 |0=>-1
 |i+1=>if abh v (l.getD i P0)<=sq/\(aaS sq v l i<0\/abh v (l.getD i P0)<abh v (l.getD (aaS sq v l i).toNat P0))then(i:Int)else aaS sq v l i
theorem acA(sq:Rat)(v:P2)(l:List P2):∀i,i<=l.length→-1<=aaS sq v l i/\aaS sq v l i<i/\ada sq v (l.take i)=(if aaS sq v l i<0 then none else some (l.getD (aaS sq v l i).toNat P0))
 |0,_=>⟨by simp[aaS],by simp[aaS],by simp[aaS,ada]⟩
 |i+1,hi=>by
  obtain⟨h1,h2,h3⟩:=acA sq v l i ω;have hlt:i<l.length:=ω
  have ht:l.take (i+1)=l.take i++[l.getD i P0]:=by
   rw[List.take_add_one];simp[eY hlt,jH]
  have hn:ada sq v (l.take (i+1))=aeC sq v (ada sq v (l.take i)) (l.getD i P0):=by
   rw[ht];unfold ada;rw[List.foldl_append];rfl
  rw[hn,h3,show aaS sq v l (i+1)=if abh v (l.getD i P0)<=sq/\(aaS sq v l i<0\/abh v (l.getD i P0)<abh v (l.getD (aaS sq v l i).toNat P0))then(i:Int)else aaS sq v l i from rfl];unfold aeC
  by_cases q1:abh v (l.getD i P0)<=sq
  .by_cases q2:aaS sq v l i<0
   .rw[if_pos ⟨q1,.inl q2⟩,if_pos q1,if_pos q2];refine⟨ω,ω, ?_⟩;rw[if_neg ω];simp
   .rw[if_neg q2,if_pos q1]
    by_cases q3:abh v (l.getD i P0)<abh v (l.getD (aaS sq v l i).toNat P0)
    .rw[if_pos ⟨q1,.inr q3⟩];refine⟨ω,ω, ?_⟩;simp only[q3,if_true];rw[if_neg ω];simp
    .rw[if_neg (λh=>by rcases h.2 with h|h;exact q2 h;exact q3 h)];refine⟨ω,ω, ?_⟩;simp only[q3,if_false,q2]
  .rw[if_neg (λh=>q1 h.1),if_neg q1];exact⟨ω,ω,rfl⟩
section
variable {P:Program} [Wld P] {a:Act} {w:World}
theorem ajr{ops:Array Oper}{Q:Exit->Act->World->Prop}{o:Oper}{rest:List Oper}{f:FuncId}{vs:Array Value}{R:Value->World->Prop}(hg:o.guard=none)(hr:(execOp a.eval o).run P w=.ok (.enter f vs) w)(hc:Calls P f vs w (Ret R))(k:∀u w',R u w'->wpList P ops Q rest (a.put o.dst u) w'):wpList P ops Q (o::rest) a w :=
 wpList_plain hg λK hK=>Does.wp (R:=R) (.inr (.inr ⟨f,vs,hr,hc⟩)) (λu w' h=>hK _ _ (k u w' h))
theorem afw{t:TypeId}{z:List Cell}(htt:aaU P t (.row 5 [(0,1,false),(1,4,true)] z)=true)(hzl:z.length=5){g0:Nat}{us:List Value}(hl:us.length=4):(Instr.build t #[(0,.map (some g0)),(1,.agg us.toArray)]).run P w=.ok (.agg (#[.map (some g0)]++us.toArray)) w:=by
 obtain⟨fl,hun,hfl⟩:=rowT htt;obtain⟨zz,hz,hzz⟩:=ac1 htt rfl;have hzr:=(abt w [] hzz).len
 match us,hl with
 |[x0,x1,x2,x3],_ =>
 obtain⟨zl⟩:=zz;have hzl':zl.length=5:=by simpa[hzl,zeroCells]using hzr
 match zl,hzl' with
 |[y0,y1,y2,y3,y4],_ =>
 unfold zeroOf at hz;cases hq:P.info? t with
 |none=>simp[hq]at hz
 |some i =>
  cases hzi:i.zero with
  |none=>simp[hq,hzi]at hz
  |some v =>
   simp[hq,hzi]at hz;have hr:=run_places (w:=w) hfl
   have hr':(fl.mapM (m:=Sem) λf=>Prod.mk f.offset <$> sizeOf f.type).run P w=.ok #[(0,1),(1,4)] w:=by
    rw[SL];simp[hr]
   have h1':Instr.fill (λi=>(#[(0,1),(1,4)]:Array (Nat×Nat))[i]?) v.cells [(0,.map (some g0)),(1,.agg #[x0,x1,x2,x3])]=some #[.map (some g0),x0,x1,x2,x3]:=by
    rw[hz];simp[Instr.fill,Value.cells,show Array.range 4 = #[0,1,2,3] by decide,show Array.range 1 = #[0] by decide]
   simp only[Instr.build,zeroValue,typeInfo,Sem.run_bind];simp[hq,hzi,run_underlying hun,hr'];simp at h1';simp[h1']
theorem ajj{α β:Type}{f:α->β}{x y:α}{u v:β}(h1:f x=u)(h2:f y=v):#[x,y].map f = #[u,v]:=by simp[h1,h2]
variable [Kp] {N:Nat} {w0:World} {X0:List Nat} {S:List Bx} {M:MM} {e:Env} {b:Bxs}
theorem Sta.var(h:Sta N w0 X0 S M a w e b){t i:Nat}{cs:List Cell}(hx:ld t e=some (.ptr i 0))(hb:ld i b=some (.var cs)):∃g T us,a.tmps.getD t undef=.pointer (some ⟨g,0,none⟩)/\w.heap[g]?=some (.cells us T (0,0))/\RepL w (bl S++X0) us.toList cs:=by
 obtain⟨m,g,hm,hv,hg,hxe⟩:=(h.env t _ hx).ptr_;obtain⟨m',hm',h1,h2,⟨g',h3⟩,h4⟩:=h.box i _ hb;rw[hm]at hm';cases hm';have h8:=h.ms.st.box _ (h.ms.inS i m hm h2 g hg);exact⟨g,m.T,_,hxe,h8.1,by simpa using h4⟩
theorem RepF.agg{B:Nat}{w:World}{X:List Nat}{u:Value}{cs:List Cell}(h:RepF B w X u (.agg cs)):∃us:List Value,u=.agg us.toArray/\RepL w X us cs:=by
 cases h.r with
 |d h=>cases h with
  |agg h=>exact⟨_,rfl,h⟩
end
theorem afJ(w:World)(o:Obj):Below w.heap.size w (w.alloc o):=⟨rfl,rfl,rfl,(by show w.heap.size<=(w.heap.push _).size;rw[Array.size_push];omega),λk hk=>Below.heap_alloc w o k hk⟩
theorem ahu(w:World)(o:Obj):(w.alloc o).heap[w.heap.size]?=some o:=Array.getElem?_push_size
theorem ajb{P:Program}{kT T:TypeId}{s:Nat}{sq:List Cell}{w:World}{X:List Nat}{us:List Value}{g0 n:Nat}(h:RepL w X us sq):aia P kT T s ⟨sq,λ_=>[],n⟩ w X (.map (some g0)::us) [] (g0,#[],0) :=
 ⟨us,rfl,h,⟨lN _,⟨λ_ h=>(by simp at h),η,η⟩,λ_ h=>(by simp at h)⟩,lN _,λ_ => .slice none 0 0,λ_=>none,λk=>rfl,λk => .no,λ_ _ _ h=>by cases h⟩
section
variable {P:Program} [Wld P] [Kp] {N:Nat} {w0:World} {X0:List Nat} {S:List Bx} {M:MM} {e:Env} {b:Bxs} {a:Act} {w:World}
theorem Sta.varo(h:Sta N w0 X0 S M a w e b){i:Nat}{T:TypeId}{us:List Value}{cs:List Cell}(hi:ld i b=none)(hie:mention [i] e=false)(hib:aa3 [i] b=false)(hic:i ∉ abp cs)(hiN:DL N i)
 (hO:RepO w (bl S++X0) M us cs):Conc N w0 X0 ((i,.ptr i 0)::e) ((i,.varo cs)::b) (a.put (some i) (.pointer (some ⟨w.heap.size,0,none⟩))) (w.alloc (.cells us.toArray T)):=by
 have hms:=h.ms.alloc (i:=i) (m:=⟨true,true,some w.heap.size,T,0,0,0,us,none⟩) rfl rfl rfl rfl;have hext:Ext w (bl S++X0) (w.alloc (.cells us.toArray T)) (bl ((w.heap.size,T,us.toArray)::S)++X0):=Ext.alloc _ _ _
 have hM:∀c,c≠i->∀m,M c=some m->(M.set i ⟨true,true,some w.heap.size,T,0,0,0,us,none⟩) c=some m:=λc hc m hm=>by
  rw[MM.set_other _ _ hc];exact hm
 refine⟨_,_,hms,h.x0,by simp[Act.put,h.sz],⟨acD h.df.1 hiN,h.df.2.ext hext⟩,λt v hv=>?_,λc x hx=>?_⟩
 .by_cases hti:i=t
  .subst hti;rw[aap]at hv;cases hv;rw[aaE _ h.sz hiN.1];exact .ptr (MM.set_same _ _ _) rfl rfl
  .rw[aat _ _ hti]at hv;rw[aau _ hti];exact(h.env t v hv).ext hext λj hj m hm=>⟨m,hM j (λe=>by subst e;exact aby hie hv j hj η) m hm,Comp.refl m⟩
 .by_cases hci:i=c
  .subst hci;rw[aap]at hx;cases hx;exact⟨_,MM.set_same _ _ _,rfl,rfl,⟨_,rfl⟩,hO.ext hext λd hd mc hmc=>⟨mc,hM d (λe=>by subst e;exact hic hd) mc hmc,Comp.refl mc⟩⟩
  .rw[aat _ _ hci]at hx;obtain⟨m,h1,h2⟩:=h.box c x hx;exact⟨m,hM c (λe=>hci e.symm) m h1,h2.ext hext λd hd mc hmc=>⟨mc,hM d (λe=>by subst e;exact abl hib c x hx d hd η) mc hmc,Comp.refl mc⟩⟩
end
def aiC:Nat->Code->Code
 |n+1,.seq x y => .seq x (aiC n y)
 |_,_ => .skip
def aiG:Nat->Code->Code
 |n+1,.seq x y=>aiG n y
 |_,c=>c
section
variable {P:Program} [Wld P] [Kp] {τ:Tab} {N:Nat} {w0:World} {X0:List Nat} [hwo:WOk P w0]
theorem ahH(hτ:aaH P τ=true)(hm:P.follows .mixedOrders=true):∀(n:Nat) (c:Code) {QA:Ex->Env->Bxs->Prop} {Q:Exit->Act->World->Prop} {e:Env} {b:Bxs} {a:Act} {w:World},aa6 N (aiC n c)=true->awp (Den P) τ (aiC n c) QA e b->Conc N w0 X0 e b a w ->
 (∀e b a w,QA .normal e b->Conc N w0 X0 e b a w->(aiG n c).wp P Q a w)->(∀x e b a w,x ≠ .normal->QA x e b->Conc N w0 X0 e b a w->Q x.x a w)->c.wp P Q a w
 |0,c,QA,Q,e,b,a,w,ht,hk,hc,h1,h2=>by
  have hk':QA .normal e b:=by cases c<;>exact hk
  have:=h1 e b a w hk' hc;cases c<;>exact this
 |n+1,c,QA,Q,e,b,a,w,ht,hk,hc,h1,h2=>by
  cases c with
  |seq x y =>
   simp only[aiC,aa6,bG]at ht;refine aak (abr hτ hm x ht.1 hk hc λz e b a w hz hc=>?_);cases z with
   |normal=>exact aaG (ahH hτ hm n y ht.2 hz hc h1 h2)
   |ret=>exact agT (h2 .ret _ _ _ _ (by intro h;cases h) hz hc)
   |exit id=>exact acG (h2 (.exit id) _ _ _ _ (by intro h;cases h) hz hc)
  |_=>exact h1 e b a w hk hc
end
section
variable {P:Program} [Wld P] [Kp] {N:Nat} {w0:World} {X0:List Nat} {e:Env} {b:Bxs} {a:Act} {w:World}
theorem Conc.ghostF(h:Conc N w0 X0 e b a w){i j T s k:Nat}{cs:List Cell}(hb:ld j b=some (.var cs))(hk:cs[k]?=some (.v (.slice none 0 0)))(hie:mention [i] e=false)(hi:ld i b=none)(hs:0<s)(hib:aa3 [i] b=false):Conc N w0 X0 e ((i,.grow T s [])::up j (.varo (cs.set k (.ob i 0))) b) a w:=by
 obtain⟨S,M,h⟩:=h;have hij:i≠j:=λe=>by subst e;rw[hi]at hb;cases hb
 have hM:∀c,c≠i->∀m,M c=some m->(M.set i ⟨false,true,none,T,s,0,0,[],none⟩) c=some m:=λc hc m hm=>by rw[MM.set_other _ _ hc];exact hm
 refine⟨S,M.set i ⟨false,true,none,T,s,0,0,[],none⟩,⟨h.ms.st,h.ms.gh.set (λx hx=>by cases hx) (λ_ _ _ _ _ _ _ h=>h) (λ_ _ _ h=>h) (λg' h1 h2=>by cases h2),λc mc hc hco gc hgc=>?_,λc c' mc mc' gc h1 h2 h3 h4 h5 h6=>?_⟩,h.x0,h.sz,h.df,λc v hv=>?_,λc x hx=>?_⟩
 .by_cases hci:c=i
  .subst hci;rw[MM.set_same]at hc;cases hc;cases hgc
  .rw[MM.set_other _ _ hci]at hc;exact h.ms.inS c mc hc hco gc hgc
 .by_cases hci:c=i
  .subst hci;rw[MM.set_same]at h1;cases h1;cases h5
  .by_cases hci':c'=i
   .subst hci';rw[MM.set_same]at h2;cases h2;cases h6
   .rw[MM.set_other _ _ hci]at h1;rw[MM.set_other _ _ hci']at h2;exact h.ms.inj c c' mc mc' gc h1 h2 h3 h4 h5 h6
 .refine(h.env c v hv).ext (Ext.refl _ _) λj hj m hm'=>⟨m, ?_,Comp.refl m⟩
  have hne:j≠i:=λe=>by subst e;exact aby hie hv j hj η
  rw[MM.set_other _ _ hne];exact hm'
 .by_cases hci:i=c
  .subst hci;rw[aap]at hx;cases hx;exact⟨_,MM.set_same _ _ _,rfl,rfl,rfl,⟨rfl,hs⟩,rfl,.inl ⟨rfl,rfl,rfl⟩⟩
  .rw[aat _ _ hci,ace]at hx
   by_cases hcj:j=c
   .subst hcj;simp only[beq_self_eq_true,Nat.beq_refl,cond_true,if_true]at hx;cases hx;obtain⟨m,h1,q1,q2,q3,q4⟩:=h.box j _ hb;refine⟨m,hM j (λe=>hij e.symm) m h1,q1,q2,q3,by rw[q4.len,Hg],λt u c hu hc=>?_⟩
    by_cases htk:t=k
    .subst htk;have hlt:t<cs.length:=(iy.1 hk).1;rw[List.getElem?_set_self hlt]at hc;cases hc;have h5:=q4.get t u _ hu hk;have h6:u=.slice none 0 0:=by cases h5 with|v u h=>rfl
     subst h6;exact .ob (.gs (MM.set_same _ _ _) rfl (gW _) (λ_=>rfl) ⟨_,_,rfl⟩) rfl
    .rw[List.getElem?_set_ne (λe=>htk e.symm)]at hc;exact .c (q4.get t u c hu hc)
   .have hne:ld c b=some x:=by rwa [if_neg (λe=>hcj e.symm)]at hx
    obtain⟨m,h1,h2⟩:=h.box c x hne;exact⟨m,hM c (λe=>hci e.symm) m h1,h2.ext (Ext.refl _ _) λd hd mc hmc=>⟨mc,hM d (λe=>by subst e;exact abl hib c x hne d hd η) mc hmc,Comp.refl mc⟩⟩
end
section
variable {P:Program} [Wld P] [Kp] {N:Nat} {w0:World} {X0:List Nat} {e:Env} {b:Bxs} {a:Act} {w:World}
end
end Go.Sw
namespace Go.Proofs.YtmniihkenijjpaaGreatDoor
open Go Go.RowKit Go.Sw
set_option maxRecDepth 100000
set_option maxHeartbeats 16000000
instance(a b:List Nat):DenI Tryz.prog 197 [.c (lmc a),.c (lmc b)] (a.length<=100000000000/\b.length<=100000000000/\Lb a/\Lb b/\0<val b) (.tup [.c (lmc (pad (KE a b) (val a / val b))),.c (lmc (pad (Hr a b) (val a % val b)))]):=⟨λhp=>ajm ζ λw X u v hX hu hv=>(nZ hX hu.ul hv.ul hp.1 hp.2.1 hp.2.2.1 hp.2.2.2.1 hp.2.2.2.2).mono λe w' ⟨u,he,⟨qs,rs,r0,r1,h1,h2,h3,h4,h5,h6,h7,h8,h9⟩,hb⟩=>⟨u,he,by subst h1;obtain ⟨e1,e2⟩:=IQ h4 h5 h6 h7 h8 h9;rw [<- e1,<- e2];exact ajq (.c h2.rep) (.c h3.rep),hb⟩⟩
instance Xu(a b:Int):DenI Tryz.prog 234 [Z a,Z b] (sz a<=1000000000/\sz b<=1000000000) (Z (a-b)):=⟨λhp=>by
 refine aA Tryz.func234 rfl ?_
 repeat'((try(conv=>whnf));first
  |(with_reducible first|refine aam ?_|refine aao ?_)|(with_reducible refine aav (λ_=>?_) (λ_=>?_)))
 all_goals(try((conv=>whnf);first|rw[Qv ξ]|rw[RS ξ]))
 all_goals(repeat'((try(conv=>whnf));first
  |refine y5 ?_ ?_|apply zaq))
 all_goals(try apply zar)
 all_goals first
  |(rw[fO];exact hp)|(refine KR ?_;omega)⟩
instance Xd(a:Int):DenI Tryz.prog 331 [Z a] (True) (.tup [.int .i64 (if -9223372036854775808<=a/\a<=9223372036854775807 then a else 0),.bool (decide (-9223372036854775808<=a/\a<=9223372036854775807))]):=⟨λhp=>by
 refine aA Tryz.func331 rfl ?_
 repeat'((try(conv=>whnf));first
  |refine aaj ?_|refine y5 ?_ ?_|(with_reducible first|refine aam ?_|refine aao ?_|refine aah (λ_=>?_) (λ_=>?_))|refine zas ζ ?_|apply zaq)
 all_goals(try apply zar)
 all_goals first
  |omega|with_reducible exact Vs ξ|with_reducible exact VG ξ|(have hb:=TN ξ ξ;have hq:=Va hb;((conv=>whnf);refine Sw.Loop.inv (α:=Nat) (λx=>[(1,.ptr 1 0),(4,.int .u64 (val ((lim a.natAbs).drop x):Nat)),(5,.int .i64 ((x:Int)-1))]) (λx=>[(1,.var [zs a,zl a])]) (λx=>x<=(lim a.natAbs).length) (λx=>x) ((lim a.natAbs).length) ?_ ?_ ?_ (λx hx=>?_)))
 all_goals(repeat'((try(conv=>whnf));first
  |(with_reducible first|refine aah (λ_=>?_) (λ_=>?_)|refine aaB ?_ ?_)|apply zaq))
 all_goals(try apply zar)
 all_goals first|(show SubE _ _;repeat'(first|exact trivial|refine And.intro ?_ ?_))|(show SubB _ _;repeat'(first|exact trivial|refine And.intro ?_ ?_))|skip
 all_goals(try rfl)
 all_goals(try simp(disch:=omega) only[aN,qy,fB,xC,aT,bW,wu64,Ap,xK,QC,jO,jR]at *)
 all_goals first
  |omega|rfl|(rw[iC (gW _)];rfl)|(refine U4 hb ?_;rw[show x=0 by omega,List.drop_zero,au];first|exact Au ω ω|exact JI ω ω)|(have hd:=nP (l:=lim a.natAbs) (k:=x) ω hx;have hle:=y8 (lim a.natAbs) (x-1);have hg:=(aV a.natAbs).getD (x-1);((conv=>whnf);exact⟨x-1,⟨⟨rfl,iS (by(try simp(disch:=omega) only[bW,wu64,aT,jO,jR,xK,yO,Jb,Gh,GU,IK,IL])<;>omega),AU ω ω,trivial⟩,⟨rfl,trivial⟩,ω,by show x-1<x;omega⟩⟩))⟩
instance SE(a b:Int):DenI Tryz.prog 200 [Z a,Z b] (sz a<=1000000000/\sz b<=1000000000) (.tup [Z (a.fdiv b),Z (if b=0 then 0 else a.fmod b),.int .i64 (if b=0 then 6 else 0)]):=⟨λhp=>by
 refine aA Tryz.func200 rfl ?_
 repeat'((try(conv=>whnf));first
  |refine y5 ?_ ?_|(with_reducible first|refine aam ?_|refine aao ?_|refine aah (λ_=>?_) (λ_=>?_))|refine zat (λ_=>?_) (λ_=>?_)|refine zas ζ ?_|apply zaq)
 all_goals(try apply zar)
 all_goals(try simp(disch:=assumption) only[au,iw,nI,oL,pJ,aN,ZB,XL]at *)
 all_goals(try simp(disch:=assumption) only[au,iw,nI,oL,pJ,aN,ZB,XL]at *)
 all_goals first
  |omega|(have hb0:b=0:=ω;subst hb0;exact JC a)|with_reducible exact mF _ _|with_reducible exact JJ hp.1 hp.2 ξ|with_reducible exact⟨WQ hp.1 _,WU⟩|with_reducible exact⟨Xi hp.1 _,hp.2⟩|with_reducible exact Ig ξ ξ (Oh (r:=a.natAbs%b.natAbs) ω ξ)|with_reducible exact yV ξ (.inr (NM (r:=a.natAbs%b.natAbs) ω ξ))|with_reducible exact yV ξ (.inl ω)⟩
instance WS(a b:Int):DenI Tryz.prog 156 [Z a,Z b] (sz a<=1000000000/\sz b<=1000000000) (Z ((Nat.gcd a.natAbs b.natAbs:Nat):Int)):=⟨λhp=>by
 refine aA Tryz.func156 rfl ?_
 repeat'((try(conv=>whnf));first
  |refine y5 ?_ ?_|refine zas ζ ?_)
 all_goals(try apply zar)
 all_goals first
  |((conv=>whnf);refine Sw.Loop.inv (α:=Nat×Nat) (λx=>[(4,.ptr 4 0),(5,.ptr 5 0),(6,.ptr 6 0)]) (λx=>[(4,.var [.v (.bool false),.sl 1 []]),(5,.var [zs (x.1:Nat),zl (x.1:Nat)]),(6,.var [zs (x.2:Nat),zl (x.2:Nat)])]) (λx=>Nat.gcd x.1 x.2=Nat.gcd a.natAbs b.natAbs/\sz ((x.1:Nat):Int)<=1000000000/\sz ((x.2:Nat):Int)<=1000000000) (λx=>x.2) (a.natAbs,b.natAbs) ?_ ?_ ?_ (λx hx=>?_))|skip
 all_goals(repeat'((try(conv=>whnf));first
  |refine aaj ?_|refine y5 ?_ ?_|(with_reducible first|refine aam ?_|refine aao ?_|refine aah (λ_=>?_) (λ_=>?_))|refine aax ?_ ?_|refine zas ζ ?_|apply zaq))
 all_goals(try apply zar)
 all_goals first
  |((conv=>whnf);refine Sw.Loop.inv (α:=Nat×Nat) (λy=>[(4,.ptr 4 0),(7,.int .u64 (y.1:Nat)),(9,.int .u64 (y.2:Nat))]) (λy=>[(4,.var [.v (.bool false),.sl 1 []])]) (λy=>y.1<1000000000000000000/\y.2<1000000000000000000/\Nat.gcd y.1 y.2=Nat.gcd a.natAbs b.natAbs) (λy=>y.2) x ?_ ?_ ?_ (λy hy=>?_))|skip
 all_goals(repeat'((try(conv=>whnf));first
  |refine y5 ?_ ?_|(with_reducible refine aah (λ_=>?_) (λ_=>?_))|refine aax ?_ ?_|refine zas ζ ?_|apply zaq))
 all_goals(try apply zar)
 all_goals first|(show SubE _ _;repeat'(first|exact trivial|refine And.intro ?_ ?_))|(show SubB _ _;repeat'(first|exact trivial|refine And.intro ?_ ?_))|skip
 all_goals(try rfl)
 all_goals(try simp only[aN]at *)
 all_goals first
  |with_reducible exact aV _|with_reducible exact mF _ _|exact Ie _ _ (by rw[au];rfl)|exact⟨trivial,hp.1,hp.2⟩|exact ZL ξ|exact⟨CU ξ,CU ξ,hx.1⟩|with_reducible exact Xn hx.2.1 hx.2.2 ξ|omega|with_reducible exact MQ (Vu ξ) hx.1 (au _)|with_reducible exact MQ ω hy.2.2 (gU _ _ ω)|(have h1:=hy.1;have h2:=hy.2.1;have h3:y.1%y.2<y.2:=oO _ ω;((conv=>whnf);exact⟨(y.2,y.1%y.2),⟨⟨rfl,rfl,YA,trivial⟩,⟨rfl,trivial⟩,⟨by show y.2<_;omega,by show y.1%y.2<_;omega,nY hy.2.2 rfl⟩,h3⟩⟩))|(have h0:=X4 ξ;have h3:x.1%x.2<x.2:=oO _ h0;((conv=>whnf);exact⟨(x.2,x.1%x.2),⟨⟨rfl,rfl,rfl,trivial⟩,⟨rfl,rfl,Ie _ _ (ZN ξ),trivial⟩,⟨nY hx.1 rfl,hx.2.2,aU (iY (by rw[AP,AP];exact Nat.le_of_lt h3)) hx.2.2⟩,h3⟩⟩))|(have h0:=hx.2.1;unfold sz at h0;omega)⟩
instance X6:DenI Tryz.prog 158 [] (True) (Z 1):=⟨λhp=>by
 refine aA Tryz.func158 rfl ?_
 repeat'((try(conv=>whnf));first
  |refine y5 ?_ ?_|apply zaq)
 all_goals(try apply zar)
 all_goals first|rfl|decide⟩
instance Wv(n:Int):DenI Tryz.prog 222 [Z n] (True) (R (n:Rat)):=⟨λhp=>by
 refine aA Tryz.func222 rfl ?_
 repeat'((try(conv=>whnf));first
  |refine aaj ?_|refine zas ζ ?_|apply zaq)
 rfl⟩
instance Wn(a b:Int):DenI Tryz.prog 159 [Z a,Z b] (sz a<=1000000000/\sz b<=1000000000) (Z (a.fdiv b)):=⟨λhp=>by
 refine aA Tryz.func159 rfl ?_
 repeat'((try(conv=>whnf));first
  |refine y5 ?_ ?_|apply zaq)
 all_goals(try apply zar)
 all_goals first|rfl|exact hp⟩
instance UN(n d:Int):DenI Tryz.prog 121 [Z n,Z d] (d≠0/\sz n<=1000000000/\sz d<=1000000000) (R ((n:Rat) / d)):=⟨λhp=>by
 refine aA Tryz.func121 rfl ?_
 repeat'((try(conv=>whnf));first
  |refine aaj ?_|refine y5 ?_ ?_|(with_reducible first|refine aah (λ_=>?_) (λ_=>?_)|refine aav (λ_=>?_) (λ_=>?_))|refine zas ζ ?_|apply zaq)
 all_goals(try apply zar)
 all_goals obtain⟨h0,h1,h2⟩:=hp
 all_goals(try simp only[dO]at *)
 all_goals first
  |(show aai _=_;first|(by_cases hd:d<0;(obtain⟨q1,q2⟩:=NQ (n:=n) (d:=d) hd;first|exact CQ q1 q2|(refine CQ ?_ ?_<;>simp_all));(obtain⟨q1,q2⟩:=vM (n:=n) (d:=d) ω;first|exact CQ q1 q2|(refine CQ ?_ ?_<;>simp_all))))|((try simp only[fO]);(repeat' apply And.intro)<;>first|assumption|exact QM (by(try simp only[fO]);assumption) (by(try simp only[fO]);assumption))⟩
instance XD(n:Int):DenI Tryz.prog 179 [.int .i64 n] (-9223372036854775808<=n/\n<=9223372036854775807) (R (n:Rat)):=⟨λhp=>by
 refine aA Tryz.func179 rfl ?_
 repeat'((try(conv=>whnf));first
  |refine aaj ?_|refine y5 ?_ ?_|apply zaq)
 all_goals(try apply zar)
 all_goals first
  |(show aai _=_;rfl)|exact zax⟩
instance Yn(a:Rat):DenI Tryz.prog 49 [R a] (True) (.int .i64 (aC a)):=⟨λhp=>by
 refine aA Tryz.func49 rfl ?_
 repeat'((try(conv=>whnf));first
  |refine aaj ?_|apply zaq)
 all_goals(try simp only[dO]at *)
 all_goals first
  |(show aai _=_;rfl)⟩
instance Yt(a:Rat):DenI Tryz.prog 180 [R a] (rz a<=100000000) (R (-a)):=⟨λhp=>by
 refine aA Tryz.func180 rfl ?_
 repeat'((try(conv=>whnf));first
  |refine y5 ?_ ?_|refine zas ζ ?_|apply zaq)
 all_goals(try apply zar)
 all_goals first
  |(show aai _=_;rfl)|exact zax⟩
instance YI(a b:Rat):DenI Tryz.prog 91 [R a,R b] (rz a<=100000000/\rz b<=100000000) (R (a*b)):=⟨λhp=>by
 refine aA Tryz.func91 rfl ?_
 repeat'((try(conv=>whnf));first
  |refine y5 ?_ ?_|refine zas ζ ?_|apply zaq)
 all_goals(try apply zar)
 all_goals first
  |(show aai _=_;exact congrArg R (mul_div a b))|exact zax⟩
instance Y1(a b:Rat):DenI Tryz.prog 163 [R a,R b] (rz a<=100000000/\rz b<=100000000) (R (a+b)):=⟨λhp=>by
 refine aA Tryz.func163 rfl ?_
 repeat'((try(conv=>whnf));first
  |refine aaj ?_|refine y5 ?_ ?_|(with_reducible refine aah (λ_=>?_) (λ_=>?_))|refine zas ζ ?_|apply zaq)
 all_goals(try apply zar)
 all_goals(try simp only[dO]at *)
 all_goals first
  |(show aai _=_;first|exact congrArg R (add_div a b)|exact congrArg R (He a b ξ))|exact zax⟩
instance YV(a b:Rat):DenI Tryz.prog 162 [R a,R b] (rz a<=100000000/\rz b<=100000000) (R (a-b)):=⟨λhp=>by
 refine aA Tryz.func162 rfl ?_
 repeat'((try(conv=>whnf));first
  |refine y5 ?_ ?_|refine zas ζ ?_|apply zaq)
 all_goals(try apply zar)
 all_goals first
  |(show aai _=_;exact congrArg R (Rat.sub_eq_add_neg a b).symm)|exact zax⟩
instance Wj(a:Rat):DenI Tryz.prog 332 [R a] (rz a<=100000000) (Z a.floor):=⟨λhp=>by
 refine aA Tryz.func332 rfl ?_
 repeat'((try(conv=>whnf));first
  |refine y5 ?_ ?_|apply zaq)
 all_goals(try apply zar)
 all_goals first
  |(show aai _=_;exact congrArg Z (zh a))|exact zax⟩
end Go.Proofs.YtmniihkenijjpaaGreatDoor
