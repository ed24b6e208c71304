/-
  Rules of the abstract run, plain laws, and what functions answer, for the law RepairReport.
  Conditions: none.
-/
import Derived.Test.YtmniihkenijjpaaGreatDoorU8
set_option linter.all false
set_option maxHeartbeats 16000000
namespace Go.Sw
open Go Go.RowKit
open Go.WideElems (rd rg pl)
def JS.add(st:JS)(k:ByteArray)(c:List Cell):JS:=⟨st.sq,λx=>if x=k then st.f x++[c]else st.f x,st.n+1⟩
theorem jmore{w w3:World}{more more':List Bx}{g':Nat}{T:TypeId}{cur:Array Value}{og:Option Nat}(hm':more'=(g',T,cur)::more.filter λq=>!(decide (og=some q.1)))(hg:og=some g'\/w.heap.size<=g')(hog:∀g,og=some g->g∈bl more)(hl:∀q:Bx,q∈more->q.1<w.heap.size)
 (hn:w3.heap[g']?=some (Obj.cells cur T (0,0))) (hk:∀q:Bx,q∈more->og≠some q.1->w3.heap[q.1]?=some (Obj.cells q.2.2 q.2.1 (0,0))) (hnd:more.Pairwise λa b=>a.1≠b.1) :
 (∀q:Bx,q∈more'->(q.1∈bl more\/w.heap.size<=q.1)/\w3.heap[q.1]?=some (Obj.cells q.2.2 q.2.1 (0,0)))/\more'.Pairwise λa b=>a.1≠b.1:=by
 subst hm';refine⟨λq hq=>?_,List.pairwise_cons.2 ⟨λq hq=>?_,hnd.filter _⟩⟩
 .rcases pV.1 hq with rfl|hq
  .refine⟨?_,hn⟩;rcases hg with h|h
   .exact .inl (hog _ h)
   .exact .inr h
  .obtain⟨h1,h2⟩:=yg.1 hq;exact⟨.inl (dR.2 ⟨q,h1,rfl⟩),hk q h1 (by simpa using h2)⟩
 .obtain⟨h1,h2⟩:=yg.1 hq;have h2':og≠some q.1:=by simpa using h2
  intro e;simp only at e;rcases hg with h|h
  .exact h2' (by rw[h,e])
  .have:=hl q h1;omega
theorem fit_size{P:Program}{kT:TypeId}{es es':Array MapEntry}{kl:Lit}{d:DataW Value}{n:Nat}(h:(es'.toList.map (rg P kT Rv)).foldr DataW.insert []=ChangeMaps.putKey kl d ((es.toList.map (rg P kT Rv)).foldr DataW.insert []))(hn:es.size<=n):es'.size<=n+1:=by
 have e1:es'.size=((es'.toList.map (rg P kT Rv)).foldr DataW.insert []).length:=by rw[length_sorted];simp
 rw[e1,h];unfold ChangeMaps.putKey;rw[length_insert];have e2:=WZ (ChangeMaps.notKey kl) ((es.toList.map (rg P kT Rv)).foldr DataW.insert []);rw[length_sorted]at e2;simp at e2;omega
theorem jput{P:Program}{mT kT sT T:TypeId}{s:Nat}{st:JS}{w w1 w2:World}{X:List Nat}{us:List Value}{more:List Bx}{es:Array MapEntry}{ck g0:Nat}{us':List Value}{val:ByteArray->Value}{og:ByteArray->Option Nat}{k:ByteArray}{v':Value}{vs:List Value}{vC:List Cell}{uss:List (List Value)}
 (hkT:P.underlying kT=some .string) (hmT:P.underlying mT=some (.map kT sT)) (hs0:0<s)
 (hu:us=.map (some g0)::us') (hus:RepL w X us' st.sq) (hF:Go.WideElems.Fit P kT Rv es ck) (hn:es.size<=st.n) (hroom:st.n<maxLen) (hv:∀k,(datum P kT es).atKey (.string k.data.toList) (DataW.held (Value.slice none 0 0))=DataW.held (val k)) (hsl:∀k,SlotR w X T s more (val k) (st.f k) (og k)) (hinj:∀k1 k2 g,og k1=some g->og k2=some g->k1=k2)
 (hX:∀q:Bx,q∈more->q.1∈X/\w.heap[q.1]?=some (Obj.cells q.2.2 q.2.1 (0,0))) (hnd:more.Pairwise λa b=>a.1≠b.1) (hmap:w.heap[g0]?=some (Obj.map es ck)) (hk:k.size<=maxLen)
 (hvs:RepL w X vs vC) (hvl:vs.length=s) (huss:RepS w X s uss (st.f k))
 (hb1:Below w.heap.size w w1) (hown:w2.ownsRow 0 T s v' ((st.f k).length+1) (uss.flatten++vs)) (hgr:w1.grownBy w2 (val k).ownBlock) (hob:v'.ownBlock=(val k).ownBlock\/v'.ownBlock=some w1.heap.size) (hgo:(val k).ownBlock=og k) :
 ∃w3 mo' more',(Instr.mapUpdate mT (.map (some g0)) (.string k) v').run P w2=.ok () w3/\mo'.1=g0/\w3.heap[g0]?=some (Obj.map mo'.2.1 mo'.2.2)/\(∀q:Bx,q∈more'->(q.1∈bl more\/w1.heap.size<=q.1)/\w3.heap[q.1]?=some (Obj.cells q.2.2 q.2.1 (0,0)))/\(more'.Pairwise λa b=>a.1≠b.1) /\
  (w3.os=w.os/\w3.tape=w.tape/\w3.output=w.output/\w.heap.size<=w3.heap.size/\∀i,i<w.heap.size->i≠g0->i ∉ bl more->w3.heap[i]?=w.heap[i]?)/\(∀i,i<w1.heap.size->i≠g0->og k≠some i->w3.heap[i]?=w1.heap[i]?)/\jrep P kT T s (st.add k vC) w3 (bl more'++X) us more' mo':=by
 have hkey:keyOf P kT (.string k)=some (.string k.data.toList):=by simp[keyOf,hkT,mapKey,hk]
 have hg0:=lt_of_heap hmap;have hlt:∀q:Bx,q∈more->q.1<w.heap.size:=λq hq=>lt_of_heap (hX q hq).2
 have hne0:∀q:Bx,q∈more->q.1≠g0:=λq hq e=>by
  have:=(hX q hq).2;rw[e,hmap]at this;cases this
 have hogm:∀k g,og k=some g->g∈bl more/\g<w.heap.size/\g≠g0:=by
  intro k1 g1 h1;have h6:=hsl k1;rw[h1]at h6;generalize val k1=vx at h6;generalize st.f k1=fx at h6;cases h6 with
  |some hm hr hc hx hn h0=>exact⟨dR.2 ⟨_,hm,rfl⟩,hlt _ hm,hne0 _ hm⟩
 have hb0:(val k).ownBlock≠some g0:=by rw[hgo];exactλe=>(hogm k g0 e).2.2 rfl
 have hmap2:w2.heap[g0]?=some (Obj.map es ck):=(hgr.block g0 (AP hg0 hb1.size) (λe=>hb0 e.symm)).trans ((hb1.block g0 hg0).trans hmap);obtain⟨es',ck',hrun,hF',hput,_⟩:=Maps.fit_store (R':=Rv) (Maps.string_keyed hkT) hmT hmap2 hF (Nat.lt_of_le_of_lt hn hroom) (λ_ _ _ _ hz=>hz) hkey (show Rv v'=some (DataW.held v',[])from rfl);rcases hown.2 with⟨_,h0⟩|⟨g',cap,cur,hv',hb',hg',hle,hmx,hcs,htk⟩
 .omega
 have hg'2:og k=some g'\/g'=w1.heap.size:=by
  rw[hv']at hob;rcases hob with h|h
  .left;rw[<-hgo,<-h];rfl
  .right;simpa[Value.ownBlock]using h
 have hg'0:g'≠g0:=λe=>by rw[e,hmap2]at hg';cases hg'
 let w3:=ChangeMaps.setBlock w2 g0 (.map es' ck')
 have hsame:w3.heap[g0]?=some (Obj.map es' ck'):=ChangeMaps.heap_setBlock_same hmap2 _;have hoth:∀i,i≠g0->w3.heap[i]?=w2.heap[i]?:=λi hi=>ChangeMaps.heap_setBlock_other hmap2 _ hi
 have h31:∀i,i<w1.heap.size->i≠g0->og k≠some i->w3.heap[i]?=w1.heap[i]?:=λi hi h1 h2=>(hoth i h1).trans (hgr.block i hi (λe=>h2 (by rw[<-hgo,<-e])))
 have h30:∀i,i<w.heap.size->i≠g0->og k≠some i->w3.heap[i]?=w.heap[i]?:=λi hi h1 h2=>(h31 i (AP hi hb1.size) h1 h2).trans (hb1.block i hi)
 have hsz:w.heap.size<=w3.heap.size:=by
  have:w3.heap.size=w2.heap.size:=by simp[w3,ChangeMaps.setBlock]
  rw[this];exact aP hb1.size hgr.size
 obtain⟨hM,hP⟩:=jmore (w:=w1) (w3:=w3) (more:=more) (g':=g') (T:=T) (cur:=cur) (og:=og k) rfl (by
  rcases hg'2 with h|h
  .exact .inl h
  .right;rw[h];exact gW _) (λg h=>(hogm k g h).1) (λq hq=>AP (hlt q hq) hb1.size) ((hoth g' hg'0).trans hg') (λq hq h=>(h30 q.1 (hlt q hq) (hne0 q hq) h).trans (hX q hq).2) hnd
 have hext:Ext w X w3 (bl ((g',T,cur)::more.filter λq=>!(decide (og k=some q.1)))++X):=by
  refine⟨hsz,λi hi hx hnm=>?_⟩;have hi0:i≠g0:=λe=>hnm _ _ (e▸hmap)
  have hik:og k≠some i:=λe=>by
   obtain⟨q,hq,rfl⟩:=dR.1 (hogm k i e).1;exact hx (hX q hq).1
  refine⟨h30 i hi hi0 hik,λhm=>?_⟩;rcases jP.1 hm with hm|hm
  .obtain⟨q,hq,rfl⟩:=dR.1 hm;rcases(hM q hq).1 with h|h
   .obtain⟨p,hp,hpe⟩:=dR.1 h;exact hx (hpe▸(hX p hp).1)
   .have:=hb1.size;omega
  .exact hx hm
 refine⟨w3,(g0,es',ck'),_,hrun,rfl,hsame,hM,hP,⟨hgr.os.trans hb1.os,hgr.tape.trans hb1.tape,hgr.output.trans hb1.output,hsz,λi hi h1 h2=>h30 i hi h1 (λe=>h2 (hogm k i e).1)⟩,h31,us',hu,hus.ext hext,hF', ?_, ?_⟩
 .exact fit_size hput hn
 .have hD:datum P kT es'=(datum P kT es).put (.string k.data.toList) (.held v'):=by unfold datum;rw[DataW.put_eq,hput]
  refine⟨λx=>if x=k then v' else val x,λx=>if x=k then some g' else og x,λx=>?_,λx=>?_,λk1 k2 g1 h1 h2=>?_⟩
  .show(datum P kT es').atKey _ _=_;rw[hD]
   by_cases hx:x=k
   .subst hx;refine uo ?_ (congrArg DataW.held (if_pos rfl).symm);exact Maps.atKey_put_same (D:=datum P kT es) ⟨_,rfl⟩ (k:=.string x.data.toList) trivial _ _
   .refine uo ?_ (congrArg DataW.held (if_neg hx).symm);rw[Maps.atKey_put_other (λe=>hx ?_)]
    .exact hv x
    .injection e with e
     have:x.data=k.data:=yD e;cases x;cases k;simp_all
  .by_cases hx:x=k
   .subst hx;simp only[if_true,JS.add];rw[hv']
    have hR:RepS w X s (uss++[vs]) (st.f x++[vC]):=huss.append ⟨rfl,λu hu=>by simp at hu;subst hu;exact hvl,λi a c h1 h2=>by
     cases i with
     |zero=>simp at h1 h2;subst h1 h2;exact hvs
     |succ i=>simp at h1⟩
    have hfl:cur=((uss++[vs]).flatten++cur.toList.drop (((st.f x).length+1)*s)).toArray:=by
     have e1:(uss++[vs]).flatten=uss.flatten++vs:=by simp
     rw[e1,<-htk,Gg]
    have hl:(st.f x++[vC]).length=(st.f x).length+1:=by simp
    rw[<-hl];refine .some (uss:=uss++[vs]) (rest:=cur.toList.drop (((st.f x).length+1)*s)) ?_ (hR.ext hext) ?_ hmx (by rw[hl];exact hle) (by rw[hl];omega)
    .rw[<-hfl];simp
    .have:((uss++[vs]).flatten++cur.toList.drop (((st.f x).length+1)*s)).length=cur.size:=by
      conv=>rhs;rw[hfl]
      simp
     rw[this,hcs]
   .simp only[if_neg hx,JS.add];have h6:=hsl x;generalize hgx:og x=ox at h6;generalize hvx:val x=vx at h6;generalize hfx:st.f x=fx at h6;cases h6 with
    |no=>exact .no
    |some hm hr hc hx' hn' h0' =>
     refine .some (CO _ (yg.2 ⟨hm, ?_⟩)) (hr.ext hext) hc hx' hn' h0';simp only[uX,decide_eq_false_iff_not];exactλe=>hx (hinj x k _ hgx e)
  .replace h1:(if k1=k then some g' else og k1)=some g1:=h1;replace h2:(if k2=k then some g' else og k2)=some g1:=h2
   have key:∀x,x≠k->og x=some g'->False:=λx hx h=>by
    rcases hg'2 with h3|h3
    .exact hx (hinj x k g' h h3)
    .have:=(hogm x g' h).2.1;have:=hb1.size;omega
   by_cases e1:k1=k<;>by_cases e2:k2=k
   .rw[e1,e2]
   .rw[if_pos e1]at h1;rw[if_neg e2]at h2;cases h1;exact(key k2 e2 h2).elim
   .rw[if_neg e1]at h1;rw[if_pos e2]at h2;cases h2;exact(key k1 e1 h1).elim
   .rw[if_neg e1]at h1;rw[if_neg e2]at h2;exact hinj k1 k2 g1 h1 h2
end Go.Sw
namespace Go.Sw
open Go
def hf(c p:Rat×Rat):Int:=if c.2<p.2\/(p.2=c.2/\c.1<p.1)then 0 else 1
def dw(c p q:Rat×Rat):Int:=if hf c p=hf c q then(if hf c p=0 then -(dG p.1 q.1)else dG p.1 q.1)else hf c p-hf c q
def AU(c f p:Rat×Rat):Int:=if dw c p f=0 then 0 else if dw c p f>0 then 1 else 2
def uf(c f p q:Rat×Rat):Int:=if AU c f p=AU c f q then gB (dw c p q)else gB (AU c f p-AU c f q)
def iW(c p q:Rat×Rat):Int:=if hf c p=hf c q then(if hf c p=0 then -(dG p.1 q.1)else dG p.1 q.1)else(if hf c q=0 then -1 else 1)
def ny(c f p q:Rat×Rat):Int:=if(iW c p f<0)↔(iW c q f<0)then iW c p q else(if iW c q f<0 then -1 else 1)
theorem qm(c p:Rat×Rat):hf c p=0\/hf c p=1:=by unfold hf;split<;>simp
theorem Gp(c f p q:Rat×Rat):ny c f p q<=0↔uf c f p q<=0:=by
 rcases qm c f with hf1|hf1<;>rcases qm c p with hp|hp<;>rcases qm c q with hq|hq <;>
  (simp only[ny,uf,iW,AU,dw,hf1,hp,hq];unfold dG gB;grind)
@[reducible] def wI(p:Rat × Rat):Rat × Rat:=(-p.1,p.2)
inductive Cls (c p:Rat × Rat):Prop where
 |r (h1:p.2=c.2) (h2:c.1<p.1) (a:hf c p=0) (b:hf (wI c) (wI p)=1)
 |u (h1:c.2<p.2) (a:hf c p=0) (b:hf (wI c) (wI p)=0)
 |l (h1:p.2=c.2) (h2:p.1<c.1) (a:hf c p=1) (b:hf (wI c) (wI p)=0)
 |d (h1:p.2<c.2) (a:hf c p=1) (b:hf (wI c) (wI p)=1)
theorem cls{c p:Rat×Rat}(h:p.2=c.2->p.1≠c.1):Cls c p:=by
 by_cases h1:c.2<p.2
 .exact .u h1 (by unfold hf;rw[if_pos (.inl h1)]) (by unfold hf;rw[if_pos (.inl h1)])
 .by_cases h2:p.2=c.2
  .by_cases h3:c.1<p.1
   .exact .r h2 h3 (by unfold hf;rw[if_pos (.inr ⟨h2,h3⟩)]) (by unfold hf;rw[if_neg];simp only[not_or];exact⟨h1,ν⟩)
   .have:=h h2;exact .l h2 ν (by unfold hf;rw[if_neg];grind) (by unfold hf;rw[if_pos];right;exact⟨h2,ν⟩)
  .exact .d ν (by unfold hf;rw[if_neg];grind) (by unfold hf;rw[if_neg];grind)
structure Onc (c a b:Rat × Rat):Prop where
 r:a.2=c.2->c.1<a.1->b.1<=a.1/\(b.2≠c.2->b.1<a.1)
 l:a.2=c.2->a.1<c.1->a.1<=b.1/\(b.2≠c.2->a.1<b.1)
theorem GH{c f p q:Rat×Rat}(hf_:f.2=c.2->f.1≠c.1)(hp_:p.2=c.2->p.1≠c.1)(hq_:q.2=c.2->q.1≠c.1)(h1:Onc c f p)(h2:Onc c p f)(h3:Onc c f q)(h4:Onc c q f)(h5:Onc c p q)(h6:Onc c q p):
 ny (wI c) (wI f) (wI p) (wI q)<=0↔uf c q p f<=0:=by
 obtain⟨r1,l1⟩:=h1;obtain⟨r2,l2⟩:=h2;obtain⟨r3,l3⟩:=h3;obtain⟨r4,l4⟩:=h4;obtain⟨r5,l5⟩:=h5;obtain⟨r6,l6⟩:=h6
 rcases cls hf_ with⟨a1,a2,a3,a4⟩|⟨a1,a3,a4⟩|⟨a1,a2,a3,a4⟩|⟨a1,a3,a4⟩<;>rcases cls hp_ with⟨b1,b2,b3,b4⟩|⟨b1,b3,b4⟩|⟨b1,b2,b3,b4⟩|⟨b1,b3,b4⟩<;>rcases cls hq_ with⟨c1,c2,c3,c4⟩|⟨c1,c3,c4⟩|⟨c1,c2,c3,c4⟩|⟨c1,c3,c4⟩ <;>
  (simp only[ny,uf,iW,AU,dw,a3,a4,b3,b4,c3,c4];unfold dG gB;first|grind|(clear r1 l1 r2 l2 r3 l3 r4 l4 r5 l5 r6 l6 hf_ hp_ hq_;by_cases g1:f.1<p.1<;>by_cases g2:p.1<f.1<;>by_cases g3:f.1<q.1<;>by_cases g4:q.1<f.1<;>by_cases g5:p.1<q.1<;>by_cases g6:q.1<p.1<;>grind))
def fB(a b c:Rat×Rat):Rat:=(b.1-a.1)*(c.2-a.2)-(b.2-a.2)*(c.1-a.1)
theorem Fb{x y:Rat}(hy:0<=y)(h:x*x<y*y):x<y:=by
 by_cases g:x<y
 .exact g
 .exfalso;have h1:0<=x-y:=ν
  have h2:0<=x+y:=ν
  have h3:=rF h1 h2
  grind
theorem conc{q u1 v1 u2 v2 u3 v3:Rat}(e1:u1*u1+v1*v1=q)(e2:u2*u2+v2*v2=q)(e3:u3*u3+v3*v3=q)(h12:u2<u1)(h23:u3<u2)(p2:0<=v2):
 (u2-u3)*v1+(u1-u2)*v3<v2*(u1-u3):=by
 have hL:0<u1-u3:=ν
 have ha:0<u2-u3:=ν
 have hb:0<u1-u2:=ν
 apply Fb (rF p2 ν);have h1:=sH ha hb;have h2:=sH h1 (sH hL hL)
 have h3:0<=(v1-v3)*(v1-v3):=by
  by_cases g:0<=v1-v3
  .exact rF g g
  .have:=rF (show 0<=v3-v1 by grind) (show 0<=v3-v1 by grind)
   grind
 have h4:=rF (show 0<=(u2-u3)*(u1-u2) by grind) h3
 have key:v2*(u1-u3)*(v2*(u1-u3))-((u2-u3)*v1+(u1-u2)*v3)*((u2-u3)*v1+(u1-u2)*v3)=(u2-u3)*(u1-u2)*((u1-u3)*(u1-u3))+(u2-u3)*(u1-u2)*((v1-v3)*(v1-v3)):=by
  clear h12 h23 p2 hL ha hb h1 h2 h3 h4
  grind
 clear e1 e2 e3;generalize(u2-u3)*(u1-u2)*((u1-u3)*(u1-u3))=z1 at *;generalize(u2-u3)*(u1-u2)*((v1-v3)*(v1-v3))=z2 at *;generalize v2*(u1-u3)*(v2*(u1-u3))=z3 at *;generalize((u2-u3)*v1+(u1-u2)*v3)*((u2-u3)*v1+(u1-u2)*v3)=z4 at *;clear h1 h3
 grind
section
variable {q u1 v1 u2 v2 u3 v3:Rat}
theorem Zy(e1:u1*u1+v1*v1=q)(e2:u2*u2+v2*v2=q)(e3:u3*u3+v3*v3=q)(h12:u2<u1)(h23:u3<u2)(p2:0<=v2):0<(u2-u1)*(v3-v1)-(v2-v1)*(u3-u1):=by
 have:=conc e1 e2 e3 h12 h23 p2
 grind
theorem ZX(e1:u1*u1+v1*v1=q)(e2:u2*u2+v2*v2=q)(e3:u3*u3+v3*v3=q)(h12:u2<u1)(p1:0<=v1)(p2:0<=v2)(p3:v3<=0)(z2:v2=0->0<u2)(z3:v3=0->u3<0):0<(u2-u1)*(v3-v1)-(v2-v1)*(u3-u1):=by
 have e3':u3*u3+(-v3)*(-v3)=q:=ν
 have hb:0<u1-u2:=ν
 have hv:0<=(u1-u2)*(-v3):=rF ν ν
 by_cases c1:u3<u2
 .have:=conc e1 e2 e3' h12 c1 p2;clear e1 e2 e3 e3'
  grind
 .by_cases c2:u1<u3
  .have:=conc e3' e1 e2 c2 h12 p1;clear e1 e2 e3 e3'
   grind
  .have k1:0<=(u3-u2)*v1:=rF ν p1;have k2:0<=(u1-u3)*v2:=rF ν p2;have kD:(u2-u1)*(v3-v1)-(v2-v1)*(u3-u1)=(u3-u2)*v1+(u1-u3)*v2+(u1-u2)*(-v3):=by clear e1 e2 e3 e3';grind
   rw[kD]
   by_cases g:v3<0
   .have:=sH hb (show 0 < -v3 by grind);clear e1 e2 e3 e3' kD
    grind
   .have g0:v3=0:=ν
    have g1:=z3 g0
    have g2:0<v2:=by
     by_cases g3:v2=0
     .have g4:=z2 g3;exfalso
      grind
     .grind
    have g5:u3*u3=q:=by rw[<-e3,g0];grind
    exfalso;have g6:0<v2*v2:=sH g2 g2;have g7:u2*u2<u3*u3:=by rw[g5,<-e2];grind
    have g8:0<=u3-u2:=ν
    have g9:0≤-u3-u2:=ν
    have g10:=rF g8 g9;clear e1 e2 e3 e3' kD g5 g6
    grind
end
theorem EL{c p:Rat×Rat}(h:hf c p=0):0<=p.2-c.2/\(p.2-c.2=0->0<p.1-c.1):=by
 unfold hf at h;split at h
 .rename_i g;rcases g with g|⟨g1,g2⟩<;>constructor<;>grind
 .exact absurd h ψ
theorem FW{c p:Rat×Rat}(h:hf c p=1)(hn:p.2=c.2->p.1≠c.1):p.2-c.2<=0/\(p.2-c.2=0->p.1-c.1<0):=by
 unfold hf at h;split at h
 .exact absurd h ψ
 .rename_i g;constructor<;>grind
theorem lI{a b:Rat}:(dG a b<0->a<b)/\(-(dG a b)<0->b<a):=by
 unfold dG;constructor<;>(intro h;grind)
theorem SG{c p1 p2 p3:Rat×Rat}{q:Rat}(e1:(p1.1-c.1)*(p1.1-c.1)+(p1.2-c.2)*(p1.2-c.2)=q)(e2:(p2.1-c.1)*(p2.1-c.1)+(p2.2-c.2)*(p2.2-c.2)=q)(e3:(p3.1-c.1)*(p3.1-c.1)+(p3.2-c.2)*(p3.2-c.2)=q)
 (n1:p1.2=c.2->p1.1≠c.1) (n2:p2.2=c.2->p2.1≠c.1) (n3:p3.2=c.2->p3.1≠c.1) (o12:dw c p1 p2<0) (o23:dw c p2 p3<0):0<fB p1 p2 p3:=by
 have kD:fB p1 p2 p3=((p2.1-c.1)-(p1.1-c.1))*((p3.2-c.2)-(p1.2-c.2))-((p2.2-c.2)-(p1.2-c.2))*((p3.1-c.1)-(p1.1-c.1)):=by unfold fB;grind
 rw[kD];rcases qm c p1 with h1|h1<;>rcases qm c p2 with h2|h2<;>rcases qm c p3 with h3|h3<;>(unfold dw at o12 o23;rw[h1,h2]at o12;rw[h2,h3]at o23;simp only[if_true,if_false,Int.reduceEq,reduceIte]at o12 o23)
 .have a:=lI.2 o12;have b:=lI.2 o23;exact Zy e1 e2 e3 ν ν (EL h2).1
 .have a:=lI.2 o12;exact ZX e1 e2 e3 ν (EL h1).1 (EL h2).1 (FW h3 n3).1 (EL h2).2 (FW h3 n3).2
 .exact absurd o23 ψ
 .have a:=lI.1 o23;obtain⟨x1,x2⟩:=EL h1;obtain⟨y1,y2⟩:=FW h2 n2;obtain⟨z1,z2⟩:=FW h3 n3;have:=ZX (q:=q) (u1:=-(p2.1-c.1)) (v1:=-(p2.2-c.2)) (u2:=-(p3.1-c.1)) (v2:=-(p3.2-c.2)) (u3:=-(p1.1-c.1)) (v3:=-(p1.2-c.2)) ν ν ν ν ν ν ν (λh=>by have:=z2 ν;grind) (λh=>by have:=x2 ν;grind);clear e1 e2 e3
  grind
 .exact absurd o12 ψ
 .exact absurd o12 ψ
 .exact absurd o23 ψ
 .have a:=lI.1 o12;have b:=lI.1 o23;have:=Zy (q:=q) (u1:=-(p1.1-c.1)) (v1:=-(p1.2-c.2)) (u2:=-(p2.1-c.1)) (v2:=-(p2.2-c.2)) (u3:=-(p3.1-c.1)) (v3:=-(p3.2-c.2)) ν ν ν ν ν (by have:=(FW h2 n2).1;grind);clear e1 e2 e3
  grind
theorem gJ(c p q:Rat×Rat):dw c p q = -dw c q p:=by
 rcases qm c p with hp|hp<;>rcases qm c q with hq|hq<;>(simp only[dw,hp,hq];unfold dG;grind)
theorem oM{c p r:Rat×Rat}{q:Rat}(e1:(p.1-c.1)*(p.1-c.1)+(p.2-c.2)*(p.2-c.2)=q)(e2:(r.1-c.1)*(r.1-c.1)+(r.2-c.2)*(r.2-c.2)=q)(n1:p.2=c.2->p.1≠c.1)(n2:r.2=c.2->r.1≠c.1)(h:dw c p r=0):p=r:=by
 have hx:p.1=r.1/\hf c p=hf c r:=by
  rcases qm c p with hp|hp<;>rcases qm c r with hr|hr<;>(simp only[dw,hp,hr]at h;unfold dG at h;grind)
 obtain⟨h1,h2⟩:=hx;have hy:(p.2-c.2)*(p.2-c.2)=(r.2-c.2)*(r.2-c.2):=by rw[h1]at e1;grind
 have hz:(p.2-r.2)*((p.2-c.2)+(r.2-c.2))=0:=ν
 have h3:p.2=r.2:=by
  rcases Rat.mul_eq_zero.1 hz with g|g
  .grind
  .rcases qm c p with hp|hp
   .have a:=(EL hp).1;have b:=(EL (h2▸hp)).1
    grind
   .have a:=(FW hp n1).1;have b:=(FW (h2▸hp) n2).1
    grind
 exact Prod.ext h1 h3
theorem GU{c f p r:Rat×Rat}{q:Rat}(e1:(f.1-c.1)*(f.1-c.1)+(f.2-c.2)*(f.2-c.2)=q)(e2:(p.1-c.1)*(p.1-c.1)+(p.2-c.2)*(p.2-c.2)=q)(e3:(r.1-c.1)*(r.1-c.1)+(r.2-c.2)*(r.2-c.2)=q)
 (n1:f.2=c.2->f.1≠c.1) (n2:p.2=c.2->p.1≠c.1) (n3:r.2=c.2->r.1≠c.1) (h:0<fB f p r):uf c f p r<=0:=by
 have x1:fB f r p = -fB f p r:=by unfold fB;grind
 have x2:fB r p f = -fB f p r:=by unfold fB;grind
 have x3:fB p f r = -fB f p r:=by unfold fB;grind
 have d1:dw c p f≠0:=λg=>by
  obtain rfl:=oM e2 e1 n2 n1 g;have:fB p p r=0:=by unfold fB;grind
  grind
 have d2:dw c r f≠0:=λg=>by
  obtain rfl:=oM e3 e1 n3 n1 g;have:fB r p r=0:=by unfold fB;grind
  grind
 have a1:=gJ c p f;have a2:=gJ c r f;have a3:=gJ c p r;have l1:dw c f r<0->dw c r p<0->False:=λg1 g2=>by have:=SG e1 e3 e2 n1 n3 n2 g1 g2;grind
 have l2:dw c r p<0->dw c p f<0->False:=λg1 g2=>by have:=SG e3 e2 e1 n3 n2 n1 g1 g2;grind
 have l3:dw c p f<0->dw c f r<0->False:=λg1 g2=>by have:=SG e2 e1 e3 n2 n1 n3 g1 g2;grind
 clear e1 e2 e3 n1 n2 n3 x1 x2 x3 h;unfold uf AU gB;generalize dw c p f=A at *;generalize dw c r f=B at *;generalize dw c p r=C at *;generalize dw c f r=B' at *;generalize dw c f p=A' at *;generalize dw c r p=C' at *
 (repeat' split)<;>first|omega|(exfalso;by_cases g1:B'<0<;>by_cases g2:C'<0<;>by_cases g3:A<0<;>simp_all<;>omega)
theorem H7{x y:Rat}(hy:0<=y)(h:x*x<=y*y):x<=y:=by
 by_cases g:x<=y
 .exact g
 .exfalso;have h3:=sH (show 0<x-y by grind) (show 0<x+y by grind)
  grind
theorem FI(x:Rat):0<=x*x:=by
 by_cases g:0<=x
 .exact rF g g
 .have:=rF (show 0≤-x by grind) (show 0≤-x by grind)
  grind
theorem Qw{c p:Rat×Rat}{q:Rat}(hq:0<q)(e:(p.1-c.1)*(p.1-c.1)+(p.2-c.2)*(p.2-c.2)=q):p.2=c.2->p.1≠c.1:=λh1 h2=>by
 rw[h1,h2]at e;grind
theorem Kt{c a b:Rat×Rat}{q:Rat}(e1:(a.1-c.1)*(a.1-c.1)+(a.2-c.2)*(a.2-c.2)=q)(e2:(b.1-c.1)*(b.1-c.1)+(b.2-c.2)*(b.2-c.2)=q):Onc c a b:=by
 have k:∀y:Rat,y≠0->0<y*y:=λy h=>by
  by_cases g:0<y
  .exact sH g g
  .have:=sH (show 0 < -y by grind) (show 0 < -y by grind)
   grind
 have hb:=FI (b.2-c.2);constructor
 .intro h1 h2;rw[h1]at e1;have hle:(b.1-c.1)*(b.1-c.1)<=(a.1-c.1)*(a.1-c.1):=ν
  have h3:=H7 (x:=b.1-c.1) (y:=a.1-c.1) ν hle;refine⟨ν,λh4=>?_⟩;have h5:=k (b.2-c.2) ν;have h6:=Fb (x:=b.1-c.1) (y:=a.1-c.1) ν ν
  grind
 .intro h1 h2;rw[h1]at e1;have hle:(-(b.1-c.1))*(-(b.1-c.1))<=(-(a.1-c.1))*(-(a.1-c.1)):=ν
  have h3:=H7 (x:=-(b.1-c.1)) (y:=-(a.1-c.1)) ν hle;refine⟨ν,λh4=>?_⟩;have h5:=k (b.2-c.2) ν;have h6:=Fb (x:=-(b.1-c.1)) (y:=-(a.1-c.1)) ν ν
  grind
@[reducible] def Iv(l h:Int):AV:=.agg [.v (.int .i64 l),.v (.int .i64 h)]
def FN(l h:Int):Int×Bool:=if l>0 then(1,true)else if h<0 then(-1,true)else(0,decide (l=0/\h=0))
def JW(l h:Int):Option (Int×Int):=if -2305843009213693952<=l/\h<=2305843009213693952 then some (l,h)else none
@[reducible] def Ov(o:Option (Int × Int)):AV:=.tup [Iv (o.getD (0,0)).1 (o.getD (0,0)).2,.bool o.isSome]
theorem G7{l h:Int}(h1 : -2305843009213693952<=l)(h2:h<=2305843009213693952):JW l h=some (l,h):=if_pos ⟨h1,h2⟩
theorem AL{l h:Int}(h1:¬(-2305843009213693952<=l/\h<=2305843009213693952)):JW l h=none:=if_neg h1
theorem adH:min (Int.toNat 32) IntKind.u64.bits=32:=rfl
theorem Yr:min (Int.toNat 16) IntKind.u64.bits=16:=rfl
theorem Z9:min (Int.toNat 48) IntKind.u64.bits=48:=rfl
theorem zQ(a n:Nat):((a:Nat):Int).fdiv ((n:Nat):Int)=((a/n:Nat):Int):=by rw[Sj _ ω];rfl
theorem wu(n:Nat):IntKind.u64.wrap ((n:Nat):Int)=((n%18446744073709551616:Nat):Int):=by rw[IntKind.wrap_u64];omega
theorem JI{a n:Nat}(hn:n<=64)(ha:a<18446744073709551616):andI .u64 ((a:Nat):Int) ((2^n-1:Nat):Int)=((a%2^n:Nat):Int):=by
 unfold andI;have h2:2^n<=2^64:=BZ ψ hn;have h0:0<2^n:=Nat.pow_pos ψ
 have e:(BitVec.ofInt IntKind.u64.bits ((a:Nat):Int) &&& BitVec.ofInt IntKind.u64.bits ((2^n-1:Nat):Int)).toNat=a%2^n:=by
  show(BitVec.ofInt 64 ((a:Nat):Int) &&& BitVec.ofInt 64 ((2^n-1:Nat):Int)).toNat=a%2^n;rw[BitVec.ofInt_natCast,BitVec.ofInt_natCast,BitVec.toNat_and,BitVec.toNat_ofNat,BitVec.toNat_ofNat,GL (show a<2^64 from ha),GL (show 2^n-1<2^64 by omega),Nat.and_two_pow_sub_one_eq_mod]
 rw[e,wu];have h3:a%2^n<=a:=Nat.mod_le _ _;rw[GL ω]
theorem PX{a b n:Nat}(hn:n<=64)(hb:b<2^n)(ha:2^n*a<18446744073709551616):orI .u64 ((2^n*a:Nat):Int) ((b:Nat):Int)=((2^n*a+b:Nat):Int):=by
 unfold orI;have h2:2^n<=2^64:=BZ ψ hn
 have e:(BitVec.ofInt IntKind.u64.bits ((2^n*a:Nat):Int) ||| BitVec.ofInt IntKind.u64.bits ((b:Nat):Int)).toNat=2^n*a+b:=by
  show(BitVec.ofInt 64 ((2^n*a:Nat):Int) ||| BitVec.ofInt 64 ((b:Nat):Int)).toNat=2^n*a+b;rw[BitVec.ofInt_natCast,BitVec.ofInt_natCast,BitVec.toNat_or,BitVec.toNat_ofNat,BitVec.toNat_ofNat,GL (show 2^n*a<2^64 from ha),GL (show b<2^64 by omega),Nat.two_pow_add_eq_or_of_lt hb]
 have hlt:2^n*a+b<18446744073709551616:=by
  have:=(BitVec.ofInt IntKind.u64.bits ((2^n*a:Nat):Int) ||| BitVec.ofInt IntKind.u64.bits ((b:Nat):Int)).isLt;rw[e]at this;exact this
 rw[e,wu,GL hlt]
theorem I8{a b x0 x1 y0 y1:Nat}(ha:a<18446744073709551616)(hb:b<18446744073709551616)(h1:x0=a%4294967296)(h2:x1=a/4294967296)(h3:y0=b%4294967296)(h4:y1=b/4294967296):
 (x1*y1+(x1*y0+x0*y0%18446744073709551616/4294967296)/4294967296+((x1*y0+x0*y0%18446744073709551616/4294967296)%4294967296+x0*y1)/4294967296)=a*b/18446744073709551616 /\
 x0*y0<=18446744065119617025/\x1*y0<=18446744065119617025/\x0*y1<=18446744065119617025/\x1*y1<=18446744065119617025:=by
 have b1:x0*y0<=4294967295*4294967295:=Gu ω ω;have b2:x1*y0<=4294967295*4294967295:=Gu ω ω;have b3:x0*y1<=4294967295*4294967295:=Gu ω ω;have b4:x1*y1<=4294967295*4294967295:=Gu ω ω;have ea:a=x1*4294967296+x0:=ω
 have eb:b=y1*4294967296+y0:=ω
 have e:a*b=x1*y1*18446744073709551616+(x1*y0+x0*y1)*4294967296+x0*y0:=by rw[ea,eb];grind
 rw[e];generalize x0*y0=p at *;generalize x1*y0=q at *;generalize x0*y1=r at *;generalize x1*y1=s at *;exact⟨ω,ω,ω,ω,ω⟩
theorem Cb(a:Nat){n:Nat}(hn:n<=64):andI .u64 ((a:Nat):Int) ((2^n-1:Nat):Int)=((a%2^n:Nat):Int):=by
 have e:andI .u64 ((a:Nat):Int) ((2^n-1:Nat):Int)=andI .u64 ((a%18446744073709551616:Nat):Int) ((2^n-1:Nat):Int):=by
  unfold andI
  have:BitVec.ofInt IntKind.u64.bits ((a:Nat):Int)=BitVec.ofInt IntKind.u64.bits ((a%18446744073709551616:Nat):Int):=by
   show BitVec.ofInt 64 ((a:Nat):Int)=BitVec.ofInt 64 ((a%18446744073709551616:Nat):Int);rw[BitVec.ofInt_natCast,BitVec.ofInt_natCast];apply BitVec.eq_of_toNat_eq;simp
  rw[this]
 rw[e,JI hn (mY _ ψ),Nat.mod_mod_of_dvd _ (Nat.pow_dvd_pow 2 hn:2^n ∣ 2^64)]
theorem VH(a:Nat):andI .u64 ((a:Nat):Int) 4294967295=((a%4294967296:Nat):Int):=Cb a (n:=32) ψ
theorem KF(a:Nat):andI .u64 ((a:Nat):Int) 65535=((a%65536:Nat):Int):=Cb a (n:=16) ψ
theorem e32:(2:Int)^32=((4294967296:Nat):Int):=rfl
theorem e16:(2:Int)^16=((65536:Nat):Int):=rfl
theorem e48:(2:Int)^48=((281474976710656:Nat):Int):=rfl
theorem iE2{k k':IntKind}{x x' y y':Int}(h:x=x')(h':y=y'):packA [AV.c (Cell.v (Value.int k x)),AV.c (Cell.v (Value.int k' y))]=AV.tup [AV.int k x',AV.int k' y']:=by rw[h,h'];rfl
theorem ibE{k:IntKind}{x x':Int}{y y':Bool}(h:x=x')(h':y=y'):packA [AV.c (Cell.v (Value.int k x)),AV.c (Cell.v (Value.bool y))]=AV.tup [AV.int k x',AV.bool y']:=by rw[h,h'];rfl
def Je(x y:Int):Nat:=x.natAbs*y.natAbs
def EJ(x y:Int):Int×Int :=
 let q:Int:=(Je x y/65536:Nat)
 let u:Int:=if Je x y%65536=0 then q else q+1
 if(decide (x<0) != decide (y<0))=true then(-u,-q)else(q,u)
def pI(x y:Int):Int×Int×Bool :=
 if 1208925819614629174706176<=Je x y\/2305843009213693952<Je x y/65536 then(0,0,false)
 else((EJ x y).1,(EJ x y).2,decide (-2305843009213693952<=(EJ x y).1/\(EJ x y).2<=2305843009213693952))
theorem EX{x y d u:Int}{o:Bool}(h:pI x y=(d,u,o)):packA [AV.c (Cell.v (Value.int .i64 d)),AV.c (Cell.v (Value.int .i64 u)),AV.c (Cell.v (Value.bool o))]=AV.tup [AV.int .i64 (pI x y).1,AV.int .i64 (pI x y).2.1,AV.bool (pI x y).2.2]:=by rw[h];rfl
theorem Yl{p:Nat}(h:p/18446744073709551616/65536=0):orI .u64 (IntKind.u64.wrap (((p/18446744073709551616:Nat):Int)*((281474976710656:Nat):Int))) ((p%18446744073709551616/65536:Nat):Int)=((p/65536:Nat):Int):=by
 rw[<-J4,wu,GL ω,yB];have:=PX (n:=48) (a:=p/18446744073709551616) (b:=p%18446744073709551616/65536) ψ ω ω;have e:(2:Nat)^48=281474976710656:=rfl;rw[e]at this;rw[this];congr 1;omega
theorem Vm{x y:Int}(h:¬(((x.natAbs*y.natAbs/18446744073709551616/65536:Nat):Int))=0):pI x y=(0,0,false):=if_pos (.inl (by unfold Je;generalize x.natAbs*y.natAbs=p at *;omega))
theorem Qh{x y:Int}(h:(((x.natAbs*y.natAbs/65536:Nat):Int))>2305843009213693952):pI x y=(0,0,false):=if_pos (.inr (by unfold Je;generalize x.natAbs*y.natAbs=p at *;omega))
theorem Xj{x y d u:Int}{o:Bool}(h1:(((x.natAbs*y.natAbs/18446744073709551616/65536:Nat):Int))=0)(h2:¬(((x.natAbs*y.natAbs/65536:Nat):Int))>2305843009213693952)
 (hd:d=(EJ x y).1) (hu:u=(EJ x y).2) (ho:o=decide (-2305843009213693952<=(EJ x y).1/\(EJ x y).2<=2305843009213693952)):pI x y=(d,u,o):=by
 subst hd hu ho;exact if_neg (by unfold Je;generalize x.natAbs*y.natAbs=p at *;omega)
theorem MF{x y:Int}{s z:Bool}(hs:(decide (x<0) != decide (y<0))=s)(hz:decide (x.natAbs*y.natAbs%65536=0)=z):
 EJ x y=(if s then(-(if z then((x.natAbs*y.natAbs/65536:Nat):Int)else((x.natAbs*y.natAbs/65536:Nat):Int)+1),-((x.natAbs*y.natAbs/65536:Nat):Int))else(((x.natAbs*y.natAbs/65536:Nat):Int),if z then((x.natAbs*y.natAbs/65536:Nat):Int)else((x.natAbs*y.natAbs/65536:Nat):Int)+1)):=by
 unfold EJ Je;rw[hs];subst hz;simp only[decide_eq_true_eq]
theorem w1{q:Int}(h0:0<=q)(h:¬q>2305843009213693952):IntKind.i64.wrap q=q:=aS ω ω
theorem w2{q:Int}(h0:0<=q)(h:¬q>2305843009213693952):IntKind.i64.wrap (q+1)=q+1:=aS ω ω
theorem w3{q:Int}(h0:0<=q)(h:¬q>2305843009213693952):IntKind.i64.wrap (0-q) = -q:=by rw[aS ω ω];omega
theorem w4{q:Int}(h0:0<=q)(h:¬q>2305843009213693952):IntKind.i64.wrap (0-(q+1)) = -(q+1):=by rw[aS ω ω];omega
theorem Gj{x y:Int}{s z o:Bool}{d u:Int}(h1:(((x.natAbs*y.natAbs/18446744073709551616/65536:Nat):Int))=0)(h2:¬(((x.natAbs*y.natAbs/65536:Nat):Int))>2305843009213693952)
 (hs:(decide (x<0) != decide (y<0))=s) (hz:decide (x.natAbs*y.natAbs%65536=0)=z) (hd:d=(if s then -(if z then((x.natAbs*y.natAbs/65536:Nat):Int)else((x.natAbs*y.natAbs/65536:Nat):Int)+1)else((x.natAbs*y.natAbs/65536:Nat):Int)))
 (hu:u=(if s then -((x.natAbs*y.natAbs/65536:Nat):Int)else(if z then((x.natAbs*y.natAbs/65536:Nat):Int)else((x.natAbs*y.natAbs/65536:Nat):Int)+1))) (ho:o=decide (-2305843009213693952<=d/\u<=2305843009213693952)) :
 packA [AV.c (Cell.v (Value.int .i64 d)),AV.c (Cell.v (Value.int .i64 u)),AV.c (Cell.v (Value.bool o))]=AV.tup [AV.int .i64 (pI x y).1,AV.int .i64 (pI x y).2.1,AV.bool (pI x y).2.2]:=by
 have e1:d=(EJ x y).1:=by rw[hd,MF hs hz];cases s<;>rfl
 have e2:u=(EJ x y).2:=by rw[hu,MF hs hz];cases s<;>rfl
 exact EX (Xj h1 h2 e1 e2 (by rw[ho,e1,e2]))
@[reducible] def upR(a:Rat):Int:=-(-a).floor
theorem ND(a:Rat):a.floor<=upR a:=by
 unfold upR;have h1:=Rat.floor_le (a:=a);have h2:=Rat.floor_le (a:=-a);have:((a.floor+(-a).floor:Int):Rat)<=0:=by rw[Rat.intCast_add];grind
 have:=J5.1 (show((a.floor+(-a).floor:Int):Rat)<=((0:Int):Rat)from this);omega
def bZ(a:Rat):Option (Int×Int):=JW (a*((65536:Int):Rat)).floor (upR (a*((65536:Int):Rat)))
def pY(a b:Int×Int):Option (Int×Int):=JW (a.1+b.1) (a.2+b.2)
theorem zZ{l h:Int}(o:Option (Int×Int))(e:o=JW l h)(hlh:l<=h):-2305843009213693952<=(o.getD (0,0)).1/\(o.getD (0,0)).1<=(o.getD (0,0)).2/\(o.getD (0,0)).2<=2305843009213693952:=by
 subst e;unfold JW;split
 .exact⟨κ,κ,κ⟩
 .exact⟨η,η,η⟩
theorem NM(a:Rat):-2305843009213693952<=((bZ a).getD (0,0)).1/\((bZ a).getD (0,0)).1<=((bZ a).getD (0,0)).2/\((bZ a).getD (0,0)).2<=2305843009213693952:=zZ _ rfl (ND _)
theorem ovE{l h:Int}{b:Bool}{o:Option (Int×Int)}(e1:l=(o.getD (0,0)).1)(e2:h=(o.getD (0,0)).2)(e3:b=o.isSome):
 packA [AV.agg [Cell.v (Value.int .i64 l),Cell.v (Value.int .i64 h)],AV.c (Cell.v (Value.bool b))]=Ov o:=by subst e1 e2 e3;rfl
theorem Vr{o:Option (Int×Int)}(e:o=none):packA [AV.agg [Cell.v (Value.int .i64 0),Cell.v (Value.int .i64 0)],AV.c (Cell.v (Value.bool false))]=Ov o:=by subst e;rfl
theorem LG(a:Rat):sz a.floor<=rz a:=by
 refine aP (iQ ?_) (fH a);rw[<-Di,Sj _ (by have:=den_pos a;omega)];exact Int.natAbs_ediv_le_natAbs _ _
theorem Zo{a:Rat}(h:¬(-9223372036854775808<=(a*((65536:Int):Rat)).floor/\(a*((65536:Int):Rat)).floor<=9223372036854775807)):bZ a=none :=
 AL (by have:=ND (a*((65536:Int):Rat));omega)
theorem aaA{a:Rat}(h:¬(-9223372036854775808≤-(-(a*((65536:Int):Rat))).floor∧-(-(a*((65536:Int):Rat))).floor<=9223372036854775807)):bZ a=none :=
 AL (by have:=ND (a*((65536:Int):Rat));unfold upR at *;omega)
theorem szl(n:Int)(h1 : -9223372036854775808<=n)(h2:n<=9223372036854775807):sz n<=3:=dV h1 h2
theorem adK:rz ((65536:Int):Rat)<=4:=by have:=ig 65536;have:=dV (n:=65536) ω ω;omega
theorem RZ{l:Int}:List.foldl (λx y=>if y>x then y else x) l [0]=max l 0:=by
 show(if 0>l then 0 else l)=max l 0;split<;>omega
def rt(n:Int):Int:=if n*65536<0 then 0 else(fV (n*65536).natAbs:Nat)
theorem aae(n:Int):(if n*65536<0 then 0 else((fV (n*65536).natAbs:Nat):Int))=rt n:=rfl
def Uu(n:Int):Int:=if rt n*rt n=n*65536 then rt n else rt n+1
theorem DW{n:Int}(h:0<=n):0<=rt n/\rt n*rt n<=n*65536/\n*65536<(rt n+1)*(rt n+1):=by
 have⟨h1,h2⟩:=wS (n*65536).natAbs;have e:(((n*65536).natAbs:Nat):Int)=n*65536:=ω
 unfold rt;rw[if_neg ω];refine⟨ω, ?_, ?_⟩
 .have:=Int.ofNat_le.2 h1;rw[J4]at this;omega
 .have:=Int.ofNat_lt.2 h2;rw[J4,Int.natCast_add]at this;simpa[e]using this
theorem LZ{n:Int}(h:0<=n)(h2:n<=2305843009213693952):0<=rt n/\rt n<=549755813888:=by
 have⟨h0,h1,_⟩:=DW h;refine⟨h0, ?_⟩;apply Decidable.byContradiction;intro hc;have:549755813889*549755813889<=rt n*rt n:=Int.mul_le_mul ω ω ψ h0;omega
theorem NS{n:Int}(h:0<=n):rt n<=Uu n/\Uu n<=rt n+1/\n*65536<=Uu n*Uu n:=by
 have⟨h0,h1,h2⟩:=DW h;unfold Uu;split
 .omega
 .refine⟨ω,ω,ω⟩
def jY(a:Int×Int):Option (Int×Int):=if a.2<0 then none else JW (rt (max a.1 0)) (Uu a.2)
theorem GZ{l h:Int}(h0:0<=l)(h1:l<=h):rt l<=rt h:=by
 have⟨a0,a1,a2⟩:=DW h0;have⟨b0,b1,b2⟩:=DW (Int.le_trans h0 h1);apply Decidable.byContradiction;intro hc;have:(rt h+1)*(rt h+1)<=rt l*rt l:=Int.mul_le_mul ω ω ω a0;omega
theorem aaI{l h:Int}(h0:¬h<0)(e:rt h*rt h=h*65536):Ov (JW (rt (max l 0)) (rt h))=Ov (jY (l,h)):=by
 unfold jY Uu;rw[if_neg h0,if_pos e]
theorem aao{l h:Int}(h0:¬h<0)(e:¬rt h*rt h=h*65536):Ov (JW (rt (max l 0)) (rt h+1))=Ov (jY (l,h)):=by
 unfold jY Uu;rw[if_neg h0,if_neg e]
set_option linter.unusedSimpArgs false
theorem Ez:IntKind.i64.wrap (0+1)=1:=ψ
theorem Aw:IntKind.i64.wrap (1+1)=2:=ψ
theorem dS{b:Bool}{k:Bool->Prop}(e:b=true)(h:k true):OnB b k:=⟨λ_=>h,λh'=>by rw[e]at h';cases h'⟩
theorem dY{b:Bool}{k:Bool->Prop}(e:b=false)(h:k false):OnB b k:=⟨λh'=>(by rw[e]at h';cases h'),λ_=>h⟩
def BF(x y:Int):Int:=(x*y)/65536
def pO(x y:Int):Int:=-((-(x*y))/65536)
theorem Dj(x y:Int):BF x y<=pO x y:=by unfold BF pO;omega
theorem IV(x y:Int):EJ x y=(BF x y,pO x y):=by
 have e:x*y=if(decide (x<0) != decide (y<0))=true then -((Je x y:Nat):Int)else((Je x y:Nat):Int):=by
  unfold Je;rw[J4]
  by_cases h1:x<0<;>by_cases h2:y<0<;>simp only[h1,h2]
  .have e1:(x.natAbs:Int) = -x:=ω
   have e2:(y.natAbs:Int) = -y:=ω
   rw[e1,e2];simp[Int.neg_mul,Int.mul_neg,Int.neg_neg]
  .have e1:(x.natAbs:Int) = -x:=ω
   have e2:(y.natAbs:Int)=y:=ω
   rw[e1,e2];simp[Int.neg_mul,Int.mul_neg,Int.neg_neg]
  .have e1:(x.natAbs:Int)=x:=ω
   have e2:(y.natAbs:Int) = -y:=ω
   rw[e1,e2];simp[Int.neg_mul,Int.mul_neg,Int.neg_neg]
  .have e1:(x.natAbs:Int)=x:=ω
   have e2:(y.natAbs:Int)=y:=ω
   rw[e1,e2];simp[Int.neg_mul,Int.mul_neg,Int.neg_neg]
 unfold EJ BF pO;generalize Je x y=p at *;generalize(decide (x<0) != decide (y<0))=s at *;rw[e];cases s<;>by_cases hm:p%65536=0<;>simp only[hm,if_true,if_false]<;>(refine Prod.ext ?_ ?_<;>simp<;>omega)
theorem Bz{x y:Int}(h:(pI x y).2.2=true):(pI x y).1=BF x y/\(pI x y).2.1=pO x y∧-2305843009213693952<=BF x y/\pO x y<=2305843009213693952:=by
 unfold pI at *;rw[IV]at *;split at h
 .exact absurd h η
 .rename_i g;rw[if_neg g];exact⟨rfl,rfl,of_decide_eq_true h⟩
theorem Xd{x y:Int}(h:¬(pI x y).2.2=true):¬(-2305843009213693952<=BF x y/\pO x y<=2305843009213693952):=by
 have q:=IV x y;unfold pI at h;rw[q]at h;split at h
 .rename_i g;unfold EJ at q;generalize Je x y=p at *;intro⟨h1,h2⟩;generalize(decide (x<0) != decide (y<0))=s at *;have q1:=congrArg Prod.fst q;have q2:=congrArg Prod.snd q;cases s<;>by_cases hm:p%65536=0<;>simp only[hm,if_true,if_false]at q1 q2<;>simp at q1 q2<;>omega
 .intro⟨h1,h2⟩;exact h (decide_eq_true ⟨h1,h2⟩)
def nS(a b:Int×Int):Option (Int×Int) :=
 JW (min (min (BF a.1 b.1) (BF a.1 b.2)) (min (BF a.2 b.1) (BF a.2 b.2))) (max (max (pO a.1 b.1) (pO a.1 b.2)) (max (pO a.2 b.1) (pO a.2 b.2)))
theorem nb{b:Bool}(h:(!b)=true):¬b=true:=by cases b<;>simp_all
theorem nb'{b:Bool}(h:(!b)=false):b=true:=by cases b<;>simp_all
theorem KY(u v:Int):List.foldl (λx y=>if y<x then y else x) u [v]=min u v:=by
 show(if v<u then v else u)=min u v;split<;>omega
theorem Oi(u v:Int):List.foldl (λx y=>if y>x then y else x) u [v]=max u v:=by
 show(if v>u then v else u)=max u v;split<;>omega
theorem qZ{a b c d x y:Int}(hx:x=a\/x=b)(hy:y=c\/y=d)(h:(!(pI x y).2.2)=true):nS (a,b) (c,d)=none:=by
 have:=Xd (nb h);apply AL;rcases hx with rfl|rfl<;>rcases hy with rfl|rfl<;>simp only<;>omega
theorem O4{a b c d:Int}(h1:(!(pI a c).2.2)=false)(h2:(!(pI a d).2.2)=false)(h3:(!(pI b c).2.2)=false)(h4:(!(pI b d).2.2)=false):
 packA [AV.agg [Cell.v (Value.int .i64 (min (min (min (min 2305843009213693952 (pI a c).1) (pI a d).1) (pI b c).1) (pI b d).1)),Cell.v (Value.int .i64 (max (max (max (max (-2305843009213693952) (pI a c).2.1) (pI a d).2.1) (pI b c).2.1) (pI b d).2.1))],AV.c (Cell.v (Value.bool true))]=Ov (nS (a,b) (c,d)):=by
 obtain⟨e1,e2,e3,e4⟩:=Bz (nb' h1);obtain⟨f1,f2,f3,f4⟩:=Bz (nb' h2);obtain⟨g1,g2,g3,g4⟩:=Bz (nb' h3);obtain⟨k1,k2,k3,k4⟩:=Bz (nb' h4);have d1:=Dj a c;have d2:=Dj a d;have d3:=Dj b c;have d4:=Dj b d;rw[e1,e2,f1,f2,g1,g2,k1,k2];unfold nS;rw[G7 (by simp only;omega) (by simp only;omega)];refine ovE ?_ ?_ rfl<;>simp only[uJ]<;>omega
@[reducible] def Q3(a b c:Rat):AV:=.agg [zs a.num,zl a.num,zs a.den,zl a.den,zs b.num,zl b.num,zs b.den,zl b.den,zs c.num,zl c.num,zs c.den,zl c.den]
def jV(a b c:Rat):Option (Int×Int) :=
 match bZ a with
 |none=>none
 |some x=>if b=0 then some x else
  match bZ b,bZ c with
  |some y,some z=>if c<0 then none else
   match jY z with
   |none=>none
   |some s=>match nS y s with
    |none=>none
    |some p=>pY x p
  |_,_=>none
def hw(a b c d:Int):Nat->Int
 |0=>0|1=>pO a c|2=>max (pO a c) (pO a d)|3=>max (max (pO a c) (pO a d)) (pO b c)|_=>max (max (max (pO a c) (pO a d)) (pO b c)) (pO b d)
def kI:Nat->Int|0=>0|1=>1|_=>2
theorem hw1(a b c d:Int):hw a b c d 1=pO a c:=rfl
theorem hw2(a b c d:Int):hw a b c d 2=max (pO a c) (pO a d):=rfl
theorem k1:some (AV.int .i64 (IntKind.i64.wrap (0+1)))=some (AV.int .i64 (kI 1)):=by rw[Ez];rfl
theorem k2:some (AV.int .i64 (IntKind.i64.wrap (1+1)))=some (AV.int .i64 (kI 2)):=by rw[Aw];rfl
@[reducible] def Q5(a b c d e:Rat):AV:=.agg [zs a.num,zl a.num,zs a.den,zl a.den,zs b.num,zl b.num,zs b.den,zl b.den,zs c.num,zl c.num,zs c.den,zl c.den,zs d.num,zl d.num,zs d.den,zl d.den,zs e.num,zl e.num,zs e.den,zl e.den]
def Ai(x:Int×Int):Prop:=-2305843009213693952<=x.1/\x.1<=x.2/\x.2<=2305843009213693952
theorem gV(a:Rat):Ai ((bZ a).getD (0,0)):=NM a
theorem uZ(x y:Int×Int):Ai ((nS x y).getD (0,0)):=zZ _ rfl (by have:=Dj x.1 y.1;omega)
theorem NH{x:Int×Int}(h:Ai x):Ai ((jY x).getD (0,0)):=by
 unfold jY;split
 .exact⟨ψ,ψ,ψ⟩
 .rename_i g;refine zZ _ rfl ?_;have:=GZ (l:=max x.1 0) (h:=x.2) ω (by unfold Ai at h;omega);have:=(NS (n:=x.2) ω).1;omega
theorem AO{x y:Int×Int}(h1:Ai x)(h2:Ai y):Ai ((pY x y).getD (0,0)):=zZ _ rfl (by unfold Ai at *;omega)
theorem Ep(a b c:Rat):Ai ((jV a b c).getD (0,0)):=by
 have h0:Ai (0,0):=⟨ψ,ψ,ψ⟩
 unfold jV;have ha:=gV a;have hb:=gV b;have hc:=gV c;split
 .exact h0
 .rename_i x hx;rw[hx]at ha;split
  .exact ha
  .split
   .rename_i y z hy hz;split
    .exact h0
    .split
     .exact h0
     .split
      .exact h0
      .rename_i s hs _ p hp;refine AO ha ?_;have:=uZ y s;rw[hp]at this;exact this
   .exact h0
theorem aaR{o:Option (Int×Int)}(e:(none:Option (Int×Int))=o):packA [AV.agg [Cell.v (Value.int .i64 0),Cell.v (Value.int .i64 0)],AV.c (Cell.v (Value.bool false))]=Ov o:=by subst e;rfl
end Go.Sw
namespace Go.Sw
open Go
theorem jX(a:Rat):-1<=aN a/\aN a<=1:=by unfold aN;split<;>(try split)<;>omega
theorem nD(a b:Rat):-1<=dG a b/\dG a b<=1:=by unfold dG;split<;>(try split)<;>omega
theorem kK{x y:Int}(h1 : -1<=x/\x<=1)(h2 : -1<=y/\y<=1):-1<=x*y/\x*y<=1:=by
 have a:x = -1\/x=0\/x=1:=ω
 rcases a with rfl|rfl|rfl<;>omega
theorem adT(a b:Rat):IntKind.i64.wrap (aN a*aN b)=aN a*aN b:=by
 have:=kK (jX a) (jX b);exact aS ω ω
theorem adh(a b c:Rat):IntKind.i64.wrap (aN a*dG b c)=aN a*dG b c:=by
 have:=kK (jX a) (nD b c);exact aS ω ω
def qI(a b c:Rat):Int :=
 if aN a=aN b*aN c\/aN b*aN c=0 then aN a
 else if aN a=0 then aN b*aN c
 else aN a*dG (a*a) (b*b*c)
theorem abX{a b c:Rat}(g1:¬aN a=aN b*aN c)(g2:¬aN b*aN c=0)(g3:¬aN a=0):qI a b c=aN a*dG (a*a) (b*b*c):=by
 unfold qI;rw[if_neg (λh=>h.elim g1 g2),if_neg g3]
theorem F8(n:Int)(h1 : -9223372036854775808<=n)(h2:n<=9223372036854775807):rz (n:Rat)<=4:=by
 have:=ig n;have:=dV h1 h2;omega
theorem abU(n d:Int)(h0:d≠0)(h1 : -9223372036854775808<=n/\n<=9223372036854775807)(h2 : -9223372036854775808<=d/\d<=9223372036854775807):rz ((n:Rat)/(d:Rat))<=6:=by
 have:=Af (n:=n) h0;have:=dV h1.1 h1.2;have:=dV h2.1 h2.2;omega
abbrev Xy:=Bool×List Nat×Bool×List Nat
def Us(k:Int)(r:Xy):Bool:=decide ((r.2.1.length:Int)<=k)&&(decide ((r.2.2.2.length:Int)<=k)&&fK r.1 r.2.1 r.2.2.1 r.2.2.2)
theorem YI{k:Int}{r:Xy}(h:(r.2.1.length:Int)>k):Us k r=false:=by
 unfold Us;rw[decide_eq_false ω];rfl
theorem aaH{k:Int}{r:Xy}(h:(r.2.2.2.length:Int)>k):Us k r=false:=by
 unfold Us;rw[decide_eq_false (p:=(r.2.2.2.length:Int)<=k) ω];simp
theorem Fh{a b x k L:Rat}(h1:a<=x)(h2:x<=b)(p:L<=a*k)(q:L<=b*k):L<=x*k:=by
 rcases FQ (a:=0) (b:=k)with hk|hk
 .have:=Rat.mul_le_mul_of_nonneg_right h1 hk;grind
 .have:=Rat.mul_le_mul_of_nonneg_right h2 (show 0≤-k by grind);grind
theorem MH{a b c d x y L:Rat}(h1:a<=x)(h2:x<=b)(h3:c<=y)(h4:y<=d)(p1:L<=a*c)(p2:L<=a*d)(p3:L<=b*c)(p4:L<=b*d):L<=x*y:=by
 apply Fh h1 h2
 .rw[Rat.mul_comm];exact Fh h3 h4 (by rw[Rat.mul_comm];exact p1) (by rw[Rat.mul_comm];exact p2)
 .rw[Rat.mul_comm];exact Fh h3 h4 (by rw[Rat.mul_comm];exact p3) (by rw[Rat.mul_comm];exact p4)
theorem Xg{a b c d x y L:Rat}(h1:a<=x)(h2:x<=b)(h3:c<=y)(h4:y<=d)(p1:a*c<=L)(p2:a*d<=L)(p3:b*c<=L)(p4:b*d<=L):x*y<=L:=by
 have:=MH (L:=-L) (a:=-b) (b:=-a) (x:=-x) (y:=y) (c:=c) (d:=d) ν ν h3 h4 ν ν ν ν
 grind
theorem Wn(x y:Int):((BF x y:Int):Rat)*65536<=(x:Rat)*(y:Rat):=by
 have h:((BF x y*65536:Int):Rat)<=((x*y:Int):Rat):=J5.2 (by unfold BF;omega);rw[BN,BN]at h;exact h
theorem Xm(x y:Int):(x:Rat)*(y:Rat)<=((pO x y:Int):Rat)*65536:=by
 have h:((x*y:Int):Rat)<=((pO x y*65536:Int):Rat):=J5.2 (by unfold pO;omega);rw[BN,BN]at h;exact h
def con(p:Int×Int)(q:Rat):Prop:=(p.1:Rat)<=q*65536/\q*65536<=(p.2:Rat)
theorem qQ{l h:Int}{p:Int×Int}(e:JW l h=some p):p=(l,h):=by
 unfold JW at e;split at e
 .injection e with e;exact e.symm
 .cases e
theorem lZ{x y p:Int×Int}{u v:Rat}(e:pY x y=some p)(hu:con x u)(hv:con y v):con p (u+v):=by
 have:=qQ e;subst this;unfold con at *;simp only[Rat.intCast_add];obtain⟨h1,h2⟩:=hu;obtain⟨h3,h4⟩:=hv;constructor<;>grind
theorem vU{x y p:Int×Int}{u v:Rat}(e:nS x y=some p)(hu:con x u)(hv:con y v):con p (u*v):=by
 have:=qQ e;subst this;unfold con at *;obtain⟨h1,h2⟩:=hu;obtain⟨h3,h4⟩:=hv;simp only;generalize hl:min (min (BF x.1 y.1) (BF x.1 y.2)) (min (BF x.2 y.1) (BF x.2 y.2))=l;generalize hh:max (max (pO x.1 y.1) (pO x.1 y.2)) (max (pO x.2 y.1) (pO x.2 y.2))=h
 have lo:∀a c:Int,l<=BF a c->(l:Rat)*65536<=(a:Rat)*(c:Rat):=λa c hd=>by
  have k1:=Wn a c;have k2:=J5.2 hd
  grind
 have hi:∀a c:Int,pO a c<=h->(a:Rat)*(c:Rat)<=(h:Rat)*65536:=λa c hd=>by
  have k1:=Xm a c;have k2:=J5.2 hd
  grind
 have b1:=MH h1 h2 h3 h4 (lo _ _ ω) (lo _ _ ω) (lo _ _ ω) (lo _ _ ω);have b2:=Xg h1 h2 h3 h4 (hi _ _ ω) (hi _ _ ω) (hi _ _ ω) (hi _ _ ω);constructor<;>grind
theorem c65:((65536:Int):Rat)=65536:=by decide +kernel
theorem c1:((1:Int):Rat)=1:=by decide +kernel
theorem MQ{x p:Int×Int}{q:Rat}(e:jY x=some p)(hx:con x q)(h0:0<=q):
 (p.1:Rat)*(p.1:Rat)<=q*(65536*65536)/\q*(65536*65536)<=(p.2:Rat)*(p.2:Rat)/\0<=p.1/\p.1<=p.2:=by
 unfold jY at e;split at e
 .cases e
 .rename_i g;have:=qQ e;subst this;unfold con at hx;obtain⟨h1,h2⟩:=hx
  have hle:max x.1 0<=x.2:=by
   have:((x.1:Int):Rat)<=(x.2:Rat):=Rat.le_trans h1 h2;have:=J5.1 this;omega
  have r1:=DW (n:=max x.1 0) ω;have r2:=NS (n:=x.2) ω;have r3:=GZ (l:=max x.1 0) (h:=x.2) ω hle
  have hm:((max x.1 0:Int):Rat)<=q*65536:=by
   rcases Int.le_total x.1 0 with h|h
   .rw[show max x.1 0=0 by omega];have:((0:Int):Rat)=0:=rfl;rw[this];grind
   .rw[show max x.1 0=x.1 by omega];exact h1
  have k1:=J5.2 r1.2.1;have k2:=J5.2 r2.2.2;rw[BN,BN,c65]at k1 k2;refine⟨by simp only;grind,by simp only;grind,r1.1,by simp only;omega⟩
def sub(x y:Int×Int):Prop:=x.1<=y.1/\y.1<=y.2/\y.2<=x.2
theorem Gm{x:Int×Int}{n:Int}(h1:x.1<=n)(h2:n<=x.2):con x ((n:Rat)*(1/65536)):=by
 have k1:=J5.2 h1;have k2:=J5.2 h2;unfold con;constructor<;>grind
theorem jv{a:Rat}{x:Int×Int}(e:bZ a=some x):con x a:=by
 have:=qQ e;subst this;unfold con upR;rw[c65];simp only;refine⟨Rat.floor_le _, ?_⟩;have:=Rat.floor_le (-(a*65536));rw[Rat.intCast_neg]
 grind
theorem Iz{x:Int×Int}{q:Rat}(h:con x q):con (-x.2,-x.1) (-q):=by
 unfold con at *;simp only[Rat.intCast_neg];constructor<;>grind
theorem Sm{p:Int×Int}{q:Rat}{n:Int}(h:FN p.1 p.2=(n,true))(hq:con p q):aN q=n:=by
 obtain⟨h1,h2⟩:=hq;unfold FN at h;have z:((0:Int):Rat)=0:=rfl;split at h
 .rename_i g;injection h with h3 h4
  subst h3;have:=Rat.intCast_lt_intCast.2 g;rw[z]at this;exact lN.2 ν
 .split at h
  .rename_i g;injection h with h3 h4
   subst h3;have:=Rat.intCast_lt_intCast.2 g;rw[z]at this;have hq:q<0:=ν
   unfold aN;rw[if_pos hq]
  .injection h with h3 h4
   subst h3;have g:=of_decide_eq_true h4;rw[g.1,z]at h1;rw[g.2,z]at h2;exact fE.2 ν
theorem dP(q:Rat):(q<0/\aN q = -1)\/(q=0/\aN q=0)\/(0<q/\aN q=1):=by
 unfold aN
 by_cases h1:q<0
 .rw[if_pos h1];exact .inl ⟨h1,rfl⟩
 .rw[if_neg h1]
  by_cases h2:q=0
  .rw[if_pos h2];exact .inr (.inl ⟨h2,rfl⟩)
  .rw[if_neg h2];exact .inr (.inr ⟨ν,rfl⟩)
theorem CU{x y:Rat}(h0:0<=x)(h:x<y):x*x<y*y:=by
 have a1:=Rat.mul_le_mul_of_nonneg_left (Rat.le_of_lt h) h0;have a2:=Rat.mul_lt_mul_of_pos_right h (show 0<y by grind)
 grind
theorem uq(x:Rat):0<=x*x:=by
 rcases FQ (a:=0) (b:=x)with h|h
 .exact rF h h
 .have:=rF (show 0≤-x by grind) (show 0≤-x by grind);grind
theorem FB{a b:Rat}(h:b<a):dG a b=1:=by unfold dG;rw[if_neg ν,if_pos h]
theorem EW{a b:Rat}(h:a<b):dG a b = -1:=by unfold dG;rw[if_pos h]
theorem Nj{a b:Rat}(h:a=b):dG a b=0:=DK.2 h
theorem Iq{A B C s1 s2:Rat}{n:Int}(p1:0<=s1)(p2:s1<=s2)(q1:s1*s1<=C)(q2:C<=s2*s2)(h1:aN (A+B*s1)=n)(h2:aN (A+B*s2)=n):qI A B C=n:=by
 have hC:0<=C:=Rat.le_trans (uq s1) q1;have bb:=uq B;have m1:B*B*(s1*s1)<=B*B*C:=Rat.mul_le_mul_of_nonneg_left q1 bb;have m2:B*B*C<=B*B*(s2*s2):=Rat.mul_le_mul_of_nonneg_left q2 bb;have p3:0<=s2:=Rat.le_trans p1 p2;unfold qI;rcases dP C with⟨c1,c2⟩|⟨c1,c2⟩|⟨c1,c2⟩
 .grind
 .rw[c2,Int.mul_zero,if_pos (.inr rfl)]
  have:s1=0:=by
   rcases dP s1 with⟨k,_⟩|⟨k,_⟩|⟨k,_⟩
   .grind
   .exact k
   .have:=sH k k;grind
  subst this;rw[<-h1];congr 1;grind
 .have p4:0<s2:=by
   rcases dP s2 with⟨k,_⟩|⟨k,_⟩|⟨k,_⟩
   .grind
   .subst k;grind
   .exact k
  rw[c2,Int.mul_one];rcases dP B with⟨b1,b2⟩|⟨b1,b2⟩|⟨b1,b2⟩<;>rcases dP A with⟨a1,a2⟩|⟨a1,a2⟩|⟨a1,a2⟩<;>rw[a2,b2]
  .have k:=rF (show 0≤-B by grind) p1;have:A+B*s1<0:=ν
   rw[<-h1];unfold aN;rw[if_pos this];rfl
  .have k:=sH (show 0 < -B by grind) p4;have:A+B*s2<0:=ν
   rw[<-h2];unfold aN;rw[if_pos this];rfl
  .have k1:=rF (show 0≤-B by grind) p1;have k2:=rF (show 0≤-B by grind) p3;rcases dP (A+B*s1)with⟨u1,u2⟩|⟨u1,u2⟩|⟨u1,u2⟩
   .rw[h1]at u2;subst u2;have:=CU (x:=A) (y:=-B*s1) ν ν;rw[EW ν];rfl
   .rw[h1]at u2;subst u2;have v:=fE.1 h2
    have e:A*A=B*B*(s1*s1):=by have:A = -B*s1:=ν
                               subst this;grind
    have e2:A*A=B*B*(s2*s2):=by have:A = -B*s2:=ν
                                subst this;grind
    rw[Nj ν];rfl
   .rw[h1]at u2;subst u2;have v:=lN.1 h2;have:=CU (x:=-B*s2) (y:=A) ν ν;rw[FB ν];rfl
  .subst b1;rw[<-h1];have:A+0*s1=A:=ν
   rw[this,a2];rfl
  .subst b1;rw[<-h1];have:A+0*s1=A:=ν
   rw[this,a2];rfl
  .subst b1;rw[<-h1];have:A+0*s1=A:=ν
   rw[this,a2];rfl
  .have k1:=rF (show 0<=B by grind) p1;have k2:=rF (show 0<=B by grind) p3;rcases dP (A+B*s1)with⟨u1,u2⟩|⟨u1,u2⟩|⟨u1,u2⟩
   .rw[h1]at u2;subst u2
    have v:A+B*s2<0:=by
     rcases dP (A+B*s2)with⟨t1,t2⟩|⟨t1,t2⟩|⟨t1,t2⟩
     .exact t1
     .rw[h2]at t2;cases t2
     .rw[h2]at t2;cases t2
    have:=CU (x:=B*s2) (y:=-A) ν ν;rw[FB ν];rfl
   .rw[h1]at u2;subst u2;have v:=fE.1 h2
    have e:A*A=B*B*(s1*s1):=by have:A = -B*s1:=ν
                               subst this;grind
    have e2:A*A=B*B*(s2*s2):=by have:A = -B*s2:=ν
                                subst this;grind
    rw[Nj ν];rfl
   .rw[h1]at u2;subst u2;have:=CU (x:=-A) (y:=B*s1) ν ν;rw[EW ν];rfl
  .have k:=sH (show 0<B by grind) p4;rw[<-h2,lN.2 ν];rfl
  .have k:=rF (show 0<=B by grind) p1;rw[<-h1,lN.2 ν];rfl
theorem NK{a b c:Rat}{p:Int×Int}(e:jV a b c=some p):
 (b=0/\con p a)\/(0<=c/\∃s1 s2:Rat,0<=s1/\s1<=s2/\s1*s1<=c/\c<=s2*s2/\(∃w z,bZ c=some z/\jY z=some w/\s1=(w.1:Rat)*(1/65536)/\s2=(w.2:Rat)*(1/65536))/\con p (a+b*s1)/\con p (a+b*s2)):=by
 unfold jV at e;cases ha:bZ a with
 |none=>rw[ha]at e;cases e
 |some x =>
  rw[ha]at e;simp only at e
  by_cases hb:b=0
  .rw[if_pos hb]at e;injection e with e
   subst e;exact .inl ⟨hb,jv ha⟩
  .rw[if_neg hb]at e;right;cases hy:bZ b with
   |none=>rw[hy]at e;cases e
   |some y =>
    cases hz:bZ c with
    |none=>rw[hy,hz]at e;cases e
    |some z =>
     rw[hy,hz]at e;simp only at e;split at e
     .cases e
     .rename_i hc;have h0:0<=c:=ν
      cases hw:jY z with
      |none=>rw[hw]at e;cases e
      |some w =>
       rw[hw]at e;simp only at e;cases hp:nS y w with
       |none=>rw[hp]at e;cases e
       |some m =>
        rw[hp]at e;simp only at e;obtain⟨k1,k2,k3,k4⟩:=MQ hw (jv hz) h0;have j1:=J5.2 k3;have j2:=J5.2 k4;have z0:((0:Int):Rat)=0:=rfl;rw[z0]at j1;refine⟨h0,(w.1:Rat)*(1/65536),(w.2:Rat)*(1/65536),ν,ν,ν,ν,⟨w,z,rfl,hw,rfl,rfl⟩, ?_, ?_⟩
        .exact lZ e (jv ha) (vU hp (jv hy) (Gm ω ω))
        .exact lZ e (jv ha) (vU hp (jv hy) (Gm ω ω))
theorem Ou{a c:Rat}:qI a 0 c=aN a:=by
 unfold qI;have:aN 0=0:=fE.2 rfl;rw[this,Int.zero_mul,if_pos (.inr rfl)]
class RzB (q:Rat) (n:outParam Nat):Prop where
 h:rz q<=n
theorem dX{q:Rat}{n N:Nat}[k:RzB q n](h:n<=N):rz q<=N:=aP k.h h
instance{a b:Rat}{m n:Nat}[h:RzB a m][k:RzB b n]:RzB (a+b) (2*(m+n)+1):=⟨by have:=iF a b;have:=h.h;have:=k.h;omega⟩
instance{a b:Rat}{m n:Nat}[h:RzB a m][k:RzB b n]:RzB (a-b) (2*(m+n)+1):=⟨by have:=iU a b;have:=h.h;have:=k.h;omega⟩
instance{a b:Rat}{m n:Nat}[h:RzB a m][k:RzB b n]:RzB (a*b) (m+n):=⟨by have:=gK a b;have:=h.h;have:=k.h;omega⟩
instance{a:Rat}{m:Nat}[h:RzB a m]:RzB (-a) m:=⟨by rw [fG];exact h.h⟩
theorem QV{A B C t m:Rat}{n:Int}(h0:0<=t)(h1:t*t<=C)(h2:0<=m)(h3:C<=m*m)(k1:aN (A+B*t)=n)(k2:aN (A+B*m)=n):qI A B C=n:=by
 have htm:t<=m:=by
  rcases FQ (a:=t) (b:=m)with h|h
  .exact h
  .rcases FQ (a:=m) (b:=t)with h'|h'
   .by_cases e:m=t
    .grind
    .have:=CU h2 (show m<t by grind)
     grind
   .exact h'
 exact Iq h0 htm h1 h3 k1 k2
theorem SB{x y l:Rat}{n:Int}(h0:0<=l)(h1:l<=1)(hx:aN x=n)(hy:aN y=n):aN (x+l*(y-x))=n:=by
 have e:x+l*(y-x)=(1-l)*x+l*y:=ν
 rw[e];rcases dP x with⟨a1,a2⟩|⟨a1,a2⟩|⟨a1,a2⟩<;>rcases dP y with⟨b1,b2⟩|⟨b1,b2⟩|⟨b1,b2⟩<;>rw[a2]at hx<;>rw[b2]at hy<;>subst hx<;>(try(exfalso;omega))
 .have p1:=rF (show 0<=1-l by grind) (show 0≤-x by grind);have p2:=rF h0 (show 0≤-y by grind)
  have:(1-l)*x+l*y<0:=by
   by_cases hl:l=0
   .subst hl;grind
   .have:=sH (show 0<l by grind) (show 0 < -y by grind)
    grind
  unfold aN;rw[if_pos this]
 .subst a1 b1;rw[Rat.mul_zero,Rat.mul_zero];exact fE.2 ν
 .have p1:=rF (show 0<=1-l by grind) (show 0<=x by grind);have p2:=rF h0 (show 0<=y by grind)
  have:0<(1-l)*x+l*y:=by
   by_cases hl:l=0
   .subst hl;grind
   .have:=sH (show 0<l by grind) b1
    grind
  exact lN.2 this
theorem mM{x y k:Rat}(hk:0<k)(h:x*k<=y*k):x<=y:=by
 rcases FQ (a:=x) (b:=y)with h'|h'
 .exact h'
 .by_cases e:x=y
  .grind
  .have:=sH (show 0<x-y by grind) hk;grind
theorem Ti{x y k:Rat}(hk:0<k)(h:x*k=y*k):x=y:=by
 have h1:=mM hk (show x*k<=y*k by grind);have h2:=mM hk (show y*k<=x*k by grind)
 grind
theorem xw{x y z s t u:Rat}{n:Int}(h1:s<=u)(h2:u<=t)(hz:z*(t-s)=x*(t-u)+y*(u-s))(hx:aN x=n)(hy:aN y=n)(h3:s<t):aN z=n:=by
 obtain⟨l,hl⟩:∃l,l*(t-s)=u-s:=⟨(u-s)/(t-s),(by have hne:t-s≠0:=ν;grind)⟩
 have hk:0<t-s:=ν
 have e:z=x+l*(y-x):=Ti hk ν;rw[e];refine SB (mM hk ν) (mM hk ν) hx hy
theorem N8{P X W C s t:Rat}{n:Int}(h0:0<=s)(h1:s<=t)(h2:s*s<=C)(h3:C<=t*t)(hW:0<=W)
 (k1:aN (P+2*X*s+W*(s*s))=n) (k2:aN (P+X*(s+t)+W*(s*t))=n) (k3:aN (P+2*X*t+W*(t*t))=n):qI (P+W*C) (2*X) C=n:=by
 by_cases hst:s=t
 .subst hst;have hC:C=s*s:=ν
  subst hC;refine Iq h0 (Rat.le_refl) (Rat.le_refl) (Rat.le_refl) ?_ ?_<;>rw[<-k1]<;>congr 1<;>grind
 .have hlt:s<t:=ν
  have ht:0<t:=ν
  have hsum:0<s+t:=ν
  have hs0:s+t≠0:=ν
  obtain⟨t0,e0⟩:∃t0,t0*(s+t)=C+s*t:=⟨(C+s*t)/(s+t),ν⟩
  have q1:=rF (show 0<=t-s by grind) h0
  have l1:s<=t0:=by
   rcases FQ (a:=s) (b:=t0)with h|h
   .exact h
   .by_cases e:s=t0
    .grind
    .have:=sH (show 0<s-t0 by grind) hsum;grind
  have l2:t0<=t:=by
   rcases FQ (a:=t0) (b:=t)with h|h
   .exact h
   .by_cases e:t=t0
    .grind
    .have:=sH (show 0<t0-t by grind) hsum;grind
  have l3:t0*t0<=C:=by
   have:=rF (show 0<=t0-s by grind) (show 0<=t-t0 by grind)
   grind
  have m0:aN (P+W*C+2*X*t0)=n:=xw l1 l2 ν k1 k3 hlt
  have up:∃m,0<=m/\C<=m*m/\aN (P+W*C+2*X*m)=n:=by
   rcases FQ (a:=s*t) (b:=C)with h|h
   ·
    have ht0:t≠0:=ν
    obtain⟨u,eu⟩:∃u,u*t=C:=⟨C/t,ν⟩
    have u1:s<=u:=by
     rcases FQ (a:=s) (b:=u)with h|h
     .exact h
     .by_cases e:s=u
      .grind
      .have:=sH (show 0<s-u by grind) ht;grind
    have u2:u<=t:=by
     rcases FQ (a:=u) (b:=t)with h|h
     .exact h
     .by_cases e:t=u
      .grind
      .have:=sH (show 0<u-t by grind) ht;grind
    refine⟨(u+t)*(1/2),ν, ?_, ?_⟩
    .have:=uq (t-u);grind
    .have:=xw (z:=P+X*(u+t)+W*(u*t)) u1 u2 ν k2 k3 hlt;rw[<-this];congr 1;grind
   ·
    by_cases hs:s=0
    .subst hs;have hC:C=0:=ν
     subst hC;refine⟨0,Rat.le_refl,ν, ?_⟩;rw[<-k1];congr 1;grind
    .have hs1:0<s:=ν
     obtain⟨u,eu⟩:∃u,s*u=C:=⟨C/s,ν⟩
     have u1:s<=u:=by
      rcases FQ (a:=s) (b:=u)with h|h
      .exact h
      .by_cases e:s=u
       .grind
       .have:=sH (show 0<s-u by grind) hs1;grind
     have u2:u<=t:=by
      rcases FQ (a:=u) (b:=t)with h|h
      .exact h
      .by_cases e:t=u
       .grind
       .have:=sH (show 0<u-t by grind) hs1;grind
     refine⟨(s+u)*(1/2),ν, ?_, ?_⟩
     .have:=uq (u-s);grind
     .have:=xw (z:=P+X*(s+u)+W*(s*u)) u1 u2 ν k1 k2 hlt;rw[<-this];congr 1;grind
  obtain⟨m,m1,m2,m3⟩:=up;exact QV (Rat.le_trans h0 l1) l3 m1 m2 m0 m3
def dW(a b c f:Rat):Option (Int×Int) :=
 match jV a b c,bZ f with
 |some x,some y=>pY x (-y.2,-y.1)
 |_,_=>none
def iM(ax bx ay bb c X Y Q:Rat):Int×Bool :=
 match dW ax bx c X,dW ay bb c Y,bZ Q with
 |some x,some y,some q=>(match nS x x,nS y y with
  |some s,some t=>(match pY s t with
   |some u=>(match pY u (-q.2,-q.1)with
    |some r=>FN r.1 r.2
    |none=>(0,false))
   |none=>(0,false))
  |_,_=>(0,false))
 |_,_,_=>(0,false)
def Ba(c s1 s2:Rat):Prop:=0<=c/\0<=s1/\s1<=s2/\s1*s1<=c/\c<=s2*s2/\∃w z,bZ c=some z/\jY z=some w/\s1=(w.1:Rat)*(1/65536)/\s2=(w.2:Rat)*(1/65536)
theorem JQ{c s1 s2 t1 t2:Rat}(h:Ba c s1 s2)(k:Ba c t1 t2):s1=t1/\s2=t2:=by
 obtain⟨_,_,_,_,_,w,z,e1,e2,e3,e4⟩:=h;obtain⟨_,_,_,_,_,w',z',e1',e2',e3',e4'⟩:=k;rw[e1]at e1';injection e1' with e1'
 subst e1';rw[e2]at e2';injection e2' with e2'
 subst e2';exact⟨e3.trans e3'.symm,e4.trans e4'.symm⟩
theorem DR{a b c f:Rat}{p:Int×Int}(e:dW a b c f=some p):(b=0/\con p (a-f))\/∃s1 s2,Ba c s1 s2/\con p (a-f+b*s1)/\con p (a-f+b*s2):=by
 unfold dW at e;cases h1:jV a b c with
 |none=>rw[h1]at e;cases e
 |some x =>
  cases h2:bZ f with
  |none=>rw[h1,h2]at e;cases e
  |some y =>
   rw[h1,h2]at e;simp only at e;have k0:=Iz (jv h2);rcases NK h1 with⟨hb,k⟩|⟨h0,s1,s2,p1,p2,q1,q2,⟨w,z,e1,e2,e3,e4⟩,k1,k2⟩
   .refine .inl ⟨hb, ?_⟩;have:=lZ e k k0
    rwa [show a + -f=a-f by grind]at this
   .refine .inr ⟨s1,s2,⟨h0,p1,p2,q1,q2,w,z,e1,e2,e3,e4⟩, ?_, ?_⟩
    .have:=lZ e k1 k0
     rwa [show a+b*s1 + -f=a-f+b*s1 by grind]at this
    .have:=lZ e k2 k0
     rwa [show a+b*s2 + -f=a-f+b*s2 by grind]at this
theorem JR{ax bx ay bb c X Y Q:Rat}{n:Int}(h:iM ax bx ay bb c X Y Q=(n,true)):
 qI ((ax-X)*(ax-X)+(ay-Y)*(ay-Y)+c*(bx*bx+bb*bb)-Q) ((ax-X)*bx+(ay-Y)*bb+((ax-X)*bx+(ay-Y)*bb)) c=n:=by
 unfold iM at h;cases h1:dW ax bx c X with
 |none=>rw[h1]at h;simp at h
 |some x =>
  cases h2:dW ay bb c Y with
  |none=>rw[h1,h2]at h;simp at h
  |some y =>
   cases h3:bZ Q with
   |none=>rw[h1,h2,h3]at h;simp at h
   |some q =>
    rw[h1,h2,h3]at h;simp only at h;cases h4:nS x x with
    |none=>rw[h4]at h;simp at h
    |some s =>
     cases h5:nS y y with
     |none=>rw[h4,h5]at h;simp at h
     |some t =>
      rw[h4,h5]at h;simp only at h;cases h6:pY s t with
      |none=>rw[h6]at h;simp at h
      |some u =>
       rw[h6]at h;simp only at h;cases h7:pY u (-q.2,-q.1)with
       |none=>rw[h7]at h;simp at h
       |some r =>
        rw[h7]at h;simp only at h
        have key:∀u1 u2 v1 v2:Rat,con x u1->con x u2->con y v1->con y v2->aN (u1*u2+v1*v2-Q)=n:=λu1 u2 v1 v2 a b c d=>by
         have:=lZ h7 (lZ h6 (vU h4 a b) (vU h5 c d)) (Iz (jv h3));rw[<-Sm h this];congr 1;grind
        have fin:∀s1 s2:Rat,Ba c s1 s2->con x (ax-X+bx*s1)->con x (ax-X+bx*s2)->con y (ay-Y+bb*s1)->con y (ay-Y+bb*s2) ->
         qI ((ax-X)*(ax-X)+(ay-Y)*(ay-Y)+c*(bx*bx+bb*bb)-Q) ((ax-X)*bx+(ay-Y)*bb+((ax-X)*bx+(ay-Y)*bb)) c=n:=λs1 s2 ⟨_,p1,p2,q1,q2,_⟩ a1 a2 b1 b2=>by
         have w1:=uq bx;have w2:=uq bb
         have:=N8 (P:=(ax-X)*(ax-X)+(ay-Y)*(ay-Y)-Q) (X:=(ax-X)*bx+(ay-Y)*bb) (W:=bx*bx+bb*bb) (C:=c) (n:=n) p1 p2 q1 q2 ν
          (by rw[<-key _ _ _ _ a1 a1 b1 b1];congr 1;grind) (by rw[<-key _ _ _ _ a1 a2 b1 b2];congr 1;grind) (by rw[<-key _ _ _ _ a2 a2 b2 b2];congr 1;grind)
         rw[<-this];congr 1<;>grind
        rcases DR h1 with⟨b1,k1⟩|⟨s1,s2,hs,k1,k2⟩<;>rcases DR h2 with⟨b2,j1⟩|⟨t1,t2,ht,j1,j2⟩
        .subst b1 b2;rw[show(ax-X)*0+(ay-Y)*0+((ax-X)*0+(ay-Y)*0)=(0:Rat) by grind,Ou,<-key _ _ _ _ k1 k1 j1 j1];congr 1;grind
        .subst b1;have e:∀s:Rat,ax-X+0*s=ax-X:=λs=>by grind
         exact fin t1 t2 ht (by rw[e];exact k1) (by rw[e];exact k1) j1 j2
        .subst b2;have e:∀s:Rat,ay-Y+0*s=ay-Y:=λs=>by grind
         exact fin s1 s2 hs k1 k2 (by rw[e];exact j1) (by rw[e];exact j1)
        .obtain⟨rfl,rfl⟩:=JQ hs ht;exact fin _ _ hs k1 k2 j1 j2
def lK(n:Int):Bool:=decide (0<=n)&&decide ((((fV n.natAbs:Nat):Int))*((fV n.natAbs:Nat):Int)=n)
def jW(a:Rat):Bool:=lK a.num&&lK a.den
def qg(a:Rat):Rat:=((((fV a.num.natAbs:Nat):Int)):Rat)/((((fV (a.den:Int).natAbs:Nat):Int)):Rat)
theorem DI{n:Int}:lK n=true↔∃m:Nat,(m:Int)*m=n:=by
 unfold lK;rw[bY,decide_eq_true_eq,decide_eq_true_eq];constructor
 .rintro ⟨_,h⟩;exact⟨_,h⟩
 .rintro ⟨m,rfl⟩;have e:((m:Int)*m).natAbs=m*m:=by rw[Int.natAbs_mul,vZ]
  have h:fV (m*m)=m:=(Ee (gW _) (Nat.mul_lt_mul'' ω ω)).symm;rw[e,h];exact⟨Int.mul_nonneg ω ω,rfl⟩
theorem L8{n:Int}(h:lK n=true):((fV n.natAbs:Nat):Int)*((fV n.natAbs:Nat):Int)=n:=by
 unfold lK at h;rw[bY,decide_eq_true_eq,decide_eq_true_eq]at h;exact h.2
theorem zh{a:Rat}(h:jW a=true):(qg a).num=((fV a.num.natAbs:Nat):Int)/\((qg a).den:Int)=((fV (a.den:Int).natAbs:Nat):Int):=by
 unfold jW at h;rw[bY]at h;obtain⟨h1,h2⟩:=h;have e1:=L8 h1;have e2:=L8 h2;have hd:=den_pos a
 have hp:0<((fV (a.den:Int).natAbs:Nat):Int):=by
  rcases rQ (fV (a.den:Int).natAbs)with h0|h0
  .rw[h0]at e2;simp at e2;omega
  .omega
 have hg:Nat.gcd (fV a.num.natAbs) (fV (a.den:Int).natAbs)=1:=by
  have hc:=a.reduced
  have d1:Nat.gcd (fV a.num.natAbs) (fV (a.den:Int).natAbs) ∣ a.num.natAbs:=by
   have:a.num.natAbs=fV a.num.natAbs*fV a.num.natAbs:=by
    have:=congrArg Int.natAbs e1;rw[Int.natAbs_mul,vZ]at this;exact this.symm
   exact Nat.dvd_trans (Nat.gcd_dvd_left _ _) ⟨_,this⟩
  have d2:Nat.gcd (fV a.num.natAbs) (fV (a.den:Int).natAbs) ∣ a.den:=by
   have:a.den=fV (a.den:Int).natAbs*fV (a.den:Int).natAbs:=by
    have:=congrArg Int.natAbs e2;rw[Int.natAbs_mul,vZ]at this;exact this.symm
   exact Nat.dvd_trans (Nat.gcd_dvd_right _ _) ⟨_,this⟩
  exact Nat.eq_one_of_dvd_one (hc▸Nat.dvd_gcd d1 d2)
 obtain⟨q1,q2⟩:=rO (n:=((fV a.num.natAbs:Nat):Int)) hp;change Nat.gcd (((fV a.num.natAbs:Nat):Int)).natAbs (((fV (a.den:Int).natAbs:Nat):Int)).natAbs=1 at hg;rw[hg]at q1 q2;exact⟨by unfold qg;rw[q1];exact fdiv_one _,by unfold qg;rw[q2];exact fdiv_one _⟩
where
 num_den_div {a:Rat}:a=(a.num:Rat)/((a.den:Int):Rat):=by
  have h1:=iO a;have h2:=iK a;rw[h1];grind
@[reducible] def Q2(a b:Rat):AV:=.agg [zs a.num,zl a.num,zs a.den,zl a.den,zs b.num,zl b.num,zs b.den,zl b.den]
@[reducible] def ZQ3:AV:=.agg [.v (.bool false),.sl 1 [],.v (.bool false),.sl 1 [],.v (.bool false),.sl 1 [],.v (.bool false),.sl 1 [],.v (.bool false),.sl 1 [],.v (.bool false),.sl 1 []]
def xU(b c:Rat):Rat:=if b=0\/c=0 then 0 else b
def wU(b c:Rat):Rat:=if b=0\/c=0 then 0 else c
def Tj(a b c:Rat):Rat:=if jW c=true then a+b*qg c else a
def RN(b c:Rat):Rat:=if jW c=true then 0 else xU b c
def QM(b c:Rat):Rat:=if jW c=true then 0 else wU b c
def yG(b c:Rat):Rat:=if b=0 then 0 else c
def RD(b e c:Rat):Rat:=if b=0/\e=0 then 0 else c
theorem Tq{ax bx ay bb c X Y Q:Rat}(h:(iM ax bx ay bb c X Y Q).2=true):
 (iM ax bx ay bb c X Y Q).1=qI ((ax-X)*(ax-X)+(ay-Y)*(ay-Y)+c*(bx*bx+bb*bb)-Q) ((ax-X)*bx+(ay-Y)*bb+((ax-X)*bx+(ay-Y)*bb)) c :=
 (JR (n:=(iM ax bx ay bb c X Y Q).1) (Prod.ext rfl h)).symm
section
variable {a b:Rat}
theorem QI(h:a.num=b.num):packA [AV.c (Cell.v (.bool (decide ((a.den:Int)=(b.den:Int)))))]=AV.bool (decide (a=b)) :=
 bE (by rw[decide_eq_decide];exact⟨λh2=>Rat.ext h ω,λh2=>by rw[h2]⟩)
theorem Q7(h:¬a.num=b.num):packA [AV.c (Cell.v (.bool false))]=AV.bool (decide (a=b)) :=
 bE (by symm;rw[decide_eq_false_iff_not];exactλe=>h (by rw[e]))
end
theorem V8{c:Rat}(h:jW c=true):rz (qg c)<=rz c:=by
 obtain⟨h1,h2⟩:=zh h
 have k:∀n:Nat,fV n<=n:=λn=>by
  have h3:=(wS n).1;rcases rQ (fV n)with h4|h4
  .omega
  .exact aP (Nat.le_mul_of_pos_left _ h4) h3
 unfold rz;rw[h1,h2];have a1:=iQ (a:=((fV c.num.natAbs:Nat):Int)) (b:=c.num) (by rw[vZ];exact k _);have a2:=iQ (a:=((fV (c.den:Int).natAbs:Nat):Int)) (b:=(c.den:Int)) (by rw[vZ];exact k _);omega
theorem ZM:rz 0<=1:=by decide +kernel
instance:RzB 0 1:=⟨ZM⟩
instance{p:Prop}[Decidable p]{a b:Rat}{m n:Nat}[h1:RzB a m][h2:RzB b n]:RzB (if p then a else b) (m+n):=⟨by split;exact aP h1.h ω;exact aP h2.h ω⟩
open Go.RowKit
class DenC (P:Program) [Wld P] (f:FuncId) (xs:List AV) (pre:outParam Prop) (c:outParam Prop) (r s:outParam AV):Prop where
 den:pre->(c->Den P f xs r)/\(¬c->Den P f xs s)
theorem zao{P:Program}[Wld P]{f:FuncId}{xs:List AV}{pre c:Prop}{r s:AV}{k:AV->Prop}[h:DenC P f xs pre c r s](hp:Pr pre)(h1:c->k r)(h2:¬c->k s):CallP (Den P) f xs k:=by
 by_cases hc:c
 .exact⟨r,(h.den hp.p).1 hc,h1 hc⟩
 .exact⟨s,(h.den hp.p).2 hc,h2 hc⟩
theorem denC{P:Program}[Wld P]{f:FuncId}{xs:List AV}{pre c:Prop}{r s:AV}(h:pre->∀q,(c->q=r)->(¬c->q=s)->Den P f xs q)(hp:pre):(c->Den P f xs r)/\(¬c->Den P f xs s) :=
 ⟨λhc=>h hp r (λ_=>rfl) (λn=>absurd hc n),λhc=>h hp s (λn=>absurd n hc) (λ_=>rfl)⟩
end Go.Sw
namespace Go.Sw
open Go
class SzB (n:Int) (k:outParam Nat):Prop where
 h:sz n<=k
theorem eY{n:Int}{k K:Nat}[i:SzB n k](h:k<=K):sz n<=K:=aP i.h h
instance{q:Rat}{n:Nat}[i:RzB q n]:SzB q.num n:=⟨aP (fH q) i.h⟩
instance{q:Rat}{n:Nat}[i:RzB q n]:SzB (q.den:Int) n:=⟨aP (gu q) i.h⟩
instance{a b:Int}{m n:Nat}[i:SzB a m][j:SzB b n]:SzB (a*b) (m+n):=⟨by have:=eF a b;have:=i.h;have:=j.h;omega⟩
instance{p:Prop}[Decidable p]{a b:Int}{m n:Nat}[h1:SzB a m][h2:SzB b n]:SzB (if p then a else b) (m+n):=⟨by split;exact aP h1.h ω;exact aP h2.h ω⟩
instance:SzB 0 3:=⟨dV ψ ψ⟩
theorem XH(n:Nat):fV n<=n:=by
 have h3:=(wS n).1;rcases rQ (fV n)with h4|h4
 .omega
 .exact aP (Nat.le_mul_of_pos_left _ h4) h3
instance{a:Int}{m:Nat}[i:SzB a m]:SzB ((fV a.natAbs:Nat):Int) m:=⟨aP (iQ (by rw [vZ];exact XH _)) i.h⟩
section
variable {a b c:Rat}
end
section
variable {a b c:Rat} {q:AV}
theorem V5(h:¬aN a=aN b):packA [AV.c (Cell.v (.int .i64 (gU (aN a) (aN b))))]=AV.int .i64 (dG a b):=iE (by
 rcases dP a with⟨a1,a2⟩|⟨a1,a2⟩|⟨a1,a2⟩<;>rcases dP b with⟨b1,b2⟩|⟨b1,b2⟩|⟨b1,b2⟩<;>rw[a2,b2]at h ⊢<;>first
  |exact absurd rfl h|(rw[EW ν];rfl)|(rw[FB ν];rfl))
theorem TF(hb:¬b=0)(e:¬b=0->q=AV.tup [R (a/b),AV.int .i64 0]):packA [R (((a.num*b.den:Int):Rat)/((a.den*b.num:Int):Rat)),AV.c (Cell.v (.int .i64 0))]=q:=by
 rw[e hb,Io a b hb];rfl
theorem Dv(h:(a.den:Int)*b.num=0):b=0:=by
 rcases Int.mul_eq_zero.1 h with h|h
 .exact absurd h (aj a)
 .exact(GI b).1 h
theorem Zq(h:¬(a.den:Int)*b.num=0)(e:¬b=0->q=AV.tup [R (a/b),AV.int .i64 0]):packA [R (((a.num*b.den:Int):Rat)/((a.den*b.num:Int):Rat)),AV.c (Cell.v (.int .i64 0))]=q :=
 TF (λe=>h (by rw[e];simp)) e
theorem KN(h:¬b=0):(a.den:Int)*b.num≠0:=λe=>h (Dv e)
theorem Xk(n:Int):((0:Int):Rat)=(n:Rat)/((0:Int):Rat):=by rw[<-UH n];decide +kernel
theorem XI{x:Int}(h:(if x<0 then(7:Int)else 0)=0):packA [Z (if x<0 then 0 else(fV x.natAbs:Nat)),AV.c (Cell.v (.bool (decide ((if x<0 then 0 else((fV x.natAbs:Nat):Int))*(if x<0 then 0 else((fV x.natAbs:Nat):Int))=x))))]=AV.tup [Z (if x<0 then 0 else(fV x.natAbs:Nat)),AV.bool (lK x)]:=by
 have h0:¬x<0:=λh1=>by rw[if_pos h1]at h;exact absurd h ψ
 have e:lK x=decide ((if x<0 then 0 else((fV x.natAbs:Nat):Int))*(if x<0 then 0 else((fV x.natAbs:Nat):Int))=x):=by
  unfold lK;rw[if_neg h0,decide_eq_true (show 0<=x by omega),BM]
 rw[e];rfl
theorem Wy{x:Int}(h:¬(if x<0 then(7:Int)else 0)=0):packA [Z (if x<0 then 0 else(fV x.natAbs:Nat)),AV.c (Cell.v (.bool false))]=AV.tup [Z (if x<0 then 0 else(fV x.natAbs:Nat)),AV.bool (lK x)]:=by
 have h0:x<0:=Decidable.byContradiction λh1=>h (by rw[if_neg h1])
 have e:lK x=false:=by
  unfold lK;rw[decide_eq_false (show¬0<=x by omega),PI]
 rw[e];rfl
theorem WX(h1:(!lK a.num)=false)(h2:(!lK a.den)=false)(e:jW a=true->q=AV.tup [R (qg a),AV.bool true]):
 packA [AV.agg [zs (if a.num<0 then 0 else(fV a.num.natAbs:Nat)),zl (if a.num<0 then 0 else(fV a.num.natAbs:Nat)),zs (if(a.den:Int)<0 then 0 else(fV (a.den:Int).natAbs:Nat)),zl (if(a.den:Int)<0 then 0 else(fV (a.den:Int).natAbs:Nat))],AV.c (Cell.v (.bool true))]=q:=by
 have k1:lK a.num=true:=by simpa using h1
 have k2:lK a.den=true:=by simpa using h2
 have k:jW a=true:=by unfold jW;rw[k1,k2];rfl
 obtain⟨p1,p2⟩:=zh k
 have n1:¬a.num<0:=by
  unfold lK at k1;rw[bY,decide_eq_true_eq]at k1;omega
 have n2:¬(a.den:Int)<0:=ω
 rw[e k,if_neg n1,if_neg n2,<-p1,<-p2];rfl
theorem Lj(h:(!lK a.num)=true\/(!lK a.den)=true):¬jW a=true:=by
 unfold jW;rcases h with h|h<;>simp at h<;>rw[h]<;>simp
end
theorem BH(a b c:Rat):-1<=qI a b c/\qI a b c<=1:=by
 unfold qI;have h1:=jX a;have h2:=kK (jX b) (jX c);have h3:=kK (jX a) (nD (a*a) (b*b*c))
 repeat' split
 all_goals first|exact h1|exact h2|exact h3
theorem adL(a b c:Rat):IntKind.i64.wrap (0-qI a b c) = -qI a b c:=by
 have:=BH a b c;rw[aS ω ω];omega
theorem Zg{a b c:Rat}{n:Int}(h:qI a b c=n):packA [AV.c (Cell.v (.int .i64 (IntKind.i64.wrap (0-qI a b c))))]=AV.int .i64 (-n):=iE (by rw[adL,h])
theorem Y6{a b c d e f g h:Rat}{n:Int}(k:(iM a b c d e f g h).2=true)(hn:(iM a b c d e f g h).1=n)(h1 : -1<=n)(h2:n<=1):packA [AV.c (Cell.v (.int .i64 (IntKind.i64.wrap (0-(iM a b c d e f g h).1))))]=AV.int .i64 (-n):=iE (by
 rw[hn,aS ω ω];omega)
instance{a b:Rat}{m n:Nat}[h:RzB a m][k:RzB b n]:RzB (a / b) (m+n+1):=⟨by
 by_cases hb:b=0
 .subst hb;have:a/0=0:=by rw[Rat.div_def,Rat.inv_zero,Rat.mul_zero]
  rw[this];have:=ZM;omega
 .have:=VK a b hb;have:=h.h;have:=k.h;omega⟩
theorem aaj(a:Rat):((0:Int):Rat)=a/0:=by
 have:((0:Int):Rat)=0:=rfl;rw[this,Rat.div_def,Rat.inv_zero,Rat.mul_zero]
section
variable {a b c:Rat}
theorem acZ(h:aN b*aN c=0):packA [AV.c (Cell.v (.int .i64 (aN a)))]=AV.int .i64 (qI a b c):=iE (by unfold qI;rw[if_pos (.inr h)])
theorem acD(h:aN a=aN b*aN c):packA [AV.c (Cell.v (.int .i64 (aN a)))]=AV.int .i64 (qI a b c):=iE (by unfold qI;rw[if_pos (.inl h)])
theorem adS(h1:¬aN b*aN c=0)(h2:¬aN a=aN b*aN c)(h3:a=0):packA [AV.c (Cell.v (.int .i64 (aN b*aN c)))]=AV.int .i64 (qI a b c):=iE (by
 unfold qI;rw[if_neg (by rintro (h|h);exact h2 h;exact h1 h),if_pos (fE.2 h3)])
theorem abL(h1:¬aN b*aN c=0)(h2:¬aN a=aN b*aN c)(h3:¬a=0):packA [AV.c (Cell.v (.int .i64 (aN a*dG (a*a) (b*b*c))))]=AV.int .i64 (qI a b c):=iE (by
 rw[abX h2 h1 (λe=>h3 (fE.1 e))])
end
theorem CB(a b c f:Rat):Ai ((dW a b c f).getD (0,0)):=by
 unfold dW;have h1:=Ep a b c;have h2:=gV f;cases h3:jV a b c with
 |none=>unfold Ai;simp only[DJ];decide
 |some x =>
  cases h4:bZ f with
  |none=>unfold Ai;simp only[DJ];decide
  |some y =>
   rw[h3]at h1;rw[h4]at h2;simp only[uJ]at h1 h2;exact AO h1 (by unfold Ai at *;simp only;omega)
theorem Rn{a b c f:Rat}(h:(!(jV a b c).isSome)=true\/(!(bZ f).isSome)=true):(none:Option (Int×Int))=dW a b c f:=by
 unfold dW;rcases h with h|h
 .cases h1:jV a b c with
  |none=>rfl
  |some x=>rw[h1]at h;cases h
 .cases h1:jV a b c with
  |none=>rfl
  |some x=>cases h2:bZ f with
   |none=>rfl
   |some y=>rw[h2]at h;cases h
theorem U4{a b c f:Rat}(h:(!(jV a b c).isSome)=false)(k:(!(bZ f).isSome)=false):pY ((jV a b c).getD (0,0)) (-((bZ f).getD (0,0)).2,-((bZ f).getD (0,0)).1)=dW a b c f:=by
 unfold dW;cases h1:jV a b c with
 |none=>rw[h1]at h;cases h
 |some x=>cases h2:bZ f with
  |none=>rw[h2]at k;cases k
  |some y=>rfl
section
variable {ax bx ay bb c X Y Q:Rat}
theorem adO{p:Int×Bool}(h:p=(0,false)):packA [AV.c (Cell.v (.int .i64 0)),AV.c (Cell.v (.bool false))]=AV.tup [.int .i64 p.1,.bool p.2]:=by rw[h];rfl
theorem adC(h:(!(dW ax bx c X).isSome)=true\/(!(dW ay bb c Y).isSome)=true\/(!(bZ Q).isSome)=true):iM ax bx ay bb c X Y Q=(0,false):=by
 unfold iM;cases h1:dW ax bx c X with
 |none=>rfl
 |some x=>cases h2:dW ay bb c Y with
  |none=>rfl
  |some y=>cases h3:bZ Q with
   |none=>rfl
   |some q=>rw[h1,h2,h3]at h;simp at h
theorem Yp{x y q:Int×Int}(h1:(!(dW ax bx c X).isSome)=false)(h2:(!(dW ay bb c Y).isSome)=false)(h3:(!(bZ Q).isSome)=false)(e1:x=(dW ax bx c X).getD (0,0))(e2:y=(dW ay bb c Y).getD (0,0))(e3:q=(bZ Q).getD (0,0)):
 iM ax bx ay bb c X Y Q=(match nS x x,nS y y with
 |some s,some t=>(match pY s t with
  |some u=>(match pY u (-q.2,-q.1)with
   |some r=>FN r.1 r.2
   |none=>(0,false))
  |none=>(0,false))
 |_,_=>(0,false)):=by
 subst e1 e2 e3;unfold iM;cases k1:dW ax bx c X with
 |none=>rw[k1]at h1;cases h1
 |some x=>cases k2:dW ay bb c Y with
  |none=>rw[k2]at h2;cases h2
  |some y=>cases k3:bZ Q with
   |none=>rw[k3]at h3;cases h3
   |some q=>rfl
end
theorem rW(q:Rat):fK (decide (q.num<0)) (lim q.num.natAbs) (decide ((q.den:Int)<0)) (lim (q.den:Int).natAbs)=true:=by
 rw[iZ];have h1:=den_pos q;have h2:=q.reduced;rw[bY,decide_eq_true_eq,decide_eq_true_eq];exact⟨lH.2 h1,by rw[vZ];exact congrArg Int.ofNat h2⟩
end Go.Sw
