/-
  Rules of the abstract run, plain laws, and what functions answer, for the law RepairClean.
  Conditions: none.
-/
import Derived.Test.YtmniihkenijjpaaGreatDoorV8
set_option linter.all false
namespace Go.Sw
open Go Go.RowKit
open Go.WideElems (rd rg pl)
def JS.add(st:JS)(k:ByteArray)(c:List Cell):JS:=⟨st.sq,λx=>if x=k then st.f x++[c]else st.f x,st.n+1⟩
theorem jmore{w w3:World}{more more':List Bx}{g':Nat}{T:TypeId}{cur:Array Value}{og:Option Nat}(hm':more'=(g',T,cur)::more.filter λq=>!(decide (og=some q.1)))(hg:og=some g'\/w.heap.size<=g')(hog:∀g,og=some g->g∈bl more)(hl:∀q:Bx,q∈more->q.1<w.heap.size)
 (hn:w3.heap[g']?=some (Obj.cells cur T (0,0))) (hk:∀q:Bx,q∈more->og≠some q.1->w3.heap[q.1]?=some (Obj.cells q.2.2 q.2.1 (0,0))) (hnd:more.Pairwise λa b=>a.1≠b.1) :
 (∀q:Bx,q∈more'->(q.1∈bl more\/w.heap.size<=q.1)/\w3.heap[q.1]?=some (Obj.cells q.2.2 q.2.1 (0,0)))/\more'.Pairwise λa b=>a.1≠b.1:=by
 subst hm';refine⟨λq hq=>?_,List.pairwise_cons.2 ⟨λq hq=>?_,hnd.filter _⟩⟩
 .rcases qh.1 hq with rfl|hq
  .refine⟨?_,hn⟩;rcases hg with h|h
   .exact .inl (hog _ h)
   .exact .inr h
  .obtain⟨h1,h2⟩:=xZ.1 hq;exact⟨.inl (dW.2 ⟨q,h1,rfl⟩),hk q h1 (by simpa using h2)⟩
 .obtain⟨h1,h2⟩:=xZ.1 hq;have h2':og≠some q.1:=by simpa using h2
  intro e;simp only at e;rcases hg with h|h
  .exact h2' (by rw[h,e])
  .have:=hl q h1;omega
theorem fit_size{P:Program}{kT:TypeId}{es es':Array MapEntry}{kl:Lit}{d:DataW Value}{n:Nat}(h:(es'.toList.map (rg P kT Rv)).foldr DataW.insert []=ChangeMaps.putKey kl d ((es.toList.map (rg P kT Rv)).foldr DataW.insert []))(hn:es.size<=n):es'.size<=n+1:=by
 have e1:es'.size=((es'.toList.map (rg P kT Rv)).foldr DataW.insert []).length:=by rw[length_sorted];simp
 rw[e1,h];unfold ChangeMaps.putKey;rw[length_insert];have e2:=Xz (ChangeMaps.notKey kl) ((es.toList.map (rg P kT Rv)).foldr DataW.insert []);rw[length_sorted]at e2;simp at e2;omega
theorem jput{P:Program}{mT kT sT T:TypeId}{s:Nat}{st:JS}{w w1 w2:World}{X:List Nat}{us:List Value}{more:List Bx}{es:Array MapEntry}{ck g0:Nat}{us':List Value}{val:ByteArray->Value}{og:ByteArray->Option Nat}{k:ByteArray}{v':Value}{vs:List Value}{vC:List Cell}{uss:List (List Value)}
 (hkT:P.underlying kT=some .string) (hmT:P.underlying mT=some (.map kT sT)) (hs0:0<s)
 (hu:us=.map (some g0)::us') (hus:RepL w X us' st.sq) (hF:Go.WideElems.Fit P kT Rv es ck) (hn:es.size<=st.n) (hroom:st.n<maxLen) (hv:∀k,(datum P kT es).atKey (.string k.data.toList) (DataW.held (Value.slice none 0 0))=DataW.held (val k)) (hsl:∀k,SlotR w X T s more (val k) (st.f k) (og k)) (hinj:∀k1 k2 g,og k1=some g->og k2=some g->k1=k2)
 (hX:∀q:Bx,q∈more->q.1∈X/\w.heap[q.1]?=some (Obj.cells q.2.2 q.2.1 (0,0))) (hnd:more.Pairwise λa b=>a.1≠b.1) (hmap:w.heap[g0]?=some (Obj.map es ck)) (hk:k.size<=maxLen)
 (hvs:RepL w X vs vC) (hvl:vs.length=s) (huss:RepS w X s uss (st.f k))
 (hb1:Below w.heap.size w w1) (hown:w2.ownsRow 0 T s v' ((st.f k).length+1) (uss.flatten++vs)) (hgr:w1.grownBy w2 (val k).ownBlock) (hob:v'.ownBlock=(val k).ownBlock\/v'.ownBlock=some w1.heap.size) (hgo:(val k).ownBlock=og k) :
 ∃w3 mo' more',(Instr.mapUpdate mT (.map (some g0)) (.string k) v').run P w2=.ok () w3/\mo'.1=g0/\w3.heap[g0]?=some (Obj.map mo'.2.1 mo'.2.2)/\(∀q:Bx,q∈more'->(q.1∈bl more\/w1.heap.size<=q.1)/\w3.heap[q.1]?=some (Obj.cells q.2.2 q.2.1 (0,0)))/\(more'.Pairwise λa b=>a.1≠b.1) /\
  (w3.os=w.os/\w3.tape=w.tape/\w3.output=w.output/\w.heap.size<=w3.heap.size/\∀i,i<w.heap.size->i≠g0->i ∉ bl more->w3.heap[i]?=w.heap[i]?)/\(∀i,i<w1.heap.size->i≠g0->og k≠some i->w3.heap[i]?=w1.heap[i]?)/\jrep P kT T s (st.add k vC) w3 (bl more'++X) us more' mo':=by
 have hkey:keyOf P kT (.string k)=some (.string k.data.toList):=by simp[keyOf,hkT,mapKey,hk]
 have hg0:=lt_of_heap hmap;have hlt:∀q:Bx,q∈more->q.1<w.heap.size:=λq hq=>lt_of_heap (hX q hq).2
 have hne0:∀q:Bx,q∈more->q.1≠g0:=λq hq e=>by
  have:=(hX q hq).2;rw[e,hmap]at this;cases this
 have hogm:∀k g,og k=some g->g∈bl more/\g<w.heap.size/\g≠g0:=by
  intro k1 g1 h1;have h6:=hsl k1;rw[h1]at h6;generalize val k1=vx at h6;generalize st.f k1=fx at h6;cases h6 with
  |some hm hr hc hx hn h0=>exact⟨dW.2 ⟨_,hm,rfl⟩,hlt _ hm,hne0 _ hm⟩
 have hb0:(val k).ownBlock≠some g0:=by rw[hgo];exactλe=>(hogm k g0 e).2.2 rfl
 have hmap2:w2.heap[g0]?=some (Obj.map es ck):=(hgr.block g0 (Au hg0 hb1.size) (λe=>hb0 e.symm)).trans ((hb1.block g0 hg0).trans hmap);obtain⟨es',ck',hrun,hF',hput,_⟩:=Maps.fit_store (R':=Rv) (Maps.string_keyed hkT) hmT hmap2 hF (Nat.lt_of_le_of_lt hn hroom) (λ_ _ _ _ hz=>hz) hkey (show Rv v'=some (DataW.held v',[])from rfl);rcases hown.2 with⟨_,h0⟩|⟨g',cap,cur,hv',hb',hg',hle,hmx,hcs,htk⟩
 .omega
 have hg'2:og k=some g'\/g'=w1.heap.size:=by
  rw[hv']at hob;rcases hob with h|h
  .left;rw[<-hgo,<-h];rfl
  .right;simpa[Value.ownBlock]using h
 have hg'0:g'≠g0:=λe=>by rw[e,hmap2]at hg';cases hg'
 let w3:=ChangeMaps.setBlock w2 g0 (.map es' ck')
 have hsame:w3.heap[g0]?=some (Obj.map es' ck'):=ChangeMaps.heap_setBlock_same hmap2 _;have hoth:∀i,i≠g0->w3.heap[i]?=w2.heap[i]?:=λi hi=>ChangeMaps.heap_setBlock_other hmap2 _ hi
 have h31:∀i,i<w1.heap.size->i≠g0->og k≠some i->w3.heap[i]?=w1.heap[i]?:=λi hi h1 h2=>(hoth i h1).trans (hgr.block i hi (λe=>h2 (by rw[<-hgo,<-e])))
 have h30:∀i,i<w.heap.size->i≠g0->og k≠some i->w3.heap[i]?=w.heap[i]?:=λi hi h1 h2=>(h31 i (Au hi hb1.size) h1 h2).trans (hb1.block i hi)
 have hsz:w.heap.size<=w3.heap.size:=by
  have:w3.heap.size=w2.heap.size:=by simp[w3,ChangeMaps.setBlock]
  rw[this];exact aO hb1.size hgr.size
 obtain⟨hM,hP⟩:=jmore (w:=w1) (w3:=w3) (more:=more) (g':=g') (T:=T) (cur:=cur) (og:=og k) rfl (by
  rcases hg'2 with h|h
  .exact .inl h
  .right;rw[h];exact iy _) (λg h=>(hogm k g h).1) (λq hq=>Au (hlt q hq) hb1.size) ((hoth g' hg'0).trans hg') (λq hq h=>(h30 q.1 (hlt q hq) (hne0 q hq) h).trans (hX q hq).2) hnd
 have hext:Ext w X w3 (bl ((g',T,cur)::more.filter λq=>!(decide (og k=some q.1)))++X):=by
  refine⟨hsz,λi hi hx hnm=>?_⟩;have hi0:i≠g0:=λe=>hnm _ _ (e▸hmap)
  have hik:og k≠some i:=λe=>by
   obtain⟨q,hq,rfl⟩:=dW.1 (hogm k i e).1;exact hx (hX q hq).1
  refine⟨h30 i hi hi0 hik,λhm=>?_⟩;rcases jF.1 hm with hm|hm
  .obtain⟨q,hq,rfl⟩:=dW.1 hm;rcases(hM q hq).1 with h|h
   .obtain⟨p,hp,hpe⟩:=dW.1 h;exact hx (hpe▸(hX p hp).1)
   .have:=hb1.size;omega
  .exact hx hm
 refine⟨w3,(g0,es',ck'),_,hrun,rfl,hsame,hM,hP,⟨hgr.os.trans hb1.os,hgr.tape.trans hb1.tape,hgr.output.trans hb1.output,hsz,λi hi h1 h2=>h30 i hi h1 (λe=>h2 (hogm k i e).1)⟩,h31,us',hu,hus.ext hext,hF', ?_, ?_⟩
 .exact fit_size hput hn
 .have hD:datum P kT es'=(datum P kT es).put (.string k.data.toList) (.held v'):=by unfold datum;rw[DataW.put_eq,hput]
  refine⟨λx=>if x=k then v' else val x,λx=>if x=k then some g' else og x,λx=>?_,λx=>?_,λk1 k2 g1 h1 h2=>?_⟩
  .show(datum P kT es').atKey _ _=_;rw[hD]
   by_cases hx:x=k
   .subst hx;refine um ?_ (congrArg DataW.held (if_pos rfl).symm);exact Maps.atKey_put_same (D:=datum P kT es) ⟨_,rfl⟩ (k:=.string x.data.toList) trivial _ _
   .refine um ?_ (congrArg DataW.held (if_neg hx).symm);rw[Maps.atKey_put_other (λe=>hx ?_)]
    .exact hv x
    .injection e with e
     have:x.data=k.data:=yc e;cases x;cases k;simp_all
  .by_cases hx:x=k
   .subst hx;simp only[if_true,JS.add];rw[hv']
    have hR:RepS w X s (uss++[vs]) (st.f x++[vC]):=huss.append ⟨rfl,λu hu=>by simp at hu;subst hu;exact hvl,λi a c h1 h2=>by
     cases i with
     |zero=>simp at h1 h2;subst h1 h2;exact hvs
     |succ i=>simp at h1⟩
    have hfl:cur=((uss++[vs]).flatten++cur.toList.drop (((st.f x).length+1)*s)).toArray:=by
     have e1:(uss++[vs]).flatten=uss.flatten++vs:=by simp
     rw[e1,<-htk,IK]
    have hl:(st.f x++[vC]).length=(st.f x).length+1:=by simp
    rw[<-hl];refine .some (uss:=uss++[vs]) (rest:=cur.toList.drop (((st.f x).length+1)*s)) ?_ (hR.ext hext) ?_ hmx (by rw[hl];exact hle) (by rw[hl];omega)
    .rw[<-hfl];simp
    .have:((uss++[vs]).flatten++cur.toList.drop (((st.f x).length+1)*s)).length=cur.size:=by
      conv=>rhs;rw[hfl]
      simp
     rw[this,hcs]
   .simp only[if_neg hx,JS.add];have h6:=hsl x;generalize hgx:og x=ox at h6;generalize hvx:val x=vx at h6;generalize hfx:st.f x=fx at h6;cases h6 with
    |no=>exact .no
    |some hm hr hc hx' hn' h0' =>
     refine .some (DW _ (xZ.2 ⟨hm, ?_⟩)) (hr.ext hext) hc hx' hn' h0';simp only[uP,decide_eq_false_iff_not];exactλe=>hx (hinj x k _ hgx e)
  .replace h1:(if k1=k then some g' else og k1)=some g1:=h1;replace h2:(if k2=k then some g' else og k2)=some g1:=h2
   have key:∀x,x≠k->og x=some g'->False:=λx hx h=>by
    rcases hg'2 with h3|h3
    .exact hx (hinj x k g' h h3)
    .have:=(hogm x g' h).2.1;have:=hb1.size;omega
   by_cases e1:k1=k<;>by_cases e2:k2=k
   .rw[e1,e2]
   .rw[if_pos e1]at h1;rw[if_neg e2]at h2;cases h1;exact(key k2 e2 h2).elim
   .rw[if_neg e1]at h1;rw[if_pos e2]at h2;cases h2;exact(key k1 e1 h1).elim
   .rw[if_neg e1]at h1;rw[if_neg e2]at h2;exact hinj k1 k2 g1 h1 h2
end Go.Sw
namespace Go.Sw
open Go
def hf(c p:Rat×Rat):Int:=if c.2<p.2\/(p.2=c.2/\c.1<p.1)then 0 else 1
def dh(c p q:Rat×Rat):Int:=if hf c p=hf c q then(if hf c p=0 then -(dF p.1 q.1)else dF p.1 q.1)else hf c p-hf c q
def AX(c f p:Rat×Rat):Int:=if dh c p f=0 then 0 else if dh c p f>0 then 1 else 2
def tH(c f p q:Rat×Rat):Int:=if AX c f p=AX c f q then gB (dh c p q)else gB (AX c f p-AX c f q)
def iZ(c p q:Rat×Rat):Int:=if hf c p=hf c q then(if hf c p=0 then -(dF p.1 q.1)else dF p.1 q.1)else(if hf c q=0 then -1 else 1)
def ng(c f p q:Rat×Rat):Int:=if(iZ c p f<0)↔(iZ c q f<0)then iZ c p q else(if iZ c q f<0 then -1 else 1)
theorem qm(c p:Rat×Rat):hf c p=0\/hf c p=1:=by unfold hf;split<;>simp
theorem GX(c f p q:Rat×Rat):ng c f p q<=0↔tH c f p q<=0:=by
 rcases qm c f with hf1|hf1<;>rcases qm c p with hp|hp<;>rcases qm c q with hq|hq <;>
  (simp only[ng,tH,iZ,AX,dh,hf1,hp,hq];unfold dF gB;grind)
@[reducible] def vN(p:Rat × Rat):Rat × Rat:=(-p.1,p.2)
inductive Cls (c p:Rat × Rat):Prop where
 |r (h1:p.2=c.2) (h2:c.1<p.1) (a:hf c p=0) (b:hf (vN c) (vN p)=1)
 |u (h1:c.2<p.2) (a:hf c p=0) (b:hf (vN c) (vN p)=0)
 |l (h1:p.2=c.2) (h2:p.1<c.1) (a:hf c p=1) (b:hf (vN c) (vN p)=0)
 |d (h1:p.2<c.2) (a:hf c p=1) (b:hf (vN c) (vN p)=1)
theorem cls{c p:Rat×Rat}(h:p.2=c.2->p.1≠c.1):Cls c p:=by
 by_cases h1:c.2<p.2
 .exact .u h1 (by unfold hf;rw[if_pos (.inl h1)]) (by unfold hf;rw[if_pos (.inl h1)])
 .by_cases h2:p.2=c.2
  .by_cases h3:c.1<p.1
   .exact .r h2 h3 (by unfold hf;rw[if_pos (.inr ⟨h2,h3⟩)]) (by unfold hf;rw[if_neg];simp only[not_or];exact⟨h1,ν⟩)
   .have:=h h2;exact .l h2 ν (by unfold hf;rw[if_neg];grind) (by unfold hf;rw[if_pos];right;exact⟨h2,ν⟩)
  .exact .d ν (by unfold hf;rw[if_neg];grind) (by unfold hf;rw[if_neg];grind)
structure Onc (c a b:Rat × Rat):Prop where
 r:a.2=c.2->c.1<a.1->b.1<=a.1/\(b.2≠c.2->b.1<a.1)
 l:a.2=c.2->a.1<c.1->a.1<=b.1/\(b.2≠c.2->a.1<b.1)
theorem GY{c f p q:Rat×Rat}(hf_:f.2=c.2->f.1≠c.1)(hp_:p.2=c.2->p.1≠c.1)(hq_:q.2=c.2->q.1≠c.1)(h1:Onc c f p)(h2:Onc c p f)(h3:Onc c f q)(h4:Onc c q f)(h5:Onc c p q)(h6:Onc c q p):
 ng (vN c) (vN f) (vN p) (vN q)<=0↔tH c q p f<=0:=by
 obtain⟨r1,l1⟩:=h1;obtain⟨r2,l2⟩:=h2;obtain⟨r3,l3⟩:=h3;obtain⟨r4,l4⟩:=h4;obtain⟨r5,l5⟩:=h5;obtain⟨r6,l6⟩:=h6
 rcases cls hf_ with⟨a1,a2,a3,a4⟩|⟨a1,a3,a4⟩|⟨a1,a2,a3,a4⟩|⟨a1,a3,a4⟩<;>rcases cls hp_ with⟨b1,b2,b3,b4⟩|⟨b1,b3,b4⟩|⟨b1,b2,b3,b4⟩|⟨b1,b3,b4⟩<;>rcases cls hq_ with⟨c1,c2,c3,c4⟩|⟨c1,c3,c4⟩|⟨c1,c2,c3,c4⟩|⟨c1,c3,c4⟩ <;>
  (simp only[ng,tH,iZ,AX,dh,a3,a4,b3,b4,c3,c4];unfold dF gB;first|grind|(clear r1 l1 r2 l2 r3 l3 r4 l4 r5 l5 r6 l6 hf_ hp_ hq_;by_cases g1:f.1<p.1<;>by_cases g2:p.1<f.1<;>by_cases g3:f.1<q.1<;>by_cases g4:q.1<f.1<;>by_cases g5:p.1<q.1<;>by_cases g6:q.1<p.1<;>grind))
end Go.Sw
namespace Go.Sw
open Go
def fB(a b c:Rat×Rat):Rat:=(b.1-a.1)*(c.2-a.2)-(b.2-a.2)*(c.1-a.1)
theorem EP{x y:Rat}(hy:0<=y)(h:x*x<y*y):x<y:=by
 by_cases g:x<y
 .exact g
 .exfalso;have h1:0<=x-y:=ν
  have h2:0<=x+y:=ν
  have h3:=rH h1 h2
  grind
theorem conc{q u1 v1 u2 v2 u3 v3:Rat}(e1:u1*u1+v1*v1=q)(e2:u2*u2+v2*v2=q)(e3:u3*u3+v3*v3=q)(h12:u2<u1)(h23:u3<u2)(p2:0<=v2):
 (u2-u3)*v1+(u1-u2)*v3<v2*(u1-u3):=by
 have hL:0<u1-u3:=ν
 have ha:0<u2-u3:=ν
 have hb:0<u1-u2:=ν
 apply EP (rH p2 ν);have h1:=rY ha hb;have h2:=rY h1 (rY hL hL)
 have h3:0<=(v1-v3)*(v1-v3):=by
  by_cases g:0<=v1-v3
  .exact rH g g
  .have:=rH (show 0<=v3-v1 by grind) (show 0<=v3-v1 by grind)
   grind
 have h4:=rH (show 0<=(u2-u3)*(u1-u2) by grind) h3
 have key:v2*(u1-u3)*(v2*(u1-u3))-((u2-u3)*v1+(u1-u2)*v3)*((u2-u3)*v1+(u1-u2)*v3)=(u2-u3)*(u1-u2)*((u1-u3)*(u1-u3))+(u2-u3)*(u1-u2)*((v1-v3)*(v1-v3)):=by
  clear h12 h23 p2 hL ha hb h1 h2 h3 h4
  grind
 clear e1 e2 e3;generalize(u2-u3)*(u1-u2)*((u1-u3)*(u1-u3))=z1 at *;generalize(u2-u3)*(u1-u2)*((v1-v3)*(v1-v3))=z2 at *;generalize v2*(u1-u3)*(v2*(u1-u3))=z3 at *;generalize((u2-u3)*v1+(u1-u2)*v3)*((u2-u3)*v1+(u1-u2)*v3)=z4 at *;clear h1 h3
 grind
section
variable {q u1 v1 u2 v2 u3 v3:Rat}
theorem YF(e1:u1*u1+v1*v1=q)(e2:u2*u2+v2*v2=q)(e3:u3*u3+v3*v3=q)(h12:u2<u1)(h23:u3<u2)(p2:0<=v2):0<(u2-u1)*(v3-v1)-(v2-v1)*(u3-u1):=by
 have:=conc e1 e2 e3 h12 h23 p2
 grind
theorem ZI(e1:u1*u1+v1*v1=q)(e2:u2*u2+v2*v2=q)(e3:u3*u3+v3*v3=q)(h12:u2<u1)(p1:0<=v1)(p2:0<=v2)(p3:v3<=0)(z2:v2=0->0<u2)(z3:v3=0->u3<0):0<(u2-u1)*(v3-v1)-(v2-v1)*(u3-u1):=by
 have e3':u3*u3+(-v3)*(-v3)=q:=ν
 have hb:0<u1-u2:=ν
 have hv:0<=(u1-u2)*(-v3):=rH ν ν
 by_cases c1:u3<u2
 .have:=conc e1 e2 e3' h12 c1 p2;clear e1 e2 e3 e3'
  grind
 .by_cases c2:u1<u3
  .have:=conc e3' e1 e2 c2 h12 p1;clear e1 e2 e3 e3'
   grind
  .have k1:0<=(u3-u2)*v1:=rH ν p1;have k2:0<=(u1-u3)*v2:=rH ν p2;have kD:(u2-u1)*(v3-v1)-(v2-v1)*(u3-u1)=(u3-u2)*v1+(u1-u3)*v2+(u1-u2)*(-v3):=by clear e1 e2 e3 e3';grind
   rw[kD]
   by_cases g:v3<0
   .have:=rY hb (show 0 < -v3 by grind);clear e1 e2 e3 e3' kD
    grind
   .have g0:v3=0:=ν
    have g1:=z3 g0
    have g2:0<v2:=by
     by_cases g3:v2=0
     .have g4:=z2 g3;exfalso
      grind
     .grind
    have g5:u3*u3=q:=by rw[<-e3,g0];grind
    exfalso;have g6:0<v2*v2:=rY g2 g2;have g7:u2*u2<u3*u3:=by rw[g5,<-e2];grind
    have g8:0<=u3-u2:=ν
    have g9:0≤-u3-u2:=ν
    have g10:=rH g8 g9;clear e1 e2 e3 e3' kD g5 g6
    grind
end
theorem ER{c p:Rat×Rat}(h:hf c p=0):0<=p.2-c.2/\(p.2-c.2=0->0<p.1-c.1):=by
 unfold hf at h;split at h
 .rename_i g;rcases g with g|⟨g1,g2⟩<;>constructor<;>grind
 .exact absurd h ψ
theorem Fj{c p:Rat×Rat}(h:hf c p=1)(hn:p.2=c.2->p.1≠c.1):p.2-c.2<=0/\(p.2-c.2=0->p.1-c.1<0):=by
 unfold hf at h;split at h
 .exact absurd h ψ
 .rename_i g;constructor<;>grind
theorem lC{a b:Rat}:(dF a b<0->a<b)/\(-(dF a b)<0->b<a):=by
 unfold dF;constructor<;>(intro h;grind)
theorem SK{c p1 p2 p3:Rat×Rat}{q:Rat}(e1:(p1.1-c.1)*(p1.1-c.1)+(p1.2-c.2)*(p1.2-c.2)=q)(e2:(p2.1-c.1)*(p2.1-c.1)+(p2.2-c.2)*(p2.2-c.2)=q)(e3:(p3.1-c.1)*(p3.1-c.1)+(p3.2-c.2)*(p3.2-c.2)=q)
 (n1:p1.2=c.2->p1.1≠c.1) (n2:p2.2=c.2->p2.1≠c.1) (n3:p3.2=c.2->p3.1≠c.1) (o12:dh c p1 p2<0) (o23:dh c p2 p3<0):0<fB p1 p2 p3:=by
 have kD:fB p1 p2 p3=((p2.1-c.1)-(p1.1-c.1))*((p3.2-c.2)-(p1.2-c.2))-((p2.2-c.2)-(p1.2-c.2))*((p3.1-c.1)-(p1.1-c.1)):=by unfold fB;grind
 rw[kD];rcases qm c p1 with h1|h1<;>rcases qm c p2 with h2|h2<;>rcases qm c p3 with h3|h3<;>(unfold dh at o12 o23;rw[h1,h2]at o12;rw[h2,h3]at o23;simp only[if_true,if_false,Int.reduceEq,reduceIte]at o12 o23)
 .have a:=lC.2 o12;have b:=lC.2 o23;exact YF e1 e2 e3 ν ν (ER h2).1
 .have a:=lC.2 o12;exact ZI e1 e2 e3 ν (ER h1).1 (ER h2).1 (Fj h3 n3).1 (ER h2).2 (Fj h3 n3).2
 .exact absurd o23 ψ
 .have a:=lC.1 o23;obtain⟨x1,x2⟩:=ER h1;obtain⟨y1,y2⟩:=Fj h2 n2;obtain⟨z1,z2⟩:=Fj h3 n3;have:=ZI (q:=q) (u1:=-(p2.1-c.1)) (v1:=-(p2.2-c.2)) (u2:=-(p3.1-c.1)) (v2:=-(p3.2-c.2)) (u3:=-(p1.1-c.1)) (v3:=-(p1.2-c.2)) ν ν ν ν ν ν ν (λh=>by have:=z2 ν;grind) (λh=>by have:=x2 ν;grind);clear e1 e2 e3
  grind
 .exact absurd o12 ψ
 .exact absurd o12 ψ
 .exact absurd o23 ψ
 .have a:=lC.1 o12;have b:=lC.1 o23;have:=YF (q:=q) (u1:=-(p1.1-c.1)) (v1:=-(p1.2-c.2)) (u2:=-(p2.1-c.1)) (v2:=-(p2.2-c.2)) (u3:=-(p3.1-c.1)) (v3:=-(p3.2-c.2)) ν ν ν ν ν (by have:=(Fj h2 n2).1;grind);clear e1 e2 e3
  grind
end Go.Sw
namespace Go.Sw
open Go
theorem gJ(c p q:Rat×Rat):dh c p q = -dh c q p:=by
 rcases qm c p with hp|hp<;>rcases qm c q with hq|hq<;>(simp only[dh,hp,hq];unfold dF;grind)
theorem oU{c p r:Rat×Rat}{q:Rat}(e1:(p.1-c.1)*(p.1-c.1)+(p.2-c.2)*(p.2-c.2)=q)(e2:(r.1-c.1)*(r.1-c.1)+(r.2-c.2)*(r.2-c.2)=q)(n1:p.2=c.2->p.1≠c.1)(n2:r.2=c.2->r.1≠c.1)(h:dh c p r=0):p=r:=by
 have hx:p.1=r.1/\hf c p=hf c r:=by
  rcases qm c p with hp|hp<;>rcases qm c r with hr|hr<;>(simp only[dh,hp,hr]at h;unfold dF at h;grind)
 obtain⟨h1,h2⟩:=hx;have hy:(p.2-c.2)*(p.2-c.2)=(r.2-c.2)*(r.2-c.2):=by rw[h1]at e1;grind
 have hz:(p.2-r.2)*((p.2-c.2)+(r.2-c.2))=0:=ν
 have h3:p.2=r.2:=by
  rcases Rat.mul_eq_zero.1 hz with g|g
  .grind
  .rcases qm c p with hp|hp
   .have a:=(ER hp).1;have b:=(ER (h2▸hp)).1
    grind
   .have a:=(Fj hp n1).1;have b:=(Fj (h2▸hp) n2).1
    grind
 exact Prod.ext h1 h3
theorem IG{c f p r:Rat×Rat}{q:Rat}(e1:(f.1-c.1)*(f.1-c.1)+(f.2-c.2)*(f.2-c.2)=q)(e2:(p.1-c.1)*(p.1-c.1)+(p.2-c.2)*(p.2-c.2)=q)(e3:(r.1-c.1)*(r.1-c.1)+(r.2-c.2)*(r.2-c.2)=q)
 (n1:f.2=c.2->f.1≠c.1) (n2:p.2=c.2->p.1≠c.1) (n3:r.2=c.2->r.1≠c.1) (h:0<fB f p r):tH c f p r<=0:=by
 have x1:fB f r p = -fB f p r:=by unfold fB;grind
 have x2:fB r p f = -fB f p r:=by unfold fB;grind
 have x3:fB p f r = -fB f p r:=by unfold fB;grind
 have d1:dh c p f≠0:=λg=>by
  obtain rfl:=oU e2 e1 n2 n1 g;have:fB p p r=0:=by unfold fB;grind
  grind
 have d2:dh c r f≠0:=λg=>by
  obtain rfl:=oU e3 e1 n3 n1 g;have:fB r p r=0:=by unfold fB;grind
  grind
 have a1:=gJ c p f;have a2:=gJ c r f;have a3:=gJ c p r;have l1:dh c f r<0->dh c r p<0->False:=λg1 g2=>by have:=SK e1 e3 e2 n1 n3 n2 g1 g2;grind
 have l2:dh c r p<0->dh c p f<0->False:=λg1 g2=>by have:=SK e3 e2 e1 n3 n2 n1 g1 g2;grind
 have l3:dh c p f<0->dh c f r<0->False:=λg1 g2=>by have:=SK e2 e1 e3 n2 n1 n3 g1 g2;grind
 clear e1 e2 e3 n1 n2 n3 x1 x2 x3 h;unfold tH AX gB;generalize dh c p f=A at *;generalize dh c r f=B at *;generalize dh c p r=C at *;generalize dh c f r=B' at *;generalize dh c f p=A' at *;generalize dh c r p=C' at *
 (repeat' split)<;>first|omega|(exfalso;by_cases g1:B'<0<;>by_cases g2:C'<0<;>by_cases g3:A<0<;>simp_all<;>omega)
theorem Gj{x y:Rat}(hy:0<=y)(h:x*x<=y*y):x<=y:=by
 by_cases g:x<=y
 .exact g
 .exfalso;have h3:=rY (show 0<x-y by grind) (show 0<x+y by grind)
  grind
theorem ES(x:Rat):0<=x*x:=by
 by_cases g:0<=x
 .exact rH g g
 .have:=rH (show 0≤-x by grind) (show 0≤-x by grind)
  grind
theorem Qn{c p:Rat×Rat}{q:Rat}(hq:0<q)(e:(p.1-c.1)*(p.1-c.1)+(p.2-c.2)*(p.2-c.2)=q):p.2=c.2->p.1≠c.1:=λh1 h2=>by
 rw[h1,h2]at e;grind
theorem JU{c a b:Rat×Rat}{q:Rat}(e1:(a.1-c.1)*(a.1-c.1)+(a.2-c.2)*(a.2-c.2)=q)(e2:(b.1-c.1)*(b.1-c.1)+(b.2-c.2)*(b.2-c.2)=q):Onc c a b:=by
 have k:∀y:Rat,y≠0->0<y*y:=λy h=>by
  by_cases g:0<y
  .exact rY g g
  .have:=rY (show 0 < -y by grind) (show 0 < -y by grind)
   grind
 have hb:=ES (b.2-c.2);constructor
 .intro h1 h2;rw[h1]at e1;have hle:(b.1-c.1)*(b.1-c.1)<=(a.1-c.1)*(a.1-c.1):=ν
  have h3:=Gj (x:=b.1-c.1) (y:=a.1-c.1) ν hle;refine⟨ν,λh4=>?_⟩;have h5:=k (b.2-c.2) ν;have h6:=EP (x:=b.1-c.1) (y:=a.1-c.1) ν ν
  grind
 .intro h1 h2;rw[h1]at e1;have hle:(-(b.1-c.1))*(-(b.1-c.1))<=(-(a.1-c.1))*(-(a.1-c.1)):=ν
  have h3:=Gj (x:=-(b.1-c.1)) (y:=-(a.1-c.1)) ν hle;refine⟨ν,λh4=>?_⟩;have h5:=k (b.2-c.2) ν;have h6:=EP (x:=-(b.1-c.1)) (y:=-(a.1-c.1)) ν ν
  grind
@[reducible] def Iv(l h:Int):AV:=.agg [.v (.int .i64 l),.v (.int .i64 h)]
def FV(l h:Int):Int×Bool:=if l>0 then(1,true)else if h<0 then(-1,true)else(0,decide (l=0/\h=0))
def Ja(l h:Int):Option (Int×Int):=if -2305843009213693952<=l/\h<=2305843009213693952 then some (l,h)else none
@[reducible] def Ov(o:Option (Int × Int)):AV:=.tup [Iv (o.getD (0,0)).1 (o.getD (0,0)).2,.bool o.isSome]
theorem G9{l h:Int}(h1 : -2305843009213693952<=l)(h2:h<=2305843009213693952):Ja l h=some (l,h):=if_pos ⟨h1,h2⟩
theorem Ba{l h:Int}(h1:¬(-2305843009213693952<=l/\h<=2305843009213693952)):Ja l h=none:=if_neg h1
theorem abO:min (Int.toNat 32) IntKind.u64.bits=32:=rfl
theorem Yv:min (Int.toNat 16) IntKind.u64.bits=16:=rfl
theorem aaA:min (Int.toNat 48) IntKind.u64.bits=48:=rfl
theorem zk(a n:Nat):((a:Nat):Int).fdiv ((n:Nat):Int)=((a/n:Nat):Int):=by rw[Qh _ ω];rfl
theorem wu(n:Nat):IntKind.u64.wrap ((n:Nat):Int)=((n%18446744073709551616:Nat):Int):=by rw[IntKind.wrap_u64];omega
theorem I7{a n:Nat}(hn:n<=64)(ha:a<18446744073709551616):andI .u64 ((a:Nat):Int) ((2^n-1:Nat):Int)=((a%2^n:Nat):Int):=by
 unfold andI;have h2:2^n<=2^64:=BP ψ hn;have h0:0<2^n:=Nat.pow_pos ψ
 have e:(BitVec.ofInt IntKind.u64.bits ((a:Nat):Int) &&& BitVec.ofInt IntKind.u64.bits ((2^n-1:Nat):Int)).toNat=a%2^n:=by
  show(BitVec.ofInt 64 ((a:Nat):Int) &&& BitVec.ofInt 64 ((2^n-1:Nat):Int)).toNat=a%2^n;rw[BitVec.ofInt_natCast,BitVec.ofInt_natCast,BitVec.toNat_and,BitVec.toNat_ofNat,BitVec.toNat_ofNat,G8 (show a<2^64 from ha),G8 (show 2^n-1<2^64 by omega),Nat.and_two_pow_sub_one_eq_mod]
 rw[e,wu];have h3:a%2^n<=a:=Nat.mod_le _ _;rw[G8 ω]
theorem PN{a b n:Nat}(hn:n<=64)(hb:b<2^n)(ha:2^n*a<18446744073709551616):orI .u64 ((2^n*a:Nat):Int) ((b:Nat):Int)=((2^n*a+b:Nat):Int):=by
 unfold orI;have h2:2^n<=2^64:=BP ψ hn
 have e:(BitVec.ofInt IntKind.u64.bits ((2^n*a:Nat):Int) ||| BitVec.ofInt IntKind.u64.bits ((b:Nat):Int)).toNat=2^n*a+b:=by
  show(BitVec.ofInt 64 ((2^n*a:Nat):Int) ||| BitVec.ofInt 64 ((b:Nat):Int)).toNat=2^n*a+b;rw[BitVec.ofInt_natCast,BitVec.ofInt_natCast,BitVec.toNat_or,BitVec.toNat_ofNat,BitVec.toNat_ofNat,G8 (show 2^n*a<2^64 from ha),G8 (show b<2^64 by omega),Nat.two_pow_add_eq_or_of_lt hb]
 have hlt:2^n*a+b<18446744073709551616:=by
  have:=(BitVec.ofInt IntKind.u64.bits ((2^n*a:Nat):Int) ||| BitVec.ofInt IntKind.u64.bits ((b:Nat):Int)).isLt;rw[e]at this;exact this
 rw[e,wu,G8 hlt]
theorem Jb{a b x0 x1 y0 y1:Nat}(ha:a<18446744073709551616)(hb:b<18446744073709551616)(h1:x0=a%4294967296)(h2:x1=a/4294967296)(h3:y0=b%4294967296)(h4:y1=b/4294967296):
 (x1*y1+(x1*y0+x0*y0%18446744073709551616/4294967296)/4294967296+((x1*y0+x0*y0%18446744073709551616/4294967296)%4294967296+x0*y1)/4294967296)=a*b/18446744073709551616 /\
 x0*y0<=18446744065119617025/\x1*y0<=18446744065119617025/\x0*y1<=18446744065119617025/\x1*y1<=18446744065119617025:=by
 have b1:x0*y0<=4294967295*4294967295:=F9 ω ω;have b2:x1*y0<=4294967295*4294967295:=F9 ω ω;have b3:x0*y1<=4294967295*4294967295:=F9 ω ω;have b4:x1*y1<=4294967295*4294967295:=F9 ω ω;have ea:a=x1*4294967296+x0:=ω
 have eb:b=y1*4294967296+y0:=ω
 have e:a*b=x1*y1*18446744073709551616+(x1*y0+x0*y1)*4294967296+x0*y0:=by rw[ea,eb];grind
 rw[e];generalize x0*y0=p at *;generalize x1*y0=q at *;generalize x0*y1=r at *;generalize x1*y1=s at *;exact⟨ω,ω,ω,ω,ω⟩
theorem CV(a:Nat){n:Nat}(hn:n<=64):andI .u64 ((a:Nat):Int) ((2^n-1:Nat):Int)=((a%2^n:Nat):Int):=by
 have e:andI .u64 ((a:Nat):Int) ((2^n-1:Nat):Int)=andI .u64 ((a%18446744073709551616:Nat):Int) ((2^n-1:Nat):Int):=by
  unfold andI
  have:BitVec.ofInt IntKind.u64.bits ((a:Nat):Int)=BitVec.ofInt IntKind.u64.bits ((a%18446744073709551616:Nat):Int):=by
   show BitVec.ofInt 64 ((a:Nat):Int)=BitVec.ofInt 64 ((a%18446744073709551616:Nat):Int);rw[BitVec.ofInt_natCast,BitVec.ofInt_natCast];apply BitVec.eq_of_toNat_eq;simp
  rw[this]
 rw[e,I7 hn (mQ _ ψ),Nat.mod_mod_of_dvd _ (Nat.pow_dvd_pow 2 hn:2^n ∣ 2^64)]
theorem Vy(a:Nat):andI .u64 ((a:Nat):Int) 4294967295=((a%4294967296:Nat):Int):=CV a (n:=32) ψ
theorem KD(a:Nat):andI .u64 ((a:Nat):Int) 65535=((a%65536:Nat):Int):=CV a (n:=16) ψ
theorem e32:(2:Int)^32=((4294967296:Nat):Int):=rfl
theorem e16:(2:Int)^16=((65536:Nat):Int):=rfl
theorem e48:(2:Int)^48=((281474976710656:Nat):Int):=rfl
theorem iE2{k k':IntKind}{x x' y y':Int}(h:x=x')(h':y=y'):packA [AV.c (Cell.v (Value.int k x)),AV.c (Cell.v (Value.int k' y))]=AV.tup [AV.int k x',AV.int k' y']:=by rw[h,h'];rfl
theorem ibE{k:IntKind}{x x':Int}{y y':Bool}(h:x=x')(h':y=y'):packA [AV.c (Cell.v (Value.int k x)),AV.c (Cell.v (Value.bool y))]=AV.tup [AV.int k x',AV.bool y']:=by rw[h,h'];rfl
def Jw(x y:Int):Nat:=x.natAbs*y.natAbs
def FP(x y:Int):Int×Int :=
 let q:Int:=(Jw x y/65536:Nat)
 let u:Int:=if Jw x y%65536=0 then q else q+1
 if(decide (x<0) != decide (y<0))=true then(-u,-q)else(q,u)
def pI(x y:Int):Int×Int×Bool :=
 if 1208925819614629174706176<=Jw x y\/2305843009213693952<Jw x y/65536 then(0,0,false)
 else((FP x y).1,(FP x y).2,decide (-2305843009213693952<=(FP x y).1/\(FP x y).2<=2305843009213693952))
theorem F5{x y d u:Int}{o:Bool}(h:pI x y=(d,u,o)):packA [AV.c (Cell.v (Value.int .i64 d)),AV.c (Cell.v (Value.int .i64 u)),AV.c (Cell.v (Value.bool o))]=AV.tup [AV.int .i64 (pI x y).1,AV.int .i64 (pI x y).2.1,AV.bool (pI x y).2.2]:=by rw[h];rfl
theorem Zl{p:Nat}(h:p/18446744073709551616/65536=0):orI .u64 (IntKind.u64.wrap (((p/18446744073709551616:Nat):Int)*((281474976710656:Nat):Int))) ((p%18446744073709551616/65536:Nat):Int)=((p/65536:Nat):Int):=by
 rw[<-J4,wu,G8 ω,xY];have:=PN (n:=48) (a:=p/18446744073709551616) (b:=p%18446744073709551616/65536) ψ ω ω;have e:(2:Nat)^48=281474976710656:=rfl;rw[e]at this;rw[this];congr 1;omega
theorem U6{x y:Int}(h:¬(((x.natAbs*y.natAbs/18446744073709551616/65536:Nat):Int))=0):pI x y=(0,0,false):=if_pos (.inl (by unfold Jw;generalize x.natAbs*y.natAbs=p at *;omega))
theorem Q9{x y:Int}(h:(((x.natAbs*y.natAbs/65536:Nat):Int))>2305843009213693952):pI x y=(0,0,false):=if_pos (.inr (by unfold Jw;generalize x.natAbs*y.natAbs=p at *;omega))
theorem VY{x y d u:Int}{o:Bool}(h1:(((x.natAbs*y.natAbs/18446744073709551616/65536:Nat):Int))=0)(h2:¬(((x.natAbs*y.natAbs/65536:Nat):Int))>2305843009213693952)
 (hd:d=(FP x y).1) (hu:u=(FP x y).2) (ho:o=decide (-2305843009213693952<=(FP x y).1/\(FP x y).2<=2305843009213693952)):pI x y=(d,u,o):=by
 subst hd hu ho;exact if_neg (by unfold Jw;generalize x.natAbs*y.natAbs=p at *;omega)
theorem O8{x y:Int}{s z:Bool}(hs:(decide (x<0) != decide (y<0))=s)(hz:decide (x.natAbs*y.natAbs%65536=0)=z):
 FP x y=(if s then(-(if z then((x.natAbs*y.natAbs/65536:Nat):Int)else((x.natAbs*y.natAbs/65536:Nat):Int)+1),-((x.natAbs*y.natAbs/65536:Nat):Int))else(((x.natAbs*y.natAbs/65536:Nat):Int),if z then((x.natAbs*y.natAbs/65536:Nat):Int)else((x.natAbs*y.natAbs/65536:Nat):Int)+1)):=by
 unfold FP Jw;rw[hs];subst hz;simp only[decide_eq_true_eq]
theorem w1{q:Int}(h0:0<=q)(h:¬q>2305843009213693952):IntKind.i64.wrap q=q:=aS ω ω
theorem w2{q:Int}(h0:0<=q)(h:¬q>2305843009213693952):IntKind.i64.wrap (q+1)=q+1:=aS ω ω
theorem w3{q:Int}(h0:0<=q)(h:¬q>2305843009213693952):IntKind.i64.wrap (0-q) = -q:=by rw[aS ω ω];omega
theorem w4{q:Int}(h0:0<=q)(h:¬q>2305843009213693952):IntKind.i64.wrap (0-(q+1)) = -(q+1):=by rw[aS ω ω];omega
theorem Gt{x y:Int}{s z o:Bool}{d u:Int}(h1:(((x.natAbs*y.natAbs/18446744073709551616/65536:Nat):Int))=0)(h2:¬(((x.natAbs*y.natAbs/65536:Nat):Int))>2305843009213693952)
 (hs:(decide (x<0) != decide (y<0))=s) (hz:decide (x.natAbs*y.natAbs%65536=0)=z) (hd:d=(if s then -(if z then((x.natAbs*y.natAbs/65536:Nat):Int)else((x.natAbs*y.natAbs/65536:Nat):Int)+1)else((x.natAbs*y.natAbs/65536:Nat):Int)))
 (hu:u=(if s then -((x.natAbs*y.natAbs/65536:Nat):Int)else(if z then((x.natAbs*y.natAbs/65536:Nat):Int)else((x.natAbs*y.natAbs/65536:Nat):Int)+1))) (ho:o=decide (-2305843009213693952<=d/\u<=2305843009213693952)) :
 packA [AV.c (Cell.v (Value.int .i64 d)),AV.c (Cell.v (Value.int .i64 u)),AV.c (Cell.v (Value.bool o))]=AV.tup [AV.int .i64 (pI x y).1,AV.int .i64 (pI x y).2.1,AV.bool (pI x y).2.2]:=by
 have e1:d=(FP x y).1:=by rw[hd,O8 hs hz];cases s<;>rfl
 have e2:u=(FP x y).2:=by rw[hu,O8 hs hz];cases s<;>rfl
 exact F5 (VY h1 h2 e1 e2 (by rw[ho,e1,e2]))
@[reducible] def ZH(a:Rat):Int:=-(-a).floor
theorem Kv(a:Rat):a.floor<=ZH a:=by
 unfold ZH;have h1:=Rat.floor_le (a:=a);have h2:=Rat.floor_le (a:=-a);have:((a.floor+(-a).floor:Int):Rat)<=0:=by rw[Rat.intCast_add];grind
 have:=JJ.1 (show((a.floor+(-a).floor:Int):Rat)<=((0:Int):Rat)from this);omega
def bW(a:Rat):Option (Int×Int):=Ja (a*((65536:Int):Rat)).floor (ZH (a*((65536:Int):Rat)))
def pX(a b:Int×Int):Option (Int×Int):=Ja (a.1+b.1) (a.2+b.2)
theorem Ad{l h:Int}(o:Option (Int×Int))(e:o=Ja l h)(hlh:l<=h):-2305843009213693952<=(o.getD (0,0)).1/\(o.getD (0,0)).1<=(o.getD (0,0)).2/\(o.getD (0,0)).2<=2305843009213693952:=by
 subst e;unfold Ja;split
 .exact⟨κ,κ,κ⟩
 .exact⟨η,η,η⟩
theorem L8(a:Rat):-2305843009213693952<=((bW a).getD (0,0)).1/\((bW a).getD (0,0)).1<=((bW a).getD (0,0)).2/\((bW a).getD (0,0)).2<=2305843009213693952:=Ad _ rfl (Kv _)
theorem ovE{l h:Int}{b:Bool}{o:Option (Int×Int)}(e1:l=(o.getD (0,0)).1)(e2:h=(o.getD (0,0)).2)(e3:b=o.isSome):
 packA [AV.agg [Cell.v (Value.int .i64 l),Cell.v (Value.int .i64 h)],AV.c (Cell.v (Value.bool b))]=Ov o:=by subst e1 e2 e3;rfl
theorem Wn{o:Option (Int×Int)}(e:o=none):packA [AV.agg [Cell.v (Value.int .i64 0),Cell.v (Value.int .i64 0)],AV.c (Cell.v (Value.bool false))]=Ov o:=by subst e;rfl
theorem Nb(a:Rat):sz a.floor<=rz a:=by
 refine aO (iM ?_) (fH a);rw[<-Eb,Qh _ (by have:=den_pos a;omega)];exact Int.natAbs_ediv_le_natAbs _ _
theorem Zp{a:Rat}(h:¬(-9223372036854775808<=(a*((65536:Int):Rat)).floor/\(a*((65536:Int):Rat)).floor<=9223372036854775807)):bW a=none :=
 Ba (by have:=Kv (a*((65536:Int):Rat));omega)
theorem Yo{a:Rat}(h:¬(-9223372036854775808≤-(-(a*((65536:Int):Rat))).floor∧-(-(a*((65536:Int):Rat))).floor<=9223372036854775807)):bW a=none :=
 Ba (by have:=Kv (a*((65536:Int):Rat));unfold ZH at *;omega)
theorem szl(n:Int)(h1 : -9223372036854775808<=n)(h2:n<=9223372036854775807):sz n<=3:=dV h1 h2
theorem abL:rz ((65536:Int):Rat)<=4:=by have:=gZ 65536;have:=dV (n:=65536) ω ω;omega
theorem Qr{l:Int}:List.foldl (λx y=>if y>x then y else x) l [0]=max l 0:=by
 show(if 0>l then 0 else l)=max l 0;split<;>omega
def rt(n:Int):Int:=if n*65536<0 then 0 else(fQ (n*65536).natAbs:Nat)
theorem YI(n:Int):(if n*65536<0 then 0 else((fQ (n*65536).natAbs:Nat):Int))=rt n:=rfl
def Ua(n:Int):Int:=if rt n*rt n=n*65536 then rt n else rt n+1
theorem Dv{n:Int}(h:0<=n):0<=rt n/\rt n*rt n<=n*65536/\n*65536<(rt n+1)*(rt n+1):=by
 have⟨h1,h2⟩:=xw (n*65536).natAbs;have e:(((n*65536).natAbs:Nat):Int)=n*65536:=ω
 unfold rt;rw[if_neg ω];refine⟨ω, ?_, ?_⟩
 .have:=Int.ofNat_le.2 h1;rw[J4]at this;omega
 .have:=Int.ofNat_lt.2 h2;rw[J4,Int.natCast_add]at this;simpa[e]using this
theorem O6{n:Int}(h:0<=n)(h2:n<=2305843009213693952):0<=rt n/\rt n<=549755813888:=by
 have⟨h0,h1,_⟩:=Dv h;refine⟨h0, ?_⟩;apply Decidable.byContradiction;intro hc;have:549755813889*549755813889<=rt n*rt n:=Int.mul_le_mul ω ω ψ h0;omega
theorem KZ{n:Int}(h:0<=n):rt n<=Ua n/\Ua n<=rt n+1/\n*65536<=Ua n*Ua n:=by
 have⟨h0,h1,h2⟩:=Dv h;unfold Ua;split
 .omega
 .refine⟨ω,ω,ω⟩
def jY(a:Int×Int):Option (Int×Int):=if a.2<0 then none else Ja (rt (max a.1 0)) (Ua a.2)
theorem Hw{l h:Int}(h0:0<=l)(h1:l<=h):rt l<=rt h:=by
 have⟨a0,a1,a2⟩:=Dv h0;have⟨b0,b1,b2⟩:=Dv (Int.le_trans h0 h1);apply Decidable.byContradiction;intro hc;have:(rt h+1)*(rt h+1)<=rt l*rt l:=Int.mul_le_mul ω ω ω a0;omega
theorem Yz{l h:Int}(h0:¬h<0)(e:rt h*rt h=h*65536):Ov (Ja (rt (max l 0)) (rt h))=Ov (jY (l,h)):=by
 unfold jY Ua;rw[if_neg h0,if_pos e]
theorem Yt{l h:Int}(h0:¬h<0)(e:¬rt h*rt h=h*65536):Ov (Ja (rt (max l 0)) (rt h+1))=Ov (jY (l,h)):=by
 unfold jY Ua;rw[if_neg h0,if_neg e]
end Go.Sw
namespace Go.Sw
open Go
set_option linter.unusedSimpArgs false
theorem Fh:IntKind.i64.wrap (0+1)=1:=ψ
theorem BN:IntKind.i64.wrap (1+1)=2:=ψ
theorem dR{b:Bool}{k:Bool->Prop}(e:b=true)(h:k true):OnB b k:=⟨λ_=>h,λh'=>by rw[e]at h';cases h'⟩
theorem eP{b:Bool}{k:Bool->Prop}(e:b=false)(h:k false):OnB b k:=⟨λh'=>(by rw[e]at h';cases h'),λ_=>h⟩
def Ak(x y:Int):Int:=(x*y)/65536
def pG(x y:Int):Int:=-((-(x*y))/65536)
theorem Dx(x y:Int):Ak x y<=pG x y:=by unfold Ak pG;omega
theorem GU(x y:Int):FP x y=(Ak x y,pG x y):=by
 have e:x*y=if(decide (x<0) != decide (y<0))=true then -((Jw x y:Nat):Int)else((Jw x y:Nat):Int):=by
  unfold Jw;rw[J4]
  by_cases h1:x<0<;>by_cases h2:y<0<;>simp only[h1,h2]
  .have e1:(x.natAbs:Int) = -x:=ω
   have e2:(y.natAbs:Int) = -y:=ω
   rw[e1,e2];simp[Int.neg_mul,Int.mul_neg,Int.neg_neg]
  .have e1:(x.natAbs:Int) = -x:=ω
   have e2:(y.natAbs:Int)=y:=ω
   rw[e1,e2];simp[Int.neg_mul,Int.mul_neg,Int.neg_neg]
  .have e1:(x.natAbs:Int)=x:=ω
   have e2:(y.natAbs:Int) = -y:=ω
   rw[e1,e2];simp[Int.neg_mul,Int.mul_neg,Int.neg_neg]
  .have e1:(x.natAbs:Int)=x:=ω
   have e2:(y.natAbs:Int)=y:=ω
   rw[e1,e2];simp[Int.neg_mul,Int.mul_neg,Int.neg_neg]
 unfold FP Ak pG;generalize Jw x y=p at *;generalize(decide (x<0) != decide (y<0))=s at *;rw[e];cases s<;>by_cases hm:p%65536=0<;>simp only[hm,if_true,if_false]<;>(refine Prod.ext ?_ ?_<;>simp<;>omega)
theorem Ah{x y:Int}(h:(pI x y).2.2=true):(pI x y).1=Ak x y/\(pI x y).2.1=pG x y∧-2305843009213693952<=Ak x y/\pG x y<=2305843009213693952:=by
 unfold pI at *;rw[GU]at *;split at h
 .exact absurd h η
 .rename_i g;rw[if_neg g];exact⟨rfl,rfl,of_decide_eq_true h⟩
theorem Xl{x y:Int}(h:¬(pI x y).2.2=true):¬(-2305843009213693952<=Ak x y/\pG x y<=2305843009213693952):=by
 have q:=GU x y;unfold pI at h;rw[q]at h;split at h
 .rename_i g;unfold FP at q;generalize Jw x y=p at *;intro⟨h1,h2⟩;generalize(decide (x<0) != decide (y<0))=s at *;have q1:=congrArg Prod.fst q;have q2:=congrArg Prod.snd q;cases s<;>by_cases hm:p%65536=0<;>simp only[hm,if_true,if_false]at q1 q2<;>simp at q1 q2<;>omega
 .intro⟨h1,h2⟩;exact h (decide_eq_true ⟨h1,h2⟩)
def nT(a b:Int×Int):Option (Int×Int) :=
 Ja (min (min (Ak a.1 b.1) (Ak a.1 b.2)) (min (Ak a.2 b.1) (Ak a.2 b.2))) (max (max (pG a.1 b.1) (pG a.1 b.2)) (max (pG a.2 b.1) (pG a.2 b.2)))
theorem nb{b:Bool}(h:(!b)=true):¬b=true:=by cases b<;>simp_all
theorem nb'{b:Bool}(h:(!b)=false):b=true:=by cases b<;>simp_all
theorem Nl(u v:Int):List.foldl (λx y=>if y<x then y else x) u [v]=min u v:=by
 show(if v<u then v else u)=min u v;split<;>omega
theorem Ou(u v:Int):List.foldl (λx y=>if y>x then y else x) u [v]=max u v:=by
 show(if v>u then v else u)=max u v;split<;>omega
theorem qP{a b c d x y:Int}(hx:x=a\/x=b)(hy:y=c\/y=d)(h:(!(pI x y).2.2)=true):nT (a,b) (c,d)=none:=by
 have:=Xl (nb h);apply Ba;rcases hx with rfl|rfl<;>rcases hy with rfl|rfl<;>simp only<;>omega
theorem MN{a b c d:Int}(h1:(!(pI a c).2.2)=false)(h2:(!(pI a d).2.2)=false)(h3:(!(pI b c).2.2)=false)(h4:(!(pI b d).2.2)=false):
 packA [AV.agg [Cell.v (Value.int .i64 (min (min (min (min 2305843009213693952 (pI a c).1) (pI a d).1) (pI b c).1) (pI b d).1)),Cell.v (Value.int .i64 (max (max (max (max (-2305843009213693952) (pI a c).2.1) (pI a d).2.1) (pI b c).2.1) (pI b d).2.1))],AV.c (Cell.v (Value.bool true))]=Ov (nT (a,b) (c,d)):=by
 obtain⟨e1,e2,e3,e4⟩:=Ah (nb' h1);obtain⟨f1,f2,f3,f4⟩:=Ah (nb' h2);obtain⟨g1,g2,g3,g4⟩:=Ah (nb' h3);obtain⟨k1,k2,k3,k4⟩:=Ah (nb' h4);have d1:=Dx a c;have d2:=Dx a d;have d3:=Dx b c;have d4:=Dx b d;rw[e1,e2,f1,f2,g1,g2,k1,k2];unfold nT;rw[G9 (by simp only;omega) (by simp only;omega)];refine ovE ?_ ?_ rfl<;>simp only[uq]<;>omega
@[reducible] def Q3(a b c:Rat):AV:=.agg [zs a.num,zl a.num,zs a.den,zl a.den,zs b.num,zl b.num,zs b.den,zl b.den,zs c.num,zl c.num,zs c.den,zl c.den]
def jV(a b c:Rat):Option (Int×Int) :=
 match bW a with
 |none=>none
 |some x=>if b=0 then some x else
  match bW b,bW c with
  |some y,some z=>if c<0 then none else
   match jY z with
   |none=>none
   |some s=>match nT y s with
    |none=>none
    |some p=>pX x p
  |_,_=>none
def hw(a b c d:Int):Nat->Int
 |0=>0|1=>pG a c|2=>max (pG a c) (pG a d)|3=>max (max (pG a c) (pG a d)) (pG b c)|_=>max (max (max (pG a c) (pG a d)) (pG b c)) (pG b d)
def kI:Nat->Int|0=>0|1=>1|_=>2
theorem hw1(a b c d:Int):hw a b c d 1=pG a c:=rfl
theorem hw2(a b c d:Int):hw a b c d 2=max (pG a c) (pG a d):=rfl
theorem k1:some (AV.int .i64 (IntKind.i64.wrap (0+1)))=some (AV.int .i64 (kI 1)):=by rw[Fh];rfl
theorem k2:some (AV.int .i64 (IntKind.i64.wrap (1+1)))=some (AV.int .i64 (kI 2)):=by rw[BN];rfl
@[reducible] def Q5(a b c d e:Rat):AV:=.agg [zs a.num,zl a.num,zs a.den,zl a.den,zs b.num,zl b.num,zs b.den,zl b.den,zs c.num,zl c.num,zs c.den,zl c.den,zs d.num,zl d.num,zs d.den,zl d.den,zs e.num,zl e.num,zs e.den,zl e.den]
def BD(x:Int×Int):Prop:=-2305843009213693952<=x.1/\x.1<=x.2/\x.2<=2305843009213693952
theorem gV(a:Rat):BD ((bW a).getD (0,0)):=L8 a
theorem wo(x y:Int×Int):BD ((nT x y).getD (0,0)):=Ad _ rfl (by have:=Dx x.1 y.1;omega)
theorem Nj{x:Int×Int}(h:BD x):BD ((jY x).getD (0,0)):=by
 unfold jY;split
 .exact⟨ψ,ψ,ψ⟩
 .rename_i g;refine Ad _ rfl ?_;have:=Hw (l:=max x.1 0) (h:=x.2) ω (by unfold BD at h;omega);have:=(KZ (n:=x.2) ω).1;omega
theorem zS{x y:Int×Int}(h1:BD x)(h2:BD y):BD ((pX x y).getD (0,0)):=Ad _ rfl (by unfold BD at *;omega)
theorem Eh(a b c:Rat):BD ((jV a b c).getD (0,0)):=by
 have h0:BD (0,0):=⟨ψ,ψ,ψ⟩
 unfold jV;have ha:=gV a;have hb:=gV b;have hc:=gV c;split
 .exact h0
 .rename_i x hx;rw[hx]at ha;split
  .exact ha
  .split
   .rename_i y z hy hz;split
    .exact h0
    .split
     .exact h0
     .split
      .exact h0
      .rename_i s hs _ p hp;refine zS ha ?_;have:=wo y s;rw[hp]at this;exact this
   .exact h0
theorem X8{o:Option (Int×Int)}(e:(none:Option (Int×Int))=o):packA [AV.agg [Cell.v (Value.int .i64 0),Cell.v (Value.int .i64 0)],AV.c (Cell.v (Value.bool false))]=Ov o:=by subst e;rfl
end Go.Sw
namespace Go.Sw
open Go
theorem jU(a:Rat):-1<=aK a/\aK a<=1:=by unfold aK;split<;>(try split)<;>omega
theorem nP(a b:Rat):-1<=dF a b/\dF a b<=1:=by unfold dF;split<;>(try split)<;>omega
theorem kH{x y:Int}(h1 : -1<=x/\x<=1)(h2 : -1<=y/\y<=1):-1<=x*y/\x*y<=1:=by
 have a:x = -1\/x=0\/x=1:=ω
 rcases a with rfl|rfl|rfl<;>omega
theorem adn(a b:Rat):IntKind.i64.wrap (aK a*aK b)=aK a*aK b:=by
 have:=kH (jU a) (jU b);exact aS ω ω
theorem abD(a b c:Rat):IntKind.i64.wrap (aK a*dF b c)=aK a*dF b c:=by
 have:=kH (jU a) (nP b c);exact aS ω ω
def qG(a b c:Rat):Int :=
 if aK a=aK b*aK c\/aK b*aK c=0 then aK a
 else if aK a=0 then aK b*aK c
 else aK a*dF (a*a) (b*b*c)
theorem aa8{a b c:Rat}(g1:¬aK a=aK b*aK c)(g2:¬aK b*aK c=0)(g3:¬aK a=0):qG a b c=aK a*dF (a*a) (b*b*c):=by
 unfold qG;rw[if_neg (λh=>h.elim g1 g2),if_neg g3]
theorem FZ(n:Int)(h1 : -9223372036854775808<=n)(h2:n<=9223372036854775807):rz (n:Rat)<=4:=by
 have:=gZ n;have:=dV h1 h2;omega
theorem ac7(n d:Int)(h0:d≠0)(h1 : -9223372036854775808<=n/\n<=9223372036854775807)(h2 : -9223372036854775808<=d/\d<=9223372036854775807):rz ((n:Rat)/(d:Rat))<=6:=by
 have:=Ai (n:=n) h0;have:=dV h1.1 h1.2;have:=dV h2.1 h2.2;omega
abbrev VX:=Bool×List Nat×Bool×List Nat
def TP(k:Int)(r:VX):Bool:=decide ((r.2.1.length:Int)<=k)&&(decide ((r.2.2.2.length:Int)<=k)&&fU r.1 r.2.1 r.2.2.1 r.2.2.2)
theorem aap{k:Int}{r:VX}(h:(r.2.1.length:Int)>k):TP k r=false:=by
 unfold TP;rw[decide_eq_false ω];rfl
theorem Zo{k:Int}{r:VX}(h:(r.2.2.2.length:Int)>k):TP k r=false:=by
 unfold TP;rw[decide_eq_false (p:=(r.2.2.2.length:Int)<=k) ω];simp
theorem ED{a b x k L:Rat}(h1:a<=x)(h2:x<=b)(p:L<=a*k)(q:L<=b*k):L<=x*k:=by
 rcases FY (a:=0) (b:=k)with hk|hk
 .have:=Rat.mul_le_mul_of_nonneg_right h1 hk;grind
 .have:=Rat.mul_le_mul_of_nonneg_right h2 (show 0≤-k by grind);grind
theorem LQ{a b c d x y L:Rat}(h1:a<=x)(h2:x<=b)(h3:c<=y)(h4:y<=d)(p1:L<=a*c)(p2:L<=a*d)(p3:L<=b*c)(p4:L<=b*d):L<=x*y:=by
 apply ED h1 h2
 .rw[Rat.mul_comm];exact ED h3 h4 (by rw[Rat.mul_comm];exact p1) (by rw[Rat.mul_comm];exact p2)
 .rw[Rat.mul_comm];exact ED h3 h4 (by rw[Rat.mul_comm];exact p3) (by rw[Rat.mul_comm];exact p4)
theorem UM{a b c d x y L:Rat}(h1:a<=x)(h2:x<=b)(h3:c<=y)(h4:y<=d)(p1:a*c<=L)(p2:a*d<=L)(p3:b*c<=L)(p4:b*d<=L):x*y<=L:=by
 have:=LQ (L:=-L) (a:=-b) (b:=-a) (x:=-x) (y:=y) (c:=c) (d:=d) ν ν h3 h4 ν ν ν ν
 grind
theorem UW(x y:Int):((Ak x y:Int):Rat)*65536<=(x:Rat)*(y:Rat):=by
 have h:((Ak x y*65536:Int):Rat)<=((x*y:Int):Rat):=JJ.2 (by unfold Ak;omega);rw[BI,BI]at h;exact h
theorem Ws(x y:Int):(x:Rat)*(y:Rat)<=((pG x y:Int):Rat)*65536:=by
 have h:((x*y:Int):Rat)<=((pG x y*65536:Int):Rat):=JJ.2 (by unfold pG;omega);rw[BI,BI]at h;exact h
def con(p:Int×Int)(q:Rat):Prop:=(p.1:Rat)<=q*65536/\q*65536<=(p.2:Rat)
theorem qL{l h:Int}{p:Int×Int}(e:Ja l h=some p):p=(l,h):=by
 unfold Ja at e;split at e
 .injection e with e;exact e.symm
 .cases e
theorem lU{x y p:Int×Int}{u v:Rat}(e:pX x y=some p)(hu:con x u)(hv:con y v):con p (u+v):=by
 have:=qL e;subst this;unfold con at *;simp only[Rat.intCast_add];obtain⟨h1,h2⟩:=hu;obtain⟨h3,h4⟩:=hv;constructor<;>grind
theorem vX{x y p:Int×Int}{u v:Rat}(e:nT x y=some p)(hu:con x u)(hv:con y v):con p (u*v):=by
 have:=qL e;subst this;unfold con at *;obtain⟨h1,h2⟩:=hu;obtain⟨h3,h4⟩:=hv;simp only;generalize hl:min (min (Ak x.1 y.1) (Ak x.1 y.2)) (min (Ak x.2 y.1) (Ak x.2 y.2))=l;generalize hh:max (max (pG x.1 y.1) (pG x.1 y.2)) (max (pG x.2 y.1) (pG x.2 y.2))=h
 have lo:∀a c:Int,l<=Ak a c->(l:Rat)*65536<=(a:Rat)*(c:Rat):=λa c hd=>by
  have k1:=UW a c;have k2:=JJ.2 hd
  grind
 have hi:∀a c:Int,pG a c<=h->(a:Rat)*(c:Rat)<=(h:Rat)*65536:=λa c hd=>by
  have k1:=Ws a c;have k2:=JJ.2 hd
  grind
 have b1:=LQ h1 h2 h3 h4 (lo _ _ ω) (lo _ _ ω) (lo _ _ ω) (lo _ _ ω);have b2:=UM h1 h2 h3 h4 (hi _ _ ω) (hi _ _ ω) (hi _ _ ω) (hi _ _ ω);constructor<;>grind
theorem c65:((65536:Int):Rat)=65536:=by decide +kernel
theorem c1:((1:Int):Rat)=1:=by decide +kernel
theorem MR{x p:Int×Int}{q:Rat}(e:jY x=some p)(hx:con x q)(h0:0<=q):
 (p.1:Rat)*(p.1:Rat)<=q*(65536*65536)/\q*(65536*65536)<=(p.2:Rat)*(p.2:Rat)/\0<=p.1/\p.1<=p.2:=by
 unfold jY at e;split at e
 .cases e
 .rename_i g;have:=qL e;subst this;unfold con at hx;obtain⟨h1,h2⟩:=hx
  have hle:max x.1 0<=x.2:=by
   have:((x.1:Int):Rat)<=(x.2:Rat):=Rat.le_trans h1 h2;have:=JJ.1 this;omega
  have r1:=Dv (n:=max x.1 0) ω;have r2:=KZ (n:=x.2) ω;have r3:=Hw (l:=max x.1 0) (h:=x.2) ω hle
  have hm:((max x.1 0:Int):Rat)<=q*65536:=by
   rcases Int.le_total x.1 0 with h|h
   .rw[show max x.1 0=0 by omega];have:((0:Int):Rat)=0:=rfl;rw[this];grind
   .rw[show max x.1 0=x.1 by omega];exact h1
  have k1:=JJ.2 r1.2.1;have k2:=JJ.2 r2.2.2;rw[BI,BI,c65]at k1 k2;refine⟨by simp only;grind,by simp only;grind,r1.1,by simp only;omega⟩
def sub(x y:Int×Int):Prop:=x.1<=y.1/\y.1<=y.2/\y.2<=x.2
theorem F7{x:Int×Int}{n:Int}(h1:x.1<=n)(h2:n<=x.2):con x ((n:Rat)*(1/65536)):=by
 have k1:=JJ.2 h1;have k2:=JJ.2 h2;unfold con;constructor<;>grind
theorem jk{a:Rat}{x:Int×Int}(e:bW a=some x):con x a:=by
 have:=qL e;subst this;unfold con ZH;rw[c65];simp only;refine⟨Rat.floor_le _, ?_⟩;have:=Rat.floor_le (-(a*65536));rw[Rat.intCast_neg]
 grind
theorem Iq{x:Int×Int}{q:Rat}(h:con x q):con (-x.2,-x.1) (-q):=by
 unfold con at *;simp only[Rat.intCast_neg];constructor<;>grind
theorem QV{p:Int×Int}{q:Rat}{n:Int}(h:FV p.1 p.2=(n,true))(hq:con p q):aK q=n:=by
 obtain⟨h1,h2⟩:=hq;unfold FV at h;have z:((0:Int):Rat)=0:=rfl;split at h
 .rename_i g;injection h with h3 h4
  subst h3;have:=Rat.intCast_lt_intCast.2 g;rw[z]at this;exact kX.2 ν
 .split at h
  .rename_i g;injection h with h3 h4
   subst h3;have:=Rat.intCast_lt_intCast.2 g;rw[z]at this;have hq:q<0:=ν
   unfold aK;rw[if_pos hq]
  .injection h with h3 h4
   subst h3;have g:=of_decide_eq_true h4;rw[g.1,z]at h1;rw[g.2,z]at h2;exact fC.2 ν
theorem dP(q:Rat):(q<0/\aK q = -1)\/(q=0/\aK q=0)\/(0<q/\aK q=1):=by
 unfold aK
 by_cases h1:q<0
 .rw[if_pos h1];exact .inl ⟨h1,rfl⟩
 .rw[if_neg h1]
  by_cases h2:q=0
  .rw[if_pos h2];exact .inr (.inl ⟨h2,rfl⟩)
  .rw[if_neg h2];exact .inr (.inr ⟨ν,rfl⟩)
theorem DV{x y:Rat}(h0:0<=x)(h:x<y):x*x<y*y:=by
 have a1:=Rat.mul_le_mul_of_nonneg_left (Rat.le_of_lt h) h0;have a2:=Rat.mul_lt_mul_of_pos_right h (show 0<y by grind)
 grind
theorem tX(x:Rat):0<=x*x:=by
 rcases FY (a:=0) (b:=x)with h|h
 .exact rH h h
 .have:=rH (show 0≤-x by grind) (show 0≤-x by grind);grind
theorem FN{a b:Rat}(h:b<a):dF a b=1:=by unfold dF;rw[if_neg ν,if_pos h]
theorem EH{a b:Rat}(h:a<b):dF a b = -1:=by unfold dF;rw[if_pos h]
theorem LH{a b:Rat}(h:a=b):dF a b=0:=Dk.2 h
theorem H9{A B C s1 s2:Rat}{n:Int}(p1:0<=s1)(p2:s1<=s2)(q1:s1*s1<=C)(q2:C<=s2*s2)(h1:aK (A+B*s1)=n)(h2:aK (A+B*s2)=n):qG A B C=n:=by
 have hC:0<=C:=Rat.le_trans (tX s1) q1;have bb:=tX B;have m1:B*B*(s1*s1)<=B*B*C:=Rat.mul_le_mul_of_nonneg_left q1 bb;have m2:B*B*C<=B*B*(s2*s2):=Rat.mul_le_mul_of_nonneg_left q2 bb;have p3:0<=s2:=Rat.le_trans p1 p2;unfold qG;rcases dP C with⟨c1,c2⟩|⟨c1,c2⟩|⟨c1,c2⟩
 .grind
 .rw[c2,Int.mul_zero,if_pos (.inr rfl)]
  have:s1=0:=by
   rcases dP s1 with⟨k,_⟩|⟨k,_⟩|⟨k,_⟩
   .grind
   .exact k
   .have:=rY k k;grind
  subst this;rw[<-h1];congr 1;grind
 .have p4:0<s2:=by
   rcases dP s2 with⟨k,_⟩|⟨k,_⟩|⟨k,_⟩
   .grind
   .subst k;grind
   .exact k
  rw[c2,Int.mul_one];rcases dP B with⟨b1,b2⟩|⟨b1,b2⟩|⟨b1,b2⟩<;>rcases dP A with⟨a1,a2⟩|⟨a1,a2⟩|⟨a1,a2⟩<;>rw[a2,b2]
  .have k:=rH (show 0≤-B by grind) p1;have:A+B*s1<0:=ν
   rw[<-h1];unfold aK;rw[if_pos this];rfl
  .have k:=rY (show 0 < -B by grind) p4;have:A+B*s2<0:=ν
   rw[<-h2];unfold aK;rw[if_pos this];rfl
  .have k1:=rH (show 0≤-B by grind) p1;have k2:=rH (show 0≤-B by grind) p3;rcases dP (A+B*s1)with⟨u1,u2⟩|⟨u1,u2⟩|⟨u1,u2⟩
   .rw[h1]at u2;subst u2;have:=DV (x:=A) (y:=-B*s1) ν ν;rw[EH ν];rfl
   .rw[h1]at u2;subst u2;have v:=fC.1 h2
    have e:A*A=B*B*(s1*s1):=by have:A = -B*s1:=ν
                               subst this;grind
    have e2:A*A=B*B*(s2*s2):=by have:A = -B*s2:=ν
                                subst this;grind
    rw[LH ν];rfl
   .rw[h1]at u2;subst u2;have v:=kX.1 h2;have:=DV (x:=-B*s2) (y:=A) ν ν;rw[FN ν];rfl
  .subst b1;rw[<-h1];have:A+0*s1=A:=ν
   rw[this,a2];rfl
  .subst b1;rw[<-h1];have:A+0*s1=A:=ν
   rw[this,a2];rfl
  .subst b1;rw[<-h1];have:A+0*s1=A:=ν
   rw[this,a2];rfl
  .have k1:=rH (show 0<=B by grind) p1;have k2:=rH (show 0<=B by grind) p3;rcases dP (A+B*s1)with⟨u1,u2⟩|⟨u1,u2⟩|⟨u1,u2⟩
   .rw[h1]at u2;subst u2
    have v:A+B*s2<0:=by
     rcases dP (A+B*s2)with⟨t1,t2⟩|⟨t1,t2⟩|⟨t1,t2⟩
     .exact t1
     .rw[h2]at t2;cases t2
     .rw[h2]at t2;cases t2
    have:=DV (x:=B*s2) (y:=-A) ν ν;rw[FN ν];rfl
   .rw[h1]at u2;subst u2;have v:=fC.1 h2
    have e:A*A=B*B*(s1*s1):=by have:A = -B*s1:=ν
                               subst this;grind
    have e2:A*A=B*B*(s2*s2):=by have:A = -B*s2:=ν
                                subst this;grind
    rw[LH ν];rfl
   .rw[h1]at u2;subst u2;have:=DV (x:=-A) (y:=B*s1) ν ν;rw[EH ν];rfl
  .have k:=rY (show 0<B by grind) p4;rw[<-h2,kX.2 ν];rfl
  .have k:=rH (show 0<=B by grind) p1;rw[<-h1,kX.2 ν];rfl
theorem OY{a b c:Rat}{p:Int×Int}(e:jV a b c=some p):
 (b=0/\con p a)\/(0<=c/\∃s1 s2:Rat,0<=s1/\s1<=s2/\s1*s1<=c/\c<=s2*s2/\(∃w z,bW c=some z/\jY z=some w/\s1=(w.1:Rat)*(1/65536)/\s2=(w.2:Rat)*(1/65536))/\con p (a+b*s1)/\con p (a+b*s2)):=by
 unfold jV at e;cases ha:bW a with
 |none=>rw[ha]at e;cases e
 |some x =>
  rw[ha]at e;simp only at e
  by_cases hb:b=0
  .rw[if_pos hb]at e;injection e with e
   subst e;exact .inl ⟨hb,jk ha⟩
  .rw[if_neg hb]at e;right;cases hy:bW b with
   |none=>rw[hy]at e;cases e
   |some y =>
    cases hz:bW c with
    |none=>rw[hy,hz]at e;cases e
    |some z =>
     rw[hy,hz]at e;simp only at e;split at e
     .cases e
     .rename_i hc;have h0:0<=c:=ν
      cases hw:jY z with
      |none=>rw[hw]at e;cases e
      |some w =>
       rw[hw]at e;simp only at e;cases hp:nT y w with
       |none=>rw[hp]at e;cases e
       |some m =>
        rw[hp]at e;simp only at e;obtain⟨k1,k2,k3,k4⟩:=MR hw (jk hz) h0;have j1:=JJ.2 k3;have j2:=JJ.2 k4;have z0:((0:Int):Rat)=0:=rfl;rw[z0]at j1;refine⟨h0,(w.1:Rat)*(1/65536),(w.2:Rat)*(1/65536),ν,ν,ν,ν,⟨w,z,rfl,hw,rfl,rfl⟩, ?_, ?_⟩
        .exact lU e (jk ha) (vX hp (jk hy) (F7 ω ω))
        .exact lU e (jk ha) (vX hp (jk hy) (F7 ω ω))
theorem KU{a c:Rat}:qG a 0 c=aK a:=by
 unfold qG;have:aK 0=0:=fC.2 rfl;rw[this,Int.zero_mul,if_pos (.inr rfl)]
class RzB (q:Rat) (n:outParam Nat):Prop where
 h:rz q<=n
theorem dY{q:Rat}{n N:Nat}[k:RzB q n](h:n<=N):rz q<=N:=aO k.h h
instance{a b:Rat}{m n:Nat}[h:RzB a m][k:RzB b n]:RzB (a+b) (2*(m+n)+1):=⟨by have:=iH a b;have:=h.h;have:=k.h;omega⟩
instance{a b:Rat}{m n:Nat}[h:RzB a m][k:RzB b n]:RzB (a-b) (2*(m+n)+1):=⟨by have:=iU a b;have:=h.h;have:=k.h;omega⟩
instance{a b:Rat}{m n:Nat}[h:RzB a m][k:RzB b n]:RzB (a*b) (m+n):=⟨by have:=gU a b;have:=h.h;have:=k.h;omega⟩
instance{a:Rat}{m:Nat}[h:RzB a m]:RzB (-a) m:=⟨by rw [fM];exact h.h⟩
theorem Rk{A B C t m:Rat}{n:Int}(h0:0<=t)(h1:t*t<=C)(h2:0<=m)(h3:C<=m*m)(k1:aK (A+B*t)=n)(k2:aK (A+B*m)=n):qG A B C=n:=by
 have htm:t<=m:=by
  rcases FY (a:=t) (b:=m)with h|h
  .exact h
  .rcases FY (a:=m) (b:=t)with h'|h'
   .by_cases e:m=t
    .grind
    .have:=DV h2 (show m<t by grind)
     grind
   .exact h'
 exact H9 h0 htm h1 h3 k1 k2
theorem Qx{x y l:Rat}{n:Int}(h0:0<=l)(h1:l<=1)(hx:aK x=n)(hy:aK y=n):aK (x+l*(y-x))=n:=by
 have e:x+l*(y-x)=(1-l)*x+l*y:=ν
 rw[e];rcases dP x with⟨a1,a2⟩|⟨a1,a2⟩|⟨a1,a2⟩<;>rcases dP y with⟨b1,b2⟩|⟨b1,b2⟩|⟨b1,b2⟩<;>rw[a2]at hx<;>rw[b2]at hy<;>subst hx<;>(try(exfalso;omega))
 .have p1:=rH (show 0<=1-l by grind) (show 0≤-x by grind);have p2:=rH h0 (show 0≤-y by grind)
  have:(1-l)*x+l*y<0:=by
   by_cases hl:l=0
   .subst hl;grind
   .have:=rY (show 0<l by grind) (show 0 < -y by grind)
    grind
  unfold aK;rw[if_pos this]
 .subst a1 b1;rw[Rat.mul_zero,Rat.mul_zero];exact fC.2 ν
 .have p1:=rH (show 0<=1-l by grind) (show 0<=x by grind);have p2:=rH h0 (show 0<=y by grind)
  have:0<(1-l)*x+l*y:=by
   by_cases hl:l=0
   .subst hl;grind
   .have:=rY (show 0<l by grind) b1
    grind
  exact kX.2 this
theorem lK{x y k:Rat}(hk:0<k)(h:x*k<=y*k):x<=y:=by
 rcases FY (a:=x) (b:=y)with h'|h'
 .exact h'
 .by_cases e:x=y
  .grind
  .have:=rY (show 0<x-y by grind) hk;grind
theorem PZ{x y k:Rat}(hk:0<k)(h:x*k=y*k):x=y:=by
 have h1:=lK hk (show x*k<=y*k by grind);have h2:=lK hk (show y*k<=x*k by grind)
 grind
theorem wE{x y z s t u:Rat}{n:Int}(h1:s<=u)(h2:u<=t)(hz:z*(t-s)=x*(t-u)+y*(u-s))(hx:aK x=n)(hy:aK y=n)(h3:s<t):aK z=n:=by
 obtain⟨l,hl⟩:∃l,l*(t-s)=u-s:=⟨(u-s)/(t-s),(by have hne:t-s≠0:=ν;grind)⟩
 have hk:0<t-s:=ν
 have e:z=x+l*(y-x):=PZ hk ν;rw[e];refine Qx (lK hk ν) (lK hk ν) hx hy
theorem O5{P X W C s t:Rat}{n:Int}(h0:0<=s)(h1:s<=t)(h2:s*s<=C)(h3:C<=t*t)(hW:0<=W)
 (k1:aK (P+2*X*s+W*(s*s))=n) (k2:aK (P+X*(s+t)+W*(s*t))=n) (k3:aK (P+2*X*t+W*(t*t))=n):qG (P+W*C) (2*X) C=n:=by
 by_cases hst:s=t
 .subst hst;have hC:C=s*s:=ν
  subst hC;refine H9 h0 (Rat.le_refl) (Rat.le_refl) (Rat.le_refl) ?_ ?_<;>rw[<-k1]<;>congr 1<;>grind
 .have hlt:s<t:=ν
  have ht:0<t:=ν
  have hsum:0<s+t:=ν
  have hs0:s+t≠0:=ν
  obtain⟨t0,e0⟩:∃t0,t0*(s+t)=C+s*t:=⟨(C+s*t)/(s+t),ν⟩
  have q1:=rH (show 0<=t-s by grind) h0
  have l1:s<=t0:=by
   rcases FY (a:=s) (b:=t0)with h|h
   .exact h
   .by_cases e:s=t0
    .grind
    .have:=rY (show 0<s-t0 by grind) hsum;grind
  have l2:t0<=t:=by
   rcases FY (a:=t0) (b:=t)with h|h
   .exact h
   .by_cases e:t=t0
    .grind
    .have:=rY (show 0<t0-t by grind) hsum;grind
  have l3:t0*t0<=C:=by
   have:=rH (show 0<=t0-s by grind) (show 0<=t-t0 by grind)
   grind
  have m0:aK (P+W*C+2*X*t0)=n:=wE l1 l2 ν k1 k3 hlt
  have up:∃m,0<=m/\C<=m*m/\aK (P+W*C+2*X*m)=n:=by
   rcases FY (a:=s*t) (b:=C)with h|h
   ·
    have ht0:t≠0:=ν
    obtain⟨u,eu⟩:∃u,u*t=C:=⟨C/t,ν⟩
    have u1:s<=u:=by
     rcases FY (a:=s) (b:=u)with h|h
     .exact h
     .by_cases e:s=u
      .grind
      .have:=rY (show 0<s-u by grind) ht;grind
    have u2:u<=t:=by
     rcases FY (a:=u) (b:=t)with h|h
     .exact h
     .by_cases e:t=u
      .grind
      .have:=rY (show 0<u-t by grind) ht;grind
    refine⟨(u+t)*(1/2),ν, ?_, ?_⟩
    .have:=tX (t-u);grind
    .have:=wE (z:=P+X*(u+t)+W*(u*t)) u1 u2 ν k2 k3 hlt;rw[<-this];congr 1;grind
   ·
    by_cases hs:s=0
    .subst hs;have hC:C=0:=ν
     subst hC;refine⟨0,Rat.le_refl,ν, ?_⟩;rw[<-k1];congr 1;grind
    .have hs1:0<s:=ν
     obtain⟨u,eu⟩:∃u,s*u=C:=⟨C/s,ν⟩
     have u1:s<=u:=by
      rcases FY (a:=s) (b:=u)with h|h
      .exact h
      .by_cases e:s=u
       .grind
       .have:=rY (show 0<s-u by grind) hs1;grind
     have u2:u<=t:=by
      rcases FY (a:=u) (b:=t)with h|h
      .exact h
      .by_cases e:t=u
       .grind
       .have:=rY (show 0<u-t by grind) hs1;grind
     refine⟨(s+u)*(1/2),ν, ?_, ?_⟩
     .have:=tX (u-s);grind
     .have:=wE (z:=P+X*(s+u)+W*(s*u)) u1 u2 ν k1 k2 hlt;rw[<-this];congr 1;grind
  obtain⟨m,m1,m2,m3⟩:=up;exact Rk (Rat.le_trans h0 l1) l3 m1 m2 m0 m3
def dX(a b c f:Rat):Option (Int×Int) :=
 match jV a b c,bW f with
 |some x,some y=>pX x (-y.2,-y.1)
 |_,_=>none
def iD(ax bx ay bb c X Y Q:Rat):Int×Bool :=
 match dX ax bx c X,dX ay bb c Y,bW Q with
 |some x,some y,some q=>(match nT x x,nT y y with
  |some s,some t=>(match pX s t with
   |some u=>(match pX u (-q.2,-q.1)with
    |some r=>FV r.1 r.2
    |none=>(0,false))
   |none=>(0,false))
  |_,_=>(0,false))
 |_,_,_=>(0,false)
def Am(c s1 s2:Rat):Prop:=0<=c/\0<=s1/\s1<=s2/\s1*s1<=c/\c<=s2*s2/\∃w z,bW c=some z/\jY z=some w/\s1=(w.1:Rat)*(1/65536)/\s2=(w.2:Rat)*(1/65536)
theorem Jv{c s1 s2 t1 t2:Rat}(h:Am c s1 s2)(k:Am c t1 t2):s1=t1/\s2=t2:=by
 obtain⟨_,_,_,_,_,w,z,e1,e2,e3,e4⟩:=h;obtain⟨_,_,_,_,_,w',z',e1',e2',e3',e4'⟩:=k;rw[e1]at e1';injection e1' with e1'
 subst e1';rw[e2]at e2';injection e2' with e2'
 subst e2';exact⟨e3.trans e3'.symm,e4.trans e4'.symm⟩
theorem D7{a b c f:Rat}{p:Int×Int}(e:dX a b c f=some p):(b=0/\con p (a-f))\/∃s1 s2,Am c s1 s2/\con p (a-f+b*s1)/\con p (a-f+b*s2):=by
 unfold dX at e;cases h1:jV a b c with
 |none=>rw[h1]at e;cases e
 |some x =>
  cases h2:bW f with
  |none=>rw[h1,h2]at e;cases e
  |some y =>
   rw[h1,h2]at e;simp only at e;have k0:=Iq (jk h2);rcases OY h1 with⟨hb,k⟩|⟨h0,s1,s2,p1,p2,q1,q2,⟨w,z,e1,e2,e3,e4⟩,k1,k2⟩
   .refine .inl ⟨hb, ?_⟩;have:=lU e k k0
    rwa [show a + -f=a-f by grind]at this
   .refine .inr ⟨s1,s2,⟨h0,p1,p2,q1,q2,w,z,e1,e2,e3,e4⟩, ?_, ?_⟩
    .have:=lU e k1 k0
     rwa [show a+b*s1 + -f=a-f+b*s1 by grind]at this
    .have:=lU e k2 k0
     rwa [show a+b*s2 + -f=a-f+b*s2 by grind]at this
theorem IU{ax bx ay bb c X Y Q:Rat}{n:Int}(h:iD ax bx ay bb c X Y Q=(n,true)):
 qG ((ax-X)*(ax-X)+(ay-Y)*(ay-Y)+c*(bx*bx+bb*bb)-Q) ((ax-X)*bx+(ay-Y)*bb+((ax-X)*bx+(ay-Y)*bb)) c=n:=by
 unfold iD at h;cases h1:dX ax bx c X with
 |none=>rw[h1]at h;simp at h
 |some x =>
  cases h2:dX ay bb c Y with
  |none=>rw[h1,h2]at h;simp at h
  |some y =>
   cases h3:bW Q with
   |none=>rw[h1,h2,h3]at h;simp at h
   |some q =>
    rw[h1,h2,h3]at h;simp only at h;cases h4:nT x x with
    |none=>rw[h4]at h;simp at h
    |some s =>
     cases h5:nT y y with
     |none=>rw[h4,h5]at h;simp at h
     |some t =>
      rw[h4,h5]at h;simp only at h;cases h6:pX s t with
      |none=>rw[h6]at h;simp at h
      |some u =>
       rw[h6]at h;simp only at h;cases h7:pX u (-q.2,-q.1)with
       |none=>rw[h7]at h;simp at h
       |some r =>
        rw[h7]at h;simp only at h
        have key:∀u1 u2 v1 v2:Rat,con x u1->con x u2->con y v1->con y v2->aK (u1*u2+v1*v2-Q)=n:=λu1 u2 v1 v2 a b c d=>by
         have:=lU h7 (lU h6 (vX h4 a b) (vX h5 c d)) (Iq (jk h3));rw[<-QV h this];congr 1;grind
        have fin:∀s1 s2:Rat,Am c s1 s2->con x (ax-X+bx*s1)->con x (ax-X+bx*s2)->con y (ay-Y+bb*s1)->con y (ay-Y+bb*s2) ->
         qG ((ax-X)*(ax-X)+(ay-Y)*(ay-Y)+c*(bx*bx+bb*bb)-Q) ((ax-X)*bx+(ay-Y)*bb+((ax-X)*bx+(ay-Y)*bb)) c=n:=λs1 s2 ⟨_,p1,p2,q1,q2,_⟩ a1 a2 b1 b2=>by
         have w1:=tX bx;have w2:=tX bb
         have:=O5 (P:=(ax-X)*(ax-X)+(ay-Y)*(ay-Y)-Q) (X:=(ax-X)*bx+(ay-Y)*bb) (W:=bx*bx+bb*bb) (C:=c) (n:=n) p1 p2 q1 q2 ν
          (by rw[<-key _ _ _ _ a1 a1 b1 b1];congr 1;grind) (by rw[<-key _ _ _ _ a1 a2 b1 b2];congr 1;grind) (by rw[<-key _ _ _ _ a2 a2 b2 b2];congr 1;grind)
         rw[<-this];congr 1<;>grind
        rcases D7 h1 with⟨b1,k1⟩|⟨s1,s2,hs,k1,k2⟩<;>rcases D7 h2 with⟨b2,j1⟩|⟨t1,t2,ht,j1,j2⟩
        .subst b1 b2;rw[show(ax-X)*0+(ay-Y)*0+((ax-X)*0+(ay-Y)*0)=(0:Rat) by grind,KU,<-key _ _ _ _ k1 k1 j1 j1];congr 1;grind
        .subst b1;have e:∀s:Rat,ax-X+0*s=ax-X:=λs=>by grind
         exact fin t1 t2 ht (by rw[e];exact k1) (by rw[e];exact k1) j1 j2
        .subst b2;have e:∀s:Rat,ay-Y+0*s=ay-Y:=λs=>by grind
         exact fin s1 s2 hs k1 k2 (by rw[e];exact j1) (by rw[e];exact j1)
        .obtain⟨rfl,rfl⟩:=Jv hs ht;exact fin _ _ hs k1 k2 j1 j2
def lJ(n:Int):Bool:=decide (0<=n)&&decide ((((fQ n.natAbs:Nat):Int))*((fQ n.natAbs:Nat):Int)=n)
def jW(a:Rat):Bool:=lJ a.num&&lJ a.den
def pU(a:Rat):Rat:=((((fQ a.num.natAbs:Nat):Int)):Rat)/((((fQ (a.den:Int).natAbs:Nat):Int)):Rat)
theorem DR{n:Int}:lJ n=true↔∃m:Nat,(m:Int)*m=n:=by
 unfold lJ;rw[bY,decide_eq_true_eq,decide_eq_true_eq];constructor
 .rintro ⟨_,h⟩;exact⟨_,h⟩
 .rintro ⟨m,rfl⟩;have e:((m:Int)*m).natAbs=m*m:=by rw[Int.natAbs_mul,wJ]
  have h:fQ (m*m)=m:=(Em (iy _) (Nat.mul_lt_mul'' ω ω)).symm;rw[e,h];exact⟨Int.mul_nonneg ω ω,rfl⟩
theorem KX{n:Int}(h:lJ n=true):((fQ n.natAbs:Nat):Int)*((fQ n.natAbs:Nat):Int)=n:=by
 unfold lJ at h;rw[bY,decide_eq_true_eq,decide_eq_true_eq]at h;exact h.2
theorem zI{a:Rat}(h:jW a=true):(pU a).num=((fQ a.num.natAbs:Nat):Int)/\((pU a).den:Int)=((fQ (a.den:Int).natAbs:Nat):Int):=by
 unfold jW at h;rw[bY]at h;obtain⟨h1,h2⟩:=h;have e1:=KX h1;have e2:=KX h2;have hd:=den_pos a
 have hp:0<((fQ (a.den:Int).natAbs:Nat):Int):=by
  rcases qQ (fQ (a.den:Int).natAbs)with h0|h0
  .rw[h0]at e2;simp at e2;omega
  .omega
 have hg:Nat.gcd (fQ a.num.natAbs) (fQ (a.den:Int).natAbs)=1:=by
  have hc:=a.reduced
  have d1:Nat.gcd (fQ a.num.natAbs) (fQ (a.den:Int).natAbs) ∣ a.num.natAbs:=by
   have:a.num.natAbs=fQ a.num.natAbs*fQ a.num.natAbs:=by
    have:=congrArg Int.natAbs e1;rw[Int.natAbs_mul,wJ]at this;exact this.symm
   exact Nat.dvd_trans (Nat.gcd_dvd_left _ _) ⟨_,this⟩
  have d2:Nat.gcd (fQ a.num.natAbs) (fQ (a.den:Int).natAbs) ∣ a.den:=by
   have:a.den=fQ (a.den:Int).natAbs*fQ (a.den:Int).natAbs:=by
    have:=congrArg Int.natAbs e2;rw[Int.natAbs_mul,wJ]at this;exact this.symm
   exact Nat.dvd_trans (Nat.gcd_dvd_right _ _) ⟨_,this⟩
  exact Nat.eq_one_of_dvd_one (hc▸Nat.dvd_gcd d1 d2)
 obtain⟨q1,q2⟩:=rG (n:=((fQ a.num.natAbs:Nat):Int)) hp;change Nat.gcd (((fQ a.num.natAbs:Nat):Int)).natAbs (((fQ (a.den:Int).natAbs:Nat):Int)).natAbs=1 at hg;rw[hg]at q1 q2;exact⟨by unfold pU;rw[q1];exact fdiv_one _,by unfold pU;rw[q2];exact fdiv_one _⟩
where
 num_den_div {a:Rat}:a=(a.num:Rat)/((a.den:Int):Rat):=by
  have h1:=iP a;have h2:=iL a;rw[h1];grind
end Go.Sw
namespace Go.Sw
open Go
@[reducible] def Q2(a b:Rat):AV:=.agg [zs a.num,zl a.num,zs a.den,zl a.den,zs b.num,zl b.num,zs b.den,zl b.den]
@[reducible] def ZQ3:AV:=.agg [.v (.bool false),.sl 1 [],.v (.bool false),.sl 1 [],.v (.bool false),.sl 1 [],.v (.bool false),.sl 1 [],.v (.bool false),.sl 1 [],.v (.bool false),.sl 1 []]
def wO(b c:Rat):Rat:=if b=0\/c=0 then 0 else b
def xH(b c:Rat):Rat:=if b=0\/c=0 then 0 else c
def QX(a b c:Rat):Rat:=if jW c=true then a+b*pU c else a
def RD(b c:Rat):Rat:=if jW c=true then 0 else wO b c
def P5(b c:Rat):Rat:=if jW c=true then 0 else xH b c
def yg(b c:Rat):Rat:=if b=0 then 0 else c
def P7(b e c:Rat):Rat:=if b=0/\e=0 then 0 else c
theorem PV{ax bx ay bb c X Y Q:Rat}(h:(iD ax bx ay bb c X Y Q).2=true):
 (iD ax bx ay bb c X Y Q).1=qG ((ax-X)*(ax-X)+(ay-Y)*(ay-Y)+c*(bx*bx+bb*bb)-Q) ((ax-X)*bx+(ay-Y)*bb+((ax-X)*bx+(ay-Y)*bb)) c :=
 (IU (n:=(iD ax bx ay bb c X Y Q).1) (Prod.ext rfl h)).symm
section
variable {a b:Rat}
theorem SY(h:a.num=b.num):packA [AV.c (Cell.v (.bool (decide ((a.den:Int)=(b.den:Int)))))]=AV.bool (decide (a=b)) :=
 bE (by rw[decide_eq_decide];exact⟨λh2=>Rat.ext h ω,λh2=>by rw[h2]⟩)
theorem SC(h:¬a.num=b.num):packA [AV.c (Cell.v (.bool false))]=AV.bool (decide (a=b)) :=
 bE (by symm;rw[decide_eq_false_iff_not];exactλe=>h (by rw[e]))
end
end Go.Sw
namespace Go.Sw
open Go
theorem XF{c:Rat}(h:jW c=true):rz (pU c)<=rz c:=by
 obtain⟨h1,h2⟩:=zI h
 have k:∀n:Nat,fQ n<=n:=λn=>by
  have h3:=(xw n).1;rcases qQ (fQ n)with h4|h4
  .omega
  .exact aO (Nat.le_mul_of_pos_left _ h4) h3
 unfold rz;rw[h1,h2];have a1:=iM (a:=((fQ c.num.natAbs:Nat):Int)) (b:=c.num) (by rw[wJ];exact k _);have a2:=iM (a:=((fQ (c.den:Int).natAbs:Nat):Int)) (b:=(c.den:Int)) (by rw[wJ];exact k _);omega
theorem Y4:rz 0<=1:=by decide +kernel
instance:RzB 0 1:=⟨Y4⟩
instance{p:Prop}[Decidable p]{a b:Rat}{m n:Nat}[h1:RzB a m][h2:RzB b n]:RzB (if p then a else b) (m+n):=⟨by split;exact aO h1.h ω;exact aO h2.h ω⟩
end Go.Sw
namespace Go.Sw
open Go Go.RowKit
class DenC (P:Program) [Wld P] (f:FuncId) (xs:List AV) (pre:outParam Prop) (c:outParam Prop) (r s:outParam AV):Prop where
 den:pre->(c->Den P f xs r)/\(¬c->Den P f xs s)
theorem zao{P:Program}[Wld P]{f:FuncId}{xs:List AV}{pre c:Prop}{r s:AV}{k:AV->Prop}[h:DenC P f xs pre c r s](hp:Pr pre)(h1:c->k r)(h2:¬c->k s):CallP (Den P) f xs k:=by
 by_cases hc:c
 .exact⟨r,(h.den hp.p).1 hc,h1 hc⟩
 .exact⟨s,(h.den hp.p).2 hc,h2 hc⟩
theorem denC{P:Program}[Wld P]{f:FuncId}{xs:List AV}{pre c:Prop}{r s:AV}(h:pre->∀q,(c->q=r)->(¬c->q=s)->Den P f xs q)(hp:pre):(c->Den P f xs r)/\(¬c->Den P f xs s) :=
 ⟨λhc=>h hp r (λ_=>rfl) (λn=>absurd hc n),λhc=>h hp s (λn=>absurd n hc) (λ_=>rfl)⟩
end Go.Sw
namespace Go.Sw
open Go
class SzB (n:Int) (k:outParam Nat):Prop where
 h:sz n<=k
theorem eX{n:Int}{k K:Nat}[i:SzB n k](h:k<=K):sz n<=K:=aO i.h h
instance{q:Rat}{n:Nat}[i:RzB q n]:SzB q.num n:=⟨aO (fH q) i.h⟩
instance{q:Rat}{n:Nat}[i:RzB q n]:SzB (q.den:Int) n:=⟨aO (fZ q) i.h⟩
instance{a b:Int}{m n:Nat}[i:SzB a m][j:SzB b n]:SzB (a*b) (m+n):=⟨by have:=dZ a b;have:=i.h;have:=j.h;omega⟩
instance{p:Prop}[Decidable p]{a b:Int}{m n:Nat}[h1:SzB a m][h2:SzB b n]:SzB (if p then a else b) (m+n):=⟨by split;exact aO h1.h ω;exact aO h2.h ω⟩
instance:SzB 0 3:=⟨dV ψ ψ⟩
theorem UJ(n:Nat):fQ n<=n:=by
 have h3:=(xw n).1;rcases qQ (fQ n)with h4|h4
 .omega
 .exact aO (Nat.le_mul_of_pos_left _ h4) h3
instance{a:Int}{m:Nat}[i:SzB a m]:SzB ((fQ a.natAbs:Nat):Int) m:=⟨aO (iM (by rw [wJ];exact UJ _)) i.h⟩
section
variable {a b c:Rat}
end
section
variable {a b c:Rat} {q:AV}
theorem Xc(h:¬aK a=aK b):packA [AV.c (Cell.v (.int .i64 (gK (aK a) (aK b))))]=AV.int .i64 (dF a b):=iE (by
 rcases dP a with⟨a1,a2⟩|⟨a1,a2⟩|⟨a1,a2⟩<;>rcases dP b with⟨b1,b2⟩|⟨b1,b2⟩|⟨b1,b2⟩<;>rw[a2,b2]at h ⊢<;>first
  |exact absurd rfl h|(rw[EH ν];rfl)|(rw[FN ν];rfl))
theorem Ui(hb:¬b=0)(e:¬b=0->q=AV.tup [R (a/b),AV.int .i64 0]):packA [R (((a.num*b.den:Int):Rat)/((a.den*b.num:Int):Rat)),AV.c (Cell.v (.int .i64 0))]=q:=by
 rw[e hb,Hr a b hb];rfl
theorem Ed(h:(a.den:Int)*b.num=0):b=0:=by
 rcases Int.mul_eq_zero.1 h with h|h
 .exact absurd h (aj a)
 .exact(Gz b).1 h
theorem Zn(h:¬(a.den:Int)*b.num=0)(e:¬b=0->q=AV.tup [R (a/b),AV.int .i64 0]):packA [R (((a.num*b.den:Int):Rat)/((a.den*b.num:Int):Rat)),AV.c (Cell.v (.int .i64 0))]=q :=
 Ui (λe=>h (by rw[e];simp)) e
theorem NH(h:¬b=0):(a.den:Int)*b.num≠0:=λe=>h (Ed e)
theorem XH(n:Int):((0:Int):Rat)=(n:Rat)/((0:Int):Rat):=by rw[<-UG n];decide +kernel
theorem XE{x:Int}(h:(if x<0 then(7:Int)else 0)=0):packA [Z (if x<0 then 0 else(fQ x.natAbs:Nat)),AV.c (Cell.v (.bool (decide ((if x<0 then 0 else((fQ x.natAbs:Nat):Int))*(if x<0 then 0 else((fQ x.natAbs:Nat):Int))=x))))]=AV.tup [Z (if x<0 then 0 else(fQ x.natAbs:Nat)),AV.bool (lJ x)]:=by
 have h0:¬x<0:=λh1=>by rw[if_pos h1]at h;exact absurd h ψ
 have e:lJ x=decide ((if x<0 then 0 else((fQ x.natAbs:Nat):Int))*(if x<0 then 0 else((fQ x.natAbs:Nat):Int))=x):=by
  unfold lJ;rw[if_neg h0,decide_eq_true (show 0<=x by omega),BJ]
 rw[e];rfl
theorem UR{x:Int}(h:¬(if x<0 then(7:Int)else 0)=0):packA [Z (if x<0 then 0 else(fQ x.natAbs:Nat)),AV.c (Cell.v (.bool false))]=AV.tup [Z (if x<0 then 0 else(fQ x.natAbs:Nat)),AV.bool (lJ x)]:=by
 have h0:x<0:=Decidable.byContradiction λh1=>h (by rw[if_neg h1])
 have e:lJ x=false:=by
  unfold lJ;rw[decide_eq_false (show¬0<=x by omega),PE]
 rw[e];rfl
theorem Vp(h1:(!lJ a.num)=false)(h2:(!lJ a.den)=false)(e:jW a=true->q=AV.tup [R (pU a),AV.bool true]):
 packA [AV.agg [zs (if a.num<0 then 0 else(fQ a.num.natAbs:Nat)),zl (if a.num<0 then 0 else(fQ a.num.natAbs:Nat)),zs (if(a.den:Int)<0 then 0 else(fQ (a.den:Int).natAbs:Nat)),zl (if(a.den:Int)<0 then 0 else(fQ (a.den:Int).natAbs:Nat))],AV.c (Cell.v (.bool true))]=q:=by
 have k1:lJ a.num=true:=by simpa using h1
 have k2:lJ a.den=true:=by simpa using h2
 have k:jW a=true:=by unfold jW;rw[k1,k2];rfl
 obtain⟨p1,p2⟩:=zI k
 have n1:¬a.num<0:=by
  unfold lJ at k1;rw[bY,decide_eq_true_eq]at k1;omega
 have n2:¬(a.den:Int)<0:=ω
 rw[e k,if_neg n1,if_neg n2,<-p1,<-p2];rfl
theorem La(h:(!lJ a.num)=true\/(!lJ a.den)=true):¬jW a=true:=by
 unfold jW;rcases h with h|h<;>simp at h<;>rw[h]<;>simp
end
theorem Bh(a b c:Rat):-1<=qG a b c/\qG a b c<=1:=by
 unfold qG;have h1:=jU a;have h2:=kH (jU b) (jU c);have h3:=kH (jU a) (nP (a*a) (b*b*c))
 repeat' split
 all_goals first|exact h1|exact h2|exact h3
theorem adN(a b c:Rat):IntKind.i64.wrap (0-qG a b c) = -qG a b c:=by
 have:=Bh a b c;rw[aS ω ω];omega
theorem Z5{a b c:Rat}{n:Int}(h:qG a b c=n):packA [AV.c (Cell.v (.int .i64 (IntKind.i64.wrap (0-qG a b c))))]=AV.int .i64 (-n):=iE (by rw[adN,h])
theorem Ym{a b c d e f g h:Rat}{n:Int}(k:(iD a b c d e f g h).2=true)(hn:(iD a b c d e f g h).1=n)(h1 : -1<=n)(h2:n<=1):packA [AV.c (Cell.v (.int .i64 (IntKind.i64.wrap (0-(iD a b c d e f g h).1))))]=AV.int .i64 (-n):=iE (by
 rw[hn,aS ω ω];omega)
instance{a b:Rat}{m n:Nat}[h:RzB a m][k:RzB b n]:RzB (a / b) (m+n+1):=⟨by
 by_cases hb:b=0
 .subst hb;have:a/0=0:=by rw[Rat.div_def,Rat.inv_zero,Rat.mul_zero]
  rw[this];have:=Y4;omega
 .have:=V9 a b hb;have:=h.h;have:=k.h;omega⟩
theorem Zm(a:Rat):((0:Int):Rat)=a/0:=by
 have:((0:Int):Rat)=0:=rfl;rw[this,Rat.div_def,Rat.inv_zero,Rat.mul_zero]
section
variable {a b c:Rat}
theorem acv(h:aK b*aK c=0):packA [AV.c (Cell.v (.int .i64 (aK a)))]=AV.int .i64 (qG a b c):=iE (by unfold qG;rw[if_pos (.inr h)])
theorem adC(h:aK a=aK b*aK c):packA [AV.c (Cell.v (.int .i64 (aK a)))]=AV.int .i64 (qG a b c):=iE (by unfold qG;rw[if_pos (.inl h)])
theorem acW(h1:¬aK b*aK c=0)(h2:¬aK a=aK b*aK c)(h3:a=0):packA [AV.c (Cell.v (.int .i64 (aK b*aK c)))]=AV.int .i64 (qG a b c):=iE (by
 unfold qG;rw[if_neg (by rintro (h|h);exact h2 h;exact h1 h),if_pos (fC.2 h3)])
theorem abX(h1:¬aK b*aK c=0)(h2:¬aK a=aK b*aK c)(h3:¬a=0):packA [AV.c (Cell.v (.int .i64 (aK a*dF (a*a) (b*b*c))))]=AV.int .i64 (qG a b c):=iE (by
 rw[aa8 h2 h1 (λe=>h3 (fC.1 e))])
end
theorem Ea(a b c f:Rat):BD ((dX a b c f).getD (0,0)):=by
 unfold dX;have h1:=Eh a b c;have h2:=gV f;cases h3:jV a b c with
 |none=>unfold BD;simp only[CS];decide
 |some x =>
  cases h4:bW f with
  |none=>unfold BD;simp only[CS];decide
  |some y =>
   rw[h3]at h1;rw[h4]at h2;simp only[uq]at h1 h2;exact zS h1 (by unfold BD at *;simp only;omega)
theorem QY{a b c f:Rat}(h:(!(jV a b c).isSome)=true\/(!(bW f).isSome)=true):(none:Option (Int×Int))=dX a b c f:=by
 unfold dX;rcases h with h|h
 .cases h1:jV a b c with
  |none=>rfl
  |some x=>rw[h1]at h;cases h
 .cases h1:jV a b c with
  |none=>rfl
  |some x=>cases h2:bW f with
   |none=>rfl
   |some y=>rw[h2]at h;cases h
theorem U0{a b c f:Rat}(h:(!(jV a b c).isSome)=false)(k:(!(bW f).isSome)=false):pX ((jV a b c).getD (0,0)) (-((bW f).getD (0,0)).2,-((bW f).getD (0,0)).1)=dX a b c f:=by
 unfold dX;cases h1:jV a b c with
 |none=>rw[h1]at h;cases h
 |some x=>cases h2:bW f with
  |none=>rw[h2]at k;cases k
  |some y=>rfl
section
variable {ax bx ay bb c X Y Q:Rat}
theorem acT{p:Int×Bool}(h:p=(0,false)):packA [AV.c (Cell.v (.int .i64 0)),AV.c (Cell.v (.bool false))]=AV.tup [.int .i64 p.1,.bool p.2]:=by rw[h];rfl
theorem acR(h:(!(dX ax bx c X).isSome)=true\/(!(dX ay bb c Y).isSome)=true\/(!(bW Q).isSome)=true):iD ax bx ay bb c X Y Q=(0,false):=by
 unfold iD;cases h1:dX ax bx c X with
 |none=>rfl
 |some x=>cases h2:dX ay bb c Y with
  |none=>rfl
  |some y=>cases h3:bW Q with
   |none=>rfl
   |some q=>rw[h1,h2,h3]at h;simp at h
theorem Zw{x y q:Int×Int}(h1:(!(dX ax bx c X).isSome)=false)(h2:(!(dX ay bb c Y).isSome)=false)(h3:(!(bW Q).isSome)=false)(e1:x=(dX ax bx c X).getD (0,0))(e2:y=(dX ay bb c Y).getD (0,0))(e3:q=(bW Q).getD (0,0)):
 iD ax bx ay bb c X Y Q=(match nT x x,nT y y with
 |some s,some t=>(match pX s t with
  |some u=>(match pX u (-q.2,-q.1)with
   |some r=>FV r.1 r.2
   |none=>(0,false))
  |none=>(0,false))
 |_,_=>(0,false)):=by
 subst e1 e2 e3;unfold iD;cases k1:dX ax bx c X with
 |none=>rw[k1]at h1;cases h1
 |some x=>cases k2:dX ay bb c Y with
  |none=>rw[k2]at h2;cases h2
  |some y=>cases k3:bW Q with
   |none=>rw[k3]at h3;cases h3
   |some q=>rfl
end
end Go.Sw
namespace Go.Sw
open Go
theorem qE(q:Rat):fU (decide (q.num<0)) (lim q.num.natAbs) (decide ((q.den:Int)<0)) (lim (q.den:Int).natAbs)=true:=by
 rw[jP];have h1:=den_pos q;have h2:=q.reduced;rw[bY,decide_eq_true_eq,decide_eq_true_eq];exact⟨ny.2 h1,by rw[wJ];exact congrArg Int.ofNat h2⟩
end Go.Sw
