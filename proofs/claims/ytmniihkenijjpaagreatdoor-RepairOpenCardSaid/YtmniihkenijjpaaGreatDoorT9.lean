/-
  Rules of the abstract run, plain laws, and what functions answer, for the law RepairOpen.
  Conditions: none.
-/
import Derived.Test.YtmniihkenijjpaaGreatDoorT8
set_option linter.all false
namespace Go.Sw
open Go Go.RowKit
open Go.WideElems (rd rg pl)
def JS.add(st:JS)(k:ByteArray)(c:List Cell):JS:=⟨st.sq,λx=>if x=k then st.f x++[c]else st.f x,st.n+1⟩
theorem jmore{w w3:World}{more more':List Bx}{g':Nat}{T:TypeId}{cur:Array Value}{og:Option Nat}(hm':more'=(g',T,cur)::more.filter λq=>!(decide (og=some q.1)))(hg:og=some g'∨w.heap.size≤g')(hog:∀g,og=some g→g∈bl more)(hl:∀q:Bx,q∈more→q.1<w.heap.size)
 (hn:w3.heap[g']?=some (Obj.cells cur T (0,0))) (hk:∀q:Bx,q∈more→og≠some q.1→w3.heap[q.1]?=some (Obj.cells q.2.2 q.2.1 (0,0))) (hnd:more.Pairwise λa b=>a.1≠b.1) :
 (∀q:Bx,q∈more'→(q.1∈bl more∨w.heap.size≤q.1)∧w3.heap[q.1]?=some (Obj.cells q.2.2 q.2.1 (0,0)))∧more'.Pairwise λa b=>a.1≠b.1:=by
 subst hm';refine⟨λq hq=>?_,List.pairwise_cons.2 ⟨λq hq=>?_,hnd.filter _⟩⟩
 ·rcases wL.1 hq with rfl|hq
  ·refine⟨?_,hn⟩;rcases hg with h|h
   ·exact .inl (hog _ h)
   ·exact .inr h
  ·obtain⟨h1,h2⟩:=H9.1 hq;exact⟨.inl (iM.2 ⟨q,h1,rfl⟩),hk q h1 (by simpa using h2)⟩
 ·obtain⟨h1,h2⟩:=H9.1 hq;have h2':og≠some q.1:=by simpa using h2
  intro e;simp only at e;rcases hg with h|h
  ·exact h2' (by rw[h,e])
  ·have:=hl q h1;omega
theorem fit_size{P:Program}{kT:TypeId}{es es':Array MapEntry}{kl:Lit}{d:DataW Value}{n:Nat}(h:(es'.toList.map (rg P kT Rv)).foldr DataW.insert []=ChangeMaps.putKey kl d ((es.toList.map (rg P kT Rv)).foldr DataW.insert []))(hn:es.size≤n):es'.size≤n+1:=by
 have e1:es'.size=((es'.toList.map (rg P kT Rv)).foldr DataW.insert []).length:=by rw[length_sorted];simp
 rw[e1,h];unfold ChangeMaps.putKey;rw[length_insert];have e2:=dY (ChangeMaps.notKey kl) ((es.toList.map (rg P kT Rv)).foldr DataW.insert []);rw[length_sorted]at e2;simp at e2;omega
theorem jput{P:Program}{mT kT sT T:TypeId}{s:Nat}{st:JS}{w w1 w2:World}{X:List Nat}{us:List Value}{more:List Bx}{es:Array MapEntry}{ck g0:Nat}{us':List Value}{val:ByteArray→Value}{og:ByteArray→Option Nat}{k:ByteArray}{v':Value}{vs:List Value}{vC:List Cell}{uss:List (List Value)}
 (hkT:P.underlying kT=some .string) (hmT:P.underlying mT=some (.map kT sT)) (hs0:0<s)
 (hu:us=.map (some g0)::us') (hus:RepL w X us' st.sq) (hF:Go.WideElems.Fit P kT Rv es ck) (hn:es.size≤st.n) (hroom:st.n<maxLen) (hv:∀k,(datum P kT es).atKey (.string k.data.toList) (DataW.held (Value.slice none 0 0))=DataW.held (val k)) (hsl:∀k,SlotR w X T s more (val k) (st.f k) (og k)) (hinj:∀k1 k2 g,og k1=some g→og k2=some g→k1=k2)
 (hX:∀q:Bx,q∈more→q.1∈X∧w.heap[q.1]?=some (Obj.cells q.2.2 q.2.1 (0,0))) (hnd:more.Pairwise λa b=>a.1≠b.1) (hmap:w.heap[g0]?=some (Obj.map es ck)) (hk:k.size≤maxLen)
 (hvs:RepL w X vs vC) (hvl:vs.length=s) (huss:RepS w X s uss (st.f k))
 (hb1:Below w.heap.size w w1) (hown:w2.ownsRow 0 T s v' ((st.f k).length+1) (uss.flatten++vs)) (hgr:w1.grownBy w2 (val k).ownBlock) (hob:v'.ownBlock=(val k).ownBlock∨v'.ownBlock=some w1.heap.size) (hgo:(val k).ownBlock=og k) :
 ∃w3 mo' more',(Instr.mapUpdate mT (.map (some g0)) (.string k) v').run P w2=.ok () w3∧mo'.1=g0∧w3.heap[g0]?=some (Obj.map mo'.2.1 mo'.2.2)∧(∀q:Bx,q∈more'→(q.1∈bl more∨w1.heap.size≤q.1)∧w3.heap[q.1]?=some (Obj.cells q.2.2 q.2.1 (0,0)))∧(more'.Pairwise λa b=>a.1≠b.1) ∧
  (w3.os=w.os∧w3.tape=w.tape∧w3.output=w.output∧w.heap.size≤w3.heap.size∧∀i,i<w.heap.size→i≠g0→i ∉ bl more→w3.heap[i]?=w.heap[i]?)∧(∀i,i<w1.heap.size→i≠g0→og k≠some i→w3.heap[i]?=w1.heap[i]?)∧jrep P kT T s (st.add k vC) w3 (bl more'++X) us more' mo':=by
 have hkey:keyOf P kT (.string k)=some (.string k.data.toList):=by simp[keyOf,hkT,mapKey,hk]
 have hg0:=lt_of_heap hmap;have hlt:∀q:Bx,q∈more→q.1<w.heap.size:=λq hq=>lt_of_heap (hX q hq).2
 have hne0:∀q:Bx,q∈more→q.1≠g0:=λq hq e=>by
  have:=(hX q hq).2;rw[e,hmap]at this;cases this
 have hogm:∀k g,og k=some g→g∈bl more∧g<w.heap.size∧g≠g0:=by
  intro k1 g1 h1;have h6:=hsl k1;rw[h1]at h6;generalize val k1=vx at h6;generalize st.f k1=fx at h6;cases h6 with
  |some hm hr hc hx hn h0=>exact⟨iM.2 ⟨_,hm,rfl⟩,hlt _ hm,hne0 _ hm⟩
 have hb0:(val k).ownBlock≠some g0:=by rw[hgo];exactλe=>(hogm k g0 e).2.2 rfl
 have hmap2:w2.heap[g0]?=some (Obj.map es ck):=(hgr.block g0 (Jz hg0 hb1.size) (λe=>hb0 e.symm)).trans ((hb1.block g0 hg0).trans hmap);obtain⟨es',ck',hrun,hF',hput,_⟩:=Maps.fit_store (R':=Rv) (Maps.string_keyed hkT) hmT hmap2 hF (dA hn hroom) (λ_ _ _ _ hz=>hz) hkey (show Rv v'=some (DataW.held v',[])from rfl);rcases hown.2 with⟨_,h0⟩|⟨g',cap,cur,hv',hb',hg',hle,hmx,hcs,htk⟩
 ·omega
 have hg'2:og k=some g'∨g'=w1.heap.size:=by
  rw[hv']at hob;rcases hob with h|h
  ·left;rw[←hgo,←h];rfl
  ·right;simpa[Value.ownBlock]using h
 have hg'0:g'≠g0:=λe=>by rw[e,hmap2]at hg';cases hg'
 let w3:=ChangeMaps.setBlock w2 g0 (.map es' ck')
 have hsame:w3.heap[g0]?=some (Obj.map es' ck'):=ChangeMaps.heap_setBlock_same hmap2 _;have hoth:∀i,i≠g0→w3.heap[i]?=w2.heap[i]?:=λi hi=>ChangeMaps.heap_setBlock_other hmap2 _ hi
 have h31:∀i,i<w1.heap.size→i≠g0→og k≠some i→w3.heap[i]?=w1.heap[i]?:=λi hi h1 h2=>(hoth i h1).trans (hgr.block i hi (λe=>h2 (by rw[←hgo,←e])))
 have h30:∀i,i<w.heap.size→i≠g0→og k≠some i→w3.heap[i]?=w.heap[i]?:=λi hi h1 h2=>(h31 i (Jz hi hb1.size) h1 h2).trans (hb1.block i hi)
 have hsz:w.heap.size≤w3.heap.size:=by
  have:w3.heap.size=w2.heap.size:=by simp[w3,ChangeMaps.setBlock]
  rw[this];exact dh hb1.size hgr.size
 obtain⟨hM,hP⟩:=jmore (w:=w1) (w3:=w3) (more:=more) (g':=g') (T:=T) (cur:=cur) (og:=og k) rfl (by
  rcases hg'2 with h|h
  ·exact .inl h
  ·right;rw[h];exact kU _) (λg h=>(hogm k g h).1) (λq hq=>Jz (hlt q hq) hb1.size) ((hoth g' hg'0).trans hg') (λq hq h=>(h30 q.1 (hlt q hq) (hne0 q hq) h).trans (hX q hq).2) hnd
 have hext:Ext w X w3 (bl ((g',T,cur)::more.filter λq=>!(decide (og k=some q.1)))++X):=by
  refine⟨hsz,λi hi hx hnm=>?_⟩;have hi0:i≠g0:=λe=>hnm _ _ (e▸hmap)
  have hik:og k≠some i:=λe=>by
   obtain⟨q,hq,rfl⟩:=iM.1 (hogm k i e).1;exact hx (hX q hq).1
  refine⟨h30 i hi hi0 hik,λhm=>?_⟩;rcases oG.1 hm with hm|hm
  ·obtain⟨q,hq,rfl⟩:=iM.1 hm;rcases(hM q hq).1 with h|h
   ·obtain⟨p,hp,hpe⟩:=iM.1 h;exact hx (hpe▸(hX p hp).1)
   ·have:=hb1.size;omega
  ·exact hx hm
 refine⟨w3,(g0,es',ck'),_,hrun,rfl,hsame,hM,hP,⟨hgr.os.trans hb1.os,hgr.tape.trans hb1.tape,hgr.output.trans hb1.output,hsz,λi hi h1 h2=>h30 i hi h1 (λe=>h2 (hogm k i e).1)⟩,h31,us',hu,hus.ext hext,hF', ?_, ?_⟩
 ·exact fit_size hput hn
 ·have hD:datum P kT es'=(datum P kT es).put (.string k.data.toList) (.held v'):=by unfold datum;rw[DataW.put_eq,hput]
  refine⟨λx=>if x=k then v' else val x,λx=>if x=k then some g' else og x,λx=>?_,λx=>?_,λk1 k2 g1 h1 h2=>?_⟩
  ·show(datum P kT es').atKey _ _=_;rw[hD]
   by_cases hx:x=k
   ·subst hx;refine Ai ?_ (congrArg DataW.held (if_pos rfl).symm);exact Maps.atKey_put_same (D:=datum P kT es) ⟨_,rfl⟩ (k:=.string x.data.toList) trivial _ _
   ·refine Ai ?_ (congrArg DataW.held (if_neg hx).symm);rw[Maps.atKey_put_other (λe=>hx ?_)]
    ·exact hv x
    ·injection e with e
     have:x.data=k.data:=Gt e;cases x;cases k;simp_all
  ·by_cases hx:x=k
   ·subst hx;simp only[if_true,JS.add];rw[hv']
    have hR:RepS w X s (uss++[vs]) (st.f x++[vC]):=huss.append ⟨rfl,λu hu=>by simp at hu;subst hu;exact hvl,λi a c h1 h2=>by
     cases i with
     |zero=>simp at h1 h2;subst h1 h2;exact hvs
     |succ i=>simp at h1⟩
    have hfl:cur=((uss++[vs]).flatten++cur.toList.drop (((st.f x).length+1)*s)).toArray:=by
     have e1:(uss++[vs]).flatten=uss.flatten++vs:=by simp
     rw[e1,←htk,U5]
    have hl:(st.f x++[vC]).length=(st.f x).length+1:=by simp
    rw[←hl];refine .some (uss:=uss++[vs]) (rest:=cur.toList.drop (((st.f x).length+1)*s)) ?_ (hR.ext hext) ?_ hmx (by rw[hl];exact hle) (by rw[hl];omega)
    ·rw[←hfl];simp
    ·have:((uss++[vs]).flatten++cur.toList.drop (((st.f x).length+1)*s)).length=cur.size:=by
      conv=>rhs;rw[hfl]
      simp
     rw[this,hcs]
   ·simp only[if_neg hx,JS.add];have h6:=hsl x;generalize hgx:og x=ox at h6;generalize hvx:val x=vx at h6;generalize hfx:st.f x=fx at h6;cases h6 with
    |no=>exact .no
    |some hm hr hc hx' hn' h0' =>
     refine .some (Md _ (H9.2 ⟨hm, ?_⟩)) (hr.ext hext) hc hx' hn' h0';simp only[BR,decide_eq_false_iff_not];exactλe=>hx (hinj x k _ hgx e)
  ·replace h1:(if k1=k then some g' else og k1)=some g1:=h1;replace h2:(if k2=k then some g' else og k2)=some g1:=h2
   have key:∀x,x≠k→og x=some g'→False:=λx hx h=>by
    rcases hg'2 with h3|h3
    ·exact hx (hinj x k g' h h3)
    ·have:=(hogm x g' h).2.1;have:=hb1.size;omega
   by_cases e1:k1=k<;>by_cases e2:k2=k
   ·rw[e1,e2]
   ·rw[if_pos e1]at h1;rw[if_neg e2]at h2;cases h1;exact(key k2 e2 h2).elim
   ·rw[if_neg e1]at h1;rw[if_pos e2]at h2;cases h2;exact(key k1 e1 h1).elim
   ·rw[if_neg e1]at h1;rw[if_neg e2]at h2;exact hinj k1 k2 g1 h1 h2
end Go.Sw
namespace Go.Sw
open Go
def hf(c p:Rat×Rat):Int:=if c.2<p.2∨(p.2=c.2∧c.1<p.1)then 0 else 1
def fF(c p q:Rat×Rat):Int:=if hf c p=hf c q then(if hf c p=0 then -(ang p.1 q.1)else ang p.1 q.1)else hf c p-hf c q
def He(c f p:Rat×Rat):Int:=if fF c p f=0 then 0 else if fF c p f>0 then 1 else 2
def zu(c f p q:Rat×Rat):Int:=if He c f p=He c f q then jD (fF c p q)else jD (He c f p-He c f q)
def lX(c p q:Rat×Rat):Int:=if hf c p=hf c q then(if hf c p=0 then -(ang p.1 q.1)else ang p.1 q.1)else(if hf c q=0 then -1 else 1)
def uj(c f p q:Rat×Rat):Int:=if(lX c p f<0)↔(lX c q f<0)then lX c p q else(if lX c q f<0 then -1 else 1)
theorem wM(c p:Rat×Rat):hf c p=0∨hf c p=1:=by unfold hf;split<;>simp
theorem QO(c f p q:Rat×Rat):uj c f p q≤0↔zu c f p q≤0:=by
 rcases wM c f with hf1|hf1<;>rcases wM c p with hp|hp<;>rcases wM c q with hq|hq <;>
  (simp only[uj,zu,lX,He,fF,hf1,hp,hq];unfold ang jD;grind)
@[reducible] def Bh(p:Rat × Rat):Rat × Rat:=(-p.1,p.2)
inductive Cls (c p:Rat × Rat):Prop where
 |r (h1:p.2=c.2) (h2:c.1<p.1) (a:hf c p=0) (b:hf (Bh c) (Bh p)=1)
 |u (h1:c.2<p.2) (a:hf c p=0) (b:hf (Bh c) (Bh p)=0)
 |l (h1:p.2=c.2) (h2:p.1<c.1) (a:hf c p=1) (b:hf (Bh c) (Bh p)=0)
 |d (h1:p.2<c.2) (a:hf c p=1) (b:hf (Bh c) (Bh p)=1)
theorem cls{c p:Rat×Rat}(h:p.2=c.2→p.1≠c.1):Cls c p:=by
 by_cases h1:c.2<p.2
 ·exact .u h1 (by unfold hf;rw[if_pos (.inl h1)]) (by unfold hf;rw[if_pos (.inl h1)])
 ·by_cases h2:p.2=c.2
  ·by_cases h3:c.1<p.1
   ·exact .r h2 h3 (by unfold hf;rw[if_pos (.inr ⟨h2,h3⟩)]) (by unfold hf;rw[if_neg];simp only[not_or];exact⟨h1,by grind⟩)
   ·have:=h h2;exact .l h2 (by grind) (by unfold hf;rw[if_neg];grind) (by unfold hf;rw[if_pos];right;exact⟨h2,by grind⟩)
  ·exact .d (by grind) (by unfold hf;rw[if_neg];grind) (by unfold hf;rw[if_neg];grind)
structure Onc (c a b:Rat × Rat):Prop where
 r:a.2=c.2→c.1<a.1→b.1≤a.1∧(b.2≠c.2→b.1<a.1)
 l:a.2=c.2→a.1<c.1→a.1≤b.1∧(b.2≠c.2→a.1<b.1)
theorem SE{c f p q:Rat×Rat}(hf_:f.2=c.2→f.1≠c.1)(hp_:p.2=c.2→p.1≠c.1)(hq_:q.2=c.2→q.1≠c.1)(h1:Onc c f p)(h2:Onc c p f)(h3:Onc c f q)(h4:Onc c q f)(h5:Onc c p q)(h6:Onc c q p):
 uj (Bh c) (Bh f) (Bh p) (Bh q)≤0↔zu c q p f≤0:=by
 obtain⟨r1,l1⟩:=h1;obtain⟨r2,l2⟩:=h2;obtain⟨r3,l3⟩:=h3;obtain⟨r4,l4⟩:=h4;obtain⟨r5,l5⟩:=h5;obtain⟨r6,l6⟩:=h6
 rcases cls hf_ with⟨a1,a2,a3,a4⟩|⟨a1,a3,a4⟩|⟨a1,a2,a3,a4⟩|⟨a1,a3,a4⟩<;>rcases cls hp_ with⟨b1,b2,b3,b4⟩|⟨b1,b3,b4⟩|⟨b1,b2,b3,b4⟩|⟨b1,b3,b4⟩<;>rcases cls hq_ with⟨c1,c2,c3,c4⟩|⟨c1,c3,c4⟩|⟨c1,c2,c3,c4⟩|⟨c1,c3,c4⟩ <;>
  (simp only[uj,zu,lX,He,fF,a3,a4,b3,b4,c3,c4];unfold ang jD;first|grind|(clear r1 l1 r2 l2 r3 l3 r4 l4 r5 l5 r6 l6 hf_ hp_ hq_;by_cases g1:f.1<p.1<;>by_cases g2:p.1<f.1<;>by_cases g3:f.1<q.1<;>by_cases g4:q.1<f.1<;>by_cases g5:p.1<q.1<;>by_cases g6:q.1<p.1<;>grind))
end Go.Sw
namespace Go.Sw
open Go
def jc(a b c:Rat×Rat):Rat:=(b.1-a.1)*(c.2-a.2)-(b.2-a.2)*(c.1-a.1)
theorem Pm{x y:Rat}(hy:0≤y)(h:x*x<y*y):x<y:=by
 by_cases g:x<y
 ·exact g
 ·exfalso;have h1:0≤x-y:=by grind
  have h2:0≤x+y:=by grind
  have h3:=xG h1 h2
  grind
theorem conc{q u1 v1 u2 v2 u3 v3:Rat}(e1:u1*u1+v1*v1=q)(e2:u2*u2+v2*v2=q)(e3:u3*u3+v3*v3=q)(h12:u2<u1)(h23:u3<u2)(p2:0≤v2):
 (u2-u3)*v1+(u1-u2)*v3<v2*(u1-u3):=by
 have hL:0<u1-u3:=by grind
 have ha:0<u2-u3:=by grind
 have hb:0<u1-u2:=by grind
 apply Pm (xG p2 (by grind));have h1:=yO ha hb;have h2:=yO h1 (yO hL hL)
 have h3:0≤(v1-v3)*(v1-v3):=by
  by_cases g:0≤v1-v3
  ·exact xG g g
  ·have:=xG (show 0≤v3-v1 by grind) (show 0≤v3-v1 by grind)
   grind
 have h4:=xG (show 0≤(u2-u3)*(u1-u2) by grind) h3
 have key:v2*(u1-u3)*(v2*(u1-u3))-((u2-u3)*v1+(u1-u2)*v3)*((u2-u3)*v1+(u1-u2)*v3)=(u2-u3)*(u1-u2)*((u1-u3)*(u1-u3))+(u2-u3)*(u1-u2)*((v1-v3)*(v1-v3)):=by
  clear h12 h23 p2 hL ha hb h1 h2 h3 h4
  grind
 clear e1 e2 e3;generalize(u2-u3)*(u1-u2)*((u1-u3)*(u1-u3))=z1 at *;generalize(u2-u3)*(u1-u2)*((v1-v3)*(v1-v3))=z2 at *;generalize v2*(u1-u3)*(v2*(u1-u3))=z3 at *;generalize((u2-u3)*v1+(u1-u2)*v3)*((u2-u3)*v1+(u1-u2)*v3)=z4 at *;clear h1 h3
 grind
section
variable {q u1 v1 u2 v2 u3 v3:Rat}
theorem af4(e1:u1*u1+v1*v1=q)(e2:u2*u2+v2*v2=q)(e3:u3*u3+v3*v3=q)(h12:u2<u1)(h23:u3<u2)(p2:0≤v2):0<(u2-u1)*(v3-v1)-(v2-v1)*(u3-u1):=by
 have:=conc e1 e2 e3 h12 h23 p2
 grind
theorem ahG(e1:u1*u1+v1*v1=q)(e2:u2*u2+v2*v2=q)(e3:u3*u3+v3*v3=q)(h12:u2<u1)(p1:0≤v1)(p2:0≤v2)(p3:v3≤0)(z2:v2=0→0<u2)(z3:v3=0→u3<0):0<(u2-u1)*(v3-v1)-(v2-v1)*(u3-u1):=by
 have e3':u3*u3+(-v3)*(-v3)=q:=by grind
 have hb:0<u1-u2:=by grind
 have hv:0≤(u1-u2)*(-v3):=xG (by grind) (by grind)
 by_cases c1:u3<u2
 ·have:=conc e1 e2 e3' h12 c1 p2;clear e1 e2 e3 e3'
  grind
 ·by_cases c2:u1<u3
  ·have:=conc e3' e1 e2 c2 h12 p1;clear e1 e2 e3 e3'
   grind
  ·have k1:0≤(u3-u2)*v1:=xG (by grind) p1;have k2:0≤(u1-u3)*v2:=xG (by grind) p2;have kD:(u2-u1)*(v3-v1)-(v2-v1)*(u3-u1)=(u3-u2)*v1+(u1-u3)*v2+(u1-u2)*(-v3):=by clear e1 e2 e3 e3';grind
   rw[kD]
   by_cases g:v3<0
   ·have:=yO hb (show 0 < -v3 by grind);clear e1 e2 e3 e3' kD
    grind
   ·have g0:v3=0:=by grind
    have g1:=z3 g0
    have g2:0<v2:=by
     by_cases g3:v2=0
     ·have g4:=z2 g3;exfalso
      grind
     ·grind
    have g5:u3*u3=q:=by rw[←e3,g0];grind
    exfalso;have g6:0<v2*v2:=yO g2 g2;have g7:u2*u2<u3*u3:=by rw[g5,←e2];grind
    have g8:0≤u3-u2:=by grind
    have g9:0≤-u3-u2:=by grind
    have g10:=xG g8 g9;clear e1 e2 e3 e3' kD g5 g6
    grind
end
theorem OA{c p:Rat×Rat}(h:hf c p=0):0≤p.2-c.2∧(p.2-c.2=0→0<p.1-c.1):=by
 unfold hf at h;split at h
 ·rename_i g;rcases g with g|⟨g1,g2⟩<;>constructor<;>grind
 ·exact absurd h (by decide)
theorem Ol{c p:Rat×Rat}(h:hf c p=1)(hn:p.2=c.2→p.1≠c.1):p.2-c.2≤0∧(p.2-c.2=0→p.1-c.1<0):=by
 unfold hf at h;split at h
 ·exact absurd h (by decide)
 ·rename_i g;constructor<;>grind
theorem qG{a b:Rat}:(ang a b<0→a<b)∧(-(ang a b)<0→b<a):=by
 unfold ang;constructor<;>(intro h;grind)
theorem au{c p1 p2 p3:Rat×Rat}{q:Rat}(e1:(p1.1-c.1)*(p1.1-c.1)+(p1.2-c.2)*(p1.2-c.2)=q)(e2:(p2.1-c.1)*(p2.1-c.1)+(p2.2-c.2)*(p2.2-c.2)=q)(e3:(p3.1-c.1)*(p3.1-c.1)+(p3.2-c.2)*(p3.2-c.2)=q)
 (n1:p1.2=c.2→p1.1≠c.1) (n2:p2.2=c.2→p2.1≠c.1) (n3:p3.2=c.2→p3.1≠c.1) (o12:fF c p1 p2<0) (o23:fF c p2 p3<0):0<jc p1 p2 p3:=by
 have kD:jc p1 p2 p3=((p2.1-c.1)-(p1.1-c.1))*((p3.2-c.2)-(p1.2-c.2))-((p2.2-c.2)-(p1.2-c.2))*((p3.1-c.1)-(p1.1-c.1)):=by unfold jc;grind
 rw[kD];rcases wM c p1 with h1|h1<;>rcases wM c p2 with h2|h2<;>rcases wM c p3 with h3|h3<;>(unfold fF at o12 o23;rw[h1,h2]at o12;rw[h2,h3]at o23;simp only[if_true,if_false,Int.reduceEq,reduceIte]at o12 o23)
 ·have a:=qG.2 o12;have b:=qG.2 o23;exact af4 e1 e2 e3 (by grind) (by grind) (OA h2).1
 ·have a:=qG.2 o12;exact ahG e1 e2 e3 (by grind) (OA h1).1 (OA h2).1 (Ol h3 n3).1 (OA h2).2 (Ol h3 n3).2
 ·exact absurd o23 (by decide)
 ·have a:=qG.1 o23;obtain⟨x1,x2⟩:=OA h1;obtain⟨y1,y2⟩:=Ol h2 n2;obtain⟨z1,z2⟩:=Ol h3 n3;have:=ahG (q:=q) (u1:=-(p2.1-c.1)) (v1:=-(p2.2-c.2)) (u2:=-(p3.1-c.1)) (v2:=-(p3.2-c.2)) (u3:=-(p1.1-c.1)) (v3:=-(p1.2-c.2)) (by grind) (by grind) (by grind) (by grind) (by grind) (by grind) (by grind) (λh=>by have:=z2 (by grind);grind) (λh=>by have:=x2 (by grind);grind);clear e1 e2 e3
  grind
 ·exact absurd o12 (by decide)
 ·exact absurd o12 (by decide)
 ·exact absurd o23 (by decide)
 ·have a:=qG.1 o12;have b:=qG.1 o23;have:=af4 (q:=q) (u1:=-(p1.1-c.1)) (v1:=-(p1.2-c.2)) (u2:=-(p2.1-c.1)) (v2:=-(p2.2-c.2)) (u3:=-(p3.1-c.1)) (v3:=-(p3.2-c.2)) (by grind) (by grind) (by grind) (by grind) (by grind) (by have:=(Ol h2 n2).1;grind);clear e1 e2 e3
  grind
end Go.Sw
namespace Go.Sw
open Go
theorem jH(c p q:Rat×Rat):fF c p q = -fF c q p:=by
 rcases wM c p with hp|hp<;>rcases wM c q with hq|hq<;>(simp only[fF,hp,hq];unfold ang;grind)
theorem vF{c p r:Rat×Rat}{q:Rat}(e1:(p.1-c.1)*(p.1-c.1)+(p.2-c.2)*(p.2-c.2)=q)(e2:(r.1-c.1)*(r.1-c.1)+(r.2-c.2)*(r.2-c.2)=q)(n1:p.2=c.2→p.1≠c.1)(n2:r.2=c.2→r.1≠c.1)(h:fF c p r=0):p=r:=by
 have hx:p.1=r.1∧hf c p=hf c r:=by
  rcases wM c p with hp|hp<;>rcases wM c r with hr|hr<;>(simp only[fF,hp,hr]at h;unfold ang at h;grind)
 obtain⟨h1,h2⟩:=hx;have hy:(p.2-c.2)*(p.2-c.2)=(r.2-c.2)*(r.2-c.2):=by rw[h1]at e1;grind
 have hz:(p.2-r.2)*((p.2-c.2)+(r.2-c.2))=0:=by grind
 have h3:p.2=r.2:=by
  rcases Rat.mul_eq_zero.1 hz with g|g
  ·grind
  ·rcases wM c p with hp|hp
   ·have a:=(OA hp).1;have b:=(OA (h2▸hp)).1
    grind
   ·have a:=(Ol hp n1).1;have b:=(Ol (h2▸hp) n2).1
    grind
 exact Prod.ext h1 h3
theorem Qu{c f p r:Rat×Rat}{q:Rat}(e1:(f.1-c.1)*(f.1-c.1)+(f.2-c.2)*(f.2-c.2)=q)(e2:(p.1-c.1)*(p.1-c.1)+(p.2-c.2)*(p.2-c.2)=q)(e3:(r.1-c.1)*(r.1-c.1)+(r.2-c.2)*(r.2-c.2)=q)
 (n1:f.2=c.2→f.1≠c.1) (n2:p.2=c.2→p.1≠c.1) (n3:r.2=c.2→r.1≠c.1) (h:0<jc f p r):zu c f p r≤0:=by
 have x1:jc f r p = -jc f p r:=by unfold jc;grind
 have x2:jc r p f = -jc f p r:=by unfold jc;grind
 have x3:jc p f r = -jc f p r:=by unfold jc;grind
 have d1:fF c p f≠0:=λg=>by
  obtain rfl:=vF e2 e1 n2 n1 g;have:jc p p r=0:=by unfold jc;grind
  grind
 have d2:fF c r f≠0:=λg=>by
  obtain rfl:=vF e3 e1 n3 n1 g;have:jc r p r=0:=by unfold jc;grind
  grind
 have a1:=jH c p f;have a2:=jH c r f;have a3:=jH c p r;have l1:fF c f r<0→fF c r p<0→False:=λg1 g2=>by have:=au e1 e3 e2 n1 n3 n2 g1 g2;grind
 have l2:fF c r p<0→fF c p f<0→False:=λg1 g2=>by have:=au e3 e2 e1 n3 n2 n1 g1 g2;grind
 have l3:fF c p f<0→fF c f r<0→False:=λg1 g2=>by have:=au e2 e1 e3 n2 n1 n3 g1 g2;grind
 clear e1 e2 e3 n1 n2 n3 x1 x2 x3 h;unfold zu He jD;generalize fF c p f=A at *;generalize fF c r f=B at *;generalize fF c p r=C at *;generalize fF c f r=B' at *;generalize fF c f p=A' at *;generalize fF c r p=C' at *
 (repeat' split)<;>first|omega|(exfalso;by_cases g1:B'<0<;>by_cases g2:C'<0<;>by_cases g3:A<0<;>simp_all<;>omega)
theorem SK{x y:Rat}(hy:0≤y)(h:x*x≤y*y):x≤y:=by
 by_cases g:x≤y
 ·exact g
 ·exfalso;have h3:=yO (show 0<x-y by grind) (show 0<x+y by grind)
  grind
theorem OH(x:Rat):0≤x*x:=by
 by_cases g:0≤x
 ·exact xG g g
 ·have:=xG (show 0≤-x by grind) (show 0≤-x by grind)
  grind
theorem aA{c p:Rat×Rat}{q:Rat}(hq:0<q)(e:(p.1-c.1)*(p.1-c.1)+(p.2-c.2)*(p.2-c.2)=q):p.2=c.2→p.1≠c.1:=λh1 h2=>by
 rw[h1,h2]at e;grind
theorem UY{c a b:Rat×Rat}{q:Rat}(e1:(a.1-c.1)*(a.1-c.1)+(a.2-c.2)*(a.2-c.2)=q)(e2:(b.1-c.1)*(b.1-c.1)+(b.2-c.2)*(b.2-c.2)=q):Onc c a b:=by
 have k:∀y:Rat,y≠0→0<y*y:=λy h=>by
  by_cases g:0<y
  ·exact yO g g
  ·have:=yO (show 0 < -y by grind) (show 0 < -y by grind)
   grind
 have hb:=OH (b.2-c.2);constructor
 ·intro h1 h2;rw[h1]at e1;have hle:(b.1-c.1)*(b.1-c.1)≤(a.1-c.1)*(a.1-c.1):=by grind
  have h3:=SK (x:=b.1-c.1) (y:=a.1-c.1) (by grind) hle;refine⟨by grind,λh4=>?_⟩;have h5:=k (b.2-c.2) (by grind);have h6:=Pm (x:=b.1-c.1) (y:=a.1-c.1) (by grind) (by grind)
  grind
 ·intro h1 h2;rw[h1]at e1;have hle:(-(b.1-c.1))*(-(b.1-c.1))≤(-(a.1-c.1))*(-(a.1-c.1)):=by grind
  have h3:=SK (x:=-(b.1-c.1)) (y:=-(a.1-c.1)) (by grind) hle;refine⟨by grind,λh4=>?_⟩;have h5:=k (b.2-c.2) (by grind);have h6:=Pm (x:=-(b.1-c.1)) (y:=-(a.1-c.1)) (by grind) (by grind)
  grind
@[reducible] def Iv(l h:Int):AV:=.agg [.v (.int .i64 l),.v (.int .i64 h)]
def anH(l h:Int):Int×Bool:=if l>0 then(1,true)else if h<0 then(-1,true)else(0,decide (l=0∧h=0))
def Tc(l h:Int):Option (Int×Int):=if -2305843009213693952≤l∧h≤2305843009213693952 then some (l,h)else none
@[reducible] def Ov(o:Option (Int × Int)):AV:=.tup [Iv (o.getD (0,0)).1 (o.getD (0,0)).2,.bool o.isSome]
theorem anG{l h:Int}(h1 : -2305843009213693952≤l)(h2:h≤2305843009213693952):Tc l h=some (l,h):=if_pos ⟨h1,h2⟩
theorem anq{l h:Int}(h1:¬(-2305843009213693952≤l∧h≤2305843009213693952)):Tc l h=none:=if_neg h1
theorem aiH:min (Int.toNat 32) IntKind.u64.bits=32:=rfl
theorem ag3:min (Int.toNat 16) IntKind.u64.bits=16:=rfl
theorem agu:min (Int.toNat 48) IntKind.u64.bits=48:=rfl
theorem Fv(a n:Nat):((a:Nat):Int).fdiv ((n:Nat):Int)=((a/n:Nat):Int):=by rw[aI _ (by omega)];rfl
theorem wu(n:Nat):IntKind.u64.wrap ((n:Nat):Int)=((n%18446744073709551616:Nat):Int):=by rw[IntKind.wrap_u64];omega
theorem Tf{a n:Nat}(hn:n≤64)(ha:a<18446744073709551616):andI .u64 ((a:Nat):Int) ((2^n-1:Nat):Int)=((a%2^n:Nat):Int):=by
 unfold andI;have h2:2^n≤2^64:=Jw (by decide) hn;have h0:0<2^n:=Nat.pow_pos (by decide)
 have e:(BitVec.ofInt IntKind.u64.bits ((a:Nat):Int) &&& BitVec.ofInt IntKind.u64.bits ((2^n-1:Nat):Int)).toNat=a%2^n:=by
  show(BitVec.ofInt 64 ((a:Nat):Int) &&& BitVec.ofInt 64 ((2^n-1:Nat):Int)).toNat=a%2^n;rw[BitVec.ofInt_natCast,BitVec.ofInt_natCast,BitVec.toNat_and,BitVec.toNat_ofNat,BitVec.toNat_ofNat,Qw (show a<2^64 from ha),Qw (show 2^n-1<2^64 by omega),Nat.and_two_pow_sub_one_eq_mod]
 rw[e,wu];have h3:a%2^n≤a:=Nat.mod_le _ _;rw[Qw (by omega)]
theorem aaF{a b n:Nat}(hn:n≤64)(hb:b<2^n)(ha:2^n*a<18446744073709551616):orI .u64 ((2^n*a:Nat):Int) ((b:Nat):Int)=((2^n*a+b:Nat):Int):=by
 unfold orI;have h2:2^n≤2^64:=Jw (by decide) hn
 have e:(BitVec.ofInt IntKind.u64.bits ((2^n*a:Nat):Int) ||| BitVec.ofInt IntKind.u64.bits ((b:Nat):Int)).toNat=2^n*a+b:=by
  show(BitVec.ofInt 64 ((2^n*a:Nat):Int) ||| BitVec.ofInt 64 ((b:Nat):Int)).toNat=2^n*a+b;rw[BitVec.ofInt_natCast,BitVec.ofInt_natCast,BitVec.toNat_or,BitVec.toNat_ofNat,BitVec.toNat_ofNat,Qw (show 2^n*a<2^64 from ha),Qw (show b<2^64 by omega),Nat.two_pow_add_eq_or_of_lt hb]
 have hlt:2^n*a+b<18446744073709551616:=by
  have:=(BitVec.ofInt IntKind.u64.bits ((2^n*a:Nat):Int) ||| BitVec.ofInt IntKind.u64.bits ((b:Nat):Int)).isLt;rw[e]at this;exact this
 rw[e,wu,Qw hlt]
theorem UE{a b x0 x1 y0 y1:Nat}(ha:a<18446744073709551616)(hb:b<18446744073709551616)(h1:x0=a%4294967296)(h2:x1=a/4294967296)(h3:y0=b%4294967296)(h4:y1=b/4294967296):
 (x1*y1+(x1*y0+x0*y0%18446744073709551616/4294967296)/4294967296+((x1*y0+x0*y0%18446744073709551616/4294967296)%4294967296+x0*y1)/4294967296)=a*b/18446744073709551616 ∧
 x0*y0≤18446744065119617025∧x1*y0≤18446744065119617025∧x0*y1≤18446744065119617025∧x1*y1≤18446744065119617025:=by
 have b1:x0*y0≤4294967295*4294967295:=RI (by omega) (by omega);have b2:x1*y0≤4294967295*4294967295:=RI (by omega) (by omega);have b3:x0*y1≤4294967295*4294967295:=RI (by omega) (by omega);have b4:x1*y1≤4294967295*4294967295:=RI (by omega) (by omega);have ea:a=x1*4294967296+x0:=by omega
 have eb:b=y1*4294967296+y0:=by omega
 have e:a*b=x1*y1*18446744073709551616+(x1*y0+x0*y1)*4294967296+x0*y0:=by rw[ea,eb];grind
 rw[e];generalize x0*y0=p at *;generalize x1*y0=q at *;generalize x0*y1=r at *;generalize x1*y1=s at *;exact⟨by omega,by omega,by omega,by omega,by omega⟩
theorem JI(a:Nat){n:Nat}(hn:n≤64):andI .u64 ((a:Nat):Int) ((2^n-1:Nat):Int)=((a%2^n:Nat):Int):=by
 have e:andI .u64 ((a:Nat):Int) ((2^n-1:Nat):Int)=andI .u64 ((a%18446744073709551616:Nat):Int) ((2^n-1:Nat):Int):=by
  unfold andI
  have:BitVec.ofInt IntKind.u64.bits ((a:Nat):Int)=BitVec.ofInt IntKind.u64.bits ((a%18446744073709551616:Nat):Int):=by
   show BitVec.ofInt 64 ((a:Nat):Int)=BitVec.ofInt 64 ((a%18446744073709551616:Nat):Int);rw[BitVec.ofInt_natCast,BitVec.ofInt_natCast];apply BitVec.eq_of_toNat_eq;simp
  rw[this]
 rw[e,Tf hn (sK _ (by decide)),Nat.mod_mod_of_dvd _ (Nat.pow_dvd_pow 2 hn:2^n ∣ 2^64)]
theorem aef(a:Nat):andI .u64 ((a:Nat):Int) 4294967295=((a%4294967296:Nat):Int):=JI a (n:=32) (by decide)
theorem XW(a:Nat):andI .u64 ((a:Nat):Int) 65535=((a%65536:Nat):Int):=JI a (n:=16) (by decide)
theorem e32:(2:Int)^32=((4294967296:Nat):Int):=rfl
theorem e16:(2:Int)^16=((65536:Nat):Int):=rfl
theorem e48:(2:Int)^48=((281474976710656:Nat):Int):=rfl
theorem iE2{k k':IntKind}{x x' y y':Int}(h:x=x')(h':y=y'):packA [AV.c (Cell.v (Value.int k x)),AV.c (Cell.v (Value.int k' y))]=AV.tup [AV.int k x',AV.int k' y']:=by rw[h,h'];rfl
theorem LQ{k:IntKind}{x x':Int}{y y':Bool}(h:x=x')(h':y=y'):packA [AV.c (Cell.v (Value.int k x)),AV.c (Cell.v (Value.bool y))]=AV.tup [AV.int k x',AV.bool y']:=by rw[h,h'];rfl
def Ud(x y:Int):Nat:=x.natAbs*y.natAbs
def Oe(x y:Int):Int×Int :=
 let q:Int:=(Ud x y/65536:Nat)
 let u:Int:=if Ud x y%65536=0 then q else q+1
 if(decide (x<0) != decide (y<0))=true then(-u,-q)else(q,u)
def wE(x y:Int):Int×Int×Bool :=
 if 1208925819614629174706176≤Ud x y∨2305843009213693952<Ud x y/65536 then(0,0,false)
 else((Oe x y).1,(Oe x y).2,decide (-2305843009213693952≤(Oe x y).1∧(Oe x y).2≤2305843009213693952))
theorem PG{x y d u:Int}{o:Bool}(h:wE x y=(d,u,o)):packA [AV.c (Cell.v (Value.int .i64 d)),AV.c (Cell.v (Value.int .i64 u)),AV.c (Cell.v (Value.bool o))]=AV.tup [AV.int .i64 (wE x y).1,AV.int .i64 (wE x y).2.1,AV.bool (wE x y).2.2]:=by rw[h];rfl
theorem afN{p:Nat}(h:p/18446744073709551616/65536=0):orI .u64 (IntKind.u64.wrap (((p/18446744073709551616:Nat):Int)*((281474976710656:Nat):Int))) ((p%18446744073709551616/65536:Nat):Int)=((p/65536:Nat):Int):=by
 rw[←X3,wu,Qw (by omega),EI];have:=aaF (n:=48) (a:=p/18446744073709551616) (b:=p%18446744073709551616/65536) (by decide) (by omega) (by omega);have e:(2:Nat)^48=281474976710656:=rfl;rw[e]at this;rw[this];congr 1;omega
theorem ae5{x y:Int}(h:¬(((x.natAbs*y.natAbs/18446744073709551616/65536:Nat):Int))=0):wE x y=(0,0,false):=if_pos (.inl (by unfold Ud;generalize x.natAbs*y.natAbs=p at *;omega))
theorem aaU{x y:Int}(h:(((x.natAbs*y.natAbs/65536:Nat):Int))>2305843009213693952):wE x y=(0,0,false):=if_pos (.inr (by unfold Ud;generalize x.natAbs*y.natAbs=p at *;omega))
theorem ae9{x y d u:Int}{o:Bool}(h1:(((x.natAbs*y.natAbs/18446744073709551616/65536:Nat):Int))=0)(h2:¬(((x.natAbs*y.natAbs/65536:Nat):Int))>2305843009213693952)
 (hd:d=(Oe x y).1) (hu:u=(Oe x y).2) (ho:o=decide (-2305843009213693952≤(Oe x y).1∧(Oe x y).2≤2305843009213693952)):wE x y=(d,u,o):=by
 subst hd hu ho;exact if_neg (by unfold Ud;generalize x.natAbs*y.natAbs=p at *;omega)
theorem XE{x y:Int}{s z:Bool}(hs:(decide (x<0) != decide (y<0))=s)(hz:decide (x.natAbs*y.natAbs%65536=0)=z):
 Oe x y=(if s then(-(if z then((x.natAbs*y.natAbs/65536:Nat):Int)else((x.natAbs*y.natAbs/65536:Nat):Int)+1),-((x.natAbs*y.natAbs/65536:Nat):Int))else(((x.natAbs*y.natAbs/65536:Nat):Int),if z then((x.natAbs*y.natAbs/65536:Nat):Int)else((x.natAbs*y.natAbs/65536:Nat):Int)+1)):=by
 unfold Oe Ud;rw[hs];subst hz;simp only[decide_eq_true_eq]
theorem w1{q:Int}(h0:0≤q)(h:¬q>2305843009213693952):IntKind.i64.wrap q=q:=bW (by omega) (by omega)
theorem w2{q:Int}(h0:0≤q)(h:¬q>2305843009213693952):IntKind.i64.wrap (q+1)=q+1:=bW (by omega) (by omega)
theorem w3{q:Int}(h0:0≤q)(h:¬q>2305843009213693952):IntKind.i64.wrap (0-q) = -q:=by rw[bW (by omega) (by omega)];omega
theorem w4{q:Int}(h0:0≤q)(h:¬q>2305843009213693952):IntKind.i64.wrap (0-(q+1)) = -(q+1):=by rw[bW (by omega) (by omega)];omega
theorem PX{x y:Int}{s z o:Bool}{d u:Int}(h1:(((x.natAbs*y.natAbs/18446744073709551616/65536:Nat):Int))=0)(h2:¬(((x.natAbs*y.natAbs/65536:Nat):Int))>2305843009213693952)
 (hs:(decide (x<0) != decide (y<0))=s) (hz:decide (x.natAbs*y.natAbs%65536=0)=z) (hd:d=(if s then -(if z then((x.natAbs*y.natAbs/65536:Nat):Int)else((x.natAbs*y.natAbs/65536:Nat):Int)+1)else((x.natAbs*y.natAbs/65536:Nat):Int)))
 (hu:u=(if s then -((x.natAbs*y.natAbs/65536:Nat):Int)else(if z then((x.natAbs*y.natAbs/65536:Nat):Int)else((x.natAbs*y.natAbs/65536:Nat):Int)+1))) (ho:o=decide (-2305843009213693952≤d∧u≤2305843009213693952)) :
 packA [AV.c (Cell.v (Value.int .i64 d)),AV.c (Cell.v (Value.int .i64 u)),AV.c (Cell.v (Value.bool o))]=AV.tup [AV.int .i64 (wE x y).1,AV.int .i64 (wE x y).2.1,AV.bool (wE x y).2.2]:=by
 have e1:d=(Oe x y).1:=by rw[hd,XE hs hz];cases s<;>rfl
 have e2:u=(Oe x y).2:=by rw[hu,XE hs hz];cases s<;>rfl
 exact PG (ae9 h1 h2 e1 e2 (by rw[ho,e1,e2]))
@[reducible] def qB(a:Rat):Int:=-(-a).floor
theorem V6(a:Rat):a.floor≤qB a:=by
 unfold qB;have h1:=Rat.floor_le (a:=a);have h2:=Rat.floor_le (a:=-a);have:((a.floor+(-a).floor:Int):Rat)≤0:=by rw[Rat.intCast_add];grind
 have:=Vd.1 (show((a.floor+(-a).floor:Int):Rat)≤((0:Int):Rat)from this);omega
def anl(a:Rat):Option (Int×Int):=Tc (a*((65536:Int):Rat)).floor (qB (a*((65536:Int):Rat)))
def anM(a b:Int×Int):Option (Int×Int):=Tc (a.1+b.1) (a.2+b.2)
theorem anI{l h:Int}(o:Option (Int×Int))(e:o=Tc l h)(hlh:l≤h):-2305843009213693952≤(o.getD (0,0)).1∧(o.getD (0,0)).1≤(o.getD (0,0)).2∧(o.getD (0,0)).2≤2305843009213693952:=by
 subst e;unfold Tc;split
 ·exact⟨by simp;omega,by simp;omega,by simp;omega⟩
 ·exact⟨by simp,by simp,by simp⟩
theorem anK(a:Rat):-2305843009213693952≤((anl a).getD (0,0)).1∧((anl a).getD (0,0)).1≤((anl a).getD (0,0)).2∧((anl a).getD (0,0)).2≤2305843009213693952:=anI _ rfl (V6 _)
theorem ovE{l h:Int}{b:Bool}{o:Option (Int×Int)}(e1:l=(o.getD (0,0)).1)(e2:h=(o.getD (0,0)).2)(e3:b=o.isSome):
 packA [AV.agg [Cell.v (Value.int .i64 l),Cell.v (Value.int .i64 h)],AV.c (Cell.v (Value.bool b))]=Ov o:=by subst e1 e2 e3;rfl
theorem jM{o:Option (Int×Int)}(e:o=none):packA [AV.agg [Cell.v (Value.int .i64 0),Cell.v (Value.int .i64 0)],AV.c (Cell.v (Value.bool false))]=Ov o:=by subst e;rfl
theorem Wi(a:Rat):sz a.floor≤rz a:=by
 refine dh (oP ?_) (am4 a);rw[←JY,aI _ (by have:=den_pos a;omega)];exact Int.natAbs_ediv_le_natAbs _ _
theorem ahu{a:Rat}(h:¬(-9223372036854775808≤(a*((65536:Int):Rat)).floor∧(a*((65536:Int):Rat)).floor≤9223372036854775807)):anl a=none :=
 anq (by have:=V6 (a*((65536:Int):Rat));omega)
theorem afD{a:Rat}(h:¬(-9223372036854775808≤-(-(a*((65536:Int):Rat))).floor∧-(-(a*((65536:Int):Rat))).floor≤9223372036854775807)):anl a=none :=
 anq (by have:=V6 (a*((65536:Int):Rat));unfold qB at *;omega)
theorem szl(n:Int)(h1 : -9223372036854775808≤n)(h2:n≤9223372036854775807):sz n≤3:=iL h1 h2
theorem aiB:rz ((65536:Int):Rat)≤4:=by have:=am8 65536;have:=iL (n:=65536) (by omega) (by omega);omega
theorem aaX{l:Int}:List.foldl (λx y=>if y>x then y else x) l [0]=max l 0:=by
 show(if 0>l then 0 else l)=max l 0;split<;>omega
def rt(n:Int):Int:=if n*65536<0 then 0 else(vT (n*65536).natAbs:Nat)
theorem ahb(n:Int):(if n*65536<0 then 0 else((vT (n*65536).natAbs:Nat):Int))=rt n:=rfl
def dF(n:Int):Int:=if rt n*rt n=n*65536 then rt n else rt n+1
theorem ant{n:Int}(h:0≤n):0≤rt n∧rt n*rt n≤n*65536∧n*65536<(rt n+1)*(rt n+1):=by
 have⟨h1,h2⟩:=NS (n*65536).natAbs;have e:(((n*65536).natAbs:Nat):Int)=n*65536:=by omega
 unfold rt;rw[if_neg (by omega)];refine⟨by omega, ?_, ?_⟩
 ·have:=Int.ofNat_le.2 h1;rw[X3]at this;omega
 ·have:=Int.ofNat_lt.2 h2;rw[X3,Int.natCast_add]at this;simpa[e]using this
theorem Yi{n:Int}(h:0≤n)(h2:n≤2305843009213693952):0≤rt n∧rt n≤549755813888:=by
 have⟨h0,h1,_⟩:=ant h;refine⟨h0, ?_⟩;apply Decidable.byContradiction;intro hc;have:549755813889*549755813889≤rt n*rt n:=Int.mul_le_mul (by omega) (by omega) (by decide) h0;omega
theorem anO{n:Int}(h:0≤n):rt n≤dF n∧dF n≤rt n+1∧n*65536≤dF n*dF n:=by
 have⟨h0,h1,h2⟩:=ant h;unfold dF;split
 ·omega
 ·refine⟨by omega,by omega,by omega⟩
def ano(a:Int×Int):Option (Int×Int):=if a.2<0 then none else Tc (rt (max a.1 0)) (dF a.2)
theorem anL{l h:Int}(h0:0≤l)(h1:l≤h):rt l≤rt h:=by
 have⟨a0,a1,a2⟩:=ant h0;have⟨b0,b1,b2⟩:=ant (Int.le_trans h0 h1);apply Decidable.byContradiction;intro hc;have:(rt h+1)*(rt h+1)≤rt l*rt l:=Int.mul_le_mul (by omega) (by omega) (by omega) a0;omega
theorem agE{l h:Int}(h0:¬h<0)(e:rt h*rt h=h*65536):Ov (Tc (rt (max l 0)) (rt h))=Ov (ano (l,h)):=by
 unfold ano dF;rw[if_neg h0,if_pos e]
theorem ag4{l h:Int}(h0:¬h<0)(e:¬rt h*rt h=h*65536):Ov (Tc (rt (max l 0)) (rt h+1))=Ov (ano (l,h)):=by
 unfold ano dF;rw[if_neg h0,if_neg e]
end Go.Sw
namespace Go.Sw
open Go
set_option linter.unusedSimpArgs false
theorem Ro:IntKind.i64.wrap (0+1)=1:=by decide
theorem MQ:IntKind.i64.wrap (1+1)=2:=by decide
theorem RD{b:Bool}{k:Bool→Prop}(e:b=true)(h:k true):OnB b k:=⟨λ_=>h,λh'=>by rw[e]at h';cases h'⟩
theorem CQ{b:Bool}{k:Bool→Prop}(e:b=false)(h:k false):OnB b k:=⟨λh'=>(by rw[e]at h';cases h'),λ_=>h⟩
def Hu(x y:Int):Int:=(x*y)/65536
def wC(x y:Int):Int:=-((-(x*y))/65536)
theorem KY(x y:Int):Hu x y≤wC x y:=by unfold Hu wC;omega
theorem PV(x y:Int):Oe x y=(Hu x y,wC x y):=by
 have e:x*y=if(decide (x<0) != decide (y<0))=true then -((Ud x y:Nat):Int)else((Ud x y:Nat):Int):=by
  unfold Ud;rw[X3]
  by_cases h1:x<0<;>by_cases h2:y<0<;>simp only[h1,h2]
  ·have e1:(x.natAbs:Int) = -x:=by omega
   have e2:(y.natAbs:Int) = -y:=by omega
   rw[e1,e2];simp[Int.neg_mul,Int.mul_neg,Int.neg_neg]
  ·have e1:(x.natAbs:Int) = -x:=by omega
   have e2:(y.natAbs:Int)=y:=by omega
   rw[e1,e2];simp[Int.neg_mul,Int.mul_neg,Int.neg_neg]
  ·have e1:(x.natAbs:Int)=x:=by omega
   have e2:(y.natAbs:Int) = -y:=by omega
   rw[e1,e2];simp[Int.neg_mul,Int.mul_neg,Int.neg_neg]
  ·have e1:(x.natAbs:Int)=x:=by omega
   have e2:(y.natAbs:Int)=y:=by omega
   rw[e1,e2];simp[Int.neg_mul,Int.mul_neg,Int.neg_neg]
 unfold Oe Hu wC;generalize Ud x y=p at *;generalize(decide (x<0) != decide (y<0))=s at *;rw[e];cases s<;>by_cases hm:p%65536=0<;>simp only[hm,if_true,if_false]<;>(refine Prod.ext ?_ ?_<;>simp<;>omega)
theorem H7{x y:Int}(h:(wE x y).2.2=true):(wE x y).1=Hu x y∧(wE x y).2.1=wC x y∧-2305843009213693952≤Hu x y∧wC x y≤2305843009213693952:=by
 unfold wE at *;rw[PV]at *;split at h
 ·exact absurd h (by simp)
 ·rename_i g;rw[if_neg g];exact⟨rfl,rfl,of_decide_eq_true h⟩
theorem adf{x y:Int}(h:¬(wE x y).2.2=true):¬(-2305843009213693952≤Hu x y∧wC x y≤2305843009213693952):=by
 have q:=PV x y;unfold wE at h;rw[q]at h;split at h
 ·rename_i g;unfold Oe at q;generalize Ud x y=p at *;intro⟨h1,h2⟩;generalize(decide (x<0) != decide (y<0))=s at *;have q1:=congrArg Prod.fst q;have q2:=congrArg Prod.snd q;cases s<;>by_cases hm:p%65536=0<;>simp only[hm,if_true,if_false]at q1 q2<;>simp at q1 q2<;>omega
 ·intro⟨h1,h2⟩;exact h (decide_eq_true ⟨h1,h2⟩)
def sU(a b:Int×Int):Option (Int×Int) :=
 Tc (min (min (Hu a.1 b.1) (Hu a.1 b.2)) (min (Hu a.2 b.1) (Hu a.2 b.2))) (max (max (wC a.1 b.1) (wC a.1 b.2)) (max (wC a.2 b.1) (wC a.2 b.2)))
theorem nb{b:Bool}(h:(!b)=true):¬b=true:=by cases b<;>simp_all
theorem nb'{b:Bool}(h:(!b)=false):b=true:=by cases b<;>simp_all
theorem Y9(u v:Int):List.foldl (λx y=>if y<x then y else x) u [v]=min u v:=by
 show(if v<u then v else u)=min u v;split<;>omega
theorem Wq(u v:Int):List.foldl (λx y=>if y>x then y else x) u [v]=max u v:=by
 show(if v>u then v else u)=max u v;split<;>omega
theorem yJ{a b c d x y:Int}(hx:x=a∨x=b)(hy:y=c∨y=d)(h:(!(wE x y).2.2)=true):sU (a,b) (c,d)=none:=by
 have:=adf (nb h);apply anq;rcases hx with rfl|rfl<;>rcases hy with rfl|rfl<;>simp only<;>omega
theorem WB{a b c d:Int}(h1:(!(wE a c).2.2)=false)(h2:(!(wE a d).2.2)=false)(h3:(!(wE b c).2.2)=false)(h4:(!(wE b d).2.2)=false):
 packA [AV.agg [Cell.v (Value.int .i64 (min (min (min (min 2305843009213693952 (wE a c).1) (wE a d).1) (wE b c).1) (wE b d).1)),Cell.v (Value.int .i64 (max (max (max (max (-2305843009213693952) (wE a c).2.1) (wE a d).2.1) (wE b c).2.1) (wE b d).2.1))],AV.c (Cell.v (Value.bool true))]=Ov (sU (a,b) (c,d)):=by
 obtain⟨e1,e2,e3,e4⟩:=H7 (nb' h1);obtain⟨f1,f2,f3,f4⟩:=H7 (nb' h2);obtain⟨g1,g2,g3,g4⟩:=H7 (nb' h3);obtain⟨k1,k2,k3,k4⟩:=H7 (nb' h4);have d1:=KY a c;have d2:=KY a d;have d3:=KY b c;have d4:=KY b d;rw[e1,e2,f1,f2,g1,g2,k1,k2];unfold sU;rw[anG (by simp only;omega) (by simp only;omega)];refine ovE ?_ ?_ rfl<;>simp only[Ad]<;>omega
@[reducible] def Q3(a b c:Rat):AV:=.agg [zs a.num,zl a.num,zs a.den,zl a.den,zs b.num,zl b.num,zs b.den,zl b.den,zs c.num,zl c.num,zs c.den,zl c.den]
def oM(a b c:Rat):Option (Int×Int) :=
 match anl a with
 |none=>none
 |some x=>if b=0 then some x else
  match anl b,anl c with
  |some y,some z=>if c<0 then none else
   match ano z with
   |none=>none
   |some s=>match sU y s with
    |none=>none
    |some p=>anM x p
  |_,_=>none
def hw(a b c d:Int):Nat→Int
 |0=>0|1=>wC a c|2=>max (wC a c) (wC a d)|3=>max (max (wC a c) (wC a d)) (wC b c)|_=>max (max (max (wC a c) (wC a d)) (wC b c)) (wC b d)
def kI:Nat→Int|0=>0|1=>1|_=>2
theorem hw1(a b c d:Int):hw a b c d 1=wC a c:=rfl
theorem hw2(a b c d:Int):hw a b c d 2=max (wC a c) (wC a d):=rfl
theorem k1:some (AV.int .i64 (IntKind.i64.wrap (0+1)))=some (AV.int .i64 (kI 1)):=by rw[Ro];rfl
theorem k2:some (AV.int .i64 (IntKind.i64.wrap (1+1)))=some (AV.int .i64 (kI 2)):=by rw[MQ];rfl
@[reducible] def Q5(a b c d e:Rat):AV:=.agg [zs a.num,zl a.num,zs a.den,zl a.den,zs b.num,zl b.num,zs b.den,zl b.den,zs c.num,zl c.num,zs c.den,zl c.den,zs d.num,zl d.num,zs d.den,zl d.den,zs e.num,zl e.num,zs e.den,zl e.den]
def IU(x:Int×Int):Prop:=-2305843009213693952≤x.1∧x.1≤x.2∧x.2≤2305843009213693952
theorem jW(a:Rat):IU ((anl a).getD (0,0)):=anK a
theorem BN(x y:Int×Int):IU ((sU x y).getD (0,0)):=anI _ rfl (by have:=KY x.1 y.1;omega)
theorem Xw{x:Int×Int}(h:IU x):IU ((ano x).getD (0,0)):=by
 unfold ano;split
 ·exact⟨by decide,by decide,by decide⟩
 ·rename_i g;refine anI _ rfl ?_;have:=anL (l:=max x.1 0) (h:=x.2) (by omega) (by unfold IU at h;omega);have:=(anO (n:=x.2) (by omega)).1;omega
theorem I4{x y:Int×Int}(h1:IU x)(h2:IU y):IU ((anM x y).getD (0,0)):=anI _ rfl (by unfold IU at *;omega)
theorem JR(a b c:Rat):IU ((oM a b c).getD (0,0)):=by
 have h0:IU (0,0):=⟨by decide,by decide,by decide⟩
 unfold oM;have ha:=jW a;have hb:=jW b;have hc:=jW c;split
 ·exact h0
 ·rename_i x hx;rw[hx]at ha;split
  ·exact ha
  ·split
   ·rename_i y z hy hz;split
    ·exact h0
    ·split
     ·exact h0
     ·split
      ·exact h0
      ·rename_i s hs _ p hp;refine I4 ha ?_;have:=BN y s;rw[hp]at this;exact this
   ·exact h0
theorem agw{o:Option (Int×Int)}(e:(none:Option (Int×Int))=o):packA [AV.agg [Cell.v (Value.int .i64 0),Cell.v (Value.int .i64 0)],AV.c (Cell.v (Value.bool false))]=Ov o:=by subst e;rfl
end Go.Sw
namespace Go.Sw
open Go
theorem oJ(a:Rat):-1≤anf a∧anf a≤1:=by unfold anf;split<;>(try split)<;>omega
theorem tq(a b:Rat):-1≤ang a b∧ang a b≤1:=by unfold ang;split<;>(try split)<;>omega
theorem oV{x y:Int}(h1 : -1≤x∧x≤1)(h2 : -1≤y∧y≤1):-1≤x*y∧x*y≤1:=by
 have a:x = -1∨x=0∨x=1:=by omega
 rcases a with rfl|rfl|rfl<;>omega
theorem ajv(a b:Rat):IntKind.i64.wrap (anf a*anf b)=anf a*anf b:=by
 have:=oV (oJ a) (oJ b);exact bW (by omega) (by omega)
theorem aki(a b c:Rat):IntKind.i64.wrap (anf a*ang b c)=anf a*ang b c:=by
 have:=oV (oJ a) (tq b c);exact bW (by omega) (by omega)
def xk(a b c:Rat):Int :=
 if anf a=anf b*anf c∨anf b*anf c=0 then anf a
 else if anf a=0 then anf b*anf c
 else anf a*ang (a*a) (b*b*c)
theorem aiN{a b c:Rat}(g1:¬anf a=anf b*anf c)(g2:¬anf b*anf c=0)(g3:¬anf a=0):xk a b c=anf a*ang (a*a) (b*b*c):=by
 unfold xk;rw[if_neg (λh=>h.elim g1 g2),if_neg g3]
theorem NV(n:Int)(h1 : -9223372036854775808≤n)(h2:n≤9223372036854775807):rz (n:Rat)≤4:=by
 have:=am8 n;have:=iL h1 h2;omega
theorem ai0(n d:Int)(h0:d≠0)(h1 : -9223372036854775808≤n∧n≤9223372036854775807)(h2 : -9223372036854775808≤d∧d≤9223372036854775807):rz ((n:Rat)/(d:Rat))≤6:=by
 have:=anp (n:=n) h0;have:=iL h1.1 h1.2;have:=iL h2.1 h2.2;omega
theorem OE{a b x k L:Rat}(h1:a≤x)(h2:x≤b)(p:L≤a*k)(q:L≤b*k):L≤x*k:=by
 rcases OD (a:=0) (b:=k)with hk|hk
 ·have:=Rat.mul_le_mul_of_nonneg_right h1 hk;grind
 ·have:=Rat.mul_le_mul_of_nonneg_right h2 (show 0≤-k by grind);grind
theorem VK{a b c d x y L:Rat}(h1:a≤x)(h2:x≤b)(h3:c≤y)(h4:y≤d)(p1:L≤a*c)(p2:L≤a*d)(p3:L≤b*c)(p4:L≤b*d):L≤x*y:=by
 apply OE h1 h2
 ·rw[Rat.mul_comm];exact OE h3 h4 (by rw[Rat.mul_comm];exact p1) (by rw[Rat.mul_comm];exact p2)
 ·rw[Rat.mul_comm];exact OE h3 h4 (by rw[Rat.mul_comm];exact p3) (by rw[Rat.mul_comm];exact p4)
theorem adH{a b c d x y L:Rat}(h1:a≤x)(h2:x≤b)(h3:c≤y)(h4:y≤d)(p1:a*c≤L)(p2:a*d≤L)(p3:b*c≤L)(p4:b*d≤L):x*y≤L:=by
 have:=VK (L:=-L) (a:=-b) (b:=-a) (x:=-x) (y:=y) (c:=c) (d:=d) (by grind) (by grind) h3 h4 (by grind) (by grind) (by grind) (by grind)
 grind
theorem aeF(x y:Int):((Hu x y:Int):Rat)*65536≤(x:Rat)*(y:Rat):=by
 have h:((Hu x y*65536:Int):Rat)≤((x*y:Int):Rat):=Vd.2 (by unfold Hu;omega);rw[Jy,Jy]at h;exact h
theorem aeL(x y:Int):(x:Rat)*(y:Rat)≤((wC x y:Int):Rat)*65536:=by
 have h:((x*y:Int):Rat)≤((wC x y*65536:Int):Rat):=Vd.2 (by unfold wC;omega);rw[Jy,Jy]at h;exact h
def con(p:Int×Int)(q:Rat):Prop:=(p.1:Rat)≤q*65536∧q*65536≤(p.2:Rat)
theorem xB{l h:Int}{p:Int×Int}(e:Tc l h=some p):p=(l,h):=by
 unfold Tc at e;split at e
 ·injection e with e;exact e.symm
 ·cases e
theorem qZ{x y p:Int×Int}{u v:Rat}(e:anM x y=some p)(hu:con x u)(hv:con y v):con p (u+v):=by
 have:=xB e;subst this;unfold con at *;simp only[Rat.intCast_add];obtain⟨h1,h2⟩:=hu;obtain⟨h3,h4⟩:=hv;constructor<;>grind
theorem BF{x y p:Int×Int}{u v:Rat}(e:sU x y=some p)(hu:con x u)(hv:con y v):con p (u*v):=by
 have:=xB e;subst this;unfold con at *;obtain⟨h1,h2⟩:=hu;obtain⟨h3,h4⟩:=hv;simp only;generalize hl:min (min (Hu x.1 y.1) (Hu x.1 y.2)) (min (Hu x.2 y.1) (Hu x.2 y.2))=l;generalize hh:max (max (wC x.1 y.1) (wC x.1 y.2)) (max (wC x.2 y.1) (wC x.2 y.2))=h
 have lo:∀a c:Int,l≤Hu a c→(l:Rat)*65536≤(a:Rat)*(c:Rat):=λa c hd=>by
  have k1:=aeF a c;have k2:=Vd.2 hd
  grind
 have hi:∀a c:Int,wC a c≤h→(a:Rat)*(c:Rat)≤(h:Rat)*65536:=λa c hd=>by
  have k1:=aeL a c;have k2:=Vd.2 hd
  grind
 have b1:=VK h1 h2 h3 h4 (lo _ _ (by omega)) (lo _ _ (by omega)) (lo _ _ (by omega)) (lo _ _ (by omega));have b2:=adH h1 h2 h3 h4 (hi _ _ (by omega)) (hi _ _ (by omega)) (hi _ _ (by omega)) (hi _ _ (by omega));constructor<;>grind
theorem c65:((65536:Int):Rat)=65536:=by decide +kernel
theorem c1:((1:Int):Rat)=1:=by decide +kernel
theorem VJ{x p:Int×Int}{q:Rat}(e:ano x=some p)(hx:con x q)(h0:0≤q):
 (p.1:Rat)*(p.1:Rat)≤q*(65536*65536)∧q*(65536*65536)≤(p.2:Rat)*(p.2:Rat)∧0≤p.1∧p.1≤p.2:=by
 unfold ano at e;split at e
 ·cases e
 ·rename_i g;have:=xB e;subst this;unfold con at hx;obtain⟨h1,h2⟩:=hx
  have hle:max x.1 0≤x.2:=by
   have:((x.1:Int):Rat)≤(x.2:Rat):=Rat.le_trans h1 h2;have:=Vd.1 this;omega
  have r1:=ant (n:=max x.1 0) (by omega);have r2:=anO (n:=x.2) (by omega);have r3:=anL (l:=max x.1 0) (h:=x.2) (by omega) hle
  have hm:((max x.1 0:Int):Rat)≤q*65536:=by
   rcases Int.le_total x.1 0 with h|h
   ·rw[show max x.1 0=0 by omega];have:((0:Int):Rat)=0:=rfl;rw[this];grind
   ·rw[show max x.1 0=x.1 by omega];exact h1
  have k1:=Vd.2 r1.2.1;have k2:=Vd.2 r2.2.2;rw[Jy,Jy,c65]at k1 k2;refine⟨by simp only;grind,by simp only;grind,r1.1,by simp only;omega⟩
def sub(x y:Int×Int):Prop:=x.1≤y.1∧y.1≤y.2∧y.2≤x.2
theorem Rx{x:Int×Int}{n:Int}(h1:x.1≤n)(h2:n≤x.2):con x ((n:Rat)*(1/65536)):=by
 have k1:=Vd.2 h1;have k2:=Vd.2 h2;unfold con;constructor<;>grind
theorem mM{a:Rat}{x:Int×Int}(e:anl a=some x):con x a:=by
 have:=xB e;subst this;unfold con qB;rw[c65];simp only;refine⟨Rat.floor_le _, ?_⟩;have:=Rat.floor_le (-(a*65536));rw[Rat.intCast_neg]
 grind
theorem QG{x:Int×Int}{q:Rat}(h:con x q):con (-x.2,-x.1) (-q):=by
 unfold con at *;simp only[Rat.intCast_neg];constructor<;>grind
theorem abd{p:Int×Int}{q:Rat}{n:Int}(h:anH p.1 p.2=(n,true))(hq:con p q):anf q=n:=by
 obtain⟨h1,h2⟩:=hq;unfold anH at h;have z:((0:Int):Rat)=0:=rfl;split at h
 ·rename_i g;injection h with h3 h4
  subst h3;have:=Rat.intCast_lt_intCast.2 g;rw[z]at this;exact anD.2 (by grind)
 ·split at h
  ·rename_i g;injection h with h3 h4
   subst h3;have:=Rat.intCast_lt_intCast.2 g;rw[z]at this;have hq:q<0:=by grind
   unfold anf;rw[if_pos hq]
  ·injection h with h3 h4
   subst h3;have g:=of_decide_eq_true h4;rw[g.1,z]at h1;rw[g.2,z]at h2;exact anx.2 (by grind)
theorem gU(q:Rat):(q<0∧anf q = -1)∨(q=0∧anf q=0)∨(0<q∧anf q=1):=by
 unfold anf
 by_cases h1:q<0
 ·rw[if_pos h1];exact .inl ⟨h1,rfl⟩
 ·rw[if_neg h1]
  by_cases h2:q=0
  ·rw[if_pos h2];exact .inr (.inl ⟨h2,rfl⟩)
  ·rw[if_neg h2];exact .inr (.inr ⟨by grind,rfl⟩)
theorem Lp{x y:Rat}(h0:0≤x)(h:x<y):x*x<y*y:=by
 have a1:=Rat.mul_le_mul_of_nonneg_left (Rat.le_of_lt h) h0;have a2:=Rat.mul_lt_mul_of_pos_right h (show 0<y by grind)
 grind
theorem zQ(x:Rat):0≤x*x:=by
 rcases OD (a:=0) (b:=x)with h|h
 ·exact xG h h
 ·have:=xG (show 0≤-x by grind) (show 0≤-x by grind);grind
theorem Oa{a b:Rat}(h:b<a):ang a b=1:=by unfold ang;rw[if_neg (by grind),if_pos h]
theorem OM{a b:Rat}(h:a<b):ang a b = -1:=by unfold ang;rw[if_pos h]
theorem Yt{a b:Rat}(h:a=b):ang a b=0:=anB.2 h
theorem Sl{A B C s1 s2:Rat}{n:Int}(p1:0≤s1)(p2:s1≤s2)(q1:s1*s1≤C)(q2:C≤s2*s2)(h1:anf (A+B*s1)=n)(h2:anf (A+B*s2)=n):xk A B C=n:=by
 have hC:0≤C:=Rat.le_trans (zQ s1) q1;have bb:=zQ B;have m1:B*B*(s1*s1)≤B*B*C:=Rat.mul_le_mul_of_nonneg_left q1 bb;have m2:B*B*C≤B*B*(s2*s2):=Rat.mul_le_mul_of_nonneg_left q2 bb;have p3:0≤s2:=Rat.le_trans p1 p2;unfold xk;rcases gU C with⟨c1,c2⟩|⟨c1,c2⟩|⟨c1,c2⟩
 ·grind
 ·rw[c2,Int.mul_zero,if_pos (.inr rfl)]
  have:s1=0:=by
   rcases gU s1 with⟨k,_⟩|⟨k,_⟩|⟨k,_⟩
   ·grind
   ·exact k
   ·have:=yO k k;grind
  subst this;rw[←h1];congr 1;grind
 ·have p4:0<s2:=by
   rcases gU s2 with⟨k,_⟩|⟨k,_⟩|⟨k,_⟩
   ·grind
   ·subst k;grind
   ·exact k
  rw[c2,Int.mul_one];rcases gU B with⟨b1,b2⟩|⟨b1,b2⟩|⟨b1,b2⟩<;>rcases gU A with⟨a1,a2⟩|⟨a1,a2⟩|⟨a1,a2⟩<;>rw[a2,b2]
  ·have k:=xG (show 0≤-B by grind) p1;have:A+B*s1<0:=by grind
   rw[←h1];unfold anf;rw[if_pos this];rfl
  ·have k:=yO (show 0 < -B by grind) p4;have:A+B*s2<0:=by grind
   rw[←h2];unfold anf;rw[if_pos this];rfl
  ·have k1:=xG (show 0≤-B by grind) p1;have k2:=xG (show 0≤-B by grind) p3;rcases gU (A+B*s1)with⟨u1,u2⟩|⟨u1,u2⟩|⟨u1,u2⟩
   ·rw[h1]at u2;subst u2;have:=Lp (x:=A) (y:=-B*s1) (by grind) (by grind);rw[OM (by grind)];rfl
   ·rw[h1]at u2;subst u2;have v:=anx.1 h2
    have e:A*A=B*B*(s1*s1):=by have:A = -B*s1:=by grind
                               subst this;grind
    have e2:A*A=B*B*(s2*s2):=by have:A = -B*s2:=by grind
                                subst this;grind
    rw[Yt (by grind)];rfl
   ·rw[h1]at u2;subst u2;have v:=anD.1 h2;have:=Lp (x:=-B*s2) (y:=A) (by grind) (by grind);rw[Oa (by grind)];rfl
  ·subst b1;rw[←h1];have:A+0*s1=A:=by grind
   rw[this,a2];rfl
  ·subst b1;rw[←h1];have:A+0*s1=A:=by grind
   rw[this,a2];rfl
  ·subst b1;rw[←h1];have:A+0*s1=A:=by grind
   rw[this,a2];rfl
  ·have k1:=xG (show 0≤B by grind) p1;have k2:=xG (show 0≤B by grind) p3;rcases gU (A+B*s1)with⟨u1,u2⟩|⟨u1,u2⟩|⟨u1,u2⟩
   ·rw[h1]at u2;subst u2
    have v:A+B*s2<0:=by
     rcases gU (A+B*s2)with⟨t1,t2⟩|⟨t1,t2⟩|⟨t1,t2⟩
     ·exact t1
     ·rw[h2]at t2;cases t2
     ·rw[h2]at t2;cases t2
    have:=Lp (x:=B*s2) (y:=-A) (by grind) (by grind);rw[Oa (by grind)];rfl
   ·rw[h1]at u2;subst u2;have v:=anx.1 h2
    have e:A*A=B*B*(s1*s1):=by have:A = -B*s1:=by grind
                               subst this;grind
    have e2:A*A=B*B*(s2*s2):=by have:A = -B*s2:=by grind
                                subst this;grind
    rw[Yt (by grind)];rfl
   ·rw[h1]at u2;subst u2;have:=Lp (x:=-A) (y:=B*s1) (by grind) (by grind);rw[OM (by grind)];rfl
  ·have k:=yO (show 0<B by grind) p4;rw[←h2,anD.2 (by grind)];rfl
  ·have k:=xG (show 0≤B by grind) p1;rw[←h1,anD.2 (by grind)];rfl
theorem Xj{a b c:Rat}{p:Int×Int}(e:oM a b c=some p):
 (b=0∧con p a)∨(0≤c∧∃s1 s2:Rat,0≤s1∧s1≤s2∧s1*s1≤c∧c≤s2*s2∧(∃w z,anl c=some z∧ano z=some w∧s1=(w.1:Rat)*(1/65536)∧s2=(w.2:Rat)*(1/65536))∧con p (a+b*s1)∧con p (a+b*s2)):=by
 unfold oM at e;cases ha:anl a with
 |none=>rw[ha]at e;cases e
 |some x =>
  rw[ha]at e;simp only at e
  by_cases hb:b=0
  ·rw[if_pos hb]at e;injection e with e
   subst e;exact .inl ⟨hb,mM ha⟩
  ·rw[if_neg hb]at e;right;cases hy:anl b with
   |none=>rw[hy]at e;cases e
   |some y =>
    cases hz:anl c with
    |none=>rw[hy,hz]at e;cases e
    |some z =>
     rw[hy,hz]at e;simp only at e;split at e
     ·cases e
     ·rename_i hc;have h0:0≤c:=by grind
      cases hw:ano z with
      |none=>rw[hw]at e;cases e
      |some w =>
       rw[hw]at e;simp only at e;cases hp:sU y w with
       |none=>rw[hp]at e;cases e
       |some m =>
        rw[hp]at e;simp only at e;obtain⟨k1,k2,k3,k4⟩:=VJ hw (mM hz) h0;have j1:=Vd.2 k3;have j2:=Vd.2 k4;have z0:((0:Int):Rat)=0:=rfl;rw[z0]at j1;refine⟨h0,(w.1:Rat)*(1/65536),(w.2:Rat)*(1/65536),by grind,by grind,by grind,by grind,⟨w,z,rfl,hw,rfl,rfl⟩, ?_, ?_⟩
        ·exact qZ e (mM ha) (BF hp (mM hy) (Rx (by omega) (by omega)))
        ·exact qZ e (mM ha) (BF hp (mM hy) (Rx (by omega) (by omega)))
theorem Vr{a c:Rat}:xk a 0 c=anf a:=by
 unfold xk;have:anf 0=0:=anx.2 rfl;rw[this,Int.zero_mul,if_pos (.inr rfl)]
class RzB (q:Rat) (n:outParam Nat):Prop where
 h:rz q≤n
theorem jh{q:Rat}{n N:Nat}[k:RzB q n](h:n≤N):rz q≤N:=dh k.h h
instance{a b:Rat}{m n:Nat}[h:RzB a m][k:RzB b n]:RzB (a+b) (2*(m+n)+1):=⟨by have:=am9 a b;have:=h.h;have:=k.h;omega⟩
instance{a b:Rat}{m n:Nat}[h:RzB a m][k:RzB b n]:RzB (a-b) (2*(m+n)+1):=⟨by have:=ane a b;have:=h.h;have:=k.h;omega⟩
instance{a b:Rat}{m n:Nat}[h:RzB a m][k:RzB b n]:RzB (a*b) (m+n):=⟨by have:=am7 a b;have:=h.h;have:=k.h;omega⟩
instance{a:Rat}{m:Nat}[h:RzB a m]:RzB (-a) m:=⟨by rw [am6];exact h.h⟩
theorem ab7{A B C t m:Rat}{n:Int}(h0:0≤t)(h1:t*t≤C)(h2:0≤m)(h3:C≤m*m)(k1:anf (A+B*t)=n)(k2:anf (A+B*m)=n):xk A B C=n:=by
 have htm:t≤m:=by
  rcases OD (a:=t) (b:=m)with h|h
  ·exact h
  ·rcases OD (a:=m) (b:=t)with h'|h'
   ·by_cases e:m=t
    ·grind
    ·have:=Lp h2 (show m<t by grind)
     grind
   ·exact h'
 exact Sl h0 htm h1 h3 k1 k2
theorem aaz{x y l:Rat}{n:Int}(h0:0≤l)(h1:l≤1)(hx:anf x=n)(hy:anf y=n):anf (x+l*(y-x))=n:=by
 have e:x+l*(y-x)=(1-l)*x+l*y:=by grind
 rw[e];rcases gU x with⟨a1,a2⟩|⟨a1,a2⟩|⟨a1,a2⟩<;>rcases gU y with⟨b1,b2⟩|⟨b1,b2⟩|⟨b1,b2⟩<;>rw[a2]at hx<;>rw[b2]at hy<;>subst hx<;>(try(exfalso;omega))
 ·have p1:=xG (show 0≤1-l by grind) (show 0≤-x by grind);have p2:=xG h0 (show 0≤-y by grind)
  have:(1-l)*x+l*y<0:=by
   by_cases hl:l=0
   ·subst hl;grind
   ·have:=yO (show 0<l by grind) (show 0 < -y by grind)
    grind
  unfold anf;rw[if_pos this]
 ·subst a1 b1;rw[Rat.mul_zero,Rat.mul_zero];exact anx.2 (by grind)
 ·have p1:=xG (show 0≤1-l by grind) (show 0≤x by grind);have p2:=xG h0 (show 0≤y by grind)
  have:0<(1-l)*x+l*y:=by
   by_cases hl:l=0
   ·subst hl;grind
   ·have:=yO (show 0<l by grind) b1
    grind
  exact anD.2 this
theorem qY{x y k:Rat}(hk:0<k)(h:x*k≤y*k):x≤y:=by
 rcases OD (a:=x) (b:=y)with h'|h'
 ·exact h'
 ·by_cases e:x=y
  ·grind
  ·have:=yO (show 0<x-y by grind) hk;grind
theorem aa6{x y k:Rat}(hk:0<k)(h:x*k=y*k):x=y:=by
 have h1:=qY hk (show x*k≤y*k by grind);have h2:=qY hk (show y*k≤x*k by grind)
 grind
theorem DJ{x y z s t u:Rat}{n:Int}(h1:s≤u)(h2:u≤t)(hz:z*(t-s)=x*(t-u)+y*(u-s))(hx:anf x=n)(hy:anf y=n)(h3:s<t):anf z=n:=by
 obtain⟨l,hl⟩:∃l,l*(t-s)=u-s:=⟨(u-s)/(t-s),(by have hne:t-s≠0:=(by grind);grind)⟩
 have hk:0<t-s:=by grind
 have e:z=x+l*(y-x):=aa6 hk (by grind);rw[e];refine aaz (qY hk (by grind)) (qY hk (by grind)) hx hy
theorem WM{P X W C s t:Rat}{n:Int}(h0:0≤s)(h1:s≤t)(h2:s*s≤C)(h3:C≤t*t)(hW:0≤W)
 (k1:anf (P+2*X*s+W*(s*s))=n) (k2:anf (P+X*(s+t)+W*(s*t))=n) (k3:anf (P+2*X*t+W*(t*t))=n):xk (P+W*C) (2*X) C=n:=by
 by_cases hst:s=t
 ·subst hst;have hC:C=s*s:=by grind
  subst hC;refine Sl h0 (Rat.le_refl) (Rat.le_refl) (Rat.le_refl) ?_ ?_<;>rw[←k1]<;>congr 1<;>grind
 ·have hlt:s<t:=by grind
  have ht:0<t:=by grind
  have hsum:0<s+t:=by grind
  have hs0:s+t≠0:=by grind
  obtain⟨t0,e0⟩:∃t0,t0*(s+t)=C+s*t:=⟨(C+s*t)/(s+t),by grind⟩
  have q1:=xG (show 0≤t-s by grind) h0
  have l1:s≤t0:=by
   rcases OD (a:=s) (b:=t0)with h|h
   ·exact h
   ·by_cases e:s=t0
    ·grind
    ·have:=yO (show 0<s-t0 by grind) hsum;grind
  have l2:t0≤t:=by
   rcases OD (a:=t0) (b:=t)with h|h
   ·exact h
   ·by_cases e:t=t0
    ·grind
    ·have:=yO (show 0<t0-t by grind) hsum;grind
  have l3:t0*t0≤C:=by
   have:=xG (show 0≤t0-s by grind) (show 0≤t-t0 by grind)
   grind
  have m0:anf (P+W*C+2*X*t0)=n:=DJ l1 l2 (by grind) k1 k3 hlt
  have up:∃m,0≤m∧C≤m*m∧anf (P+W*C+2*X*m)=n:=by
   rcases OD (a:=s*t) (b:=C)with h|h
   ·
    have ht0:t≠0:=by grind
    obtain⟨u,eu⟩:∃u,u*t=C:=⟨C/t,by grind⟩
    have u1:s≤u:=by
     rcases OD (a:=s) (b:=u)with h|h
     ·exact h
     ·by_cases e:s=u
      ·grind
      ·have:=yO (show 0<s-u by grind) ht;grind
    have u2:u≤t:=by
     rcases OD (a:=u) (b:=t)with h|h
     ·exact h
     ·by_cases e:t=u
      ·grind
      ·have:=yO (show 0<u-t by grind) ht;grind
    refine⟨(u+t)*(1/2),by grind, ?_, ?_⟩
    ·have:=zQ (t-u);grind
    ·have:=DJ (z:=P+X*(u+t)+W*(u*t)) u1 u2 (by grind) k2 k3 hlt;rw[←this];congr 1;grind
   ·
    by_cases hs:s=0
    ·subst hs;have hC:C=0:=by grind
     subst hC;refine⟨0,Rat.le_refl,by grind, ?_⟩;rw[←k1];congr 1;grind
    ·have hs1:0<s:=by grind
     obtain⟨u,eu⟩:∃u,s*u=C:=⟨C/s,by grind⟩
     have u1:s≤u:=by
      rcases OD (a:=s) (b:=u)with h|h
      ·exact h
      ·by_cases e:s=u
       ·grind
       ·have:=yO (show 0<s-u by grind) hs1;grind
     have u2:u≤t:=by
      rcases OD (a:=u) (b:=t)with h|h
      ·exact h
      ·by_cases e:t=u
       ·grind
       ·have:=yO (show 0<u-t by grind) hs1;grind
     refine⟨(s+u)*(1/2),by grind, ?_, ?_⟩
     ·have:=zQ (u-s);grind
     ·have:=DJ (z:=P+X*(s+u)+W*(s*u)) u1 u2 (by grind) k1 k2 hlt;rw[←this];congr 1;grind
  obtain⟨m,m1,m2,m3⟩:=up;exact ab7 (Rat.le_trans h0 l1) l3 m1 m2 m0 m3
def gZ(a b c f:Rat):Option (Int×Int) :=
 match oM a b c,anl f with
 |some x,some y=>anM x (-y.2,-y.1)
 |_,_=>none
def lF(ax bx ay bb c X Y Q:Rat):Int×Bool :=
 match gZ ax bx c X,gZ ay bb c Y,anl Q with
 |some x,some y,some q=>(match sU x x,sU y y with
  |some s,some t=>(match anM s t with
   |some u=>(match anM u (-q.2,-q.1)with
    |some r=>anH r.1 r.2
    |none=>(0,false))
   |none=>(0,false))
  |_,_=>(0,false))
 |_,_,_=>(0,false)
def G9(c s1 s2:Rat):Prop:=0≤c∧0≤s1∧s1≤s2∧s1*s1≤c∧c≤s2*s2∧∃w z,anl c=some z∧ano z=some w∧s1=(w.1:Rat)*(1/65536)∧s2=(w.2:Rat)*(1/65536)
theorem Ui{c s1 s2 t1 t2:Rat}(h:G9 c s1 s2)(k:G9 c t1 t2):s1=t1∧s2=t2:=by
 obtain⟨_,_,_,_,_,w,z,e1,e2,e3,e4⟩:=h;obtain⟨_,_,_,_,_,w',z',e1',e2',e3',e4'⟩:=k;rw[e1]at e1';injection e1' with e1'
 subst e1';rw[e2]at e2';injection e2' with e2'
 subst e2';exact⟨e3.trans e3'.symm,e4.trans e4'.symm⟩
theorem JW{a b c f:Rat}{p:Int×Int}(e:gZ a b c f=some p):(b=0∧con p (a-f))∨∃s1 s2,G9 c s1 s2∧con p (a-f+b*s1)∧con p (a-f+b*s2):=by
 unfold gZ at e;cases h1:oM a b c with
 |none=>rw[h1]at e;cases e
 |some x =>
  cases h2:anl f with
  |none=>rw[h1,h2]at e;cases e
  |some y =>
   rw[h1,h2]at e;simp only at e;have k0:=QG (mM h2);rcases Xj h1 with⟨hb,k⟩|⟨h0,s1,s2,p1,p2,q1,q2,⟨w,z,e1,e2,e3,e4⟩,k1,k2⟩
   ·refine .inl ⟨hb, ?_⟩;have:=qZ e k k0
    rwa [show a + -f=a-f by grind]at this
   ·refine .inr ⟨s1,s2,⟨h0,p1,p2,q1,q2,w,z,e1,e2,e3,e4⟩, ?_, ?_⟩
    ·have:=qZ e k1 k0
     rwa [show a+b*s1 + -f=a-f+b*s1 by grind]at this
    ·have:=qZ e k2 k0
     rwa [show a+b*s2 + -f=a-f+b*s2 by grind]at this
theorem UO{ax bx ay bb c X Y Q:Rat}{n:Int}(h:lF ax bx ay bb c X Y Q=(n,true)):
 xk ((ax-X)*(ax-X)+(ay-Y)*(ay-Y)+c*(bx*bx+bb*bb)-Q) ((ax-X)*bx+(ay-Y)*bb+((ax-X)*bx+(ay-Y)*bb)) c=n:=by
 unfold lF at h;cases h1:gZ ax bx c X with
 |none=>rw[h1]at h;simp at h
 |some x =>
  cases h2:gZ ay bb c Y with
  |none=>rw[h1,h2]at h;simp at h
  |some y =>
   cases h3:anl Q with
   |none=>rw[h1,h2,h3]at h;simp at h
   |some q =>
    rw[h1,h2,h3]at h;simp only at h;cases h4:sU x x with
    |none=>rw[h4]at h;simp at h
    |some s =>
     cases h5:sU y y with
     |none=>rw[h4,h5]at h;simp at h
     |some t =>
      rw[h4,h5]at h;simp only at h;cases h6:anM s t with
      |none=>rw[h6]at h;simp at h
      |some u =>
       rw[h6]at h;simp only at h;cases h7:anM u (-q.2,-q.1)with
       |none=>rw[h7]at h;simp at h
       |some r =>
        rw[h7]at h;simp only at h
        have key:∀u1 u2 v1 v2:Rat,con x u1→con x u2→con y v1→con y v2→anf (u1*u2+v1*v2-Q)=n:=λu1 u2 v1 v2 a b c d=>by
         have:=qZ h7 (qZ h6 (BF h4 a b) (BF h5 c d)) (QG (mM h3));rw[←abd h this];congr 1;grind
        have fin:∀s1 s2:Rat,G9 c s1 s2→con x (ax-X+bx*s1)→con x (ax-X+bx*s2)→con y (ay-Y+bb*s1)→con y (ay-Y+bb*s2) →
         xk ((ax-X)*(ax-X)+(ay-Y)*(ay-Y)+c*(bx*bx+bb*bb)-Q) ((ax-X)*bx+(ay-Y)*bb+((ax-X)*bx+(ay-Y)*bb)) c=n:=λs1 s2 ⟨_,p1,p2,q1,q2,_⟩ a1 a2 b1 b2=>by
         have w1:=zQ bx;have w2:=zQ bb
         have:=WM (P:=(ax-X)*(ax-X)+(ay-Y)*(ay-Y)-Q) (X:=(ax-X)*bx+(ay-Y)*bb) (W:=bx*bx+bb*bb) (C:=c) (n:=n) p1 p2 q1 q2 (by grind)
          (by rw[←key _ _ _ _ a1 a1 b1 b1];congr 1;grind) (by rw[←key _ _ _ _ a1 a2 b1 b2];congr 1;grind) (by rw[←key _ _ _ _ a2 a2 b2 b2];congr 1;grind)
         rw[←this];congr 1<;>grind
        rcases JW h1 with⟨b1,k1⟩|⟨s1,s2,hs,k1,k2⟩<;>rcases JW h2 with⟨b2,j1⟩|⟨t1,t2,ht,j1,j2⟩
        ·subst b1 b2;rw[show(ax-X)*0+(ay-Y)*0+((ax-X)*0+(ay-Y)*0)=(0:Rat) by grind,Vr,←key _ _ _ _ k1 k1 j1 j1];congr 1;grind
        ·subst b1;have e:∀s:Rat,ax-X+0*s=ax-X:=λs=>by grind
         exact fin t1 t2 ht (by rw[e];exact k1) (by rw[e];exact k1) j1 j2
        ·subst b2;have e:∀s:Rat,ay-Y+0*s=ay-Y:=λs=>by grind
         exact fin s1 s2 hs k1 k2 (by rw[e];exact j1) (by rw[e];exact j1)
        ·obtain⟨rfl,rfl⟩:=Ui hs ht;exact fin _ _ hs k1 k2 j1 j2
def af0(n:Int):Bool:=decide (0≤n)&&decide ((((vT n.natAbs:Nat):Int))*((vT n.natAbs:Nat):Int)=n)
def Xf(a:Rat):Bool:=af0 a.num&&af0 a.den
def sqR(a:Rat):Rat:=((((vT a.num.natAbs:Nat):Int)):Rat)/((((vT (a.den:Int).natAbs:Nat):Int)):Rat)
where
 num_den_div {a:Rat}:a=(a.num:Rat)/((a.den:Int):Rat):=by
  have h1:=anb a;have h2:=anc a;rw[h1];grind
end Go.Sw
namespace Go.Sw
open Go
@[reducible] def Q2(a b:Rat):AV:=.agg [zs a.num,zl a.num,zs a.den,zl a.den,zs b.num,zl b.num,zs b.den,zl b.den]
@[reducible] def IW:AV:=.agg [.v (.bool false),.sl 1 [],.v (.bool false),.sl 1 [],.v (.bool false),.sl 1 [],.v (.bool false),.sl 1 [],.v (.bool false),.sl 1 [],.v (.bool false),.sl 1 []]
def Eb(b c:Rat):Rat:=if b=0∨c=0 then 0 else b
def Ea(b c:Rat):Rat:=if b=0∨c=0 then 0 else c
def aj(a b c:Rat):Rat:=if Xf c=true then a+b*sqR c else a
def aH(b c:Rat):Rat:=if Xf c=true then 0 else Eb b c
def ZY(b c:Rat):Rat:=if Xf c=true then 0 else Ea b c
def Fb(b c:Rat):Rat:=if b=0 then 0 else c
def aG(b e c:Rat):Rat:=if b=0∧e=0 then 0 else c
theorem aaG{ax bx ay bb c X Y Q:Rat}(h:(lF ax bx ay bb c X Y Q).2=true):
 (lF ax bx ay bb c X Y Q).1=xk ((ax-X)*(ax-X)+(ay-Y)*(ay-Y)+c*(bx*bx+bb*bb)-Q) ((ax-X)*bx+(ay-Y)*bb+((ax-X)*bx+(ay-Y)*bb)) c :=
 (UO (n:=(lF ax bx ay bb c X Y Q).1) (Prod.ext rfl h)).symm
section
variable {a b:Rat}
theorem aav(h:a.num=b.num):packA [AV.c (Cell.v (.bool (decide ((a.den:Int)=(b.den:Int)))))]=AV.bool (decide (a=b)) :=
 bE (by rw[decide_eq_decide];exact⟨λh2=>Rat.ext h (by omega),λh2=>by rw[h2]⟩)
theorem abA(h:¬a.num=b.num):packA [AV.c (Cell.v (.bool false))]=AV.bool (decide (a=b)) :=
 bE (by symm;rw[decide_eq_false_iff_not];exactλe=>h (by rw[e]))
end
end Go.Sw
namespace Go.Sw
open Go
theorem ag6:rz 0≤1:=by decide +kernel
instance:RzB 0 1:=⟨ag6⟩
instance{p:Prop}[Decidable p]{a b:Rat}{m n:Nat}[h1:RzB a m][h2:RzB b n]:RzB (if p then a else b) (m+n):=⟨by split;exact dh h1.h (by omega);exact dh h2.h (by omega)⟩
end Go.Sw
namespace Go.Sw
open Go Go.RowKit
class DenC (P:Program) [Wld P] (f:FuncId) (xs:List AV) (pre:outParam Prop) (c:outParam Prop) (r s:outParam AV):Prop where
 den:pre→(c→Den P f xs r)∧(¬c→Den P f xs s)
theorem call_c{P:Program}[Wld P]{f:FuncId}{xs:List AV}{pre c:Prop}{r s:AV}{k:AV→Prop}[h:DenC P f xs pre c r s](hp:Pr pre)(h1:c→k r)(h2:¬c→k s):CallP (Den P) f xs k:=by
 by_cases hc:c
 ·exact⟨r,(h.den hp.p).1 hc,h1 hc⟩
 ·exact⟨s,(h.den hp.p).2 hc,h2 hc⟩
theorem denC{P:Program}[Wld P]{f:FuncId}{xs:List AV}{pre c:Prop}{r s:AV}(h:pre→∀q,(c→q=r)→(¬c→q=s)→Den P f xs q)(hp:pre):(c→Den P f xs r)∧(¬c→Den P f xs s) :=
 ⟨λhc=>h hp r (λ_=>rfl) (λn=>absurd hc n),λhc=>h hp s (λn=>absurd n hc) (λ_=>rfl)⟩
end Go.Sw
namespace Go.Sw
open Go
class SzB (n:Int) (k:outParam Nat):Prop where
 h:sz n≤k
theorem jl{n:Int}{k K:Nat}[i:SzB n k](h:k≤K):sz n≤K:=dh i.h h
instance{q:Rat}{n:Nat}[i:RzB q n]:SzB q.num n:=⟨dh (am4 q) i.h⟩
instance{q:Rat}{n:Nat}[i:RzB q n]:SzB (q.den:Int) n:=⟨dh (am5 q) i.h⟩
instance{a b:Int}{m n:Nat}[i:SzB a m][j:SzB b n]:SzB (a*b) (m+n):=⟨by have:=iJ a b;have:=i.h;have:=j.h;omega⟩
section
variable {a b c:Rat}
end
section
variable {a b c:Rat} {q:AV}
theorem aeG(h:¬anf a=anf b):packA [AV.c (Cell.v (.int .i64 (jS (anf a) (anf b))))]=AV.int .i64 (ang a b):=iE (by
 rcases gU a with⟨a1,a2⟩|⟨a1,a2⟩|⟨a1,a2⟩<;>rcases gU b with⟨b1,b2⟩|⟨b1,b2⟩|⟨b1,b2⟩<;>rw[a2,b2]at h ⊢<;>first
  |exact absurd rfl h|(rw[OM (by grind)];rfl)|(rw[Oa (by grind)];rfl))
theorem acn(hb:¬b=0)(e:¬b=0→q=AV.tup [R (a/b),AV.int .i64 0]):packA [R (((a.num*b.den:Int):Rat)/((a.den*b.num:Int):Rat)),AV.c (Cell.v (.int .i64 0))]=q:=by
 rw[e hb,anE a b hb];rfl
theorem MJ(h:(a.den:Int)*b.num=0):b=0:=by
 rcases Int.mul_eq_zero.1 h with h|h
 ·exact absurd h (amR a)
 ·exact(anF b).1 h
theorem afz(h:¬(a.den:Int)*b.num=0)(e:¬b=0→q=AV.tup [R (a/b),AV.int .i64 0]):packA [R (((a.num*b.den:Int):Rat)/((a.den*b.num:Int):Rat)),AV.c (Cell.v (.int .i64 0))]=q :=
 acn (λe=>h (by rw[e];simp)) e
theorem VF(h:¬b=0):(a.den:Int)*b.num≠0:=λe=>h (MJ e)
theorem aeM(n:Int):((0:Int):Rat)=(n:Rat)/((0:Int):Rat):=by rw[←anJ n];decide +kernel
end
theorem Jd(a b c:Rat):-1≤xk a b c∧xk a b c≤1:=by
 unfold xk;have h1:=oJ a;have h2:=oV (oJ b) (oJ c);have h3:=oV (oJ a) (tq (a*a) (b*b*c))
 repeat' split
 all_goals first|exact h1|exact h2|exact h3
theorem aix(a b c:Rat):IntKind.i64.wrap (0-xk a b c) = -xk a b c:=by
 have:=Jd a b c;rw[bW (by omega) (by omega)];omega
theorem afC{a b c:Rat}{n:Int}(h:xk a b c=n):packA [AV.c (Cell.v (.int .i64 (IntKind.i64.wrap (0-xk a b c))))]=AV.int .i64 (-n):=iE (by rw[aix,h])
theorem afY{a b c d e f g h:Rat}{n:Int}(k:(lF a b c d e f g h).2=true)(hn:(lF a b c d e f g h).1=n)(h1 : -1≤n)(h2:n≤1):packA [AV.c (Cell.v (.int .i64 (IntKind.i64.wrap (0-(lF a b c d e f g h).1))))]=AV.int .i64 (-n):=iE (by
 rw[hn,bW (by omega) (by omega)];omega)
instance{a b:Rat}{m n:Nat}[h:RzB a m][k:RzB b n]:RzB (a / b) (m+n+1):=⟨by
 by_cases hb:b=0
 ·subst hb;have:a/0=0:=by rw[Rat.div_def,Rat.inv_zero,Rat.mul_zero]
  rw[this];have:=ag6;omega
 ·have:=anN a b hb;have:=h.h;have:=k.h;omega⟩
theorem af2(a:Rat):((0:Int):Rat)=a/0:=by
 have:((0:Int):Rat)=0:=rfl;rw[this,Rat.div_def,Rat.inv_zero,Rat.mul_zero]
section
variable {a b c:Rat}
theorem aiQ(h:anf b*anf c=0):packA [AV.c (Cell.v (.int .i64 (anf a)))]=AV.int .i64 (xk a b c):=iE (by unfold xk;rw[if_pos (.inr h)])
theorem aiT(h:anf a=anf b*anf c):packA [AV.c (Cell.v (.int .i64 (anf a)))]=AV.int .i64 (xk a b c):=iE (by unfold xk;rw[if_pos (.inl h)])
theorem aiW(h1:¬anf b*anf c=0)(h2:¬anf a=anf b*anf c)(h3:a=0):packA [AV.c (Cell.v (.int .i64 (anf b*anf c)))]=AV.int .i64 (xk a b c):=iE (by
 unfold xk;rw[if_neg (by rintro (h|h);exact h2 h;exact h1 h),if_pos (anx.2 h3)])
theorem ai7(h1:¬anf b*anf c=0)(h2:¬anf a=anf b*anf c)(h3:¬a=0):packA [AV.c (Cell.v (.int .i64 (anf a*ang (a*a) (b*b*c))))]=AV.int .i64 (xk a b c):=iE (by
 rw[aiN h2 h1 (λe=>h3 (anx.1 e))])
end
theorem LM(a b c f:Rat):IU ((gZ a b c f).getD (0,0)):=by
 unfold gZ;have h1:=JR a b c;have h2:=jW f;cases h3:oM a b c with
 |none=>unfold IU;simp only[MX];decide
 |some x =>
  cases h4:anl f with
  |none=>unfold IU;simp only[MX];decide
  |some y =>
   rw[h3]at h1;rw[h4]at h2;simp only[Ad]at h1 h2;exact I4 h1 (by unfold IU at *;simp only;omega)
theorem abG{a b c f:Rat}(h:(!(oM a b c).isSome)=true∨(!(anl f).isSome)=true):(none:Option (Int×Int))=gZ a b c f:=by
 unfold gZ;rcases h with h|h
 ·cases h1:oM a b c with
  |none=>rfl
  |some x=>rw[h1]at h;cases h
 ·cases h1:oM a b c with
  |none=>rfl
  |some x=>cases h2:anl f with
   |none=>rfl
   |some y=>rw[h2]at h;cases h
theorem adB{a b c f:Rat}(h:(!(oM a b c).isSome)=false)(k:(!(anl f).isSome)=false):anM ((oM a b c).getD (0,0)) (-((anl f).getD (0,0)).2,-((anl f).getD (0,0)).1)=gZ a b c f:=by
 unfold gZ;cases h1:oM a b c with
 |none=>rw[h1]at h;cases h
 |some x=>cases h2:anl f with
  |none=>rw[h2]at k;cases k
  |some y=>rfl
section
variable {ax bx ay bb c X Y Q:Rat}
theorem ais{p:Int×Bool}(h:p=(0,false)):packA [AV.c (Cell.v (.int .i64 0)),AV.c (Cell.v (.bool false))]=AV.tup [.int .i64 p.1,.bool p.2]:=by rw[h];rfl
theorem ajy(h:(!(gZ ax bx c X).isSome)=true∨(!(gZ ay bb c Y).isSome)=true∨(!(anl Q).isSome)=true):lF ax bx ay bb c X Y Q=(0,false):=by
 unfold lF;cases h1:gZ ax bx c X with
 |none=>rfl
 |some x=>cases h2:gZ ay bb c Y with
  |none=>rfl
  |some y=>cases h3:anl Q with
   |none=>rfl
   |some q=>rw[h1,h2,h3]at h;simp at h
theorem agx{x y q:Int×Int}(h1:(!(gZ ax bx c X).isSome)=false)(h2:(!(gZ ay bb c Y).isSome)=false)(h3:(!(anl Q).isSome)=false)(e1:x=(gZ ax bx c X).getD (0,0))(e2:y=(gZ ay bb c Y).getD (0,0))(e3:q=(anl Q).getD (0,0)):
 lF ax bx ay bb c X Y Q=(match sU x x,sU y y with
 |some s,some t=>(match anM s t with
  |some u=>(match anM u (-q.2,-q.1)with
   |some r=>anH r.1 r.2
   |none=>(0,false))
  |none=>(0,false))
 |_,_=>(0,false)):=by
 subst e1 e2 e3;unfold lF;cases k1:gZ ax bx c X with
 |none=>rw[k1]at h1;cases h1
 |some x=>cases k2:gZ ay bb c Y with
  |none=>rw[k2]at h2;cases h2
  |some y=>cases k3:anl Q with
   |none=>rw[k3]at h3;cases h3
   |some q=>rfl
end
end Go.Sw
namespace Go.Sw
open Go
theorem xH(q:Rat):ana (decide (q.num<0)) (lim q.num.natAbs) (decide ((q.den:Int)<0)) (lim (q.den:Int).natAbs)=true:=by
 rw[ank];have h1:=den_pos q;have h2:=q.reduced;rw[fC,decide_eq_true_eq,decide_eq_true_eq];exact⟨anm.2 h1,by rw[Nu];exact congrArg Int.ofNat h2⟩
end Go.Sw
