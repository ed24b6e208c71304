/-
  Rules of the abstract run, plain laws, and what functions answer, for the law RepairReport.
  Conditions: none.
-/
import Derived.Test.YtmniihkenijjpaaGreatDoorU11
set_option linter.all false
namespace Go.Sw
open Go
@[reducible] def PD:List Cell:=[.v (.bool false),.sl 1 [],.v (.bool false),.sl 1 [],.v (.bool false),.sl 1 [],.v (.bool false),.sl 1 []]
@[reducible] def ovC(p:Option P2):List Cell:=match p with|some v=>vecC v|none=>PD
@[reducible] def jF(c:Chn):List Cell:=[.v (.int .i64 (c.kind:Nat)),.v (.int .i64 (c.ent:Nat)),.v (.int .i64 (c.fin:Nat))]++ovC c.src++ovC c.dst
@[reducible] def iP(x:Ent × Nat):List Cell:=aK x.1++[.v (.int .i64 (x.2:Nat))]
theorem wV(sq:Rat)(s:ByteArray)(i:Nat)(v:P2):∀(l:List P2) (k:Nat) (sp:Spots),joinL sq s i k sp (l++[v])=⟨(joinP sq (joinL sq s i k sp l).sp s v).1,(joinL sq s i k sp l).ws++[(joinP sq (joinL sq s i k sp l).sp s v).2],(joinL sq s i k sp l).cs++jn i (k+l.length) v (joinP sq (joinL sq s i k sp l).sp s v).2⟩
 |[],k,sp=>by simp[joinL]
 |x::r,k,sp=>by
  have ih:=wV sq s i v r (k+1) (joinP sq sp s x).1;simp only[pF,joinL,ih,bn];simp[show k+1+r.length=k+(r.length+1) by omega]
theorem xO(sq:Rat)(e:Ent):∀(l:List Ent) (i:Nat) (sp:Spots),bT sq i sp (l++[e])=⟨(joinL sq e.layer (i+l.length) 0 (bT sq i sp l).sp (aA e)).sp,(bT sq i sp l).es++[dQ e (joinL sq e.layer (i+l.length) 0 (bT sq i sp l).sp (aA e)).ws],(bT sq i sp l).cs++(joinL sq e.layer (i+l.length) 0 (bT sq i sp l).sp (aA e)).cs⟩
 |[],i,sp=>by simp[bT]
 |x::r,i,sp=>by
  have ih:=xO sq e r (i+1) (joinL sq x.layer i 0 sp (aA x)).sp;simp only[pF,bT,ih,bn];simp[show i+1+r.length=i+(r.length+1) by omega]
theorem oL(sq:Rat):∀(l:List Ent) (i:Nat) (sp:Spots),(bT sq i sp l).es.length=l.length
 |[],i,sp=>rfl
 |x::r,i,sp=>by simp[bT,oL sq r]
def jA(sq:Rat)(es:List Ent)(x:Nat):JA:=bT sq 0 [] (es.take x)
theorem vw(sq:Rat)(es:List Ent){x:Nat}(h:x<es.length):jA sq es (x+1)=⟨(joinL sq (es.getD x E0).layer x 0 (jA sq es x).sp (aA (es.getD x E0))).sp,(jA sq es x).es++[dQ (es.getD x E0) (joinL sq (es.getD x E0).layer x 0 (jA sq es x).sp (aA (es.getD x E0))).ws],(jA sq es x).cs++(joinL sq (es.getD x E0).layer x 0 (jA sq es x).sp (aA (es.getD x E0))).cs⟩:=by
 have h1:es.take (x+1)=es.take x++[es.getD x E0]:=by
  rw[J6,fM h];simp[iI,h]
 have h2:(es.take x).length=x:=by simp;omega
 unfold jA;rw[h1,xO,h2,pq]
theorem kP(sq:Rat)(es:List Ent):jA sq es es.length=bT sq 0 [] es:=by unfold jA;rw[xY]
def nE(es:List Ent)(x:Nat):Nat:=((es.take x).map λe=>(aA e).length).sum
theorem wB(es:List Ent){x:Nat}(h:x<es.length):nE es (x+1)=nE es x+(aA (es.getD x E0)).length:=by
 have h1:es.take (x+1)=es.take x++[es.getD x E0]:=by
  rw[J6,fM h];simp[iI,h]
 unfold nE;rw[h1];simp
theorem C9(es:List Ent):∀x,nE es x<=2*x
 |0=>by simp[nE]
 |x+1=>by
  by_cases h:x<es.length
  .rw[wB es h];have:=C9 es x;have h2:(aA (es.getD x E0)).length<=2:=by rcases qV (es.getD x E0)with h|h<;>omega
   omega
  .have h1:es.take (x+1)=es.take x:=by rw[Ko ω,Ko ω]
   have:=C9 es x;unfold nE at this ⊢;rw[h1];omega
def Ju(q:P2->Prop)(sp:Spots):Prop:=∀p∈sp,q p.2
theorem nT{sp:Spots}{s:ByteArray}{v:P2}(h:v∈spotsAt sp s):∃p∈sp,p.2=v:=by
 unfold spotsAt at h;obtain⟨p,hp,rfl⟩:=dR.1 h;exact⟨p,(yg.1 hp).1,rfl⟩
theorem uI(sp:Spots)(s:ByteArray):(spotsAt sp s).length<=sp.length:=by
 unfold spotsAt;rw[aG];exact WZ _ _
theorem oz{q:P2->Prop}{sq:Rat}{sp:Spots}{s:ByteArray}{v:P2}(h:Ju q sp)(hv:q v):Ju q (joinP sq sp s v).1/\q (joinP sq sp s v).2/\(joinP sq sp s v).1.length<=sp.length+1:=by
 have h2:=y7 sq sp s v
 have key:Ju q (joinP sq sp s v).1/\(joinP sq sp s v).1.length<=sp.length+1:=by
  unfold joinP;split
  .exact⟨h,η⟩
  .refine⟨λp hp=>?_,η⟩;rcases jP.1 hp with hp|hp
   .exact h p hp
   .simp only[uy]at hp;subst hp;exact hv
 obtain⟨p,hp,he⟩:=nT h2;exact⟨key.1,he▸key.1 p hp,key.2⟩
theorem oQ{q:P2->Prop}{sq:Rat}{s:ByteArray}{i:Nat}:∀{l:List P2} {k:Nat} {sp:Spots},Ju q sp->(∀v∈l,q v)->Ju q (joinL sq s i k sp l).sp/\(∀w∈(joinL sq s i k sp l).ws,q w)/\(joinL sq s i k sp l).sp.length<=sp.length+l.length/\(joinL sq s i k sp l).ws.length=l.length/\(joinL sq s i k sp l).cs.length<=l.length
 |[],k,sp,h,_=>⟨h,λw hw=>by simp[joinL]at hw,by simp[joinL],rfl,by simp[joinL]⟩
 |v::r,k,sp,h,hl=>by
  obtain⟨h1,h2,h3⟩:=oz (sq:=sq) (s:=s) h (hl v η);obtain⟨h4,h5,h6,h7,h8⟩:=oQ (sq:=sq) (s:=s) (i:=i) (l:=r) (k:=k+1) h1 (λw hw=>hl w (by simp[hw]));refine⟨h4,λw hw=>?_, ?_,by simp[joinL,h7], ?_⟩
  .simp only[joinL,pV]at hw;rcases hw with rfl|hw
   .exact h2
   .exact h5 w hw
  .simp only[joinL,bn];omega
  .simp only[joinL,bF,bn];have:(jn i k v (joinP sq sp s v).2).length<=1:=by unfold jn;split<;>simp
   omega
theorem dF{e:Ent}{v:P2}(h:v∈aA e):v∈e.pts:=by
 rcases eX e with⟨h1,_⟩|⟨a,b,_,h2,h3⟩|⟨a,m,b,_,h2,h3⟩
 .rw[h1]at h;cases h
 .rw[h3]at h;rw[h2];exact h
 .rw[h3]at h;rw[h2];simp at h ⊢;rcases h with h|h<;>simp[h]
theorem xH{q:P2->Prop}{e:Ent}{l:List P2}(h:∀p∈e.pts,q p)(hl:∀p∈l,q p):∀p∈(dQ e l).pts,q p:=by
 unfold dQ;split
 .rename_i a b _ _ hp;intro p hp';simp at hp';rcases hp' with rfl|rfl<;>exact hl _ η
 .rename_i a b _ m _ hp;intro p hp';simp at hp';rcases hp' with rfl|rfl|rfl
  .exact hl _ η
  .exact h _ (by rw[hp];simp)
  .exact hl _ η
 .exact h
theorem nN{es:List Ent}{x:Nat}(h:x<es.length):es.getD x E0∈es:=by
 have:es.getD x E0=es[x]:=by simp[iI,h]
 rw[this];exact wW h
theorem zk{q:P2->Prop}{sq:Rat}{es:List Ent}(h:∀e∈es,∀p∈e.pts,q p):∀x,x<=es.length->Ju q (jA sq es x).sp/\(∀e∈(jA sq es x).es,∀p∈e.pts,q p)/\(jA sq es x).sp.length<=nE es x/\(jA sq es x).cs.length<=nE es x/\(jA sq es x).es.length=x
 |0,_=>⟨λp hp=>by simp[jA,bT]at hp,λe he=>by simp[jA,bT]at he,by simp[jA,bT],by simp[jA,bT],by simp[jA,bT]⟩
 |x+1,hx=>by
  have hlt:x<es.length:=ω
  obtain⟨h1,h2,h3,h4,h5⟩:=zk (sq:=sq) h x ω;have he:=nN hlt;obtain⟨k1,k2,k3,k4,k5⟩:=oQ (q:=q) (sq:=sq) (s:=(es.getD x E0).layer) (i:=x) (k:=0) (l:=aA (es.getD x E0)) h1 (λv hv=>h _ he v (dF hv));rw[vw sq es hlt,wB es hlt];refine⟨k1,λe hm=>?_, ?_, ?_, ?_⟩
  .simp only[jP,uy]at hm;rcases hm with hm|rfl
   .exact h2 e hm
   .exact xH (h _ he) k2
  .simp only;omega
  .simp only[bF];omega
  .simp only[bF,List.length_singleton];omega
theorem iV(e:Ent):aA e=[]\/∃a b,aA e=[a,b]:=by
 rcases eX e with⟨h1,_⟩|⟨a,b,_,_,h3⟩|⟨a,m,b,_,_,h3⟩
 .exact .inl h1
 .exact .inr ⟨a,b,h3⟩
 .exact .inr ⟨a,b,h3⟩
theorem Qx{es:List Ent}(h:∀e∈es,(∀p∈e.pts,aF p)/\e.layer.size<=1000/\e.pts.length<=3)(x:Nat):(∀p∈(es.getD x E0).pts,aF p)/\(es.getD x E0).layer.size<=1000/\(es.getD x E0).pts.length<=3:=by
 by_cases hx:x<es.length
 .exact h _ (nN hx)
 .have:es.getD x E0=E0:=by simp[iI,Nat.le_of_not_lt hx]
  rw[this];exact⟨λp hp=>by simp[E0]at hp,ψ,ψ⟩
theorem SX{i k:Nat}{a w:P2}(h:(!(decide (a.1=w.1)&&decide (a.2=w.2)))=true):jn i k a w=[⟨1,i,k,some a,some w⟩]:=by
 unfold jn;rw[if_neg];rintro rfl;simp at h
theorem P9{i k:Nat}{a w:P2}(h:(!(decide (a.1=w.1)&&decide (a.2=w.2)))=false):jn i k a w=[]:=by
 unfold jn;rw[if_pos];simp at h;exact Prod.ext h.1 h.2
theorem spq{sp:Spots}{s:ByteArray}(h:Ju aF sp)(p:P2)(hp:p∈spotsAt sp s):rz p.1<=12/\rz p.2<=12:=by
 obtain⟨q,hq,rfl⟩:=nT hp;exact h q hq
theorem Vx(sq:Rat)(es:List Ent){x:Nat}(h:x<es.length)(hE:aA (es.getD x E0)=[]):jA sq es (x+1)=⟨(jA sq es x).sp,(jA sq es x).es++[es.getD x E0],(jA sq es x).cs⟩/\nE es (x+1)=nE es x:=by
 rw[vw sq es h,wB es h,hE];refine⟨?_,rfl⟩;have h2:dQ (es.getD x E0) []=es.getD x E0:=by rw[<-hE];exact F9 _
 simp only[joinL,h2,bI]
theorem Wq(sq:Rat)(es:List Ent){x:Nat}{a b:P2}(h:x<es.length)(hE:aA (es.getD x E0)=[a,b]):jA sq es (x+1)=⟨(joinP sq (joinP sq (jA sq es x).sp (es.getD x E0).layer a).1 (es.getD x E0).layer b).1,(jA sq es x).es++[dQ (es.getD x E0) [(joinP sq (jA sq es x).sp (es.getD x E0).layer a).2,(joinP sq (joinP sq (jA sq es x).sp (es.getD x E0).layer a).1 (es.getD x E0).layer b).2]],(jA sq es x).cs++(jn x 0 a (joinP sq (jA sq es x).sp (es.getD x E0).layer a).2++jn x 1 b (joinP sq (joinP sq (jA sq es x).sp (es.getD x E0).layer a).1 (es.getD x E0).layer b).2)⟩/\nE es (x+1)=nE es x+1+1:=by
 rw[vw sq es h,wB es h,hE];refine⟨?_,rfl⟩;simp[joinL]
def N0:Ent×Nat:=(E0,0)
def Sl(e:Ent):Prop:=(∀p∈e.pts,aF p)/\e.layer.size<=1000/\e.pts.length<=3
theorem adR:Sl E0:=⟨λp hp=>by simp[E0]at hp,ψ,ψ⟩
theorem Iy{l:List (Ent×Nat)}(h:∀x∈l,Sl x.1)(x:Nat):Sl (l.getD x N0).1:=by
 by_cases hx:x<l.length
 .have:l.getD x N0=l[x]:=by simp[iI,hx]
  rw[this];exact h _ (wW hx)
 .have:l.getD x N0=N0:=by simp[iI,Nat.le_of_not_lt hx]
  rw[this];exact adR
theorem Gi{v w:P2}:(decide (v.1=w.1)&&decide (v.2=w.2))=decide (v=w):=by
 rw[vG];simp[Prod.ext_iff]
theorem nZ{l:List (Ent×Nat)}{x:Nat}(h:x<l.length):l[x]?=some (l.getD x N0):=by simp[iI,h]
theorem yQ{l:List (Ent×Nat)}{s:ByteArray}{i k:Nat}{v:P2}{x:Nat}(h:x<l.length)(hE:aA (l.getD x N0).1=[]):metAt l s i k v x=false:=by
 unfold metAt;rw[nZ h];simp only[];rw[hE];simp
theorem zI{l:List (Ent×Nat)}{s:ByteArray}{i k:Nat}{v a b:P2}{x:Nat}(h:x<l.length)(hE:aA (l.getD x N0).1=[a,b]):metAt l s i k v x=(eqS (l.getD x N0).1.layer s&&(((x != i||0 != k)&&decide (v=a)) ||((x != i||1 != k)&&decide (v=b)))):=by
 unfold metAt;rw[nZ h];simp only[];rw[hE]
theorem zN{l:List (Ent×Nat)}{s:ByteArray}{i k:Nat}{v:P2}{x:Nat}(h:x<l.length)(hE:(!((l.getD x N0).1.layer.toList == s.toList))=true):metAt l s i k v x=false:=by
 unfold metAt;rw[nZ h];simp only[eqS];simp only[uX]at hE;rw[hE];simp
theorem BJ{l:List (Ent×Nat)}{s:ByteArray}{i k:Nat}{v a b:P2}{x:Nat}(h:x<l.length)(hE:aA (l.getD x N0).1=[a,b])(hL:(!((l.getD x N0).1.layer.toList == s.toList))=false):metAt l s i k v x=(((x != i||0 != k)&&(decide (v.1=a.1)&&decide (v.2=a.2))) ||((x != i||1 != k)&&(decide (v.1=b.1)&&decide (v.2=b.2)))):=by
 rw[zI h hE,Gi,Gi];simp only[Bool.not_eq_false']at hL;simp only[eqS,hL,BM]
theorem OH{l:List (Ent×Nat)}{s:ByteArray}{i k:Nat}{v:P2}{x:Nat}(h:x<l.length)(hm:metAt l s i k v x=true):nH l s i k v=true:=by
 unfold nH;exact NG.2 ⟨x,by simpa using h,hm⟩
theorem Pv{l:List (Ent×Nat)}{s:ByteArray}{i k:Nat}{v:P2}(hm:∀j<l.length,metAt l s i k v j=false):nH l s i k v=false:=by
 unfold nH;rw[EG];intro j hj;rw[hm j (by simpa using hj)];simp
theorem rD{l:List (Ent×Nat)}{s:ByteArray}{i k:Nat}{v:P2}{x:Nat}(hm:∀j<x,metAt l s i k v j=false)(h:metAt l s i k v x=false):∀j<x+1,metAt l s i k v j=false:=λj hj=>by
 rcases yP j x with h1|h1
 .exact hm j h1
 .have:j=x:=ω
  subst this;exact h
def OE(l:List (Ent×Nat))(x:Nat):List Chn:=(List.range x).flatMap (opn l)
theorem H9(l:List (Ent×Nat)):OE l l.length=zy l:=rfl
theorem Ik{l:List (Ent×Nat)}{x:Nat}(h:x<l.length)(hE:aA (l.getD x N0).1=[]):OE l (x+1)=OE l x:=by
 unfold OE;rw[PE,KC]
 have:opn l x=[]:=by
  unfold opn;rw[nZ h];simp only[];rw[hE]
 simp[this]
theorem Hf{l:List (Ent×Nat)}{x:Nat}{a b:P2}(h:x<l.length)(hE:aA (l.getD x N0).1=[a,b]):OE l (x+1)=OE l x++(tC l (l.getD x N0).1.layer (l.getD x N0).2 x 0 a++tC l (l.getD x N0).1.layer (l.getD x N0).2 x 1 b):=by
 unfold OE;rw[PE,KC]
 have:opn l x=tC l (l.getD x N0).1.layer (l.getD x N0).2 x 0 a++tC l (l.getD x N0).1.layer (l.getD x N0).2 x 1 b:=by
  unfold opn;rw[nZ h];simp only[];rw[hE]
 simp[this]
theorem zX{l:List (Ent×Nat)}{s:ByteArray}{n i k:Nat}{v:P2}(h:(!nH l s i k v)=true):tC l s n i k v=[⟨4,n,k,some v,some v⟩]:=by
 unfold tC;rw[if_neg];simpa using h
theorem Bv{l:List (Ent×Nat)}{s:ByteArray}{n i k:Nat}{v:P2}(h:(!nH l s i k v)=false):tC l s n i k v=[]:=by
 unfold tC;rw[if_pos];simpa using h
theorem DZ{l:List (Ent×Nat)}{s:ByteArray}{n i k:Nat}{v:P2}:(tC l s n i k v).length<=1:=by
 unfold tC;split<;>simp
theorem vX(l:List (Ent×Nat)):∀x,x<=l.length->(OE l x).length<=2*x
 |0,_=>by simp[OE]
 |x+1,h=>by
  have ih:=vX l x ω;rcases iV (l.getD x N0).1 with hE|⟨a,b,hE⟩
  .rw[Ik ω hE];omega
  .rw[Hf ω hE];have h1:=DZ (l:=l) (s:=(l.getD x N0).1.layer) (n:=(l.getD x N0).2) (i:=x) (k:=0) (v:=a);have h2:=DZ (l:=l) (s:=(l.getD x N0).1.layer) (n:=(l.getD x N0).2) (i:=x) (k:=1) (v:=b);simp only[bF];omega
def S0:ByteArray×P2:=(⟨#[]⟩,P0)
@[reducible] def pK(p:ByteArray × P2):List Cell:=.v (.string p.1) :: vecC p.2
def nX(sq:Rat)(v:P2)(s:ByteArray)(sp:Spots)(x:Nat):Option P2:=nearG sq v (spotsAt (sp.take x) s)
theorem xW{sp:Spots}{x:Nat}(h:x<sp.length):sp.take (x+1)=sp.take x++[sp.getD x S0]:=by
 rw[J6,fM h];simp[iI,h]
theorem aac{sq:Rat}{v:P2}{s:ByteArray}{sp:Spots}{x:Nat}(h:x<sp.length)(hl:(!((sp.getD x S0).1.toList == s.toList))=true):nX sq v s sp (x+1)=nX sq v s sp x:=by
 unfold nX;have h2:sp.take (x+1)=sp.take x++[((sp.getD x S0).1,(sp.getD x S0).2)]:=xW h;rw[h2,spotsAt_snoc,if_neg,bI];simp only[uX]at hl;simp only[eqS,hl];simp
theorem Ll{sq:Rat}{v:P2}{s:ByteArray}{sp:Spots}{x:Nat}(h:x<sp.length)(hl:(!((sp.getD x S0).1.toList == s.toList))=false):nX sq v s sp (x+1)=nearS sq v (nX sq v s sp x) (sp.getD x S0).2:=by
 unfold nX;have h2:sp.take (x+1)=sp.take x++[((sp.getD x S0).1,(sp.getD x S0).2)]:=xW h;rw[h2,spotsAt_snoc,if_pos]
 .unfold nearG;rw[List.foldl_append];rfl
 .simp only[Bool.not_eq_false']at hl;simp only[eqS,hl]
def kC(sq:Rat)(v:P2)(s:ByteArray)(sp:Spots)(x:Nat)(b:Int):Prop:=(b = -1/\nX sq v s sp x=none)\/(0<=b/\b<x/\nX sq v s sp x=some (sp.getD b.toNat S0).2)
theorem ZQ{sq:Rat}{v:P2}{s:ByteArray}{sp:Spots}:kC sq v s sp 0 (-1):=.inl ⟨rfl,rfl⟩
theorem Az{sq:Rat}{v:P2}{s:ByteArray}{sp:Spots}{x:Nat}{b:Int}(h:kC sq v s sp x b)(he:nX sq v s sp (x+1)=nX sq v s sp x):kC sq v s sp (x+1) b:=by
 rcases h with⟨h1,h2⟩|⟨h1,h2,h3⟩
 .exact .inl ⟨h1,he.trans h2⟩
 .exact .inr ⟨h1,ω,he.trans h3⟩
theorem Uf{sq:Rat}{v:P2}{s:ByteArray}{sp:Spots}{x:Nat}{b:Int}(h:kC sq v s sp x b)(hx:x<sp.length)(hl:(!((sp.getD x S0).1.toList == s.toList))=true):kC sq v s sp (x+1) b:=Az h (aac hx hl)
theorem MP{sq:Rat}{v:P2}{s:ByteArray}{sp:Spots}{x:Nat}{b:Int}(h:kC sq v s sp x b)(hx:x<sp.length)(hl:(!((sp.getD x S0).1.toList == s.toList))=false)(hf:sq<farR (sp.getD x S0).2 v):kC sq v s sp (x+1) b:=by
 refine Az h ?_;rw[Ll hx hl];unfold nearS;rw[if_neg (by rw[jM];exact Rat.not_le.2 hf)]
theorem IK{sq:Rat}{v:P2}{s:ByteArray}{sp:Spots}{x:Nat}{b:Int}(h:kC sq v s sp x b)(hx:x<sp.length)(hl:(!((sp.getD x S0).1.toList == s.toList))=false)(hf:¬ sq<farR (sp.getD x S0).2 v)(hb:b<0\/farR (sp.getD x S0).2 v<farR (sp.getD b.toNat S0).2 v):kC sq v s sp (x+1) x:=by
 refine .inr ⟨ω,ω, ?_⟩;rw[Ll hx hl];have hle:farR v (sp.getD x S0).2<=sq:=by rw[jM];exact Rat.not_lt.1 hf
 unfold nearS;rw[if_pos hle];rcases h with⟨h1,h2⟩|⟨h1,h2,h3⟩
 .rw[h2];simp
 .rw[h3];simp only[];rw[if_pos]
  .simp
  .rcases hb with hb|hb
   .omega
   .rw[jM v,jM v];exact hb
theorem G8{sq:Rat}{v:P2}{s:ByteArray}{sp:Spots}{x:Nat}{b:Int}(h:kC sq v s sp x b)(hx:x<sp.length)(hl:(!((sp.getD x S0).1.toList == s.toList))=false)(hb:¬ b<0)(hk:¬ farR (sp.getD x S0).2 v<farR (sp.getD b.toNat S0).2 v):kC sq v s sp (x+1) b:=by
 refine Az h ?_;rw[Ll hx hl];rcases h with⟨h1,h2⟩|⟨h1,h2,h3⟩
 .omega
 .unfold nearS;rw[h3];simp only[];rw[if_neg (show¬ farR v (sp.getD x S0).2<farR v (sp.getD b.toNat S0).2 by rw[jM v,jM v];exact hk)];simp
@[reducible] def UG(o:Option P2):AV:=.tup [.agg (ovC o),.bool o.isSome]
theorem Pg(sq:Rat)(v:P2)(s:ByteArray)(sp:Spots):nX sq v s sp sp.length=nearG sq v (spotsAt sp s):=by unfold nX;rw[xY]
@[reducible] def Gn(e:Ent):AV:=.tup [.own 45 8 ((aA e).map vecC),.bool (decide (aA e≠[]))]
theorem Oq{e:Ent}{i j:Nat}(h:e.kind=1/\e.pts.length=2\/e.kind=2/\e.pts.length=3)(hi:i=0)(hj:j=e.pts.length-1):packA [AV.own 45 8 [vecC (e.pts.getD i P0),vecC (e.pts.getD j P0)],AV.bool true]=Gn e:=by
 subst hi hj;unfold Gn;rw[MC h];rfl
theorem PV{e:Ent}(h:¬(e.kind=1/\e.pts.length=2\/e.kind=2/\e.pts.length=3)):packA [AV.own 45 8 [],AV.bool false]=Gn e:=by
 unfold Gn;rw[Nz h];rfl
def nP(a b:List P2):Bool:=decide (a.length=b.length)&&(decide (a=b)||decide (a=b.reverse))
theorem Gl{a:List P2}{x:Nat}(h:x<a.length):a.take (x+1)=a.take x++[a.getD x P0]:=by
 rw[J6,fM h];simp[iI,h]
theorem GV{a b:List P2}{x:Nat}(ha:x<a.length)(hb:x<b.length):decide (a.take (x+1)=b.take (x+1))=(decide (a.take x=b.take x)&&(decide ((a.getD x P0).1=(b.getD x P0).1)&&decide ((a.getD x P0).2=(b.getD x P0).2))):=by
 rw[Gl ha,Gl hb,Gi,vG];simp only[bY,decide_eq_true_eq];constructor
 .intro h;have:=List.append_inj h κ;exact⟨this.1,by simpa using this.2⟩
 .rintro ⟨h1,h2⟩;rw[h1,h2]
theorem rev_at{b:List P2}{x:Nat}(h:x<b.length):b.reverse.getD x P0=b.getD (b.length-1-x) P0:=by
 have h2:b.length-1-x<b.length:=ω
 simp[iI,h,h2,List.getElem?_reverse]
theorem D9{a b:List P2}(hl:a.length=b.length):nP a b=(decide (a.take a.length=b.take a.length)||decide (a.take a.length=b.reverse.take a.length)):=by
 unfold nP;rw[decide_eq_true hl,xY,Ko (show b.length<=a.length by omega),Ko (show b.reverse.length<=a.length by rw[List.length_reverse];omega),BM]
theorem Ry{a b:List P2}(hl:¬ a.length=b.length):nP a b=false:=by
 unfold nP;rw[decide_eq_false hl,PI]
theorem wo{l:List P2}(h:∀p∈l,aF p)(i:Nat):aF (l.getD i P0):=by
 by_cases hi:i<l.length
 .have:l.getD i P0=l[i]:=by simp[iI,hi]
  rw[this];exact h _ (wW hi)
 .have:l.getD i P0=P0:=by simp[iI,Nat.le_of_not_lt hi]
  rw[this];exact⟨by decide +kernel,by decide +kernel⟩
abbrev fZ(a b c:P2):Rat:=cD a.1 a.2 b.1 b.2 c.1 c.2
abbrev PK(a b c:P2):Rat:=cU a.1 a.2 b.1 b.2 c.1 c.2
abbrev PU(a b c:P2):Rat:=cV a.1 a.2 b.1 b.2 c.1 c.2
def Vh(a b c:P2):Rat:=a.1+PK a b c/(fZ a b c+fZ a b c)
def WJ(a b c:P2):Rat:=a.2+PU a b c/(fZ a b c+fZ a b c)
def GN(a b c:P2):Rat:=PK a b c/(fZ a b c+fZ a b c)*(PK a b c/(fZ a b c+fZ a b c))+PU a b c/(fZ a b c+fZ a b c)*(PU a b c/(fZ a b c+fZ a b c))
@[reducible] def ctr(a b c:P2):P2:=(Vh a b c,WJ a b c)
abbrev uS(k:P2)(q:Rat)(p:P2):Prop:=(p.1-k.1)*(p.1-k.1)+(p.2-k.2)*(p.2-k.2)=q
def V7(k:P2)(q:Rat)(cw:Bool)(a c p:P2):Bool:=decide (uS k q p)&&decide ((if cw=true then uf k c p a else uf k a p c)<=0)
def JH(k:P2)(cw:Bool)(f p q:P2):Int:=if cw=true then ny (wI k) (wI f) (wI p) (wI q)else ny k f p q
def UO(k:P2)(q:Rat)(cw:Bool)(a c p:P2):Bool:=decide (uS k q p)&&(decide (JH k cw a a p<=0)&&decide (JH k cw a p c<=0))
theorem Gh{x y X Y Q:Rat}:decide (-(aN ((x-X)*(x-X)+(y-Y)*(y-Y)-Q))=0)=decide (uS (X,Y) Q (x,y)):=by
 rw[decide_eq_decide];constructor
 .intro h;have:=(fE (a:=(x-X)*(x-X)+(y-Y)*(y-Y)-Q)).1 ω;unfold uS;simp only;grind
 .intro h;unfold uS at h;simp only at h;have:aN ((x-X)*(x-X)+(y-Y)*(y-Y)-Q)=0:=fE.2 ν;omega
theorem VN(a b:Rat):qI a b 0=aN a:=by
 unfold qI;have:aN b*aN 0=0:=by rw[fE.2 rfl];omega
 rw[if_pos (.inr this)]
set_option synthInstance.maxSize 4000 in
set_option synthInstance.maxHeartbeats 400000 in
theorem sK{a b c:P2}(h1:aF a)(h2:aF b)(h3:aF c):rz (Vh a b c)<=7000/\rz (WJ a b c)<=7000/\rz (GN a b c)<=27000:=by
 obtain⟨a1,a2⟩:=a;obtain⟨b1,b2⟩:=b;obtain⟨c1,c2⟩:=c;have i1:RzB a1 12:=⟨h1.1⟩
 have i2:RzB a2 12:=⟨h1.2⟩
 have i3:RzB b1 12:=⟨h2.1⟩
 have i4:RzB b2 12:=⟨h2.2⟩
 have i5:RzB c1 12:=⟨h3.1⟩
 have i6:RzB c2 12:=⟨h3.2⟩
 simp only[Vh,WJ,GN,PK,PU,fZ,cU,cV,cD];exact⟨dX ω,dX ω,dX ω⟩
theorem EU(a b c:P2):fB a b c=fZ a b c:=by unfold fB fZ cD;grind
theorem I5{a b c:P2}(h:¬fZ a b c=0):uS (ctr a b c) (GN a b c) a/\uS (ctr a b c) (GN a b c) b/\uS (ctr a b c) (GN a b c) c/\0<GN a b c :=
 ⟨Vg h rfl rfl,XR h rfl rfl,X3 h rfl rfl,WV h⟩
theorem Ri{a b c p:P2}(h:¬fZ a b c=0):uS (ctr a b c) (GN a b c) p↔PK a b c*(p.1-a.1)+PU a b c*(p.2-a.2)=fZ a b c*((p.1-a.1)*(p.1-a.1)+(p.2-a.2)*(p.2-a.2)):=by
 have h2:=zY h;unfold uS ctr Vh WJ GN;generalize fZ a b c=D at *;generalize PK a b c=U at *;generalize PU a b c=V at *;obtain⟨a1,a2⟩:=a;obtain⟨p1,p2⟩:=p;simp only;have e1:U/(D+D)*(D+D)=U:=ν
 have e2:V/(D+D)*(D+D)=V:=ν
 generalize U/(D+D)=u at *;generalize V/(D+D)=v at *;subst e1 e2;constructor
 .intro e;have e3:u*(p1-a1)+u*(p1-a1)+(v*(p2-a2)+v*(p2-a2))=(p1-a1)*(p1-a1)+(p2-a2)*(p2-a2):=ν
  have e4:D*(u*(p1-a1)+u*(p1-a1)+(v*(p2-a2)+v*(p2-a2)))=D*((p1-a1)*(p1-a1)+(p2-a2)*(p2-a2)):=by rw[e3]
  grind
 .intro e;have e4:D*((u*(p1-a1)+u*(p1-a1)+(v*(p2-a2)+v*(p2-a2)))-((p1-a1)*(p1-a1)+(p2-a2)*(p2-a2)))=0:=ν
  rcases Rat.mul_eq_zero.1 e4 with h3|h3
  .exact absurd h3 h
  .grind
theorem y9(a:Int):gB (-a) = -gB a:=by unfold gB;(repeat' split)<;>omega
theorem JG(k p:P2):dw k p p=0:=by
 have:=gJ k p p;omega
theorem OJ(k p:P2):AU k p p=0:=by unfold AU;rw[JG];rfl
theorem WI(k f p:P2):0<=AU k f p:=by unfold AU;(repeat' split)<;>omega
theorem IL(k f p:P2):0<=AU k f p/\AU k f p<=2:=by unfold AU;(repeat' split)<;>omega
theorem Dh(k f p q:P2):uf k f p q = -uf k f q p:=by
 unfold uf;rw[gJ k p q]
 by_cases h:AU k f p=AU k f q
 .rw[if_pos h,if_pos h.symm,y9]
 .rw[if_neg h,if_neg (λe=>h e.symm),<-y9];congr 1;omega
theorem zC(k f q:P2):uf k f f q<=0:=by
 unfold uf;rw[OJ];have:=WI k f q;split
 .rename_i e
  have h0:dw k q f=0:=by
   unfold AU at e
   (repeat' split at e)<;>first|assumption|omega
  rw[gJ,h0];decide
 .rw[Eo];omega
theorem Dz(k f q:P2):uf k f q q<=0:=by
 have:=Dh k f q q;omega
theorem Qd{k f p q:P2}(h:uf k f p q=0):dw k p q=0:=by
 unfold uf at h;split at h
 .exact sU.1 h
 .rw[sU]at h;omega
theorem cwE{a b c d e f:Rat}:decide (dG ((c-a)*(f-b)) ((d-b)*(e-a))>0)=decide (0<cD a b c d e f):=by
 rw[decide_eq_decide,DN];unfold cD;constructor<;>intro h<;>grind
theorem cwF{a b c d e f:Rat}:decide ((d-b)*(e-a)<(c-a)*(f-b))=decide (0<cD a b c d e f):=by
 rw[decide_eq_decide];unfold cD;constructor<;>intro h<;>grind
theorem cwR{a b c d e f:Rat}(h:¬cD a b c d e f=0):decide (dG ((c-a)*(f-b)) ((d-b)*(e-a))<0) = !decide (0<cD a b c d e f):=by
 rw[<-decide_not,decide_eq_decide,wP];unfold cD at *;constructor<;>intro h<;>grind
theorem U2{k a p c:P2}{q:Rat}(hq:0<q)(e1:uS k q a)(e2:uS k q p)(e3:uS k q c)(h1:p≠a)(h2:p≠c)(h3:a≠c):fB a p c≠0:=by
 have n1:=Qw hq e1;have n2:=Qw hq e2;have n3:=Qw hq e3;have d1:dw k a p≠0:=λg=>h1 (oM e1 e2 n1 n2 g).symm
 have d2:dw k p c≠0:=λg=>h2 (oM e2 e3 n2 n3 g)
 have d3:dw k a c≠0:=λg=>h3 (oM e1 e3 n1 n3 g)
 have a1:=gJ k a p;have a2:=gJ k p c;have a3:=gJ k a c;have x1:fB a c p = -fB a p c:=by unfold fB;grind
 have x2:fB c a p=fB a p c:=by unfold fB;grind
 have x3:fB p a c = -fB a p c:=by unfold fB;grind
 have x4:fB p c a=fB a p c:=by unfold fB;grind
 have x5:fB c p a = -fB a p c:=by unfold fB;grind
 intro hz;have l1:dw k a p<0->dw k p c<0->False:=λg1 g2=>by have:=SG e1 e2 e3 n1 n2 n3 g1 g2;grind
 have l2:dw k a c<0->dw k c p<0->False:=λg1 g2=>by have:=SG e1 e3 e2 n1 n3 n2 g1 g2;grind
 have l3:dw k c a<0->dw k a p<0->False:=λg1 g2=>by have:=SG e3 e1 e2 n3 n1 n2 g1 g2;grind
 have l4:dw k p a<0->dw k a c<0->False:=λg1 g2=>by have:=SG e2 e1 e3 n2 n1 n3 g1 g2;grind
 have l5:dw k p c<0->dw k c a<0->False:=λg1 g2=>by have:=SG e2 e3 e1 n2 n3 n1 g1 g2;grind
 have l6:dw k c p<0->dw k p a<0->False:=λg1 g2=>by have:=SG e3 e2 e1 n3 n2 n1 g1 g2;grind
 clear e1 e2 e3 n1 n2 n3 x1 x2 x3 x4 x5 hz;generalize dw k a p=A at *;generalize dw k p c=B at *;generalize dw k a c=C at *;generalize dw k p a=A' at *;generalize dw k c p=B' at *;generalize dw k c a=C' at *
 by_cases g1:A<0<;>by_cases g2:B<0<;>by_cases g3:C<0
 .exact l1 g1 g2
 .exact l1 g1 g2
 .exact l2 g3 ω
 .exact l3 ω g1
 .exact l4 ω g3
 .exact l5 g2 ω
 .exact l6 ω ω
 .exact l6 ω ω
theorem Dq{k a p c:P2}{q:Rat}(hq:0<q)(e1:uS k q a)(e2:uS k q p)(e3:uS k q c)(h3:a≠c):uf k a p c<=0↔(p=a\/p=c\/0<fB a p c):=by
 have n1:=Qw hq e1;have n2:=Qw hq e2;have n3:=Qw hq e3;constructor
 .intro h
  by_cases h1:p=a
  .exact .inl h1
  by_cases h2:p=c
  .exact .inr (.inl h2)
  refine .inr (.inr ?_);have hne:=U2 hq e1 e2 e3 h1 h2 h3;refine Decidable.byContradiction λhn=>?_
  have hx:0<fB a c p:=by
   have:fB a c p = -fB a p c:=by unfold fB;grind
   grind
  have h4:=GU e1 e3 e2 n1 n3 n2 hx;have h5:=Dh k a p c;have h6:uf k a p c=0:=ω
  exact h2 (oM e2 e3 n2 n3 (Qd h6))
 .rintro (rfl|rfl|h)
  .exact zC k p c
  .exact Dz k a p
  .exact GU e1 e2 e3 n1 n2 n3 h
theorem G6(a b c:P2):fZ c b a = -fZ a b c:=by unfold fZ cD;grind
theorem Hy{a b c p:P2}(h:¬fZ a b c=0):V7 (ctr a b c) (GN a b c) (!decide (0<fZ a b c)) a c p=uD a b c p:=by
 obtain⟨e1,e2,e3,hq⟩:=I5 h;have hac:a≠c:=λe=>h (by subst e;unfold fZ cD;grind)
 unfold V7 uD;rw[vG];simp only[bY,decide_eq_true_eq,ne_eq];rw[<-Ri (p:=p) h]
 have key:∀ep:uS (ctr a b c) (GN a b c) p,((if(!decide (0<fZ a b c))=true then uf (ctr a b c) c p a else uf (ctr a b c) a p c)<=0↔(p=a\/p=c\/0<fB a p c*fB a b c)):=by
  intro ep;rw[EU a b c]
  by_cases hd:0<fZ a b c
  .rw[if_neg (by simp[hd]),Dq hq e1 ep e3 hac]
   have:0<fB a p c↔0<fB a p c*fZ a b c:=⟨λh=>sH h hd,λh=>by
    refine Decidable.byContradiction λhn=>?_
    have:=rF (show 0≤-fB a p c by grind) (show 0<=fZ a b c by grind)
    grind⟩
   rw[this]
  .have hd':fZ a b c<0:=ν
   rw[if_pos (by simp[hd]),Dq hq e3 ep e1 (λe=>hac e.symm)];have hx:fB c p a = -fB a p c:=by unfold fB;grind
   have:0<fB c p a↔0<fB a p c*fZ a b c:=⟨λh=>by
    have:=sH (show 0 < -fB a p c by grind) (show 0 < -fZ a b c by grind)
    grind,λh=>by
    refine Decidable.byContradiction λhn=>?_
    have:=rF (show 0<=fB a p c by grind) (show 0≤-fZ a b c by grind)
    grind⟩
   rw[this];constructor
   .rintro (h|h|h)
    .exact .inr (.inl h)
    .exact .inl h
    .exact .inr (.inr h)
   .rintro (h|h|h)
    .exact .inr (.inl h)
    .exact .inl h
    .exact .inr (.inr h)
 constructor
 .rintro ⟨g1,g2⟩;exact⟨h,g1,(key g1).1 g2⟩
 .rintro ⟨_,g1,g2⟩;exact⟨g1,(key g1).2 g2⟩
theorem Qy{k a c p:P2}{q:Rat}{cw:Bool}(hq:0<q)(e1:uS k q a)(e3:uS k q c):UO k q cw a c p=V7 k q cw a c p:=by
 unfold UO V7 JH;rw[vG];simp only[bY,decide_eq_true_eq]
 have key:∀ep:uS k q p,(((if cw=true then ny (wI k) (wI a) (wI a) (wI p)else ny k a a p)<=0/\(if cw=true then ny (wI k) (wI a) (wI p) (wI c)else ny k a p c)<=0)↔(if cw=true then uf k c p a else uf k a p c)<=0):=by
  intro ep;have n1:=Qw hq e1;have n2:=Qw hq ep;have n3:=Qw hq e3;cases cw with
  |false =>
   simp only[uj,if_false];rw[Gp,Gp];exact⟨λh=>h.2,λh=>⟨zC k a p,h⟩⟩
  |true =>
   simp only[if_true];rw[GH n1 n1 n2 (Kt e1 e1) (Kt e1 e1) (Kt e1 ep) (Kt ep e1) (Kt e1 ep) (Kt ep e1),GH n1 n2 n3 (Kt e1 ep) (Kt ep e1) (Kt e1 e3) (Kt e3 e1) (Kt ep e3) (Kt e3 ep)];exact⟨λh=>h.2,λh=>⟨Dz k p a,h⟩⟩
 constructor
 .rintro ⟨g1,g2⟩;exact⟨g1,(key g1).1 g2⟩
 .rintro ⟨g1,g2⟩;exact⟨g1,(key g1).2 g2⟩
end Go.Sw
namespace Go.Proofs.YtmniihkenijjpaaGreatDoor
open Go Go.RowKit Go.Sw
set_option maxRecDepth 100000
set_option maxHeartbeats 16000000
set_option synthInstance.maxSize 4000
set_option synthInstance.maxHeartbeats 400000
instance abo(a b c:Rat):DenI Tryz.prog 269 [R a,R b,R c] (rz a<=1000000/\rz b<=1000000/\rz c<=1000000) (.int .i64 (qI a b c)):=⟨λhp=>by
 have i_a:RzB a 1000000:=⟨hp.1⟩
 have i_b:RzB b 1000000:=⟨hp.2.1⟩
 have i_c:RzB c 1000000:=⟨hp.2.2⟩
 all_goals refine au Tryz.func269 rfl ?_
 all_goals(repeat'((try(conv=>whnf));first
  |apply zaf|refine zaa ?_ ?_|(with_reducible first|apply zab|apply zac|refine zad (λ_=>?_) (λ_=>?_))|refine zas ζ ?_|apply zaq))
 all_goals(try apply zar)
 all_goals(try simp only[aW]at *)
 all_goals(try simp only[adT,adh]at *)
 all_goals first
  |with_reducible exact acZ ξ|with_reducible exact acD ξ|with_reducible exact adS ξ ξ ξ|with_reducible exact abL ξ ξ ξ|exact zav⟩
instance aaZ(a b c f:Rat):DenI Tryz.prog 301 [R a,R b,R c,R f] (rz a<=40000/\rz b<=40000/\rz c<=40000/\rz f<=40000) (Ov (dW a b c f)):=⟨λhp=>by
 have i_a:RzB a 40000:=⟨hp.1⟩
 have i_b:RzB b 40000:=⟨hp.2.1⟩
 have i_c:RzB c 40000:=⟨hp.2.2.1⟩
 have i_f:RzB f 40000:=⟨hp.2.2.2⟩
 all_goals refine au Tryz.func301 rfl ?_
 all_goals(repeat'((try(conv=>whnf));first
  |refine zaa ?_ ?_|(with_reducible first|apply zab|apply zac)|refine zat (λ_=>?_) (λ_=>?_)|refine zas ζ ?_|apply zaq))
 all_goals(try apply zar)
 all_goals(try simp only[Prod.eta]at *)
 all_goals first
  |omega|(have z1:=Ep a b c;have z2:=gV f;unfold Ai at *;omega)|(refine aaR (Rn ?_);first|exact .inl ξ|exact .inr ξ)|(refine uo ?_ (congrArg Ov (U4 ξ ξ));rfl)⟩
instance Zd(X Y Q ax bx ay bb c:Rat):DenI Tryz.prog 268 [Q3 X Y Q,Q5 ax bx ay bb c] (rz X<=40000/\rz Y<=40000/\rz Q<=40000/\rz ax<=40000/\rz bx<=40000/\rz ay<=40000/\rz bb<=40000/\rz c<=40000) (.tup [.int .i64 (iM ax bx ay bb c X Y Q).1,.bool (iM ax bx ay bb c X Y Q).2]):=⟨λhp=>by
 have i_X:RzB X 40000:=⟨hp.1⟩
 have i_Y:RzB Y 40000:=⟨hp.2.1⟩
 have i_Q:RzB Q 40000:=⟨hp.2.2.1⟩
 have i_ax:RzB ax 40000:=⟨hp.2.2.2.1⟩
 have i_bx:RzB bx 40000:=⟨hp.2.2.2.2.1⟩
 have i_ay:RzB ay 40000:=⟨hp.2.2.2.2.2.1⟩
 have i_bb:RzB bb 40000:=⟨hp.2.2.2.2.2.2.1⟩
 have i_c:RzB c 40000:=⟨hp.2.2.2.2.2.2.2⟩
 all_goals refine au Tryz.func268 rfl ?_
 all_goals(repeat'((try(conv=>whnf));first
  |apply zaf|refine zaa ?_ ?_|(with_reducible first|apply zab|apply zac)|refine zat (λ_=>?_) (λ_=>?_)|refine zas ζ ?_|apply zaq))
 all_goals(try apply zar)
 all_goals(try simp only[Prod.eta]at *)
 all_goals first
  |omega|(have z1:=CB ax bx c X;have z2:=CB ay bb c Y;have z3:=gV Q;unfold Ai at *;omega)|(have z1:=uZ ((dW ax bx c X).getD (0,0)) ((dW ax bx c X).getD (0,0));have z2:=uZ ((dW ay bb c Y).getD (0,0)) ((dW ay bb c Y).getD (0,0));have z3:=gV Q;have z4:=AO z1 z2;unfold Ai at *;omega)|(refine adO (adC ?_);first|exact .inl ξ|exact .inr (.inl ξ)|exact .inr (.inr ξ))|(rw[Yp (ax:=ax) (bx:=bx) (ay:=ay) (bb:=bb) (c:=c) (X:=X) (Y:=Y) (Q:=Q) ξ ξ ξ rfl rfl rfl];generalize(dW ax bx c X).getD (0,0)=u at *;generalize(dW ay bb c Y).getD (0,0)=v at *;generalize(bZ Q).getD (0,0)=w at *;rcases k1:nS u u with _|s<;>rcases k2:nS v v with _|t<;>first|rfl|(exfalso;simp_all;done)|(simp only[k1,k2,uJ,Option.isSome_some]at *;rcases k3:pY s t with _|m<;>first|rfl|(exfalso;simp_all;done)|(simp only[k3,uJ,Option.isSome_some]at *;rcases k4:pY m (-w.2,-w.1)with _|r<;>first|rfl|(exfalso;simp_all;done))))⟩
instance aas(X Y Q ax bx ay bb c:Rat):DenI Tryz.prog 238 [Q3 X Y Q,Q5 ax bx ay bb c] (rz X<=7000/\rz Y<=7000/\rz Q<=27000/\rz ax<=12/\rz bx<=12/\rz ay<=12/\rz bb<=12/\rz c<=12) (.int .i64 (-(qI ((ax-X)*(ax-X)+(ay-Y)*(ay-Y)+c*(bx*bx+bb*bb)-Q) ((ax-X)*bx+(ay-Y)*bb+((ax-X)*bx+(ay-Y)*bb)) c))):=⟨λhp=>by
 obtain⟨q0,q1,q2,q3,q4,q5,q6,q7⟩:=hp;have i_X:RzB X 7000:=⟨q0⟩
 have i_Y:RzB Y 7000:=⟨q1⟩
 have i_Q:RzB Q 27000:=⟨q2⟩
 have i_ax:RzB ax 12:=⟨q3⟩
 have i_bx:RzB bx 12:=⟨q4⟩
 have i_ay:RzB ay 12:=⟨q5⟩
 have i_bb:RzB bb 12:=⟨q6⟩
 have i_c:RzB c 12:=⟨q7⟩
 all_goals refine au Tryz.func238 rfl ?_
 all_goals(repeat'((try(conv=>whnf));first
  |refine zaa ?_ ?_|refine zat (λ_=>?_) (λ_=>?_)|refine zas ζ ?_|apply zaq))
 all_goals(try apply zar)
 all_goals first
  |(exact Y6 ξ (Tq ξ) (BH _ _ _).1 (BH _ _ _).2)|(refine Zg ?_;rfl)|exact zav⟩
instance afo(X Y Q x y:Rat):DenI Tryz.prog 238 [Q3 X Y Q,Q5 x 0 y 0 0] (rz X<=7000/\rz Y<=7000/\rz Q<=27000/\rz x<=12/\rz y<=12) (.int .i64 (-(aN ((x-X)*(x-X)+(y-Y)*(y-Y)-Q)))):=⟨λ⟨h1,h2,h3,h4,h5⟩=>by
 have h:=(aas X Y Q x 0 y 0 0).den ⟨h1,h2,h3,h4,by decide +kernel,h5,by decide +kernel,by decide +kernel⟩;rw[VN,show(x-X)*(x-X)+(y-Y)*(y-Y)+0*(0*0+0*0)-Q=(x-X)*(x-X)+(y-Y)*(y-Y)-Q by grind]at h
 exact h⟩
@[reducible] def yH(X Y Q:Rat)(cw:Bool)(a b e f:Rat):List Cell:=[.v (.bool true),zs (0:Rat).num,zl (0:Rat).num,zs (0:Rat).den,zl (0:Rat).den,zs (0:Rat).num,zl (0:Rat).num,zs (0:Rat).den,zl (0:Rat).den,zs (0:Rat).num,zl (0:Rat).num,zs (0:Rat).den,zl (0:Rat).den,zs X.num,zl X.num,zs X.den,zl X.den,zs Y.num,zl Y.num,zs Y.den,zl Y.den,zs Q.num,zl Q.num,zs Q.den,zl Q.den,.v (.bool cw),zs a.num,zl a.num,zs a.den,zl a.den,zs (0:Rat).num,zl (0:Rat).num,zs (0:Rat).den,zl (0:Rat).den,zs b.num,zl b.num,zs b.den,zl b.den,zs (0:Rat).num,zl (0:Rat).num,zs (0:Rat).den,zl (0:Rat).den,zs (0:Rat).num,zl (0:Rat).num,zs (0:Rat).den,zl (0:Rat).den,zs e.num,zl e.num,zs e.den,zl e.den,zs (0:Rat).num,zl (0:Rat).num,zs (0:Rat).den,zl (0:Rat).den,zs f.num,zl f.num,zs f.den,zl f.den,zs (0:Rat).num,zl (0:Rat).num,zs (0:Rat).den,zl (0:Rat).den,zs (0:Rat).num,zl (0:Rat).num,zs (0:Rat).den,zl (0:Rat).den]
@[reducible] def xk(X Y Q:Rat)(cw:Bool)(a b e f:Rat):List Cell:=[.v (.bool true),.v (.bool false),.sl 1 [],.v (.bool false),.sl 1 [],.v (.bool false),.sl 1 [],.v (.bool false),.sl 1 [],.v (.bool false),.sl 1 [],.v (.bool false),.sl 1 [],zs X.num,zl X.num,zs X.den,zl X.den,zs Y.num,zl Y.num,zs Y.den,zl Y.den,zs Q.num,zl Q.num,zs Q.den,zl Q.den,.v (.bool cw),zs a.num,zl a.num,zs a.den,zl a.den,zs (0:Rat).num,zl (0:Rat).num,zs (0:Rat).den,zl (0:Rat).den,zs b.num,zl b.num,zs b.den,zl b.den,zs (0:Rat).num,zl (0:Rat).num,zs (0:Rat).den,zl (0:Rat).den,zs (0:Rat).num,zl (0:Rat).num,zs (0:Rat).den,zl (0:Rat).den,zs e.num,zl e.num,zs e.den,zl e.den,zs (0:Rat).num,zl (0:Rat).num,zs (0:Rat).den,zl (0:Rat).den,zs f.num,zl f.num,zs f.den,zl f.den,zs (0:Rat).num,zl (0:Rat).num,zs (0:Rat).den,zl (0:Rat).den,zs (0:Rat).num,zl (0:Rat).num,zs (0:Rat).den,zl (0:Rat).den]
instance afX:DenI Tryz.prog 367 [] (True) (R 0):=⟨λhp=>by
 refine au Tryz.func367 rfl ?_
 all_goals(repeat'((try(conv=>whnf));first
  |refine zaa ?_ ?_|apply zaq))
 all_goals(try apply zar)
 all_goals first
  |rfl|omega⟩
instance adt(a:Rat):DenI Tryz.prog 358 [R a] (rz a<=4000000) (Q3 a 0 0):=⟨λhp=>by
 have i_a:RzB a 4000000:=⟨hp⟩
 all_goals refine au Tryz.func358 rfl ?_
 all_goals(repeat'((try(conv=>whnf));first
  |apply zaf|refine zas ζ ?_|apply zaq))
 all_goals first
  |rfl⟩
instance afN:DenI Tryz.prog 208 [] (True) (R 0):=⟨λhp=>by
 refine au Tryz.func208 rfl ?_
 all_goals(repeat'((try(conv=>whnf));first
  |refine zaa ?_ ?_|apply zaq))
 all_goals(try apply zar)
 all_goals first
  |rfl|omega⟩
instance afG(a b:Rat):DenI Tryz.prog 167 [Q2 a b] (rz a<=4000000/\rz b<=4000000) (Q5 a 0 b 0 0):=⟨λhp=>by
 have i_a:RzB a 4000000:=⟨hp.1⟩
 have i_b:RzB b 4000000:=⟨hp.2⟩
 all_goals refine au Tryz.func167 rfl ?_
 all_goals(repeat'((try(conv=>whnf));first
  |apply zaf|refine zas ζ ?_|apply zaq))
 all_goals first
  |rfl⟩
instance aeX(a:Rat):DenI Tryz.prog 313 [R a,R 0,R 0] (rz a<=4000000) (Q3 a 0 0):=⟨λhp=>by
 have i_a:RzB a 4000000:=⟨hp⟩
 all_goals refine au Tryz.func313 rfl ?_
 all_goals(repeat'((try(conv=>whnf));first
  |apply zaf|(with_reducible refine zad (λ_=>?_) (λ_=>?_))|apply zaq))
 all_goals(try simp only[aW]at *)
 all_goals first
  |rfl⟩
instance q_x(a d:Rat):DenI Tryz.prog 272 [Q5 a 0 d 0 0] (rz a<=4000000/\rz d<=4000000) (Q3 a 0 0):=⟨λhp=>by
 have i_a:RzB a 4000000:=⟨hp.1⟩
 have i_d:RzB d 4000000:=⟨hp.2⟩
 all_goals refine au Tryz.func272 rfl ?_
 all_goals(repeat'((try(conv=>whnf));first
  |refine zaa ?_ ?_|apply zaq))
 all_goals(try apply zar)
 all_goals first
  |rfl|exact zav⟩
instance q_y(a d:Rat):DenI Tryz.prog 273 [Q5 a 0 d 0 0] (rz a<=4000000/\rz d<=4000000) (Q3 d 0 0):=⟨λhp=>by
 have i_a:RzB a 4000000:=⟨hp.1⟩
 have i_d:RzB d 4000000:=⟨hp.2⟩
 all_goals refine au Tryz.func273 rfl ?_
 all_goals(repeat'((try(conv=>whnf));first
  |refine zaa ?_ ?_|apply zaq))
 all_goals(try apply zar)
 all_goals first
  |rfl|exact zav⟩
instance aem(a d:Rat):DenI Tryz.prog 271 [Q3 a 0 0,Q3 d 0 0] (rz a<=4000000/\rz d<=4000000) (.int .i64 (dG a d)):=⟨λhp=>by
 have i_a:RzB a 4000000:=⟨hp.1⟩
 have i_d:RzB d 4000000:=⟨hp.2⟩
 all_goals refine au Tryz.func271 rfl ?_
 all_goals(repeat'((try(conv=>whnf));first
  |apply zaf|refine zaa ?_ ?_|(with_reducible first|apply zab|apply zac|refine zad (λ_=>?_) (λ_=>?_))|apply zaq))
 all_goals(try apply zar)
 all_goals(try simp only[aW]at *)
 all_goals first
  |rfl|exact zav|(exfalso;simp_all;done)⟩
instance adP(a d:Rat):DenI Tryz.prog 339 [Q3 a 0 0,R d] (rz a<=4000000/\rz d<=4000000) (.int .i64 (dG a d)):=⟨λhp=>by
 have i_a:RzB a 4000000:=⟨hp.1⟩
 have i_d:RzB d 4000000:=⟨hp.2⟩
 all_goals refine au Tryz.func339 rfl ?_
 all_goals(repeat'((try(conv=>whnf));first
  |refine zaa ?_ ?_|refine zas ζ ?_|apply zaq))
 all_goals(try apply zar)
 all_goals first
  |rfl|exact zav⟩
instance abM(X Y Q x y:Rat):DenI Tryz.prog 314 [Q3 X Y Q,Q5 x 0 y 0 0] (rz X<=1000000/\rz Y<=1000000/\rz Q<=1000000/\rz x<=1000000/\rz y<=1000000) (.int .i64 (hf (X,Y) (x,y))):=⟨λhp=>by
 have i_X:RzB X 1000000:=⟨hp.1⟩
 have i_Y:RzB Y 1000000:=⟨hp.2.1⟩
 have i_Q:RzB Q 1000000:=⟨hp.2.2.1⟩
 have i_x:RzB x 1000000:=⟨hp.2.2.2.1⟩
 have i_y:RzB y 1000000:=⟨hp.2.2.2.2⟩
 all_goals refine au Tryz.func314 rfl ?_
 all_goals(repeat'((try(conv=>whnf));first
  |refine zaa ?_ ?_|(with_reducible first|apply zab|apply zac|refine zad (λ_=>?_) (λ_=>?_))|refine zas ζ ?_|apply zaq))
 all_goals(try apply zar)
 all_goals(try simp only[aW]at *)
 all_goals first
  |(refine iE ?_;unfold hf;grind)|exact zav⟩
instance adU(X Y Q x y u v:Rat):DenI Tryz.prog 277 [Q3 X Y Q,Q5 x 0 y 0 0,Q5 u 0 v 0 0] (rz X<=1000000/\rz Y<=1000000/\rz Q<=1000000/\rz x<=1000000/\rz y<=1000000/\rz u<=1000000/\rz v<=1000000) (.int .i64 (dw (X,Y) (x,y) (u,v))):=⟨λhp=>by
 have i_X:RzB X 1000000:=⟨hp.1⟩
 have i_Y:RzB Y 1000000:=⟨hp.2.1⟩
 have i_Q:RzB Q 1000000:=⟨hp.2.2.1⟩
 have i_x:RzB x 1000000:=⟨hp.2.2.2.1⟩
 have i_y:RzB y 1000000:=⟨hp.2.2.2.2.1⟩
 have i_u:RzB u 1000000:=⟨hp.2.2.2.2.2.1⟩
 have i_v:RzB v 1000000:=⟨hp.2.2.2.2.2.2⟩
 have z1:=qm (X,Y) (x,y);have z2:=qm (X,Y) (u,v);have z3:=nD x u
 all_goals refine au Tryz.func277 rfl ?_
 all_goals(repeat'((try(conv=>whnf));first
  |refine zaa ?_ ?_|(with_reducible first|refine zad (λ_=>?_) (λ_=>?_)|refine zae (λ_=>?_) (λ_=>?_))|refine zas ζ ?_|apply zaq))
 all_goals(try apply zar)
 all_goals first
  |(refine iE ?_;(try rw[aS ω ω]);unfold dw;grind)|exact zav⟩
instance afi(X Y Q x y u v:Rat):DenI Tryz.prog 275 [Q3 X Y Q,Q5 x 0 y 0 0,Q5 u 0 v 0 0] (rz X<=1000000/\rz Y<=1000000/\rz Q<=1000000/\rz x<=1000000/\rz y<=1000000/\rz u<=1000000/\rz v<=1000000) (.int .i64 (AU (X,Y) (x,y) (u,v))):=⟨λhp=>by
 have i_X:RzB X 1000000:=⟨hp.1⟩
 have i_Y:RzB Y 1000000:=⟨hp.2.1⟩
 have i_Q:RzB Q 1000000:=⟨hp.2.2.1⟩
 have i_x:RzB x 1000000:=⟨hp.2.2.2.1⟩
 have i_y:RzB y 1000000:=⟨hp.2.2.2.2.1⟩
 have i_u:RzB u 1000000:=⟨hp.2.2.2.2.2.1⟩
 have i_v:RzB v 1000000:=⟨hp.2.2.2.2.2.2⟩
 all_goals refine au Tryz.func275 rfl ?_
 all_goals(repeat'((try(conv=>whnf));first
  |refine zaa ?_ ?_|(with_reducible refine zad (λ_=>?_) (λ_=>?_))|apply zaq))
 all_goals(try apply zar)
 all_goals first
  |(refine iE ?_;unfold AU;grind)|exact zav⟩
instance aeo(n:Int):DenI Tryz.prog 276 [.int .i64 n] (True) (.int .i64 (gB n)):=⟨λhp=>by
 refine au Tryz.func276 rfl ?_
 all_goals(repeat'((try(conv=>whnf));first
  |apply zaq))
 all_goals first
  |(refine iE ?_;simp only[PN,List.foldl_nil];unfold gB;(repeat' split)<;>omega)⟩
instance afA(X Y Q x y u v s t:Rat):DenI Tryz.prog 242 [Q3 X Y Q,Q5 x 0 y 0 0,Q5 u 0 v 0 0,Q5 s 0 t 0 0] (rz X<=1000000/\rz Y<=1000000/\rz Q<=1000000/\rz x<=1000000/\rz y<=1000000/\rz u<=1000000/\rz v<=1000000/\rz s<=1000000/\rz t<=1000000) (.int .i64 (uf (X,Y) (x,y) (u,v) (s,t))):=⟨λhp=>by
 have i_X:RzB X 1000000:=⟨hp.1⟩
 have i_Y:RzB Y 1000000:=⟨hp.2.1⟩
 have i_Q:RzB Q 1000000:=⟨hp.2.2.1⟩
 have i_x:RzB x 1000000:=⟨hp.2.2.2.1⟩
 have i_y:RzB y 1000000:=⟨hp.2.2.2.2.1⟩
 have i_u:RzB u 1000000:=⟨hp.2.2.2.2.2.1⟩
 have i_v:RzB v 1000000:=⟨hp.2.2.2.2.2.2.1⟩
 have i_s:RzB s 1000000:=⟨hp.2.2.2.2.2.2.2.1⟩
 have i_t:RzB t 1000000:=⟨hp.2.2.2.2.2.2.2.2⟩
 have z4:=IL (X,Y) (x,y) (u,v);have z5:=IL (X,Y) (x,y) (s,t)
 all_goals refine au Tryz.func242 rfl ?_
 all_goals(repeat'((try(conv=>whnf));first
  |apply zaf|refine zaa ?_ ?_|(with_reducible refine zae (λ_=>?_) (λ_=>?_))|refine zas ζ ?_|apply zaq))
 all_goals(try apply zar)
 all_goals first
  |(refine iE ?_;unfold uf;rw[if_neg ξ,aS ω ω])|(refine iE ?_;unfold uf;rw[if_pos ξ])|exact zav⟩
instance aeN(X Y Q a b e f:Rat):DenI Tryz.prog 274 [.agg (yH X Y Q true a b e f)] (rz X<=1000000/\rz Y<=1000000/\rz Q<=1000000/\rz a<=1000000/\rz b<=1000000/\rz e<=1000000/\rz f<=1000000) (.agg (yH X Y Q false e f a b)):=⟨λhp=>by
 have i_X:RzB X 1000000:=⟨hp.1⟩
 have i_Y:RzB Y 1000000:=⟨hp.2.1⟩
 have i_Q:RzB Q 1000000:=⟨hp.2.2.1⟩
 have i_a:RzB a 1000000:=⟨hp.2.2.2.1⟩
 have i_b:RzB b 1000000:=⟨hp.2.2.2.2.1⟩
 have i_e:RzB e 1000000:=⟨hp.2.2.2.2.2.1⟩
 have i_f:RzB f 1000000:=⟨hp.2.2.2.2.2.2⟩
 all_goals refine au Tryz.func274 rfl ?_
 all_goals(repeat'((try(conv=>whnf));first
  |(with_reducible apply zab)|apply zaq))
 all_goals first
  |rfl⟩
instance acv(X Y Q a b e f:Rat):DenI Tryz.prog 241 [.agg (yH X Y Q true a b e f)] (rz X<=1000000/\rz Y<=1000000/\rz Q<=1000000/\rz a<=1000000/\rz b<=1000000/\rz e<=1000000/\rz f<=1000000) (.agg (yH X Y Q false e f a b)):=⟨λhp=>by
 have i_X:RzB X 1000000:=⟨hp.1⟩
 have i_Y:RzB Y 1000000:=⟨hp.2.1⟩
 have i_Q:RzB Q 1000000:=⟨hp.2.2.1⟩
 have i_a:RzB a 1000000:=⟨hp.2.2.2.1⟩
 have i_b:RzB b 1000000:=⟨hp.2.2.2.2.1⟩
 have i_e:RzB e 1000000:=⟨hp.2.2.2.2.2.1⟩
 have i_f:RzB f 1000000:=⟨hp.2.2.2.2.2.2⟩
 all_goals refine au Tryz.func241 rfl ?_
 all_goals(repeat'((try(conv=>whnf));first
  |refine zaa ?_ ?_|(with_reducible apply zab)|apply zaq))
 all_goals(try apply zar)
 all_goals first
  |rfl|exact zav⟩
instance adx(X Y Q a b e f:Rat):DenI Tryz.prog 241 [.agg (yH X Y Q false a b e f)] (rz X<=1000000/\rz Y<=1000000/\rz Q<=1000000/\rz a<=1000000/\rz b<=1000000/\rz e<=1000000/\rz f<=1000000) (.agg (yH X Y Q false a b e f)):=⟨λhp=>by
 have i_X:RzB X 1000000:=⟨hp.1⟩
 have i_Y:RzB Y 1000000:=⟨hp.2.1⟩
 have i_Q:RzB Q 1000000:=⟨hp.2.2.1⟩
 have i_a:RzB a 1000000:=⟨hp.2.2.2.1⟩
 have i_b:RzB b 1000000:=⟨hp.2.2.2.2.1⟩
 have i_e:RzB e 1000000:=⟨hp.2.2.2.2.2.1⟩
 have i_f:RzB f 1000000:=⟨hp.2.2.2.2.2.2⟩
 all_goals refine au Tryz.func241 rfl ?_
 all_goals(repeat'((try(conv=>whnf));first
  |(with_reducible apply zac)|apply zaq))
 all_goals first
  |rfl⟩
instance adp:DenI Tryz.prog 166 [] (True) (.agg [.v (.bool false),zs (0:Rat).num,zl (0:Rat).num,zs (0:Rat).den,zl (0:Rat).den,zs (0:Rat).num,zl (0:Rat).num,zs (0:Rat).den,zl (0:Rat).den,zs (0:Rat).num,zl (0:Rat).num,zs (0:Rat).den,zl (0:Rat).den,zs (0:Rat).num,zl (0:Rat).num,zs (0:Rat).den,zl (0:Rat).den,zs (0:Rat).num,zl (0:Rat).num,zs (0:Rat).den,zl (0:Rat).den,zs (0:Rat).num,zl (0:Rat).num,zs (0:Rat).den,zl (0:Rat).den,.v (.bool false),.v (.bool false),.sl 1 [],.v (.bool false),.sl 1 [],.v (.bool false),.sl 1 [],.v (.bool false),.sl 1 [],.v (.bool false),.sl 1 [],.v (.bool false),.sl 1 [],.v (.bool false),.sl 1 [],.v (.bool false),.sl 1 [],.v (.bool false),.sl 1 [],.v (.bool false),.sl 1 [],.v (.bool false),.sl 1 [],.v (.bool false),.sl 1 [],.v (.bool false),.sl 1 [],.v (.bool false),.sl 1 [],.v (.bool false),.sl 1 [],.v (.bool false),.sl 1 [],.v (.bool false),.sl 1 [],.v (.bool false),.sl 1 [],.v (.bool false),.sl 1 [],.v (.bool false),.sl 1 []]):=⟨λhp=>by
 refine au Tryz.func166 rfl ?_
 all_goals(repeat'((try(conv=>whnf));first
  |refine zaa ?_ ?_|apply zaq))
 all_goals(try apply zar)
 all_goals(try simp only[aW]at *)
 all_goals first
  |rfl|omega⟩
instance aee(a b c d e f:Rat):DenC Tryz.prog 125 [Q2 a b,Q2 c d,Q2 e f] (rz a<=100/\rz b<=100/\rz c<=100/\rz d<=100/\rz e<=100/\rz f<=100) (cD a b c d e f=0) (.tup [.agg [.v (.bool false),.v (.bool false),.sl 1 [],.v (.bool false),.sl 1 [],.v (.bool false),.sl 1 [],.v (.bool false),.sl 1 [],.v (.bool false),.sl 1 [],.v (.bool false),.sl 1 [],.v (.bool false),.sl 1 [],.v (.bool false),.sl 1 [],.v (.bool false),.sl 1 [],.v (.bool false),.sl 1 [],.v (.bool false),.sl 1 [],.v (.bool false),.sl 1 [],.v (.bool false),.v (.bool false),.sl 1 [],.v (.bool false),.sl 1 [],.v (.bool false),.sl 1 [],.v (.bool false),.sl 1 [],.v (.bool false),.sl 1 [],.v (.bool false),.sl 1 [],.v (.bool false),.sl 1 [],.v (.bool false),.sl 1 [],.v (.bool false),.sl 1 [],.v (.bool false),.sl 1 [],.v (.bool false),.sl 1 [],.v (.bool false),.sl 1 [],.v (.bool false),.sl 1 [],.v (.bool false),.sl 1 [],.v (.bool false),.sl 1 [],.v (.bool false),.sl 1 [],.v (.bool false),.sl 1 [],.v (.bool false),.sl 1 [],.v (.bool false),.sl 1 [],.v (.bool false),.sl 1 []],.int .i64 6]) (.tup [.agg (yH (Vh (a,b) (c,d) (e,f)) (WJ (a,b) (c,d) (e,f)) (GN (a,b) (c,d) (e,f)) (!decide (0<cD a b c d e f)) a b e f),.int .i64 0]):=⟨denC λhp q e1 e2=>by
 have i_a:RzB a 100:=⟨hp.1⟩
 have i_b:RzB b 100:=⟨hp.2.1⟩
 have i_c:RzB c 100:=⟨hp.2.2.1⟩
 have i_d:RzB d 100:=⟨hp.2.2.2.1⟩
 have i_e:RzB e 100:=⟨hp.2.2.2.2.1⟩
 have i_f:RzB f 100:=⟨hp.2.2.2.2.2⟩
 all_goals refine au Tryz.func125 rfl ?_
 all_goals(repeat'((try(conv=>whnf));first
  |apply zaf|refine zaa ?_ ?_|refine zao ?_ (λ_=>?_) (λ_=>?_)|(with_reducible refine zae (λ_=>?_) (λ_=>?_))|refine zas ζ ?_|apply zaq))
 all_goals(try apply zar)
 all_goals(try simp only[aW]at *)
 all_goals first
  |(exfalso;omega)|exact zay|(rw[e2 (by unfold cD;assumption),cwF];rfl)|(rw[e1 (by unfold cD;assumption)];rfl)|exact zav⟩
instance aeB(X Y Q a b e f x y:Rat)(cw:Bool):DenI Tryz.prog 209 [.agg (yH X Y Q cw a b e f),Q5 x 0 y 0 0] (rz X<=7000/\rz Y<=7000/\rz Q<=27000/\rz a<=12/\rz b<=12/\rz e<=12/\rz f<=12/\rz x<=12/\rz y<=12) (.bool (decide (uS (X,Y) Q (x,y)))):=⟨λhp=>by
 obtain⟨q0,q1,q2,q3,q4,q5,q6,q7,q8⟩:=hp;have i_X:RzB X 7000:=⟨q0⟩
 have i_Y:RzB Y 7000:=⟨q1⟩
 have i_Q:RzB Q 27000:=⟨q2⟩
 have i_a:RzB a 12:=⟨q3⟩
 have i_b:RzB b 12:=⟨q4⟩
 have i_e:RzB e 12:=⟨q5⟩
 have i_f:RzB f 12:=⟨q6⟩
 have i_x:RzB x 12:=⟨q7⟩
 have i_y:RzB y 12:=⟨q8⟩
 all_goals refine au Tryz.func209 rfl ?_
 all_goals(repeat'((try(conv=>whnf));first
  |refine zaa ?_ ?_|(with_reducible apply zab)|apply zaq))
 all_goals(try apply zar)
 all_goals first
  |exact bE Gh|exact⟨ξ,ξ,ξ,ξ,ξ⟩⟩
instance ael(X Y Q a b e f x y:Rat)(cw:Bool):DenI Tryz.prog 210 [.agg (yH X Y Q cw a b e f),Q5 x 0 y 0 0] (rz X<=7000/\rz Y<=7000/\rz Q<=27000/\rz a<=12/\rz b<=12/\rz e<=12/\rz f<=12/\rz x<=12/\rz y<=12) (.bool (decide ((if cw=true then uf (X,Y) (e,f) (x,y) (a,b) else uf (X,Y) (a,b) (x,y) (e,f))<=0))):=⟨λhp=>by
 obtain⟨q0,q1,q2,q3,q4,q5,q6,q7,q8⟩:=hp;have i_X:RzB X 7000:=⟨q0⟩
 have i_Y:RzB Y 7000:=⟨q1⟩
 have i_Q:RzB Q 27000:=⟨q2⟩
 have i_a:RzB a 12:=⟨q3⟩
 have i_b:RzB b 12:=⟨q4⟩
 have i_e:RzB e 12:=⟨q5⟩
 have i_f:RzB f 12:=⟨q6⟩
 have i_x:RzB x 12:=⟨q7⟩
 have i_y:RzB y 12:=⟨q8⟩
 cases cw
 all_goals refine au Tryz.func210 rfl ?_
 all_goals(repeat'((try(conv=>whnf));first
  |refine zaa ?_ ?_|refine zat (λ_=>?_) (λ_=>?_)|apply zaq))
 all_goals(try apply zar)
 all_goals(try simp only[aW]at *)
 all_goals first
  |rfl|exact zav|(exfalso;simp_all;done)⟩
instance afV(X Y Q a b e f x y:Rat)(cw:Bool):DenI Tryz.prog 168 [.agg (yH X Y Q cw a b e f),Q5 x 0 y 0 0] (rz X<=7000/\rz Y<=7000/\rz Q<=27000/\rz a<=12/\rz b<=12/\rz e<=12/\rz f<=12/\rz x<=12/\rz y<=12) (.bool (V7 (X,Y) Q cw (a,b) (e,f) (x,y))):=⟨λhp=>by
 obtain⟨q0,q1,q2,q3,q4,q5,q6,q7,q8⟩:=hp;have i_X:RzB X 7000:=⟨q0⟩
 have i_Y:RzB Y 7000:=⟨q1⟩
 have i_Q:RzB Q 27000:=⟨q2⟩
 have i_a:RzB a 12:=⟨q3⟩
 have i_b:RzB b 12:=⟨q4⟩
 have i_e:RzB e 12:=⟨q5⟩
 have i_f:RzB f 12:=⟨q6⟩
 have i_x:RzB x 12:=⟨q7⟩
 have i_y:RzB y 12:=⟨q8⟩
 all_goals refine au Tryz.func168 rfl ?_
 all_goals(repeat'((try(conv=>whnf));first
  |refine zaa ?_ ?_|(with_reducible first|apply zab|apply zac|refine zad (λ_=>?_) (λ_=>?_))|apply zaq))
 all_goals(try apply zar)
 all_goals first
  |(refine bE ?_;unfold V7;have hk:decide (uS (X,Y) Q (x,y))=true:=decide_eq_true ξ;rw[hk];rfl)|(refine bE ?_;unfold V7;have hk:decide (uS (X,Y) Q (x,y))=false:=decide_eq_false ξ;rw[hk];rfl)|exact zav⟩
end Go.Proofs.YtmniihkenijjpaaGreatDoor
namespace Go.Sw
open Go
def Cau(f:Nat->Rat):Prop:=∀d:Rat,0<d->∃N,∀m n,N<=m->N<=n->f m<f n+d
def PosS(f:Nat->Rat):Prop:=∃d:Rat,0<d/\∃N,∀n,N<=n->d<f n
def NulS(f:Nat->Rat):Prop:=∀d:Rat,0<d->∃N,∀n,N<=n→-d<f n/\f n<d
def Bnd(f:Nat->Rat):Prop:=∃B:Rat,0<B/\∃N,∀n,N<=n→-B<f n/\f n<B
def Uc(f:Nat->Rat)(n:Int):Prop:=(n=1/\PosS f)\/(n = -1/\PosS λk=>-f k)\/(n=0/\NulS f)
theorem IY{x y B e:Rat}(h1 : -B<x)(h2:x<B)(h3 : -e<y)(h4:y<e):x*y<B*e:=by
 have p1:=sH (show 0<B-x by grind) (show 0<e+y by grind);have p2:=sH (show 0<B+x by grind) (show 0<e-y by grind)
 grind
theorem Lu{x y B e:Rat}(h1 : -B<x)(h2:x<B)(h3 : -e<y)(h4:y<e):-(B*e)<x*y:=by
 have:=IY (x:=-x) (y:=y) (B:=B) (e:=e) ν ν h3 h4
 grind
theorem OC{a b:Rat}(h1:0<a)(h2:0<b):0<a/b:=by
 have hb:b≠0:=ν
 rcases FQ (a:=a/b) (b:=0)with h|h
 .have p:=rF (show 0≤-(a/b) by grind) (show 0<=b by grind);have e:a/b*b=a:=ν
  grind
 .by_cases e:a/b=0
  .have e':a/b*b=a:=ν
   rw[e]at e';grind
  .grind
theorem NulS.neg{f:Nat->Rat}(h:NulS f):NulS λn=>-f n:=λd hd=>by
 obtain⟨N,hN⟩:=h d hd;exact⟨N,λn hn=>by have:=hN n hn;constructor<;>grind⟩
theorem NulS.mul{f g:Nat->Rat}(h:NulS f)(k:Bnd g):NulS λn=>f n*g n:=λd hd=>by
 obtain⟨B,hB,M,hM⟩:=k;obtain⟨N,hN⟩:=h (d/B) (OC hd hB);refine⟨N+M,λn hn=>?_⟩;have a:=hN n ω;have b:=hM n ω;have e:d/B*B=d:=by have:B≠0:=ν;grind
 have p1:=IY a.1 a.2 b.1 b.2;have p2:=Lu a.1 a.2 b.1 b.2;rw[e]at p1 p2;exact⟨p2,p1⟩
theorem NulS.zero:NulS λ_=>0:=λd hd=>⟨0,λn _=>by constructor<;>grind⟩
theorem NulS.cg{f g:Nat->Rat}(h:NulS f)(e:∀n,f n=g n):NulS g:=by rwa [funext e]at h
theorem Cau.const(q:Rat):Cau λ_=>q:=λd hd=>⟨0,λm n _ _=>by grind⟩
theorem Cau.neg{f:Nat->Rat}(h:Cau f):Cau λn=>-f n:=λd hd=>by
 obtain⟨N,hN⟩:=h d hd;exact⟨N,λm n hm hn=>by have:=hN n m hn hm;grind⟩
theorem PosS.mul{f g:Nat->Rat}(h:PosS f)(k:PosS g):PosS λn=>f n*g n:=by
 obtain⟨d,hd,N,hN⟩:=h;obtain⟨e,he,M,hM⟩:=k;refine⟨d*e,sH hd he,N+M,λn hn=>?_⟩;have a:=hN n ω;have b:=hM n ω;have p1:=sH (show 0<f n-d by grind) (show 0<g n by grind);have p2:=sH hd (show 0<g n-e by grind)
 grind
theorem PosS.cg{f g:Nat->Rat}(h:PosS f)(e:∀n,f n=g n):PosS g:=by rwa [funext e]at h
theorem PosS.not{f:Nat->Rat}(h:PosS f)(k:PosS λn=>-f n):False:=by
 obtain⟨d,hd,N,hN⟩:=h;obtain⟨e,he,M,hM⟩:=k;have:=hN (N+M) ω;have:=hM (N+M) ω
 grind
namespace Uc
theorem ex{f:Nat->Rat}(h:Cau f):∃n,Uc f n:=by
 by_cases h1:PosS f
 .exact⟨1,.inl ⟨rfl,h1⟩⟩
 .by_cases h2:PosS λn=>-f n
  .exact⟨-1,.inr (.inl ⟨rfl,h2⟩)⟩
  .refine⟨0,.inr (.inr ⟨rfl,λd hd=>?_⟩)⟩;obtain⟨N,hN⟩:=h (d*(1/2)) ν
   have a1:∃m,N<=m/\f m<=d*(1/2):=Classical.byContradiction λhc=>h1 ⟨d*(1/2),ν,N,λn hn=>by
    rcases FQ (a:=f n) (b:=d*(1/2))with h|h
    .exact absurd ⟨n,hn,h⟩ hc
    .by_cases e:f n=d*(1/2)
     .exact absurd ⟨n,hn,ν⟩ hc
     .grind⟩
   have a2:∃m,N<=m∧-f m<=d*(1/2):=Classical.byContradiction λhc=>h2 ⟨d*(1/2),ν,N,λn hn=>by
    rcases FQ (a:=-f n) (b:=d*(1/2))with h|h
    .exact absurd ⟨n,hn,h⟩ hc
    .by_cases e : -f n=d*(1/2)
     .exact absurd ⟨n,hn,ν⟩ hc
     .grind⟩
   obtain⟨m1,g1,k1⟩:=a1;obtain⟨m2,g2,k2⟩:=a2;refine⟨N,λn hn=>?_⟩;have b1:=hN n m1 hn g1;have b2:=hN m2 n g2 hn;constructor<;>grind
theorem cg{f g:Nat->Rat}{n:Int}(h:Uc f n)(e:∀k,f k=g k):Uc g n:=by rwa [funext e]at h
theorem neg{f:Nat->Rat}{n:Int}(h:Uc f n):Uc (λk=>-f k) (-n):=by
 rcases h with⟨rfl,h⟩|⟨rfl,h⟩|⟨rfl,h⟩
 .exact .inr (.inl ⟨rfl,h.cg λn=>by grind⟩)
 .exact .inl ⟨rfl,h⟩
 .exact .inr (.inr ⟨rfl,h.neg⟩)
theorem const(q:Rat):Uc (λ_=>q) (aN q):=by
 rcases dP q with⟨a,e⟩|⟨a,e⟩|⟨a,e⟩<;>rw[e]
 .exact .inr (.inl ⟨rfl,⟨-q*(1/2),ν,0,λn _=>by grind⟩⟩)
 .subst a;exact .inr (.inr ⟨rfl,NulS.zero⟩)
 .exact .inl ⟨rfl,⟨q*(1/2),ν,0,λn _=>by grind⟩⟩
end Uc
def ach(n:Nat):Rat:=1/((n:Rat)+1)
def rtS(c:Rat)(n:Nat):Rat:=((fV (c*(((n:Rat)+1)*((n:Rat)+1))).floor.toNat:Nat):Rat)*ach n
def v2(A B M:Rat)(n:Nat):Rat:=A+B*rtS M n
def v4(A B C D M N:Rat)(n:Nat):Rat:=v2 A B M n+v2 C D M n*rtS N n
theorem Bnd.cg{f g:Nat->Rat}(h:Bnd f)(e:∀n,f n=g n):Bnd g:=by rwa [funext e]at h
def ConS(p:Int×Int)(f:Nat->Rat):Prop:=∃g:Nat->Rat,NulS (λn=>g n-f n)/\∀n,con p (g n)
theorem ConS.const{p:Int×Int}{q:Rat}(h:con p q):ConS p λ_=>q:=⟨λ_=>q,NulS.zero.cg λn=>by grind,λ_=>h⟩
theorem ConS.cg{p:Int×Int}{f g:Nat->Rat}(h:ConS p f)(e:∀n,f n=g n):ConS p g:=by rwa [funext e]at h
structure Rt where
 a:Rat
 b:Rat
 c:Rat
theorem ab2{x y:Int}(h:0<y):decide (((Nat.gcd x.natAbs y.natAbs:Nat):Int)=1)=fK (decide (x<0)) (lim x.natAbs) (decide (y<0)) (lim y.natAbs):=by
 rw[iZ,lH.2 h];simp
theorem aci{x y:Int}(h:y<=0):false=fK (decide (x<0)) (lim x.natAbs) (decide (y<0)) (lim y.natAbs):=by
 rw[iZ];have:¬gB y=1:=λe=>absurd (lH.1 e) ω
 simp[this]
theorem EP{e0 e1 e:List Cell}{es:List (List Cell)}{k:List Cell->Prop}(hk:k e):Elem (e0::e1::e::es) 2 k:=⟨2,e,rfl,rfl,hk⟩
end Go.Sw
