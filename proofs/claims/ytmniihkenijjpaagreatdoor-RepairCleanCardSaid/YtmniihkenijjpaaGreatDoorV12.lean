/-
  Rules of the abstract run, plain laws, and what functions answer, for the law RepairClean.
  Conditions: none.
-/
import Derived.Test.YtmniihkenijjpaaGreatDoorV11
set_option linter.all false
namespace Go.Sw
open Go
@[reducible] def Pz:List Cell:=[.v (.bool false),.sl 1 [],.v (.bool false),.sl 1 [],.v (.bool false),.sl 1 [],.v (.bool false),.sl 1 []]
@[reducible] def ovC(p:Option P2):List Cell:=match p with|some v=>vecC v|none=>Pz
@[reducible] def kM(c:Chn):List Cell:=[.v (.int .i64 (c.kind:Nat)),.v (.int .i64 (c.ent:Nat)),.v (.int .i64 (c.fin:Nat))]++ovC c.src++ovC c.dst
@[reducible] def iI(x:Ent × Nat):List Cell:=aN x.1++[.v (.int .i64 (x.2:Nat))]
theorem xX(sq:Rat)(s:ByteArray)(i:Nat)(v:P2):∀(l:List P2) (k:Nat) (sp:Spots),joinL sq s i k sp (l++[v])=⟨(joinP sq (joinL sq s i k sp l).sp s v).1,(joinL sq s i k sp l).ws++[(joinP sq (joinL sq s i k sp l).sp s v).2],(joinL sq s i k sp l).cs++jn i (k+l.length) v (joinP sq (joinL sq s i k sp l).sp s v).2⟩
 |[],k,sp=>by simp[joinL]
 |x::r,k,sp=>by
  have ih:=xX sq s i v r (k+1) (joinP sq sp s x).1;simp only[pq,joinL,ih,aZ];simp[show k+1+r.length=k+(r.length+1) by omega]
theorem xC(sq:Rat)(e:Ent):∀(l:List Ent) (i:Nat) (sp:Spots),bV sq i sp (l++[e])=⟨(joinL sq e.layer (i+l.length) 0 (bV sq i sp l).sp (aA e)).sp,(bV sq i sp l).es++[dQ e (joinL sq e.layer (i+l.length) 0 (bV sq i sp l).sp (aA e)).ws],(bV sq i sp l).cs++(joinL sq e.layer (i+l.length) 0 (bV sq i sp l).sp (aA e)).cs⟩
 |[],i,sp=>by simp[bV]
 |x::r,i,sp=>by
  have ih:=xC sq e r (i+1) (joinL sq x.layer i 0 sp (aA x)).sp;simp only[pq,bV,ih,aZ];simp[show i+1+r.length=i+(r.length+1) by omega]
theorem nV(sq:Rat):∀(l:List Ent) (i:Nat) (sp:Spots),(bV sq i sp l).es.length=l.length
 |[],i,sp=>rfl
 |x::r,i,sp=>by simp[bV,nV sq r]
def jA(sq:Rat)(es:List Ent)(x:Nat):JA:=bV sq 0 [] (es.take x)
theorem vU(sq:Rat)(es:List Ent){x:Nat}(h:x<es.length):jA sq es (x+1)=⟨(joinL sq (es.getD x E0).layer x 0 (jA sq es x).sp (aA (es.getD x E0))).sp,(jA sq es x).es++[dQ (es.getD x E0) (joinL sq (es.getD x E0).layer x 0 (jA sq es x).sp (aA (es.getD x E0))).ws],(jA sq es x).cs++(joinL sq (es.getD x E0).layer x 0 (jA sq es x).sp (aA (es.getD x E0))).cs⟩:=by
 have h1:es.take (x+1)=es.take x++[es.getD x E0]:=by
  rw[NM,gG h];simp[iC,h]
 have h2:(es.take x).length=x:=by simp;omega
 unfold jA;rw[h1,xC,h2,oV]
theorem lY(sq:Rat)(es:List Ent):jA sq es es.length=bV sq 0 [] es:=by unfold jA;rw[x9]
def nE(es:List Ent)(x:Nat):Nat:=((es.take x).map λe=>(aA e).length).sum
theorem vk(es:List Ent){x:Nat}(h:x<es.length):nE es (x+1)=nE es x+(aA (es.getD x E0)).length:=by
 have h1:es.take (x+1)=es.take x++[es.getD x E0]:=by
  rw[NM,gG h];simp[iC,h]
 unfold nE;rw[h1];simp
theorem DU(es:List Ent):∀x,nE es x<=2*x
 |0=>by simp[nE]
 |x+1=>by
  by_cases h:x<es.length
  .rw[vk es h];have:=DU es x;have h2:(aA (es.getD x E0)).length<=2:=by rcases rJ (es.getD x E0)with h|h<;>omega
   omega
  .have h1:es.take (x+1)=es.take x:=by rw[JW ω,JW ω]
   have:=DU es x;unfold nE at this ⊢;rw[h1];omega
def Jq(q:P2->Prop)(sp:Spots):Prop:=∀p∈sp,q p.2
theorem nG{sp:Spots}{s:ByteArray}{v:P2}(h:v∈spotsAt sp s):∃p∈sp,p.2=v:=by
 unfold spotsAt at h;obtain⟨p,hp,rfl⟩:=dW.1 h;exact⟨p,(xZ.1 hp).1,rfl⟩
theorem tN(sp:Spots)(s:ByteArray):(spotsAt sp s).length<=sp.length:=by
 unfold spotsAt;rw[aG];exact Xz _ _
theorem nU{q:P2->Prop}{sq:Rat}{sp:Spots}{s:ByteArray}{v:P2}(h:Jq q sp)(hv:q v):Jq q (joinP sq sp s v).1/\q (joinP sq sp s v).2/\(joinP sq sp s v).1.length<=sp.length+1:=by
 have h2:=zL sq sp s v
 have key:Jq q (joinP sq sp s v).1/\(joinP sq sp s v).1.length<=sp.length+1:=by
  unfold joinP;split
  .exact⟨h,η⟩
  .refine⟨λp hp=>?_,η⟩;rcases jF.1 hp with hp|hp
   .exact h p hp
   .simp only[tZ]at hp;subst hp;exact hv
 obtain⟨p,hp,he⟩:=nG h2;exact⟨key.1,he▸key.1 p hp,key.2⟩
theorem oQ{q:P2->Prop}{sq:Rat}{s:ByteArray}{i:Nat}:∀{l:List P2} {k:Nat} {sp:Spots},Jq q sp->(∀v∈l,q v)->Jq q (joinL sq s i k sp l).sp/\(∀w∈(joinL sq s i k sp l).ws,q w)/\(joinL sq s i k sp l).sp.length<=sp.length+l.length/\(joinL sq s i k sp l).ws.length=l.length/\(joinL sq s i k sp l).cs.length<=l.length
 |[],k,sp,h,_=>⟨h,λw hw=>by simp[joinL]at hw,by simp[joinL],rfl,by simp[joinL]⟩
 |v::r,k,sp,h,hl=>by
  obtain⟨h1,h2,h3⟩:=nU (sq:=sq) (s:=s) h (hl v η);obtain⟨h4,h5,h6,h7,h8⟩:=oQ (sq:=sq) (s:=s) (i:=i) (l:=r) (k:=k+1) h1 (λw hw=>hl w (by simp[hw]));refine⟨h4,λw hw=>?_, ?_,by simp[joinL,h7], ?_⟩
  .simp only[joinL,qh]at hw;rcases hw with rfl|hw
   .exact h2
   .exact h5 w hw
  .simp only[joinL,aZ];omega
  .simp only[joinL,bD,aZ];have:(jn i k v (joinP sq sp s v).2).length<=1:=by unfold jn;split<;>simp
   omega
theorem dA{e:Ent}{v:P2}(h:v∈aA e):v∈e.pts:=by
 rcases eU e with⟨h1,_⟩|⟨a,b,_,h2,h3⟩|⟨a,m,b,_,h2,h3⟩
 .rw[h1]at h;cases h
 .rw[h3]at h;rw[h2];exact h
 .rw[h3]at h;rw[h2];simp at h ⊢;rcases h with h|h<;>simp[h]
theorem wU{q:P2->Prop}{e:Ent}{l:List P2}(h:∀p∈e.pts,q p)(hl:∀p∈l,q p):∀p∈(dQ e l).pts,q p:=by
 unfold dQ;split
 .rename_i a b _ _ hp;intro p hp';simp at hp';rcases hp' with rfl|rfl<;>exact hl _ η
 .rename_i a b _ m _ hp;intro p hp';simp at hp';rcases hp' with rfl|rfl|rfl
  .exact hl _ η
  .exact h _ (by rw[hp];simp)
  .exact hl _ η
 .exact h
theorem ni{es:List Ent}{x:Nat}(h:x<es.length):es.getD x E0∈es:=by
 have:es.getD x E0=es[x]:=by simp[iC,h]
 rw[this];exact yw h
theorem BZ{q:P2->Prop}{sq:Rat}{es:List Ent}(h:∀e∈es,∀p∈e.pts,q p):∀x,x<=es.length->Jq q (jA sq es x).sp/\(∀e∈(jA sq es x).es,∀p∈e.pts,q p)/\(jA sq es x).sp.length<=nE es x/\(jA sq es x).cs.length<=nE es x/\(jA sq es x).es.length=x
 |0,_=>⟨λp hp=>by simp[jA,bV]at hp,λe he=>by simp[jA,bV]at he,by simp[jA,bV],by simp[jA,bV],by simp[jA,bV]⟩
 |x+1,hx=>by
  have hlt:x<es.length:=ω
  obtain⟨h1,h2,h3,h4,h5⟩:=BZ (sq:=sq) h x ω;have he:=ni hlt;obtain⟨k1,k2,k3,k4,k5⟩:=oQ (q:=q) (sq:=sq) (s:=(es.getD x E0).layer) (i:=x) (k:=0) (l:=aA (es.getD x E0)) h1 (λv hv=>h _ he v (dA hv));rw[vU sq es hlt,vk es hlt];refine⟨k1,λe hm=>?_, ?_, ?_, ?_⟩
  .simp only[jF,tZ]at hm;rcases hm with hm|rfl
   .exact h2 e hm
   .exact wU (h _ he) k2
  .simp only;omega
  .simp only[bD];omega
  .simp only[bD,List.length_singleton];omega
theorem iY(e:Ent):aA e=[]\/∃a b,aA e=[a,b]:=by
 rcases eU e with⟨h1,_⟩|⟨a,b,_,_,h3⟩|⟨a,m,b,_,_,h3⟩
 .exact .inl h1
 .exact .inr ⟨a,b,h3⟩
 .exact .inr ⟨a,b,h3⟩
theorem QL{es:List Ent}(h:∀e∈es,(∀p∈e.pts,aF p)/\e.layer.size<=1000/\e.pts.length<=3)(x:Nat):(∀p∈(es.getD x E0).pts,aF p)/\(es.getD x E0).layer.size<=1000/\(es.getD x E0).pts.length<=3:=by
 by_cases hx:x<es.length
 .exact h _ (ni hx)
 .have:es.getD x E0=E0:=by simp[iC,Nat.le_of_not_lt hx]
  rw[this];exact⟨λp hp=>by simp[E0]at hp,ψ,ψ⟩
theorem PO{i k:Nat}{a w:P2}(h:(!(decide (a.1=w.1)&&decide (a.2=w.2)))=true):jn i k a w=[⟨1,i,k,some a,some w⟩]:=by
 unfold jn;rw[if_neg];rintro rfl;simp at h
theorem Rf{i k:Nat}{a w:P2}(h:(!(decide (a.1=w.1)&&decide (a.2=w.2)))=false):jn i k a w=[]:=by
 unfold jn;rw[if_pos];simp at h;exact Prod.ext h.1 h.2
theorem spq{sp:Spots}{s:ByteArray}(h:Jq aF sp)(p:P2)(hp:p∈spotsAt sp s):rz p.1<=12/\rz p.2<=12:=by
 obtain⟨q,hq,rfl⟩:=nG hp;exact h q hq
theorem WE(sq:Rat)(es:List Ent){x:Nat}(h:x<es.length)(hE:aA (es.getD x E0)=[]):jA sq es (x+1)=⟨(jA sq es x).sp,(jA sq es x).es++[es.getD x E0],(jA sq es x).cs⟩/\nE es (x+1)=nE es x:=by
 rw[vU sq es h,vk es h,hE];refine⟨?_,rfl⟩;have h2:dQ (es.getD x E0) []=es.getD x E0:=by rw[<-hE];exact FB _
 simp only[joinL,h2,bI]
theorem V4(sq:Rat)(es:List Ent){x:Nat}{a b:P2}(h:x<es.length)(hE:aA (es.getD x E0)=[a,b]):jA sq es (x+1)=⟨(joinP sq (joinP sq (jA sq es x).sp (es.getD x E0).layer a).1 (es.getD x E0).layer b).1,(jA sq es x).es++[dQ (es.getD x E0) [(joinP sq (jA sq es x).sp (es.getD x E0).layer a).2,(joinP sq (joinP sq (jA sq es x).sp (es.getD x E0).layer a).1 (es.getD x E0).layer b).2]],(jA sq es x).cs++(jn x 0 a (joinP sq (jA sq es x).sp (es.getD x E0).layer a).2++jn x 1 b (joinP sq (joinP sq (jA sq es x).sp (es.getD x E0).layer a).1 (es.getD x E0).layer b).2)⟩/\nE es (x+1)=nE es x+1+1:=by
 rw[vU sq es h,vk es h,hE];refine⟨?_,rfl⟩;simp[joinL]
def N0:Ent×Nat:=(E0,0)
def RS(e:Ent):Prop:=(∀p∈e.pts,aF p)/\e.layer.size<=1000/\e.pts.length<=3
theorem acI:RS E0:=⟨λp hp=>by simp[E0]at hp,ψ,ψ⟩
theorem Iu{l:List (Ent×Nat)}(h:∀x∈l,RS x.1)(x:Nat):RS (l.getD x N0).1:=by
 by_cases hx:x<l.length
 .have:l.getD x N0=l[x]:=by simp[iC,hx]
  rw[this];exact h _ (yw hx)
 .have:l.getD x N0=N0:=by simp[iC,Nat.le_of_not_lt hx]
  rw[this];exact acI
theorem Ii{v w:P2}:(decide (v.1=w.1)&&decide (v.2=w.2))=decide (v=w):=by
 rw[vS];simp[Prod.ext_iff]
theorem oD{l:List (Ent×Nat)}{x:Nat}(h:x<l.length):l[x]?=some (l.getD x N0):=by simp[iC,h]
theorem zK{l:List (Ent×Nat)}{s:ByteArray}{i k:Nat}{v:P2}{x:Nat}(h:x<l.length)(hE:aA (l.getD x N0).1=[]):metAt l s i k v x=false:=by
 unfold metAt;rw[oD h];simp only[];rw[hE];simp
theorem zA{l:List (Ent×Nat)}{s:ByteArray}{i k:Nat}{v a b:P2}{x:Nat}(h:x<l.length)(hE:aA (l.getD x N0).1=[a,b]):metAt l s i k v x=(eqS (l.getD x N0).1.layer s&&(((x != i||0 != k)&&decide (v=a)) ||((x != i||1 != k)&&decide (v=b)))):=by
 unfold metAt;rw[oD h];simp only[];rw[hE]
theorem yU{l:List (Ent×Nat)}{s:ByteArray}{i k:Nat}{v:P2}{x:Nat}(h:x<l.length)(hE:(!((l.getD x N0).1.layer.toList == s.toList))=true):metAt l s i k v x=false:=by
 unfold metAt;rw[oD h];simp only[eqS];simp only[uP]at hE;rw[hE];simp
theorem Af{l:List (Ent×Nat)}{s:ByteArray}{i k:Nat}{v a b:P2}{x:Nat}(h:x<l.length)(hE:aA (l.getD x N0).1=[a,b])(hL:(!((l.getD x N0).1.layer.toList == s.toList))=false):metAt l s i k v x=(((x != i||0 != k)&&(decide (v.1=a.1)&&decide (v.2=a.2))) ||((x != i||1 != k)&&(decide (v.1=b.1)&&decide (v.2=b.2)))):=by
 rw[zA h hE,Ii,Ii];simp only[Bool.not_eq_false']at hL;simp only[eqS,hL,BJ]
theorem OT{l:List (Ent×Nat)}{s:ByteArray}{i k:Nat}{v:P2}{x:Nat}(h:x<l.length)(hm:metAt l s i k v x=true):nO l s i k v=true:=by
 unfold nO;exact Oe.2 ⟨x,by simpa using h,hm⟩
theorem KN{l:List (Ent×Nat)}{s:ByteArray}{i k:Nat}{v:P2}(hm:∀j<l.length,metAt l s i k v j=false):nO l s i k v=false:=by
 unfold nO;rw[Ey];intro j hj;rw[hm j (by simpa using hj)];simp
theorem qO{l:List (Ent×Nat)}{s:ByteArray}{i k:Nat}{v:P2}{x:Nat}(hm:∀j<x,metAt l s i k v j=false)(h:metAt l s i k v x=false):∀j<x+1,metAt l s i k v j=false:=λj hj=>by
 rcases yD j x with h1|h1
 .exact hm j h1
 .have:j=x:=ω
  subst this;exact h
def OM(l:List (Ent×Nat))(x:Nat):List Chn:=(List.range x).flatMap (opn l)
theorem Hq(l:List (Ent×Nat)):OM l l.length=zG l:=rfl
theorem Hy{l:List (Ent×Nat)}{x:Nat}(h:x<l.length)(hE:aA (l.getD x N0).1=[]):OM l (x+1)=OM l x:=by
 unfold OM;rw[Pn,Nh]
 have:opn l x=[]:=by
  unfold opn;rw[oD h];simp only[];rw[hE]
 simp[this]
theorem Ih{l:List (Ent×Nat)}{x:Nat}{a b:P2}(h:x<l.length)(hE:aA (l.getD x N0).1=[a,b]):OM l (x+1)=OM l x++(tq l (l.getD x N0).1.layer (l.getD x N0).2 x 0 a++tq l (l.getD x N0).1.layer (l.getD x N0).2 x 1 b):=by
 unfold OM;rw[Pn,Nh]
 have:opn l x=tq l (l.getD x N0).1.layer (l.getD x N0).2 x 0 a++tq l (l.getD x N0).1.layer (l.getD x N0).2 x 1 b:=by
  unfold opn;rw[oD h];simp only[];rw[hE]
 simp[this]
theorem zM{l:List (Ent×Nat)}{s:ByteArray}{n i k:Nat}{v:P2}(h:(!nO l s i k v)=true):tq l s n i k v=[⟨4,n,k,some v,some v⟩]:=by
 unfold tq;rw[if_neg];simpa using h
theorem zN{l:List (Ent×Nat)}{s:ByteArray}{n i k:Nat}{v:P2}(h:(!nO l s i k v)=false):tq l s n i k v=[]:=by
 unfold tq;rw[if_pos];simpa using h
theorem Cj{l:List (Ent×Nat)}{s:ByteArray}{n i k:Nat}{v:P2}:(tq l s n i k v).length<=1:=by
 unfold tq;split<;>simp
theorem wC(l:List (Ent×Nat)):∀x,x<=l.length->(OM l x).length<=2*x
 |0,_=>by simp[OM]
 |x+1,h=>by
  have ih:=wC l x ω;rcases iY (l.getD x N0).1 with hE|⟨a,b,hE⟩
  .rw[Hy ω hE];omega
  .rw[Ih ω hE];have h1:=Cj (l:=l) (s:=(l.getD x N0).1.layer) (n:=(l.getD x N0).2) (i:=x) (k:=0) (v:=a);have h2:=Cj (l:=l) (s:=(l.getD x N0).1.layer) (n:=(l.getD x N0).2) (i:=x) (k:=1) (v:=b);simp only[bD];omega
def S0:ByteArray×P2:=(⟨#[]⟩,P0)
@[reducible] def o9(p:ByteArray × P2):List Cell:=.v (.string p.1) :: vecC p.2
def nX(sq:Rat)(v:P2)(s:ByteArray)(sp:Spots)(x:Nat):Option P2:=nearG sq v (spotsAt (sp.take x) s)
theorem wP{sp:Spots}{x:Nat}(h:x<sp.length):sp.take (x+1)=sp.take x++[sp.getD x S0]:=by
 rw[NM,gG h];simp[iC,h]
theorem Z7{sq:Rat}{v:P2}{s:ByteArray}{sp:Spots}{x:Nat}(h:x<sp.length)(hl:(!((sp.getD x S0).1.toList == s.toList))=true):nX sq v s sp (x+1)=nX sq v s sp x:=by
 unfold nX;have h2:sp.take (x+1)=sp.take x++[((sp.getD x S0).1,(sp.getD x S0).2)]:=wP h;rw[h2,spotsAt_snoc,if_neg,bI];simp only[uP]at hl;simp only[eqS,hl];simp
theorem Ku{sq:Rat}{v:P2}{s:ByteArray}{sp:Spots}{x:Nat}(h:x<sp.length)(hl:(!((sp.getD x S0).1.toList == s.toList))=false):nX sq v s sp (x+1)=nearS sq v (nX sq v s sp x) (sp.getD x S0).2:=by
 unfold nX;have h2:sp.take (x+1)=sp.take x++[((sp.getD x S0).1,(sp.getD x S0).2)]:=wP h;rw[h2,spotsAt_snoc,if_pos]
 .unfold nearG;rw[List.foldl_append];rfl
 .simp only[Bool.not_eq_false']at hl;simp only[eqS,hl]
def jQ(sq:Rat)(v:P2)(s:ByteArray)(sp:Spots)(x:Nat)(b:Int):Prop:=(b = -1/\nX sq v s sp x=none)\/(0<=b/\b<x/\nX sq v s sp x=some (sp.getD b.toNat S0).2)
theorem YJ{sq:Rat}{v:P2}{s:ByteArray}{sp:Spots}:jQ sq v s sp 0 (-1):=.inl ⟨rfl,rfl⟩
theorem zZ{sq:Rat}{v:P2}{s:ByteArray}{sp:Spots}{x:Nat}{b:Int}(h:jQ sq v s sp x b)(he:nX sq v s sp (x+1)=nX sq v s sp x):jQ sq v s sp (x+1) b:=by
 rcases h with⟨h1,h2⟩|⟨h1,h2,h3⟩
 .exact .inl ⟨h1,he.trans h2⟩
 .exact .inr ⟨h1,ω,he.trans h3⟩
theorem TT{sq:Rat}{v:P2}{s:ByteArray}{sp:Spots}{x:Nat}{b:Int}(h:jQ sq v s sp x b)(hx:x<sp.length)(hl:(!((sp.getD x S0).1.toList == s.toList))=true):jQ sq v s sp (x+1) b:=zZ h (Z7 hx hl)
theorem L9{sq:Rat}{v:P2}{s:ByteArray}{sp:Spots}{x:Nat}{b:Int}(h:jQ sq v s sp x b)(hx:x<sp.length)(hl:(!((sp.getD x S0).1.toList == s.toList))=false)(hf:sq<farR (sp.getD x S0).2 v):jQ sq v s sp (x+1) b:=by
 refine zZ h ?_;rw[Ku hx hl];unfold nearS;rw[if_neg (by rw[jG];exact Rat.not_le.2 hf)]
theorem GL{sq:Rat}{v:P2}{s:ByteArray}{sp:Spots}{x:Nat}{b:Int}(h:jQ sq v s sp x b)(hx:x<sp.length)(hl:(!((sp.getD x S0).1.toList == s.toList))=false)(hf:¬ sq<farR (sp.getD x S0).2 v)(hb:b<0\/farR (sp.getD x S0).2 v<farR (sp.getD b.toNat S0).2 v):jQ sq v s sp (x+1) x:=by
 refine .inr ⟨ω,ω, ?_⟩;rw[Ku hx hl];have hle:farR v (sp.getD x S0).2<=sq:=by rw[jG];exact Rat.not_lt.1 hf
 unfold nearS;rw[if_pos hle];rcases h with⟨h1,h2⟩|⟨h1,h2,h3⟩
 .rw[h2];simp
 .rw[h3];simp only[];rw[if_pos]
  .simp
  .rcases hb with hb|hb
   .omega
   .rw[jG v,jG v];exact hb
theorem Iy{sq:Rat}{v:P2}{s:ByteArray}{sp:Spots}{x:Nat}{b:Int}(h:jQ sq v s sp x b)(hx:x<sp.length)(hl:(!((sp.getD x S0).1.toList == s.toList))=false)(hb:¬ b<0)(hk:¬ farR (sp.getD x S0).2 v<farR (sp.getD b.toNat S0).2 v):jQ sq v s sp (x+1) b:=by
 refine zZ h ?_;rw[Ku hx hl];rcases h with⟨h1,h2⟩|⟨h1,h2,h3⟩
 .omega
 .unfold nearS;rw[h3];simp only[];rw[if_neg (show¬ farR v (sp.getD x S0).2<farR v (sp.getD b.toNat S0).2 by rw[jG v,jG v];exact hk)];simp
@[reducible] def Tm(o:Option P2):AV:=.tup [.agg (ovC o),.bool o.isSome]
theorem Kr(sq:Rat)(v:P2)(s:ByteArray)(sp:Spots):nX sq v s sp sp.length=nearG sq v (spotsAt sp s):=by unfold nX;rw[x9]
@[reducible] def Ig(e:Ent):AV:=.tup [.own 45 8 ((aA e).map vecC),.bool (decide (aA e≠[]))]
theorem MF{e:Ent}{i j:Nat}(h:e.kind=1/\e.pts.length=2\/e.kind=2/\e.pts.length=3)(hi:i=0)(hj:j=e.pts.length-1):packA [AV.own 45 8 [vecC (e.pts.getD i P0),vecC (e.pts.getD j P0)],AV.bool true]=Ig e:=by
 subst hi hj;unfold Ig;rw[MK h];rfl
theorem Qe{e:Ent}(h:¬(e.kind=1/\e.pts.length=2\/e.kind=2/\e.pts.length=3)):packA [AV.own 45 8 [],AV.bool false]=Ig e:=by
 unfold Ig;rw[J9 h];rfl
def nH(a b:List P2):Bool:=decide (a.length=b.length)&&(decide (a=b)||decide (a=b.reverse))
theorem Gu{a:List P2}{x:Nat}(h:x<a.length):a.take (x+1)=a.take x++[a.getD x P0]:=by
 rw[NM,gG h];simp[iC,h]
theorem He{a b:List P2}{x:Nat}(ha:x<a.length)(hb:x<b.length):decide (a.take (x+1)=b.take (x+1))=(decide (a.take x=b.take x)&&(decide ((a.getD x P0).1=(b.getD x P0).1)&&decide ((a.getD x P0).2=(b.getD x P0).2))):=by
 rw[Gu ha,Gu hb,Ii,vS];simp only[bY,decide_eq_true_eq];constructor
 .intro h;have:=List.append_inj h κ;exact⟨this.1,by simpa using this.2⟩
 .rintro ⟨h1,h2⟩;rw[h1,h2]
theorem rev_at{b:List P2}{x:Nat}(h:x<b.length):b.reverse.getD x P0=b.getD (b.length-1-x) P0:=by
 have h2:b.length-1-x<b.length:=ω
 simp[iC,h,h2,List.getElem?_reverse]
theorem Cb{a b:List P2}(hl:a.length=b.length):nH a b=(decide (a.take a.length=b.take a.length)||decide (a.take a.length=b.reverse.take a.length)):=by
 unfold nH;rw[decide_eq_true hl,x9,JW (show b.length<=a.length by omega),JW (show b.reverse.length<=a.length by rw[List.length_reverse];omega),BJ]
theorem SS{a b:List P2}(hl:¬ a.length=b.length):nH a b=false:=by
 unfold nH;rw[decide_eq_false hl,PE]
theorem vg{l:List P2}(h:∀p∈l,aF p)(i:Nat):aF (l.getD i P0):=by
 by_cases hi:i<l.length
 .have:l.getD i P0=l[i]:=by simp[iC,hi]
  rw[this];exact h _ (yw hi)
 .have:l.getD i P0=P0:=by simp[iC,Nat.le_of_not_lt hi]
  rw[this];exact⟨by decide +kernel,by decide +kernel⟩
abbrev gu(a b c:P2):Rat:=cD a.1 a.2 b.1 b.2 c.1 c.2
abbrev Pj(a b c:P2):Rat:=cU a.1 a.2 b.1 b.2 c.1 c.2
abbrev PD(a b c:P2):Rat:=cV a.1 a.2 b.1 b.2 c.1 c.2
def WV(a b c:P2):Rat:=a.1+Pj a b c/(gu a b c+gu a b c)
def U9(a b c:P2):Rat:=a.2+PD a b c/(gu a b c+gu a b c)
def Ia(a b c:P2):Rat:=Pj a b c/(gu a b c+gu a b c)*(Pj a b c/(gu a b c+gu a b c))+PD a b c/(gu a b c+gu a b c)*(PD a b c/(gu a b c+gu a b c))
@[reducible] def ctr(a b c:P2):P2:=(WV a b c,U9 a b c)
abbrev uI(k:P2)(q:Rat)(p:P2):Prop:=(p.1-k.1)*(p.1-k.1)+(p.2-k.2)*(p.2-k.2)=q
def VH(k:P2)(q:Rat)(cw:Bool)(a c p:P2):Bool:=decide (uI k q p)&&decide ((if cw=true then tH k c p a else tH k a p c)<=0)
def IQ(k:P2)(cw:Bool)(f p q:P2):Int:=if cw=true then ng (vN k) (vN f) (vN p) (vN q)else ng k f p q
def UF(k:P2)(q:Rat)(cw:Bool)(a c p:P2):Bool:=decide (uI k q p)&&(decide (IQ k cw a a p<=0)&&decide (IQ k cw a p c<=0))
theorem Hl{x y X Y Q:Rat}:decide (-(aK ((x-X)*(x-X)+(y-Y)*(y-Y)-Q))=0)=decide (uI (X,Y) Q (x,y)):=by
 rw[decide_eq_decide];constructor
 .intro h;have:=(fC (a:=(x-X)*(x-X)+(y-Y)*(y-Y)-Q)).1 ω;unfold uI;simp only;grind
 .intro h;unfold uI at h;simp only at h;have:aK ((x-X)*(x-X)+(y-Y)*(y-Y)-Q)=0:=fC.2 ν;omega
theorem VR(a b:Rat):qG a b 0=aK a:=by
 unfold qG;have:aK b*aK 0=0:=by rw[fC.2 rfl];omega
 rw[if_pos (.inr this)]
set_option synthInstance.maxSize 4000 in
set_option synthInstance.maxHeartbeats 400000 in
theorem tu{a b c:P2}(h1:aF a)(h2:aF b)(h3:aF c):rz (WV a b c)<=7000/\rz (U9 a b c)<=7000/\rz (Ia a b c)<=27000:=by
 obtain⟨a1,a2⟩:=a;obtain⟨b1,b2⟩:=b;obtain⟨c1,c2⟩:=c;have i1:RzB a1 12:=⟨h1.1⟩
 have i2:RzB a2 12:=⟨h1.2⟩
 have i3:RzB b1 12:=⟨h2.1⟩
 have i4:RzB b2 12:=⟨h2.2⟩
 have i5:RzB c1 12:=⟨h3.1⟩
 have i6:RzB c2 12:=⟨h3.2⟩
 simp only[WV,U9,Ia,Pj,PD,gu,cU,cV,cD];exact⟨dY ω,dY ω,dY ω⟩
theorem FC(a b c:P2):fB a b c=gu a b c:=by unfold fB gu cD;grind
theorem Gl{a b c:P2}(h:¬gu a b c=0):uI (ctr a b c) (Ia a b c) a/\uI (ctr a b c) (Ia a b c) b/\uI (ctr a b c) (Ia a b c) c/\0<Ia a b c :=
 ⟨WS h rfl rfl,WX h rfl rfl,Xo h rfl rfl,V6 h⟩
theorem SH{a b c p:P2}(h:¬gu a b c=0):uI (ctr a b c) (Ia a b c) p↔Pj a b c*(p.1-a.1)+PD a b c*(p.2-a.2)=gu a b c*((p.1-a.1)*(p.1-a.1)+(p.2-a.2)*(p.2-a.2)):=by
 have h2:=Ap h;unfold uI ctr WV U9 Ia;generalize gu a b c=D at *;generalize Pj a b c=U at *;generalize PD a b c=V at *;obtain⟨a1,a2⟩:=a;obtain⟨p1,p2⟩:=p;simp only;have e1:U/(D+D)*(D+D)=U:=ν
 have e2:V/(D+D)*(D+D)=V:=ν
 generalize U/(D+D)=u at *;generalize V/(D+D)=v at *;subst e1 e2;constructor
 .intro e;have e3:u*(p1-a1)+u*(p1-a1)+(v*(p2-a2)+v*(p2-a2))=(p1-a1)*(p1-a1)+(p2-a2)*(p2-a2):=ν
  have e4:D*(u*(p1-a1)+u*(p1-a1)+(v*(p2-a2)+v*(p2-a2)))=D*((p1-a1)*(p1-a1)+(p2-a2)*(p2-a2)):=by rw[e3]
  grind
 .intro e;have e4:D*((u*(p1-a1)+u*(p1-a1)+(v*(p2-a2)+v*(p2-a2)))-((p1-a1)*(p1-a1)+(p2-a2)*(p2-a2)))=0:=ν
  rcases Rat.mul_eq_zero.1 e4 with h3|h3
  .exact absurd h3 h
  .grind
theorem zB(a:Int):gB (-a) = -gB a:=by unfold gB;(repeat' split)<;>omega
theorem JE(k p:P2):dh k p p=0:=by
 have:=gJ k p p;omega
theorem OD(k p:P2):AX k p p=0:=by unfold AX;rw[JE];rfl
theorem Vh(k f p:P2):0<=AX k f p:=by unfold AX;(repeat' split)<;>omega
theorem Ip(k f p:P2):0<=AX k f p/\AX k f p<=2:=by unfold AX;(repeat' split)<;>omega
theorem D8(k f p q:P2):tH k f p q = -tH k f q p:=by
 unfold tH;rw[gJ k p q]
 by_cases h:AX k f p=AX k f q
 .rw[if_pos h,if_pos h.symm,zB]
 .rw[if_neg h,if_neg (λe=>h e.symm),<-zB];congr 1;omega
theorem zJ(k f q:P2):tH k f f q<=0:=by
 unfold tH;rw[OD];have:=Vh k f q;split
 .rename_i e
  have h0:dh k q f=0:=by
   unfold AX at e
   (repeat' split at e)<;>first|assumption|omega
  rw[gJ,h0];decide
 .rw[DN];omega
theorem BQ(k f q:P2):tH k f q q<=0:=by
 have:=D8 k f q q;omega
theorem QG{k f p q:P2}(h:tH k f p q=0):dh k p q=0:=by
 unfold tH at h;split at h
 .exact sS.1 h
 .rw[sS]at h;omega
theorem cwE{a b c d e f:Rat}:decide (dF ((c-a)*(f-b)) ((d-b)*(e-a))>0)=decide (0<cD a b c d e f):=by
 rw[decide_eq_decide,Du];unfold cD;constructor<;>intro h<;>grind
theorem cwF{a b c d e f:Rat}:decide ((d-b)*(e-a)<(c-a)*(f-b))=decide (0<cD a b c d e f):=by
 rw[decide_eq_decide];unfold cD;constructor<;>intro h<;>grind
theorem cwR{a b c d e f:Rat}(h:¬cD a b c d e f=0):decide (dF ((c-a)*(f-b)) ((d-b)*(e-a))<0) = !decide (0<cD a b c d e f):=by
 rw[<-decide_not,decide_eq_decide,xB];unfold cD at *;constructor<;>intro h<;>grind
theorem U4{k a p c:P2}{q:Rat}(hq:0<q)(e1:uI k q a)(e2:uI k q p)(e3:uI k q c)(h1:p≠a)(h2:p≠c)(h3:a≠c):fB a p c≠0:=by
 have n1:=Qn hq e1;have n2:=Qn hq e2;have n3:=Qn hq e3;have d1:dh k a p≠0:=λg=>h1 (oU e1 e2 n1 n2 g).symm
 have d2:dh k p c≠0:=λg=>h2 (oU e2 e3 n2 n3 g)
 have d3:dh k a c≠0:=λg=>h3 (oU e1 e3 n1 n3 g)
 have a1:=gJ k a p;have a2:=gJ k p c;have a3:=gJ k a c;have x1:fB a c p = -fB a p c:=by unfold fB;grind
 have x2:fB c a p=fB a p c:=by unfold fB;grind
 have x3:fB p a c = -fB a p c:=by unfold fB;grind
 have x4:fB p c a=fB a p c:=by unfold fB;grind
 have x5:fB c p a = -fB a p c:=by unfold fB;grind
 intro hz;have l1:dh k a p<0->dh k p c<0->False:=λg1 g2=>by have:=SK e1 e2 e3 n1 n2 n3 g1 g2;grind
 have l2:dh k a c<0->dh k c p<0->False:=λg1 g2=>by have:=SK e1 e3 e2 n1 n3 n2 g1 g2;grind
 have l3:dh k c a<0->dh k a p<0->False:=λg1 g2=>by have:=SK e3 e1 e2 n3 n1 n2 g1 g2;grind
 have l4:dh k p a<0->dh k a c<0->False:=λg1 g2=>by have:=SK e2 e1 e3 n2 n1 n3 g1 g2;grind
 have l5:dh k p c<0->dh k c a<0->False:=λg1 g2=>by have:=SK e2 e3 e1 n2 n3 n1 g1 g2;grind
 have l6:dh k c p<0->dh k p a<0->False:=λg1 g2=>by have:=SK e3 e2 e1 n3 n2 n1 g1 g2;grind
 clear e1 e2 e3 n1 n2 n3 x1 x2 x3 x4 x5 hz;generalize dh k a p=A at *;generalize dh k p c=B at *;generalize dh k a c=C at *;generalize dh k p a=A' at *;generalize dh k c p=B' at *;generalize dh k c a=C' at *
 by_cases g1:A<0<;>by_cases g2:B<0<;>by_cases g3:C<0
 .exact l1 g1 g2
 .exact l1 g1 g2
 .exact l2 g3 ω
 .exact l3 ω g1
 .exact l4 ω g3
 .exact l5 g2 ω
 .exact l6 ω ω
 .exact l6 ω ω
theorem Ec{k a p c:P2}{q:Rat}(hq:0<q)(e1:uI k q a)(e2:uI k q p)(e3:uI k q c)(h3:a≠c):tH k a p c<=0↔(p=a\/p=c\/0<fB a p c):=by
 have n1:=Qn hq e1;have n2:=Qn hq e2;have n3:=Qn hq e3;constructor
 .intro h
  by_cases h1:p=a
  .exact .inl h1
  by_cases h2:p=c
  .exact .inr (.inl h2)
  refine .inr (.inr ?_);have hne:=U4 hq e1 e2 e3 h1 h2 h3;refine Decidable.byContradiction λhn=>?_
  have hx:0<fB a c p:=by
   have:fB a c p = -fB a p c:=by unfold fB;grind
   grind
  have h4:=IG e1 e3 e2 n1 n3 n2 hx;have h5:=D8 k a p c;have h6:tH k a p c=0:=ω
  exact h2 (oU e2 e3 n2 n3 (QG h6))
 .rintro (rfl|rfl|h)
  .exact zJ k p c
  .exact BQ k a p
  .exact IG e1 e2 e3 n1 n2 n3 h
theorem H7(a b c:P2):gu c b a = -gu a b c:=by unfold gu cD;grind
theorem Gh{a b c p:P2}(h:¬gu a b c=0):VH (ctr a b c) (Ia a b c) (!decide (0<gu a b c)) a c p=uy a b c p:=by
 obtain⟨e1,e2,e3,hq⟩:=Gl h;have hac:a≠c:=λe=>h (by subst e;unfold gu cD;grind)
 unfold VH uy;rw[vS];simp only[bY,decide_eq_true_eq,ne_eq];rw[<-SH (p:=p) h]
 have key:∀ep:uI (ctr a b c) (Ia a b c) p,((if(!decide (0<gu a b c))=true then tH (ctr a b c) c p a else tH (ctr a b c) a p c)<=0↔(p=a\/p=c\/0<fB a p c*fB a b c)):=by
  intro ep;rw[FC a b c]
  by_cases hd:0<gu a b c
  .rw[if_neg (by simp[hd]),Ec hq e1 ep e3 hac]
   have:0<fB a p c↔0<fB a p c*gu a b c:=⟨λh=>rY h hd,λh=>by
    refine Decidable.byContradiction λhn=>?_
    have:=rH (show 0≤-fB a p c by grind) (show 0<=gu a b c by grind)
    grind⟩
   rw[this]
  .have hd':gu a b c<0:=ν
   rw[if_pos (by simp[hd]),Ec hq e3 ep e1 (λe=>hac e.symm)];have hx:fB c p a = -fB a p c:=by unfold fB;grind
   have:0<fB c p a↔0<fB a p c*gu a b c:=⟨λh=>by
    have:=rY (show 0 < -fB a p c by grind) (show 0 < -gu a b c by grind)
    grind,λh=>by
    refine Decidable.byContradiction λhn=>?_
    have:=rH (show 0<=fB a p c by grind) (show 0≤-gu a b c by grind)
    grind⟩
   rw[this];constructor
   .rintro (h|h|h)
    .exact .inr (.inl h)
    .exact .inl h
    .exact .inr (.inr h)
   .rintro (h|h|h)
    .exact .inr (.inl h)
    .exact .inl h
    .exact .inr (.inr h)
 constructor
 .rintro ⟨g1,g2⟩;exact⟨h,g1,(key g1).1 g2⟩
 .rintro ⟨_,g1,g2⟩;exact⟨g1,(key g1).2 g2⟩
theorem PI{k a c p:P2}{q:Rat}{cw:Bool}(hq:0<q)(e1:uI k q a)(e3:uI k q c):UF k q cw a c p=VH k q cw a c p:=by
 unfold UF VH IQ;rw[vS];simp only[bY,decide_eq_true_eq]
 have key:∀ep:uI k q p,(((if cw=true then ng (vN k) (vN a) (vN a) (vN p)else ng k a a p)<=0/\(if cw=true then ng (vN k) (vN a) (vN p) (vN c)else ng k a p c)<=0)↔(if cw=true then tH k c p a else tH k a p c)<=0):=by
  intro ep;have n1:=Qn hq e1;have n2:=Qn hq ep;have n3:=Qn hq e3;cases cw with
  |false =>
   simp only[uw,if_false];rw[GX,GX];exact⟨λh=>h.2,λh=>⟨zJ k a p,h⟩⟩
  |true =>
   simp only[if_true];rw[GY n1 n1 n2 (JU e1 e1) (JU e1 e1) (JU e1 ep) (JU ep e1) (JU e1 ep) (JU ep e1),GY n1 n2 n3 (JU e1 ep) (JU ep e1) (JU e1 e3) (JU e3 e1) (JU ep e3) (JU e3 ep)];exact⟨λh=>h.2,λh=>⟨BQ k p a,h⟩⟩
 constructor
 .rintro ⟨g1,g2⟩;exact⟨g1,(key g1).1 g2⟩
 .rintro ⟨g1,g2⟩;exact⟨g1,(key g1).2 g2⟩
end Go.Sw
namespace Go.Proofs.YtmniihkenijjpaaGreatDoor
open Go Go.RowKit Go.Sw
set_option maxRecDepth 100000
set_option maxHeartbeats 8000000
set_option synthInstance.maxSize 4000
set_option synthInstance.maxHeartbeats 400000
instance aaO(a b c:Rat):DenI Tryz.prog 269 [R a,R b,R c] (rz a<=1000000/\rz b<=1000000/\rz c<=1000000) (.int .i64 (qG a b c)):=⟨λhp=>by
 have i_a:RzB a 1000000:=⟨hp.1⟩
 have i_b:RzB b 1000000:=⟨hp.2.1⟩
 have i_c:RzB c 1000000:=⟨hp.2.2⟩
 all_goals refine au Tryz.func269 rfl ?_
 all_goals(repeat'((try(conv=>whnf));first
  |apply zaf|refine zaa ?_ ?_|(with_reducible first|apply zab|apply zac|refine zad (λ_=>?_) (λ_=>?_))|refine zas ζ ?_|apply zaq))
 all_goals(try apply zar)
 all_goals(try simp only[aV]at *)
 all_goals(try simp only[adn,abD]at *)
 all_goals first
  |with_reducible exact acv ξ|with_reducible exact adC ξ|with_reducible exact acW ξ ξ ξ|with_reducible exact abX ξ ξ ξ|((repeat' apply And.intro)<;>first|assumption|exact dY ω|exact eX ω|exact dU (aj _) (aj _))⟩
instance aa1(a b c f:Rat):DenI Tryz.prog 301 [R a,R b,R c,R f] (rz a<=40000/\rz b<=40000/\rz c<=40000/\rz f<=40000) (Ov (dX a b c f)):=⟨λhp=>by
 have i_a:RzB a 40000:=⟨hp.1⟩
 have i_b:RzB b 40000:=⟨hp.2.1⟩
 have i_c:RzB c 40000:=⟨hp.2.2.1⟩
 have i_f:RzB f 40000:=⟨hp.2.2.2⟩
 all_goals refine au Tryz.func301 rfl ?_
 all_goals(repeat'((try(conv=>whnf));first
  |refine zaa ?_ ?_|(with_reducible first|apply zab|apply zac)|refine zat (λ_=>?_) (λ_=>?_)|refine zas ζ ?_|apply zaq))
 all_goals(try apply zar)
 all_goals(try simp only[Prod.eta]at *)
 all_goals first
  |omega|(have z1:=Eh a b c;have z2:=gV f;unfold BD at *;omega)|(refine X8 (QY ?_);first|exact .inl ξ|exact .inr ξ)|(refine um ?_ (congrArg Ov (U0 ξ ξ));rfl)⟩
instance ZO(X Y Q ax bx ay bb c:Rat):DenI Tryz.prog 268 [Q3 X Y Q,Q5 ax bx ay bb c] (rz X<=40000/\rz Y<=40000/\rz Q<=40000/\rz ax<=40000/\rz bx<=40000/\rz ay<=40000/\rz bb<=40000/\rz c<=40000) (.tup [.int .i64 (iD ax bx ay bb c X Y Q).1,.bool (iD ax bx ay bb c X Y Q).2]):=⟨λhp=>by
 have i_X:RzB X 40000:=⟨hp.1⟩
 have i_Y:RzB Y 40000:=⟨hp.2.1⟩
 have i_Q:RzB Q 40000:=⟨hp.2.2.1⟩
 have i_ax:RzB ax 40000:=⟨hp.2.2.2.1⟩
 have i_bx:RzB bx 40000:=⟨hp.2.2.2.2.1⟩
 have i_ay:RzB ay 40000:=⟨hp.2.2.2.2.2.1⟩
 have i_bb:RzB bb 40000:=⟨hp.2.2.2.2.2.2.1⟩
 have i_c:RzB c 40000:=⟨hp.2.2.2.2.2.2.2⟩
 all_goals refine au Tryz.func268 rfl ?_
 all_goals(repeat'((try(conv=>whnf));first
  |apply zaf|refine zaa ?_ ?_|(with_reducible first|apply zab|apply zac)|refine zat (λ_=>?_) (λ_=>?_)|refine zas ζ ?_|apply zaq))
 all_goals(try apply zar)
 all_goals(try simp only[Prod.eta]at *)
 all_goals first
  |omega|(have z1:=Ea ax bx c X;have z2:=Ea ay bb c Y;have z3:=gV Q;unfold BD at *;omega)|(have z1:=wo ((dX ax bx c X).getD (0,0)) ((dX ax bx c X).getD (0,0));have z2:=wo ((dX ay bb c Y).getD (0,0)) ((dX ay bb c Y).getD (0,0));have z3:=gV Q;have z4:=zS z1 z2;unfold BD at *;omega)|(refine acT (acR ?_);first|exact .inl ξ|exact .inr (.inl ξ)|exact .inr (.inr ξ))|(rw[Zw (ax:=ax) (bx:=bx) (ay:=ay) (bb:=bb) (c:=c) (X:=X) (Y:=Y) (Q:=Q) ξ ξ ξ rfl rfl rfl];generalize(dX ax bx c X).getD (0,0)=u at *;generalize(dX ay bb c Y).getD (0,0)=v at *;generalize(bW Q).getD (0,0)=w at *;rcases k1:nT u u with _|s<;>rcases k2:nT v v with _|t<;>first|rfl|(exfalso;simp_all;done)|(simp only[k1,k2,uq,Option.isSome_some]at *;rcases k3:pX s t with _|m<;>first|rfl|(exfalso;simp_all;done)|(simp only[k3,uq,Option.isSome_some]at *;rcases k4:pX m (-w.2,-w.1)with _|r<;>first|rfl|(exfalso;simp_all;done))))⟩
instance Y6(X Y Q ax bx ay bb c:Rat):DenI Tryz.prog 238 [Q3 X Y Q,Q5 ax bx ay bb c] (rz X<=7000/\rz Y<=7000/\rz Q<=27000/\rz ax<=12/\rz bx<=12/\rz ay<=12/\rz bb<=12/\rz c<=12) (.int .i64 (-(qG ((ax-X)*(ax-X)+(ay-Y)*(ay-Y)+c*(bx*bx+bb*bb)-Q) ((ax-X)*bx+(ay-Y)*bb+((ax-X)*bx+(ay-Y)*bb)) c))):=⟨λhp=>by
 obtain⟨q0,q1,q2,q3,q4,q5,q6,q7⟩:=hp;have i_X:RzB X 7000:=⟨q0⟩
 have i_Y:RzB Y 7000:=⟨q1⟩
 have i_Q:RzB Q 27000:=⟨q2⟩
 have i_ax:RzB ax 12:=⟨q3⟩
 have i_bx:RzB bx 12:=⟨q4⟩
 have i_ay:RzB ay 12:=⟨q5⟩
 have i_bb:RzB bb 12:=⟨q6⟩
 have i_c:RzB c 12:=⟨q7⟩
 all_goals refine au Tryz.func238 rfl ?_
 all_goals(repeat'((try(conv=>whnf));first
  |refine zaa ?_ ?_|refine zat (λ_=>?_) (λ_=>?_)|refine zas ζ ?_|apply zaq))
 all_goals(try apply zar)
 all_goals first
  |(exact Ym ξ (PV ξ) (Bh _ _ _).1 (Bh _ _ _).2)|(refine Z5 ?_;rfl)|((repeat' apply And.intro)<;>first|assumption|exact dY ω|exact eX ω|exact dU (aj _) (aj _))⟩
instance aeR(X Y Q x y:Rat):DenI Tryz.prog 238 [Q3 X Y Q,Q5 x 0 y 0 0] (rz X<=7000/\rz Y<=7000/\rz Q<=27000/\rz x<=12/\rz y<=12) (.int .i64 (-(aK ((x-X)*(x-X)+(y-Y)*(y-Y)-Q)))):=⟨λ⟨h1,h2,h3,h4,h5⟩=>by
 have h:=(Y6 X Y Q x 0 y 0 0).den ⟨h1,h2,h3,h4,by decide +kernel,h5,by decide +kernel,by decide +kernel⟩;rw[VR,show(x-X)*(x-X)+(y-Y)*(y-Y)+0*(0*0+0*0)-Q=(x-X)*(x-X)+(y-Y)*(y-Y)-Q by grind]at h
 exact h⟩
@[reducible] def yu(X Y Q:Rat)(cw:Bool)(a b e f:Rat):List Cell:=[.v (.bool true),zs (0:Rat).num,zl (0:Rat).num,zs (0:Rat).den,zl (0:Rat).den,zs (0:Rat).num,zl (0:Rat).num,zs (0:Rat).den,zl (0:Rat).den,zs (0:Rat).num,zl (0:Rat).num,zs (0:Rat).den,zl (0:Rat).den,zs X.num,zl X.num,zs X.den,zl X.den,zs Y.num,zl Y.num,zs Y.den,zl Y.den,zs Q.num,zl Q.num,zs Q.den,zl Q.den,.v (.bool cw),zs a.num,zl a.num,zs a.den,zl a.den,zs (0:Rat).num,zl (0:Rat).num,zs (0:Rat).den,zl (0:Rat).den,zs b.num,zl b.num,zs b.den,zl b.den,zs (0:Rat).num,zl (0:Rat).num,zs (0:Rat).den,zl (0:Rat).den,zs (0:Rat).num,zl (0:Rat).num,zs (0:Rat).den,zl (0:Rat).den,zs e.num,zl e.num,zs e.den,zl e.den,zs (0:Rat).num,zl (0:Rat).num,zs (0:Rat).den,zl (0:Rat).den,zs f.num,zl f.num,zs f.den,zl f.den,zs (0:Rat).num,zl (0:Rat).num,zs (0:Rat).den,zl (0:Rat).den,zs (0:Rat).num,zl (0:Rat).num,zs (0:Rat).den,zl (0:Rat).den]
@[reducible] def xk(X Y Q:Rat)(cw:Bool)(a b e f:Rat):List Cell:=[.v (.bool true),.v (.bool false),.sl 1 [],.v (.bool false),.sl 1 [],.v (.bool false),.sl 1 [],.v (.bool false),.sl 1 [],.v (.bool false),.sl 1 [],.v (.bool false),.sl 1 [],zs X.num,zl X.num,zs X.den,zl X.den,zs Y.num,zl Y.num,zs Y.den,zl Y.den,zs Q.num,zl Q.num,zs Q.den,zl Q.den,.v (.bool cw),zs a.num,zl a.num,zs a.den,zl a.den,zs (0:Rat).num,zl (0:Rat).num,zs (0:Rat).den,zl (0:Rat).den,zs b.num,zl b.num,zs b.den,zl b.den,zs (0:Rat).num,zl (0:Rat).num,zs (0:Rat).den,zl (0:Rat).den,zs (0:Rat).num,zl (0:Rat).num,zs (0:Rat).den,zl (0:Rat).den,zs e.num,zl e.num,zs e.den,zl e.den,zs (0:Rat).num,zl (0:Rat).num,zs (0:Rat).den,zl (0:Rat).den,zs f.num,zl f.num,zs f.den,zl f.den,zs (0:Rat).num,zl (0:Rat).num,zs (0:Rat).den,zl (0:Rat).den,zs (0:Rat).num,zl (0:Rat).num,zs (0:Rat).den,zl (0:Rat).den]
instance aft:DenI Tryz.prog 367 [] (True) (R 0):=⟨λhp=>by
 refine au Tryz.func367 rfl ?_
 all_goals(repeat'((try(conv=>whnf));first
  |refine zaa ?_ ?_|apply zaq))
 all_goals(try apply zar)
 all_goals first
  |rfl|omega⟩
instance adF(a:Rat):DenI Tryz.prog 358 [R a] (rz a<=4000000) (Q3 a 0 0):=⟨λhp=>by
 have i_a:RzB a 4000000:=⟨hp⟩
 all_goals refine au Tryz.func358 rfl ?_
 all_goals(repeat'((try(conv=>whnf));first
  |apply zaf|refine zas ζ ?_|apply zaq))
 all_goals first
  |rfl⟩
instance afI:DenI Tryz.prog 208 [] (True) (R 0):=⟨λhp=>by
 refine au Tryz.func208 rfl ?_
 all_goals(repeat'((try(conv=>whnf));first
  |refine zaa ?_ ?_|apply zaq))
 all_goals(try apply zar)
 all_goals first
  |rfl|omega⟩
instance afy(a b:Rat):DenI Tryz.prog 167 [Q2 a b] (rz a<=4000000/\rz b<=4000000) (Q5 a 0 b 0 0):=⟨λhp=>by
 have i_a:RzB a 4000000:=⟨hp.1⟩
 have i_b:RzB b 4000000:=⟨hp.2⟩
 all_goals refine au Tryz.func167 rfl ?_
 all_goals(repeat'((try(conv=>whnf));first
  |apply zaf|refine zas ζ ?_|apply zaq))
 all_goals first
  |rfl⟩
instance adW(a:Rat):DenI Tryz.prog 313 [R a,R 0,R 0] (rz a<=4000000) (Q3 a 0 0):=⟨λhp=>by
 have i_a:RzB a 4000000:=⟨hp⟩
 all_goals refine au Tryz.func313 rfl ?_
 all_goals(repeat'((try(conv=>whnf));first
  |apply zaf|(with_reducible refine zad (λ_=>?_) (λ_=>?_))|apply zaq))
 all_goals(try simp only[aV]at *)
 all_goals first
  |rfl⟩
instance q_x(a d:Rat):DenI Tryz.prog 272 [Q5 a 0 d 0 0] (rz a<=4000000/\rz d<=4000000) (Q3 a 0 0):=⟨λhp=>by
 have i_a:RzB a 4000000:=⟨hp.1⟩
 have i_d:RzB d 4000000:=⟨hp.2⟩
 all_goals refine au Tryz.func272 rfl ?_
 all_goals(repeat'((try(conv=>whnf));first
  |refine zaa ?_ ?_|apply zaq))
 all_goals(try apply zar)
 all_goals first
  |rfl|((repeat' apply And.intro)<;>first|assumption|exact dY ω|exact eX ω|exact dU (aj _) (aj _))⟩
instance q_y(a d:Rat):DenI Tryz.prog 273 [Q5 a 0 d 0 0] (rz a<=4000000/\rz d<=4000000) (Q3 d 0 0):=⟨λhp=>by
 have i_a:RzB a 4000000:=⟨hp.1⟩
 have i_d:RzB d 4000000:=⟨hp.2⟩
 all_goals refine au Tryz.func273 rfl ?_
 all_goals(repeat'((try(conv=>whnf));first
  |refine zaa ?_ ?_|apply zaq))
 all_goals(try apply zar)
 all_goals first
  |rfl|((repeat' apply And.intro)<;>first|assumption|exact dY ω|exact eX ω|exact dU (aj _) (aj _))⟩
instance aeV(a d:Rat):DenI Tryz.prog 271 [Q3 a 0 0,Q3 d 0 0] (rz a<=4000000/\rz d<=4000000) (.int .i64 (dF a d)):=⟨λhp=>by
 have i_a:RzB a 4000000:=⟨hp.1⟩
 have i_d:RzB d 4000000:=⟨hp.2⟩
 all_goals refine au Tryz.func271 rfl ?_
 all_goals(repeat'((try(conv=>whnf));first
  |apply zaf|refine zaa ?_ ?_|(with_reducible first|apply zab|apply zac|refine zad (λ_=>?_) (λ_=>?_))|apply zaq))
 all_goals(try apply zar)
 all_goals(try simp only[aV]at *)
 all_goals first
  |rfl|((repeat' apply And.intro)<;>first|assumption|exact dY ω|exact eX ω|exact dU (aj _) (aj _))|(exfalso;simp_all;done)⟩
instance acE(a d:Rat):DenI Tryz.prog 339 [Q3 a 0 0,R d] (rz a<=4000000/\rz d<=4000000) (.int .i64 (dF a d)):=⟨λhp=>by
 have i_a:RzB a 4000000:=⟨hp.1⟩
 have i_d:RzB d 4000000:=⟨hp.2⟩
 all_goals refine au Tryz.func339 rfl ?_
 all_goals(repeat'((try(conv=>whnf));first
  |refine zaa ?_ ?_|refine zas ζ ?_|apply zaq))
 all_goals(try apply zar)
 all_goals first
  |rfl|((repeat' apply And.intro)<;>first|assumption|exact dY ω|exact eX ω|exact dU (aj _) (aj _))⟩
instance abv(X Y Q x y:Rat):DenI Tryz.prog 314 [Q3 X Y Q,Q5 x 0 y 0 0] (rz X<=1000000/\rz Y<=1000000/\rz Q<=1000000/\rz x<=1000000/\rz y<=1000000) (.int .i64 (hf (X,Y) (x,y))):=⟨λhp=>by
 have i_X:RzB X 1000000:=⟨hp.1⟩
 have i_Y:RzB Y 1000000:=⟨hp.2.1⟩
 have i_Q:RzB Q 1000000:=⟨hp.2.2.1⟩
 have i_x:RzB x 1000000:=⟨hp.2.2.2.1⟩
 have i_y:RzB y 1000000:=⟨hp.2.2.2.2⟩
 all_goals refine au Tryz.func314 rfl ?_
 all_goals(repeat'((try(conv=>whnf));first
  |refine zaa ?_ ?_|(with_reducible first|apply zab|apply zac|refine zad (λ_=>?_) (λ_=>?_))|refine zas ζ ?_|apply zaq))
 all_goals(try apply zar)
 all_goals(try simp only[aV]at *)
 all_goals first
  |(refine iE ?_;unfold hf;grind)|((repeat' apply And.intro)<;>first|assumption|exact dY ω|exact eX ω|exact dU (aj _) (aj _))⟩
instance ac6(X Y Q x y u v:Rat):DenI Tryz.prog 277 [Q3 X Y Q,Q5 x 0 y 0 0,Q5 u 0 v 0 0] (rz X<=1000000/\rz Y<=1000000/\rz Q<=1000000/\rz x<=1000000/\rz y<=1000000/\rz u<=1000000/\rz v<=1000000) (.int .i64 (dh (X,Y) (x,y) (u,v))):=⟨λhp=>by
 have i_X:RzB X 1000000:=⟨hp.1⟩
 have i_Y:RzB Y 1000000:=⟨hp.2.1⟩
 have i_Q:RzB Q 1000000:=⟨hp.2.2.1⟩
 have i_x:RzB x 1000000:=⟨hp.2.2.2.1⟩
 have i_y:RzB y 1000000:=⟨hp.2.2.2.2.1⟩
 have i_u:RzB u 1000000:=⟨hp.2.2.2.2.2.1⟩
 have i_v:RzB v 1000000:=⟨hp.2.2.2.2.2.2⟩
 have z1:=qm (X,Y) (x,y);have z2:=qm (X,Y) (u,v);have z3:=nP x u
 all_goals refine au Tryz.func277 rfl ?_
 all_goals(repeat'((try(conv=>whnf));first
  |refine zaa ?_ ?_|(with_reducible first|refine zad (λ_=>?_) (λ_=>?_)|refine zae (λ_=>?_) (λ_=>?_))|refine zas ζ ?_|apply zaq))
 all_goals(try apply zar)
 all_goals first
  |(refine iE ?_;(try rw[aS ω ω]);unfold dh;grind)|((repeat' apply And.intro)<;>first|assumption|exact dY ω|exact eX ω|exact dU (aj _) (aj _))⟩
instance aex(X Y Q x y u v:Rat):DenI Tryz.prog 275 [Q3 X Y Q,Q5 x 0 y 0 0,Q5 u 0 v 0 0] (rz X<=1000000/\rz Y<=1000000/\rz Q<=1000000/\rz x<=1000000/\rz y<=1000000/\rz u<=1000000/\rz v<=1000000) (.int .i64 (AX (X,Y) (x,y) (u,v))):=⟨λhp=>by
 have i_X:RzB X 1000000:=⟨hp.1⟩
 have i_Y:RzB Y 1000000:=⟨hp.2.1⟩
 have i_Q:RzB Q 1000000:=⟨hp.2.2.1⟩
 have i_x:RzB x 1000000:=⟨hp.2.2.2.1⟩
 have i_y:RzB y 1000000:=⟨hp.2.2.2.2.1⟩
 have i_u:RzB u 1000000:=⟨hp.2.2.2.2.2.1⟩
 have i_v:RzB v 1000000:=⟨hp.2.2.2.2.2.2⟩
 all_goals refine au Tryz.func275 rfl ?_
 all_goals(repeat'((try(conv=>whnf));first
  |refine zaa ?_ ?_|(with_reducible refine zad (λ_=>?_) (λ_=>?_))|apply zaq))
 all_goals(try apply zar)
 all_goals first
  |(refine iE ?_;unfold AX;grind)|((repeat' apply And.intro)<;>first|assumption|exact dY ω|exact eX ω|exact dU (aj _) (aj _))⟩
instance adV(n:Int):DenI Tryz.prog 276 [.int .i64 n] (True) (.int .i64 (gB n)):=⟨λhp=>by
 refine au Tryz.func276 rfl ?_
 all_goals(repeat'((try(conv=>whnf));first
  |apply zaq))
 all_goals first
  |(refine iE ?_;simp only[Pq,List.foldl_nil];unfold gB;(repeat' split)<;>omega)⟩
instance ad3(X Y Q x y u v s t:Rat):DenI Tryz.prog 242 [Q3 X Y Q,Q5 x 0 y 0 0,Q5 u 0 v 0 0,Q5 s 0 t 0 0] (rz X<=1000000/\rz Y<=1000000/\rz Q<=1000000/\rz x<=1000000/\rz y<=1000000/\rz u<=1000000/\rz v<=1000000/\rz s<=1000000/\rz t<=1000000) (.int .i64 (tH (X,Y) (x,y) (u,v) (s,t))):=⟨λhp=>by
 have i_X:RzB X 1000000:=⟨hp.1⟩
 have i_Y:RzB Y 1000000:=⟨hp.2.1⟩
 have i_Q:RzB Q 1000000:=⟨hp.2.2.1⟩
 have i_x:RzB x 1000000:=⟨hp.2.2.2.1⟩
 have i_y:RzB y 1000000:=⟨hp.2.2.2.2.1⟩
 have i_u:RzB u 1000000:=⟨hp.2.2.2.2.2.1⟩
 have i_v:RzB v 1000000:=⟨hp.2.2.2.2.2.2.1⟩
 have i_s:RzB s 1000000:=⟨hp.2.2.2.2.2.2.2.1⟩
 have i_t:RzB t 1000000:=⟨hp.2.2.2.2.2.2.2.2⟩
 have z4:=Ip (X,Y) (x,y) (u,v);have z5:=Ip (X,Y) (x,y) (s,t)
 all_goals refine au Tryz.func242 rfl ?_
 all_goals(repeat'((try(conv=>whnf));first
  |apply zaf|refine zaa ?_ ?_|(with_reducible refine zae (λ_=>?_) (λ_=>?_))|refine zas ζ ?_|apply zaq))
 all_goals(try apply zar)
 all_goals first
  |(refine iE ?_;unfold tH;rw[if_neg ξ,aS ω ω])|(refine iE ?_;unfold tH;rw[if_pos ξ])|((repeat' apply And.intro)<;>first|assumption|exact dY ω|exact eX ω|exact dU (aj _) (aj _))⟩
instance ael(X Y Q a b e f:Rat):DenI Tryz.prog 274 [.agg (yu X Y Q true a b e f)] (rz X<=1000000/\rz Y<=1000000/\rz Q<=1000000/\rz a<=1000000/\rz b<=1000000/\rz e<=1000000/\rz f<=1000000) (.agg (yu X Y Q false e f a b)):=⟨λhp=>by
 have i_X:RzB X 1000000:=⟨hp.1⟩
 have i_Y:RzB Y 1000000:=⟨hp.2.1⟩
 have i_Q:RzB Q 1000000:=⟨hp.2.2.1⟩
 have i_a:RzB a 1000000:=⟨hp.2.2.2.1⟩
 have i_b:RzB b 1000000:=⟨hp.2.2.2.2.1⟩
 have i_e:RzB e 1000000:=⟨hp.2.2.2.2.2.1⟩
 have i_f:RzB f 1000000:=⟨hp.2.2.2.2.2.2⟩
 all_goals refine au Tryz.func274 rfl ?_
 all_goals(repeat'((try(conv=>whnf));first
  |(with_reducible apply zab)|apply zaq))
 all_goals first
  |rfl⟩
instance abp(X Y Q a b e f:Rat):DenI Tryz.prog 241 [.agg (yu X Y Q true a b e f)] (rz X<=1000000/\rz Y<=1000000/\rz Q<=1000000/\rz a<=1000000/\rz b<=1000000/\rz e<=1000000/\rz f<=1000000) (.agg (yu X Y Q false e f a b)):=⟨λhp=>by
 have i_X:RzB X 1000000:=⟨hp.1⟩
 have i_Y:RzB Y 1000000:=⟨hp.2.1⟩
 have i_Q:RzB Q 1000000:=⟨hp.2.2.1⟩
 have i_a:RzB a 1000000:=⟨hp.2.2.2.1⟩
 have i_b:RzB b 1000000:=⟨hp.2.2.2.2.1⟩
 have i_e:RzB e 1000000:=⟨hp.2.2.2.2.2.1⟩
 have i_f:RzB f 1000000:=⟨hp.2.2.2.2.2.2⟩
 all_goals refine au Tryz.func241 rfl ?_
 all_goals(repeat'((try(conv=>whnf));first
  |refine zaa ?_ ?_|(with_reducible apply zab)|apply zaq))
 all_goals(try apply zar)
 all_goals first
  |rfl|((repeat' apply And.intro)<;>first|assumption|exact dY ω|exact eX ω|exact dU (aj _) (aj _))⟩
instance adO(X Y Q a b e f:Rat):DenI Tryz.prog 241 [.agg (yu X Y Q false a b e f)] (rz X<=1000000/\rz Y<=1000000/\rz Q<=1000000/\rz a<=1000000/\rz b<=1000000/\rz e<=1000000/\rz f<=1000000) (.agg (yu X Y Q false a b e f)):=⟨λhp=>by
 have i_X:RzB X 1000000:=⟨hp.1⟩
 have i_Y:RzB Y 1000000:=⟨hp.2.1⟩
 have i_Q:RzB Q 1000000:=⟨hp.2.2.1⟩
 have i_a:RzB a 1000000:=⟨hp.2.2.2.1⟩
 have i_b:RzB b 1000000:=⟨hp.2.2.2.2.1⟩
 have i_e:RzB e 1000000:=⟨hp.2.2.2.2.2.1⟩
 have i_f:RzB f 1000000:=⟨hp.2.2.2.2.2.2⟩
 all_goals refine au Tryz.func241 rfl ?_
 all_goals(repeat'((try(conv=>whnf));first
  |(with_reducible apply zac)|apply zaq))
 all_goals first
  |rfl⟩
instance abh:DenI Tryz.prog 166 [] (True) (.agg [.v (.bool false),zs (0:Rat).num,zl (0:Rat).num,zs (0:Rat).den,zl (0:Rat).den,zs (0:Rat).num,zl (0:Rat).num,zs (0:Rat).den,zl (0:Rat).den,zs (0:Rat).num,zl (0:Rat).num,zs (0:Rat).den,zl (0:Rat).den,zs (0:Rat).num,zl (0:Rat).num,zs (0:Rat).den,zl (0:Rat).den,zs (0:Rat).num,zl (0:Rat).num,zs (0:Rat).den,zl (0:Rat).den,zs (0:Rat).num,zl (0:Rat).num,zs (0:Rat).den,zl (0:Rat).den,.v (.bool false),.v (.bool false),.sl 1 [],.v (.bool false),.sl 1 [],.v (.bool false),.sl 1 [],.v (.bool false),.sl 1 [],.v (.bool false),.sl 1 [],.v (.bool false),.sl 1 [],.v (.bool false),.sl 1 [],.v (.bool false),.sl 1 [],.v (.bool false),.sl 1 [],.v (.bool false),.sl 1 [],.v (.bool false),.sl 1 [],.v (.bool false),.sl 1 [],.v (.bool false),.sl 1 [],.v (.bool false),.sl 1 [],.v (.bool false),.sl 1 [],.v (.bool false),.sl 1 [],.v (.bool false),.sl 1 [],.v (.bool false),.sl 1 [],.v (.bool false),.sl 1 [],.v (.bool false),.sl 1 []]):=⟨λhp=>by
 refine au Tryz.func166 rfl ?_
 all_goals(repeat'((try(conv=>whnf));first
  |refine zaa ?_ ?_|apply zaq))
 all_goals(try apply zar)
 all_goals(try simp only[aV]at *)
 all_goals first
  |rfl|omega⟩
instance aeP(a b c d e f:Rat):DenC Tryz.prog 125 [Q2 a b,Q2 c d,Q2 e f] (rz a<=100/\rz b<=100/\rz c<=100/\rz d<=100/\rz e<=100/\rz f<=100) (cD a b c d e f=0) (.tup [.agg [.v (.bool false),.v (.bool false),.sl 1 [],.v (.bool false),.sl 1 [],.v (.bool false),.sl 1 [],.v (.bool false),.sl 1 [],.v (.bool false),.sl 1 [],.v (.bool false),.sl 1 [],.v (.bool false),.sl 1 [],.v (.bool false),.sl 1 [],.v (.bool false),.sl 1 [],.v (.bool false),.sl 1 [],.v (.bool false),.sl 1 [],.v (.bool false),.sl 1 [],.v (.bool false),.v (.bool false),.sl 1 [],.v (.bool false),.sl 1 [],.v (.bool false),.sl 1 [],.v (.bool false),.sl 1 [],.v (.bool false),.sl 1 [],.v (.bool false),.sl 1 [],.v (.bool false),.sl 1 [],.v (.bool false),.sl 1 [],.v (.bool false),.sl 1 [],.v (.bool false),.sl 1 [],.v (.bool false),.sl 1 [],.v (.bool false),.sl 1 [],.v (.bool false),.sl 1 [],.v (.bool false),.sl 1 [],.v (.bool false),.sl 1 [],.v (.bool false),.sl 1 [],.v (.bool false),.sl 1 [],.v (.bool false),.sl 1 [],.v (.bool false),.sl 1 [],.v (.bool false),.sl 1 []],.int .i64 6]) (.tup [.agg (yu (WV (a,b) (c,d) (e,f)) (U9 (a,b) (c,d) (e,f)) (Ia (a,b) (c,d) (e,f)) (!decide (0<cD a b c d e f)) a b e f),.int .i64 0]):=⟨denC λhp q e1 e2=>by
 have i_a:RzB a 100:=⟨hp.1⟩
 have i_b:RzB b 100:=⟨hp.2.1⟩
 have i_c:RzB c 100:=⟨hp.2.2.1⟩
 have i_d:RzB d 100:=⟨hp.2.2.2.1⟩
 have i_e:RzB e 100:=⟨hp.2.2.2.2.1⟩
 have i_f:RzB f 100:=⟨hp.2.2.2.2.2⟩
 all_goals refine au Tryz.func125 rfl ?_
 all_goals(repeat'((try(conv=>whnf));first
  |apply zaf|refine zaa ?_ ?_|refine zao ?_ (λ_=>?_) (λ_=>?_)|(with_reducible refine zae (λ_=>?_) (λ_=>?_))|refine zas ζ ?_|apply zaq))
 all_goals(try apply zar)
 all_goals(try simp only[aV]at *)
 all_goals first
  |(exfalso;omega)|(exfalso;rename ¬True=>h;exact h trivial)|(rw[e2 (by unfold cD;assumption),cwF];rfl)|(rw[e1 (by unfold cD;assumption)];rfl)|((repeat' apply And.intro)<;>first|assumption|exact dY ω|exact eX ω|exact dU (aj _) (aj _))⟩
instance aeE(X Y Q a b e f x y:Rat)(cw:Bool):DenI Tryz.prog 209 [.agg (yu X Y Q cw a b e f),Q5 x 0 y 0 0] (rz X<=7000/\rz Y<=7000/\rz Q<=27000/\rz a<=12/\rz b<=12/\rz e<=12/\rz f<=12/\rz x<=12/\rz y<=12) (.bool (decide (uI (X,Y) Q (x,y)))):=⟨λhp=>by
 obtain⟨q0,q1,q2,q3,q4,q5,q6,q7,q8⟩:=hp;have i_X:RzB X 7000:=⟨q0⟩
 have i_Y:RzB Y 7000:=⟨q1⟩
 have i_Q:RzB Q 27000:=⟨q2⟩
 have i_a:RzB a 12:=⟨q3⟩
 have i_b:RzB b 12:=⟨q4⟩
 have i_e:RzB e 12:=⟨q5⟩
 have i_f:RzB f 12:=⟨q6⟩
 have i_x:RzB x 12:=⟨q7⟩
 have i_y:RzB y 12:=⟨q8⟩
 all_goals refine au Tryz.func209 rfl ?_
 all_goals(repeat'((try(conv=>whnf));first
  |refine zaa ?_ ?_|(with_reducible apply zab)|apply zaq))
 all_goals(try apply zar)
 all_goals first
  |exact bE Hl|exact⟨ξ,ξ,ξ,ξ,ξ⟩⟩
instance aei(X Y Q a b e f x y:Rat)(cw:Bool):DenI Tryz.prog 210 [.agg (yu X Y Q cw a b e f),Q5 x 0 y 0 0] (rz X<=7000/\rz Y<=7000/\rz Q<=27000/\rz a<=12/\rz b<=12/\rz e<=12/\rz f<=12/\rz x<=12/\rz y<=12) (.bool (decide ((if cw=true then tH (X,Y) (e,f) (x,y) (a,b) else tH (X,Y) (a,b) (x,y) (e,f))<=0))):=⟨λhp=>by
 obtain⟨q0,q1,q2,q3,q4,q5,q6,q7,q8⟩:=hp;have i_X:RzB X 7000:=⟨q0⟩
 have i_Y:RzB Y 7000:=⟨q1⟩
 have i_Q:RzB Q 27000:=⟨q2⟩
 have i_a:RzB a 12:=⟨q3⟩
 have i_b:RzB b 12:=⟨q4⟩
 have i_e:RzB e 12:=⟨q5⟩
 have i_f:RzB f 12:=⟨q6⟩
 have i_x:RzB x 12:=⟨q7⟩
 have i_y:RzB y 12:=⟨q8⟩
 cases cw
 all_goals refine au Tryz.func210 rfl ?_
 all_goals(repeat'((try(conv=>whnf));first
  |refine zaa ?_ ?_|refine zat (λ_=>?_) (λ_=>?_)|apply zaq))
 all_goals(try apply zar)
 all_goals(try simp only[aV]at *)
 all_goals first
  |rfl|((repeat' apply And.intro)<;>first|assumption|exact dY ω|exact eX ω|exact dU (aj _) (aj _))|(exfalso;simp_all;done)⟩
instance afC(X Y Q a b e f x y:Rat)(cw:Bool):DenI Tryz.prog 168 [.agg (yu X Y Q cw a b e f),Q5 x 0 y 0 0] (rz X<=7000/\rz Y<=7000/\rz Q<=27000/\rz a<=12/\rz b<=12/\rz e<=12/\rz f<=12/\rz x<=12/\rz y<=12) (.bool (VH (X,Y) Q cw (a,b) (e,f) (x,y))):=⟨λhp=>by
 obtain⟨q0,q1,q2,q3,q4,q5,q6,q7,q8⟩:=hp;have i_X:RzB X 7000:=⟨q0⟩
 have i_Y:RzB Y 7000:=⟨q1⟩
 have i_Q:RzB Q 27000:=⟨q2⟩
 have i_a:RzB a 12:=⟨q3⟩
 have i_b:RzB b 12:=⟨q4⟩
 have i_e:RzB e 12:=⟨q5⟩
 have i_f:RzB f 12:=⟨q6⟩
 have i_x:RzB x 12:=⟨q7⟩
 have i_y:RzB y 12:=⟨q8⟩
 all_goals refine au Tryz.func168 rfl ?_
 all_goals(repeat'((try(conv=>whnf));first
  |refine zaa ?_ ?_|(with_reducible first|apply zab|apply zac|refine zad (λ_=>?_) (λ_=>?_))|apply zaq))
 all_goals(try apply zar)
 all_goals first
  |(refine bE ?_;unfold VH;have hk:decide (uI (X,Y) Q (x,y))=true:=decide_eq_true ξ;rw[hk];rfl)|(refine bE ?_;unfold VH;have hk:decide (uI (X,Y) Q (x,y))=false:=decide_eq_false ξ;rw[hk];rfl)|((repeat' apply And.intro)<;>first|assumption|exact dY ω|exact eX ω|exact dU (aj _) (aj _))⟩
end Go.Proofs.YtmniihkenijjpaaGreatDoor
namespace Go.Sw
open Go
def Cau(f:Nat->Rat):Prop:=∀d:Rat,0<d->∃N,∀m n,N<=m->N<=n->f m<f n+d
def PosS(f:Nat->Rat):Prop:=∃d:Rat,0<d/\∃N,∀n,N<=n->d<f n
def NulS(f:Nat->Rat):Prop:=∀d:Rat,0<d->∃N,∀n,N<=n→-d<f n/\f n<d
def Bnd(f:Nat->Rat):Prop:=∃B:Rat,0<B/\∃N,∀n,N<=n→-B<f n/\f n<B
def Uy(f:Nat->Rat)(n:Int):Prop:=(n=1/\PosS f)\/(n = -1/\PosS λk=>-f k)\/(n=0/\NulS f)
theorem Gi{x y B e:Rat}(h1 : -B<x)(h2:x<B)(h3 : -e<y)(h4:y<e):x*y<B*e:=by
 have p1:=rY (show 0<B-x by grind) (show 0<e+y by grind);have p2:=rY (show 0<B+x by grind) (show 0<e-y by grind)
 grind
theorem Nc{x y B e:Rat}(h1 : -B<x)(h2:x<B)(h3 : -e<y)(h4:y<e):-(B*e)<x*y:=by
 have:=Gi (x:=-x) (y:=y) (B:=B) (e:=e) ν ν h3 h4
 grind
theorem Kw{a b:Rat}(h1:0<a)(h2:0<b):0<a/b:=by
 have hb:b≠0:=ν
 rcases FY (a:=a/b) (b:=0)with h|h
 .have p:=rH (show 0≤-(a/b) by grind) (show 0<=b by grind);have e:a/b*b=a:=ν
  grind
 .by_cases e:a/b=0
  .have e':a/b*b=a:=ν
   rw[e]at e';grind
  .grind
theorem NulS.neg{f:Nat->Rat}(h:NulS f):NulS λn=>-f n:=λd hd=>by
 obtain⟨N,hN⟩:=h d hd;exact⟨N,λn hn=>by have:=hN n hn;constructor<;>grind⟩
theorem NulS.mul{f g:Nat->Rat}(h:NulS f)(k:Bnd g):NulS λn=>f n*g n:=λd hd=>by
 obtain⟨B,hB,M,hM⟩:=k;obtain⟨N,hN⟩:=h (d/B) (Kw hd hB);refine⟨N+M,λn hn=>?_⟩;have a:=hN n ω;have b:=hM n ω;have e:d/B*B=d:=by have:B≠0:=ν;grind
 have p1:=Gi a.1 a.2 b.1 b.2;have p2:=Nc a.1 a.2 b.1 b.2;rw[e]at p1 p2;exact⟨p2,p1⟩
theorem NulS.zero:NulS λ_=>0:=λd hd=>⟨0,λn _=>by constructor<;>grind⟩
theorem NulS.cg{f g:Nat->Rat}(h:NulS f)(e:∀n,f n=g n):NulS g:=by rwa [funext e]at h
theorem Cau.const(q:Rat):Cau λ_=>q:=λd hd=>⟨0,λm n _ _=>by grind⟩
theorem Cau.neg{f:Nat->Rat}(h:Cau f):Cau λn=>-f n:=λd hd=>by
 obtain⟨N,hN⟩:=h d hd;exact⟨N,λm n hm hn=>by have:=hN n m hn hm;grind⟩
theorem PosS.mul{f g:Nat->Rat}(h:PosS f)(k:PosS g):PosS λn=>f n*g n:=by
 obtain⟨d,hd,N,hN⟩:=h;obtain⟨e,he,M,hM⟩:=k;refine⟨d*e,rY hd he,N+M,λn hn=>?_⟩;have a:=hN n ω;have b:=hM n ω;have p1:=rY (show 0<f n-d by grind) (show 0<g n by grind);have p2:=rY hd (show 0<g n-e by grind)
 grind
theorem PosS.cg{f g:Nat->Rat}(h:PosS f)(e:∀n,f n=g n):PosS g:=by rwa [funext e]at h
theorem PosS.not{f:Nat->Rat}(h:PosS f)(k:PosS λn=>-f n):False:=by
 obtain⟨d,hd,N,hN⟩:=h;obtain⟨e,he,M,hM⟩:=k;have:=hN (N+M) ω;have:=hM (N+M) ω
 grind
namespace Uy
theorem ex{f:Nat->Rat}(h:Cau f):∃n,Uy f n:=by
 by_cases h1:PosS f
 .exact⟨1,.inl ⟨rfl,h1⟩⟩
 .by_cases h2:PosS λn=>-f n
  .exact⟨-1,.inr (.inl ⟨rfl,h2⟩)⟩
  .refine⟨0,.inr (.inr ⟨rfl,λd hd=>?_⟩)⟩;obtain⟨N,hN⟩:=h (d*(1/2)) ν
   have a1:∃m,N<=m/\f m<=d*(1/2):=Classical.byContradiction λhc=>h1 ⟨d*(1/2),ν,N,λn hn=>by
    rcases FY (a:=f n) (b:=d*(1/2))with h|h
    .exact absurd ⟨n,hn,h⟩ hc
    .by_cases e:f n=d*(1/2)
     .exact absurd ⟨n,hn,ν⟩ hc
     .grind⟩
   have a2:∃m,N<=m∧-f m<=d*(1/2):=Classical.byContradiction λhc=>h2 ⟨d*(1/2),ν,N,λn hn=>by
    rcases FY (a:=-f n) (b:=d*(1/2))with h|h
    .exact absurd ⟨n,hn,h⟩ hc
    .by_cases e : -f n=d*(1/2)
     .exact absurd ⟨n,hn,ν⟩ hc
     .grind⟩
   obtain⟨m1,g1,k1⟩:=a1;obtain⟨m2,g2,k2⟩:=a2;refine⟨N,λn hn=>?_⟩;have b1:=hN n m1 hn g1;have b2:=hN m2 n g2 hn;constructor<;>grind
theorem cg{f g:Nat->Rat}{n:Int}(h:Uy f n)(e:∀k,f k=g k):Uy g n:=by rwa [funext e]at h
theorem neg{f:Nat->Rat}{n:Int}(h:Uy f n):Uy (λk=>-f k) (-n):=by
 rcases h with⟨rfl,h⟩|⟨rfl,h⟩|⟨rfl,h⟩
 .exact .inr (.inl ⟨rfl,h.cg λn=>by grind⟩)
 .exact .inl ⟨rfl,h⟩
 .exact .inr (.inr ⟨rfl,h.neg⟩)
theorem const(q:Rat):Uy (λ_=>q) (aK q):=by
 rcases dP q with⟨a,e⟩|⟨a,e⟩|⟨a,e⟩<;>rw[e]
 .exact .inr (.inl ⟨rfl,⟨-q*(1/2),ν,0,λn _=>by grind⟩⟩)
 .subst a;exact .inr (.inr ⟨rfl,NulS.zero⟩)
 .exact .inl ⟨rfl,⟨q*(1/2),ν,0,λn _=>by grind⟩⟩
end Uy
def ac9(n:Nat):Rat:=1/((n:Rat)+1)
def rtS(c:Rat)(n:Nat):Rat:=((fQ (c*(((n:Rat)+1)*((n:Rat)+1))).floor.toNat:Nat):Rat)*ac9 n
def v2(A B M:Rat)(n:Nat):Rat:=A+B*rtS M n
def v4(A B C D M N:Rat)(n:Nat):Rat:=v2 A B M n+v2 C D M n*rtS N n
theorem Bnd.cg{f g:Nat->Rat}(h:Bnd f)(e:∀n,f n=g n):Bnd g:=by rwa [funext e]at h
def ConS(p:Int×Int)(f:Nat->Rat):Prop:=∃g:Nat->Rat,NulS (λn=>g n-f n)/\∀n,con p (g n)
theorem ConS.const{p:Int×Int}{q:Rat}(h:con p q):ConS p λ_=>q:=⟨λ_=>q,NulS.zero.cg λn=>by grind,λ_=>h⟩
theorem ConS.cg{p:Int×Int}{f g:Nat->Rat}(h:ConS p f)(e:∀n,f n=g n):ConS p g:=by rwa [funext e]at h
structure Rt where
 a:Rat
 b:Rat
 c:Rat
theorem adl{x y:Int}(h:0<y):decide (((Nat.gcd x.natAbs y.natAbs:Nat):Int)=1)=fU (decide (x<0)) (lim x.natAbs) (decide (y<0)) (lim y.natAbs):=by
 rw[jP,ny.2 h];simp
theorem acn{x y:Int}(h:y<=0):false=fU (decide (x<0)) (lim x.natAbs) (decide (y<0)) (lim y.natAbs):=by
 rw[jP];have:¬gB y=1:=λe=>absurd (ny.1 e) ω
 simp[this]
theorem EF{e0 e1 e:List Cell}{es:List (List Cell)}{k:List Cell->Prop}(hk:k e):Elem (e0::e1::e::es) 2 k:=⟨2,e,rfl,rfl,hk⟩
end Go.Sw
