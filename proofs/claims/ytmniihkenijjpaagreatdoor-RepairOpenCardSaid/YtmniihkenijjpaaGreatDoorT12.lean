/-
  Rules of the abstract run, plain laws, and what functions answer, for the law RepairOpen.
  Conditions: none.
-/
import Derived.Test.YtmniihkenijjpaaGreatDoorT11
set_option linter.all false
namespace Go.Sw
open Go
@[reducible] def ZVC:List Cell:=[.v (.bool false),.sl 1 [],.v (.bool false),.sl 1 [],.v (.bool false),.sl 1 [],.v (.bool false),.sl 1 []]
@[reducible] def RN(p:Option P2):List Cell:=match p with|some v=>vecC v|none=>ZVC
@[reducible] def yN(c:Chn):List Cell:=[.v (.int .i64 (c.kind:Nat)),.v (.int .i64 (c.ent:Nat)),.v (.int .i64 (c.fin:Nat))]++RN c.src++RN c.dst
@[reducible] def jV(x:Ent × Nat):List Cell:=cO x.1++[.v (.int .i64 (x.2:Nat))]
theorem CJ(sq:Rat)(e:Ent):∀(l:List Ent) (i:Nat) (sp:Spots),dU sq i sp (l++[e])=⟨(joinL sq e.layer (i+l.length) 0 (dU sq i sp l).sp (aS e)).sp,(dU sq i sp l).es++[iI e (joinL sq e.layer (i+l.length) 0 (dU sq i sp l).sp (aS e)).ws],(dU sq i sp l).cs++(joinL sq e.layer (i+l.length) 0 (dU sq i sp l).sp (aS e)).cs⟩
 |[],i,sp=>by simp[dU]
 |x::r,i,sp=>by
  have ih:=CJ sq e r (i+1) (joinL sq x.layer i 0 sp (aS x)).sp;simp only[wZ,dU,ih,iH];simp[show i+1+r.length=i+(r.length+1) by omega]
theorem GI(sq:Rat):∀(l:List Ent) (i:Nat) (sp:Spots),(dU sq i sp l).es.length=l.length
 |[],i,sp=>rfl
 |x::r,i,sp=>by simp[dU,GI sq r]
def jA(sq:Rat)(es:List Ent)(x:Nat):JA:=dU sq 0 [] (es.take x)
theorem Ig(sq:Rat)(es:List Ent){x:Nat}(h:x<es.length):jA sq es (x+1)=⟨(joinL sq (es.getD x E0).layer x 0 (jA sq es x).sp (aS (es.getD x E0))).sp,(jA sq es x).es++[iI (es.getD x E0) (joinL sq (es.getD x E0).layer x 0 (jA sq es x).sp (aS (es.getD x E0))).ws],(jA sq es x).cs++(joinL sq (es.getD x E0).layer x 0 (jA sq es x).sp (aS (es.getD x E0))).cs⟩:=by
 have h1:es.take (x+1)=es.take x++[es.getD x E0]:=by
  rw[Zn,jP h];simp[ou,h]
 have h2:(es.take x).length=x:=by simp;omega
 unfold jA;rw[h1,CJ,h2,xu]
theorem IC(sq:Rat)(es:List Ent):jA sq es es.length=dU sq 0 [] es:=by unfold jA;rw[ER]
def nE(es:List Ent)(x:Nat):Nat:=((es.take x).map λe=>(aS e).length).sum
theorem Bl(es:List Ent){x:Nat}(h:x<es.length):nE es (x+1)=nE es x+(aS (es.getD x E0)).length:=by
 have h1:es.take (x+1)=es.take x++[es.getD x E0]:=by
  rw[Zn,jP h];simp[ou,h]
 unfold nE;rw[h1];simp
theorem RV(es:List Ent):∀x,nE es x≤2*x
 |0=>by simp[nE]
 |x+1=>by
  by_cases h:x<es.length
  ·rw[Bl es h];have:=RV es x;have h2:(aS (es.getD x E0)).length≤2:=by rcases Ej (es.getD x E0)with h|h<;>omega
   omega
  ·have h1:es.take (x+1)=es.take x:=by rw[U9 (by omega),U9 (by omega)]
   have:=RV es x;unfold nE at this ⊢;rw[h1];omega
def jB(q:P2→Prop)(sp:Spots):Prop:=∀p∈sp,q p.2
theorem tX{sp:Spots}{s:ByteArray}{v:P2}(h:v∈spotsAt sp s):∃p∈sp,p.2=v:=by
 unfold spotsAt at h;obtain⟨p,hp,rfl⟩:=iM.1 h;exact⟨p,(H9.1 hp).1,rfl⟩
theorem Am(sp:Spots)(s:ByteArray):(spotsAt sp s).length≤sp.length:=by
 unfold spotsAt;rw[bK];exact dY _ _
theorem yR{q:P2→Prop}{sq:Rat}{sp:Spots}{s:ByteArray}{v:P2}(h:jB q sp)(hv:q v):jB q (joinP sq sp s v).1∧q (joinP sq sp s v).2∧(joinP sq sp s v).1.length≤sp.length+1:=by
 have h2:=Gw sq sp s v
 have key:jB q (joinP sq sp s v).1∧(joinP sq sp s v).1.length≤sp.length+1:=by
  unfold joinP;split
  ·exact⟨h,by simp⟩
  ·refine⟨λp hp=>?_,by simp⟩;rcases oG.1 hp with hp|hp
   ·exact h p hp
   ·simp only[AL]at hp;subst hp;exact hv
 obtain⟨p,hp,he⟩:=tX h2;exact⟨key.1,he▸key.1 p hp,key.2⟩
theorem F6{q:P2→Prop}{sq:Rat}{s:ByteArray}{i:Nat}:∀{l:List P2} {k:Nat} {sp:Spots},jB q sp→(∀v∈l,q v)→jB q (joinL sq s i k sp l).sp∧(∀w∈(joinL sq s i k sp l).ws,q w)∧(joinL sq s i k sp l).sp.length≤sp.length+l.length∧(joinL sq s i k sp l).ws.length=l.length∧(joinL sq s i k sp l).cs.length≤l.length
 |[],k,sp,h,_=>⟨h,λw hw=>by simp[joinL]at hw,by simp[joinL],rfl,by simp[joinL]⟩
 |v::r,k,sp,h,hl=>by
  obtain⟨h1,h2,h3⟩:=yR (sq:=sq) (s:=s) h (hl v (by simp));obtain⟨h4,h5,h6,h7,h8⟩:=F6 (sq:=sq) (s:=s) (i:=i) (l:=r) (k:=k+1) h1 (λw hw=>hl w (by simp[hw]));refine⟨h4,λw hw=>?_, ?_,by simp[joinL,h7], ?_⟩
  ·simp only[joinL,wL]at hw;rcases hw with rfl|hw
   ·exact h2
   ·exact h5 w hw
  ·simp only[joinL,iH];omega
  ·simp only[joinL,gY,iH];have:(jn i k v (joinP sq sp s v).2).length≤1:=by unfold jn;split<;>simp
   omega
theorem iR{e:Ent}{v:P2}(h:v∈aS e):v∈e.pts:=by
 rcases iV e with⟨h1,_⟩|⟨a,b,_,h2,h3⟩|⟨a,m,b,_,h2,h3⟩
 ·rw[h1]at h;cases h
 ·rw[h3]at h;rw[h2];exact h
 ·rw[h3]at h;rw[h2];simp at h ⊢;rcases h with h|h<;>simp[h]
theorem Ey{q:P2→Prop}{e:Ent}{l:List P2}(h:∀p∈e.pts,q p)(hl:∀p∈l,q p):∀p∈(iI e l).pts,q p:=by
 unfold iI;split
 ·rename_i a b _ _ hp;intro p hp';simp at hp';rcases hp' with rfl|rfl<;>exact hl _ (by simp)
 ·rename_i a b _ m _ hp;intro p hp';simp at hp';rcases hp' with rfl|rfl|rfl
  ·exact hl _ (by simp)
  ·exact h _ (by rw[hp];simp)
  ·exact hl _ (by simp)
 ·exact h
theorem Dy{es:List Ent}{x:Nat}(h:x<es.length):es.getD x E0∈es:=by
 have:es.getD x E0=es[x]:=by simp[ou,h]
 rw[this];exact IK h
theorem QX{q:P2→Prop}{sq:Rat}{es:List Ent}(h:∀e∈es,∀p∈e.pts,q p):∀x,x≤es.length→jB q (jA sq es x).sp∧(∀e∈(jA sq es x).es,∀p∈e.pts,q p)∧(jA sq es x).sp.length≤nE es x∧(jA sq es x).cs.length≤nE es x∧(jA sq es x).es.length=x
 |0,_=>⟨λp hp=>by simp[jA,dU]at hp,λe he=>by simp[jA,dU]at he,by simp[jA,dU],by simp[jA,dU],by simp[jA,dU]⟩
 |x+1,hx=>by
  have hlt:x<es.length:=by omega
  obtain⟨h1,h2,h3,h4,h5⟩:=QX (sq:=sq) h x (by omega);have he:=Dy hlt;obtain⟨k1,k2,k3,k4,k5⟩:=F6 (q:=q) (sq:=sq) (s:=(es.getD x E0).layer) (i:=x) (k:=0) (l:=aS (es.getD x E0)) h1 (λv hv=>h _ he v (iR hv));rw[Ig sq es hlt,Bl es hlt];refine⟨k1,λe hm=>?_, ?_, ?_, ?_⟩
  ·simp only[oG,AL]at hm;rcases hm with hm|rfl
   ·exact h2 e hm
   ·exact Ey (h _ he) k2
  ·simp only;omega
  ·simp only[gY];omega
  ·simp only[gY,List.length_singleton];omega
theorem lV(e:Ent):aS e=[]∨∃a b,aS e=[a,b]:=by
 rcases iV e with⟨h1,_⟩|⟨a,b,_,_,h3⟩|⟨a,m,b,_,_,h3⟩
 ·exact .inl h1
 ·exact .inr ⟨a,b,h3⟩
 ·exact .inr ⟨a,b,h3⟩
theorem aaj{es:List Ent}(h:∀e∈es,(∀p∈e.pts,aV p)∧e.layer.size≤1000∧e.pts.length≤3)(x:Nat):(∀p∈(es.getD x E0).pts,aV p)∧(es.getD x E0).layer.size≤1000∧(es.getD x E0).pts.length≤3:=by
 by_cases hx:x<es.length
 ·exact h _ (Dy hx)
 ·have:es.getD x E0=E0:=by simp[ou,Nat.le_of_not_lt hx]
  rw[this];exact⟨λp hp=>by simp[E0]at hp,by decide,by decide⟩
theorem abY{i k:Nat}{a w:P2}(h:(!(decide (a.1=w.1)&&decide (a.2=w.2)))=true):jn i k a w=[⟨1,i,k,some a,some w⟩]:=by
 unfold jn;rw[if_neg];rintro rfl;simp at h
theorem aag{i k:Nat}{a w:P2}(h:(!(decide (a.1=w.1)&&decide (a.2=w.2)))=false):jn i k a w=[]:=by
 unfold jn;rw[if_pos];simp at h;exact Prod.ext h.1 h.2
theorem Vw{sp:Spots}{s:ByteArray}(h:jB aV sp)(p:P2)(hp:p∈spotsAt sp s):rz p.1≤12∧rz p.2≤12:=by
 obtain⟨q,hq,rfl⟩:=tX hp;exact h q hq
theorem aey(sq:Rat)(es:List Ent){x:Nat}(h:x<es.length)(hE:aS (es.getD x E0)=[]):jA sq es (x+1)=⟨(jA sq es x).sp,(jA sq es x).es++[es.getD x E0],(jA sq es x).cs⟩∧nE es (x+1)=nE es x:=by
 rw[Ig sq es h,Bl es h,hE];refine⟨?_,rfl⟩;have h2:iI (es.getD x E0) []=es.getD x E0:=by rw[←hE];exact OW _
 simp only[joinL,h2,gy]
theorem aev(sq:Rat)(es:List Ent){x:Nat}{a b:P2}(h:x<es.length)(hE:aS (es.getD x E0)=[a,b]):jA sq es (x+1)=⟨(joinP sq (joinP sq (jA sq es x).sp (es.getD x E0).layer a).1 (es.getD x E0).layer b).1,(jA sq es x).es++[iI (es.getD x E0) [(joinP sq (jA sq es x).sp (es.getD x E0).layer a).2,(joinP sq (joinP sq (jA sq es x).sp (es.getD x E0).layer a).1 (es.getD x E0).layer b).2]],(jA sq es x).cs++(jn x 0 a (joinP sq (jA sq es x).sp (es.getD x E0).layer a).2++jn x 1 b (joinP sq (joinP sq (jA sq es x).sp (es.getD x E0).layer a).1 (es.getD x E0).layer b).2)⟩∧nE es (x+1)=nE es x+1+1:=by
 rw[Ig sq es h,Bl es h,hE];refine⟨?_,rfl⟩;simp[joinL]
def N0:Ent×Nat:=(E0,0)
def Zq(e:Ent):Prop:=(∀p∈e.pts,aV p)∧e.layer.size≤1000∧e.pts.length≤3
theorem aiu:Zq E0:=⟨λp hp=>by simp[E0]at hp,by decide,by decide⟩
theorem Qc{l:List (Ent×Nat)}(h:∀x∈l,Zq x.1)(x:Nat):Zq (l.getD x N0).1:=by
 by_cases hx:x<l.length
 ·have:l.getD x N0=l[x]:=by simp[ou,hx]
  rw[this];exact h _ (IK hx)
 ·have:l.getD x N0=N0:=by simp[ou,Nat.le_of_not_lt hx]
  rw[this];exact aiu
theorem QY{v w:P2}:(decide (v.1=w.1)&&decide (v.2=w.2))=decide (v=w):=by
 rw[Bf];simp[Prod.ext_iff]
theorem uQ{l:List (Ent×Nat)}{x:Nat}(h:x<l.length):l[x]?=some (l.getD x N0):=by simp[ou,h]
theorem Gh{l:List (Ent×Nat)}{s:ByteArray}{i k:Nat}{v:P2}{x:Nat}(h:x<l.length)(hE:aS (l.getD x N0).1=[]):metAt l s i k v x=false:=by
 unfold metAt;rw[uQ h];simp only[];rw[hE];simp
theorem FK{l:List (Ent×Nat)}{s:ByteArray}{i k:Nat}{v a b:P2}{x:Nat}(h:x<l.length)(hE:aS (l.getD x N0).1=[a,b]):metAt l s i k v x=(eqS (l.getD x N0).1.layer s&&(((x != i||0 != k)&&decide (v=a)) ||((x != i||1 != k)&&decide (v=b)))):=by
 unfold metAt;rw[uQ h];simp only[];rw[hE]
theorem FQ{l:List (Ent×Nat)}{s:ByteArray}{i k:Nat}{v:P2}{x:Nat}(h:x<l.length)(hE:(!((l.getD x N0).1.layer.toList == s.toList))=true):metAt l s i k v x=false:=by
 unfold metAt;rw[uQ h];simp only[eqS];simp only[BR]at hE;rw[hE];simp
theorem QW{l:List (Ent×Nat)}{s:ByteArray}{i k:Nat}{v a b:P2}{x:Nat}(h:x<l.length)(hE:aS (l.getD x N0).1=[a,b])(hL:(!((l.getD x N0).1.layer.toList == s.toList))=false):metAt l s i k v x=(((x != i||0 != k)&&(decide (v.1=a.1)&&decide (v.2=a.2))) ||((x != i||1 != k)&&(decide (v.1=b.1)&&decide (v.2=b.2)))):=by
 rw[FK h hE,QY,QY];simp only[Bool.not_eq_false']at hL;simp only[eqS,hL,KP]
theorem aeK{l:List (Ent×Nat)}{s:ByteArray}{i k:Nat}{v:P2}{x:Nat}(h:x<l.length)(hm:metAt l s i k v x=true):Aq l s i k v=true:=by
 unfold Aq;exact XF.2 ⟨x,by simpa using h,hm⟩
theorem V3{l:List (Ent×Nat)}{s:ByteArray}{i k:Nat}{v:P2}(hm:∀j<l.length,metAt l s i k v j=false):Aq l s i k v=false:=by
 unfold Aq;rw[Ns];intro j hj;rw[hm j (by simpa using hj)];simp
theorem xP{l:List (Ent×Nat)}{s:ByteArray}{i k:Nat}{v:P2}{x:Nat}(hm:∀j<x,metAt l s i k v j=false)(h:metAt l s i k v x=false):∀j<x+1,metAt l s i k v j=false:=λj hj=>by
 rcases EW j x with h1|h1
 ·exact hm j h1
 ·have:j=x:=by omega
  subst this;exact h
def Y0(l:List (Ent×Nat))(x:Nat):List Chn:=(List.range x).flatMap (opn l)
theorem Ho(l:List (Ent×Nat)):Y0 l l.length=jU l:=rfl
theorem RS{l:List (Ent×Nat)}{x:Nat}(h:x<l.length)(hE:aS (l.getD x N0).1=[]):Y0 l (x+1)=Y0 l x:=by
 unfold Y0;rw[U0,ZE]
 have:opn l x=[]:=by
  unfold opn;rw[uQ h];simp only[];rw[hE]
 simp[this]
theorem QC{l:List (Ent×Nat)}{x:Nat}{a b:P2}(h:x<l.length)(hE:aS (l.getD x N0).1=[a,b]):Y0 l (x+1)=Y0 l x++(zn l (l.getD x N0).1.layer (l.getD x N0).2 x 0 a++zn l (l.getD x N0).1.layer (l.getD x N0).2 x 1 b):=by
 unfold Y0;rw[U0,ZE]
 have:opn l x=zn l (l.getD x N0).1.layer (l.getD x N0).2 x 0 a++zn l (l.getD x N0).1.layer (l.getD x N0).2 x 1 b:=by
  unfold opn;rw[uQ h];simp only[];rw[hE]
 simp[this]
theorem Ij{l:List (Ent×Nat)}{s:ByteArray}{n i k:Nat}{v:P2}(h:(!Aq l s i k v)=true):zn l s n i k v=[⟨4,n,k,some v,some v⟩]:=by
 unfold zn;rw[if_neg];simpa using h
theorem GR{l:List (Ent×Nat)}{s:ByteArray}{n i k:Nat}{v:P2}(h:(!Aq l s i k v)=false):zn l s n i k v=[]:=by
 unfold zn;rw[if_pos];simpa using h
theorem LP{l:List (Ent×Nat)}{s:ByteArray}{n i k:Nat}{v:P2}:(zn l s n i k v).length≤1:=by
 unfold zn;split<;>simp
theorem xJ(l:List (Ent×Nat)):∀x,x≤l.length→(Y0 l x).length≤2*x
 |0,_=>by simp[Y0]
 |x+1,h=>by
  have ih:=xJ l x (by omega);rcases lV (l.getD x N0).1 with hE|⟨a,b,hE⟩
  ·rw[RS (by omega) hE];omega
  ·rw[QC (by omega) hE];have h1:=LP (l:=l) (s:=(l.getD x N0).1.layer) (n:=(l.getD x N0).2) (i:=x) (k:=0) (v:=a);have h2:=LP (l:=l) (s:=(l.getD x N0).1.layer) (n:=(l.getD x N0).2) (i:=x) (k:=1) (v:=b);simp only[gY];omega
def aC(es:List Ent)(x:Nat):List (Ent×Nat):=(es.take x).zipIdx
theorem Zh{es:List Ent}{x:Nat}(h:x<es.length):aC es (x+1)=aC es x++[(es.getD x E0,x)]:=by
 have h1:es.take (x+1)=es.take x++[es.getD x E0]:=by
  rw[Zn,jP h];simp[ou,h]
 have h2:(es.take x).length=x:=by simp;omega
 unfold aC;rw[h1,List.zipIdx_append];simp[h2]
theorem Z8(es:List Ent):aC es es.length=es.zipIdx:=by unfold aC;rw[ER]
theorem abv{es:List Ent}{x:Nat}(h:x≤es.length):(aC es x).length=x:=by unfold aC;simp;omega
def uz(a b:List P2):Bool:=decide (a.length=b.length)&&(decide (a=b)||decide (a=b.reverse))
theorem Q7{a:List P2}{x:Nat}(h:x<a.length):a.take (x+1)=a.take x++[a.getD x P0]:=by
 rw[Zn,jP h];simp[ou,h]
theorem QN{a b:List P2}{x:Nat}(ha:x<a.length)(hb:x<b.length):decide (a.take (x+1)=b.take (x+1))=(decide (a.take x=b.take x)&&(decide ((a.getD x P0).1=(b.getD x P0).1)&&decide ((a.getD x P0).2=(b.getD x P0).2))):=by
 rw[Q7 ha,Q7 hb,QY,Bf];simp only[fC,decide_eq_true_eq];constructor
 ·intro h;have:=List.append_inj h (by simp;omega);exact⟨this.1,by simpa using this.2⟩
 ·rintro ⟨h1,h2⟩;rw[h1,h2]
theorem rev_at{b:List P2}{x:Nat}(h:x<b.length):b.reverse.getD x P0=b.getD (b.length-1-x) P0:=by
 have h2:b.length-1-x<b.length:=by omega
 simp[ou,h,h2,List.getElem?_reverse]
theorem Ky{a b:List P2}(hl:a.length=b.length):uz a b=(decide (a.take a.length=b.take a.length)||decide (a.take a.length=b.reverse.take a.length)):=by
 unfold uz;rw[decide_eq_true hl,ER,U9 (show b.length≤a.length by omega),U9 (show b.reverse.length≤a.length by rw[List.length_reverse];omega),KP]
theorem Z5{a b:List P2}(hl:¬ a.length=b.length):uz a b=false:=by
 unfold uz;rw[decide_eq_false hl,aB]
theorem BP{l:List P2}(h:∀p∈l,aV p)(i:Nat):aV (l.getD i P0):=by
 by_cases hi:i<l.length
 ·have:l.getD i P0=l[i]:=by simp[ou,hi]
  rw[this];exact h _ (IK hi)
 ·have:l.getD i P0=P0:=by simp[ou,Nat.le_of_not_lt hi]
  rw[this];exact⟨by decide +kernel,by decide +kernel⟩
abbrev jE(a b c:P2):Rat:=cD a.1 a.2 b.1 b.2 c.1 c.2
abbrev Zl(a b c:P2):Rat:=cU a.1 a.2 b.1 b.2 c.1 c.2
abbrev Zm(a b c:P2):Rat:=cV a.1 a.2 b.1 b.2 c.1 c.2
def jT(a b c:P2):Rat:=a.1+Zl a b c/(jE a b c+jE a b c)
def ji(a b c:P2):Rat:=a.2+Zm a b c/(jE a b c+jE a b c)
def Ru(a b c:P2):Rat:=Zl a b c/(jE a b c+jE a b c)*(Zl a b c/(jE a b c+jE a b c))+Zm a b c/(jE a b c+jE a b c)*(Zm a b c/(jE a b c+jE a b c))
@[reducible] def ctr(a b c:P2):P2:=(jT a b c,ji a b c)
abbrev Aw(k:P2)(q:Rat)(p:P2):Prop:=(p.1-k.1)*(p.1-k.1)+(p.2-k.2)*(p.2-k.2)=q
def jd(k:P2)(q:Rat)(cw:Bool)(a c p:P2):Bool:=decide (Aw k q p)&&decide ((if cw=true then zu k c p a else zu k a p c)≤0)
def UH(k:P2)(cw:Bool)(f p q:P2):Int:=if cw=true then uj (Bh k) (Bh f) (Bh p) (Bh q)else uj k f p q
def bF(k:P2)(q:Rat)(cw:Bool)(a c p:P2):Bool:=decide (Aw k q p)&&(decide (UH k cw a a p≤0)&&decide (UH k cw a p c≤0))
theorem SI{x y X Y Q:Rat}:decide (-(anf ((x-X)*(x-X)+(y-Y)*(y-Y)-Q))=0)=decide (Aw (X,Y) Q (x,y)):=by
 rw[decide_eq_decide];constructor
 ·intro h;have:=(anx (a:=(x-X)*(x-X)+(y-Y)*(y-Y)-Q)).1 (by omega);unfold Aw;simp only;grind
 ·intro h;unfold Aw at h;simp only at h;have:anf ((x-X)*(x-X)+(y-Y)*(y-Y)-Q)=0:=anx.2 (by grind);omega
theorem aeZ(a b:Rat):xk a b 0=anf a:=by
 unfold xk;have:anf b*anf 0=0:=by rw[anx.2 rfl];omega
 rw[if_pos (.inr this)]
set_option synthInstance.maxSize 4000 in
set_option synthInstance.maxHeartbeats 400000 in
theorem yS{a b c:P2}(h1:aV a)(h2:aV b)(h3:aV c):rz (jT a b c)≤7000∧rz (ji a b c)≤7000∧rz (Ru a b c)≤27000:=by
 obtain⟨a1,a2⟩:=a;obtain⟨b1,b2⟩:=b;obtain⟨c1,c2⟩:=c;have i1:RzB a1 12:=⟨h1.1⟩
 have i2:RzB a2 12:=⟨h1.2⟩
 have i3:RzB b1 12:=⟨h2.1⟩
 have i4:RzB b2 12:=⟨h2.2⟩
 have i5:RzB c1 12:=⟨h3.1⟩
 have i6:RzB c2 12:=⟨h3.2⟩
 simp only[jT,ji,Ru,Zl,Zm,jE,cU,cV,cD];exact⟨jh (by omega),jh (by omega),jh (by omega)⟩
theorem Pq(a b c:P2):jc a b c=jE a b c:=by unfold jc jE cD;grind
theorem QI{a b c:P2}(h:¬jE a b c=0):Aw (ctr a b c) (Ru a b c) a∧Aw (ctr a b c) (Ru a b c) b∧Aw (ctr a b c) (Ru a b c) c∧0<Ru a b c :=
 ⟨afa h rfl rfl,aeJ h rfl rfl,adW h rfl rfl,ad6 h⟩
theorem abB{a b c p:P2}(h:¬jE a b c=0):Aw (ctr a b c) (Ru a b c) p↔Zl a b c*(p.1-a.1)+Zm a b c*(p.2-a.2)=jE a b c*((p.1-a.1)*(p.1-a.1)+(p.2-a.2)*(p.2-a.2)):=by
 have h2:=I8 h;unfold Aw ctr jT ji Ru;generalize jE a b c=D at *;generalize Zl a b c=U at *;generalize Zm a b c=V at *;obtain⟨a1,a2⟩:=a;obtain⟨p1,p2⟩:=p;simp only;have e1:U/(D+D)*(D+D)=U:=by grind
 have e2:V/(D+D)*(D+D)=V:=by grind
 generalize U/(D+D)=u at *;generalize V/(D+D)=v at *;subst e1 e2;constructor
 ·intro e;have e3:u*(p1-a1)+u*(p1-a1)+(v*(p2-a2)+v*(p2-a2))=(p1-a1)*(p1-a1)+(p2-a2)*(p2-a2):=by grind
  have e4:D*(u*(p1-a1)+u*(p1-a1)+(v*(p2-a2)+v*(p2-a2)))=D*((p1-a1)*(p1-a1)+(p2-a2)*(p2-a2)):=by rw[e3]
  grind
 ·intro e;have e4:D*((u*(p1-a1)+u*(p1-a1)+(v*(p2-a2)+v*(p2-a2)))-((p1-a1)*(p1-a1)+(p2-a2)*(p2-a2)))=0:=by grind
  rcases Rat.mul_eq_zero.1 e4 with h3|h3
  ·exact absurd h3 h
  ·grind
theorem GN(a:Int):jD (-a) = -jD a:=by unfold jD;(repeat' split)<;>omega
theorem Ur(k p:P2):fF k p p=0:=by
 have:=jH k p p;omega
theorem YV(k p:P2):He k p p=0:=by unfold He;rw[Ur];rfl
theorem aeQ(k f p:P2):0≤He k f p:=by unfold He;(repeat' split)<;>omega
theorem RY(k f p:P2):0≤He k f p∧He k f p≤2:=by unfold He;(repeat' split)<;>omega
theorem LV(k f p q:P2):zu k f p q = -zu k f q p:=by
 unfold zu;rw[jH k p q]
 by_cases h:He k f p=He k f q
 ·rw[if_pos h,if_pos h.symm,GN]
 ·rw[if_neg h,if_neg (λe=>h e.symm),←GN];congr 1;omega
theorem Gn(k f q:P2):zu k f f q≤0:=by
 unfold zu;rw[YV];have:=aeQ k f q;split
 ·rename_i e
  have h0:fF k q f=0:=by
   unfold He at e
   (repeat' split at e)<;>first|assumption|omega
  rw[jH,h0];decide
 ·rw[anA];omega
theorem Kr(k f q:P2):zu k f q q≤0:=by
 have:=LV k f q q;omega
theorem abE{k f p q:P2}(h:zu k f p q=0):fF k p q=0:=by
 unfold zu at h;split at h
 ·exact anu.1 h
 ·rw[anu]at h;omega
theorem cwE{a b c d e f:Rat}:decide (ang ((c-a)*(f-b)) ((d-b)*(e-a))>0)=decide (0<cD a b c d e f):=by
 rw[decide_eq_decide,anC];unfold cD;constructor<;>intro h<;>grind
theorem cwF{a b c d e f:Rat}:decide ((d-b)*(e-a)<(c-a)*(f-b))=decide (0<cD a b c d e f):=by
 rw[decide_eq_decide];unfold cD;constructor<;>intro h<;>grind
theorem cwR{a b c d e f:Rat}(h:¬cD a b c d e f=0):decide (ang ((c-a)*(f-b)) ((d-b)*(e-a))<0) = !decide (0<cD a b c d e f):=by
 rw[←decide_not,decide_eq_decide,anw];unfold cD at *;constructor<;>intro h<;>grind
theorem ad7{k a p c:P2}{q:Rat}(hq:0<q)(e1:Aw k q a)(e2:Aw k q p)(e3:Aw k q c)(h1:p≠a)(h2:p≠c)(h3:a≠c):jc a p c≠0:=by
 have n1:=aA hq e1;have n2:=aA hq e2;have n3:=aA hq e3;have d1:fF k a p≠0:=λg=>h1 (vF e1 e2 n1 n2 g).symm
 have d2:fF k p c≠0:=λg=>h2 (vF e2 e3 n2 n3 g)
 have d3:fF k a c≠0:=λg=>h3 (vF e1 e3 n1 n3 g)
 have a1:=jH k a p;have a2:=jH k p c;have a3:=jH k a c;have x1:jc a c p = -jc a p c:=by unfold jc;grind
 have x2:jc c a p=jc a p c:=by unfold jc;grind
 have x3:jc p a c = -jc a p c:=by unfold jc;grind
 have x4:jc p c a=jc a p c:=by unfold jc;grind
 have x5:jc c p a = -jc a p c:=by unfold jc;grind
 intro hz;have l1:fF k a p<0→fF k p c<0→False:=λg1 g2=>by have:=au e1 e2 e3 n1 n2 n3 g1 g2;grind
 have l2:fF k a c<0→fF k c p<0→False:=λg1 g2=>by have:=au e1 e3 e2 n1 n3 n2 g1 g2;grind
 have l3:fF k c a<0→fF k a p<0→False:=λg1 g2=>by have:=au e3 e1 e2 n3 n1 n2 g1 g2;grind
 have l4:fF k p a<0→fF k a c<0→False:=λg1 g2=>by have:=au e2 e1 e3 n2 n1 n3 g1 g2;grind
 have l5:fF k p c<0→fF k c a<0→False:=λg1 g2=>by have:=au e2 e3 e1 n2 n3 n1 g1 g2;grind
 have l6:fF k c p<0→fF k p a<0→False:=λg1 g2=>by have:=au e3 e2 e1 n3 n2 n1 g1 g2;grind
 clear e1 e2 e3 n1 n2 n3 x1 x2 x3 x4 x5 hz;generalize fF k a p=A at *;generalize fF k p c=B at *;generalize fF k a c=C at *;generalize fF k p a=A' at *;generalize fF k c p=B' at *;generalize fF k c a=C' at *
 by_cases g1:A<0<;>by_cases g2:B<0<;>by_cases g3:C<0
 ·exact l1 g1 g2
 ·exact l1 g1 g2
 ·exact l2 g3 (by omega)
 ·exact l3 (by omega) g1
 ·exact l4 (by omega) g3
 ·exact l5 g2 (by omega)
 ·exact l6 (by omega) (by omega)
 ·exact l6 (by omega) (by omega)
theorem Le{k a p c:P2}{q:Rat}(hq:0<q)(e1:Aw k q a)(e2:Aw k q p)(e3:Aw k q c)(h3:a≠c):zu k a p c≤0↔(p=a∨p=c∨0<jc a p c):=by
 have n1:=aA hq e1;have n2:=aA hq e2;have n3:=aA hq e3;constructor
 ·intro h
  by_cases h1:p=a
  ·exact .inl h1
  by_cases h2:p=c
  ·exact .inr (.inl h2)
  refine .inr (.inr ?_);have hne:=ad7 hq e1 e2 e3 h1 h2 h3;refine Decidable.byContradiction λhn=>?_
  have hx:0<jc a c p:=by
   have:jc a c p = -jc a p c:=by unfold jc;grind
   grind
  have h4:=Qu e1 e3 e2 n1 n3 n2 hx;have h5:=LV k a p c;have h6:zu k a p c=0:=by omega
  exact h2 (vF e2 e3 n2 n3 (abE h6))
 ·rintro (rfl|rfl|h)
  ·exact Gn k p c
  ·exact Kr k a p
  ·exact Qu e1 e2 e3 n1 n2 n3 h
theorem SA(a b c:P2):jE c b a = -jE a b c:=by unfold jE cD;grind
theorem PO{a b c p:P2}(h:¬jE a b c=0):jd (ctr a b c) (Ru a b c) (!decide (0<jE a b c)) a c p=zY a b c p:=by
 obtain⟨e1,e2,e3,hq⟩:=QI h;have hac:a≠c:=λe=>h (by subst e;unfold jE cD;grind)
 unfold jd zY;rw[Bf];simp only[fC,decide_eq_true_eq,ne_eq];rw[←abB (p:=p) h]
 have key:∀ep:Aw (ctr a b c) (Ru a b c) p,((if(!decide (0<jE a b c))=true then zu (ctr a b c) c p a else zu (ctr a b c) a p c)≤0↔(p=a∨p=c∨0<jc a p c*jc a b c)):=by
  intro ep;rw[Pq a b c]
  by_cases hd:0<jE a b c
  ·rw[if_neg (by simp[hd]),Le hq e1 ep e3 hac]
   have:0<jc a p c↔0<jc a p c*jE a b c:=⟨λh=>yO h hd,λh=>by
    refine Decidable.byContradiction λhn=>?_
    have:=xG (show 0≤-jc a p c by grind) (show 0≤jE a b c by grind)
    grind⟩
   rw[this]
  ·have hd':jE a b c<0:=by grind
   rw[if_pos (by simp[hd]),Le hq e3 ep e1 (λe=>hac e.symm)];have hx:jc c p a = -jc a p c:=by unfold jc;grind
   have:0<jc c p a↔0<jc a p c*jE a b c:=⟨λh=>by
    have:=yO (show 0 < -jc a p c by grind) (show 0 < -jE a b c by grind)
    grind,λh=>by
    refine Decidable.byContradiction λhn=>?_
    have:=xG (show 0≤jc a p c by grind) (show 0≤-jE a b c by grind)
    grind⟩
   rw[this];constructor
   ·rintro (h|h|h)
    ·exact .inr (.inl h)
    ·exact .inl h
    ·exact .inr (.inr h)
   ·rintro (h|h|h)
    ·exact .inr (.inl h)
    ·exact .inl h
    ·exact .inr (.inr h)
 constructor
 ·rintro ⟨g1,g2⟩;exact⟨h,g1,(key g1).1 g2⟩
 ·rintro ⟨_,g1,g2⟩;exact⟨g1,(key g1).2 g2⟩
theorem abT{k a c p:P2}{q:Rat}{cw:Bool}(hq:0<q)(e1:Aw k q a)(e3:Aw k q c):bF k q cw a c p=jd k q cw a c p:=by
 unfold bF jd UH;rw[Bf];simp only[fC,decide_eq_true_eq]
 have key:∀ep:Aw k q p,(((if cw=true then uj (Bh k) (Bh a) (Bh a) (Bh p)else uj k a a p)≤0∧(if cw=true then uj (Bh k) (Bh a) (Bh p) (Bh c)else uj k a p c)≤0)↔(if cw=true then zu k c p a else zu k a p c)≤0):=by
  intro ep;have n1:=aA hq e1;have n2:=aA hq ep;have n3:=aA hq e3;cases cw with
  |false =>
   simp only[AB,if_false];rw[QO,QO];exact⟨λh=>h.2,λh=>⟨Gn k a p,h⟩⟩
  |true =>
   simp only[if_true];rw[SE n1 n1 n2 (UY e1 e1) (UY e1 e1) (UY e1 ep) (UY ep e1) (UY e1 ep) (UY ep e1),SE n1 n2 n3 (UY e1 ep) (UY ep e1) (UY e1 e3) (UY e3 e1) (UY ep e3) (UY e3 ep)];exact⟨λh=>h.2,λh=>⟨Kr k p a,h⟩⟩
 constructor
 ·rintro ⟨g1,g2⟩;exact⟨g1,(key g1).1 g2⟩
 ·rintro ⟨g1,g2⟩;exact⟨g1,(key g1).2 g2⟩
end Go.Sw
namespace Go.Proofs.YtmniihkenijjpaaGreatDoor
open Go Go.RowKit Go.Sw
set_option maxRecDepth 100000
set_option maxHeartbeats 8000000
set_option synthInstance.maxSize 4000
set_option synthInstance.maxHeartbeats 400000
instance ahR(a b c:Rat):DenI Tryz.prog 269 [R a,R b,R c] (rz a≤1000000∧rz b≤1000000∧rz c≤1000000) (.int .i64 (xk a b c)):=⟨λhp=>by
 have i_a:RzB a 1000000:=⟨hp.1⟩
 have i_b:RzB b 1000000:=⟨hp.2.1⟩
 have i_c:RzB c 1000000:=⟨hp.2.2⟩
 all_goals refine amV Tryz.func269 rfl ?_
 all_goals(repeat'((try(conv=>whnf));first
  |refine call_0 ?_|refine call_i ?_ ?_|(with_reducible first|refine onB_t ?_|refine onB_f ?_|refine onB_d (λ_=>?_) (λ_=>?_))|refine Drw.mk (by kernel_rfl) ?_|refine Ends.mk ?_))
 all_goals(try refine Pr.mk ?_)
 all_goals(try simp only[am3]at *)
 all_goals(try simp only[ajv,aki]at *)
 all_goals first
  |with_reducible exact aiQ (by assumption)|with_reducible exact aiT (by assumption)|with_reducible exact aiW (by assumption) (by assumption) (by assumption)|with_reducible exact ai7 (by assumption) (by assumption) (by assumption)|((repeat' apply And.intro)<;>first|assumption|exact jh (by omega)|exact jl (by omega)|exact iU (amR _) (amR _))⟩
instance ahU(a b c f:Rat):DenI Tryz.prog 301 [R a,R b,R c,R f] (rz a≤40000∧rz b≤40000∧rz c≤40000∧rz f≤40000) (Ov (gZ a b c f)):=⟨λhp=>by
 have i_a:RzB a 40000:=⟨hp.1⟩
 have i_b:RzB b 40000:=⟨hp.2.1⟩
 have i_c:RzB c 40000:=⟨hp.2.2.1⟩
 have i_f:RzB f 40000:=⟨hp.2.2.2⟩
 all_goals refine amV Tryz.func301 rfl ?_
 all_goals(repeat'((try(conv=>whnf));first
  |refine call_i ?_ ?_|(with_reducible first|refine onB_t ?_|refine onB_f ?_)|refine OnB.mk (λ_=>?_) (λ_=>?_)|refine Drw.mk (by kernel_rfl) ?_|refine Ends.mk ?_))
 all_goals(try refine Pr.mk ?_)
 all_goals(try simp only[Prod.eta]at *)
 all_goals first
  |omega|(have z1:=JR a b c;have z2:=jW f;unfold IU at *;omega)|(refine agw (abG ?_);first|exact .inl (by assumption)|exact .inr (by assumption))|(refine Ai ?_ (congrArg Ov (adB (by assumption) (by assumption)));rfl)⟩
instance agF(X Y Q ax bx ay bb c:Rat):DenI Tryz.prog 268 [Q3 X Y Q,Q5 ax bx ay bb c] (rz X≤40000∧rz Y≤40000∧rz Q≤40000∧rz ax≤40000∧rz bx≤40000∧rz ay≤40000∧rz bb≤40000∧rz c≤40000) (.tup [.int .i64 (lF ax bx ay bb c X Y Q).1,.bool (lF ax bx ay bb c X Y Q).2]):=⟨λhp=>by
 have i_X:RzB X 40000:=⟨hp.1⟩
 have i_Y:RzB Y 40000:=⟨hp.2.1⟩
 have i_Q:RzB Q 40000:=⟨hp.2.2.1⟩
 have i_ax:RzB ax 40000:=⟨hp.2.2.2.1⟩
 have i_bx:RzB bx 40000:=⟨hp.2.2.2.2.1⟩
 have i_ay:RzB ay 40000:=⟨hp.2.2.2.2.2.1⟩
 have i_bb:RzB bb 40000:=⟨hp.2.2.2.2.2.2.1⟩
 have i_c:RzB c 40000:=⟨hp.2.2.2.2.2.2.2⟩
 all_goals refine amV Tryz.func268 rfl ?_
 all_goals(repeat'((try(conv=>whnf));first
  |refine call_0 ?_|refine call_i ?_ ?_|(with_reducible first|refine onB_t ?_|refine onB_f ?_)|refine OnB.mk (λ_=>?_) (λ_=>?_)|refine Drw.mk (by kernel_rfl) ?_|refine Ends.mk ?_))
 all_goals(try refine Pr.mk ?_)
 all_goals(try simp only[Prod.eta]at *)
 all_goals first
  |omega|(have z1:=LM ax bx c X;have z2:=LM ay bb c Y;have z3:=jW Q;unfold IU at *;omega)|(have z1:=BN ((gZ ax bx c X).getD (0,0)) ((gZ ax bx c X).getD (0,0));have z2:=BN ((gZ ay bb c Y).getD (0,0)) ((gZ ay bb c Y).getD (0,0));have z3:=jW Q;have z4:=I4 z1 z2;unfold IU at *;omega)|(refine ais (ajy ?_);first|exact .inl (by assumption)|exact .inr (.inl (by assumption))|exact .inr (.inr (by assumption)))|(rw[agx (ax:=ax) (bx:=bx) (ay:=ay) (bb:=bb) (c:=c) (X:=X) (Y:=Y) (Q:=Q) (by assumption) (by assumption) (by assumption) rfl rfl rfl];generalize(gZ ax bx c X).getD (0,0)=u at *;generalize(gZ ay bb c Y).getD (0,0)=v at *;generalize(anl Q).getD (0,0)=w at *;rcases k1:sU u u with _|s<;>rcases k2:sU v v with _|t<;>first|rfl|(exfalso;simp_all;done)|(simp only[k1,k2,Ad,Option.isSome_some]at *;rcases k3:anM s t with _|m<;>first|rfl|(exfalso;simp_all;done)|(simp only[k3,Ad,Option.isSome_some]at *;rcases k4:anM m (-w.2,-w.1)with _|r<;>first|rfl|(exfalso;simp_all;done))))⟩
instance afU(X Y Q ax bx ay bb c:Rat):DenI Tryz.prog 238 [Q3 X Y Q,Q5 ax bx ay bb c] (rz X≤7000∧rz Y≤7000∧rz Q≤27000∧rz ax≤12∧rz bx≤12∧rz ay≤12∧rz bb≤12∧rz c≤12) (.int .i64 (-(xk ((ax-X)*(ax-X)+(ay-Y)*(ay-Y)+c*(bx*bx+bb*bb)-Q) ((ax-X)*bx+(ay-Y)*bb+((ax-X)*bx+(ay-Y)*bb)) c))):=⟨λhp=>by
 obtain⟨q0,q1,q2,q3,q4,q5,q6,q7⟩:=hp;have i_X:RzB X 7000:=⟨q0⟩
 have i_Y:RzB Y 7000:=⟨q1⟩
 have i_Q:RzB Q 27000:=⟨q2⟩
 have i_ax:RzB ax 12:=⟨q3⟩
 have i_bx:RzB bx 12:=⟨q4⟩
 have i_ay:RzB ay 12:=⟨q5⟩
 have i_bb:RzB bb 12:=⟨q6⟩
 have i_c:RzB c 12:=⟨q7⟩
 all_goals refine amV Tryz.func238 rfl ?_
 all_goals(repeat'((try(conv=>whnf));first
  |refine call_i ?_ ?_|refine OnB.mk (λ_=>?_) (λ_=>?_)|refine Drw.mk (by kernel_rfl) ?_|refine Ends.mk ?_))
 all_goals(try refine Pr.mk ?_)
 all_goals first
  |(exact afY (by assumption) (aaG (by assumption)) (Jd _ _ _).1 (Jd _ _ _).2)|(refine afC ?_;rfl)|((repeat' apply And.intro)<;>first|assumption|exact jh (by omega)|exact jl (by omega)|exact iU (amR _) (amR _))⟩
instance alg(X Y Q x y:Rat):DenI Tryz.prog 238 [Q3 X Y Q,Q5 x 0 y 0 0] (rz X≤7000∧rz Y≤7000∧rz Q≤27000∧rz x≤12∧rz y≤12) (.int .i64 (-(anf ((x-X)*(x-X)+(y-Y)*(y-Y)-Q)))):=⟨λ⟨h1,h2,h3,h4,h5⟩=>by
 have h:=(afU X Y Q x 0 y 0 0).den ⟨h1,h2,h3,h4,by decide +kernel,h5,by decide +kernel,by decide +kernel⟩;rw[aeZ,show(x-X)*(x-X)+(y-Y)*(y-Y)+0*(0*0+0*0)-Q=(x-X)*(x-X)+(y-Y)*(y-Y)-Q by grind]at h
 exact h⟩
@[reducible] def EO(X Y Q:Rat)(cw:Bool)(a b e f:Rat):List Cell:=[.v (.bool true),zs (0:Rat).num,zl (0:Rat).num,zs (0:Rat).den,zl (0:Rat).den,zs (0:Rat).num,zl (0:Rat).num,zs (0:Rat).den,zl (0:Rat).den,zs (0:Rat).num,zl (0:Rat).num,zs (0:Rat).den,zl (0:Rat).den,zs X.num,zl X.num,zs X.den,zl X.den,zs Y.num,zl Y.num,zs Y.den,zl Y.den,zs Q.num,zl Q.num,zs Q.den,zl Q.den,.v (.bool cw),zs a.num,zl a.num,zs a.den,zl a.den,zs (0:Rat).num,zl (0:Rat).num,zs (0:Rat).den,zl (0:Rat).den,zs b.num,zl b.num,zs b.den,zl b.den,zs (0:Rat).num,zl (0:Rat).num,zs (0:Rat).den,zl (0:Rat).den,zs (0:Rat).num,zl (0:Rat).num,zs (0:Rat).den,zl (0:Rat).den,zs e.num,zl e.num,zs e.den,zl e.den,zs (0:Rat).num,zl (0:Rat).num,zs (0:Rat).den,zl (0:Rat).den,zs f.num,zl f.num,zs f.den,zl f.den,zs (0:Rat).num,zl (0:Rat).num,zs (0:Rat).den,zl (0:Rat).den,zs (0:Rat).num,zl (0:Rat).num,zs (0:Rat).den,zl (0:Rat).den]
@[reducible] def OJ(X Y Q:Rat)(cw:Bool)(a b e f:Rat):List Cell:=[.v (.bool true),.v (.bool false),.sl 1 [],.v (.bool false),.sl 1 [],.v (.bool false),.sl 1 [],.v (.bool false),.sl 1 [],.v (.bool false),.sl 1 [],.v (.bool false),.sl 1 [],zs X.num,zl X.num,zs X.den,zl X.den,zs Y.num,zl Y.num,zs Y.den,zl Y.den,zs Q.num,zl Q.num,zs Q.den,zl Q.den,.v (.bool cw),zs a.num,zl a.num,zs a.den,zl a.den,zs (0:Rat).num,zl (0:Rat).num,zs (0:Rat).den,zl (0:Rat).den,zs b.num,zl b.num,zs b.den,zl b.den,zs (0:Rat).num,zl (0:Rat).num,zs (0:Rat).den,zl (0:Rat).den,zs (0:Rat).num,zl (0:Rat).num,zs (0:Rat).den,zl (0:Rat).den,zs e.num,zl e.num,zs e.den,zl e.den,zs (0:Rat).num,zl (0:Rat).num,zs (0:Rat).den,zl (0:Rat).den,zs f.num,zl f.num,zs f.den,zl f.den,zs (0:Rat).num,zl (0:Rat).num,zs (0:Rat).den,zl (0:Rat).den,zs (0:Rat).num,zl (0:Rat).num,zs (0:Rat).den,zl (0:Rat).den]
instance amE:DenI Tryz.prog 367 [] (True) (R 0):=⟨λhp=>by
 refine amV Tryz.func367 rfl ?_
 all_goals(repeat'((try(conv=>whnf));first
  |refine call_i ?_ ?_|refine Ends.mk ?_))
 all_goals(try refine Pr.mk ?_)
 all_goals first
  |rfl|omega⟩
instance ajW(a:Rat):DenI Tryz.prog 358 [R a] (rz a≤4000000) (Q3 a 0 0):=⟨λhp=>by
 have i_a:RzB a 4000000:=⟨hp⟩
 all_goals refine amV Tryz.func358 rfl ?_
 all_goals(repeat'((try(conv=>whnf));first
  |refine call_0 ?_|refine Drw.mk (by kernel_rfl) ?_|refine Ends.mk ?_))
 all_goals first
  |rfl⟩
instance amv:DenI Tryz.prog 208 [] (True) (R 0):=⟨λhp=>by
 refine amV Tryz.func208 rfl ?_
 all_goals(repeat'((try(conv=>whnf));first
  |refine call_i ?_ ?_|refine Ends.mk ?_))
 all_goals(try refine Pr.mk ?_)
 all_goals first
  |rfl|omega⟩
instance amG(a b:Rat):DenI Tryz.prog 167 [Q2 a b] (rz a≤4000000∧rz b≤4000000) (Q5 a 0 b 0 0):=⟨λhp=>by
 have i_a:RzB a 4000000:=⟨hp.1⟩
 have i_b:RzB b 4000000:=⟨hp.2⟩
 all_goals refine amV Tryz.func167 rfl ?_
 all_goals(repeat'((try(conv=>whnf));first
  |refine call_0 ?_|refine Drw.mk (by kernel_rfl) ?_|refine Ends.mk ?_))
 all_goals first
  |rfl⟩
instance alU(a:Rat):DenI Tryz.prog 313 [R a,R 0,R 0] (rz a≤4000000) (Q3 a 0 0):=⟨λhp=>by
 have i_a:RzB a 4000000:=⟨hp⟩
 all_goals refine amV Tryz.func313 rfl ?_
 all_goals(repeat'((try(conv=>whnf));first
  |refine call_0 ?_|(with_reducible refine onB_d (λ_=>?_) (λ_=>?_))|refine Ends.mk ?_))
 all_goals(try simp only[am3]at *)
 all_goals first
  |rfl⟩
instance q_x(a d:Rat):DenI Tryz.prog 272 [Q5 a 0 d 0 0] (rz a≤4000000∧rz d≤4000000) (Q3 a 0 0):=⟨λhp=>by
 have i_a:RzB a 4000000:=⟨hp.1⟩
 have i_d:RzB d 4000000:=⟨hp.2⟩
 all_goals refine amV Tryz.func272 rfl ?_
 all_goals(repeat'((try(conv=>whnf));first
  |refine call_i ?_ ?_|refine Ends.mk ?_))
 all_goals(try refine Pr.mk ?_)
 all_goals first
  |rfl|((repeat' apply And.intro)<;>first|assumption|exact jh (by omega)|exact jl (by omega)|exact iU (amR _) (amR _))⟩
instance q_y(a d:Rat):DenI Tryz.prog 273 [Q5 a 0 d 0 0] (rz a≤4000000∧rz d≤4000000) (Q3 d 0 0):=⟨λhp=>by
 have i_a:RzB a 4000000:=⟨hp.1⟩
 have i_d:RzB d 4000000:=⟨hp.2⟩
 all_goals refine amV Tryz.func273 rfl ?_
 all_goals(repeat'((try(conv=>whnf));first
  |refine call_i ?_ ?_|refine Ends.mk ?_))
 all_goals(try refine Pr.mk ?_)
 all_goals first
  |rfl|((repeat' apply And.intro)<;>first|assumption|exact jh (by omega)|exact jl (by omega)|exact iU (amR _) (amR _))⟩
instance alc(a d:Rat):DenI Tryz.prog 271 [Q3 a 0 0,Q3 d 0 0] (rz a≤4000000∧rz d≤4000000) (.int .i64 (ang a d)):=⟨λhp=>by
 have i_a:RzB a 4000000:=⟨hp.1⟩
 have i_d:RzB d 4000000:=⟨hp.2⟩
 all_goals refine amV Tryz.func271 rfl ?_
 all_goals(repeat'((try(conv=>whnf));first
  |refine call_0 ?_|refine call_i ?_ ?_|(with_reducible first|refine onB_t ?_|refine onB_f ?_|refine onB_d (λ_=>?_) (λ_=>?_))|refine Ends.mk ?_))
 all_goals(try refine Pr.mk ?_)
 all_goals(try simp only[am3]at *)
 all_goals first
  |rfl|((repeat' apply And.intro)<;>first|assumption|exact jh (by omega)|exact jl (by omega)|exact iU (amR _) (amR _))|(exfalso;simp_all;done)⟩
instance ai9(a d:Rat):DenI Tryz.prog 339 [Q3 a 0 0,R d] (rz a≤4000000∧rz d≤4000000) (.int .i64 (ang a d)):=⟨λhp=>by
 have i_a:RzB a 4000000:=⟨hp.1⟩
 have i_d:RzB d 4000000:=⟨hp.2⟩
 all_goals refine amV Tryz.func339 rfl ?_
 all_goals(repeat'((try(conv=>whnf));first
  |refine call_i ?_ ?_|refine Drw.mk (by kernel_rfl) ?_|refine Ends.mk ?_))
 all_goals(try refine Pr.mk ?_)
 all_goals first
  |rfl|((repeat' apply And.intro)<;>first|assumption|exact jh (by omega)|exact jl (by omega)|exact iU (amR _) (amR _))⟩
instance akb(X Y Q x y:Rat):DenI Tryz.prog 314 [Q3 X Y Q,Q5 x 0 y 0 0] (rz X≤1000000∧rz Y≤1000000∧rz Q≤1000000∧rz x≤1000000∧rz y≤1000000) (.int .i64 (hf (X,Y) (x,y))):=⟨λhp=>by
 have i_X:RzB X 1000000:=⟨hp.1⟩
 have i_Y:RzB Y 1000000:=⟨hp.2.1⟩
 have i_Q:RzB Q 1000000:=⟨hp.2.2.1⟩
 have i_x:RzB x 1000000:=⟨hp.2.2.2.1⟩
 have i_y:RzB y 1000000:=⟨hp.2.2.2.2⟩
 all_goals refine amV Tryz.func314 rfl ?_
 all_goals(repeat'((try(conv=>whnf));first
  |refine call_i ?_ ?_|(with_reducible first|refine onB_t ?_|refine onB_f ?_|refine onB_d (λ_=>?_) (λ_=>?_))|refine Drw.mk (by kernel_rfl) ?_|refine Ends.mk ?_))
 all_goals(try refine Pr.mk ?_)
 all_goals(try simp only[am3]at *)
 all_goals first
  |(refine iE ?_;unfold hf;grind)|((repeat' apply And.intro)<;>first|assumption|exact jh (by omega)|exact jl (by omega)|exact iU (amR _) (amR _))⟩
instance air(X Y Q x y u v:Rat):DenI Tryz.prog 277 [Q3 X Y Q,Q5 x 0 y 0 0,Q5 u 0 v 0 0] (rz X≤1000000∧rz Y≤1000000∧rz Q≤1000000∧rz x≤1000000∧rz y≤1000000∧rz u≤1000000∧rz v≤1000000) (.int .i64 (fF (X,Y) (x,y) (u,v))):=⟨λhp=>by
 have i_X:RzB X 1000000:=⟨hp.1⟩
 have i_Y:RzB Y 1000000:=⟨hp.2.1⟩
 have i_Q:RzB Q 1000000:=⟨hp.2.2.1⟩
 have i_x:RzB x 1000000:=⟨hp.2.2.2.1⟩
 have i_y:RzB y 1000000:=⟨hp.2.2.2.2.1⟩
 have i_u:RzB u 1000000:=⟨hp.2.2.2.2.2.1⟩
 have i_v:RzB v 1000000:=⟨hp.2.2.2.2.2.2⟩
 have z1:=wM (X,Y) (x,y);have z2:=wM (X,Y) (u,v);have z3:=tq x u
 all_goals refine amV Tryz.func277 rfl ?_
 all_goals(repeat'((try(conv=>whnf));first
  |refine call_i ?_ ?_|(with_reducible first|refine onB_d (λ_=>?_) (λ_=>?_)|refine onB_n (λ_=>?_) (λ_=>?_))|refine Drw.mk (by kernel_rfl) ?_|refine Ends.mk ?_))
 all_goals(try refine Pr.mk ?_)
 all_goals first
  |(refine iE ?_;(try rw[bW (by omega) (by omega)]);unfold fF;grind)|((repeat' apply And.intro)<;>first|assumption|exact jh (by omega)|exact jl (by omega)|exact iU (amR _) (amR _))⟩
instance alx(X Y Q x y u v:Rat):DenI Tryz.prog 275 [Q3 X Y Q,Q5 x 0 y 0 0,Q5 u 0 v 0 0] (rz X≤1000000∧rz Y≤1000000∧rz Q≤1000000∧rz x≤1000000∧rz y≤1000000∧rz u≤1000000∧rz v≤1000000) (.int .i64 (He (X,Y) (x,y) (u,v))):=⟨λhp=>by
 have i_X:RzB X 1000000:=⟨hp.1⟩
 have i_Y:RzB Y 1000000:=⟨hp.2.1⟩
 have i_Q:RzB Q 1000000:=⟨hp.2.2.1⟩
 have i_x:RzB x 1000000:=⟨hp.2.2.2.1⟩
 have i_y:RzB y 1000000:=⟨hp.2.2.2.2.1⟩
 have i_u:RzB u 1000000:=⟨hp.2.2.2.2.2.1⟩
 have i_v:RzB v 1000000:=⟨hp.2.2.2.2.2.2⟩
 all_goals refine amV Tryz.func275 rfl ?_
 all_goals(repeat'((try(conv=>whnf));first
  |refine call_i ?_ ?_|(with_reducible refine onB_d (λ_=>?_) (λ_=>?_))|refine Ends.mk ?_))
 all_goals(try refine Pr.mk ?_)
 all_goals first
  |(refine iE ?_;unfold He;grind)|((repeat' apply And.intro)<;>first|assumption|exact jh (by omega)|exact jl (by omega)|exact iU (amR _) (amR _))⟩
instance ak3(n:Int):DenI Tryz.prog 276 [.int .i64 n] (True) (.int .i64 (jD n)):=⟨λhp=>by
 refine amV Tryz.func276 rfl ?_
 all_goals(repeat'((try(conv=>whnf));first
  |refine Ends.mk ?_))
 all_goals first
  |(refine iE ?_;simp only[Zy,List.foldl_nil];unfold jD;(repeat' split)<;>omega)⟩
instance alG(X Y Q x y u v s t:Rat):DenI Tryz.prog 242 [Q3 X Y Q,Q5 x 0 y 0 0,Q5 u 0 v 0 0,Q5 s 0 t 0 0] (rz X≤1000000∧rz Y≤1000000∧rz Q≤1000000∧rz x≤1000000∧rz y≤1000000∧rz u≤1000000∧rz v≤1000000∧rz s≤1000000∧rz t≤1000000) (.int .i64 (zu (X,Y) (x,y) (u,v) (s,t))):=⟨λhp=>by
 have i_X:RzB X 1000000:=⟨hp.1⟩
 have i_Y:RzB Y 1000000:=⟨hp.2.1⟩
 have i_Q:RzB Q 1000000:=⟨hp.2.2.1⟩
 have i_x:RzB x 1000000:=⟨hp.2.2.2.1⟩
 have i_y:RzB y 1000000:=⟨hp.2.2.2.2.1⟩
 have i_u:RzB u 1000000:=⟨hp.2.2.2.2.2.1⟩
 have i_v:RzB v 1000000:=⟨hp.2.2.2.2.2.2.1⟩
 have i_s:RzB s 1000000:=⟨hp.2.2.2.2.2.2.2.1⟩
 have i_t:RzB t 1000000:=⟨hp.2.2.2.2.2.2.2.2⟩
 have z4:=RY (X,Y) (x,y) (u,v);have z5:=RY (X,Y) (x,y) (s,t)
 all_goals refine amV Tryz.func242 rfl ?_
 all_goals(repeat'((try(conv=>whnf));first
  |refine call_0 ?_|refine call_i ?_ ?_|(with_reducible refine onB_n (λ_=>?_) (λ_=>?_))|refine Drw.mk (by kernel_rfl) ?_|refine Ends.mk ?_))
 all_goals(try refine Pr.mk ?_)
 all_goals first
  |(refine iE ?_;unfold zu;rw[if_neg (by assumption),bW (by omega) (by omega)])|(refine iE ?_;unfold zu;rw[if_pos (by assumption)])|((repeat' apply And.intro)<;>first|assumption|exact jh (by omega)|exact jl (by omega)|exact iU (amR _) (amR _))⟩
instance alE(X Y Q a b e f:Rat):DenI Tryz.prog 274 [.agg (EO X Y Q true a b e f)] (rz X≤1000000∧rz Y≤1000000∧rz Q≤1000000∧rz a≤1000000∧rz b≤1000000∧rz e≤1000000∧rz f≤1000000) (.agg (EO X Y Q false e f a b)):=⟨λhp=>by
 have i_X:RzB X 1000000:=⟨hp.1⟩
 have i_Y:RzB Y 1000000:=⟨hp.2.1⟩
 have i_Q:RzB Q 1000000:=⟨hp.2.2.1⟩
 have i_a:RzB a 1000000:=⟨hp.2.2.2.1⟩
 have i_b:RzB b 1000000:=⟨hp.2.2.2.2.1⟩
 have i_e:RzB e 1000000:=⟨hp.2.2.2.2.2.1⟩
 have i_f:RzB f 1000000:=⟨hp.2.2.2.2.2.2⟩
 all_goals refine amV Tryz.func274 rfl ?_
 all_goals(repeat'((try(conv=>whnf));first
  |(with_reducible refine onB_t ?_)|refine Ends.mk ?_))
 all_goals first
  |rfl⟩
instance akz(X Y Q a b e f:Rat):DenI Tryz.prog 241 [.agg (EO X Y Q true a b e f)] (rz X≤1000000∧rz Y≤1000000∧rz Q≤1000000∧rz a≤1000000∧rz b≤1000000∧rz e≤1000000∧rz f≤1000000) (.agg (EO X Y Q false e f a b)):=⟨λhp=>by
 have i_X:RzB X 1000000:=⟨hp.1⟩
 have i_Y:RzB Y 1000000:=⟨hp.2.1⟩
 have i_Q:RzB Q 1000000:=⟨hp.2.2.1⟩
 have i_a:RzB a 1000000:=⟨hp.2.2.2.1⟩
 have i_b:RzB b 1000000:=⟨hp.2.2.2.2.1⟩
 have i_e:RzB e 1000000:=⟨hp.2.2.2.2.2.1⟩
 have i_f:RzB f 1000000:=⟨hp.2.2.2.2.2.2⟩
 all_goals refine amV Tryz.func241 rfl ?_
 all_goals(repeat'((try(conv=>whnf));first
  |refine call_i ?_ ?_|(with_reducible refine onB_t ?_)|refine Ends.mk ?_))
 all_goals(try refine Pr.mk ?_)
 all_goals first
  |rfl|((repeat' apply And.intro)<;>first|assumption|exact jh (by omega)|exact jl (by omega)|exact iU (amR _) (amR _))⟩
instance aiJ(X Y Q a b e f:Rat):DenI Tryz.prog 241 [.agg (EO X Y Q false a b e f)] (rz X≤1000000∧rz Y≤1000000∧rz Q≤1000000∧rz a≤1000000∧rz b≤1000000∧rz e≤1000000∧rz f≤1000000) (.agg (EO X Y Q false a b e f)):=⟨λhp=>by
 have i_X:RzB X 1000000:=⟨hp.1⟩
 have i_Y:RzB Y 1000000:=⟨hp.2.1⟩
 have i_Q:RzB Q 1000000:=⟨hp.2.2.1⟩
 have i_a:RzB a 1000000:=⟨hp.2.2.2.1⟩
 have i_b:RzB b 1000000:=⟨hp.2.2.2.2.1⟩
 have i_e:RzB e 1000000:=⟨hp.2.2.2.2.2.1⟩
 have i_f:RzB f 1000000:=⟨hp.2.2.2.2.2.2⟩
 all_goals refine amV Tryz.func241 rfl ?_
 all_goals(repeat'((try(conv=>whnf));first
  |(with_reducible refine onB_f ?_)|refine Ends.mk ?_))
 all_goals first
  |rfl⟩
instance aje:DenI Tryz.prog 166 [] (True) (.agg [.v (.bool false),zs (0:Rat).num,zl (0:Rat).num,zs (0:Rat).den,zl (0:Rat).den,zs (0:Rat).num,zl (0:Rat).num,zs (0:Rat).den,zl (0:Rat).den,zs (0:Rat).num,zl (0:Rat).num,zs (0:Rat).den,zl (0:Rat).den,zs (0:Rat).num,zl (0:Rat).num,zs (0:Rat).den,zl (0:Rat).den,zs (0:Rat).num,zl (0:Rat).num,zs (0:Rat).den,zl (0:Rat).den,zs (0:Rat).num,zl (0:Rat).num,zs (0:Rat).den,zl (0:Rat).den,.v (.bool false),.v (.bool false),.sl 1 [],.v (.bool false),.sl 1 [],.v (.bool false),.sl 1 [],.v (.bool false),.sl 1 [],.v (.bool false),.sl 1 [],.v (.bool false),.sl 1 [],.v (.bool false),.sl 1 [],.v (.bool false),.sl 1 [],.v (.bool false),.sl 1 [],.v (.bool false),.sl 1 [],.v (.bool false),.sl 1 [],.v (.bool false),.sl 1 [],.v (.bool false),.sl 1 [],.v (.bool false),.sl 1 [],.v (.bool false),.sl 1 [],.v (.bool false),.sl 1 [],.v (.bool false),.sl 1 [],.v (.bool false),.sl 1 [],.v (.bool false),.sl 1 [],.v (.bool false),.sl 1 []]):=⟨λhp=>by
 refine amV Tryz.func166 rfl ?_
 all_goals(repeat'((try(conv=>whnf));first
  |refine call_i ?_ ?_|refine Ends.mk ?_))
 all_goals(try refine Pr.mk ?_)
 all_goals(try simp only[am3]at *)
 all_goals first
  |rfl|omega⟩
instance akP(a b c d e f:Rat):DenC Tryz.prog 125 [Q2 a b,Q2 c d,Q2 e f] (rz a≤100∧rz b≤100∧rz c≤100∧rz d≤100∧rz e≤100∧rz f≤100) (cD a b c d e f=0) (.tup [.agg [.v (.bool false),.v (.bool false),.sl 1 [],.v (.bool false),.sl 1 [],.v (.bool false),.sl 1 [],.v (.bool false),.sl 1 [],.v (.bool false),.sl 1 [],.v (.bool false),.sl 1 [],.v (.bool false),.sl 1 [],.v (.bool false),.sl 1 [],.v (.bool false),.sl 1 [],.v (.bool false),.sl 1 [],.v (.bool false),.sl 1 [],.v (.bool false),.sl 1 [],.v (.bool false),.v (.bool false),.sl 1 [],.v (.bool false),.sl 1 [],.v (.bool false),.sl 1 [],.v (.bool false),.sl 1 [],.v (.bool false),.sl 1 [],.v (.bool false),.sl 1 [],.v (.bool false),.sl 1 [],.v (.bool false),.sl 1 [],.v (.bool false),.sl 1 [],.v (.bool false),.sl 1 [],.v (.bool false),.sl 1 [],.v (.bool false),.sl 1 [],.v (.bool false),.sl 1 [],.v (.bool false),.sl 1 [],.v (.bool false),.sl 1 [],.v (.bool false),.sl 1 [],.v (.bool false),.sl 1 [],.v (.bool false),.sl 1 [],.v (.bool false),.sl 1 [],.v (.bool false),.sl 1 []],.int .i64 6]) (.tup [.agg (EO (jT (a,b) (c,d) (e,f)) (ji (a,b) (c,d) (e,f)) (Ru (a,b) (c,d) (e,f)) (!decide (0<cD a b c d e f)) a b e f),.int .i64 0]):=⟨denC λhp q e1 e2=>by
 have i_a:RzB a 100:=⟨hp.1⟩
 have i_b:RzB b 100:=⟨hp.2.1⟩
 have i_c:RzB c 100:=⟨hp.2.2.1⟩
 have i_d:RzB d 100:=⟨hp.2.2.2.1⟩
 have i_e:RzB e 100:=⟨hp.2.2.2.2.1⟩
 have i_f:RzB f 100:=⟨hp.2.2.2.2.2⟩
 all_goals refine amV Tryz.func125 rfl ?_
 all_goals(repeat'((try(conv=>whnf));first
  |refine call_0 ?_|refine call_i ?_ ?_|refine call_c ?_ (λ_=>?_) (λ_=>?_)|(with_reducible refine onB_n (λ_=>?_) (λ_=>?_))|refine Drw.mk (by kernel_rfl) ?_|refine Ends.mk ?_))
 all_goals(try refine Pr.mk ?_)
 all_goals(try simp only[am3]at *)
 all_goals first
  |(exfalso;omega)|(exfalso;rename ¬True=>h;exact h trivial)|(rw[e2 (by unfold cD;assumption),cwF];rfl)|(rw[e1 (by unfold cD;assumption)];rfl)|((repeat' apply And.intro)<;>first|assumption|exact jh (by omega)|exact jl (by omega)|exact iU (amR _) (amR _))⟩
instance alr(X Y Q a b e f x y:Rat)(cw:Bool):DenI Tryz.prog 209 [.agg (EO X Y Q cw a b e f),Q5 x 0 y 0 0] (rz X≤7000∧rz Y≤7000∧rz Q≤27000∧rz a≤12∧rz b≤12∧rz e≤12∧rz f≤12∧rz x≤12∧rz y≤12) (.bool (decide (Aw (X,Y) Q (x,y)))):=⟨λhp=>by
 obtain⟨q0,q1,q2,q3,q4,q5,q6,q7,q8⟩:=hp;have i_X:RzB X 7000:=⟨q0⟩
 have i_Y:RzB Y 7000:=⟨q1⟩
 have i_Q:RzB Q 27000:=⟨q2⟩
 have i_a:RzB a 12:=⟨q3⟩
 have i_b:RzB b 12:=⟨q4⟩
 have i_e:RzB e 12:=⟨q5⟩
 have i_f:RzB f 12:=⟨q6⟩
 have i_x:RzB x 12:=⟨q7⟩
 have i_y:RzB y 12:=⟨q8⟩
 all_goals refine amV Tryz.func209 rfl ?_
 all_goals(repeat'((try(conv=>whnf));first
  |refine call_i ?_ ?_|(with_reducible refine onB_t ?_)|refine Ends.mk ?_))
 all_goals(try refine Pr.mk ?_)
 all_goals first
  |exact bE SI|exact⟨by assumption,by assumption,by assumption,by assumption,by assumption⟩⟩
instance alW(X Y Q a b e f x y:Rat)(cw:Bool):DenI Tryz.prog 210 [.agg (EO X Y Q cw a b e f),Q5 x 0 y 0 0] (rz X≤7000∧rz Y≤7000∧rz Q≤27000∧rz a≤12∧rz b≤12∧rz e≤12∧rz f≤12∧rz x≤12∧rz y≤12) (.bool (decide ((if cw=true then zu (X,Y) (e,f) (x,y) (a,b) else zu (X,Y) (a,b) (x,y) (e,f))≤0))):=⟨λhp=>by
 obtain⟨q0,q1,q2,q3,q4,q5,q6,q7,q8⟩:=hp;have i_X:RzB X 7000:=⟨q0⟩
 have i_Y:RzB Y 7000:=⟨q1⟩
 have i_Q:RzB Q 27000:=⟨q2⟩
 have i_a:RzB a 12:=⟨q3⟩
 have i_b:RzB b 12:=⟨q4⟩
 have i_e:RzB e 12:=⟨q5⟩
 have i_f:RzB f 12:=⟨q6⟩
 have i_x:RzB x 12:=⟨q7⟩
 have i_y:RzB y 12:=⟨q8⟩
 cases cw
 all_goals refine amV Tryz.func210 rfl ?_
 all_goals(repeat'((try(conv=>whnf));first
  |refine call_i ?_ ?_|refine OnB.mk (λ_=>?_) (λ_=>?_)|refine Ends.mk ?_))
 all_goals(try refine Pr.mk ?_)
 all_goals(try simp only[am3]at *)
 all_goals first
  |rfl|((repeat' apply And.intro)<;>first|assumption|exact jh (by omega)|exact jl (by omega)|exact iU (amR _) (amR _))|(exfalso;simp_all;done)⟩
instance amy(X Y Q a b e f x y:Rat)(cw:Bool):DenI Tryz.prog 168 [.agg (EO X Y Q cw a b e f),Q5 x 0 y 0 0] (rz X≤7000∧rz Y≤7000∧rz Q≤27000∧rz a≤12∧rz b≤12∧rz e≤12∧rz f≤12∧rz x≤12∧rz y≤12) (.bool (jd (X,Y) Q cw (a,b) (e,f) (x,y))):=⟨λhp=>by
 obtain⟨q0,q1,q2,q3,q4,q5,q6,q7,q8⟩:=hp;have i_X:RzB X 7000:=⟨q0⟩
 have i_Y:RzB Y 7000:=⟨q1⟩
 have i_Q:RzB Q 27000:=⟨q2⟩
 have i_a:RzB a 12:=⟨q3⟩
 have i_b:RzB b 12:=⟨q4⟩
 have i_e:RzB e 12:=⟨q5⟩
 have i_f:RzB f 12:=⟨q6⟩
 have i_x:RzB x 12:=⟨q7⟩
 have i_y:RzB y 12:=⟨q8⟩
 all_goals refine amV Tryz.func168 rfl ?_
 all_goals(repeat'((try(conv=>whnf));first
  |refine call_i ?_ ?_|(with_reducible first|refine onB_t ?_|refine onB_f ?_|refine onB_d (λ_=>?_) (λ_=>?_))|refine Ends.mk ?_))
 all_goals(try refine Pr.mk ?_)
 all_goals first
  |(refine bE ?_;unfold jd;have hk:decide (Aw (X,Y) Q (x,y))=true:=decide_eq_true (by assumption);rw[hk];rfl)|(refine bE ?_;unfold jd;have hk:decide (Aw (X,Y) Q (x,y))=false:=decide_eq_false (by assumption);rw[hk];rfl)|((repeat' apply And.intro)<;>first|assumption|exact jh (by omega)|exact jl (by omega)|exact iU (amR _) (amR _))⟩
end Go.Proofs.YtmniihkenijjpaaGreatDoor
namespace Go.Sw
open Go
def Cau(f:Nat→Rat):Prop:=∀d:Rat,0<d→∃N,∀m n,N≤m→N≤n→f m<f n+d
def PosS(f:Nat→Rat):Prop:=∃d:Rat,0<d∧∃N,∀n,N≤n→d<f n
def NulS(f:Nat→Rat):Prop:=∀d:Rat,0<d→∃N,∀n,N≤n→-d<f n∧f n<d
def Bnd(f:Nat→Rat):Prop:=∃B:Rat,0<B∧∃N,∀n,N≤n→-B<f n∧f n<B
def dK(f:Nat→Rat)(n:Int):Prop:=(n=1∧PosS f)∨(n = -1∧PosS λk=>-f k)∨(n=0∧NulS f)
theorem RQ{x y B e:Rat}(h1 : -B<x)(h2:x<B)(h3 : -e<y)(h4:y<e):x*y<B*e:=by
 have p1:=yO (show 0<B-x by grind) (show 0<e+y by grind);have p2:=yO (show 0<B+x by grind) (show 0<e-y by grind)
 grind
theorem Wj{x y B e:Rat}(h1 : -B<x)(h2:x<B)(h3 : -e<y)(h4:y<e):-(B*e)<x*y:=by
 have:=RQ (x:=-x) (y:=y) (B:=B) (e:=e) (by grind) (by grind) h3 h4
 grind
theorem XL{a b:Rat}(h1:0<a)(h2:0<b):0<a/b:=by
 have hb:b≠0:=by grind
 rcases OD (a:=a/b) (b:=0)with h|h
 ·have p:=xG (show 0≤-(a/b) by grind) (show 0≤b by grind);have e:a/b*b=a:=by grind
  grind
 ·by_cases e:a/b=0
  ·have e':a/b*b=a:=by grind
   rw[e]at e';grind
  ·grind
theorem NulS.neg{f:Nat→Rat}(h:NulS f):NulS λn=>-f n:=λd hd=>by
 obtain⟨N,hN⟩:=h d hd;exact⟨N,λn hn=>by have:=hN n hn;constructor<;>grind⟩
theorem NulS.mul{f g:Nat→Rat}(h:NulS f)(k:Bnd g):NulS λn=>f n*g n:=λd hd=>by
 obtain⟨B,hB,M,hM⟩:=k;obtain⟨N,hN⟩:=h (d/B) (XL hd hB);refine⟨N+M,λn hn=>?_⟩;have a:=hN n (by omega);have b:=hM n (by omega);have e:d/B*B=d:=by have:B≠0:=(by grind);grind
 have p1:=RQ a.1 a.2 b.1 b.2;have p2:=Wj a.1 a.2 b.1 b.2;rw[e]at p1 p2;exact⟨p2,p1⟩
theorem NulS.zero:NulS λ_=>0:=λd hd=>⟨0,λn _=>by constructor<;>grind⟩
theorem NulS.cg{f g:Nat→Rat}(h:NulS f)(e:∀n,f n=g n):NulS g:=by rwa [funext e]at h
theorem Cau.const(q:Rat):Cau λ_=>q:=λd hd=>⟨0,λm n _ _=>by grind⟩
theorem Cau.neg{f:Nat→Rat}(h:Cau f):Cau λn=>-f n:=λd hd=>by
 obtain⟨N,hN⟩:=h d hd;exact⟨N,λm n hm hn=>by have:=hN n m hn hm;grind⟩
theorem PosS.mul{f g:Nat→Rat}(h:PosS f)(k:PosS g):PosS λn=>f n*g n:=by
 obtain⟨d,hd,N,hN⟩:=h;obtain⟨e,he,M,hM⟩:=k;refine⟨d*e,yO hd he,N+M,λn hn=>?_⟩;have a:=hN n (by omega);have b:=hM n (by omega);have p1:=yO (show 0<f n-d by grind) (show 0<g n by grind);have p2:=yO hd (show 0<g n-e by grind)
 grind
theorem PosS.cg{f g:Nat→Rat}(h:PosS f)(e:∀n,f n=g n):PosS g:=by rwa [funext e]at h
theorem PosS.not{f:Nat→Rat}(h:PosS f)(k:PosS λn=>-f n):False:=by
 obtain⟨d,hd,N,hN⟩:=h;obtain⟨e,he,M,hM⟩:=k;have:=hN (N+M) (by omega);have:=hM (N+M) (by omega)
 grind
namespace dK
theorem ex{f:Nat→Rat}(h:Cau f):∃n,dK f n:=by
 by_cases h1:PosS f
 ·exact⟨1,.inl ⟨rfl,h1⟩⟩
 ·by_cases h2:PosS λn=>-f n
  ·exact⟨-1,.inr (.inl ⟨rfl,h2⟩)⟩
  ·refine⟨0,.inr (.inr ⟨rfl,λd hd=>?_⟩)⟩;obtain⟨N,hN⟩:=h (d*(1/2)) (by grind)
   have a1:∃m,N≤m∧f m≤d*(1/2):=Classical.byContradiction λhc=>h1 ⟨d*(1/2),by grind,N,λn hn=>by
    rcases OD (a:=f n) (b:=d*(1/2))with h|h
    ·exact absurd ⟨n,hn,h⟩ hc
    ·by_cases e:f n=d*(1/2)
     ·exact absurd ⟨n,hn,by grind⟩ hc
     ·grind⟩
   have a2:∃m,N≤m∧-f m≤d*(1/2):=Classical.byContradiction λhc=>h2 ⟨d*(1/2),by grind,N,λn hn=>by
    rcases OD (a:=-f n) (b:=d*(1/2))with h|h
    ·exact absurd ⟨n,hn,h⟩ hc
    ·by_cases e : -f n=d*(1/2)
     ·exact absurd ⟨n,hn,by grind⟩ hc
     ·grind⟩
   obtain⟨m1,g1,k1⟩:=a1;obtain⟨m2,g2,k2⟩:=a2;refine⟨N,λn hn=>?_⟩;have b1:=hN n m1 hn g1;have b2:=hN m2 n g2 hn;constructor<;>grind
theorem cg{f g:Nat→Rat}{n:Int}(h:dK f n)(e:∀k,f k=g k):dK g n:=by rwa [funext e]at h
theorem neg{f:Nat→Rat}{n:Int}(h:dK f n):dK (λk=>-f k) (-n):=by
 rcases h with⟨rfl,h⟩|⟨rfl,h⟩|⟨rfl,h⟩
 ·exact .inr (.inl ⟨rfl,h.cg λn=>by grind⟩)
 ·exact .inl ⟨rfl,h⟩
 ·exact .inr (.inr ⟨rfl,h.neg⟩)
theorem const(q:Rat):dK (λ_=>q) (anf q):=by
 rcases gU q with⟨a,e⟩|⟨a,e⟩|⟨a,e⟩<;>rw[e]
 ·exact .inr (.inl ⟨rfl,⟨-q*(1/2),by grind,0,λn _=>by grind⟩⟩)
 ·subst a;exact .inr (.inr ⟨rfl,NulS.zero⟩)
 ·exact .inl ⟨rfl,⟨q*(1/2),by grind,0,λn _=>by grind⟩⟩
end dK
def ajJ(n:Nat):Rat:=1/((n:Rat)+1)
def rtS(c:Rat)(n:Nat):Rat:=((vT (c*(((n:Rat)+1)*((n:Rat)+1))).floor.toNat:Nat):Rat)*ajJ n
def v2(A B M:Rat)(n:Nat):Rat:=A+B*rtS M n
def v4(A B C D M N:Rat)(n:Nat):Rat:=v2 A B M n+v2 C D M n*rtS N n
theorem Bnd.cg{f g:Nat→Rat}(h:Bnd f)(e:∀n,f n=g n):Bnd g:=by rwa [funext e]at h
def ConS(p:Int×Int)(f:Nat→Rat):Prop:=∃g:Nat→Rat,NulS (λn=>g n-f n)∧∀n,con p (g n)
theorem ConS.const{p:Int×Int}{q:Rat}(h:con p q):ConS p λ_=>q:=⟨λ_=>q,NulS.zero.cg λn=>by grind,λ_=>h⟩
theorem ConS.cg{p:Int×Int}{f g:Nat→Rat}(h:ConS p f)(e:∀n,f n=g n):ConS p g:=by rwa [funext e]at h
structure Rt where
 a:Rat
 b:Rat
 c:Rat
theorem aja{x y:Int}(h:0<y):decide (((Nat.gcd x.natAbs y.natAbs:Nat):Int)=1)=ana (decide (x<0)) (lim x.natAbs) (decide (y<0)) (lim y.natAbs):=by
 rw[ank,anm.2 h];simp
theorem akA{x y:Int}(h:y≤0):false=ana (decide (x<0)) (lim x.natAbs) (decide (y<0)) (lim y.natAbs):=by
 rw[ank];have:¬jD y=1:=λe=>absurd (anm.1 e) (by omega)
 simp[this]
theorem NZ{e0 e1 e:List Cell}{es:List (List Cell)}{k:List Cell→Prop}(hk:k e):Elem (e0::e1::e::es) 2 k:=⟨2,e,rfl,rfl,hk⟩
end Go.Sw
