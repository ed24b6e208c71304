/-
  Rules of the abstract run, plain laws, and what functions answer, for the law TopRepaired.
  Conditions: none.
-/
import Derived.Test.YtmniihkenijjpaaGreatDoorW1
import Derived.Laws.Strings
set_option linter.all false
set_option maxHeartbeats 16000000
namespace Go.Sw
open Go Go.RowKit
theorem yu{a b:Int}{x y:Nat}(ha:a=x)(hb:b=y)(hx:x<=18446744073709551615):IntKind.u64.wrap (a.tdiv b)=((x/y:Nat):Int):=by
 subst ha hb;rw[<-Int.ofNat_tdiv];have:=Ky x y;generalize x/y=q at this ⊢;exact wu64 ω ω
theorem BQ{a b:Int}{x y:Nat}(ha:a=x)(hb:b=y):a.tmod b=((x%y:Nat):Int):=by
 subst ha hb;exact(Int.ofNat_tmod x y).symm
theorem dV{L:List (Nat×Value)}{x:Operand}{k:IntKind}{a b:Int}(h:ev L x=some (.int k a))(e:a=b):ev L x=some (.int k b):=by rw[h,e]
theorem wC{L:List Nat}{i:Nat}{v:Value}(h:i<L.length):i+(#[v]:Array Value).size<=((us L).toArray).size:=by simp;omega
theorem UL.own{w:World}{X:List Nat}{g n c:Nat}{t:TypeId}{L l:List Nat}(hg:w.heap[g]?=some (.cells (us L).toArray t (0,0)))(hx:g ∉ X)(hn:n=L.length)(hc:c=L.length)(hl:L.length<=9223372036854775807)(e:L=l):UL w X (.slice (some ⟨g,0,none⟩) n c) l:=by
 subst hn hc e;exact⟨_,_,_,rfl,rfl,UC.of_box hg hx hl⟩
theorem UL.cap{w:World}{X:List Nat}{A:Option Addr}{n c:Nat}{l:List Nat}(h:UC w X A l.length l)(hn:n=l.length)(hc:c=l.length):UL w X (.slice A n c) l:=by
 subst hn hc;exact⟨_,_,_,rfl,rfl,h⟩
def U0(t:TypeId)(w w':World)(v:Value)(l:List Nat):Prop:=∃g,v=.slice (some ⟨g,0,none⟩) l.length l.length/\w'.heap[g]?=some (.cells (us l).toArray t (0,0))/\w.heap.size<=g
theorem Own.mk_{t:TypeId}{w0 w:World}{g n c:Nat}{L l:List Nat}(hg:w.heap[g]?=some (.cells (us L).toArray t (0,0)))(hb:w0.heap.size<=g)(hn:n=L.length)(hc:c=L.length)(e:L=l):U0 t w0 w (.slice (some ⟨g,0,none⟩) n c) l:=by
 subst hn hc e;exact⟨g,rfl,hg,hb⟩
theorem St.notX{w0 w:World}{S:List Bx}{X:List Nat}(h:St w0 w S)(hX:∀m∈X,m<w0.heap.size)(k:Nat){g:Nat}{t:TypeId}{cs:Array Value}(hk:S[k]?=some (g,t,cs)):g ∉ X:=λhm=>by
 have:=hX g hm;have:=h.base k hk;omega
theorem St.out{w0 w:World}{S:List Bx}{X:List Nat}(h:St w0 w S)(hX:∀m∈X,m<w0.heap.size)(k:Nat){g:Nat}{t:TypeId}{cs:Array Value}(hk:S[k]?=some (g,t,cs)):St w0 w (S.eraseIdx k)/\g ∉ bl (S.eraseIdx k)++X:=by
 refine⟨h.drop (List.eraseIdx_sublist S k),λhm=>?_⟩;rcases iH.1 hm with hm|hm
 .obtain⟨b,hb,e⟩:=dw.1 hm;obtain⟨i,hne,hi⟩:=List.mem_eraseIdx_iff_getElem?.1 hb;have hil:i<S.length:=(iy.1 hi).1;have hkl:k<S.length:=(iy.1 hk).1;have hiv:S[i]=b:=(iy.1 hi).2;have hkv:S[k]=(g,t,cs):=(iy.1 hk).2;rcases Nat.lt_or_gt_of_ne hne with hlt|hgt
  .have:=List.pairwise_iff_getElem.1 h.nd i k hil hkl hlt;rw[hiv,hkv]at this;exact this e
  .have:=List.pairwise_iff_getElem.1 h.nd k i hkl hil hgt;rw[hiv,hkv]at this;exact this e.symm
 .exact h.notX hX k hk hm
theorem St.push_new{w0 w w':World}{S:List Bx}(h:St w0 w S)(hb:Below w.heap.size w w'){g:Nat}{t:TypeId}{cs:Array Value}(hg:w'.heap[g]?=some (.cells cs t (0,0)))(hn:w.heap.size<=g):St w0 w' ((g,t,cs)::S) :=
 (h.call hb).push hg (aU h.below.size hn) (λhm=>by
  obtain⟨b,hb',e⟩:=dw.1 hm;have:=h.lt hb'
  omega)
theorem Ext.push_new{w w':World}(X:List Nat)(hb:Below w.heap.size w w'){g:Nat}(hn:w.heap.size<=g):Ext w X w' (g::X):=(Ext.call X hb).add hn
def IntV(w:World)(X:List Nat)(v:Value)(x:Int):Prop:=ajd w X v (decide (x<0)) (lim x.natAbs)
theorem UR{P:Program}{s:Sem Next}{w w':World}{t b:Bool}(h:t=b)(hr:s.run P w=.ok (.value (.bool t)) w'):s.run P w=.ok (.value (.bool b)) w':=h▸hr
section
variable {P:Program} {ρ:Operand->Value} {w:World} {d:Option Tmp} {ty:TypeId} {pos:String} {af:Array Edge} {gd:Option (Nat × Bool)}
end
theorem Dx{n:Nat}(h:n<=4294967295):IntKind.u32.wrap ((n:Nat):Int)=((n:Nat):Int):=bW ω ω
theorem iI{n:Nat}(h:n<=18446744073709551615):IntKind.u64.wrap ((n:Nat):Int)=((n:Nat):Int):=wu64 ω ω
theorem VP{a:Int}(h1 : -9223372036854775808<=a)(h2:a<0):IntKind.i64.wrap (0-IntKind.i64.wrap (a.natAbs:Int))=a:=by
 rw[IntKind.wrap_i64 (n:=((a.natAbs:Nat):Int))];have h3:(a.natAbs:Int) = -a:=ω
 rw[h3,IntKind.wrap_i64];omega
theorem JI{a:Int}(h1:a<=9223372036854775807)(h2:¬ a<0):IntKind.i64.wrap (a.natAbs:Int)=a:=by
 have h3:(a.natAbs:Int)=a:=ω
 rw[h3,IntKind.wrap_i64];omega
theorem Au{a:Int}(h1 : -9223372036854775808<=a)(h2:a<0):IntKind.i64.wrap (IntKind.u64.wrap (0-(a.natAbs:Int)))=a:=by
 have h3:(a.natAbs:Int) = -a:=ω
 rw[h3,IntKind.wrap_u64,IntKind.wrap_i64];omega
end Go.Sw
namespace Go.Sw
open Go
def win(o:List Nat)(k i:Nat):List Nat:=(o.drop k).take i
theorem getD_drop(o:List Nat)(k i:Nat):(o.drop k).getD i 0=o.getD (k+i) 0:=by
 simp[List.getD,zM]
theorem win_zero(o:List Nat)(k:Nat):val (win o k 0)=0:=by simp[win,val]
theorem jr(o:List Nat)(k i:Nat):val (win o k (i+1))=val (win o k i)+1000000000^i*o.getD (k+i) 0:=by
 unfold win;rw[aF,getD_drop]
theorem vX{o:List Nat}{k i x:Nat}:win (o.set (k+i) x) k i=win o k i:=by
 unfold win;apply Ku;intro j;simp only[tH,zM,List.getElem?_set];split
 .rw[if_neg ω]
 .rfl
theorem CX{o:List Nat}{k i x:Nat}(h:k+i<o.length):val (win (o.set (k+i) x) k (i+1))=val (win o k i)+1000000000^i*x:=by
 rw[jr,vX,je h]
theorem ig{o:List Nat}{k i x:Nat}:(o.set (k+i) x).take k=o.take k:=by
 apply Ku;intro j;simp only[tH,List.getElem?_set];split
 .rw[if_neg ω]
 .rfl
theorem set_drop{o:List Nat}{k i x:Nat}:(o.set (k+i) x).drop (k+(i+1))=o.drop (k+(i+1)):=pO ω
theorem fH{o U:List Nat}{k i:Nat}(h:o.drop (k+i)=U.drop (k+i)):o.drop (k+(i+1))=U.drop (k+(i+1)):=by
 have h2:=congrArg (List.drop 1) h;rw[List.drop_drop,List.drop_drop]at h2;exact h2
theorem uz{o U:List Nat}{k:Nat}(h:o.drop k=U.drop k):o.getD k 0=U.getD k 0:=by
 have h1:=getD_drop o k 0;have h2:=getD_drop U k 0;rw[h]at h1;simpa using h1.symm.trans h2
theorem nC{o U v:List Nat}{k i cr br bw x z t b2:Nat}(hk:k+i<o.length)(hv:val (win o k i)+val (v.take i)*bw=val (win U k i)+1000000000^i*(cr+br))(hx:U.getD (k+i) 0=x)(ht:t=cr+v.getD i 0*bw)(hz:z+(t%1000000000+br)=x+1000000000*b2):
 val (win (o.set (k+i) z) k (i+1))+val (v.take (i+1))*bw=val (win U k (i+1))+1000000000^(i+1)*(t/1000000000+b2):=by
 rw[CX hk,jr,aF,hx,uK];have h1:=Nat.div_add_mod t 1000000000;generalize t/1000000000=q at *;generalize t%1000000000=r at *;generalize 1000000000^i=B at *;generalize v.getD i 0=y at *;generalize val (v.take i)=V at *;have e1:(V+B*y)*bw=V*bw+B*(y*bw):=by rw[Nat.add_mul,Il]
 have e2:B*1000000000*(q+b2)=B*(1000000000*q)+B*(1000000000*b2):=by rw[Il,xG,xG]
 have e3:B*z+B*(y*bw)+B*br=B*x+B*(1000000000*q)+B*(1000000000*b2)-B*cr/\B*cr<=B*x+B*(1000000000*q)+B*(1000000000*b2):=by
  have:z+y*bw+br+cr=x+1000000000*q+1000000000*b2:=ω
  have h2:=congrArg (B * ·) this;simp only[xG]at h2;omega
 rw[e1,e2];rw[xG]at hv;omega
theorem oz{o U v:List Nat}{k i cr x z c2:Nat}(hk:k+i<o.length)(hv:val (win o k i)+1000000000^i*cr=val (win U k i)+val (v.take i))(hx:U.getD (k+i) 0=x)(hz:z+1000000000*c2=x+cr+v.getD i 0):
 val (win (o.set (k+i) z) k (i+1))+1000000000^(i+1)*c2=val (win U k (i+1))+val (v.take (i+1)):=by
 rw[CX hk,jr,aF,hx,uK];generalize 1000000000^i=B at *;generalize v.getD i 0=y at *;have h2:=congrArg (B * ·) hz;simp only[xG]at h2;rw[Il];omega
end Go.Sw
namespace Go.Sw
theorem QY(P v1 v2 g w2 rest lo low top:Nat)(h:g*v2>rest*1000000000+w2)(ht:g*v1+rest=top)(hlo:low<P):low+P*w2+P*1000000000*top<g*(lo+P*v2+P*1000000000*v1):=by
 have h1:P*(rest*1000000000+w2+1)<=P*(g*v2):=wH P h;subst ht
 grind
theorem Vk(P v1 v2 g w2 rest lo low top:Nat)(h:g*v2<=rest*1000000000+w2)(ht:g*v1+rest=top)(hg:g<1000000000)(hl:lo<P)(hv:0<v1):g*(lo+P*v2+P*1000000000*v1)<=(low+P*w2+P*1000000000*top)+(lo+P*v2+P*1000000000*v1):=by
 have h1:P*(g*v2)<=P*(rest*1000000000+w2):=wH P h;have h2:g*lo<=g*P:=wH g ω;have h3:g*P<=1000000000*P:=Nat.mul_le_mul_right P ω;have h4:P*1<=P*v1:=wH P hv;subst ht
 grind
theorem QZ(Q v1 top g lo low:Nat)(hv:0<v1)(hl:low<Q)(hg:g=top/v1):low+Q*top<(g+1)*(lo+Q*v1):=by
 have h1:top<(g+1)*v1:=by subst hg;have:=Nat.lt_mul_div_succ top hv;rw[wU]at this;exact this
 have h2:Q*(top+1)<=Q*((g+1)*v1):=wH Q h1
 grind
theorem Oo(Q v1 top lo low:Nat)(hl:lo<Q)(hv:1000000000<=2*v1)(hw:low+Q*top<1000000000*(lo+Q*v1)):top/v1<=1000000001:=by
 have h1:Q*top<Q*(1000000000*(v1+1)):=ν
 have h2:top<1000000000*(v1+1):=Nat.lt_of_mul_lt_mul_left h1;have h3:top<1000000002*v1:=ω
 have:=(Nat.div_lt_iff_lt_mul (k:=v1) ω).2 h3;omega
theorem fP{U:List Nat}{k m:Nat}(h:k+m<=U.length):val (U.drop k)=val (win U k m)+1000000000^m*val (U.drop (k+m)):=by
 have h1:=FP m (U.drop k);have h2:((U.drop k).take m).length=m:=by simp;omega
 conv=>lhs;rw[<-h1,val_append,h2,List.drop_drop]
 rfl
theorem o9{U:List Nat}{k:Nat}(h:k<=U.length):val U=val (U.take k)+1000000000^k*val (U.drop k):=by
 have h2:(U.take k).length=k:=by simp;omega
 conv=>lhs;rw[<-FP k U,val_append,h2]
theorem pq{U:List Nat}(h:Lb U)(k m:Nat):val (win U k m)<1000000000^m:=by
 have h1:=bV (win U k m) ((h.drop k).take m);refine xE h1 (xM ω ?_);simp[win];omega
theorem ou{U:List Nat}(h:Lb U)(m:Nat):val (U.take m)<1000000000^m:=by
 have h1:=bV (U.take m) (h.take m);refine xE h1 (xM ω ?_);simp;omega
theorem qM(U:List Nat)(k n:Nat)(hn:2<=n):val (win U k (n+1))=val (win U k (n-2))+1000000000^(n-2)*U.getD (k+n-2) 0+1000000000^(n-2)*1000000000*(U.getD (k+n) 0*1000000000+U.getD (k+n-1) 0):=by
 obtain⟨m,rfl⟩:∃m,n=m+2:=⟨n-2,ω⟩
 rw[jr,jr,jr,show m+2-2=m by omega,show k+(m+2)-2=k+m by omega,show k+(m+2)-1=k+(m+1) by omega,uK,uK]
 grind
theorem qZ(v:List Nat)(n:Nat)(hl:v.length=n)(hn:2<=n):val v=val (v.take (n-2))+1000000000^(n-2)*v.getD (n-2) 0+1000000000^(n-2)*1000000000*v.getD (n-1) 0:=by
 obtain⟨m,rfl⟩:∃m,n=m+2:=⟨n-2,ω⟩
 rw[<-aO (l:=v) (k:=m+1+1) ω,aF,aF,show m+2-2=m by omega,show m+2-1=m+1 by omega,uK]
def DivInv(u0 V:Nat)(U Q:List Nat)(j:Nat):Prop:=u0=V*(1000000000^j*val (Q.drop j))+val U/\val (U.drop j)<V
structure DigW (v U:List Nat) (k n:Nat):Prop where
 lt:val (win U k (n+1))<1000000000*val v
 rest:val (U.drop (k+(n+1)))=0
theorem DivInv.win{u0:Nat}{v U Q:List Nat}{j n:Nat}(h:DivInv u0 (val v) U Q j)(hj:0<j)(hl:j+n<=U.length)(hv:Lb v)(hU:Lb U)(hn:v.length=n):DigW v U (j-1) n:=by
 obtain⟨k,rfl⟩:∃k,j=k+1:=⟨j-1,ω⟩
 have h2:=h.2;have h3:=fP hl;have h4:=bV v hv;rw[hn]at h4
 have h0:val (U.drop (k+1+n))=0:=by
  cases rG (val (U.drop (k+1+n)))with
  |inl h=>exact h
  |inr h=>have:=wH (1000000000^n) h;omega
 rw[h0,Nat.mul_zero]at h3;rw[show k+1-1=k by omega];refine⟨?_,by rw[show k+(n+1)=k+1+n by omega];exact h0⟩;have h5:=nP (l:=U) (k:=k+1) ω ω;rw[show k+1-1=k by omega]at h5;have h6:=fP (U:=U) (k:=k) (m:=n+1) ω;rw[show k+(n+1)=k+1+n by omega,h0,Nat.mul_zero]at h6;have h7:=hU.getD k;omega
theorem DW{v U:List Nat}{k n top:Nat}(hd:DigW v U k n)(hn:2<=n)(hl:v.length=n)(hv:Lb v)(hU:Lb U)(h2:1000000000<=2*v.getD (n-1) 0)(ht:top=U.getD (k+n) 0*1000000000+U.getD (k+n-1) 0):
 val (win U k (n+1))<(top/v.getD (n-1) 0+1)*val v/\top/v.getD (n-1) 0<=1000000001:=by
 have h3:=qM U k n hn;have h4:=qZ v n hl hn;rw[<-ht]at h3;have h5:=hd.lt;have h6:=pq hU k (n-2);have h7:=ou hv (n-2);have h8:=hU.getD (k+n-2);have h9:=hv.getD (n-2);generalize val (win U k (n+1))=w at *;generalize val (win U k (n-2))=wl at *;generalize val (v.take (n-2))=vl at *;generalize v.getD (n-1) 0=v1 at *;generalize v.getD (n-2) 0=v2 at *;generalize U.getD (k+n-2) 0=w2 at *;generalize 1000000000^(n-2)=P at *;have hP:P*w2+P<=P*1000000000:=by have:=wH P (show w2+1<=1000000000 by omega);grind
 have hP2:P*v2+P<=P*1000000000:=by have:=wH P (show v2+1<=1000000000 by omega);grind
 rw[h3,h4]at h5 ⊢;exact⟨QZ (P*1000000000) v1 top (top/v1) (vl+P*v2) (wl+P*w2) ω ω rfl,Oo (P*1000000000) v1 top (vl+P*v2) (wl+P*w2) ω h2 h5⟩
theorem Nw{v U:List Nat}{k n g rest:Nat}(hn:2<=n)(hl:v.length=n)(hU:Lb U)
 (hg:g*v.getD (n-1) 0+rest=U.getD (k+n) 0*1000000000+U.getD (k+n-1) 0) (h:g*v.getD (n-2) 0>rest*1000000000+U.getD (k+n-2) 0):val (win U k (n+1))<g*val v:=by
 rw[qM U k n hn,qZ v n hl hn,<-hg];exact QY _ _ _ _ _ rest _ _ _ h rfl (pq hU k (n-2))
theorem QG{v U:List Nat}{k n g:Nat}(hd:DigW v U k n)(h:1000000000<=g):val (win U k (n+1))<g*val v :=
 xE hd.lt (Nat.mul_le_mul_right _ h)
theorem BL{v U:List Nat}{k n g rest:Nat}(hn:2<=n)(hl:v.length=n)(hv:Lb v)(h2:1000000000<=2*v.getD (n-1) 0)
 (hg:g*v.getD (n-1) 0+rest=U.getD (k+n) 0*1000000000+U.getD (k+n-1) 0) (hb:g<1000000000) (h:g*v.getD (n-2) 0<=rest*1000000000+U.getD (k+n-2) 0):g*val v<=val (win U k (n+1))+val v:=by
 rw[qM U k n hn,qZ v n hl hn,<-hg];exact Vk _ _ _ _ _ rest _ _ _ h rfl hb (ou hv (n-2)) ω
theorem Hw{v1 v2 g g1 rest w2 top:Nat}(hg:g*v1+rest=top)(ht:top<1000000000*(v1+1))(hr:1000000000<=rest)(hv2:v2<1000000000)(hg1:g=g1):g1<1000000000/\g1*v2<=rest*1000000000+w2:=by
 subst hg1
 have h1:g<1000000000:=by
  rcases sW g 1000000000 with h|h
  .exact h
  .have:=Nat.mul_le_mul_right v1 h;omega
 have h2:g*v2<=1000000000*1000000000:=Eb ω ω;exact⟨h1,ω⟩
theorem Qn{v U:List Nat}{k n:Nat}(hd:DigW v U k n)(hn:2<=n)(hl:v.length=n)(hv:Lb v):U.getD (k+n) 0*1000000000+U.getD (k+n-1) 0<1000000000*(v.getD (n-1) 0+1):=by
 have h3:=qM U k n hn;have h4:=qZ v n hl hn;have h5:=hd.lt;have h7:=ou hv (n-2);have h9:=hv.getD (n-2);rw[h3,h4]at h5;generalize U.getD (k+n) 0*1000000000+U.getD (k+n-1) 0=top at *;generalize val (win U k (n-2))=wl at *;generalize val (v.take (n-2))=vl at *;generalize v.getD (n-1) 0=v1 at *;generalize v.getD (n-2) 0=v2 at *;generalize U.getD (k+n-2) 0=w2 at *;generalize 1000000000^(n-2)=P at *;have hP2:P*v2+P<=P*1000000000:=by have:=wH P (show v2+1<=1000000000 by omega);grind
 have h1:(P*1000000000)*top<(P*1000000000)*(1000000000*(v1+1)):=ν
 exact Nat.lt_of_mul_lt_mul_left h1
theorem Ij{w w1 V g M cy:Nat}(h:w1+V*g=w+M*cy)(hc:cy=0)(hhi:w<(g+1)*V):w=V*g+w1/\w1<V:=by
 subst hc;rw[Nat.mul_zero]at h;refine⟨ω, ?_⟩
 grind
theorem FY{w w1 w2 V g M cy cy2:Nat}(h:w1+V*g=w+M*cy)(hc:0<cy)(h1:w1<M)(hlo:g*V<=w+V)(hVM:V<=M)(h2:w2+M*cy2=w1+V)(hw2:w2<M)(hc2:cy2<=1):0<g/\w=V*(g-1)+w2/\w2<V:=by
 have hcy:cy=1:=by
  rcases sW cy 2 with h0|h0
  .omega
  .have h3:=wH M h0;have h4:V*g<=w+V:=by rw[wU];exact hlo
   omega
 subst hcy;rw[Nat.mul_one]at h
 have hg:0<g:=by
  rcases rG g with h0|h0
  .subst h0;rw[Nat.mul_zero]at h;omega
  .exact h0
 obtain⟨p,rfl⟩:∃p,g=p+1:=⟨g-1,ω⟩
 have h4:V*(p+1)<=w+V:=by rw[wU];exact hlo
 rw[xG,Nat.mul_one]at h h4;rw[show p+1-1=p by omega]
 have hcy2:cy2=1:=by
  rcases sW cy2 1 with h0|h0
  .have:cy2=0:=ω
   subst this;rw[Nat.mul_zero]at h2;omega
  .omega
 subst hcy2;rw[Nat.mul_one]at h2;exact⟨hg,ω,ω⟩
theorem Np{w w1 V g M cy:Nat}(h:w1+V*g=w+M*cy)(hc:0<cy)(h1:w1<M):0<g:=by
 rcases rG g with h0|h0
 .subst h0;rw[Nat.mul_zero]at h;have:=wH M hc;omega
 .exact h0
theorem DivInv.step{u0 V:Nat}{U Q o:List Nat}{j k n q w w1:Nat}(h:DivInv u0 V U Q j)(hj:j=k+1)(hl:k+(n+1)<=U.length)(ho:o.length=U.length)(hQ:k<Q.length)
 (htk:o.take k=U.take k) (hdr:o.drop (k+(n+1))=U.drop (k+(n+1))) (h0:val (U.drop (k+(n+1)))=0) (hw:val (Sw.win U k (n+1))=w) (hw1:val (Sw.win o k (n+1))=w1) (hq:w=V*q+w1/\w1<V) :
 DivInv u0 V o (Q.set k q) k:=by
 subst hj;obtain⟨h1,h2⟩:=h;obtain⟨h3,h4⟩:=hq;have hU:=o9 (U:=U) (k:=k) ω;have hO:=o9 (U:=o) (k:=k) ω;have hUw:=fP hl;have hOw:=fP (U:=o) (k:=k) (m:=n+1) ω;rw[h0,Nat.mul_zero]at hUw;rw[hdr,h0,Nat.mul_zero]at hOw;rw[hw]at hUw;rw[hw1]at hOw;have hQ2:=oq (l:=Q) (k:=k+1) (d:=q) ω ω;rw[show k+1-1=k by omega]at hQ2;refine⟨?_,ω⟩;rw[hQ2,h1,hU,hO,htk,hUw,hOw,uK,h3]
 grind
theorem DivInv.start{u:List Nat}{V n m:Nat}(hm:u.length=m+n)(hn:0<n)(hb:Lb u)(h0:u.getD (m+n-1) 0=0)(hV:1000000000^(n-1)<=V):DivInv (val u) V u (List.replicate m 0) m:=by
 refine⟨by rw[iC η];simp, ?_⟩;have h1:=fP (U:=u) (k:=m) (m:=n-1) ω;have h2:=pq hb m (n-1)
 have h3:val (u.drop (m+(n-1)))=0:=by
  rw[drop_cons ω,show m+(n-1)=m+n-1 by omega,h0,Qb ω];rfl
 rw[h3,Nat.mul_zero]at h1;omega
theorem Et{b v:List Nat}{s n:Nat}(hb:CanL b)(hn:b.length=n)(h1:0<n)(hs:s=1000000000/(b.getD (n-1) 0+1))(hv:CanL v)(he:val v=val b*s):0<s/\s<1000000000/\v.length=n/\1000000000<=2*v.getD (n-1) 0/\1000000000^(n-1)<=val v:=by
 obtain⟨m,rfl⟩:∃m,n=m+1:=⟨n-1,ω⟩
 rw[show m+1-1=m by omega]at hs ⊢;have hb1:=hb.1.getD m;have htop:val b=val (b.take m)+1000000000^m*b.getD m 0:=by rw[<-aO (l:=b) (k:=m+1) ω,aF]
 have htl:=ou hb.1 m
 have hne:b.getD m 0≠0:=by
  rcases(qK hb.1).1 hb with h|h
  .rw[h]at hn;simp at hn
  .rw[hn]at h;exact h
 generalize b.getD m 0=b1 at *;generalize val (b.take m)=bl at *;have hs1:s*(b1+1)<=1000000000:=by rw[hs];exact Nat.div_mul_le_self _ _
 have hs2:1000000000<(s+1)*(b1+1):=by
  have:=Nat.lt_mul_div_succ 1000000000 (show 0<b1+1 by omega);rw[<-hs,wU]at this;exact this
 have hs0:0<s:=by
  rcases rG s with h|h
  .subst h;omega
  .exact h
 have hsB:s<1000000000:=by
  have:=wH s (show 2<=b1+1 by omega);omega
 generalize hP:1000000000^m=P at *;have hP0:0<P:=by rw[<-hP];exact Nat.pow_pos ω
 have hVlt:val v<P*1000000000:=by
  rw[he,htop];have h2:(bl+P*b1)*s<P*(b1+1)*s:=Nat.mul_lt_mul_of_pos_right ν hs0;have h3:P*(s*(b1+1))<=P*1000000000:=wH P hs1
  grind
 have hVge:P*(b1*s)<=val v:=by rw[he,htop];grind
 have hb1s:0<b1*s:=Nat.mul_pos ω hs0
 have hPV:P<=val v:=by
  have:=wH P hb1s;omega
 have hlen1:v.length<=m+1:=by
  have:=iP (n:=val v) (k:=m+1) (by rw[uK,hP];exact hVlt)
  rwa [hv.eq]at this
 have hlen2:m+1<=v.length:=by
  rcases sW v.length (m+1)with h|h
  .have h3:=bV v hv.1;have h4:=xM (n:=1000000000) ω (show v.length<=m by omega);omega
  .exact h
 have hvt:val v=val (v.take m)+P*v.getD m 0:=by rw[<-aO (l:=v) (k:=m+1) ω,aF,hP]
 have hvl:=ou hv.1 m;rw[hP]at hvl;refine⟨hs0,hsB,ω, ?_,hPV⟩;generalize v.getD m 0=v1 at *
 have hv1:b1*s<=v1:=by
  have h5:P*(b1*s)<P*(v1+1):=ν
  have:=Nat.lt_of_mul_lt_mul_left h5;omega
 obtain⟨t,rfl⟩:∃t,s=t+1:=⟨s-1,ω⟩
 obtain⟨c,rfl⟩:∃c,b1=c+1:=⟨b1-1,ω⟩
 have h6:0<=t*c:=lN _;have h7:1000000000<=2*((c+1)*(t+1))+1:=ν
 omega
theorem MZ{a b s q r rr U:Nat}(hs:0<s)(h:a*s=b*s*q+U)(hlt:U<b*s)(hr:U=s*r+rr)(hrr:rr<s):a=b*q+r/\r<b:=by
 have h1:rr=0:=by
  have h2:s ∣ U:=by
   have h3:s ∣ a*s:=⟨a,wU _ _⟩
   rw[h]at h3;exact(Nat.dvd_add_right ⟨b*q,ν⟩).1 h3
  have h4:s ∣ rr:=by
   rw[hr]at h2;exact(Nat.dvd_add_right ⟨r,rfl⟩).1 h2
  exact Nat.eq_zero_of_dvd_of_lt h4 hrr
 subst h1;rw[JU]at hr;subst hr;refine⟨Nat.eq_of_mul_eq_mul_left hs ν, ?_⟩;exact Nat.lt_of_mul_lt_mul_left (a:=s) ν
theorem GY{l:List Nat}(h:l.length=1):val l=l.getD 0 0:=by
 match l,h with
 |[x],_=>simp[val]
theorem tJ{a b:List Nat}(ha:CanL a)(hb:CanL b)(h:val b<=val a):b.length<=a.length:=by
 rcases sW a.length b.length with h1|h1
 .have:=dH ha hb h1;omega
 .exact h1
theorem Ae(o:List Nat):(o++[0]).getD o.length 0=0:=by simp[List.getD]
theorem Fb(o:List Nat):val (o++[0])=val o:=by rw[val_append];simp[val]
theorem D9{g v1 r t:Nat}(hg:0<g)(h:g*v1+r=t):(g-1)*v1+(r+v1)=t:=by
 obtain⟨p,rfl⟩:∃p,g=p+1:=⟨g-1,ω⟩
 rw[show p+1-1=p by omega]
 grind
theorem Ug{g v x:Nat}(h:g*v>x):0<g:=by
 rcases rG g with h0|h0
 .subst h0;rw[Nat.zero_mul]at h;omega
 .exact h0
theorem MN{g v r u:Nat}(h:((g:Nat):Int)*((v:Nat):Int)>((r:Nat):Int)*1000000000+((u:Nat):Int)):g*v>r*1000000000+u:=by
 have h1:((g*v:Nat):Int)>((r*1000000000+u:Nat):Int):=by rw[KD,Int.natCast_add,KD];exact h
 omega
theorem rZ{U:List Nat}{k:Nat}(hk:k<=U.length)(h:val U<1000000000^k):val (U.take k)=val U:=by
 have h1:=o9 hk;rcases rG (val (U.drop k))with h0|h0
 .rw[h0]at h1;omega
 .have:=wH (1000000000^k) h0;omega
theorem Iq{b:List Nat}{s n:Nat}(hb:CanL b)(hn:b.length=n)(h1:0<n)(hs:s=1000000000/(b.getD (n-1) 0+1)):s<1000000000:=by
 have hne:b.getD (n-1) 0≠0:=by
  rcases(qK hb.1).1 hb with h|h
  .rw[h]at hn;simp at hn;omega
  .rw[hn]at h;exact h
 have:=Nat.div_le_div_left (a:=1000000000) (show 2<=b.getD (n-1) 0+1 by omega) ω;omega
open Go Go.RowKit
section
variable {P:Program} {ρ:Operand->Value} {w:World} {d:Option Tmp} {ty:TypeId} {pos:String} {af:Array Edge} {gd:Option (Nat × Bool)}
theorem DU(g o j:Nat):Addr.add ⟨g,o,none⟩ j=⟨g,o+j,none⟩:=by
 unfold Addr.add;split
 .rename_i h;subst h;rfl
 .rfl
theorem fQ{t e:TypeId}{x y:Operand}{g o n c:Nat}{k:IntKind}{i:Int}{j:Nat}(ht:sliceOf P t=some (e,1))(hx:ρ x=.slice (some ⟨g,o,none⟩) n c)(hy:ρ y=.int k i)(hi:i=(j:Nat))(h1:j<n):
 (execOp ρ ⟨d,.indexAddr t x y,ty,pos,af,gd⟩).run P w=.ok (.value (.pointer (some ⟨g,o+j,none⟩))) w:=by
 have:=gK (w:=w) (d:=d) (ty:=ty) (pos:=pos) (af:=af) (gd:=gd) (j:=j) ht hx rfl hy hi h1
 rwa [DU]at this
theorem xA{t e:TypeId}{x y z:Operand}{g n c:Nat}{k k':IntKind}{i i':Int}{j m:Nat}(ht:sliceOf P t=some (e,1))(hx:ρ x=.slice (some ⟨g,0,none⟩) n c)(hy:ρ y=.int k i)(hz:ρ z=.int k' i')(hi:i=(j:Nat))(hi':i'=(m:Nat))(h1:j<=m)(h2:m<=c)(h3:j<c):
 (execOp ρ ⟨d,.slice t x (some y) (some z) none,ty,pos,af,gd⟩).run P w=.ok (.value (.slice (some ⟨g,j,none⟩) (m-j) (c-j))) w:=by
 have:=xO (w:=w) (d:=d) (ty:=ty) (pos:=pos) (af:=af) (gd:=gd) (j:=j) (m:=m) ht hx hy hz hi hi' h1 h2;rw[if_neg ω]at this;simpa[DU]using this
theorem nN{t e:TypeId}{x y z:Operand}{g n c:Nat}{k k':IntKind}{i i':Int}{j m q:Nat}(ht:sliceOf P t=some (e,1))(hx:ρ x=.slice (some ⟨g,0,none⟩) n c)(hy:ρ y=.int k i)(hz:ρ z=.int k' i')(hi:i=(j:Nat))(hi':i'=(m:Nat))(h1:j<=m)(h2:m<=c)(h3:j<c)(hq:m-j=q):
 (execOp ρ ⟨d,.slice t x (some y) (some z) none,ty,pos,af,gd⟩).run P w=.ok (.value (.slice (some ⟨g,j,none⟩) q (c-j))) w:=by
 subst hq;exact xA ht hx hy hz hi hi' h1 h2 h3
end
theorem jc{L:List Nat}{R:List Value}{i:Nat}{v:Value}(h:i<L.length):i+(#[v]:Array Value).size<=((us L++R).toArray).size:=by simp;omega
theorem OwV.settle{e:TypeId}{So:List Bx}{v:Value}{l:List Nat}(h:OwV e So v (us l))(hl:0<l.length):∃g c R,So=[(g,e,(us l++R).toArray)]/\v=.slice (some ⟨g,0,none⟩) l.length c/\l.length<=c/\c<=maxLen:=by
 rcases h with⟨rfl,rfl,h⟩|⟨g,c,r,rfl,rfl,hc,hm⟩
 .have:l=[]:=by simpa[us]using h
  subst this;simp at hl
 .rw[lF]at hc;exact⟨g,c,r,rfl,by rw[lF],ω,hm⟩
theorem OwV.full(e:TypeId)(g:Nat)(l:List Nat)(n c:Nat)(hn:n=l.length)(hc:c=l.length)(hm:l.length<=1000000000000):OwV e [(g,e,(us l).toArray)] (.slice (some ⟨g,0,none⟩) n c) (us l):=by
 subst hn hc;have:=OwV.block e g (us l).length (us l) [] η (by rw[lF];unfold maxLen;omega);rw[dB,lF]at this;exact this
theorem UC.of_boxR{w:World}{X:List Nat}{g c n:Nat}{t:TypeId}{L:List Nat}{R:List Value}(hg:w.heap[g]?=some (.cells (us L++R).toArray t (0,0)))(hx:g ∉ X)(hc:c<=maxLen)(hn:n<=L.length)(hnc:n<=c):UC w X (some ⟨g,0,none⟩) c (L.take n):=by
 have h:=Cl.of_block hg hx n
 have e:((us L++R).toArray.toList).take n=us (L.take n):=by
  rw[KC,List.take_append_of_le_length (by simpa using hn)];simp[us,List.map_take]
 refine⟨by simpa[e]using h,κ,by unfold maxLen at hc;omega⟩
end Go.Sw
namespace Go.Sw
theorem vH{a b q r:Int}(hb:0<b)(h:r+b*q=a)(h0:0<=r)(h1:r<b):a.fdiv b=q/\a.fmod b=r:=(Int.fdiv_fmod_unique hb).2 ⟨h,h0,h1⟩
theorem vI{a b q r:Int}(hb:b<0)(h:r+b*q=a)(h0:b<r)(h1:r<=0):a.fdiv b=q/\a.fmod b=r:=(Int.fdiv_fmod_unique' hb).2 ⟨h,h0,h1⟩
theorem MC{a b:Int}{q r:Nat}(hb:b≠0)(h:a.natAbs=b.natAbs*q+r)(hr:r<b.natAbs)(hk:r=0\/(a<0↔b<0)):bH (decide (a<0) != decide (b<0)) q=a.fdiv b/\bH (decide (a<0)) r=a.fmod b:=by
 have h':(a.natAbs:Int)=(b.natAbs:Int)*q+r:=by exact_mod_cast h
 by_cases ha:a<0<;>by_cases hb0:b<0<;>simp[ha,hb0,bH]at hk ⊢
 .have:=vI (a:=a) (b:=b) (q:=q) (r:=-(r:Int)) hb0 (by rw[show(a.natAbs:Int) = -a by omega,show(b.natAbs:Int) = -b by omega]at h';grind) ω ω;exact⟨this.1.symm,this.2.symm⟩
 .subst hk;have:=vH (a:=a) (b:=b) (q:=-(q:Int)) (r:=0) ω (by rw[show(a.natAbs:Int) = -a by omega,show(b.natAbs:Int)=b by omega]at h';grind) ω ω;simp;exact⟨this.1.symm,this.2.symm⟩
 .subst hk;have:=vI (a:=a) (b:=b) (q:=-(q:Int)) (r:=0) hb0 (by rw[show(a.natAbs:Int)=a by omega,show(b.natAbs:Int) = -b by omega]at h';grind) ω ω;simp;exact⟨this.1.symm,this.2.symm⟩
 .have:=vH (a:=a) (b:=b) (q:=q) (r:=r) ω (by rw[show(a.natAbs:Int)=a by omega,show(b.natAbs:Int)=b by omega]at h';grind) ω ω;exact⟨this.1.symm,this.2.symm⟩
theorem Ol{a b:Int}{q r:Nat}(hb:b≠0)(h:a.natAbs=b.natAbs*q+r)(hr:r<b.natAbs)(h0:0<r)(hk:¬(a<0↔b<0)):bH (decide (a<0) != decide (b<0)) q-1=a.fdiv b/\bH (decide (a<0)) r+b=a.fmod b:=by
 have h':(a.natAbs:Int)=(b.natAbs:Int)*q+r:=by exact_mod_cast h
 by_cases ha:a<0<;>by_cases hb0:b<0<;>simp[ha,hb0,bH]at hk ⊢
 .have:=vH (a:=a) (b:=b) (q:=-(q:Int)-1) (r:=-(r:Int)+b) ω (by rw[show(a.natAbs:Int) = -a by omega,show(b.natAbs:Int)=b by omega]at h';grind) ω ω;exact⟨this.1.symm,this.2.symm⟩
 .have:=vI (a:=a) (b:=b) (q:=-(q:Int)-1) (r:=(r:Int)+b) hb0 (by rw[show(a.natAbs:Int)=a by omega,show(b.natAbs:Int) = -b by omega]at h';grind) ω ω;exact⟨this.1.symm,this.2.symm⟩
theorem nY{m n u v:Nat}(h:Nat.gcd u v=m)(hn:n=u%v):Nat.gcd v n=m:=by
 subst hn;rw[<-h,Nat.gcd_comm v,<-Nat.gcd_rec,Nat.gcd_comm]
theorem Jc{a:Int}{n:Nat}(h:0<=a):a.fdiv (n:Int)=((a.natAbs/n:Nat):Int):=by
 obtain⟨m,rfl⟩:=Int.eq_ofNat_of_zero_le h;simp[Lr]
theorem uM{a x y:Nat}(hx:0<x)(hy:y=(x+a/x)/2):a<(y+1)*(y+1):=by
 have h1:a<x*(a/x+1):=Nat.lt_mul_div_succ a hx;generalize a/x=q at *;have h2:x+q+1<=2*(y+1):=ω
 have h3:(x+q+1)*(x+q+1)<=(2*(y+1))*(2*(y+1)):=Eb h2 h2;rcases Nat.le_total x (q+1)with h|h
 .obtain⟨d,hd⟩:∃d,q+1=x+d:=⟨q+1-x,ω⟩
  rw[show x+q+1=x+(q+1) by omega,hd]at h3;rw[hd]at h1;have h4:0<=d*d:=lN _
  grind
 .obtain⟨d,hd⟩:∃d,x=q+1+d:=⟨x-(q+1),ω⟩
  subst hd;have h4:0<=d*d:=lN _
  grind
theorem AY{a x y:Nat}(hx:0<x)(hy:y=(x+a/x)/2)(h:x<=y):x*x<=a:=by
 have h1:x*(a/x)<=a:=Nat.mul_div_le a x;have h2:x<=a/x:=ω
 have h3:=wH x h2;omega
theorem Ba{a x y:Nat}(ha:0<a)(hx:0<x)(hy:y=(x+a/x)/2):0<y:=by
 rcases rG y with h|h
 .have h1:=uM hx hy;rw[h]at h1;have h2:a=0:=ω
  omega
 .exact h
theorem CU{n:Nat}(h:sz (n:Int)<=2):n<1000000000000000000:=by
 unfold sz at h;rw[AP]at h;have:=lW h;omega
theorem Ar(k:Nat):bH false (val (List.replicate k 0++[1]))=((1000000000^k:Nat):Int):=by
 show((val _:Nat):Int)=_;rw[val_append,pF];simp[val]
theorem AZ(n:Nat):n<(1000000000^(((lim n).length+1)/2)+1)*(1000000000^(((lim n).length+1)/2)+1):=by
 have h1:=rU n;have h2:1000000000^(lim n).length<=1000000000^(((lim n).length+1)/2+((lim n).length+1)/2):=xM ω ω;rw[Nat.pow_add]at h2;generalize 1000000000^(((lim n).length+1)/2)=p at *;have h3:p*p<=(p+1)*(p+1):=Eb ω ω;omega
theorem Ah{n x0:Nat}(h:x0=1000000000^(((lim n).length+1)/2))(hl:(lim n).length<=100000000):0<x0/\n<(x0+1)*(x0+1)/\sz (x0:Int)<=200000000:=by
 refine⟨by rw[h];exact Nat.pow_pos ω,by rw[h];exact AZ n, ?_⟩;unfold sz;rw[AP];have:=iP (n:=x0) (k:=((lim n).length+1)/2+1) (by rw[h];exact Nat.pow_lt_pow_right ω ω);omega
theorem Ht(x q:Nat):(((x:Nat):Int)+((q:Nat):Int)).fdiv 2=(((x+q)/2:Nat):Int):=by
 rw[<-Int.natCast_add,Lr _ ω];rfl
open Go Go.RowKit
theorem aW{b:Bool}(h:(!b)=true):¬ b=true:=by cases b<;>simp_all
theorem aX{b:Bool}(h:(!b)=false):¬ ¬ b=true:=by cases b<;>simp_all
section
variable {P:Program} {Q:Exit->Act->World->Prop} {a:Act} {w:World} {K:Act->World->Prop} {N:Nat} {L:List (Nat × Value)} {w0:World} {S:List Bx} {X:List Nat}
variable {ty:TypeId} {pos:String} {af:Array Edge} {gd:Option (Nat × Bool)}
end
section
variable {P:Program} {ρ:Operand->Value} {w:World} {d:Option Tmp} {ty:TypeId} {pos:String} {af:Array Edge} {gd:Option (Nat × Bool)}
theorem aip{t e:TypeId}{s:Nat}{x y:Operand}{A:Option Addr}{ad:Addr}{n c:Nat}{k:IntKind}{i:Int}{j:Nat}(ht:sliceOf P t=some (e,s))(hx:ρ x=.slice A n c)(hA:A=some ad)(hy:ρ y=.int k i)(hi:i=(j:Nat))(h1:j<n):
 (execOp ρ ⟨d,.indexAddr t x y,ty,pos,af,gd⟩).run P w=.ok (.value (.pointer (some (ad.add (j*s))))) w:=by
 subst hA hi;have:=abg (w:=w) (d:=d) (ty:=ty) (pos:=pos) (af:=af) (gd:=gd) ht hx hy ω ω;simpa using this
end
def qw:List (Act->World->Prop)->Nat->Act->World->Prop
 |[],_=>λ_ _=>False
 |φ::_,0=>φ
 |_::r,s+1=>qw r s
def AllN(f:Nat->Prop):List Nat->Prop
 |[]=>True
 |s::r=>f s/\AllN f r
theorem AllN.at_{f:Nat->Prop}:∀{T:List Nat},AllN f T->∀{s:Nat},s∈T->f s
 |[],_,s,h=>by cases h
 |t::r,k,s,h=>by
  rcases mQ.1 h with rfl|h
  .exact k.1
  .exact AllN.at_ k.2 h
def AllP(f:(Act->World->Prop)->Prop):List (Act->World->Prop)->Prop
 |[]=>True
 |φ::r=>f φ/\AllP f r
theorem AllP.at_{f:(Act->World->Prop)->Prop}:∀{Ls:List (Act->World->Prop)},AllP f Ls->∀{s:Nat} {a:Act} {w:World},qw Ls s a w->f (qw Ls s)
 |[],_,s,a,w,h=>h.elim
 |φ::r,k,0,a,w,h=>k.1
 |φ::r,k,s+1,a,w,h=>AllP.at_ k.2 (s:=s) h
theorem wO:∀{Ls:List (Act->World->Prop)} {s:Nat} {a:Act} {w:World},qw Ls s a w->s<Ls.length
 |[],s,a,w,h=>h.elim
 |φ::r,0,a,w,h=>by simp
 |φ::r,s+1,a,w,h=>by have:=wO (Ls:=r) (s:=s) h;simp;omega
def canRun(l:List Oper)(acts done:List Nat)(i:Nat):Bool :=
 match l[i]? with
 |some o=>(acts.all λj=>!((pre o).elem j)||done.elem j)&&(acts.all λj=>match l[j]? with|some o'=>!((pre o').elem i) || !(done.elem j)|none=>true)
 |none=>false
def NR(l:List Oper)(acts:List Nat)(As:List (List Nat))(T:List (List Nat)):Bool :=
 (List.range l.length).all λi=>(List.range As.length).all λs=>!(canRun l acts (As.getD s []) i) ||(acts.elem i&&(As.getD s []).elem i) ||(T.getD i []).elem s
theorem Before.can{l:List Oper}{C:List (Option Value)}{acts done:List Nat}{i:Nat}{o:Oper}{a:Act}(h:Before l C acts done i o a)(ho:l[i]?=some o):canRun l acts done i=true:=by
 unfold canRun;rw[ho];simp only[bG,gQ,zx,qJ];refine⟨λj hj=>?_,λj hj=>?_⟩
 .cases hp:(pre o).elem j with
  |false=>left;rfl
  |true=>right;exact h.have_ j (by simpa using hj) hp
 .cases ho':l[j]? with
  |none=>rfl
  |some o' =>
   simp only[zx,qJ];cases hp:(pre o').elem i with
   |false=>left;rfl
   |true=>right;exact h.not_ j (by simpa using hj) o' ho' hp
theorem OpsOk.mono{f g:Nat->Oper->Prop}:∀{r:List Oper} {k:Nat},(∀i o,r[i]?=some o->f (k+i) o->g (k+i) o)->OpsOk f k r->OpsOk g k r
 |[],_,_,_=>trivial
 |o::r,k,h,hk=>⟨h 0 o rfl hk.1,OpsOk.mono (λi o' ho' hf=>by
  have:=h (i+1) o' (by simpa using ho');rw[show k+(i+1)=k+1+i by omega]at this
  exact this hf) hk.2⟩
section
variable {P:Program} {Q:Exit->Act->World->Prop} {l:List Oper}
theorem wQ{id N:Nat}{a:Act}{w:World}{L0:List (Nat×Value)}(C:List (Option Value))(acts:List Nat)(As:List (List Nat))(T:List (List Nat))(full:Nat)(Ls:List (Act->World->Prop))(hm:P.follows .mixedOrders=true)(hac:afY l=true)(hsl:qI N l L0=true)
 (hacts:acts.all (λi=>Nat.blt i l.length)=true) (hT:NR l acts As T=true) (hlen:Nat.beq Ls.length As.length=true)
 (hfull:(List.range As.length).all (λs=>!(acts.all λi=>(As.getD s []).elem i)||Nat.beq s full)=true) (hF:Frm N a L0) (hA0:(acts.all λi=>!((As.getD 0 []).elem i))=true) (h0:qw Ls 0 a w.drew)
 (hput:AllP (λφ=>∀a w i o d v,l[i]?=some o->o.dst=some d->acts.elem i=false->φ a w->φ (a.put (some d) v) w) Ls)
 (hops:OpsOk (λi o =>
  (acts.elem i=false/\∃d v,o.dst=some d/\C[i]?=some (some v)/\∀s a w,qw Ls s a w->Frm N a L0->Before l C acts (As.getD s []) i o a->∀K:Act->World->Prop,K (a.put (some d) v) w->wpOp P l.toArray Q i K a w) \/
  (acts.elem i=false/\∃d v,o.dst=some d/\C[i]?=some (some v)/\AllN (λs=>∀a w,qw Ls s a w->Frm N a L0->Before l C acts (As.getD s []) i o a->∀K:Act->World->Prop,K (a.put (some d) v) w->wpOp P l.toArray Q i K a w) (T.getD i [])) \/
  (acts.elem i=true/\AllN (λs=>∀a w,qw Ls s a w->Frm N a L0->Before l C acts (As.getD s []) i o a ->
   wpOp P l.toArray Q i (λa' w'=>∃s',(acts.all λj=>(As.getD s' []).elem j ==(Nat.beq j i ||(As.getD s []).elem j))=true/\qw Ls s' a' w'/\∃v,a'=a.put o.dst v/\∀u,C[i]?=some (some u)->v=u) a w) (T.getD i []))) 0 l)
 (hend:∀a w,qw Ls full a w->Frm N a L0->(∀(i:Nat) (o:Oper) (d:Nat) (v:Value),l[i]?=some o->o.dst=some d->C[i]?=some (some v)->a.tmps.getD d undef=v)->Q .normal a w):(Code.region id l.toArray true).wp P Q a w:=by
 have hlen':Ls.length=As.length:=iO hlen
 have hin:∀{i:Nat} {o:Oper} {s:Nat} {a:Act} {w:World},l[i]?=some o->qw Ls s a w->Before l C acts (As.getD s []) i o a->(acts.elem i&&(As.getD s []).elem i)=false->s∈T.getD i []:=by
  intro i o s a w ho hs hb hd;have hi:i<l.length:=(iy.1 ho).1;have hslt:s<As.length:=by rw[<-hlen'];exact wO hs
  have h1:=gQ.1 (gQ.1 hT i (by simpa using hi)) s (by simpa using hslt);rw[hb.can ho,hd]at h1;simpa using h1
 refine drawn C acts (λs=>As.getD s []) (qw Ls) hm hac hsl hacts hF ⟨hA0,h0⟩ (λs a w i o d v ho hd hna hΦ=>(hput.at_ hΦ) a w i o d v ho hd hna hΦ) ?_ ?_
 .refine OpsOk.mono (λi o ho hk=>?_) hops;rw[nU]at hk ⊢;rcases hk with h|⟨h1,d,v,h2,h3,h4⟩|⟨h1,h2⟩
  .exact .inl h
  .refine .inl ⟨h1,d,v,h2,h3,λs a w hs hF hb=>?_⟩;exact h4.at_ (hin ho hs hb (by rw[h1];rfl)) a w hs hF hb
  .refine .inr ⟨h1,λs a w hs hF hb hd=>?_⟩;exact h2.at_ (hin ho hs hb (by rw[hd];simp)) a w hs hF hb
 .intro s a w hall hs hF hC;have hslt:s<As.length:=by rw[<-hlen'];exact wO hs
  have h1:=gQ.1 hfull s (by simpa using hslt);rw[hall]at h1;have:s=full:=by simpa using h1
  subst this;exact hend a w hs hF hC
end
end Go.Sw
namespace Go.Sw
theorem oM{a:Int}:fD a=0↔a=0:=by unfold fD;split<;>(try split)<;>omega
open Go Go.RowKit
section
variable {P:Program} {ρ:Operand->Value} {w:World} {d:Option Tmp} {ty:TypeId} {pos:String} {af:Array Edge} {gd:Option (Nat × Bool)}
def bt(s:ByteArray)(i:Nat):Nat:=(s.data.getD i 0).toNat
end
end Go.Sw
namespace Go.Sw
theorem QM{x y:Int}{n:Nat}(hx:sz x<=n)(hy:sz y<=n):sz ((Nat.gcd x.natAbs y.natAbs:Nat):Int)<=n:=by
 rcases rG x.natAbs with h|h
 .rw[h,Nat.gcd_zero_left];exact aU (iY (by rw[AP];exact gW _)) hy
 .exact aU (iY (by rw[AP];exact Nat.gcd_le_left _ h)) hx
open Go Go.RowKit
section
variable {P:Program} {Q:Exit->Act->World->Prop} {a:Act} {w:World} {K:Act->World->Prop} {N:Nat} {L:List (Nat × Value)} {w0:World} {S:List Bx} {X:List Nat}
variable {ty:TypeId} {pos:String} {af:Array Edge} {gd:Option (Nat × Bool)}
end
section
variable {P:Program} {O:Array Oper} {N:Nat} {w:World} {ops rest r:List Oper} {L L':List (Nat × Value)} {Q:Exit->Act->World->Prop} {a:Act}
variable {d:Nat} {v:Value} {ty:TypeId} {pos:String} {af:Array Edge} {op:Op}
def PR(P:Program)(O:Array Oper)(N:Nat)(w:World)(ops:List Oper)(L:List (Nat×Value))(rest:List Oper)(L':List (Nat×Value)):Prop :=
 ∀(Q:Exit->Act->World->Prop) (a:Act),Frm N a L->(∀a',Frm N a' L'->wpList P O Q rest a' w)->wpList P O Q ops a w
theorem pr(hF:Frm N a L)(h:PR P O N w ops L rest L')(k:∀a',Frm N a' L'->wpList P O Q rest a' w):wpList P O Q ops a w:=h Q a hF k
theorem PR.nil:PR P O N w ops L ops L:=λ_ a hF k=>k a hF
theorem pg(hr:∀a,Frm N a L->(execOp a.eval ⟨some d,op,ty,pos,af,none⟩).run P w=.ok (.value v) w)(k:PR P O N w rest ((d,v)::L) r L')(hlt:Nat.blt d N=true:=by rfl):PR P O N w (⟨some d,op,ty,pos,af,none⟩::rest) L r L' :=
 λQ a hF kk=>P8 hF rfl rfl hlt (hr a hF) λa' hF'=>k Q a' hF' kk
theorem YM{j:Nat}{b:Bool}(hr:∀a,Frm N a L->(execOp a.eval ⟨some d,op,ty,pos,af,some (j,b)⟩).run P w=.ok (.value v) w)(k:PR P O N w rest ((d,v)::L) r L')(hs:said O L j=some b:=by rfl)(hlt:Nat.blt d N=true:=by rfl):PR P O N w (⟨some d,op,ty,pos,af,some (j,b)⟩::rest) L r L' :=
 λQ a hF kk=>Oy hF rfl hs rfl hlt (hr a hF) λa' hF'=>k Q a' hF' kk
theorem pm{x:Operand}(hx:ev L x=some v)(k:PR P O N w rest ((d,v)::L) r L')(hlt:Nat.blt d N=true:=by rfl):PR P O N w (⟨some d,.move x,ty,pos,af,none⟩::rest) L r L' :=
 pg (λa hF=>aaw (hF.ev hx)) k hlt
theorem pa{x:Operand}(hx:ev L x=some v)(k:PR P O N w rest ((d,v)::L) r L')(hlt:Nat.blt d N=true:=by rfl):PR P O N w (⟨some d,.assign x,ty,pos,af,none⟩::rest) L r L' :=
 pg (λa hF=>abM (hF.ev hx)) k hlt
theorem px{x:Operand}{vs:Array Value}{i:Nat}(hx:ev L x=some (.tuple vs))(hv:vs[i]?=some v)(k:PR P O N w rest ((d,v)::L) r L')(hlt:Nat.blt d N=true:=by rfl):PR P O N w (⟨some d,.extract x i,ty,pos,af,none⟩::rest) L r L' :=
 pg (λa hF=>adK (hF.ev hx) hv) k hlt
theorem Y5{j:Nat}{b c:Bool}(hs:said O L j=some c)(hne:(c == b)=false)(k:PR P O N w rest ((d,undef)::L) r L')(hlt:Nat.blt d N=true:=by rfl):PR P O N w (⟨some d,op,ty,pos,af,some (j,b)⟩::rest) L r L' :=
 λQ a hF kk=>Ox hF rfl rfl hlt hs hne λa' hF'=>k Q a' hF' kk
end
theorem UC.go{w w':World}{X X':List Nat}{A:Option Addr}{c:Nat}{l:List Nat}(h:UC w X A c l)(e:Ext w X w' X':=by repeat(first|assumption|exact Ext.refl _ _|refine Ext.trans ξ ?_)):UC w' X' A c l:=h.ext e
theorem Ext.go{w w':World}{X X':List Nat}(e:Ext w X w' X':=by repeat(first|assumption|exact Ext.refl _ _|refine Ext.trans ξ ?_)):Ext w X w' X':=e
theorem eH{a:Int}(h1 : -9223372036854775808<=a:=by omega)(h2:a<=9223372036854775807:=by omega):IntKind.i64.wrap a=a:=aT h1 h2
theorem iG{a:Int}(h1:0<=a:=by omega)(h2:a<=18446744073709551615:=by omega):IntKind.u64.wrap a=a:=wu64 h1 h2
theorem xk{a:Int}(h1:0<=a:=by omega)(h2:a<=4294967295:=by omega):IntKind.u32.wrap a=a:=bW h1 h2
def OX:List (Nat×Value)->List (Nat×Value)->Prop
 |[],_=>True
 |(t,v)::r,L=>lk t L=some v/\OX r L
theorem Frm.all{N:Nat}{a:Act}{L:List (Nat×Value)}(hF:Frm N a L):∀{L':List (Nat×Value)},OX L' L->Frm N a L'
 |[],_=>hF.nil
 |(t,v)::r,h=>hF.take (hF.all h.2) h.1
def JX(d:Option Tmp)(v:Value)(L:List (Nat×Value)):List (Nat×Value):=match d with|some d=>(d,v)::L|none=>L
def Oc(l:List Oper)(acts:List Nat)(C:List (Nat×Value))(i:Nat)(a:Act):Prop :=
 ∀o,l[i]?=some o->∀j o' d v,(pre o).elem j=true->acts.elem j=false->l[j]?=some o'->o'.dst=some d->lk j C=some v->a.tmps.getD d undef=v
section
variable (P:Program) (Q:Exit->Act->World->Prop) (l:List Oper) (N:Nat) (acts:List Nat) (L0:List (Nat × Value))
def vY(C:List (Nat×Value))(L:List (Nat×Value))(w:World)(i:Nat):Prop :=
 ∃o d v,l[i]?=some o/\o.dst=some d/\lk i C=some v/\∀a,Frm N a L0->Frm N a L->Oc l acts C i a->∀K:Act->World->Prop,K (a.put (some d) v) w->wpOp P l.toArray Q i K a w
def EZ(C0:List (Nat×Value))(i:Nat):Prop :=
 ∃o d v,l[i]?=some o/\o.dst=some d/\lk i C0=some v/\∀a w,Frm N a L0->Oc l acts C0 i a->∀K:Act->World->Prop,K (a.put (some d) v) w->wpOp P l.toArray Q i K a w
def Stage:List Nat->List (List Nat)->List (Nat×Value)->List (Nat×Value)->World->Prop
 |[],T,C,L,w=>AllN (vY P Q l N acts L0 C L w) (T.headD [])/\∀a,Frm N a L0->Frm N a L->(∀(i:Nat) (o:Oper) (d:Nat) (v:Value),acts.elem i=false->l[i]?=some o->o.dst=some d->lk i C=some v->a.tmps.getD d undef=v)->Q .normal a w
 |i::r,T,C,L,w=>AllN (vY P Q l N acts L0 C L w) (T.headD [])/\∃o,l[i]?=some o/\∀a,Frm N a L0->Frm N a L->Oc l acts C i a ->
  wpOp P l.toArray Q i (λa' w'=>∃v C',a'=a.put o.dst v/\(∀j u,lk j C=some u->lk j C'=some u)/\Stage r T.tail C' (JX o.dst v L) w') a w
end
def reach(l:List Oper):Nat->Nat->Nat->Bool
 |0,_,_=>false
 |n+1,i,j=>match l[i]? with
  |some o=>(pre o).any λk=>Nat.beq k j||reach l n k j
  |none=>false
theorem mM{l:List Oper}{ls:Nat->Bool}(hcl:∀(j:Nat) (o:Oper),l[j]?=some o->ls j=true->∀k∈pre o,ls k=true):∀(n:Nat) {i j:Nat} {o:Oper},l[i]?=some o->(∀k∈pre o,ls k=true)->reach l n i j=true->ls j=true
 |0,_,_,_,_,_,h=>by cases h
 |n+1,i,j,o,ho,hp,h=>by
  unfold reach at h;rw[ho]at h;obtain⟨k,hk,h1⟩:=KF.1 h;have hk':=hp k hk;rcases zx _ _▸h1 with h1|h1
  .rw[<-iO h1];exact hk'
  .cases ho':l[k]? with
   |none=>cases n with
    |zero=>cases h1
    |succ n=>unfold reach at h1;rw[ho']at h1;cases h1
   |some o'=>exact mM hcl n ho' (hcl k o' ho' hk') h1
def qY(l:List Oper)(acts done:List Nat)(i:Nat):Bool :=
 (acts.all λj=>!(reach l l.length i j)||done.elem j)&&(acts.all λj=>!(reach l l.length j i) || !(done.elem j))
def MJ(l:List Oper)(acts Pf:List Nat)(T:List (List Nat)):Bool :=
 (List.range (acts.length+1)).all λs =>
  (acts.all λi=>!(qY l acts (acts.take s) i) ||(acts.take s).elem i||decide (acts[s]?=some i)) &&
  ((List.range l.length).all λi=>acts.elem i||Pf.elem i || !(qY l acts (acts.take s) i) ||(T.getD s []).elem i) &&
  (decide (acts.length<=s) ||(!(acts.all λi=>(acts.take s).elem i)&&acts.all λj=>(acts.take (s+1)).elem j ==(Nat.beq j (acts.getD s 0) ||(acts.take s).elem j)))
theorem gG{N:Nat}{l:List Oper}{L0:List (Nat×Value)}(hsl:qI N l L0=true)(i:Nat)(o:Oper)(d:Nat)(ho:l[i]?=some o)(hd:o.dst=some d):d<N/\(lk d L0).isNone=true/\∀(j:Nat) (o':Oper) (e:Nat),l[j]?=some o'->o'.dst=some e->j≠i->d≠e:=by
 have hi:i<l.length:=(iy.1 ho).1;have h1:=gQ.1 hsl i (by simpa using hi);simp only[ho,Ef,hd,bG]at h1;refine⟨by simpa[xu]using h1.1.1,h1.1.2,λj o' e ho' hd' hne=>?_⟩;have hj:j<l.length:=(iy.1 ho').1;have:=gQ.1 h1.2 j (by simpa using hj);rw[aaL (λe=>hne e.symm)]at this;simp only[ho',Ef,hd',KA]at this;intro e;subst e;simp at this
theorem Stage.floats{P:Program}{Q:Exit->Act->World->Prop}{l:List Oper}{N:Nat}{acts:List Nat}{L0:List (Nat×Value)}{todo:List Nat}{T:List (List Nat)}{C L:List (Nat×Value)}{w:World}(h:Stage P Q l N acts L0 todo T C L w):AllN (vY P Q l N acts L0 C L w) (T.headD []):=by
 cases todo with
 |nil=>exact h.1
 |cons i r=>exact h.1
theorem Ak(T:List (List Nat))(s:Nat):(T.drop s).headD []=T.getD s []:=by
 rw[List.headD_eq_head?_getD,List.head?_drop,jH]
theorem yG{P:Program}{Q:Exit->Act->World->Prop}{l:List Oper}{id N:Nat}{a:Act}{w:World}{L0 L1:List (Nat×Value)}(acts Pf:List Nat)(T:List (List Nat))(C0:List (Nat×Value))(hm:P.follows .mixedOrders=true)(hac:afY l=true)(hsl:qI N l L0=true)
 (hch:MJ l acts Pf T=true) (hal:acts.all (λi=>Nat.blt i l.length)=true) (hfr:JD l acts L1=true) (hF:Frm N a L0) (hF1:Frm N a L1)
 (hpf:AllN (EZ P Q l N acts L0 C0) Pf) (h:Stage P Q l N acts L0 acts T C0 L1 w.drew):(Code.region id l.toArray true).wp P Q a w:=by
 have hchk:∀s,s<=acts.length->_:=λs hs=>gQ.1 hch s (by simpa using(show s<acts.length+1 by omega))
 refine adt hm hac (λls a w=>Frm N a L0/\(∀(j:Nat) (o:Oper),l[j]?=some o->ls j=true->∀k∈pre o,ls k=true)/\∃s C L,s<=acts.length/\(∀j u,lk j C0=some u->lk j C=some u)/\(∀i∈acts,ls i=(acts.take s).elem i)/\Frm N a L/\(∀i o d,l[i]?=some o->o.dst=some d->acts.elem i=false->(lk d L).isNone=true) /\
  (∀i o d,l[i]?=some o->o.dst=some d->acts.elem i=false->ls i=true->∃v,lk i C=some v/\a.tmps.getD d undef=v)/\Stage P Q l N acts L0 (acts.drop s) (T.drop s) C L w) ?_ ?_ ?_
 .exact⟨hF,λ_ _ _ hq=>absurd hq η,0,C0,L1,lN _,λ_ _ h=>h,λi hi=>by simp,hF1,λi o d ho hd hna=>jy hfr ho hd hna,λ_ _ _ _ _ _ hq=>absurd hq η,by simpa using h⟩
 .rintro ls a w i o ⟨hF0,hcl,s,C,L,hs,hC0,hls,hFL,hfl,hC,hst⟩ ho hi hpre
  have hpre':∀k∈pre o,ls k=true:=λk hk=>by
   obtain⟨e,he,hb,rfl⟩:=BX.1 hk;exact hpre e he hb
  have hil:i<l.length:=(iy.1 ho).1
  have hcan:qY l acts (acts.take s) i=true:=by
   unfold qY;simp only[bG,gQ,zx,qJ];refine⟨λj hj=>?_,λj hj=>?_⟩
   .cases hp:reach l l.length i j with
    |false=>left;rfl
    |true=>right;rw[<-hls j hj];exact mM hcl _ ho hpre' hp
   .cases hp:reach l l.length j i with
    |false=>left;rfl
    |true =>
     right;rw[<-hls j hj];cases hl:ls j with
     |false=>rfl
     |true =>
      cases ho':l[j]? with
      |none=>exact absurd hp (by cases l with|nil=>simp at ho|cons x r=>simp only[dK,reach,ho'];simp)
      |some o'=>have:=mM hcl _ ho' (hcl j o' ho' hl) hp;rw[hi]at this;cases this
  have hbef:Oc l acts C i a:=by
   intro o1 ho1 j o' d v hp hna ho' hd' hv;rw[ho]at ho1;cases ho1;obtain⟨u,hu,hg⟩:=hC j o' d ho' hd' hna (hpre' j (by simpa using hp));rw[hv]at hu;cases hu;exact hg
  have hcl':∀(j:Nat) (o':Oper),l[j]?=some o'->(Nat.beq j i||ls j)=true->∀k∈pre o',(Nat.beq k i||ls k)=true:=by
   intro j o' ho' hl k hk
   by_cases hji:j=i
   .subst hji;rw[ho]at ho';cases ho';simp[hpre' k hk]
   .rw[aaL hji]at hl;simp[hcl j o' ho' (by simpa using hl) k hk]
  have hFput:∀v,Frm N (a.put o.dst v) L0:=by
   intro v;cases hd:o.dst with
   |none=>exact hF0
   |some e=>exact hF0.put_other v (gG hsl i o e ho hd).2.1
  have h1:=hchk s hs;simp only[bG]at h1;cases hact:acts.elem i with
  |false =>
   have h2:=gQ.1 h1.1.2 i (by simpa using hil);rw[hact,hcan]at h2;simp only[KA,Bool.not_true,Bool.or_false,zx]at h2
   obtain⟨d,v,hd,hv,hrun⟩:∃d v,o.dst=some d/\lk i C=some v/\∀K:Act->World->Prop,K (a.put (some d) v) w->wpOp P l.toArray Q i K a w:=by
    rcases h2 with h2|h2
    .obtain⟨o',d,v,ho',hd,hv,hrun⟩:=hpf.at_ (s:=i) (by simpa using h2);rw[ho]at ho';cases ho';exact⟨d,v,hd,hC0 _ _ hv,hrun a w hF0 (λo1 ho1 j o' d' v' hp hna ho' hd' hv'=>hbef o1 ho1 j o' d' v' hp hna ho' hd' (hC0 _ _ hv'))⟩
    .obtain⟨o',d,v,ho',hd,hv,hrun⟩:=hst.floats.at_ (s:=i) (by rw[Ak];simpa using h2);rw[ho]at ho';cases ho';exact⟨d,v,hd,hv,hrun a hF0 hFL hbef⟩
   refine hrun _ ?_;have h3:=hFput v;rw[hd]at h3;refine⟨h3,hcl',s,C,L,hs,hC0,λj hj=>?_,hFL.put_other v (hfl i o d ho hd hact),hfl,λj o' d' ho' hd' hna hl=>?_,hst⟩
   .have hji:j≠i:=λe=>by subst e;simp at hact;exact hact hj
    show(Nat.beq j i||ls j)=_;rw[aaL hji];exact hls j hj
   .by_cases hji:j=i
    .subst hji;rw[ho]at ho';cases ho';rw[hd]at hd';cases hd';exact⟨v,hv,aaE v hF0.size (gG hsl j o d ho hd).1⟩
    .replace hl:(Nat.beq j i||ls j)=true:=hl;rw[aaL hji]at hl;obtain⟨u,hu,hg⟩:=hC j o' d' ho' hd' hna (by simpa using hl);exact⟨u,hu,by rw[aau v ((gG hsl i o d ho hd).2.2 j o' d' ho' hd' hji)];exact hg⟩
  |true =>
   have hmem:i∈acts:=by simpa using hact
   have hnd:(acts.take s).elem i=false:=by rw[<-hls i hmem];exact hi
   have h2:=gQ.1 h1.1.1 i hmem;rw[hcan,hnd]at h2;have h3:acts[s]?=some i:=by simpa using h2
   have hlt:s<acts.length:=(iy.1 h3).1;have hgi:acts[s]=i:=(iy.1 h3).2;rw[List.drop_eq_getElem_cons hlt,hgi]at hst;obtain⟨_,o',ho',hrun⟩:=hst;rw[ho]at ho';cases ho';refine wpOp_mono (λa' w' hk=>?_) (hrun a hF0 hFL hbef);obtain⟨v,C',rfl,hext,hst'⟩:=hk;have h4:=h1.2;simp only[zx,bG,decide_eq_true_eq]at h4;have h5:=(h4.resolve_left ω).2;have hgd:acts.getD s 0=i:=by simp[List.getD,h3]
   rw[hgd]at h5;refine⟨hFput v,hcl',s+1,C',JX o.dst v L,ω,λj u hu=>hext j u (hC0 j u hu),λj hj=>?_, ?_, ?_,λj o' d' ho' hd' hna hl=>?_, ?_⟩
   .have:=gQ.1 h5 j hj;rw[beq_iff_eq]at this;show(Nat.beq j i||ls j)=_;rw[this,hls j hj]
   .cases hd:o.dst with
    |none=>exact hFL
    |some d=>exact hFL.put (gG hsl i o d ho hd).1 v
   .intro i' o' d' ho' hd' hna;have h6:=hfl i' o' d' ho' hd' hna;cases hd:o.dst with
    |none=>exact h6
    |some d =>
     have hne:d≠d':=(gG hsl i o d ho hd).2.2 i' o' d' ho' hd' (λe=>by subst e;rw[hact]at hna;cases hna);simp only[JX,lk,aaL hne];exact h6
   .have hji:j≠i:=λe=>by subst e;rw[hact]at hna;cases hna
    replace hl:(Nat.beq j i||ls j)=true:=hl;rw[aaL hji]at hl;obtain⟨u,hu,hg⟩:=hC j o' d' ho' hd' hna (by simpa using hl);refine⟨u,hext j u hu, ?_⟩;cases hd:o.dst with
    |none=>exact hg
    |some d =>
     rw[aau v ((gG hsl i o d ho hd).2.2 j o' d' ho' hd' hji)];exact hg
   .rw[show T.drop (s+1)=(T.drop s).tail from List.tail_drop.symm];exact hst'
 .rintro ls a w ⟨hF0,hcl,s,C,L,hs,hC0,hls,hFL,hfl,hC,hst⟩ hall;have h1:=hchk s hs;simp only[bG]at h1;have h4:=h1.2;simp only[zx,bG,decide_eq_true_eq]at h4
  have hallA:(acts.all λi=>(acts.take s).elem i)=true:=gQ.2 λi hi=>by
   rw[<-hls i hi];exact hall i (by simpa[xu]using gQ.1 hal i hi)
  rcases h4 with h4|h4
  .rw[Qb h4]at hst;refine hst.2 a hF0 hFL (λi o d v hna ho hd hv=>?_);obtain⟨u,hu,hg⟩:=hC i o d ho hd hna (hall i (iy.1 ho).1);rw[hv]at hu;cases hu;exact hg
  .rw[hallA]at h4;simp at h4
inductive Cell where
 |v (u:Value)
 |sl (s:Nat) (es:List (List Cell))
 |p (cs:List Cell)
 |fn (f:FuncId) (cs:List Cell)
 |ob (b n:Nat)
structure Gho where
 rep:World->List Nat->List Value->List Bx->Nat×Array MapEntry×Nat->Prop
 ext:∀{w:World} {X:List Nat} {w':World} {X':List Nat} {us:List Value} {more:List Bx} {mo:Nat×Array MapEntry×Nat},rep w X us more mo->Ext w X w' X'->rep w' X' us more mo
inductive AV where
 |c (x:Cell)
 |agg (cs:List Cell)
 |tup (vs:List AV)
 |ptr (b o:Nat)
 |pe (b n i o:Nat)
 |rd (cs:List Cell)
 |gs (b n:Nat)
 |own (T:TypeId) (s:Nat) (es:List (List Cell))
 |gp (g o:Nat)
 |gh (G:Gho)
 |ago (cs:List Cell)
 |bad
 |any
inductive Bk where
 |var (cs:List Cell)
 |grow (T:TypeId) (s:Nat) (es:List (List Cell))
 |froz (s:Nat) (es:List (List Cell))
 |varo (cs:List Cell)
 |fvar (cs:List Cell)
 |gh (G:Gho)
 |dead
inductive TI where
 |int (k:IntKind)
 |bool
 |str
 |row (n:Nat) (fs:List (Nat×Nat×Bool)) (z:List Cell)
 |slice (e:TypeId) (s:Nat) (by_:Nat) (z:List Cell)
 |arr (n s:Nat) (one:Bool) (z:List Cell)
 |flat (ks:List Nat) (z:List Cell)
 |glob (k:Nat) (cs:List Cell)
 |flag
abbrev Env:=List (Nat×AV)
abbrev Bxs:=List (Nat×Bk)
abbrev Tab:=List (TypeId×TI)
def ld{α:Type}(t:Nat):List (Nat×α)->Option α
 |[]=>none
 |(s,v)::r=>cond (Nat.beq s t) (some v) (ld t r)
def up{α:Type}(t:Nat)(x:α):List (Nat×α)->List (Nat×α)
 |[]=>[(t,x)]
 |(s,v)::r=>cond (Nat.beq s t) ((s,x)::r) ((s,v)::up t x r)
def ups{α:Type}:List (Nat×α)->List (Nat×α)->List (Nat×α)
 |[],l=>l
 |(t,x)::r,l=>ups r (up t x l)
@[reducible] def AV.int(k:IntKind)(n:Int):AV:=.c (.v (.int k n))
@[reducible] def AV.bool(b:Bool):AV:=.c (.v (.bool b))
def cv:Value->AV
 |.agg _ => .any
 |.tuple _ => .any
 |v => .c (.v v)
def ae(e:Env):Operand->Option AV
 |.tmp t=>ld t e
 |.const v=>some (cv v)
 |.func f=>some (.c (.v (.func (.func f) #[] #[])))
 |.global g=>some (.gp g 0)
@[reducible] def GK:Nat:=1000000000
@[reducible] def OK:Nat:=2000000000
@[reducible] def WK:Nat:=3000000000
structure OnB (b:Bool) (k:Bool->Prop):Prop where
 t:b=true->k true
 f:b=false->k false
theorem zat:type_of% @OnB.mk:=@OnB.mk
structure Obl (p:Prop) (k:Prop):Prop where
 p:p
 k:k
inductive Elem (es:List (List Cell)) (i:Int) (k:List Cell->Prop):Prop where
 |mk (j:Nat) (e:List Cell) (hi:i=(j:Nat)) (he:es[j]?=some e) (hk:k e)
inductive MkS (l c:Int) (by_:Nat) (k:Nat->Prop):Prop where
 |mk (n m:Nat) (hl:l=(n:Nat)) (hc:c=(m:Nat)) (h:n<=m) (hb:m*(by_+1)<=140737488355328) (hk:k n)
inductive SlP (n:Nat) (lo hi mx:Option Int) (k:Nat->Nat->Prop):Prop where
 |mk (a b m:Nat) (hlo:lo.getD 0=(a:Nat)) (hhi:hi.getD n=(b:Nat)) (hmx:mx.getD n=(m:Nat)) (h1:a<=b) (h2:b<=m) (h3:m<=n) (hm:mx.isSome=true->hi.isSome=true) (hk:k a b)
inductive StrAt (s:ByteArray) (i:Int) (k:Int->Prop):Prop where
 |mk (j:Nat) (hi:i=(j:Nat)) (hj:j<s.size) (hk:k ((s.data.toList.getD j 0).toNat:Nat))
def ade(s:ByteArray):List (List Cell):=s.data.toList.map λb=>[.v (.int .u8 (b.toNat:Nat))]
def acQ(e:Env):Option Operand->Option (Option Int)
 |none=>some none
 |some x=>match ae e x with
  |some (.c (.v (.int _ n)))=>some (some n)
  |_=>none
def aaz{α:Type}:Nat->List α->List α
 |0,l=>l
 |n+1,_::r=>aaz n r
 |_+1,[]=>[]
def agE{α:Type}:Nat->List α->(List α->Prop)->Prop
 |0,l,k=>k l
 |n+1,_::r,k=>agE n r k
 |_+1,[],k=>k []
theorem abV{α:Type}:∀(n:Nat) (l:List α) (k:List α->Prop),agE n l k=k (aaz n l)
 |0,l,k=>rfl
 |n+1,[],k=>rfl
 |n+1,x::r,k=>abV n r k
def aa9(bx:Bxs)(v:AV)(k:AV->Bxs->Prop):Prop :=
 match v with
 |.c (.v (.slice none 0 0))=>k (.c (.sl 0 [])) []
 |.c x=>k (.c x) []
 |.agg cs=>k (.agg cs) []
 |.gs b n=>(match ld b bx with
  |some (.grow _ s es)=>Obl (n=es.length) (k (.c (.sl s es)) [(b,.froz s es)])
  |some (.froz s es)=>Obl (n=es.length) (k (.c (.sl s es)) [])
  |_=>False)
 |.ptr b o=>(match ld b bx with
  |some (.var cs)=>agE o cs λl=>k (.c (.p l)) [(b,.fvar cs)]
  |some (.fvar cs)=>agE o cs λl=>k (.c (.p l)) []
  |_=>False)
 |.rd cs=>k (.c (.p cs)) []
 |_=>False
@[reducible] def cellsOf:AV->List Cell
  |.c x=>[x]
  |.agg cs=>cs
  |_=>[]
def abe:List AV->Bxs->(List AV->Bxs->Prop)->Prop
 |[],bx,k=>k [] []
 |v::r,bx,k=>aa9 bx v λv' f=>abe r (ups f bx) λvs g=>k (v'::vs) (f++g)
def aaZ{α β:Type}(f:α->Option β):List α->Option (List β)
 |[]=>some []
 |x::r=>match f x with|some y=>(match aaZ f r with|some l=>some (y::l)|none=>none)|none=>none
def takeN{α:Type}:Nat->List α->Option (List α)
 |0,_=>some []
 |n+1,x::r=>match takeN n r with|some l=>some (x::l)|none=>none
 |_+1,[]=>none
def abK{α:Type}:Nat->List α->List α->Option (List α)
 |0,[],l=>some l
 |0,y::r,_::l=>match abK 0 r l with|some q=>some (y::q)|none=>none
 |n+1,ys,x::l=>match abK n ys l with|some q=>some (x::q)|none=>none
 |_,_,[]=>none
def chunk(s:Nat):Nat->List Cell->Option (List (List Cell))
 |0,[]=>some []
 |0,_::_=>none
 |n+1,cs=>match takeN s cs with
  |some l=>(match chunk s n (aaz s cs)with|some r=>some (l::r)|none=>none)
  |none=>none
def aa0(ti:TI)(cs:List Cell):Option AV :=
 match ti with
 |.row n _ _=>match takeN n cs with|some l=>some (.agg l)|none=>none
 |.arr n s _ _=>match takeN (n*s) cs with|some l=>some (.agg l)|none=>none
 |.flat _ _=>none
 |.glob _ _=>none
 |.flag=>none
 |_=>match cs with|c::_=>some (.c c)|[]=>none
def ahy:TI->Option Nat
 |.row n _ _=>some n
 |.arr n s _ _=>some (n*s)
 |_=>none
def avO:Cell->AV
 |.ob b n => .gs b n
 |c => .c c
def obK:List Cell->Bxs->(List Cell->Bxs->Prop)->Prop
 |[],_,k=>k [] []
 |.ob b n::r,bx,k=>aa9 bx (.gs b n) λv f=>(match v with|.c c=>obK r (ups f bx) λcs g=>k (c::cs) (f++g)|_=>False)
 |c::r,bx,k=>obK r bx λcs g=>k (c::cs) g
def acE(ti:TI)(cs:List Cell)(bx:Bxs)(k:AV->Bxs->Prop):Prop :=
 match ahy ti with
 |some n=>(match takeN n cs with|some l=>obK l bx λl' f=>k (.agg l') f|none=>False)
 |none=>(match ti,cs with
  |.flat _ _,_=>False
  |.glob _ _,_=>False
  |.flag,_=>False
  |_,c::_=>k (avO c) []
  |_,[]=>False)
def abp:List Cell->List Nat
 |[]=>[]
 |.ob b _::r=>b::abp r
 |_::r=>abp r
def acy:Bk->List Nat
 |.varo cs=>abp cs
 |_=>[]
def aiA:TI->Nat
 |.row n _ _=>n
 |.arr n s _ _=>n*s
 |.flat _ z=>z.length
 |.glob _ _=>0
 |.flag=>0
 |_=>1
def aft:TI->Bool
 |.glob _ _=>false
 |.flag=>false
 |_=>true
def szB(ti:TI)(n:Nat):Bool:=match aft ti with|true=>Nat.beq n (aiA ti)|false=>false
def zeroCells:TI->List Cell
 |.int k=>[.v (.int k 0)]
 |.bool=>[.v (.bool false)]
 |.str=>[.v (.string ByteArray.empty)]
 |.row _ _ z=>z
 |.slice _ _ _ _=>[.sl 0 []]
 |.arr _ _ _ z=>z
 |.flat _ z=>z
 |.glob _ z=>z
 |.flag=>[]
def acB(t:Nat):Tab->Option (List Nat)
 |[]=>none
 |(s,.flat ks _)::r=>cond (Nat.beq s t) (some ks) (acB t r)
 |_::r=>acB t r
def eqC:List Nat->List Cell->List Cell->Option Bool
 |[],[],[]=>some true
 |0::ks,.v (.int k a)::r,.v (.int k' b)::r'=>(match decide (k=k'),eqC ks r r' with|true,some q=>some (decide (a=b)&&q)|_,_=>none)
 |1::ks,.v (.bool p)::r,.v (.bool p')::r'=>(match eqC ks r r' with|some q=>some ((p == p')&&q)|none=>none)
 |2::ks,.v (.string a)::r,.v (.string b)::r'=>(match eqC ks r r' with|some q=>some ((a == b)&&q)|none=>none)
 |_,_,_=>none
def adC(k:IntKind)(a b:Int):Int:=k.wrap (BitVec.ofInt k.bits a &&& BitVec.ofInt k.bits b).toNat
def orI(k:IntKind)(a b:Int):Int:=k.wrap (BitVec.ofInt k.bits a ||| BitVec.ofInt k.bits b).toNat
def adJ(op:BinOp)(x y:AV)(k:AV->Prop):Prop :=
 match op,x,y with
 |.add,.c (.v (.int ki a)),.c (.v (.int kj b))=>(match decide (ki=kj)with|true=>k (.int ki (ki.wrap (a+b)))|false=>False)
 |.sub,.c (.v (.int ki a)),.c (.v (.int kj b))=>(match decide (ki=kj)with|true=>k (.int ki (ki.wrap (a-b)))|false=>False)
 |.mul,.c (.v (.int ki a)),.c (.v (.int kj b))=>(match decide (ki=kj)with|true=>k (.int ki (ki.wrap (a*b)))|false=>False)
 |.shl,.c (.v (.int ki a)),.c (.v (.int _ b))=>Obl (0<=b) (k (.int ki (ki.wrap (a*2^(min b.toNat ki.bits)))))
 |.shr,.c (.v (.int ki a)),.c (.v (.int _ b))=>Obl (0<=b) (k (.int ki (a.fdiv (2^(min b.toNat ki.bits)))))
 |.and,.c (.v (.int ki a)),.c (.v (.int kj b))=>(match decide (ki=kj)with|true=>k (.int ki (adC ki a b))|false=>False)
 |.or,.c (.v (.int ki a)),.c (.v (.int kj b))=>(match decide (ki=kj)with|true=>k (.int ki (orI ki a b))|false=>False)
 |.quo,.c (.v (.int ki a)),.c (.v (.int kj b))=>(match decide (ki=kj)with|true=>Obl (b≠0) (k (.int ki (ki.wrap (a.tdiv b))))|false=>False)
 |.rem,.c (.v (.int ki a)),.c (.v (.int kj b))=>(match decide (ki=kj)with|true=>Obl (b≠0) (k (.int ki (a.tmod b)))|false=>False)
 |.lss,.c (.v (.int ki a)),.c (.v (.int kj b))=>(match decide (ki=kj)with|true=>k (.bool (decide (a<b)))|false=>False)
 |.leq,.c (.v (.int ki a)),.c (.v (.int kj b))=>(match decide (ki=kj)with|true=>k (.bool (decide (a<=b)))|false=>False)
 |.gtr,.c (.v (.int ki a)),.c (.v (.int kj b))=>(match decide (ki=kj)with|true=>k (.bool (decide (a>b)))|false=>False)
 |.geq,.c (.v (.int ki a)),.c (.v (.int kj b))=>(match decide (ki=kj)with|true=>k (.bool (decide (a>=b)))|false=>False)
 |.eql,.c (.v (.int ki a)),.c (.v (.int kj b))=>(match decide (ki=kj)with|true=>k (.bool (decide (a=b)))|false=>False)
 |.neq,.c (.v (.int ki a)),.c (.v (.int kj b))=>(match decide (ki=kj)with|true=>k (.bool (!decide (a=b)))|false=>False)
 |.add,.c (.v (.string a)),.c (.v (.string b))=>Obl (a.size+b.size<=9223372036854775807) (k (.c (.v (.string (a++b)))))
 |.eql,.c (.v (.string a)),.c (.v (.string b))=>k (.bool (a.toList == b.toList))
 |.neq,.c (.v (.string a)),.c (.v (.string b))=>k (.bool (!(a.toList == b.toList)))
 |_,_,_=>False
def abv(fs:List (Nat×Nat×Bool)):List (Nat×List Cell)->List Cell->Option (List Cell)
 |[],z=>some z
 |(i,cs)::r,z=>match fs[i]? with
  |some (o,s,_)=>(match Nat.beq cs.length s,abK o cs z with
   |true,some z'=>abv fs r z'
   |_,_=>none)
  |_=>none
def aek(s:Nat):Nat->Nat->List (Nat×Nat×Bool)
 |0,_=>[]
 |n+1,o=>(o,s,false)::aek s n (o+s)
def abH(e:Env):List (Nat×Operand)->Bxs->(List (Nat×List Cell)->Bxs->Prop)->Prop
 |[],bx,k=>k [] []
 |(i,x)::r,bx,k=>match ae e x with
  |some v=>aa9 bx v λv' f=>abH e r (ups f bx) λvs g=>k ((i,cellsOf v')::vs) (f++g)
  |none=>False
def adr(s:Nat):List (Nat×List Cell)->Nat->Option (List (List Cell))
 |[],0=>some []
 |(i,cs)::r,n+1=>match adr s r n with
  |some l=>cond (Nat.beq cs.length s) (some (cs::l)) none
  |none=>none
 |_,_=>none
def inOrder:Nat->List (Nat×Operand)->Bool
 |_,[]=>true
 |n,(i,_)::r=>cond (Nat.beq n i) (inOrder (n+1) r) false
def ab4:Cell->Bool
 |.v (.int _ _)=>true
 |.v (.bool _)=>true
 |.v (.string _)=>true
 |_=>false
def acI:AV->Bool
 |.c x=>ab4 x
 |.agg cs=>cs.all ab4
 |.tup vs=>vs.all λv=>match v with|.c x=>ab4 x|.agg cs=>cs.all ab4|_=>false
 |_=>false
def aez:AV->Option Int
 |.c (.v (.int _ n))=>some n
 |_=>none
section
variable (D:FuncId->List AV->AV->Prop) (τ:Tab)
inductive CallP (f:FuncId) (xs:List AV) (k:AV->Prop):Prop where
 |mk (r:AV) (h:D f xs r) (hk:k r)
def aiW:Value->Option FuncId
 |.func (.func f) a c=>(match a.toList,c.toList with|[],[]=>some f|_,_=>none)
 |_=>none
def fnA(e:Env)(x:Operand):Option (FuncId×List AV):=match ae e x with
 |some (.c (.v u))=>(match aiW u with|some f=>some (f,[])|none=>none)
 |some (.c (.fn f cs))=>some (f,cs.map .c)
 |_=>none
def abN:AV->Bool
 |.own _ _ _=>true
 |_=>false
@[reducible] def KK:Nat:=1000000
def abx(i:Nat):Nat->List AV->(List AV->Bxs->Prop)->Prop
 |_,[],k=>k [] []
 |j,.own T s es::r,k=>abx i (j+KK) r λvs f=>k (.gs (i+j) es.length::vs) ((i+j,.grow T s es)::f)
 |j,v::r,k=>abx i (j+KK) r λvs f=>k (v::vs) f
def abC(d:Option Nat)(r:AV)(k:AV->Bxs->Prop):Prop :=
 match r with
 |.own T s es=>(match d with|some i=>k (.gs i es.length) [(i,.grow T s es)]|none=>False)
 |.tup vs=>(match vs.any abN with
  |false=>k (.tup vs) []
  |true=>(match d,Nat.ble vs.length 3 with|some i,true=>abx i KK vs λvs' f=>k (.tup vs') f|_,_=>False))
 |r=>k r []
inductive WH where
 |no
 |s (b n:Nat) (r:List AV)
 |nil (r:List AV)
def wrL:List AV->WH
 |.gs b n::r => .s b n r
 |.c (.v (.slice none 0 0))::r => .nil r
 |_ => .no
def afp:AV->Bool
 |.c _=>true
 |.agg _=>true
 |_=>false
def afy:AV->Bool
 |.tup vs=>vs.all afp
 |v=>afp v
def adU(b:Nat)(T:TypeId)(s:Nat)(k:AV->Bxs->Prop)(r:AV):Prop :=
 match r with
 |.tup [.own T' s' es',v]=>(match Nat.beq T T',Nat.beq s s',afy v with|true,true,true=>k v [(b,.grow T s es')]|_,_,_=>False)
 |_=>False
def adW(k:AV->Bxs->Prop)(r:AV):Prop:=match afy r with|true=>k r []|false=>False
structure LenD (n:Nat) (p q:Prop):Prop where
 t:0<n->p
 f:n=0->q
def adX(f:FuncId)(b n:Nat)(vs:List AV)(bx:Bxs)(k:AV->Bxs->Prop):Prop :=
 match ld b bx with
 |some (.grow T s es)=>abe vs bx λa_s fz=>(match fz with
  |[]=>Obl (n=es.length) (LenD es.length (CallP D f (.own T s es::a_s) (adU b T s k)) (CallP D f (.c (.sl s es)::a_s) (adW k)))
  |_::_=>False)
 |_=>False
def wrF(f:FuncId):Bool:=match ld (WK+f) τ with|some .flag=>true|_=>false
def wrH(f:FuncId)(vs:List AV):WH:=match wrF τ f with|true=>wrL vs|false => .no
def ahm:Bool:=match ld OK τ with|some .flag=>true|_=>false
def ag5:TI->Bool
 |.slice _ _ _ _=>true
 |_=>false
def afO:AV->Option (Nat×Nat)
 |.gs b n=>some (b,n)
 |_=>none
def acw(b:Nat)(bx:Bxs):Option Nat:=match ld b bx with
 |some (.grow _ _ es)=>some es.length
 |some (.froz _ es)=>some es.length
 |_=>none
def cellsAll:List AV->Option (List Cell)
 |[]=>some []
 |.c c::r=>(match cellsAll r with|some l=>some (c::l)|none=>none)
 |_=>none
def abO(fz g:Bxs):Bool :=
 match g with
 |[]=>true
 |g=>!(fz.any λp=>g.any λq=>Nat.beq p.1 q.1)
def acu(r:AV)(fz:Bxs):Bxs:=match acI r with|true=>[]|false=>fz
def ab1:List AV->Option (Nat×List AV)
 |.ptr i 0::r=>some (i,r)
 |_=>none
def afG(i:Nat)(k:AV->Bxs->Prop)(r:AV):Prop :=
 match r with
 |.tup [.agg cs,v]=>(match acI v with|true=>k v [(i,.var cs)]|false=>False)
 |_=>False
def adl(i:Nat)(k:AV->Bxs->Prop)(r:AV):Prop :=
 match r with
 |.tup [.gh G,v]=>(match afp v with|true=>k v [(i,.gh G)]|false=>False)
 |_=>False
def ad1(f:FuncId)(i:Nat)(vs:List AV)(bx:Bxs)(k:AV->Bxs->Prop):Prop :=
 match ld i bx with
 |some (.gh G)=>abe vs bx λa_s fz=>(match fz with
  |[]=>CallP D f (.gh G::a_s) (adl i k)
  |_::_=>False)
 |some (.var cs)=>abe vs bx λa_s fz=>(match fz with
  |[]=>CallP D f (.tup [.agg cs]::a_s) (afG i k)
  |_::_=>False)
 |_=>False
def ai9:Bool:=match ld (OK+1) τ with|some .flag=>true|_=>false
def ac9(bx:Bxs)(v:AV)(k:List Cell->Prop):Prop :=
 match v with
 |.c (.v (.slice none 0 0))=>k [.sl 0 []]
 |.c x=>k [x]
 |.agg cs=>k cs
 |.gs b n=>(match acw b bx with|some m=>Obl (n=m) (k [.ob b n])|none=>False)
 |_=>False
def acv(e:Env)(bx:Bxs):List (Nat×Operand)->(List (Nat×List Cell)->Prop)->Prop
 |[],k=>k []
 |(i,x)::r,k=>match ae e x with
  |some v=>ac9 bx v λcs=>acv e bx r λvs=>k ((i,cs)::vs)
  |none=>False
def acS:Option AV->Option (List Cell)
 |some (.ago cs)=>some cs
 |_=>none
def aop(o:Oper)(e:Env)(bx:Bxs)(k:AV->Bxs->Prop):Prop :=
 match o.op with
 |.move x=>(match ae e x with|some v=>k v []|none=>False)
 |.assign x=>(match ae e x with|some v=>k v []|none=>False)
 |.pick c a b=>(match ae e c with
  |some (.c (.v (.bool p)))=>OnB p λq=>(match ae e (cond q a b)with|some v=>k v []|none=>False)
  |_=>False)
 |.alloc t=>(match ld t τ,o.dst with
  |some ti,some d=>(match aft ti with|true=>k (.ptr d 0) [(d,.var (zeroCells ti))]|false=>False)
  |_,_=>False)
 |.box t x=>(match o.dst,ae e x with
  |some d,some v=>aa9 bx v λv' f=>(match f.any λp=>Nat.beq p.1 d with|false=>k (.ptr d 0) (f++[(d,.var (cellsOf v'))])|true=>False)
  |_,_=>False)
 |.load t x=>(match ld t τ,ae e x with
  |some ti,some (.ptr b off)=>(match ld b bx with
   |some (.var cs)=>(match aa0 ti (aaz off cs)with|some v=>k v []|none=>False)
   |some (.fvar cs)=>(match aa0 ti (aaz off cs)with|some v=>k v []|none=>False)
   |some (.varo cs)=>acE ti (aaz off cs) bx k
   |_=>False)
  |some ti,some (.rd cs)=>(match aa0 ti cs with|some v=>k v []|none=>False)
  |some ti,some (.c (.p cs))=>(match aa0 ti cs with|some v=>k v []|none=>False)
  |some ti,some (.gp g off)=>(match ld (GK+g) τ with
   |some (.glob _ cs)=>(match aa0 ti (aaz off cs)with|some v=>k v []|none=>False)
   |_=>False)
  |some ti,some (.pe b n i off)=>(match ld b bx with
   |some (.grow _ s es)=>Obl (n=es.length) (Elem es (i:Nat) λcs=>(match aa0 ti (aaz off cs)with|some v=>k v []|none=>False))
   |some (.froz s es)=>Obl (n=es.length) (Elem es (i:Nat) λcs=>(match aa0 ti (aaz off cs)with|some v=>k v []|none=>False))
   |_=>False)
  |_,_=>False)
 |.store t x y=>(match acS (ae e y)with
  |some ds=>(match ld t τ,ae e x with
   |some ti,some (.ptr b off)=>(match ld b bx with
    |some (.var cs)=>(match szB ti ds.length,abK off ds cs with|true,some cs'=>k .any [(b,.varo cs')]|_,_=>False)
    |_=>False)
   |_,_=>False)
  |none=>(match ld t τ,ae e x,ae e y with
  |some ti,some (.ptr b off),some v=>(match ld b bx with
   |some (.var cs)=>(match ahm τ,ag5 ti,afO v with
    |true,true,some (b',n)=>(match acw b' bx,abK off [.ob b' n] cs with|some m,some cs'=>Obl (n=m) (k .any [(b,.varo cs')])|_,_=>False)
    |_,_,_=>aa9 bx v λv' f=>(match f.any (λp=>Nat.beq p.1 b),szB ti (cellsOf v').length,abK off (cellsOf v') cs with|false,true,some cs'=>k .any (f++[(b,.var cs')])|_,_,_=>False))
   |some (.varo cs)=>(match ag5 ti,afO v with
    |true,some (b',n)=>(match acw b' bx,abK off [.ob b' n] cs with|some m,some cs'=>Obl (n=m) (k .any [(b,.varo cs')])|_,_=>False)
    |_,_=>aa9 bx v λv' f=>(match f.any (λp=>Nat.beq p.1 b),szB ti (cellsOf v').length,abK off (cellsOf v') cs with|false,true,some cs'=>k .any (f++[(b,.varo cs')])|_,_,_=>False))
   |_=>False)
  |some ti,some (.pe b n i off),some v=>(match ld b bx with
   |some (.grow T s es)=>aa9 bx v λv' f=>(match f with
    |[]=>Obl (n=es.length) (Elem es (i:Nat) λcs=>(match szB ti (cellsOf v').length,abK off (cellsOf v') cs with|true,some cs'=>k .any [(b,.grow T s (es.set i cs'))]|_,_=>False))
    |_=>False)
   |_=>False)
  |_,_,_=>False))
 |.fieldAddr t x i=>(match ld t τ with
  |some (.row _ fs _)=>(match fs[i]?,ae e x with
   |some (off,_,_),some (.ptr b o')=>k (.ptr b (o'+off)) []
   |some (off,_,_),some (.pe b n j o')=>(match ld b bx with
    |some (.grow _ _ es)=>Obl (n=es.length) (k (.pe b n j (o'+off)) [])
    |some (.froz _ es)=>Obl (n=es.length) (k (.pe b n j (o'+off)) [])
    |_=>False)
   |some (off,_,_),some (.rd cs)=>k (.rd (aaz off cs)) []
   |some (off,_,_),some (.c (.p cs))=>k (.rd (aaz off cs)) []
   |some (off,_,_),some (.gp g o')=>k (.gp g (o'+off)) []
   |_,_=>False)
  |_=>False)
 |.field t x i=>(match ld t τ with
  |some (.row _ fs _)=>(match fs[i]?,ae e x with
   |some (off,s,agg),some (.agg cs)=>(match takeN s (aaz off cs)with
    |some l=>(match agg with
     |true=>k (.agg l) []
     |false=>(match l with|c::_=>k (.c c) []|[]=>False))
    |none=>False)
   |_,_=>False)
  |_=>False)
 |.indexAddr t x y=>(match ld t τ,ae e x,ae e y with
  |some (.slice _ s _ _),some (.c (.sl s' es)),some (.c (.v (.int _ i)))=>(match Nat.beq s s' with
   |true=>Elem es i λcs=>k (.rd cs) []
   |false=>False)
  |some (.slice _ s _ _),some (.gs b n),some (.c (.v (.int _ i)))=>(match ld b bx with
   |some (.grow _ s' es)=>(match Nat.beq s s' with
    |true=>Obl (n=es.length) (Elem es i λ_=>k (.pe b n i.toNat 0) [])
    |false=>False)
   |some (.froz s' es)=>(match Nat.beq s s' with
    |true=>Obl (n=es.length) (Elem es i λcs=>k (.rd cs) [])
    |false=>False)
   |_=>False)
  |some (.arr n s _ _),some (.ptr b o'),some (.c (.v (.int _ (.ofNat i))))=>(match Nat.blt i n with
   |true=>k (.ptr b (o'+i*s)) []
   |false=>False)
  |some (.arr n s _ _),some (.gp g o'),some (.c (.v (.int _ (.ofNat i))))=>(match Nat.blt i n with
   |true=>k (.gp g (o'+i*s)) []
   |false=>False)
  |some (.arr n s _ _),some (.rd cs),some (.c (.v (.int _ (.ofNat i))))=>(match Nat.blt i n with
   |true=>k (.rd (aaz (i*s) cs)) []
   |false=>False)
  |some (.arr n s _ _),some (.c (.p cs)),some (.c (.v (.int _ (.ofNat i))))=>(match Nat.blt i n with
   |true=>k (.rd (aaz (i*s) cs)) []
   |false=>False)
  |some (.arr n s _ _),some (.pe b m j o'),some (.c (.v (.int _ (.ofNat i))))=>(match Nat.blt i n,ld b bx with
   |true,some (.grow _ _ es)=>Obl (m=es.length) (k (.pe b m j (o'+i*s)) [])
   |true,some (.froz _ es)=>Obl (m=es.length) (k (.pe b m j (o'+i*s)) [])
   |_,_=>False)
  |_,_,_=>False)
 |.index t x y=>(match ld t τ,ae e x,ae e y with
  |some .str,some (.c (.v (.string s))),some (.c (.v (.int _ i)))=>StrAt s i λc=>k (.int .u8 c) []
  |_,_,_=>False)
 |.extract x i=>(match ae e x with
  |some (.tup vs)=>(match vs[i]? with|some v=>k v []|none=>False)
  |_=>False)
 |.binOp op t x y u=>(match ae e x,ae e y with
  |some (.c (.v (.bool p))),some (.c (.v (.bool q)))=>(match ld t τ,op with
   |some .bool,.eql=>k (.bool (p == q)) []
   |some .bool,.neq=>k (.bool (p != q)) []
   |_,_=>False)
  |some (.agg cs),some (.agg ds)=>(match acB t τ,op with
   |some ks,.eql=>(match eqC ks cs ds with|some q=>k (.bool q) []|none=>False)
   |some ks,.neq=>(match eqC ks cs ds with|some q=>k (.bool (!q)) []|none=>False)
   |_,_=>False)
  |some a,some b=>adJ op a b λv=>k v []
  |_,_=>False)
 |.unOp .not t x=>(match ae e x with|some (.c (.v (.bool b)))=>k (.bool (!b)) []|_=>False)
 |.unOp .neg t x=>(match ae e x with|some (.c (.v (.int ki n)))=>k (.int ki (ki.wrap (0-n))) []|_=>False)
 |.convert src dst x=>(match ld src τ,ld dst τ,ae e x with
  |some (.int _),some (.int ki),some (.c (.v (.int _ n)))=>k (.int ki (ki.wrap n)) []
  |some .str,some (.slice T s _ _),some (.c (.v (.string b)))=>(match ld T τ,Nat.beq s 1 with
   |some (.int .u8),true=>Obl (b.size<=1000000) (k (.c (.sl 1 (ade b))) [])
   |_,_=>False)
  |some (.int _),some .str,some (.c (.v (.int _ n)))=>k (.c (.v (.string (Utf8.encode n)))) []
  |_,_,_=>False)
 |.build t ps=>(match ld t τ with
  |some (.row _ fs z)=>(match ai9 τ with
   |true=>acv e bx ps.toList λvs=>(match abv fs vs z with|some cs=>k (.ago cs) []|none=>False)
   |false=>abH e ps.toList bx λvs f=>(match abv fs vs z with|some cs=>k (.agg cs) f|none=>False))
  |some (.arr n s _ z)=>abH e ps.toList bx λvs f=>(match abv (aek s n 0) vs z with|some cs=>k (.agg cs) f|none=>False)
  |_=>False)
 |.buildSlice t n ps=>(match ld t τ,inOrder 0 ps.toList with
  |some (.slice T s _ _),true=>abH e ps.toList bx λvs f=>(match adr s vs n,Nat.ble (n*s) 16777216 with
   |some es,true=>(match ahm τ||Nat.beq n 0 with
    |true=>(match o.dst with
     |some d=>(match f.any λp=>Nat.beq p.1 d with|false=>k (.gs d n) (f++[(d,.grow T s es)])|true=>False)
     |none=>False)
    |false=>k (.c (.sl s es)) f)
   |_,_=>False)
  |_,_=>False)
 |.makeSlice t x y=>(match ld t τ,ae e x,ae e y,o.dst with
  |some (.slice T s by_ z),some (.c (.v (.int _ l))),some (.c (.v (.int _ c))),some d=>MkS l c by_ λn=>k (.gs d n) [(d,.grow T s (List.replicate n z))]
  |_,_,_,_=>False)
 |.slice t x lo hi mx=>(match ld t τ,ae e x,acQ e lo,acQ e hi,acQ e mx with
  |some (.slice _ s _ _),some (.c (.sl s' es)),some lo,some hi,some mx=>(match Nat.beq s s' with
   |true=>SlP es.length lo hi mx λa b=>k (.c (.sl s ((es.take b).drop a))) []
   |false=>False)
  |some (.slice _ s _ _),some (.gs b n),some lo,some hi,some mx=>aa9 bx (.gs b n) λv f=>(match v with
   |.c (.sl s' es)=>(match Nat.beq s s' with
    |true=>SlP es.length lo hi mx λa b=>k (.c (.sl s ((es.take b).drop a))) f
    |false=>False)
   |_=>False)
  |some .str,some (.c (.v (.string s))),some lo,some hi,some none=>SlP s.size lo hi none λa b=>k (.c (.v (.string (s.extract a b)))) []
  |some (.arr n s _ _),some (.ptr b 0),some none,some none,some none=>(match ld b bx,Nat.ble n 1048576,Nat.blt 0 s with
   |some (.var cs),true,true=>(match chunk s n cs with|some es=>k (.c (.sl s es)) [(b,.dead)]|none=>False)
   |_,_,_=>False)
  |_,_,_,_,_=>False)
 |.nilCheck x=>(match ae e x with
  |some (.ptr b o)=>k (.ptr b o) []
  |some (.rd cs)=>k (.rd cs) []
  |some (.c (.p cs))=>k (.c (.p cs)) []
  |some (.gp g o')=>k (.gp g o') []
  |_=>False)
 |.makeFunc fn first captured=>(match fn,first.toList,aaZ (λx=>ae e x) captured.toList with
  |.func g,[],some vs=>abe vs bx λa_s f=>(match cellsAll a_s with|some cs=>k (.c (.fn g cs)) f|none=>False)
  |_,_,_=>False)
 |.call c=>(match c.callee,aaZ (λx=>ae e x) c.args.toList with
  |.value x,some vs=>(match fnA e x,ab1 vs with
   |some (f,cap),none=>(match wrH τ f vs with
    |.s b n r=>adX D f b n (r++cap) bx k
    |.nil r=>abe (r++cap) bx λa_s fz=>CallP D f (.c (.v (.slice none 0 0))::a_s) λr=>abC o.dst r λv g=>(match abO fz g with|true=>k v (acu r fz++g)|false=>False)
    |.no=>abe (vs++cap) bx λa_s fz=>CallP D f a_s λr=>abC o.dst r λv g=>(match abO fz g with|true=>k v (acu r fz++g)|false=>False))
   |some (f,cap),some (i,r)=>ad1 D f i (r++cap) bx k
   |none,_=>False)
  |.builtin .len,some [.c (.sl _ es)]=>(match c.argTypes.toList with
   |[t]=>(match ld t τ with|some (.slice _ _ _ _)=>k (.int .i64 (es.length:Nat)) []|_=>False)
   |_=>False)
  |.builtin .len,some [.c (.v (.string s))]=>(match c.argTypes.toList with
   |[t]=>(match ld t τ with|some .str=>k (.int .i64 (s.size:Nat)) []|_=>False)
   |_=>False)
  |.builtin .len,some [.gs b n]=>(match c.argTypes.toList,ld b bx with
   |[t],some (.grow _ s es)=>(match ld t τ with|some (.slice _ _ _ _)=>Obl (n=es.length) (k (.int .i64 (es.length:Nat)) [])|_=>False)
   |[t],some (.froz s es)=>(match ld t τ with|some (.slice _ _ _ _)=>Obl (n=es.length) (k (.int .i64 (es.length:Nat)) [])|_=>False)
   |_,_=>False)
  |.builtin .append,some [x,y]=>(match c.argTypes.toList with
   |[t,t']=>(match Nat.beq t t',ld t τ with
    |true,some (.slice T s by_ _)=>(match y with
     |.gs c m=>(match x with
      |.gs b n=>aa9 bx (.gs c m) λv f=>(match v,ld b bx,Nat.beq b c with
       |.c (.sl s' es'),some (.grow T' s'' es),false=>(match Nat.beq T T',Nat.beq s s'',Nat.beq s s' with
        |true,true,true=>Obl (n=es.length) (Obl ((es++es').length*(by_+1)<=140737488355328) (k (.gs b (es++es').length) (f++[(b,.grow T s (es++es'))])))
        |_,_,_=>False)
       |_,_,_=>False)
      |.c (.v (.slice none 0 0))=>aa9 bx (.gs c m) λv f=>(match v,o.dst with
       |.c (.sl s' es'),some d=>(match Nat.beq s s',f.any (λp=>Nat.beq p.1 d)with
        |true,false=>Obl (es'.length*(by_+1)<=140737488355328) (k (.gs d es'.length) (f++[(d,.grow T s es')]))
        |_,_=>False)
       |_,_=>False)
      |_=>False)
     |.c (.sl s' es')=>(match Nat.beq s s' with
      |true=>(match x with
       |.c (.v (.slice none 0 0))=>(match o.dst with
        |some d=>Obl (es'.length*(by_+1)<=140737488355328) (k (.gs d es'.length) [(d,.grow T s es')])
        |none=>False)
       |.gs b n=>(match ld b bx with
        |some (.grow T' s'' es)=>(match Nat.beq T T',Nat.beq s s'' with
         |true,true=>Obl (n=es.length) (Obl ((es++es').length*(by_+1)<=140737488355328) (k (.gs b (es++es').length) [(b,.grow T s (es++es'))]))
         |_,_=>False)
        |_=>False)
       |_=>False)
      |false=>False)
     |_=>False)
    |_,_=>False)
   |_=>False)
  |.builtin .min,some vs=>(match aaZ aez vs,vs with
   |some (a::r),(.c (.v (.int ki _))::_)=>k (.int ki (r.foldl (λx y=>if y<x then y else x) a)) []
   |_,_=>False)
  |.builtin .max,some vs=>(match aaZ aez vs,vs with
   |some (a::r),(.c (.v (.int ki _))::_)=>k (.int ki (r.foldl (λx y=>if y>x then y else x) a)) []
   |_,_=>False)
  |_,_=>False)
 |_=>False
def acP:List AV->List Nat
 |[]=>[]
 |.gs b _::r=>b::acP r
 |_::r=>acP r
def aaF:AV->List Nat
 |.ptr b _=>[b]
 |.pe b _ _ _=>[b]
 |.gs b _=>[b]
 |.tup vs=>acP vs
 |.ago cs=>abp cs
 |_=>[]
def aeO:Op->Bool
 |.alloc _|.box _ _|.makeSlice _ _ _|.buildSlice _ _ _=>true
 |.call c=>match c.callee with|.builtin .append=>true|.value _=>true|_=>false
 |_=>false
def adn:Op->Bool
 |.call c=>match c.callee with|.value _=>true|_=>false
 |_=>false
def alO(o:Oper):List Nat:=match aeO o.op,o.dst with
 |true,some d=>(match adn o.op with|true=>[d,d+KK,d+(KK+KK),d+(KK+KK+KK)]|false=>[d])
 |_,_=>[]
def aa3(ids:List Nat):Bxs->Bool
 |[]=>false
 |(_,.varo cs)::r=>(abp cs).any (λb=>ids.elem b)||aa3 ids r
 |_::r=>aa3 ids r
def kill(ids:List Nat)(e:Env):Env:=e.map λp=>cond ((aaF p.2).any λb=>ids.elem b) (p.1,.any) p
def mention(ids:List Nat)(e:Env):Bool:=e.any λp=>(aaF p.2).any λb=>ids.elem b
def acZ(o:Oper)(v:AV)(e:Env):Env :=
 match o.dst with
 |some t=>(match alO o with
  |[]=>(t,v)::e
  |ids=>(match mention ids e with|true=>(t,v)::kill ids e|false=>(t,v)::e))
 |none=>e
def apE(o:Oper)(v:AV)(e:Env):Env:=match o.dst with|some t=>(t,v)::e|none=>e
def ahi(o:Oper)(v:AV)(e:Env)(k:Env->Prop):Prop :=
 match o.dst with
 |some t=>(match alO o with
  |[]=>k ((t,v)::e)
  |ids=>(match mention ids e with|true=>k ((t,v)::kill ids e)|false=>k ((t,v)::e)))
 |none=>k e
def apK(o:Oper)(v:AV)(e:Env)(k:Env->Prop):Prop:=match o.dst with|some t=>k ((t,v)::e)|none=>k e
def upK(t:Nat)(x:Bk):Bxs->(Bxs->Prop)->Prop
 |[],k=>k [(t,x)]
 |(s,v)::r,k=>match Nat.beq s t with|true=>k ((s,x)::r)|false=>upK t x r λr'=>k ((s,v)::r')
def ahG:Bxs->Bxs->(Bxs->Prop)->Prop
 |[],l,k=>k l
 |(t,x)::r,l,k=>upK t x l λl'=>ahG r l' k
theorem ae8(o:Oper)(v:AV)(e:Env)(k:Env->Prop):ahi o v e k=k (acZ o v e):=by
 unfold ahi acZ;cases o.dst with
 |none=>rfl
 |some t =>
  simp only;cases alO o with
  |nil=>rfl
  |cons i r=>simp only;cases mention (i::r) e<;>rfl
theorem af5(o:Oper)(v:AV)(e:Env)(k:Env->Prop):apK o v e k=k (apE o v e):=by
 unfold apK apE;cases o.dst<;>rfl
theorem af4(t:Nat)(x:Bk):∀(l:Bxs) (k:Bxs->Prop),upK t x l k=k (up t x l)
 |[],k=>rfl
 |(s,v)::r,k=>by
  simp only[upK,up];cases Nat.beq s t with
  |true=>rfl
  |false=>simp only[cond_false];rw[af4 t x r]
theorem acn:∀(f l:Bxs) (k:Bxs->Prop),ahG f l k=k (ups f l)
 |[],l,k=>rfl
 |(t,x)::r,l,k=>by simp only[ahG,ups];rw[af4,acn r]
def abP(O:List Oper)(j:Nat):Option Nat:=match O[j]? with|some o=>o.dst|none=>none
def abf(e:Env)(x:Operand):List Nat:=match ae e x with|some v=>aaF v|none=>[]
def passes:Op->Bool
 |.move _|.assign _|.pick _ _ _|.fieldAddr _ _ _|.extract _ _=>true
 |_=>false
def mnO(o:Oper)(e:Env):List Nat:=o.op.operands.toList.flatMap (abf e)
def aiQ:AV->List Nat
 |.pe b _ _ _=>[b]
 |_=>[]
def ahJ(b:Bxs)(i:Nat):List Nat:=match ld i b with|some (.varo cs)=>abp cs|_=>[]
def abj(o:Oper)(e:Env)(b:Bxs):List Nat:=match o.op with|.load _ _=>(mnO o e).flatMap (ahJ b)|_=>[]
def rdO(o:Oper)(e:Env)(b:Bxs):List Nat:=cond (passes o.op) (o.op.operands.toList.flatMap λx=>match ae e x with|some v=>aiQ v|none=>[]) (mnO o e++abj o e b)
def rdL(o:Oper)(e:Env)(b:Bxs)(v:AV):List Nat :=
 match o.op,v with
 |.load _ _,.gs _ _=>mnO o e
 |.call ⟨.builtin .len,_,_⟩,_=>[]
 |_,_=>rdO o e b
structure Lg where
 mn:List Nat
 rd:List Nat
 wr:List Nat
 al:List Nat
def agP:Bxs->List Nat
 |[]=>[]
 |(_,.varo cs)::r=>abp cs++agP r
 |_::r=>agP r
def ae1(o:Oper)(e:Env)(b:Bxs)(v:AV)(f:Bxs):Lg:=⟨mnO o e++(aaF v).filter (λi=>!((alO o).elem i))++agP f,rdL o e b v,f.map (·.1),alO o⟩
def NB(ids:List Nat)(b:Bxs)(p:Prop):Prop :=
 match ids with
 |[]=>p
 |ids=>(match aa3 ids b with|false=>p|true=>False)
def adQ(O:List Oper)(o:Oper)(e:Env)(b:Bxs)(k:Env->AV->Bxs->Lg->Prop):Prop :=
 match o.guard with
 |none=>NB (alO o) b (aop D τ o e b λv f=>k e v f (ae1 o e b v f))
 |some (j,want)=>match abP O j with
  |some t=>(match ld t e with
   |some (.c (.v (.bool p)))=>OnB p λq=>(match q == want with
    |true=>NB (alO o) b (aop D τ o ((t,.bool q)::e) b λv f=>k ((t,.bool q)::e) v f (ae1 o ((t,.bool q)::e) b v f))
    |false=>k ((t,.bool q)::e) .bad [] ⟨[],[],[],[]⟩)
   |some .bad=>k e .bad [] ⟨[],[],[],[]⟩
   |_=>False)
  |none=>False
def aer(O:List Oper):List Oper->Env->Bxs->(Env->Bxs->Prop)->Prop
 |[],e,b,k=>k e b
 |o::r,e,b,k=>adQ D τ O o e b λe v f _=>ahi o v e λe=>ahG f b λb=>aer O r e b k
def aen(O:List Oper):List Oper->Env->Bxs->List Lg->(Env->Bxs->List Lg->Prop)->Prop
 |[],e,b,lg,k=>k e b lg
 |o::r,e,b,lg,k=>adQ D τ O o e b λe v f l=>apK o v e λe=>ahG f b λb=>aen O r e b (lg++[l]) k
def abk:List Oper->List Nat->List Nat
 |[],acc=>acc
 |o::r,acc=>abk r (acc++[o.after.toList.foldl (λm e=>cond (Region.binds .any e) (m ||| 2^e.on ||| acc.getD e.on 0) m) 0])
def apart(a b:Lg):Bool :=
 !((a.rd.any λx=>b.wr.elem x) ||(a.wr.any λx=>b.rd.elem x||b.wr.elem x) ||(a.al.any λx=>b.mn.elem x))
def aiF(O:List Oper)(lg:List Lg):Bool :=
 let hs:=abk O []
 (List.range lg.length).all λj=>(List.range j).all λi=>match lg[i]?,lg[j]? with
  |some a,some b=>!(b.al.any λx=>a.mn.elem x||a.al.elem x)&&(Nat.testBit (hs.getD j 0) i||apart a b)
  |_,_=>false
def als(O:List Oper):List Nat:=O.flatMap alO
def prep(O:List Oper)(e:Env):Env:=match mention (als O) e with|true=>kill (als O) e|false=>e
def ahn(O:List Oper)(e:Env)(k:Env->Prop):Prop:=match mention (als O) e with|true=>k (kill (als O) e)|false=>k e
theorem aee(O:List Oper)(e:Env)(k:Env->Prop):ahn O e k=k (prep O e):=by unfold ahn prep;cases mention (als O) e<;>rfl
structure Drw (p:Bool) (k:Prop):Prop where
 ok:p=true
 k:k
theorem zas:type_of% @Drw.mk:=@Drw.mk
def aex(dr:Bool)(O:List Oper)(e:Env)(b:Bxs)(k:Env->Bxs->Prop):Prop :=
 match dr with
 |false=>aer D τ O O e b k
 |true=>NB (als O) b (ahn O e λe=>aen D τ O O e b [] λe b lg=>Drw (aiF O lg) (k e b))
inductive Ex where
 |normal
 |ret
 |exit (id:Nat)
def SubE:Env->Env->Prop
 |[],_=>True
 |(t,v)::r,e=>ld t e=some v/\SubE r e
def SubB:Bxs->Bxs->Prop
 |[],_=>True
 |(t,v)::r,e=>ld t e=some v/\SubB r e
def WL(F:(Ex->Env->Bxs->Prop)->Env->Bxs->Prop)(Q:Ex->Env->Bxs->Prop)(e:Env)(b:Bxs):Prop :=
 ∀I:Env->Bxs->Prop,(∀e b,F (λx e b=>match x with|.normal=>I e b|x=>Q x e b) e b->I e b)->(∀e b e' b',I e b->SubE e e'->SubB b b'->I e' b') ->
  (∀e b t i T s,I ((t,.gs i 0)::e) ((i,.grow T s [])::b)->ld t e=some (.c (.v (.slice none 0 0)))->mention [i] e=false->ld i b=none->0<s->aa3 [i] b=false->I e b)->I e b
structure Loop (F:(Ex->Env->Bxs->Prop)->Env->Bxs->Prop) (Q:Ex->Env->Bxs->Prop) (e:Env) (b:Bxs):Prop where
 wl:WL F Q e b
def awp:Code->(Ex->Env->Bxs->Prop)->Env->Bxs->Prop
 |.skip,Q,e,b=>Q .normal e b
 |.region _ ops dr,Q,e,b=>aex D τ dr ops.toList e b (Q .normal)
 |.seq x y,Q,e,b=>awp x (λz e b=>match z with|.normal=>awp y Q e b|z=>Q z e b) e b
 |.cond c x y,Q,e,b=>(match ae e c with
  |some (.c (.v (.bool p)))=>OnB p λq=>(match q with|true=>awp x Q e b|false=>awp y Q e b)
  |_=>False)
 |.block id x,Q,e,b=>awp x (λz e b=>match z with|.exit i=>(match Nat.beq i id with|true=>Q .normal e b|false=>Q (.exit i) e b)|z=>Q z e b) e b
 |.loop x,Q,e,b=>Loop (awp x) Q e b
 |.exit id,Q,e,b=>Q (.exit id) e b
 |.ret,Q,e,b=>Q .ret e b
 |_,_,_,_=>False
def aes:Nat->List AV->Env
 |_,[]=>[]
 |i,v::r=>(i,v)::aes (i+1) r
def ae3(e:Env)(b:Bxs)(r:ResultVar)(k:AV->Prop):Prop :=
 match r with
 |.tmp t=>(match ld t e with|some v=>aa9 b v λv' _=>k v'|none=>False)
 |.cell a t=>(match ld t τ,ld a e with
  |some ti,some (.ptr i 0)=>(match ld i b with|some (.var cs)=>(match aa0 ti cs with|some v=>k v|none=>False)|_=>False)
  |_,_=>False)
def aeH(e:Env)(b:Bxs):List ResultVar->(List AV->Prop)->Prop
 |[],k=>k []
 |r::l,k=>ae3 τ e b r λv=>aeH e b l λvs=>k (v::vs)
def aai:List AV->AV
 |[v]=>v
 |vs => .tup vs
structure Ends (r:AV) (r':AV):Prop where
 eq:r'=r
theorem zaq:type_of% @Ends.mk:=@Ends.mk
def ady(e:Env):List ResultVar->List (Option (TypeId×Nat))->Bxs->(List (Option AV)->Bxs->Prop)->Prop
 |[],[],b,k=>k [] b
 |.tmp t::l,some (T,s)::r,b,k=>(match ld t e with
  |some (.gs i n)=>(match ld i b with
   |some (.grow T' s' es)=>(match Nat.beq T T',Nat.beq s s' with
    |true,true=>Obl (n=es.length) (upK i .dead b λb'=>ady e l r b' λvs b=>k (some (.own T s es)::vs) b)
    |_,_=>False)
   |_=>False)
  |some (.c (.v (.slice none 0 0)))=>(match Nat.blt 0 s with|true=>ady e l r b λvs b=>k (some (.own T s [])::vs) b|false=>False)
  |_=>False)
 |_::l,none::r,b,k=>ady e l r b λvs b=>k (none::vs) b
 |_,_,_,_=>False
def af8(e:Env)(b:Bxs):List ResultVar->List (Option AV)->(List AV->Prop)->Prop
 |[],[],k=>k []
 |_::l,some v::vs,k=>af8 e b l vs λus=>k (v::us)
 |r::l,none::vs,k=>ae3 τ e b r λv=>af8 e b l vs λus=>k (v::us)
 |_,_,_=>False
def aif(fn:Func)(os:List (Option (TypeId×Nat)))(r:AV):Ex->Env->Bxs->Prop
 |.ret,e,b=>ady e fn.results.toList os b λvs b=>af8 τ e b fn.results.toList vs λus=>Ends r (aai us)
 |_,_,_=>False
def af7(fn:Func)(r:AV):Ex->Env->Bxs->Prop
 |.ret,e,b=>aeH τ e b fn.results.toList λvs=>Ends r (aai vs)
 |.normal,e,b=>(match fn.results.toList with|[]=>Ends r (.tup [])|_=>False)
 |_,_,_=>False
def abI(O:List Oper)(o:Oper):List Nat:=(o.op.operands.toList.flatMap λx=>match x with|.tmp t=>[t]|_=>[])++(match o.guard with|some (j,_)=>(abP O j).toList|none=>[])
def agl(O:List Oper):Bool :=
 let hs:=abk O []
 (List.range O.length).all λj=>(List.range j).all λi=>Nat.testBit (hs.getD j 0) i ||(match O[i]?,O[j]? with
  |some a,some b=>(match a.dst with|some t=>!((abI O b).elem t)&&(match b.dst with|some s=>!(Nat.beq t s)|none=>true)|none=>true)&&(match b.dst with|some s=>!((abI O a).elem s)|none=>true)
  |_,_=>false)
class Kp where
 l:List (Nat×Value)
 h:List (Nat×Obj)
instance(priority:=low) kp0:Kp:=⟨[],[]⟩
def agh[Kp](d:Nat):Bool:=Kp.l.all λp=>!(Nat.beq p.1 d)
def afn[Kp](N:Nat)(O:List Oper):Bool:=O.all λo=>match o.dst with|some d=>Nat.blt d N&&agh d|none=>true
def aa6[Kp](N:Nat):Code->Bool
 |.region _ ops dr=>afn N ops.toList&&(!dr ||(afY ops.toList&&agl ops.toList))
 |.seq x y=>aa6 N x&&aa6 N y
 |.cond _ x y=>aa6 N x&&aa6 N y
 |.block _ x=>aa6 N x
 |.loop x=>aa6 N x
 |_=>true
end
end Go.Sw
