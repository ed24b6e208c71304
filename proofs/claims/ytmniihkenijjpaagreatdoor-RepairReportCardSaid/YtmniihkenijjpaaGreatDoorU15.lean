/-
  Rules of the abstract run, plain laws, and what functions answer, for the law RepairReport.
  Conditions: none.
-/
import Derived.Test.YtmniihkenijjpaaGreatDoorU14
import Derived.ChangeSame
import Derived.Shelf.LaysM
import Derived.Shelf.Strconv.Itoa1
import Derived.Shelf.Strconv.Itoa2
import Derived.Lib.Walk
import Derived.Lib.ItoaMem
import Derived.Lib.ItoaLen
import Derived.Lib.AppendIntMem
import Derived.WalkKit
import Derived.BigCall
import Derived.BigGuard
import Derived.Shelf.Strings.Repeat
import Derived.Lib.Builder
import Derived.Shelf.Strings.Builder1
import Derived.Lib.Bytealg
import Derived.Lib.Strings
set_option linter.all false
namespace Go.Sw
open Go
theorem wZ{l:List P2}{x:Nat}(h:x<l.length):l.getD x P0∈l:=by
 simp[iI,h]
theorem RV(es:List Ent):(zu es).length<=2*es.length:=by have:=vP (l:=es) es.length (n:=0);unfold zu;omega
structure ChR where
 kind:Int
 ent:Int
 fin:Int
 src:Rq×Rq
 dst:Rq×Rq
@[reducible] def uP(c:ChR):List Cell:=[.v (.int .i64 c.kind),.v (.int .i64 c.ent),.v (.int .i64 c.fin)]++iY c.src++iY c.dst
def Yf:Rq:=⟨false,[],false,[]⟩
def YG(p:Option P2):Rq×Rq:=match p with|some v=>(iR v.1,iR v.2)|none=>(Yf,Yf)
def rawCh(c:Chn):ChR:=⟨(c.kind:Nat),(c.ent:Nat),(c.fin:Nat),YG c.src,YG c.dst⟩
def ch0:ChR:=⟨0,0,0,(Yf,Yf),(Yf,Yf)⟩
theorem Qm(c:Chn):uP (rawCh c)=jF c:=by
 obtain⟨k,e,f,s,d⟩:=c;cases s<;>cases d<;>rfl
def yJ(sq:Rat)(es:List Ent)(x n:Nat):JL:=joinL sq (es.getD x E0).layer x 0 (jA sq es x).sp ((aA (es.getD x E0)).take n)
def yV(es:List Ent)(x n:Nat):P2:=(aA (es.getD x E0)).getD n P0
def yL(sq:Rat)(es:List Ent)(x n:Nat):List P2:=(yJ sq es x n).ws++(aA (es.getD x E0)).drop n
def yC(sq:Rat)(es:List Ent)(x n:Nat):List Chn:=(jA sq es x).cs++(yJ sq es x n).cs
def yS(sq:Rat)(es:List Ent)(x n:Nat):Spots:=(yJ sq es x n).sp
def yN(sq:Rat)(es:List Ent)(x n:Nat):Option P2:=nearG sq (yV es x n) (spotsAt (yS sq es x n) (es.getD x E0).layer)
theorem V4{sq:Rat}{es:List Ent}{x:Nat}:yJ sq es x 0=⟨(jA sq es x).sp,[],[]⟩:=by unfold yJ;rw[List.take_zero];rfl
theorem YC{sq:Rat}{es:List Ent}{x:Nat}:yL sq es x 0=aA (es.getD x E0):=by unfold yL;rw[V4];rfl
theorem YN{sq:Rat}{es:List Ent}{x:Nat}:yC sq es x 0=(jA sq es x).cs:=by unfold yC;rw[V4];exact bI _
theorem YE{sq:Rat}{es:List Ent}{x:Nat}:yS sq es x 0=(jA sq es x).sp:=by unfold yS;rw[V4]
theorem QW{es:List Ent}{x n:Nat}(h:n<(aA (es.getD x E0)).length):(aA (es.getD x E0)).drop n=yV es x n ::(aA (es.getD x E0)).drop (n+1):=by
 unfold yV;generalize aA (es.getD x E0)=l at h ⊢;rw[List.drop_eq_getElem_cons h];simp[iI,h]
theorem abH{es:List Ent}{x n:Nat}(h:n<(aA (es.getD x E0)).length):(aA (es.getD x E0)).take (n+1)=(aA (es.getD x E0)).take n++[yV es x n]:=by
 unfold yV;generalize aA (es.getD x E0)=l at h ⊢;rw[J6,fM h];simp[iI,h]
theorem Xe{sq:Rat}{es:List Ent}{x n:Nat}(h:n<(aA (es.getD x E0)).length):yJ sq es x (n+1)=⟨(joinP sq (yS sq es x n) (es.getD x E0).layer (yV es x n)).1,(yJ sq es x n).ws++[(joinP sq (yS sq es x n) (es.getD x E0).layer (yV es x n)).2],(yJ sq es x n).cs++jn x n (yV es x n) (joinP sq (yS sq es x n) (es.getD x E0).layer (yV es x n)).2⟩:=by
 unfold yJ;rw[abH h,wV,pq,kM,Nat.min_eq_left (Nat.le_of_lt h)];rfl
theorem WO{sq:Rat}{es:List Ent}{x n:Nat}(h:n<=(aA (es.getD x E0)).length):(yJ sq es x n).ws.length=n/\(yJ sq es x n).cs.length<=n:=by
 obtain⟨_,_,_,h4,h5⟩:=oQ (q:=λ_=>True) (sq:=sq) (s:=(es.getD x E0).layer) (i:=x) (k:=0) (l:=(aA (es.getD x E0)).take n) (sp:=(jA sq es x).sp) (λ_ _=>trivial) (λ_ _=>trivial);rw[kM,Nat.min_eq_left h]at h4 h5;exact⟨h4,h5⟩
theorem Vl{sq:Rat}{es:List Ent}{x n:Nat}(h:n<=(aA (es.getD x E0)).length):(yL sq es x n).length=(aA (es.getD x E0)).length:=by
 unfold yL;rw[bF,(WO h).1,List.length_drop];omega
theorem mP{sq:Rat}{es:List Ent}{x n:Nat}(h:n<(aA (es.getD x E0)).length):(yL sq es x n).getD n P0=yV es x n:=by
 have hw:=(WO (sq:=sq) (Nat.le_of_lt h)).1;unfold yL;rw[QW h,iI,Ot ω,hw,Nat.sub_self];rfl
theorem Ro{sq:Rat}{es:List Ent}{x n:Nat}(h:n<(aA (es.getD x E0)).length)(hn:yN sq es x n=none):yS sq es x (n+1)=yS sq es x n++[((es.getD x E0).layer,yV es x n)]/\yC sq es x (n+1)=yC sq es x n/\yL sq es x (n+1)=yL sq es x n:=by
 have hj:joinP sq (yS sq es x n) (es.getD x E0).layer (yV es x n)=(yS sq es x n++[((es.getD x E0).layer,yV es x n)],yV es x n):=by
  unfold joinP;unfold yN at hn;rw[hn]
 have hs:=Xe (sq:=sq) h;rw[hj]at hs;refine⟨by unfold yS at hs ⊢;rw[hs], ?_, ?_⟩
 .unfold yC;rw[hs];simp[jn]
 .unfold yL;rw[hs,QW h];simp
theorem Zl{sq:Rat}{es:List Ent}{x n:Nat}(h:n<(aA (es.getD x E0)).length)(hn:yN sq es x n=some (yV es x n)):yS sq es x (n+1)=yS sq es x n/\yC sq es x (n+1)=yC sq es x n/\yL sq es x (n+1)=yL sq es x n:=by
 have hj:joinP sq (yS sq es x n) (es.getD x E0).layer (yV es x n)=(yS sq es x n,yV es x n):=by
  unfold joinP;unfold yN at hn;rw[hn]
 have hs:=Xe (sq:=sq) h;rw[hj]at hs;refine⟨by unfold yS at hs ⊢;rw[hs], ?_, ?_⟩
 .unfold yC;rw[hs];simp[jn]
 .unfold yL;rw[hs,QW h];simp
theorem YP{sq:Rat}{es:List Ent}{x n:Nat}{u:P2}(h:n<(aA (es.getD x E0)).length)(hn:yN sq es x n=some u)(hu:yV es x n≠u):yS sq es x (n+1)=yS sq es x n/\yC sq es x (n+1)=yC sq es x n++[⟨1,x,n,some (yV es x n),some u⟩]/\yL sq es x (n+1)=(yL sq es x n).set n u:=by
 have hj:joinP sq (yS sq es x n) (es.getD x E0).layer (yV es x n)=(yS sq es x n,u):=by
  unfold joinP;unfold yN at hn;rw[hn]
 have hs:=Xe (sq:=sq) h;have hw:=(WO (sq:=sq) (Nat.le_of_lt h)).1;rw[hj]at hs;refine⟨by unfold yS at hs ⊢;rw[hs], ?_, ?_⟩
 .unfold yC;rw[hs];simp[jn,hu]
 .unfold yL;rw[hs,QW h,List.set_append_right _ _ ω,hw,Nat.sub_self];simp
theorem Vs{sq:Rat}{es:List Ent}{x n:Nat}(hx:x<es.length)(h:n=(aA (es.getD x E0)).length):jA sq es (x+1)=⟨yS sq es x n,(jA sq es x).es++[dQ (es.getD x E0) (yL sq es x n)],yC sq es x n⟩:=by
 rw[vw sq es hx];subst h;unfold yS yC yL yJ;rw[xY,List.drop_length,bI]
theorem abV{sq:Rat}{es:List Ent}(h:∀e∈es,okV e){x n:Nat}(hx:x<es.length)(hn:n<=(aA (es.getD x E0)).length):Ju aF (yS sq es x n)/\(∀p∈yL sq es x n,aF p)/\(yS sq es x n).length<=2*x+2/\(yC sq es x n).length<=2*x+2/\(jA sq es x).es.length=x/\aF (yV es x n):=by
 obtain⟨h1,h2,h3,h4,h5⟩:=zk (q:=aF) (sq:=sq) (es:=es) (λe he=>(h e he).2.1) x (Nat.le_of_lt hx);have he:=(h _ (nN hx)).2.1;obtain⟨k1,k2,k3,k4,k5⟩:=oQ (q:=aF) (sq:=sq) (s:=(es.getD x E0).layer) (i:=x) (k:=0) (l:=(aA (es.getD x E0)).take n) h1 (λv hv=>he v (dF (Uh hv)));have h6:=C9 es x;have h7:=nI (es.getD x E0);rw[kM,Nat.min_eq_left hn]at k3 k5;refine⟨k1,λp hp=>?_,by unfold yS yJ;omega,by unfold yC yJ;rw[bF];omega,h5, ?_⟩
 .unfold yL at hp;rcases jP.1 hp with hp|hp
  .exact k2 p hp
  .exact he p (dF (List.mem_of_mem_drop hp))
 .unfold yV
  by_cases hl:n<(aA (es.getD x E0)).length
  .exact he _ (dF (wZ hl))
  .have:(aA (es.getD x E0)).getD n P0=P0:=by
    generalize aA (es.getD x E0)=l at hl ⊢;simp[iI,Nat.le_of_not_lt hl]
   rw[this];exact⟨by decide +kernel,by decide +kernel⟩
theorem VA{sq:Rat}{es:List Ent}{x n:Nat}{u:P2}(h:Ju aF (yS sq es x n))(hv:aF (yV es x n))(hn:yN sq es x n=some u):aF u:=by
 have h2:=(oz (q:=aF) (sq:=sq) (s:=(es.getD x E0).layer) h hv).2.1
 have hj:joinP sq (yS sq es x n) (es.getD x E0).layer (yV es x n)=(yS sq es x n,u):=by
  unfold joinP;unfold yN at hn;rw[hn]
 rw[hj]at h2;exact h2
theorem z_0{l:List Ent}{x:Nat}(h:x<l.length)(hf:dJ (l.getD x E0)=0):BU l.zipIdx (x+1)=BU l.zipIdx x++[(l.getD x E0,x)]/\BX l.zipIdx (x+1)=BX l.zipIdx x:=by
 have h1:=NU (l:=l.zipIdx) (x:=x) (by rw[Qk];exact h) (by rw[Oc h];exact hf);rw[Oc h]at h1;exact h1
theorem z_n{l:List Ent}{x:Nat}(h:x<l.length)(hf:dJ (l.getD x E0)≠0):BU l.zipIdx (x+1)=BU l.zipIdx x/\BX l.zipIdx (x+1)=BX l.zipIdx x++[⟨dJ (l.getD x E0),x,0,none,none⟩]:=by
 obtain⟨k,hk⟩:=Nat.exists_eq_succ_of_ne_zero hf;have h1:=IW (l:=l.zipIdx) (x:=x) (k:=k) (by rw[Qk];exact h) (by rw[Oc h];exact hk);rw[Oc h]at h1;rw[hk];exact h1
def oC(l:List (Ent×Nat))(p:Nat×Nat):Chn:=⟨4,(l.getD p.1 N0).2,p.2,some ((aA (l.getD p.1 N0).1).getD p.2 P0),some ((aA (l.getD p.1 N0).1).getD p.2 P0)⟩
theorem FU{l:List (Ent×Nat)}{x:Nat}(h:x<l.length):(l.map (·.1)).getD x E0=(l.getD x N0).1:=CV h
theorem Dt{l:List (Ent×Nat)}{s:ByteArray}{i k:Nat}{v:P2}:nH l s i k v=nH (l.map (·.1)).zipIdx s i k v:=by
 unfold nH;rw[Qk,aG];congr 1
 funext j
 unfold metAt;rw[List.getElem?_zipIdx,wz];cases l[j]?<;>rfl
theorem Zb{l:List (Ent×Nat)}{i:Nat}(hi:i<l.length):opn l i=(EO (l.map (·.1)) i (aA (l.getD i N0).1).length).map (oC l):=by
 have h1:=nZ hi;have hm:=FU hi;have hi':i<(l.map (·.1)).length:=by rw[aG];exact hi
 unfold opn;rw[h1];simp only;rcases iV (l.getD i N0).1 with hE|⟨a,b,hE⟩
 .rw[hE];rfl
 .rw[hE];simp only[bn,bG];unfold EO tC;have e0:Pz (l.map (·.1)) i 0=nH l (l.getD i N0).1.layer i 0 a:=by rw[Dt,<-hm,Ig hi'];unfold Pz;rw[hm,hE];rfl
  have e1:Pz (l.map (·.1)) i 1=nH l (l.getD i N0).1.layer i 1 b:=by rw[Dt,<-hm,Ig hi'];unfold Pz;rw[hm,hE];rfl
  have c0:oC l (i,0)=⟨4,(l.getD i N0).2,0,some a,some a⟩:=by unfold oC;simp only;rw[hE];rfl
  have c1:oC l (i,1)=⟨4,(l.getD i N0).2,1,some b,some b⟩:=by unfold oC;simp only;rw[hE];rfl
  rw[<-e0,<-e1];simp only[PE,List.range_zero,mX,JZ,bH];cases hA:Pz (l.map (·.1)) i 0<;>cases hB:Pz (l.map (·.1)) i 1<;>simp[hA,hB,c0,c1]
theorem XM(l:List (Ent×Nat)):zy l=(zu (l.map (·.1))).map (oC l):=by
 unfold zy zu uM;rw[aG,bH,List.map_flatMap];simp only[EO,List.range_zero,List.filter_nil,bV,bI];rw[List.flatMap_def,List.flatMap_def];refine congrArg List.flatten (List.map_congr_left λi hi=>?_);have hi':i<l.length:=by simpa using hi
 have:=Zb hi';unfold EO at this;rw[this,FU hi']
theorem adF{l:List (Ent×Nat)}{ps:List (Nat×Nat)}{x:Nat}(h:x<ps.length):(ps.take (x+1)).map (oC l)=(ps.take x).map (oC l)++[oC l (ps.getD x (0,0))]:=by
 rw[J6,fM h,bH];simp[iI,h]
theorem Yi{l:List Ent}:∀p∈zu l,p.1<l.length/\p.2<(aA (l.getD p.1 E0)).length:=by
 intro p hp;unfold zu uM at hp;rcases jP.1 hp with hp|hp
 .obtain⟨i,hi,hp⟩:=List.mem_flatMap.1 hp;unfold EO at hp;obtain⟨k,hk,rfl⟩:=dR.1 hp;exact⟨by simpa using hi,by simpa using(yg.1 hk).1⟩
 .simp[EO]at hp
@[reducible] def eC(p:Ent × Nat):List Cell:=aK p.1
@[reducible] def nC(p:Ent × Nat):List Cell:=[.v (.int .i64 (p.2:Nat))]
theorem Fg(l:List (Ent×Nat)):l.map eC=(l.map (·.1)).map aK:=by rw[List.map_map];rfl
theorem Y3(tol:Rat)(es:List Ent):(jA (tol*tol) es es.length).es.zipIdx=jZ tol es:=by unfold jZ;rw[kP]
theorem WB(tol:Rat)(es:List Ent):(jA (tol*tol) es es.length).es.length=es.length:=by rw[kP,oL]
def yR(tol:Rat)(es:List Ent)(x:Nat):List Chn:=(jA (tol*tol) es es.length).cs++BX (jA (tol*tol) es es.length).es.zipIdx x
def yK(tol:Rat)(es:List Ent)(x:Nat):List (Ent×Nat):=BU (jA (tol*tol) es es.length).es.zipIdx x
theorem QE{tol:Rat}{es:List Ent}:yK tol es 0=[]:=by unfold yK BU mV;simp
theorem ZV{tol:Rat}{es:List Ent}:yR tol es 0=(jA (tol*tol) es es.length).cs:=by unfold yR BX mO;simp
theorem Xn{tol:Rat}{es:List Ent}:yK tol es es.length=jK tol es/\yR tol es es.length=pU tol es 0:=by
 unfold yK yR;rw[Y3,LJ,kP];have h:=wY tol es;refine⟨?_, ?_⟩
 .rw[<-h,Ac];rfl
 .rw[<-h,Ah]
theorem ad6{tol:Rat}{es:List Ent}{x:Nat}(h:x<es.length)(hf:dJ ((jA (tol*tol) es es.length).es.getD x E0)=0):yK tol es (x+1)=yK tol es x++[((jA (tol*tol) es es.length).es.getD x E0,x)]/\yR tol es (x+1)=yR tol es x:=by
 obtain⟨h1,h2⟩:=z_0 (l:=(jA (tol*tol) es es.length).es) (x:=x) (by rw[WB];exact h) hf;unfold yK yR;rw[h1,h2];exact⟨rfl,rfl⟩
theorem ab3{tol:Rat}{es:List Ent}{x:Nat}(h:x<es.length)(hf:dJ ((jA (tol*tol) es es.length).es.getD x E0)≠0):yK tol es (x+1)=yK tol es x/\yR tol es (x+1)=yR tol es x++[⟨dJ ((jA (tol*tol) es es.length).es.getD x E0),x,0,none,none⟩]:=by
 obtain⟨h1,h2⟩:=z_n (l:=(jA (tol*tol) es es.length).es) (x:=x) (by rw[WB];exact h) hf;unfold yK yR;rw[h1,h2,jQ];exact⟨rfl,rfl⟩
theorem Vy{tol:Rat}{es:List Ent}(h:∀e∈es,okV e)(x:Nat):(yK tol es x).length<=es.length/\(yR tol es x).length<=3*es.length:=by
 have h1:=wH (jZ tol es) x;have h2:=(rH (tol:=tol) h 0).1;have h3:=wY tol es;unfold yK yR;rw[Y3,kP,bF];omega
theorem Yo{tol:Rat}{es:List Ent}(h:∀e∈es,okV e){x:Nat}(hx:x<es.length):okV ((jA (tol*tol) es es.length).es.getD x E0):=by
 rw[kP];exact Nq h _ (nN (by rw[oL];exact hx))
def yO(tol:Rat)(es:List Ent)(x:Nat):List Chn:=pU tol es (jK tol es).length++((zu ((jL tol es).map (·.1))).take x).map (oC (jL tol es))
theorem aax{tol:Rat}{es:List Ent}:yO tol es 0=pU tol es (jK tol es).length:=by unfold yO;simp
theorem adA{tol:Rat}{es:List Ent}{x:Nat}(h:x<(zu ((jL tol es).map (·.1))).length):yO tol es (x+1)=yO tol es x++[oC (jL tol es) ((zu ((jL tol es).map (·.1))).getD x (0,0))]:=by
 unfold yO;rw[adF h,jQ]
theorem Wi{tol:Rat}{es:List Ent}:yO tol es (zu ((jL tol es).map (·.1))).length=(aO (tol*tol) es).cs:=by
 unfold yO;rw[xY,<-XM,(tq tol es).2]
theorem ab4{tol:Rat}{es:List Ent}{x:Nat}(h:x<(zu ((jL tol es).map (·.1))).length):((zu ((jL tol es).map (·.1))).getD x (0,0)).1<(jL tol es).length/\((zu ((jL tol es).map (·.1))).getD x (0,0)).2<(aA ((jL tol es).getD ((zu ((jL tol es).map (·.1))).getD x (0,0)).1 N0).1).length:=by
 have hm:(zu ((jL tol es).map (·.1))).getD x (0,0)∈zu ((jL tol es).map (·.1)):=by simp[iI,h]
 obtain⟨h1,h2⟩:=Yi _ hm;rw[aG]at h1;rw[FU h1]at h2;exact⟨h1,h2⟩
theorem XA{tol:Rat}{es:List Ent}(h3:es.length<=12)(h:∀e∈es,okV e)(x:Nat):(yO tol es x).length<=100/\(zu ((jL tol es).map (·.1))).length<=24:=by
 have h1:=(rH (tol:=tol) h (jK tol es).length).2.2;have h2:=RV ((jL tol es).map (·.1));have h4:=sJ tol es;rw[aG]at h2;unfold yO;rw[bF,aG,kM];omega
section
variable {cf cg ct cu bf bg bt bu x y:Rat} {cfz ctz cr bfz btz br:Int}
end
section
variable {a b c d m n e f:Rat}
end
structure Cut7 where
 fx:Int
 fy:Int
 fz:Int
 tx:Int
 ty:Int
 tz:Int
 r:Int
section
variable {cf cg ct cu bf bg bt bu x y:Rat} {cfz ctz cr bfz btz br:Int}
end
section
variable {a b c d e f m n:Rat}
end
section
variable {x y:Rat} {L:List Cut7} {o:Rt} {k:Nat}
end
open Go.RowKit
theorem all_map{α:Type}{f:α->List Cell}{p:α->Prop}:∀{es:List (List Cell)},(∀x∈es,∃a,p a/\x=f a)->∃L:List α,L.length=es.length/\(∀a∈L,p a)/\es=L.map f
 |[],_=>⟨[],rfl,λa h=>by simp at h,rfl⟩
 |e::r,h=>by
  obtain⟨a,ha,rfl⟩:=h e η;obtain⟨L,l1,l2,l3⟩:=all_map (es:=r) λx hx=>h x (by simp[hx])
  exact⟨a::L,by simp[l1],λb hb=>by rcases pV.1 hb with rfl|hb;exact ha;exact l2 b hb,by simp[l3]⟩
abbrev YT:TS:=.cons .bool (.cons (.slice (.int .u32)) .nil)
abbrev Tv:TS:=.cons YT (.cons YT .nil)
abbrev Xh:TS:=.cons Tv (.cons Tv .nil)
abbrev Vq:TS:=.cons (.int .i64) (.cons .str (.cons (.slice Xh) (.cons Tv .nil)))
abbrev Zm:TS:=.cons .str (.cons (.int .i64) (.cons (.int .i64) .nil))
theorem BA{cs:List Cell}(h:Fit Tv cs):∃r:Rq,cs=Gs r:=by
 obtain⟨_,_,⟨_,_,⟨a,rfl⟩,⟨_,_,h1,rfl,rfl⟩,rfl⟩,⟨_,_,⟨_,_,⟨b,rfl⟩,⟨_,_,h2,rfl,rfl⟩,rfl⟩,rfl,rfl⟩,rfl⟩:=h;obtain⟨l,_,_,rfl⟩:=fit_limbs h1;obtain⟨m,_,_,rfl⟩:=fit_limbs h2;exact⟨⟨a,l,b,m⟩,rfl⟩
theorem SA{cs:List Cell}(h:Fit Xh cs):∃p:Rq×Rq,cs=iY p:=by
 obtain⟨_,_,h1,⟨_,_,h2,rfl,rfl⟩,rfl⟩:=h;obtain⟨r,rfl⟩:=BA h1;obtain⟨s,rfl⟩:=BA h2;exact⟨(r,s),rfl⟩
theorem KR{cs:List Cell}(h:Fit (.slice Xh) cs):∃l:List (Rq×Rq),cs=[.sl 8 (l.map iY)]:=by
 obtain⟨es,h1,h2,rfl⟩:=h
 obtain⟨L,l1,l2,l3⟩:=all_map (f:=iY) (p:=λ_=>True) (es:=es) λx hx=>by
  obtain⟨p,rfl⟩:=SA (h2 x hx);exact⟨p,trivial,rfl⟩
 exact⟨L,by rw[l3];rfl⟩
theorem Qq{cs:List Cell}(h:Fit Vq cs):∃e:EntR,cs=aY e∧-9223372036854775808<=e.kind/\e.kind<=9223372036854775807:=by
 obtain⟨_,_,⟨k,wk,rfl⟩,⟨_,_,⟨s,_,rfl⟩,⟨_,_,h1,⟨_,_,h2,rfl,rfl⟩,rfl⟩,rfl⟩,rfl⟩:=h;obtain⟨l,rfl⟩:=KR h1;obtain⟨r,rfl⟩:=BA h2;exact⟨⟨k,s,l,r⟩,rfl,wfI64 wk⟩
theorem Pq{cs:List Cell}(h:Fit (.slice Zm) cs):∃l:List LayD,cs=[.sl 3 (l.map aV)]:=by
 obtain⟨es,h1,h2,rfl⟩:=h
 obtain⟨L,l1,l2,l3⟩:=all_map (f:=aV) (p:=λ_=>True) (es:=es) λx hx=>by
  obtain⟨_,_,⟨s,_,rfl⟩,⟨_,_,⟨k,_,rfl⟩,⟨_,_,⟨d,_,rfl⟩,rfl,rfl⟩,rfl⟩,rfl⟩:=h2 x hx;exact⟨⟨s,k,d⟩,trivial,rfl⟩
 exact⟨L,by rw[l3];rfl⟩
theorem Mc{cs:List Cell}(h:Fit (.slice Vq) cs):∃l:List EntR,cs=[.sl 7 (l.map aY)]:=by
 obtain⟨es,h1,h2,rfl⟩:=h
 obtain⟨L,l1,l2,l3⟩:=all_map (f:=aY) (p:=λ_=>True) (es:=es) λx hx=>by
  obtain⟨e,rfl,_⟩:=Qq (h2 x hx);exact⟨e,trivial,rfl⟩
 exact⟨L,by rw[l3];rfl⟩
theorem SS{cs:List Cell}(h:Fit (.cons (.slice Zm) (.cons (.slice Vq) .nil)) cs):∃(ls:List LayD) (es:List EntR),cs=[.sl 3 (ls.map aV),.sl 7 (es.map aY)]:=by
 obtain⟨_,_,h1,⟨_,_,h2,rfl,rfl⟩,rfl⟩:=h;obtain⟨ls,rfl⟩:=Pq h1;obtain⟨es,rfl⟩:=Mc h2;exact⟨ls,es,rfl⟩
theorem zD{α β:Type}{f g:α->β}:∀{xs:List α} {j:Nat} {u:β},(xs.flatMap λp=>[f p,g p])[j]?=some u->∃i p,xs[i]?=some p/\((j=2*i/\u=f p)\/(j=2*i+1/\u=g p))
 |[],j,u,h=>by simp at h
 |x::r,0,u,h=>by
  simp at h;exact⟨0,x,rfl,.inl ⟨rfl,h.symm⟩⟩
 |x::r,1,u,h=>by
  simp at h;exact⟨0,x,rfl,.inr ⟨rfl,h.symm⟩⟩
 |x::r,j+2,u,h=>by
  have h':(r.flatMap λp=>[f p,g p])[j]?=some u:=by simpa using h
  obtain⟨i,p,h1,h2⟩:=zD h'
  exact⟨i+1,p,by simpa using h1,by
   rcases h2 with⟨rfl,rfl⟩|⟨rfl,rfl⟩
   .exact .inl ⟨ω,rfl⟩
   .exact .inr ⟨ω,rfl⟩⟩
theorem QL{P:Program}{W:World}{l:List (String×DataW Unit)}{nm:String}{xs:List (ByteArray×Int)}{g:Nat}{t e:TypeId}{f0 f1:Field}(h:laidMet P l W)(hm:(nm,DataW.agg (xs.map λp => .agg [.lit (.string p.1.data.toList),.lit (.int .i64 p.2)]))∈l)
 (hg:P.globalNamed nm=some g) (htg:(P.globals[g]?).map (·.type)=some t) (ht:P.underlying t=some (.array xs.length e)) (he:P.underlying e=some (.struct #[f0,f1])) (hs:P.underlying f0.type=some .string) (hi:P.underlying f1.type=some (.int .i64))
 (o0:f0.offset=0) (o1:f1.offset=1) (c0:P.cellsOf f0.type=1) (c1:P.cellsOf f1.type=1) (ce:P.cellsOf e=2) :
 ∀(j:Nat) u,(xs.flatMap λp=>[Value.string p.1,Value.int .i64 p.2])[j]?=some u->W.cell? ((⟨g,0,none⟩:Addr).add j)=some u:=by
 obtain⟨ps,hl,_⟩:=h;obtain⟨g0,t0,cs,fuel,p,hg0,ht0,hv,hd⟩:=laid_mem hl _ hm;obtain rfl:=Jv (hg.symm.trans hg0);obtain rfl:=Jv (htg.symm.trans ht0);obtain⟨ys,m,_,ex,hlen,hxl,hel⟩:=DataW.trod_array ht hd
 have e1:xs.map (λp=>DataW.agg (H:=Unit) [.lit (.string p.1.data.toList),.lit (.int .i64 p.2)])=ys.map (·.1):=by
  have:=(Prod.mk.inj ex).1;exact DataW.agg.inj this
 intro j u hj;obtain⟨i,q,hq,hju⟩:=zD hj;have hi':i<xs.length:=(jG.1 hq).1;have h3:=hel i hi';rw[ce]at h3;have hy:ys[i]?=some ys[i]:=fM ω;rw[hy]at h3;obtain⟨y0,y1,n,ey,hcl,k0,k1⟩:=Go.ChangeShapes.trod_struct2 he h3;obtain⟨s,a0,b0,_⟩:=DataW.trod_string hs k0;obtain⟨z,a1,b1,_⟩:=DataW.trod_int hi k1;rw[o0,c0]at a0;rw[o1,c1]at a1;have h4:(xs.map (λp=>DataW.agg (H:=Unit) [.lit (.string p.1.data.toList),.lit (.int .i64 p.2)]))[i]?=(ys.map (·.1))[i]?:=by rw[e1]
 rw[wz,wz,hq,hy,ey,b0,b1]at h4;simp at h4;obtain⟨h5,h6⟩:=h4
 have h7:s=q.1:=by
  obtain⟨⟨sl⟩⟩:=s;obtain⟨⟨⟨ql⟩⟩,qn⟩:=q;simp at h5;rw[h5]
 subst h6 h7
 have g0':cs.toList[2*i]?=some (.string q.1):=by
  have h8:((((cs.toList.drop (i*2)).take 2).drop 0).take 1)[0]?=some (.string q.1):=by rw[a0];rfl
  rw[J3,List.take_take,wL,if_pos ψ,BL,OY,yB]at h8;exact h8
 have g1':cs.toList[2*i+1]?=some (.int .i64 q.2):=by
  have h8:((((cs.toList.drop (i*2)).take 2).drop 1).take 1)[0]?=some (.int .i64 q.2):=by rw[a1];rfl
  rw[wL,if_pos ψ,BL,wL,if_pos ψ,BL,yB]at h8;exact h8
 have hadd:(⟨g,0,none⟩:Addr).add j=⟨g,j,none⟩:=by
  unfold Addr.add;split
  .rename_i h;rw[h]
  .simp
 rw[hadd,World.var?_cell hg hv j];rcases hju with⟨rfl,rfl⟩|⟨rfl,rfl⟩
 .rw[<-g0',Array.getElem?_toList]
 .rw[<-g1',Array.getElem?_toList]
end Go.Sw
namespace Go.Proofs.YtmniihkenijjpaaGreatDoor
open Go Go.RowKit Go.Sw Go.Shelf
set_option maxRecDepth 100000
set_option maxHeartbeats 16000000
def ZC:Go.Shelf.Ren:=⟨λn=>if n=283 then 350 else n,λn=>n,λn=>n⟩
theorem XF:Go.Proofs.Lays.n283 Tryz.prog ZC where
 mixed:=aQ
 f283:=uo Tryz.func350 (congrArg some (Eq.refl _))
 t3:=Tryz.underlying3
 a3:=Tryz.isAgg3
 z3:=Tryz.sizeOf3
 v3:=Tryz.zeroValue3
 t4:=Tryz.underlying4
 a4:=Tryz.isAgg4
 z4:=Tryz.sizeOf4
 v4:=Tryz.zeroValue4
 t9:=Tryz.underlying9
 a9:=Tryz.isAgg9
 z9:=Tryz.sizeOf9
 v9:=Tryz.zeroValue9
instance(priority:=2000) sN:Wld Tryz.prog:=⟨λw=>Lib.TabIs Tryz.prog w "internal/strconv.uint64pow10" .u64 Lib.pow10Tab,λh hb=>tab_keep h hb,[],λ_ _ _ h=>by cases h⟩
instance ad4{f:FuncId}{xs:List AV}{pre:Prop}{r:AV}[h : @DenI Tryz.prog LD f xs pre r]:@DenI Tryz.prog sN f xs pre r:=⟨λhp=>den_lift LD sN (λ_ _=>trivial) (h.den hp)⟩
def tabs:Tab:=tab
theorem IZ : @tabOk Tryz.prog sN tabs=true:=ζ
theorem Oz(u:Nat)(h1:u<100)(w:World):Calls Tryz.prog 325 #[.int .u64 u,.int .i64 10] w λe w'=>e=.returned (.string ⟨(Lib.decDigits u).toArray⟩)/\Below w.heap.size w w':=by
 have hlt:(u:Int)<100:=ω
 go_enter Tryz.func325,Tryz.ntmps325
 go_wp2_with (go_at_call 350;refine(Any.internal_strconv_small XF u h1 _).mono ?_;rintro e w' ⟨rfl,rfl⟩)
 go_ret
 exact⟨rfl,Below.refl _ _⟩
theorem VW(u:Nat)(hu:u<18446744073709551616)(w:World)(hW:Wld.ok Tryz.prog w):Calls Tryz.prog 325 #[.int .u64 u,.int .i64 10] w λe w'=>e=.returned (.string (nO u))/\Below w.heap.size w w':=by
 by_cases h:u<100
 .exact Oz u h w
 .exact Qj u ω hu w hW
instance afq(z:Int):DenI Tryz.prog 325 [.c (.v (.int .u64 z)),.c (.v (.int .i64 10))] (0<=z/\z<18446744073709551616) (.c (.v (.string (nO z.toNat)))):=⟨λhp=>by
 obtain⟨n,rfl⟩:=Int.eq_ofNat_of_zero_le hp.1;refine Den.of ⟨ζ,λw X vs hW hX hl hr=>?_⟩ rfl
 match vs,hl with
 |[u,v],_ =>
 have hu:u=.int .u64 (n:Nat):=by
  have:=hr 0 u _ rfl rfl;cases this with
  |c h=>cases h;rfl
 have hv:v=.int .i64 10:=by
  have:=hr 1 v _ rfl rfl;cases this with
  |c h=>cases h;rfl
 subst hu hv;refine Calls.mono (VW n ω w hW) ?_;rintro e w' ⟨rfl,hb⟩
 exact⟨_,rfl,(RepR.d (.c (.v _ rfl))).f,hb⟩⟩
instance adN(z:Int):DenI Tryz.prog 289 [.int .u64 z,.int .i64 10] (0<=z/\z<18446744073709551616) (.c (.v (.string (nO z.toNat)))):=⟨λhp=>by
 refine den_of (τ:=tabs) IZ aQ Tryz.func289 rfl ζ ζ ζ ?_
 all_goals(repeat'((try(conv=>whnf));first
  |refine zaa ?_ ?_|apply zaq))
 all_goals(try apply zar)
 .exact hp
 .rfl⟩
theorem FUa{m:Nat}(hm:m<18446744073709551616)(w:World)(hW:Wld.ok Tryz.prog w):Calls Tryz.prog 289 #[.int .u64 m,.int .i64 10] w λe w'=>e=.returned (.string (nO m))/\Below w.heap.size w w':=by
 have h:=((adN (m:Int)).den ⟨ω,ω⟩).old rfl;refine(h.2 w [] [.int .u64 m,.int .i64 10] hW η rfl (λi u v hu hv=>?_)).mono ?_
 .match i,hu,hv with
  |0,hu,hv=>simp at hu hv;subst hu hv;exact .c (.v _ rfl)
  |1,hu,hv=>simp at hu hv;subst hu hv;exact .c (.v _ rfl)
 .rintro e w' ⟨u,rfl,hu,hb⟩;refine⟨?_,hb⟩;cases hu.r with
  |d h=>cases h with
   |c h=>cases h;rfl
def TY:Go.Shelf.Ren:=⟨λn=>if n=99 then 292 else if n=105 then 256 else if n=165 then 293 else if n=166 then 288 else if n=169 then 290 else if n=170 then 294 else if n=206 then 328 else if n=212 then 291 else if n=240 then 324 else if n=241 then 329 else if n=263 then 326 else if n=264 then 327 else if n=276 then 349 else if n=277 then 354 else n,λn=>if n=37 then 270 else if n=46 then 228 else if n=51 then 154 else if n=53 then 152 else if n=70 then 269 else if n=72 then 272 else if n=80 then 279 else if n=75 then 274 else if n=76 then 276 else if n=109 then 280 else if n=127 then 315 else if n=146 then 316 else if n=148 then 318 else if n=164 then 337 else n,λn=>n⟩
theorem Nv:Go.Proofs.Lays.n105 Tryz.prog TY where
 mixed:=aQ
 f99:=uo Tryz.func292 (congrArg some (Eq.refl _))
 f105:=uo Tryz.func256 (congrArg some (Eq.refl _))
 f165:=uo Tryz.func293 (congrArg some (Eq.refl _))
 f166:=uo Tryz.func288 (congrArg some (Eq.refl _))
 f169:=uo Tryz.func290 (congrArg some (Eq.refl _))
 f170:=uo Tryz.func294 (congrArg some (Eq.refl _))
 f206:=uo Tryz.func328 (congrArg some (Eq.refl _))
 f212:=uo Tryz.func291 (congrArg some (Eq.refl _))
 f240:=uo Tryz.func324 (congrArg some (Eq.refl _))
 f241:=uo Tryz.func329 (congrArg some (Eq.refl _))
 f263:=uo Tryz.func326 (congrArg some (Eq.refl _))
 f264:=uo Tryz.func327 (congrArg some (Eq.refl _))
 f276:=uo Tryz.func349 (congrArg some (Eq.refl _))
 f277:=uo Tryz.func354 (congrArg some (Eq.refl _))
 t0:=Tryz.underlying0
 a0:=Tryz.isAgg0
 z0:=Tryz.sizeOf0
 v0:=Tryz.zeroValue0
 t3:=Tryz.underlying3
 a3:=Tryz.isAgg3
 z3:=Tryz.sizeOf3
 v3:=Tryz.zeroValue3
 t4:=Tryz.underlying4
 a4:=Tryz.isAgg4
 z4:=Tryz.sizeOf4
 v4:=Tryz.zeroValue4
 t5:=Tryz.underlying5
 a5:=Tryz.isAgg5
 z5:=Tryz.sizeOf5
 v5:=Tryz.zeroValue5
 t9:=Tryz.underlying9
 a9:=Tryz.isAgg9
 z9:=Tryz.sizeOf9
 v9:=Tryz.zeroValue9
 t20:=Tryz.underlying20
 a20:=Tryz.isAgg20
 z20:=Tryz.sizeOf20
 v20:=Tryz.zeroValue20
 t37:=Tryz.underlying270
 a37:=Tryz.isAgg270
 z37:=Tryz.sizeOf270
 v37:=Tryz.zeroValue270
 t46:=Tryz.underlying228
 a46:=Tryz.isAgg228
 z46:=Tryz.sizeOf228
 v46:=Tryz.zeroValue228
 t51:=Tryz.underlying154
 a51:=Tryz.isAgg154
 z51:=Tryz.sizeOf154
 v51:=Tryz.zeroValue154
 t53:=Tryz.underlying152
 a53:=Tryz.isAgg152
 z53:=Tryz.sizeOf152
 v53:=Tryz.zeroValue152
 t70:=Tryz.underlying269
 a70:=Tryz.isAgg269
 z70:=Tryz.sizeOf269
 v70:=Tryz.zeroValue269
 t72:=Tryz.underlying272
 a72:=Tryz.isAgg272
 z72:=Tryz.sizeOf272
 v72:=Tryz.zeroValue272
 t75:=Tryz.underlying274
 a75:=Tryz.isAgg274
 z75:=Tryz.sizeOf274
 v75:=Tryz.zeroValue274
 t76:=Tryz.underlying276
 a76:=Tryz.isAgg276
 z76:=Tryz.sizeOf276
 v76:=Tryz.zeroValue276
 t109:=Tryz.underlying280
 a109:=Tryz.isAgg280
 z109:=Tryz.sizeOf280
 v109:=Tryz.zeroValue280
 t127:=Tryz.underlying315
 a127:=Tryz.isAgg315
 z127:=Tryz.sizeOf315
 v127:=Tryz.zeroValue315
 t146:=Tryz.underlying316
 a146:=Tryz.isAgg316
 z146:=Tryz.sizeOf316
 v146:=Tryz.zeroValue316
 t148:=Tryz.underlying318
 a148:=Tryz.isAgg318
 z148:=Tryz.sizeOf318
 v148:=Tryz.zeroValue318
 t164:=Tryz.underlying337
 a164:=Tryz.isAgg337
 z164:=Tryz.sizeOf337
 v164:=Tryz.zeroValue337
theorem Ut:Builder.Extra Tryz.prog TY where
 sizeBuilder:=ζ
 liesBuilder:=ζ
 t5:=Tryz.underlying5
 a5:=Tryz.isAgg5
 z5:=Tryz.sizeOf5
 v5:=Tryz.zeroValue5
 infoByte:=ζ
 cellsByte:=ζ
 sizeByte:=ζ
 neB5:=ψ
theorem Y0{k:Nat}(hk:k<=9)(w:World):Calls Tryz.prog 256 #[.string ⟨#[48]⟩,.int .i64 k] w λe w'=>e=.returned (.string ⟨(List.replicate k (48:UInt8)).toArray⟩)/\Below w.heap.size w w':=by
 refine(Any.strings_Repeat Nv Ut ⟨#[48]⟩ k w ω (by show 1*k<=_;omega)).mono ?_;rintro e w' ⟨rfl,hb⟩;refine⟨?_,hb⟩
 have:Lib.repeatL [(48:UInt8)] k=List.replicate k 48:=by
  have:∀k:Nat,k<=9->Lib.repeatL [(48:UInt8)] k=List.replicate k 48:=by decide +kernel
  exact this k hk
 rw[show(ByteArray.mk #[48]).data.toList=[(48:UInt8)]from rfl,this]
theorem MK:(Tryz.prog.info? 272).map (λi=>i.size)=some 2:=ζ
theorem XY:liesAt Tryz.prog Tryz.prog.depth 272 (2/Tryz.prog.cellsOf 272) 0 272 1=true:=ζ
theorem Kw(b:Nat)(w:World)(h0:w.cell? ⟨b,0,none⟩=some (.pointer (some ⟨b,0,none⟩))):
 Calls Tryz.prog 324 #[.pointer (some ⟨b,0,none⟩)] w λe w'=>e=.returned (.tuple #[])/\w'=w:=by
 obtain⟨j,hj,_⟩:=Option.map_eq_some_iff.1 MK
 go_enter Tryz.func324,Tryz.ntmps324
 go_wp2
 rw[Lib.run_neq_ptr_same w _ Tryz.underlying269 hj]
 go_wp2
 go_end0
 exact⟨rfl,rfl⟩
theorem JB(b:Nat)(w:World)(h0:w.cell? ⟨b,0,none⟩=some (.pointer none))(hsh:w.shape? b=some (272,2))(hfz:w.frozen? ⟨b,0,none⟩=false):
 Calls Tryz.prog 324 #[.pointer (some ⟨b,0,none⟩)] w λe w'=>e=.returned (.tuple #[])/\w'=w.setCell ⟨b,0,none⟩ (.pointer (some ⟨b,0,none⟩)):=by
 obtain⟨j,hj,hjs⟩:=Option.map_eq_some_iff.1 MK
 go_enter Tryz.func324,Tryz.ntmps324
 go_wp2
 rw[Lib.run_to_unsafe w ⟨b,0,none⟩ Tryz.underlying269 Tryz.underlying337 hj (by rw[hjs];decide) hsh (Nat.zero_lt_succ 1)];simp only[Result.andThen];rw[Oper.upon_value]
 go_wp2
 rw[run_callFunc_extern Tryz.func349 ζ ζ ζ (e:=Extern.AbiNoEscape.same) ζ];rw[Lib.run_noEscape];simp only[Result.andThen];rw[Oper.upon_value]
 go_wp2
 rw[Lib.run_from_unsafe w ⟨b,0,none⟩ Tryz.underlying337 Tryz.underlying269 hj hsh XY];simp only[Result.andThen];rw[Oper.upon_value]
 go_wp2
 go_end0
 exact⟨rfl,rfl⟩
theorem cc_(B b:Nat)(bs:List Value)(w:World)(h:Lib.IsBuilder 272 5 B b bs w):
 Calls Tryz.prog 324 #[.pointer (some ⟨b,0,none⟩)] w λe w'=>e=.returned (.tuple #[])/\(Lib.BuilderAt 272 5 B b (.pointer (some ⟨b,0,none⟩)) bs w'/\Below B w w'):=by
 rcases h with h|h
 .refine(JB b w h.cell0 h.shape h.frozen0).mono ?_;rintro e w' ⟨rfl,rfl⟩;exact⟨rfl,h.used _,(Below.refl B w).setCell (p:=⟨b,0,none⟩) h.1 _⟩
 .refine(Kw b w h.cell0).mono ?_;rintro e w' ⟨rfl,rfl⟩;exact⟨rfl,h,Below.refl _ _⟩
theorem KP:∃i0,Tryz.prog.info? 5=some i0/\i0.zero=some (.int .u8 0)/\i0.size=1/\i0.bytes=1:=info_parts ζ
theorem zA(w:World){b:Nat}{x y:Value}(h:w.heap[b]?=some (.cells #[x,y] 272 (0,0))):b<w.heap.size:=by
 rcases yP b w.heap.size with h'|h'
 .exact h'
 .simp[Array.getElem?_eq_none h']at h
theorem wb_(B b:Nat)(bs:List Value)(c:Int)(w:World)(h:Lib.IsBuilder 272 5 B b bs w)(hlen:bs.length+1<=1000000)(hBw:B<=w.heap.size):
 Calls Tryz.prog 287 #[.pointer (some ⟨b,0,none⟩),.int .u8 c] w λe w'=>e=.returned .nilIface/\(Lib.BuilderAt 272 5 B b (.pointer (some ⟨b,0,none⟩)) (bs++[.int .u8 c]) w'/\Below B w w'):=by
 obtain⟨i0,hi,hz0,hz1,hz2⟩:=KP
 go_enter Tryz.func287,Tryz.ntmps287
 go_wp2_with (go_at_call 324;refine(cc_ B b bs _ h).mono ?_)
 rintro e w1 ⟨rfl,h1,hb1⟩;obtain⟨hB,v,hbk,hown,hne⟩:=h1;have c0:w1.cell? ⟨b,0,none⟩=some (.pointer (some ⟨b,0,none⟩)):=by rw[Lib.cell_of_heap hbk];rfl
 have c1:w1.cell? ⟨b,1,none⟩=some v:=by rw[Lib.cell_of_heap hbk];rfl
 go_wp2_with (at_builtin;refine wpList_append_own _ rfl _ _ 270 rfl B 5 i0 (.int .u8 0) 1 1 Tryz.underlying270 hi hz0 hz1 hz2 rfl ψ _ _ _ rfl (hown.alloc _) ⟨w1.heap.size,0,none⟩ 1 1 [.int .u8 c] rfl rfl ?c1 ?c2 ?c3 ?c4 ?c5 ?_)
 case c1 =>
  intro j u hj
  match j,hj with
  |0,hj=>simp at hj;subst hj;simp[Addr.add]
 case c2=>intro u hu;simp at hu;subst hu;rfl
 case c3=>unfold maxLen;omega
 case c4=>omega
 case c5=>have:=hb1.size;simp;omega
 intro v' w2 hown' hgrow _;have hlt:=zA w1 hbk
 have hb2:w2.heap[b]?=some (.cells #[.pointer (some ⟨b,0,none⟩),v] 272 (0,0)):=by
  rw[hgrow.block b κ (λe=>hne e.symm),Lib.alloc_old w1 _ b hlt];exact hbk
 have d0:w2.cell? ⟨b,0,none⟩=some (.pointer (some ⟨b,0,none⟩)):=by rw[Lib.cell_of_heap hb2];rfl
 have d1:w2.cell? ⟨b,1,none⟩=some v:=by rw[Lib.cell_of_heap hb2];rfl
 have f1:w2.frozen? ⟨b,1,none⟩=false:=Lib.frozen_of_heap hb2 1
 obtain⟨g,cap,rfl⟩:∃g cap,v'=.slice (some ⟨g,0,none⟩) (bs.length+1) cap:=by
  rcases hown'.2 with⟨_,h0⟩|⟨g,cap,cur,hv,_⟩
  .omega
  .exact⟨g,cap,hv⟩
 go_wp2
 go_ret
 refine⟨rfl, ?_, ?_⟩
 .exact Lib.BuilderAt.put (T:=272) (e:=5) hB hb2 (bs':=bs++[.int .u8 c]) (by simpa using hown') ψ
 .exact((hb1.alloc (by have:=hb1.size;omega) _).grown hgrow (by have:=hb1.size;simp;omega) (λk hk=>(hown.lt k hk).1)).setCell (p:=⟨b,1,none⟩) hB _
theorem Yb(B b:Nat)(bs:List Value)(s:ByteArray)(w:World)(h:Lib.IsBuilder 272 5 B b bs w)(hlen:bs.length+s.size<=1000000)(hBw:B<=w.heap.size):
 Calls Tryz.prog 288 #[.pointer (some ⟨b,0,none⟩),.string s] w λe w'=>e=.returned (.tuple #[.int .i64 s.size,.nilIface])/\(Lib.BuilderAt 272 5 B b (.pointer (some ⟨b,0,none⟩)) (bs++Lib.strCells s) w'/\Below B w w'):=by
 obtain⟨i0,hi,hz0,hz1,hz2⟩:=KP
 go_enter Tryz.func288,Tryz.ntmps288
 go_wp2_with (go_at_call 324;refine(cc_ B b bs _ h).mono ?_)
 rintro e w1 ⟨rfl,h1,hb1⟩;obtain⟨hB,v,hbk,hown,hne⟩:=h1;have c0:w1.cell? ⟨b,0,none⟩=some (.pointer (some ⟨b,0,none⟩)):=by rw[Lib.cell_of_heap hbk];rfl
 have c1:w1.cell? ⟨b,1,none⟩=some v:=by rw[Lib.cell_of_heap hbk];rfl
 go_wp2_with (at_builtin;refine Lib.wpList_append_own_string _ rfl _ _ 270 9 rfl B 5 i0 Tryz.underlying270 Tryz.underlying9 hi hz0 hz1 hz2 _ _ _ rfl hown s rfl ?c3 ?c4 ?c5 ?_)
 case c3=>unfold maxLen;omega
 case c4=>omega
 case c5=>have:=hb1.size;omega
 intro v' w2 hown' hgrow _;have hlt:=zA w1 hbk
 have hb2:w2.heap[b]?=some (.cells #[.pointer (some ⟨b,0,none⟩),v] 272 (0,0)):=by
  rw[hgrow.block b hlt (λe=>hne e.symm)];exact hbk
 have d0:w2.cell? ⟨b,0,none⟩=some (.pointer (some ⟨b,0,none⟩)):=by rw[Lib.cell_of_heap hb2];rfl
 have d1:w2.cell? ⟨b,1,none⟩=some v:=by rw[Lib.cell_of_heap hb2];rfl
 have f1:w2.frozen? ⟨b,1,none⟩=false:=Lib.frozen_of_heap hb2 1
 obtain⟨ao,n',cap,rfl⟩:∃ao n' cap,v'=.slice ao n' cap:=by
  rcases hown'.2 with⟨hv,_⟩|⟨g,cap,cur,hv,_⟩
  .exact⟨_,_,_,hv⟩
  .exact⟨_,_,_,hv⟩
 go_wp2
 go_ret2
 refine⟨rfl, ?_, ?_⟩
 .exact Lib.BuilderAt.put (T:=272) (e:=5) hB hb2 (bs':=bs++Lib.strCells s) (by simpa[Lib.strCells_length]using hown') ψ
 .exact(hb1.grown hgrow (by have:=hb1.size;omega) (λk hk=>(hown.lt k hk).1)).setCell (p:=⟨b,1,none⟩) hB _
def Aa:Ren where
 f:=λx=>match x with|169=>290|n=>n
 t:=λx=>match x with|70=>269|9=>9|0=>0|72=>272|37=>270|127=>315|3=>3|5=>5|n=>n
 g:=λx=>x
theorem Dp:Lays.n169 Tryz.prog Aa where
 mixed:=ζ
 f169:=uo Tryz.func290 (congrArg some (Eq.refl (Body.n169 Aa)))
 t0:=Tryz.underlying0
 a0:=Tryz.isAgg0
 z0:=Tryz.sizeOf0
 v0:=Tryz.zeroValue0
 t3:=Tryz.underlying3
 a3:=Tryz.isAgg3
 z3:=Tryz.sizeOf3
 v3:=Tryz.zeroValue3
 t9:=Tryz.underlying9
 a9:=Tryz.isAgg9
 z9:=Tryz.sizeOf9
 v9:=Tryz.zeroValue9
 t37:=Tryz.underlying270
 a37:=Tryz.isAgg270
 z37:=Tryz.sizeOf270
 v37:=Tryz.zeroValue270
 t70:=Tryz.underlying269
 a70:=Tryz.isAgg269
 z70:=Tryz.sizeOf269
 v70:=Tryz.zeroValue269
 t72:=Tryz.underlying272
 a72:=Tryz.isAgg272
 z72:=Tryz.sizeOf272
 v72:=Tryz.zeroValue272
 t127:=Tryz.underlying315
 a127:=Tryz.isAgg315
 z127:=Tryz.sizeOf315
 v127:=Tryz.zeroValue315
theorem H6:Builder.Extra Tryz.prog Aa where
 sizeBuilder:=ζ
 liesBuilder:=ζ
 t5:=Tryz.underlying5
 a5:=Tryz.isAgg5
 z5:=Tryz.sizeOf5
 v5:=Tryz.zeroValue5
 infoByte:=ζ
 cellsByte:=ζ
 sizeByte:=ζ
 neB5:=ψ
theorem nU(w:World)(o:Obj):(w.alloc o).heap.size=w.heap.size+1:=by simp[World.alloc,-World.alloc_eq]
theorem G9(w:World)(o:Obj):(w.alloc o).heap[w.heap.size]?=some o:=by simp[World.alloc,-World.alloc_eq]
theorem sQ{w w1:World}{x y:Array Value}{s t:TypeId}(hb:Below ((w.alloc (.cells x s)).alloc (.cells y t)).heap.size ((w.alloc (.cells x s)).alloc (.cells y t)) w1):
 w1.heap[w.heap.size]?=some (.cells x s (0,0))/\w1.heap[w.heap.size+1]?=some (.cells y t (0,0))/\Below w.heap.size w w1/\w.heap.size+2<=w1.heap.size:=by
 have e1:=nU w (.cells x s);have e2:=nU (w.alloc (.cells x s)) (.cells y t);refine⟨?_, ?_,⟨hb.os,hb.tape,hb.output, ?_,λk hk=>?_⟩, ?_⟩
 .rw[hb.block _ ω,Lib.alloc_old _ _ _ ω,G9]
 .rw[hb.block _ ω,<-e1,G9]
 .have:=hb.size;omega
 .rw[hb.block k ω,Lib.alloc_old _ _ _ ω,Lib.alloc_old _ _ _ hk]
 .have:=hb.size;omega
theorem tV{w2:World}{g:Nat}{x y:Value}{t:TypeId}(h:w2.heap[g]?=some (.cells #[x,y] t (0,0))):w2.cell? ⟨g,1,none⟩=some y:=by
 rw[Lib.cell_of_heap h];rfl
theorem Eb{w:World}{b:Nat}{o:Obj}(h:w.heap[b]?=some o):b<w.heap.size:=by
 rcases yP b w.heap.size with h'|h'
 .exact h'
 .simp[Array.getElem?_eq_none h']at h
theorem jU{w w':World}{T e:TypeId}{B b:Nat}{p:Value}{bs:List Value}(h:Lib.BuilderAt T e B b p bs w)(hb:Below w.heap.size w w'):Lib.BuilderAt T e B b p bs w':=by
 obtain⟨h1,v,h2,h3,h4⟩:=h;refine⟨h1,v,by rw[hb.block b (Eb h2)];exact h2,⟨h3.1, ?_⟩,h4⟩;rcases h3.2 with h|⟨g,cap,cur,k1,k2,k3,k4⟩
 .exact .inl h
 .exact .inr ⟨g,cap,cur,k1,k2,by rw[hb.block g (Eb k3)];exact k3,k4⟩
theorem Jq(L:Nat)(x:Nat->Nat)(D:Nat->List UInt8)(A:Addr)(cap:Nat)(w:World)(hW:Wld.ok Tryz.prog w)(hA:A.block<w.heap.size)(hc:∀i,i<L->w.cell? (A.add i)=some (.int .u32 ((x i:Nat):Int)))
 (hn:0<L) (hl:L<=100000) (hx:∀i,x i<1000000000) (hD:D (L-1)=Lib.decDigits (x (L-1))) (hs:∀i,i+1<L->D (i+1)++List.replicate (9-Lib.nDigits (x i)) 48++Lib.decDigits (x i)=D i) (hdl:∀i,(D i).length<=9*L) (h0:0<(D 0).length) :
 Calls Tryz.prog 255 #[.agg #[.bool false,.slice (some A) L cap]] w λe w'=>e=.returned (.string ⟨([]++D 0).toArray⟩)/\Below w.heap.size w w':=by
 have hln:¬((L:Nat):Int)=0:=ω
 have w1:wrap64 ((L:Int)-1)=((L-1:Nat):Int):=by unfold wrap64;omega
 have hci:∀(w1:World) (i:Nat),i<L->Below w.heap.size w w1->w1.cell? (A.add i)=some (.int .u32 ((x i:Nat):Int)):=λw1 i hi h=>by rw[h.cell (by rw[block_add];exact hA)];exact hc i hi
 have hbl:∀i,i+1<L->bv ([]++D (i+1))++Lib.strCells ⟨(List.replicate (9-Lib.nDigits (x i)) (48:UInt8)).toArray⟩++Lib.strCells (nO (x i))=bv ([]++D i):=λi hi=>by
  rw[<-hs i hi,KW,show Lib.strCells (nO (x i))=bv (Lib.decDigits (x i))from rfl,<-sO,<-sO,jQ,jQ,jQ]
 have hbd:bv ([]++D (L-1))=bv []++Lib.strCells (nO (x (L-1))):=by rw[hD,sO];rfl
 have hdl:∀i,(bv ([]++D i)).length<=9*L+1:=λi=>by have:=hdl i;rw[Ld,bF];simp only[bn,bG];omega
 have hb0:bv ([]++D 0)=([]++D 0:List UInt8).map λb:UInt8=>Value.int .u8 (b.toNat:Int):=rfl
 have hne:[]++D 0≠[]:=by intro e;have:=congrArg List.length e;rw[bF,bG]at this;omega
 clear hs hD hc;have c1:=hci;have hxt:=hx (L-1);have hdt:=oK (x (L-1));have hgt:=vg hxt;have ctop:=λw1 h=>hci w1 (L-1) ω h
 generalize hxg:x (L-1)=xt at hxt hdt hgt ctop hbd;clear c1
 go_enter Tryz.func255,Tryz.ntmps255
 have e1:=nU w (.cells #[.bool false,.slice (some A) L cap] 28);obtain⟨r1,r2,hW0,r3⟩:=sQ (Below.refl _ ((w.alloc (.cells #[.bool false,.slice (some A) L cap] 28)).alloc (.cells #[.pointer none,.slice none 0 0] 272)));have c1:=ctop _ hW0;have hk0:Wld.ok Tryz.prog ((w.alloc (.cells #[.bool false,.slice (some A) L cap] 28)).alloc (.cells #[.pointer none,.slice none 0 0] 272)):=Wld.keep hW hW0;clear hW0 r1 r2 r3
 go_wp2_with (go_at_call 289;refine(FUa (m:=xt) ω _ hk0).mono ?_)
 rintro e w1 ⟨rfl,hb1⟩;obtain⟨q0,q1,hW1,hsz⟩:=sQ hb1;have hB:Lib.IsBuilder 272 5 (w.heap.size+1) (w.heap.size+1) [] w1:=.inl ⟨gW _,.slice none 0 0,q1,World.ownsRow_nil _ _ _ _,by simp[Value.ownBlock]⟩;clear hb1 c1 hk0
 go_wp2_with (go_at_call 288;refine(Yb _ _ _ (nO xt) _ hB (by simp only[bG];omega) ω).mono ?_)
 rintro e w2 ⟨rfl,hB2,hb2⟩;have q2:w2.heap[w.heap.size]?=some (.cells #[.bool false,.slice (some A) L cap] 28 (0,0)):=by rw[hb2.block _ ω];exact q0
 have hW3:Below w.heap.size w w2:=hW1.trans (hb2.mono ω);have hs2:w.heap.size+2<=w2.heap.size:=by have:=hb2.size;omega
 clear hB q0 q1 hW1 hsz hb2 ctop;have w2e:wrap64 ((L:Int)-2)=((L-1:Nat):Int)-1:=by unfold wrap64;omega
 rw[show([]:List Value)++Lib.strCells (nO xt)=bv ([]++D (L-1))from hbd.symm]at hB2;clear hbd hxg hxt hdt hgt
 go_wp2
 go_loopg [5] L (λkk s5 wr=>∃i:Nat,i+1<=L/\i<=kk/\s5=.int .i64 ((i:Int)-1)/\Lib.BuilderAt 272 5 (w.heap.size+1) (w.heap.size+1) (.pointer (some ⟨w.heap.size+1,0,none⟩)) (bv ([]++D i)) wr /\
  wr.heap[w.heap.size]?=some (.cells #[.bool false,.slice (some A) L cap] 28 (0,0))/\Below w.heap.size w wr/\w.heap.size+2<=wr.heap.size)
 case atStart =>
  refine⟨L-1,ω,ω,by congr 1;omega, ?_,q2,hW3,hs2⟩;exact hB2
 case round =>
  obtain⟨i,hi1,hi2,rfl,hBi,qi,hWi,hsi⟩:=hrel;clear hB2 q2 hW3 hs2 w2e w1;have ci:=tV qi;cases i with
  |zero =>
   clear hci hbl hdl hx;rw[hb0]at hBi
   go_wp2_with (go_at_call 290;refine(Any.Builder_String Dp H6 _ _ ([]++D 0) _ (.inr hBi) hne).mono ?_)
   rintro e w3 ⟨rfl,hb3⟩
   go_wp2
   go_ret
   exact⟨rfl,hWi.trans (hb3.mono ω)⟩
  |succ i =>
   have cy:=hci wr i ω hWi;have hlb:=hx i;have hbl:=hbl i ω;have hdl1:=hdl (i+1);have hdl0:=hdl i;have hpos:((i+1:Nat):Int)-1>=0:=ω
   have hz:((i+1:Nat):Int)-1=(i:Int):=ω
   have hk1:Wld.ok Tryz.prog wr:=Wld.keep hW hWi;have hsy:=oK (x i);have hdy:=vg hlb;clear hci hdl hb0 hne h0 hx;generalize x i=y at cy hlb hbl hsy hdy;obtain⟨k,hk⟩:∃k,k+Lib.nDigits y=9:=⟨9-Lib.nDigits y,ω⟩
   rw[show 9-Lib.nDigits y=k by omega]at hbl;have e9:(9:Int)-(Lib.nDigits y:Int)=(k:Int):=ω
   have wi:wrap64 ((i:Int)-1)=(i:Int)-1:=by unfold wrap64;omega
   rw[hz]at hpos ⊢;clear hz
   go_wp2_with (go_at_call 289;refine(FUa (m:=y) ω _ hk1).mono ?_)
   rintro e wa ⟨rfl,hba⟩;have hBa:=jU hBi hba;have hsa:w.heap.size+2<=wa.heap.size:=by have:=hba.size;omega
   have qa:wa.heap[w.heap.size]?=some (.cells #[.bool false,.slice (some A) L cap] 28 (0,0)):=by rw[hba.block _ ω];exact qi
   have hWa:Below w.heap.size w wa:=hWi.trans (hba.mono ω);clear hBi qi ci cy hWi hsi hba hk1
   go_wp2_with (go_at_call 256;refine(Y0 (k:=k) ω _).mono ?_)
   rintro e wb_ ⟨rfl,hbb⟩;have hBb:=jU hBa hbb;have hsb:w.heap.size+2<=wb_.heap.size:=by have:=hbb.size;omega
   have qb:wb_.heap[w.heap.size]?=some (.cells #[.bool false,.slice (some A) L cap] 28 (0,0)):=by rw[hbb.block _ ω];exact qa
   have hWb:Below w.heap.size w wb_:=hWa.trans (hbb.mono ω);clear hBa qa hWa hsa hbb;have hrl:(ByteArray.mk (List.replicate k (48:UInt8)).toArray).size=k:=by show(List.replicate k (48:UInt8)).toArray.size=_;rw[Ip,rV]
   generalize ByteArray.mk (List.replicate k (48:UInt8)).toArray=rs at hrl hbl ⊢
   go_wp2_with (go_at_call 288;refine(Yb _ _ _ rs _ (.inr hBb) ω ω).mono ?_)
   rintro e wc ⟨rfl,hBc,hbc⟩;have hsc:w.heap.size+2<=wc.heap.size:=by have:=hbc.size;omega
   have qc:wc.heap[w.heap.size]?=some (.cells #[.bool false,.slice (some A) L cap] 28 (0,0)):=by rw[hbc.block _ ω];exact qb
   have hWc:Below w.heap.size w wc:=hWb.trans (hbc.mono ω);clear hBb qb hWb hsb hbc
   go_wp2_with (go_at_call 288;refine(Yb _ _ _ (nO y) _ (.inr hBc) (by rw[bF,Lib.strCells_length];omega) ω).mono ?_)
   rintro e wd ⟨rfl,hBd,hbd⟩;rw[hbl]at hBd;have hsd:w.heap.size+2<=wd.heap.size:=by have:=hbd.size;omega
   have qd:wd.heap[w.heap.size]?=some (.cells #[.bool false,.slice (some A) L cap] 28 (0,0)):=by rw[hbd.block _ ω];exact qc
   have hWd:Below w.heap.size w wd:=hWc.trans (hbd.mono ω);clear hBc qc hWc hsc hbd
   go_wp2
   go_roundg i
   case measure=>omega
   case rel=>exact⟨i,ω,gW _,rfl,hBd,qd,hWd,hsd⟩
theorem I9(L:Nat)(x:Nat->Nat)(D:Nat->List UInt8)(A:Addr)(cap:Nat)(w:World)(hW:Wld.ok Tryz.prog w)(hA:A.block<w.heap.size)(hc:∀i,i<L->w.cell? (A.add i)=some (.int .u32 ((x i:Nat):Int)))
 (hn:0<L) (hl:L<=100000) (hx:∀i,x i<1000000000) (hD:D (L-1)=Lib.decDigits (x (L-1))) (hs:∀i,i+1<L->D (i+1)++List.replicate (9-Lib.nDigits (x i)) 48++Lib.decDigits (x i)=D i) (hdl:∀i,(D i).length<=9*L) (h0:0<(D 0).length) :
 Calls Tryz.prog 255 #[.agg #[.bool true,.slice (some A) L cap]] w λe w'=>e=.returned (.string ⟨([45]++D 0).toArray⟩)/\Below w.heap.size w w':=by
 have hln:¬((L:Nat):Int)=0:=ω
 have w1:wrap64 ((L:Int)-1)=((L-1:Nat):Int):=by unfold wrap64;omega
 have hci:∀(w1:World) (i:Nat),i<L->Below w.heap.size w w1->w1.cell? (A.add i)=some (.int .u32 ((x i:Nat):Int)):=λw1 i hi h=>by rw[h.cell (by rw[block_add];exact hA)];exact hc i hi
 have hbl:∀i,i+1<L->bv ([45]++D (i+1))++Lib.strCells ⟨(List.replicate (9-Lib.nDigits (x i)) (48:UInt8)).toArray⟩++Lib.strCells (nO (x i))=bv ([45]++D i):=λi hi=>by
  rw[<-hs i hi,KW,show Lib.strCells (nO (x i))=bv (Lib.decDigits (x i))from rfl,<-sO,<-sO,jQ,jQ,jQ]
 have hbd:bv ([45]++D (L-1))=bv [45]++Lib.strCells (nO (x (L-1))):=by rw[hD,sO];rfl
 have hdl:∀i,(bv ([45]++D i)).length<=9*L+1:=λi=>by have:=hdl i;rw[Ld,bF];simp only[bn,bG];omega
 have hb0:bv ([45]++D 0)=([45]++D 0:List UInt8).map λb:UInt8=>Value.int .u8 (b.toNat:Int):=rfl
 have hne:[45]++D 0≠[]:=by intro e;have:=congrArg List.length e;rw[bF,bG]at this;omega
 clear hs hD hc;have c1:=hci;have hxt:=hx (L-1);have hdt:=oK (x (L-1));have hgt:=vg hxt;have ctop:=λw1 h=>hci w1 (L-1) ω h
 generalize hxg:x (L-1)=xt at hxt hdt hgt ctop hbd;clear c1
 go_enter Tryz.func255,Tryz.ntmps255
 have e1:=nU w (.cells #[.bool true,.slice (some A) L cap] 28);obtain⟨q0,q1,hW0,hsz0⟩:=sQ (Below.refl _ ((w.alloc (.cells #[.bool true,.slice (some A) L cap] 28)).alloc (.cells #[.pointer none,.slice none 0 0] 272)));have hB:Lib.IsBuilder 272 5 (w.heap.size+1) (w.heap.size+1) [] ((w.alloc (.cells #[.bool true,.slice (some A) L cap] 28)).alloc (.cells #[.pointer none,.slice none 0 0] 272)):=.inl ⟨gW _,.slice none 0 0,q1,World.ownsRow_nil _ _ _ _,by simp[Value.ownBlock]⟩
 go_wp2_with (go_at_call 287;refine(wb_ _ _ _ 45 _ hB ψ ω).mono ?_)
 rintro e w0 ⟨rfl,hB0,hb0'⟩;have hW1:Below w.heap.size w w0:=hW0.trans (hb0'.mono ω);have q5:w0.heap[w.heap.size]?=some (.cells #[.bool true,.slice (some A) L cap] 28 (0,0)):=by rw[hb0'.block _ ω];exact q0
 have c5:=tV q5;have c6:=ctop w0 hW1;clear hB q0 q1 hW0;have hs0:w.heap.size+2<=w0.heap.size:=by have:=hb0'.size;omega
 clear hb0';have hk0:Wld.ok Tryz.prog w0:=Wld.keep hW hW1
 go_wp2_with (go_at_call 289;refine(FUa (m:=xt) ω _ hk0).mono ?_)
 rintro e w1 ⟨rfl,hb1⟩;have hW2:Below w.heap.size w w1:=hW1.trans (hb1.mono ω);have hB1:=jU hB0 hb1;have q6:w1.heap[w.heap.size]?=some (.cells #[.bool true,.slice (some A) L cap] 28 (0,0)):=by rw[hb1.block _ ω];exact q5
 have hs1:w.heap.size+2<=w1.heap.size:=by have:=hb1.size;omega
 clear hb1 c5 c6 hk0
 go_wp2_with (go_at_call 288;refine(Yb _ _ _ (nO xt) _ (.inr hB1) (by simp only[bF,bG,bn];omega) ω).mono ?_)
 rintro e w2 ⟨rfl,hB2,hb2⟩;have q2:w2.heap[w.heap.size]?=some (.cells #[.bool true,.slice (some A) L cap] 28 (0,0)):=by rw[hb2.block _ ω];exact q6
 have hW3:Below w.heap.size w w2:=hW2.trans (hb2.mono ω);have hs2:w.heap.size+2<=w2.heap.size:=by have:=hb2.size;omega
 clear hB1 hB0 q5 q6 hW1 hW2 hs0 hs1 hb2 hsz0 ctop;have w2e:wrap64 ((L:Int)-2)=((L-1:Nat):Int)-1:=by unfold wrap64;omega
 rw[show([]:List Value)++[.int .u8 45]++Lib.strCells (nO xt)=bv ([45]++D (L-1))from hbd.symm]at hB2;clear hbd hxg hxt hdt hgt
 go_wp2
 go_loopg [5] L (λkk s5 wr=>∃i:Nat,i+1<=L/\i<=kk/\s5=.int .i64 ((i:Int)-1)/\Lib.BuilderAt 272 5 (w.heap.size+1) (w.heap.size+1) (.pointer (some ⟨w.heap.size+1,0,none⟩)) (bv ([45]++D i)) wr /\
  wr.heap[w.heap.size]?=some (.cells #[.bool true,.slice (some A) L cap] 28 (0,0))/\Below w.heap.size w wr/\w.heap.size+2<=wr.heap.size)
 case atStart =>
  refine⟨L-1,ω,ω,by congr 1;omega, ?_,q2,hW3,hs2⟩;exact hB2
 case round =>
  obtain⟨i,hi1,hi2,rfl,hBi,qi,hWi,hsi⟩:=hrel;clear hB2 q2 hW3 hs2 w2e w1;have ci:=tV qi;cases i with
  |zero =>
   clear hci hbl hdl hx;rw[hb0]at hBi
   go_wp2_with (go_at_call 290;refine(Any.Builder_String Dp H6 _ _ ([45]++D 0) _ (.inr hBi) hne).mono ?_)
   rintro e w3 ⟨rfl,hb3⟩
   go_wp2
   go_ret
   exact⟨rfl,hWi.trans (hb3.mono ω)⟩
  |succ i =>
   have cy:=hci wr i ω hWi;have hlb:=hx i;have hbl:=hbl i ω;have hdl1:=hdl (i+1);have hdl0:=hdl i;have hpos:((i+1:Nat):Int)-1>=0:=ω
   have hz:((i+1:Nat):Int)-1=(i:Int):=ω
   have hk1:Wld.ok Tryz.prog wr:=Wld.keep hW hWi;have hsy:=oK (x i);have hdy:=vg hlb;clear hci hdl hb0 hne h0 hx;generalize x i=y at cy hlb hbl hsy hdy;obtain⟨k,hk⟩:∃k,k+Lib.nDigits y=9:=⟨9-Lib.nDigits y,ω⟩
   rw[show 9-Lib.nDigits y=k by omega]at hbl;have e9:(9:Int)-(Lib.nDigits y:Int)=(k:Int):=ω
   have wi:wrap64 ((i:Int)-1)=(i:Int)-1:=by unfold wrap64;omega
   rw[hz]at hpos ⊢;clear hz
   go_wp2_with (go_at_call 289;refine(FUa (m:=y) ω _ hk1).mono ?_)
   rintro e wa ⟨rfl,hba⟩;have hBa:=jU hBi hba;have hsa:w.heap.size+2<=wa.heap.size:=by have:=hba.size;omega
   have qa:wa.heap[w.heap.size]?=some (.cells #[.bool true,.slice (some A) L cap] 28 (0,0)):=by rw[hba.block _ ω];exact qi
   have hWa:Below w.heap.size w wa:=hWi.trans (hba.mono ω);clear hBi qi ci cy hWi hsi hba hk1
   go_wp2_with (go_at_call 256;refine(Y0 (k:=k) ω _).mono ?_)
   rintro e wb_ ⟨rfl,hbb⟩;have hBb:=jU hBa hbb;have hsb:w.heap.size+2<=wb_.heap.size:=by have:=hbb.size;omega
   have qb:wb_.heap[w.heap.size]?=some (.cells #[.bool true,.slice (some A) L cap] 28 (0,0)):=by rw[hbb.block _ ω];exact qa
   have hWb:Below w.heap.size w wb_:=hWa.trans (hbb.mono ω);clear hBa qa hWa hsa hbb;have hrl:(ByteArray.mk (List.replicate k (48:UInt8)).toArray).size=k:=by show(List.replicate k (48:UInt8)).toArray.size=_;rw[Ip,rV]
   generalize ByteArray.mk (List.replicate k (48:UInt8)).toArray=rs at hrl hbl ⊢
   go_wp2_with (go_at_call 288;refine(Yb _ _ _ rs _ (.inr hBb) ω ω).mono ?_)
   rintro e wc ⟨rfl,hBc,hbc⟩;have hsc:w.heap.size+2<=wc.heap.size:=by have:=hbc.size;omega
   have qc:wc.heap[w.heap.size]?=some (.cells #[.bool true,.slice (some A) L cap] 28 (0,0)):=by rw[hbc.block _ ω];exact qb
   have hWc:Below w.heap.size w wc:=hWb.trans (hbc.mono ω);clear hBb qb hWb hsb hbc
   go_wp2_with (go_at_call 288;refine(Yb _ _ _ (nO y) _ (.inr hBc) (by rw[bF,Lib.strCells_length];omega) ω).mono ?_)
   rintro e wd ⟨rfl,hBd,hbd⟩;rw[hbl]at hBd;have hsd:w.heap.size+2<=wd.heap.size:=by have:=hbd.size;omega
   have qd:wd.heap[w.heap.size]?=some (.cells #[.bool true,.slice (some A) L cap] 28 (0,0)):=by rw[hbd.block _ ω];exact qc
   have hWd:Below w.heap.size w wd:=hWc.trans (hbd.mono ω);clear hBc qc hWc hsc hbd
   go_wp2
   go_roundg i
   case measure=>omega
   case rel=>exact⟨i,ω,gW _,rfl,hBd,qd,hWd,hsd⟩
theorem YW(A:Option Addr)(cap:Nat)(b:Bool)(w:World):Calls Tryz.prog 255 #[.agg #[.bool b,.slice A 0 cap]] w λe w'=>e=.returned (.string ⟨#[48]⟩)/\Below w.heap.size w w':=by
 go_enter Tryz.func255,Tryz.ntmps255
 go_wp2
 go_ret
 refine⟨rfl,⟨rfl,rfl,rfl,by rw[nU];omega,λk hk=>Lib.alloc_old _ _ _ hk⟩⟩
theorem QT{n:Int}(hp:sz n<=100000){w:World}{X:List Nat}{u:Value}(hW:Wld.ok Tryz.prog w)(hu:IntV w X u n):Calls Tryz.prog 255 #[u] w λe w'=>e=.returned (.string (jl n))/\Below w.heap.size w w':=by
 obtain⟨_,rfl,A,c,rfl,hu⟩:=hu
 by_cases h0:n=0
 .subst h0;rw[show(0:Int).natAbs=0 from rfl,dK];have e:jl 0=⟨#[48]⟩:=by unfold jl;rw[show(0:Int).natAbs=0 from rfl,jO ψ];rfl
  rw[e];exact YW A c _ w
 .have hn:0<(lim n.natAbs).length:=by rw[iD ω];simp
  obtain⟨ad,rfl,h1,_,h3⟩:=hu.cl (by intro e;have:=congrArg List.length e;simp[us]at this;rw[this]at hn;exact absurd hn ψ)
  have hc:∀i,i<(lim n.natAbs).length->w.cell? (ad.add i)=some (.int .u32 ((n.natAbs/1000000000^i%1000000000:Nat):Int)):=λi hi=>h3 i _ (by
   show((lim n.natAbs).map _)[i]?=_
   rw[wz,WA hi];rfl)
  have hD0:Lib.decDigits (n.natAbs/1000000000^0)=Lib.decDigits n.natAbs:=by rw[Nat.pow_zero,Nat.div_one]
  have r0:=Jq (lim n.natAbs).length (λi=>n.natAbs/1000000000^i%1000000000) (λi=>Lib.decDigits (n.natAbs/1000000000^i)) ad c w hW h1 hc hn hp (λi=>mY _ ψ) (by rw[Du hn]) (λi hi=>(D8 hi).symm) (λi=>CW hn) (Ho _);have r1:=I9 (lim n.natAbs).length (λi=>n.natAbs/1000000000^i%1000000000) (λi=>Lib.decDigits (n.natAbs/1000000000^i)) ad c w hW h1 hc hn hp (λi=>mY _ ψ) (by rw[Du hn]) (λi hi=>(D8 hi).symm) (λi=>CW hn) (Ho _);rw[hD0]at r0 r1;unfold jl
  by_cases hz:n<0
  .rw[if_pos hz,decide_eq_true hz];exact r1
  .rw[if_neg hz,decide_eq_false hz];exact r0
instance aey(n:Int):DenI Tryz.prog 255 [Z n] (sz n<=100000) (.c (.v (.string (jl n)))):=⟨λhp=>by
 refine Den.of ⟨ζ,λw X vs hW hX hl hr=>?_⟩ rfl
 match vs,hl with
 |[u],_ =>
 have hu:=hr 0 u _ rfl rfl;refine Calls.mono (QT hp hW hu.int_) ?_;rintro e w' ⟨rfl,hb⟩
 exact⟨_,rfl,(RepR.d (.c (.v _ rfl))).f,hb⟩⟩
end Go.Proofs.YtmniihkenijjpaaGreatDoor
namespace Go.Proofs.YtmniihkenijjpaaGreatDoor
open Go Go.RowKit Go.Sw
set_option maxRecDepth 100000
set_option maxHeartbeats 16000000
set_option synthInstance.maxSize 4000
set_option synthInstance.maxHeartbeats 400000
instance ad3(n:Int):DenI Tryz.prog 227 [Z n] (sz n<=100000) (.str (jl n)):=⟨λhp=>by
 have hsz:(lim n.natAbs).length<=100000:=hp
 all_goals refine den_of (τ:=tabs) IZ aQ Tryz.func227 rfl ζ ζ ζ ?_
 all_goals(repeat'((try(conv=>whnf));first
  |(with_reducible refine zad (λ_=>?_) (λ_=>?_))|apply zaq))
 all_goals(try simp only[uJ,DJ,dh,Ox,lX,ji,PG,oU,decide_eq_true_eq,decide_eq_false_iff_not,PN,List.foldl_nil]at *)
 all_goals first
  |((conv=>whnf);refine Sw.Loop.inv (α:=Nat) (λx=>[(1,.ptr 1 0),(3,.str (tH (9*x) n.natAbs)),(4,.int .i64 (x:Nat))]) (λx=>[(1,.var [zs n,zl n])]) (λx=>x<=(lim n.natAbs).length/\True) (λx=>(lim n.natAbs).length-x) 0 ?_ ?_ ?_ (λx hx=>?_))|skip
 all_goals(repeat'((try(conv=>whnf));first
  |(with_reducible refine zad (λ_=>?_) (λ_=>?_))|(with_reducible refine zak ?_ ?_)))
 all_goals(try apply zar)
 all_goals(try simp only[uJ,DJ,dh,Ox,lX,ji,PG,oU,decide_eq_true_eq,decide_eq_false_iff_not,PN,List.foldl_nil]at *)
 all_goals(try simp only[aG]at *)
 all_goals first
  |(have hg:x<(lim n.natAbs).length:=ω;(conv=>whnf);refine Sw.Loop.inv (α:=Nat) (λk=>[(1,.ptr 1 0),(3,.str (tH (9*x+k) n.natAbs)),(4,.int .i64 (x:Nat)),(5,.int .u32 ((n.natAbs/1000000000^x%1000000000/10^k:Nat):Int)),(6,.int .i64 (k:Nat))]) (λk=>[(1,.var [zs n,zl n])]) (λk=>k<=9/\True) (λk=>9-k) 0 ?_ ?_ ?_ (λk hk=>?_))|skip
 all_goals(repeat'((try(conv=>whnf));first
  |(with_reducible refine zad (λ_=>?_) (λ_=>?_))|refine zah ?_ ?_))
 all_goals(try apply zar)
 all_goals(try simp only[uJ,DJ,dh,Ox,lX,ji,PG,oU,decide_eq_true_eq,decide_eq_false_iff_not,PN,List.foldl_nil]at *)
 all_goals first
  |(have hg:¬x<(lim n.natAbs).length:=ω;(conv=>whnf);refine Sw.Loop.inv (α:=Nat) (λj=>[(1,.ptr 1 0),(3,.str (EC j n.natAbs))]) (λj=>[(1,.var [zs n,zl n])]) (λj=>j<=9*(lim n.natAbs).length/\True) (λj=>j) (9*(lim n.natAbs).length-Lib.nDigits n.natAbs) ?_ ?_ ?_ (λj hj=>?_))|skip
 all_goals(repeat'((try(conv=>whnf));first
  |(with_reducible refine zad (λ_=>?_) (λ_=>?_))|refine zah ?_ ?_|refine zam ?_ ?_|(with_reducible refine oD ?_ ?_)|apply zaq))
 all_goals(try apply zar)
 all_goals first|(show SubE _ _;repeat'(first|exact trivial|refine And.intro ?_ ?_))|(show SubB _ _;repeat'(first|exact trivial|refine And.intro ?_ ?_))|skip
 all_goals(try rfl)
 all_goals(try simp only[uJ,DJ,dh,Ox,lX,ji,PG,oU,decide_eq_true_eq,decide_eq_false_iff_not,PN,List.foldl_nil]at *)
 all_goals first
  |(obtain rfl:n=0:=(by have:=lJ n.natAbs;omega);exact Ei VO)|omega|exact RH _ _|(rw[V6 ω,Jr];omega)|exact⟨ω,trivial⟩|((conv=>whnf);exact⟨k+1,⟨⟨rfl,Ql ω,rfl,congrArg (λz=>some (AV.int .u32 z)) Qn,aH ω,trivial⟩,⟨rfl,trivial⟩,⟨ω,trivial⟩,by show 9-(k+1)<9-k;omega⟩⟩)|((conv=>whnf);exact⟨x+1,⟨⟨rfl,QN ω ξ,aH ω,trivial⟩,⟨rfl,trivial⟩,⟨ω,trivial⟩,by show(lim n.natAbs).length-(x+1)<(lim n.natAbs).length-x;omega⟩⟩)|exact QX ω ω ξ|(have h0:=lJ n.natAbs;have z:=ac9 (m:=n.natAbs) ω ξ;((conv=>whnf);exact⟨j-1,⟨⟨rfl,congrArg (λz=>some (AV.str z)) (VZ z),trivial⟩,⟨rfl,trivial⟩,⟨ω,trivial⟩,by show j-1<j;omega⟩⟩))|(have z:=CZ j n.natAbs;have z2:=Lib.nDigits_pos n.natAbs;(repeat' apply And.intro)<;>first|omega|(intro h;cases h;done)|(intro h;rfl))|(have z:=CZ j n.natAbs;have z2:=LQ hsz ψ;have z3:(ByteArray.mk #[45]).size=1:=rfl;omega)|(have h0:=lJ n.natAbs;obtain rfl:=TU (m:=n.natAbs) ω ξ;exact Ei (KU ξ))|(have h0:=lJ n.natAbs;obtain rfl:=TU (m:=n.natAbs) ω ξ;exact Ei (LX ξ))⟩
end Go.Proofs.YtmniihkenijjpaaGreatDoor
namespace Go.Proofs.YtmniihkenijjpaaGreatDoor
open Go Go.RowKit Go.Sw Go.Shelf
set_option maxRecDepth 100000
set_option maxHeartbeats 16000000
set_option synthInstance.maxSize 4000
set_option synthInstance.maxHeartbeats 400000
instance YD{f:FuncId}{xs:List AV}{pre c:Prop}{r s:AV}[h : @DenC Tryz.prog LD f xs pre c r s]:@DenC Tryz.prog sN f xs pre c r s:=⟨λhp=>⟨λhc=>den_lift LD sN (λ_ _=>trivial) ((h.den hp).1 hc),λhc=>den_lift LD sN (λ_ _=>trivial) ((h.den hp).2 hc)⟩⟩
end Go.Proofs.YtmniihkenijjpaaGreatDoor
namespace Go.Proofs.YtmniihkenijjpaaGreatDoor
open Go Go.RowKit Go.Sw
set_option maxRecDepth 100000
set_option maxHeartbeats 16000000
set_option synthInstance.maxSize 4000
set_option synthInstance.maxHeartbeats 400000
instance afR(a b c d:Rat):DenI Tryz.prog 93 [Q2 a b,Q2 c d] (rz a<=1000/\rz b<=1000/\rz c<=1000/\rz d<=1000) (.bool (decide (a=c) && decide (b=d))):=⟨λhp=>by
 have i_a:RzB a 1000:=⟨hp.1⟩
 have i_b:RzB b 1000:=⟨hp.2.1⟩
 have i_c:RzB c 1000:=⟨hp.2.2.1⟩
 have i_d:RzB d 1000:=⟨hp.2.2.2⟩
 all_goals refine den_of (τ:=tab) fJ aQ Tryz.func93 rfl ζ ζ ζ ?_
 all_goals(repeat'((try(conv=>whnf));first
  |refine zaa ?_ ?_|(with_reducible first|apply zab|apply zac|refine zad (λ_=>?_) (λ_=>?_))|apply zaq))
 all_goals(try apply zar)
 all_goals(try simp only[aW]at *)
 all_goals first
  |exact za1|exact zav⟩
instance aep(a b c d:Rat):DenI Tryz.prog 123 [Q2 a b,Q2 c d] (rz a<=1000/\rz b<=1000/\rz c<=1000/\rz d<=1000) (R (farR (a,b) (c,d))):=⟨λhp=>by
 have i_a:RzB a 1000:=⟨hp.1⟩
 have i_b:RzB b 1000:=⟨hp.2.1⟩
 have i_c:RzB c 1000:=⟨hp.2.2.1⟩
 have i_d:RzB d 1000:=⟨hp.2.2.2⟩
 all_goals refine den_of (τ:=tab) fJ aQ Tryz.func123 rfl ζ ζ ζ ?_
 all_goals(repeat'((try(conv=>whnf));first
  |refine zaa ?_ ?_|refine zas ζ ?_|apply zaq))
 all_goals(try apply zar)
 all_goals first
  |rfl|exact zav⟩
end Go.Proofs.YtmniihkenijjpaaGreatDoor
