/-
  Rules of the abstract run, plain laws, and what functions answer, for the law RepairOpen.
  Conditions: none.
-/
import Derived.Test.YtmniihkenijjpaaGreatDoorT14
import Derived.ChangeSame
import Derived.Shelf.LaysM
import Derived.Shelf.Strconv.Itoa1
import Derived.Shelf.Strconv.Itoa2
import Derived.Lib.Walk
import Derived.Lib.ItoaMem
import Derived.Lib.ItoaLen
import Derived.Lib.AppendIntMem
import Derived.WalkKit
import Derived.BigCall
import Derived.BigGuard
import Derived.Shelf.Strings.Repeat
import Derived.Lib.Builder
import Derived.Shelf.Strings.Builder1
import Derived.Lib.Bytealg
import Derived.Lib.Strings
set_option linter.all false
namespace Go.Sw
open Go
theorem JE{l:List P2}{x:Nat}(h:x<l.length):l.getD x P0∈l:=by
 simp[ou,h]
@[reducible] def Zp(n:Nat):List Cell:=[.v (.int .i64 (n:Nat))]
@[reducible] def QJ(c:Chn):Nat × Nat:=(c.ent,c.fin)
def Jl(cs:List Chn)(x:Nat):List (Nat×Nat):=(cs.take x).map QJ
theorem aec{cs:List Chn}{x:Nat}(h:x<cs.length):Jl cs (x+1)=Jl cs x++[QJ (cs.getD x C0)]:=by
 unfold Jl
 have e:cs.take (x+1)=cs.take x++[cs.getD x C0]:=by
  rw[Zn,jP h];simp[ou,h]
 rw[e,fO];rfl
theorem Yd(cs:List Chn)(x:Nat):(Jl cs x).length≤x:=by unfold Jl;rw[bK,vY];omega
theorem VP(es:List Ent):Jl (jU es.zipIdx) (jU es.zipIdx).length=bZ es:=by
 unfold Jl;rw[ER];exact afo es
theorem aaQ(es:List Ent):(bZ es).length≤2*es.length:=by have:=Bz (l:=es) es.length (n:=0);unfold bZ;omega
theorem uN(es:List Ent):(jU es.zipIdx).length≤2*es.length:=by
 have:=xJ es.zipIdx es.zipIdx.length (kU _)
 rwa [Ho,SL]at this
def Qz(rs:List Bool)(x:Nat):List Nat:=(List.range x).filter λi=>rs.getD i false
theorem acj{rs:List Bool}{x:Nat}(h:rs.getD x false=true):Qz rs (x+1)=Qz rs x++[x]:=by
 unfold Qz;rw[U0,SB,List.filter_cons,if_pos h];rfl
theorem acL{rs:List Bool}{x:Nat}(h:rs.getD x false=false):Qz rs (x+1)=Qz rs x:=by
 unfold Qz;rw[U0,SB,List.filter_cons,if_neg (by rw[h];decide)];simp
theorem Io(rs:List Bool)(x:Nat):(Qz rs x).length≤x:=by
 unfold Qz;have:=dY (λi=>rs.getD i false) (List.range x)
 rwa [List.length_range]at this
theorem agO(es:List Ent):aY (es.zipIdx.map (·.1))=aY es:=by rw[aed]
theorem Cc{es:List Ent}(h:∀e∈es,okV e):∀x∈es.zipIdx,Zq x.1:=λx hx=>(h x.1 (zip_fst hx)).2
theorem Bv{es:List Ent}(h:∀e∈es,okV e):∀x∈es.zipIdx,okV x.1:=λx hx=>h x.1 (zip_fst hx)
end Go.Sw
namespace Go.Sw
open Go
section
variable {cf cg ct cu bf bg bt bu x y:Rat} {cfz ctz cr bfz btz br:Int}
end
end Go.Sw
namespace Go.Sw
open Go
section
variable {a b c d m n e f:Rat}
end
structure Cut7 where
 fx:Int
 fy:Int
 fz:Int
 tx:Int
 ty:Int
 tz:Int
 r:Int
end Go.Sw
namespace Go.Sw
open Go
end Go.Sw
namespace Go.Sw
open Go
section
variable {cf cg ct cu bf bg bt bu x y:Rat} {cfz ctz cr bfz btz br:Int}
end
end Go.Sw
namespace Go.Sw
open Go
section
variable {a b c d e f m n:Rat}
end
end Go.Sw
namespace Go.Sw
open Go
end Go.Sw
namespace Go.Sw
open Go
section
variable {x y:Rat} {L:List Cut7} {o:Rt} {k:Nat}
end
end Go.Sw
namespace Go.Sw
open Go Go.RowKit
theorem all_map{α:Type}{f:α→List Cell}{p:α→Prop}:∀{es:List (List Cell)},(∀x∈es,∃a,p a∧x=f a)→∃L:List α,L.length=es.length∧(∀a∈L,p a)∧es=L.map f
 |[],_=>⟨[],rfl,λa h=>by simp at h,rfl⟩
 |e::r,h=>by
  obtain⟨a,ha,rfl⟩:=h e (by simp);obtain⟨L,l1,l2,l3⟩:=all_map (es:=r) λx hx=>h x (by simp[hx])
  exact⟨a::L,by simp[l1],λb hb=>by rcases wL.1 hb with rfl|hb;exact ha;exact l2 b hb,by simp[l3]⟩
abbrev ahK:TS:=.cons .bool (.cons (.slice (.int .u32)) .nil)
abbrev aas:TS:=.cons ahK (.cons ahK .nil)
abbrev ado:TS:=.cons aas (.cons aas .nil)
abbrev adS:TS:=.cons (.int .i64) (.cons .str (.cons (.slice ado) (.cons aas .nil)))
abbrev ahP:TS:=.cons .str (.cons (.int .i64) (.cons (.int .i64) .nil))
theorem Ob{cs:List Cell}(h:Fit aas cs):∃r:Rq,cs=bD r:=by
 obtain⟨_,_,⟨_,_,⟨a,rfl⟩,⟨_,_,h1,rfl,rfl⟩,rfl⟩,⟨_,_,⟨_,_,⟨b,rfl⟩,⟨_,_,h2,rfl,rfl⟩,rfl⟩,rfl,rfl⟩,rfl⟩:=h;obtain⟨l,_,_,rfl⟩:=fit_limbs h1;obtain⟨m,_,_,rfl⟩:=fit_limbs h2;exact⟨⟨a,l,b,m⟩,rfl⟩
theorem ZH{cs:List Cell}(h:Fit ado cs):∃p:Rq×Rq,cs=pV p:=by
 obtain⟨_,_,h1,⟨_,_,h2,rfl,rfl⟩,rfl⟩:=h;obtain⟨r,rfl⟩:=Ob h1;obtain⟨s,rfl⟩:=Ob h2;exact⟨(r,s),rfl⟩
theorem Yy{cs:List Cell}(h:Fit (.slice ado) cs):∃l:List (Rq×Rq),cs=[.sl 8 (l.map pV)]:=by
 obtain⟨es,h1,h2,rfl⟩:=h
 obtain⟨L,l1,l2,l3⟩:=all_map (f:=pV) (p:=λ_=>True) (es:=es) λx hx=>by
  obtain⟨p,rfl⟩:=ZH (h2 x hx);exact⟨p,trivial,rfl⟩
 exact⟨L,by rw[l3];rfl⟩
theorem abV{cs:List Cell}(h:Fit adS cs):∃e:EntR,cs=dP e∧-9223372036854775808≤e.kind∧e.kind≤9223372036854775807:=by
 obtain⟨_,_,⟨k,wk,rfl⟩,⟨_,_,⟨s,_,rfl⟩,⟨_,_,h1,⟨_,_,h2,rfl,rfl⟩,rfl⟩,rfl⟩,rfl⟩:=h;obtain⟨l,rfl⟩:=Yy h1;obtain⟨r,rfl⟩:=Ob h2;exact⟨⟨k,s,l,r⟩,rfl,wfI64 wk⟩
theorem Ze{cs:List Cell}(h:Fit (.slice ahP) cs):∃l:List LayD,cs=[.sl 3 (l.map dI)]:=by
 obtain⟨es,h1,h2,rfl⟩:=h
 obtain⟨L,l1,l2,l3⟩:=all_map (f:=dI) (p:=λ_=>True) (es:=es) λx hx=>by
  obtain⟨_,_,⟨s,_,rfl⟩,⟨_,_,⟨k,_,rfl⟩,⟨_,_,⟨d,_,rfl⟩,rfl,rfl⟩,rfl⟩,rfl⟩:=h2 x hx;exact⟨⟨s,k,d⟩,trivial,rfl⟩
 exact⟨L,by rw[l3];rfl⟩
theorem VB{cs:List Cell}(h:Fit (.slice adS) cs):∃l:List EntR,cs=[.sl 7 (l.map dP)]:=by
 obtain⟨es,h1,h2,rfl⟩:=h
 obtain⟨L,l1,l2,l3⟩:=all_map (f:=dP) (p:=λ_=>True) (es:=es) λx hx=>by
  obtain⟨e,rfl,_⟩:=abV (h2 x hx);exact⟨e,trivial,rfl⟩
 exact⟨L,by rw[l3];rfl⟩
theorem aaO{cs:List Cell}(h:Fit (.cons (.slice ahP) (.cons (.slice adS) .nil)) cs):∃(ls:List LayD) (es:List EntR),cs=[.sl 3 (ls.map dI),.sl 7 (es.map dP)]:=by
 obtain⟨_,_,h1,⟨_,_,h2,rfl,rfl⟩,rfl⟩:=h;obtain⟨ls,rfl⟩:=Ze h1;obtain⟨es,rfl⟩:=VB h2;exact⟨ls,es,rfl⟩
theorem Gg{α β:Type}{f g:α→β}:∀{xs:List α} {j:Nat} {u:β},(xs.flatMap λp=>[f p,g p])[j]?=some u→∃i p,xs[i]?=some p∧((j=2*i∧u=f p)∨(j=2*i+1∧u=g p))
 |[],j,u,h=>by simp at h
 |x::r,0,u,h=>by
  simp at h;exact⟨0,x,rfl,.inl ⟨rfl,h.symm⟩⟩
 |x::r,1,u,h=>by
  simp at h;exact⟨0,x,rfl,.inr ⟨rfl,h.symm⟩⟩
 |x::r,j+2,u,h=>by
  have h':(r.flatMap λp=>[f p,g p])[j]?=some u:=by simpa using h
  obtain⟨i,p,h1,h2⟩:=Gg h'
  exact⟨i+1,p,by simpa using h1,by
   rcases h2 with⟨rfl,rfl⟩|⟨rfl,rfl⟩
   ·exact .inl ⟨by omega,rfl⟩
   ·exact .inr ⟨by omega,rfl⟩⟩
theorem aau{P:Program}{W:World}{l:List (String×DataW Unit)}{nm:String}{xs:List (ByteArray×Int)}{g:Nat}{t e:TypeId}{f0 f1:Field}(h:laidMet P l W)(hm:(nm,DataW.agg (xs.map λp => .agg [.lit (.string p.1.data.toList),.lit (.int .i64 p.2)]))∈l)
 (hg:P.globalNamed nm=some g) (htg:(P.globals[g]?).map (·.type)=some t) (ht:P.underlying t=some (.array xs.length e)) (he:P.underlying e=some (.struct #[f0,f1])) (hs:P.underlying f0.type=some .string) (hi:P.underlying f1.type=some (.int .i64))
 (o0:f0.offset=0) (o1:f1.offset=1) (c0:P.cellsOf f0.type=1) (c1:P.cellsOf f1.type=1) (ce:P.cellsOf e=2) :
 ∀(j:Nat) u,(xs.flatMap λp=>[Value.string p.1,Value.int .i64 p.2])[j]?=some u→W.cell? ((⟨g,0,none⟩:Addr).add j)=some u:=by
 obtain⟨ps,hl,_⟩:=h;obtain⟨g0,t0,cs,fuel,p,hg0,ht0,hv,hd⟩:=laid_mem hl _ hm;obtain rfl:=TM (hg.symm.trans hg0);obtain rfl:=TM (htg.symm.trans ht0);obtain⟨ys,m,_,ex,hlen,hxl,hel⟩:=DataW.trod_array ht hd
 have e1:xs.map (λp=>DataW.agg (H:=Unit) [.lit (.string p.1.data.toList),.lit (.int .i64 p.2)])=ys.map (·.1):=by
  have:=(Prod.mk.inj ex).1;exact DataW.agg.inj this
 intro j u hj;obtain⟨i,q,hq,hju⟩:=Gg hj;have hi':i<xs.length:=(nG.1 hq).1;have h3:=hel i hi';rw[ce]at h3;have hy:ys[i]?=some ys[i]:=jP (by omega);rw[hy]at h3;obtain⟨y0,y1,n,ey,hcl,k0,k1⟩:=Go.ChangeShapes.trod_struct2 he h3;obtain⟨s,a0,b0,_⟩:=DataW.trod_string hs k0;obtain⟨z,a1,b1,_⟩:=DataW.trod_int hi k1;rw[o0,c0]at a0;rw[o1,c1]at a1;have h4:(xs.map (λp=>DataW.agg (H:=Unit) [.lit (.string p.1.data.toList),.lit (.int .i64 p.2)]))[i]?=(ys.map (·.1))[i]?:=by rw[e1]
 rw[DK,DK,hq,hy,ey,b0,b1]at h4;simp at h4;obtain⟨h5,h6⟩:=h4
 have h7:s=q.1:=by
  obtain⟨⟨sl⟩⟩:=s;obtain⟨⟨⟨ql⟩⟩,qn⟩:=q;simp at h5;rw[h5]
 subst h6 h7
 have g0':cs.toList[2*i]?=some (.string q.1):=by
  have h8:((((cs.toList.drop (i*2)).take 2).drop 0).take 1)[0]?=some (.string q.1):=by rw[a0];rfl
  rw[Zz,List.take_take,Fe,if_pos (by decide),Nq,TU,EI]at h8;exact h8
 have g1':cs.toList[2*i+1]?=some (.int .i64 q.2):=by
  have h8:((((cs.toList.drop (i*2)).take 2).drop 1).take 1)[0]?=some (.int .i64 q.2):=by rw[a1];rfl
  rw[Fe,if_pos (by decide),Nq,Fe,if_pos (by decide),Nq,EI]at h8;exact h8
 have hadd:(⟨g,0,none⟩:Addr).add j=⟨g,j,none⟩:=by
  unfold Addr.add;split
  ·rename_i h;rw[h]
  ·simp
 rw[hadd,World.var?_cell hg hv j];rcases hju with⟨rfl,rfl⟩|⟨rfl,rfl⟩
 ·rw[←g0',Array.getElem?_toList]
 ·rw[←g1',Array.getElem?_toList]
end Go.Sw
namespace Go.Proofs.YtmniihkenijjpaaGreatDoor
open Go Go.RowKit Go.Sw Go.Shelf
set_option maxRecDepth 100000
set_option maxHeartbeats 8000000
def afX:Go.Shelf.Ren:=⟨λn=>if n=283 then 350 else n,λn=>n,λn=>n⟩
theorem adE:Go.Proofs.Lays.n283 Tryz.prog afX where
 mixed:=eF
 f283:=Ai Tryz.func350 (congrArg some (Eq.refl _))
 t3:=Tryz.underlying3
 a3:=Tryz.isAgg3
 z3:=Tryz.sizeOf3
 v3:=Tryz.zeroValue3
 t4:=Tryz.underlying4
 a4:=Tryz.isAgg4
 z4:=Tryz.sizeOf4
 v4:=Tryz.zeroValue4
 t9:=Tryz.underlying9
 a9:=Tryz.isAgg9
 z9:=Tryz.sizeOf9
 v9:=Tryz.zeroValue9
instance(priority:=2000) Dl:Wld Tryz.prog:=⟨λw=>Lib.TabIs Tryz.prog w "internal/strconv.uint64pow10" .u64 Lib.pow10Tab,λh hb=>tab_keep h hb,[],λ_ _ _ h=>by cases h⟩
instance ajg{f:FuncId}{xs:List AV}{pre:Prop}{r:AV}[h : @DenI Tryz.prog WY f xs pre r]:@DenI Tryz.prog Dl f xs pre r:=⟨λhp=>den_lift WY Dl (λ_ _=>trivial) (h.den hp)⟩
def tabs:Tab:=tab
theorem QS : @tabOk Tryz.prog Dl tabs=true:=by kernel_rfl
set_option maxHeartbeats 6400000 in
theorem Y4(u:Nat)(h1:u<100)(w:World):Calls Tryz.prog 325 #[.int .u64 u,.int .i64 10] w λe w'=>e=.returned (.string ⟨(Lib.decDigits u).toArray⟩)∧Below w.heap.size w w':=by
 have hlt:(u:Int)<100:=by omega
 go_enter Tryz.func325,Tryz.ntmps325
 go_wp2_with (go_at_call 350;refine(Any.internal_strconv_small adE u h1 _).mono ?_;rintro e w' ⟨rfl,rfl⟩)
 go_ret
 exact⟨rfl,Below.refl _ _⟩
theorem aeE(u:Nat)(hu:u<18446744073709551616)(w:World)(hW:Wld.ok Tryz.prog w):Calls Tryz.prog 325 #[.int .u64 u,.int .i64 10] w λe w'=>e=.returned (.string (sV u))∧Below w.heap.size w w':=by
 by_cases h:u<100
 ·exact Y4 u h w
 ·exact abf u (by omega) hu w hW
instance alm(z:Int):DenI Tryz.prog 325 [.c (.v (.int .u64 z)),.c (.v (.int .i64 10))] (0≤z∧z<18446744073709551616) (.c (.v (.string (sV z.toNat)))):=⟨λhp=>by
 obtain⟨n,rfl⟩:=Int.eq_ofNat_of_zero_le hp.1;refine Den.of ⟨by kernel_rfl,λw X vs hW hX hl hr=>?_⟩ rfl
 match vs,hl with
 |[u,v],_ =>
 have hu:u=.int .u64 (n:Nat):=by
  have:=hr 0 u _ rfl rfl;cases this with
  |c h=>cases h;rfl
 have hv:v=.int .i64 10:=by
  have:=hr 1 v _ rfl rfl;cases this with
  |c h=>cases h;rfl
 subst hu hv;refine Calls.mono (aeE n (by omega) w hW) ?_;rintro e w' ⟨rfl,hb⟩
 exact⟨_,rfl,(RepR.d (.c (.v _ rfl))).f,hb⟩⟩
instance akg(z:Int):DenI Tryz.prog 289 [.int .u64 z,.int .i64 10] (0≤z∧z<18446744073709551616) (.c (.v (.string (sV z.toNat)))):=⟨λhp=>by
 refine den_of (τ:=tabs) QS eF Tryz.func289 rfl (by kernel_rfl) (by kernel_rfl) (by kernel_rfl) ?_
 all_goals(repeat'((try(conv=>whnf));first
  |refine call_i ?_ ?_|refine Ends.mk ?_))
 all_goals(try refine Pr.mk ?_)
 ·exact hp
 ·rfl⟩
theorem zN{m:Nat}(hm:m<18446744073709551616)(w:World)(hW:Wld.ok Tryz.prog w):Calls Tryz.prog 289 #[.int .u64 m,.int .i64 10] w λe w'=>e=.returned (.string (sV m))∧Below w.heap.size w w':=by
 have h:=((akg (m:Int)).den ⟨by omega,by omega⟩).old rfl;refine(h.2 w [] [.int .u64 m,.int .i64 10] hW (by simp) rfl (λi u v hu hv=>?_)).mono ?_
 ·match i,hu,hv with
  |0,hu,hv=>simp at hu hv;subst hu hv;exact .c (.v _ rfl)
  |1,hu,hv=>simp at hu hv;subst hu hv;exact .c (.v _ rfl)
 ·rintro e w' ⟨u,rfl,hu,hb⟩;refine⟨?_,hb⟩;cases hu.r with
  |d h=>cases h with
   |c h=>cases h;rfl
def acg:Go.Shelf.Ren:=⟨λn=>if n=99 then 292 else if n=105 then 256 else if n=165 then 293 else if n=166 then 288 else if n=169 then 290 else if n=170 then 294 else if n=206 then 328 else if n=212 then 291 else if n=240 then 324 else if n=241 then 329 else if n=263 then 326 else if n=264 then 327 else if n=276 then 349 else if n=277 then 354 else n,λn=>if n=37 then 270 else if n=46 then 228 else if n=51 then 154 else if n=53 then 152 else if n=70 then 269 else if n=72 then 272 else if n=80 then 279 else if n=75 then 274 else if n=76 then 276 else if n=109 then 280 else if n=127 then 315 else if n=146 then 316 else if n=148 then 318 else if n=164 then 337 else n,λn=>n⟩
theorem VW:Go.Proofs.Lays.n105 Tryz.prog acg where
 mixed:=eF
 f99:=Ai Tryz.func292 (congrArg some (Eq.refl _))
 f105:=Ai Tryz.func256 (congrArg some (Eq.refl _))
 f165:=Ai Tryz.func293 (congrArg some (Eq.refl _))
 f166:=Ai Tryz.func288 (congrArg some (Eq.refl _))
 f169:=Ai Tryz.func290 (congrArg some (Eq.refl _))
 f170:=Ai Tryz.func294 (congrArg some (Eq.refl _))
 f206:=Ai Tryz.func328 (congrArg some (Eq.refl _))
 f212:=Ai Tryz.func291 (congrArg some (Eq.refl _))
 f240:=Ai Tryz.func324 (congrArg some (Eq.refl _))
 f241:=Ai Tryz.func329 (congrArg some (Eq.refl _))
 f263:=Ai Tryz.func326 (congrArg some (Eq.refl _))
 f264:=Ai Tryz.func327 (congrArg some (Eq.refl _))
 f276:=Ai Tryz.func349 (congrArg some (Eq.refl _))
 f277:=Ai Tryz.func354 (congrArg some (Eq.refl _))
 t0:=Tryz.underlying0
 a0:=Tryz.isAgg0
 z0:=Tryz.sizeOf0
 v0:=Tryz.zeroValue0
 t3:=Tryz.underlying3
 a3:=Tryz.isAgg3
 z3:=Tryz.sizeOf3
 v3:=Tryz.zeroValue3
 t4:=Tryz.underlying4
 a4:=Tryz.isAgg4
 z4:=Tryz.sizeOf4
 v4:=Tryz.zeroValue4
 t5:=Tryz.underlying5
 a5:=Tryz.isAgg5
 z5:=Tryz.sizeOf5
 v5:=Tryz.zeroValue5
 t9:=Tryz.underlying9
 a9:=Tryz.isAgg9
 z9:=Tryz.sizeOf9
 v9:=Tryz.zeroValue9
 t20:=Tryz.underlying20
 a20:=Tryz.isAgg20
 z20:=Tryz.sizeOf20
 v20:=Tryz.zeroValue20
 t37:=Tryz.underlying270
 a37:=Tryz.isAgg270
 z37:=Tryz.sizeOf270
 v37:=Tryz.zeroValue270
 t46:=Tryz.underlying228
 a46:=Tryz.isAgg228
 z46:=Tryz.sizeOf228
 v46:=Tryz.zeroValue228
 t51:=Tryz.underlying154
 a51:=Tryz.isAgg154
 z51:=Tryz.sizeOf154
 v51:=Tryz.zeroValue154
 t53:=Tryz.underlying152
 a53:=Tryz.isAgg152
 z53:=Tryz.sizeOf152
 v53:=Tryz.zeroValue152
 t70:=Tryz.underlying269
 a70:=Tryz.isAgg269
 z70:=Tryz.sizeOf269
 v70:=Tryz.zeroValue269
 t72:=Tryz.underlying272
 a72:=Tryz.isAgg272
 z72:=Tryz.sizeOf272
 v72:=Tryz.zeroValue272
 t75:=Tryz.underlying274
 a75:=Tryz.isAgg274
 z75:=Tryz.sizeOf274
 v75:=Tryz.zeroValue274
 t76:=Tryz.underlying276
 a76:=Tryz.isAgg276
 z76:=Tryz.sizeOf276
 v76:=Tryz.zeroValue276
 t109:=Tryz.underlying280
 a109:=Tryz.isAgg280
 z109:=Tryz.sizeOf280
 v109:=Tryz.zeroValue280
 t127:=Tryz.underlying315
 a127:=Tryz.isAgg315
 z127:=Tryz.sizeOf315
 v127:=Tryz.zeroValue315
 t146:=Tryz.underlying316
 a146:=Tryz.isAgg316
 z146:=Tryz.sizeOf316
 v146:=Tryz.zeroValue316
 t148:=Tryz.underlying318
 a148:=Tryz.isAgg318
 z148:=Tryz.sizeOf318
 v148:=Tryz.zeroValue318
 t164:=Tryz.underlying337
 a164:=Tryz.isAgg337
 z164:=Tryz.sizeOf337
 v164:=Tryz.zeroValue337
theorem acF:Builder.Extra Tryz.prog acg where
 sizeBuilder:=by kernel_rfl
 liesBuilder:=by kernel_rfl
 t5:=Tryz.underlying5
 a5:=Tryz.isAgg5
 z5:=Tryz.sizeOf5
 v5:=Tryz.zeroValue5
 infoByte:=by kernel_rfl
 cellsByte:=by kernel_rfl
 sizeByte:=by kernel_rfl
 neB5:=by decide
theorem agd{k:Nat}(hk:k≤9)(w:World):Calls Tryz.prog 256 #[.string ⟨#[48]⟩,.int .i64 k] w λe w'=>e=.returned (.string ⟨(List.replicate k (48:UInt8)).toArray⟩)∧Below w.heap.size w w':=by
 refine(Any.strings_Repeat VW acF ⟨#[48]⟩ k w (by omega) (by show 1*k≤_;omega)).mono ?_;rintro e w' ⟨rfl,hb⟩;refine⟨?_,hb⟩
 have:Lib.repeatL [(48:UInt8)] k=List.replicate k 48:=by
  have:∀k:Nat,k≤9→Lib.repeatL [(48:UInt8)] k=List.replicate k 48:=by decide +kernel
  exact this k hk
 rw[show(ByteArray.mk #[48]).data.toList=[(48:UInt8)]from rfl,this]
theorem Yr:(Tryz.prog.info? 272).map (λi=>i.size)=some 2:=by kernel_rfl
theorem aer:liesAt Tryz.prog Tryz.prog.depth 272 (2/Tryz.prog.cellsOf 272) 0 272 1=true:=by kernel_rfl
theorem Yx(b:Nat)(w:World)(h0:w.cell? ⟨b,0,none⟩=some (.pointer (some ⟨b,0,none⟩))):
 Calls Tryz.prog 324 #[.pointer (some ⟨b,0,none⟩)] w λe w'=>e=.returned (.tuple #[])∧w'=w:=by
 obtain⟨j,hj,_⟩:=Option.map_eq_some_iff.1 Yr
 go_enter Tryz.func324,Tryz.ntmps324
 go_wp2
 rw[Lib.run_neq_ptr_same w _ Tryz.underlying269 hj]
 go_wp2
 go_end0
 exact⟨rfl,rfl⟩
theorem TK(b:Nat)(w:World)(h0:w.cell? ⟨b,0,none⟩=some (.pointer none))(hsh:w.shape? b=some (272,2))(hfz:w.frozen? ⟨b,0,none⟩=false):
 Calls Tryz.prog 324 #[.pointer (some ⟨b,0,none⟩)] w λe w'=>e=.returned (.tuple #[])∧w'=w.setCell ⟨b,0,none⟩ (.pointer (some ⟨b,0,none⟩)):=by
 obtain⟨j,hj,hjs⟩:=Option.map_eq_some_iff.1 Yr
 go_enter Tryz.func324,Tryz.ntmps324
 go_wp2
 rw[Lib.run_to_unsafe w ⟨b,0,none⟩ Tryz.underlying269 Tryz.underlying337 hj (by rw[hjs];decide) hsh (Nat.zero_lt_succ 1)];simp only[Result.andThen];rw[Oper.upon_value]
 go_wp2
 rw[run_callFunc_extern Tryz.func349 (by kernel_rfl) (by kernel_rfl) (by kernel_rfl) (e:=Extern.AbiNoEscape.same) (by kernel_rfl)];rw[Lib.run_noEscape];simp only[Result.andThen];rw[Oper.upon_value]
 go_wp2
 rw[Lib.run_from_unsafe w ⟨b,0,none⟩ Tryz.underlying337 Tryz.underlying269 hj hsh aer];simp only[Result.andThen];rw[Oper.upon_value]
 go_wp2
 go_end0
 exact⟨rfl,rfl⟩
theorem cc_(B b:Nat)(bs:List Value)(w:World)(h:Lib.IsBuilder 272 5 B b bs w):
 Calls Tryz.prog 324 #[.pointer (some ⟨b,0,none⟩)] w λe w'=>e=.returned (.tuple #[])∧(Lib.BuilderAt 272 5 B b (.pointer (some ⟨b,0,none⟩)) bs w'∧Below B w w'):=by
 rcases h with h|h
 ·refine(TK b w h.cell0 h.shape h.frozen0).mono ?_;rintro e w' ⟨rfl,rfl⟩;exact⟨rfl,h.used _,(Below.refl B w).setCell (p:=⟨b,0,none⟩) h.1 _⟩
 ·refine(Yx b w h.cell0).mono ?_;rintro e w' ⟨rfl,rfl⟩;exact⟨rfl,h,Below.refl _ _⟩
theorem Za:∃i0,Tryz.prog.info? 5=some i0∧i0.zero=some (.int .u8 0)∧i0.size=1∧i0.bytes=1:=info_parts (by kernel_rfl)
theorem FU(w:World){b:Nat}{x y:Value}(h:w.heap[b]?=some (.cells #[x,y] 272 (0,0))):b<w.heap.size:=by
 rcases EW b w.heap.size with h'|h'
 ·exact h'
 ·simp[Array.getElem?_eq_none h']at h
theorem wb_(B b:Nat)(bs:List Value)(c:Int)(w:World)(h:Lib.IsBuilder 272 5 B b bs w)(hlen:bs.length+1≤1000000)(hBw:B≤w.heap.size):
 Calls Tryz.prog 287 #[.pointer (some ⟨b,0,none⟩),.int .u8 c] w λe w'=>e=.returned .nilIface∧(Lib.BuilderAt 272 5 B b (.pointer (some ⟨b,0,none⟩)) (bs++[.int .u8 c]) w'∧Below B w w'):=by
 obtain⟨i0,hi,hz0,hz1,hz2⟩:=Za
 go_enter Tryz.func287,Tryz.ntmps287
 go_wp2_with (go_at_call 324;refine(cc_ B b bs _ h).mono ?_)
 rintro e w1 ⟨rfl,h1,hb1⟩;obtain⟨hB,v,hbk,hown,hne⟩:=h1;have c0:w1.cell? ⟨b,0,none⟩=some (.pointer (some ⟨b,0,none⟩)):=by rw[Lib.cell_of_heap hbk];rfl
 have c1:w1.cell? ⟨b,1,none⟩=some v:=by rw[Lib.cell_of_heap hbk];rfl
 go_wp2_with (at_builtin;refine wpList_append_own _ rfl _ _ 270 rfl B 5 i0 (.int .u8 0) 1 1 Tryz.underlying270 hi hz0 hz1 hz2 rfl (by decide) _ _ _ rfl (hown.alloc _) ⟨w1.heap.size,0,none⟩ 1 1 [.int .u8 c] rfl rfl ?c1 ?c2 ?c3 ?c4 ?c5 ?_)
 case c1 =>
  intro j u hj
  match j,hj with
  |0,hj=>simp at hj;subst hj;simp[Addr.add]
 case c2=>intro u hu;simp at hu;subst hu;rfl
 case c3=>unfold maxLen;omega
 case c4=>omega
 case c5=>have:=hb1.size;simp;omega
 intro v' w2 hown' hgrow _;have hlt:=FU w1 hbk
 have hb2:w2.heap[b]?=some (.cells #[.pointer (some ⟨b,0,none⟩),v] 272 (0,0)):=by
  rw[hgrow.block b (by simp;omega) (λe=>hne e.symm),Lib.alloc_old w1 _ b hlt];exact hbk
 have d0:w2.cell? ⟨b,0,none⟩=some (.pointer (some ⟨b,0,none⟩)):=by rw[Lib.cell_of_heap hb2];rfl
 have d1:w2.cell? ⟨b,1,none⟩=some v:=by rw[Lib.cell_of_heap hb2];rfl
 have f1:w2.frozen? ⟨b,1,none⟩=false:=Lib.frozen_of_heap hb2 1
 obtain⟨g,cap,rfl⟩:∃g cap,v'=.slice (some ⟨g,0,none⟩) (bs.length+1) cap:=by
  rcases hown'.2 with⟨_,h0⟩|⟨g,cap,cur,hv,_⟩
  ·omega
  ·exact⟨g,cap,hv⟩
 go_wp2
 go_ret
 refine⟨rfl, ?_, ?_⟩
 ·exact Lib.BuilderAt.put (T:=272) (e:=5) hB hb2 (bs':=bs++[.int .u8 c]) (by simpa using hown') (by decide)
 ·exact((hb1.alloc (by have:=hb1.size;omega) _).grown hgrow (by have:=hb1.size;simp;omega) (λk hk=>(hown.lt k hk).1)).setCell (p:=⟨b,1,none⟩) hB _
theorem lW(B b:Nat)(bs:List Value)(s:ByteArray)(w:World)(h:Lib.IsBuilder 272 5 B b bs w)(hlen:bs.length+s.size≤1000000)(hBw:B≤w.heap.size):
 Calls Tryz.prog 288 #[.pointer (some ⟨b,0,none⟩),.string s] w λe w'=>e=.returned (.tuple #[.int .i64 s.size,.nilIface])∧(Lib.BuilderAt 272 5 B b (.pointer (some ⟨b,0,none⟩)) (bs++Lib.strCells s) w'∧Below B w w'):=by
 obtain⟨i0,hi,hz0,hz1,hz2⟩:=Za
 go_enter Tryz.func288,Tryz.ntmps288
 go_wp2_with (go_at_call 324;refine(cc_ B b bs _ h).mono ?_)
 rintro e w1 ⟨rfl,h1,hb1⟩;obtain⟨hB,v,hbk,hown,hne⟩:=h1;have c0:w1.cell? ⟨b,0,none⟩=some (.pointer (some ⟨b,0,none⟩)):=by rw[Lib.cell_of_heap hbk];rfl
 have c1:w1.cell? ⟨b,1,none⟩=some v:=by rw[Lib.cell_of_heap hbk];rfl
 go_wp2_with (at_builtin;refine Lib.wpList_append_own_string _ rfl _ _ 270 9 rfl B 5 i0 Tryz.underlying270 Tryz.underlying9 hi hz0 hz1 hz2 _ _ _ rfl hown s rfl ?c3 ?c4 ?c5 ?_)
 case c3=>unfold maxLen;omega
 case c4=>omega
 case c5=>have:=hb1.size;omega
 intro v' w2 hown' hgrow _;have hlt:=FU w1 hbk
 have hb2:w2.heap[b]?=some (.cells #[.pointer (some ⟨b,0,none⟩),v] 272 (0,0)):=by
  rw[hgrow.block b hlt (λe=>hne e.symm)];exact hbk
 have d0:w2.cell? ⟨b,0,none⟩=some (.pointer (some ⟨b,0,none⟩)):=by rw[Lib.cell_of_heap hb2];rfl
 have d1:w2.cell? ⟨b,1,none⟩=some v:=by rw[Lib.cell_of_heap hb2];rfl
 have f1:w2.frozen? ⟨b,1,none⟩=false:=Lib.frozen_of_heap hb2 1
 obtain⟨ao,n',cap,rfl⟩:∃ao n' cap,v'=.slice ao n' cap:=by
  rcases hown'.2 with⟨hv,_⟩|⟨g,cap,cur,hv,_⟩
  ·exact⟨_,_,_,hv⟩
  ·exact⟨_,_,_,hv⟩
 go_wp2
 go_ret2
 refine⟨rfl, ?_, ?_⟩
 ·exact Lib.BuilderAt.put (T:=272) (e:=5) hB hb2 (bs':=bs++Lib.strCells s) (by simpa[Lib.strCells_length]using hown') (by decide)
 ·exact(hb1.grown hgrow (by have:=hb1.size;omega) (λk hk=>(hown.lt k hk).1)).setCell (p:=⟨b,1,none⟩) hB _
def Jb:Ren where
 f:=λx=>match x with|169=>290|n=>n
 t:=λx=>match x with|70=>269|9=>9|0=>0|72=>272|37=>270|127=>315|3=>3|5=>5|n=>n
 g:=λx=>x
theorem KH:Lays.n169 Tryz.prog Jb where
 mixed:=by kernel_rfl
 f169:=Ai Tryz.func290 (congrArg some (Eq.refl (Body.n169 Jb)))
 t0:=Tryz.underlying0
 a0:=Tryz.isAgg0
 z0:=Tryz.sizeOf0
 v0:=Tryz.zeroValue0
 t3:=Tryz.underlying3
 a3:=Tryz.isAgg3
 z3:=Tryz.sizeOf3
 v3:=Tryz.zeroValue3
 t9:=Tryz.underlying9
 a9:=Tryz.isAgg9
 z9:=Tryz.sizeOf9
 v9:=Tryz.zeroValue9
 t37:=Tryz.underlying270
 a37:=Tryz.isAgg270
 z37:=Tryz.sizeOf270
 v37:=Tryz.zeroValue270
 t70:=Tryz.underlying269
 a70:=Tryz.isAgg269
 z70:=Tryz.sizeOf269
 v70:=Tryz.zeroValue269
 t72:=Tryz.underlying272
 a72:=Tryz.isAgg272
 z72:=Tryz.sizeOf272
 v72:=Tryz.zeroValue272
 t127:=Tryz.underlying315
 a127:=Tryz.isAgg315
 z127:=Tryz.sizeOf315
 v127:=Tryz.zeroValue315
theorem P6:Builder.Extra Tryz.prog Jb where
 sizeBuilder:=by kernel_rfl
 liesBuilder:=by kernel_rfl
 t5:=Tryz.underlying5
 a5:=Tryz.isAgg5
 z5:=Tryz.sizeOf5
 v5:=Tryz.zeroValue5
 infoByte:=by kernel_rfl
 cellsByte:=by kernel_rfl
 sizeByte:=by kernel_rfl
 neB5:=by decide
theorem sO(w:World)(o:Obj):(w.alloc o).heap.size=w.heap.size+1:=by simp[World.alloc,-World.alloc_eq]
theorem P5(w:World)(o:Obj):(w.alloc o).heap[w.heap.size]?=some o:=by simp[World.alloc,-World.alloc_eq]
theorem yY{w w1:World}{x y:Array Value}{s t:TypeId}(hb:Below ((w.alloc (.cells x s)).alloc (.cells y t)).heap.size ((w.alloc (.cells x s)).alloc (.cells y t)) w1):
 w1.heap[w.heap.size]?=some (.cells x s (0,0))∧w1.heap[w.heap.size+1]?=some (.cells y t (0,0))∧Below w.heap.size w w1∧w.heap.size+2≤w1.heap.size:=by
 have e1:=sO w (.cells x s);have e2:=sO (w.alloc (.cells x s)) (.cells y t);refine⟨?_, ?_,⟨hb.os,hb.tape,hb.output, ?_,λk hk=>?_⟩, ?_⟩
 ·rw[hb.block _ (by omega),Lib.alloc_old _ _ _ (by omega),P5]
 ·rw[hb.block _ (by omega),←e1,P5]
 ·have:=hb.size;omega
 ·rw[hb.block k (by omega),Lib.alloc_old _ _ _ (by omega),Lib.alloc_old _ _ _ hk]
 ·have:=hb.size;omega
theorem zC{w2:World}{g:Nat}{x y:Value}{t:TypeId}(h:w2.heap[g]?=some (.cells #[x,y] t (0,0))):w2.cell? ⟨g,1,none⟩=some y:=by
 rw[Lib.cell_of_heap h];rfl
theorem MO{w:World}{b:Nat}{o:Obj}(h:w.heap[b]?=some o):b<w.heap.size:=by
 rcases EW b w.heap.size with h'|h'
 ·exact h'
 ·simp[Array.getElem?_eq_none h']at h
theorem oH{w w':World}{T e:TypeId}{B b:Nat}{p:Value}{bs:List Value}(h:Lib.BuilderAt T e B b p bs w)(hb:Below w.heap.size w w'):Lib.BuilderAt T e B b p bs w':=by
 obtain⟨h1,v,h2,h3,h4⟩:=h;refine⟨h1,v,by rw[hb.block b (MO h2)];exact h2,⟨h3.1, ?_⟩,h4⟩;rcases h3.2 with h|⟨g,cap,cur,k1,k2,k3,k4⟩
 ·exact .inl h
 ·exact .inr ⟨g,cap,cur,k1,k2,by rw[hb.block g (MO k3)];exact k3,k4⟩
set_option maxHeartbeats 6400000 in
theorem Uf(L:Nat)(x:Nat→Nat)(D:Nat→List UInt8)(A:Addr)(cap:Nat)(w:World)(hW:Wld.ok Tryz.prog w)(hA:A.block<w.heap.size)(hc:∀i,i<L→w.cell? (A.add i)=some (.int .u32 ((x i:Nat):Int)))
 (hn:0<L) (hl:L≤100000) (hx:∀i,x i<1000000000) (hD:D (L-1)=Lib.decDigits (x (L-1))) (hs:∀i,i+1<L→D (i+1)++List.replicate (9-Lib.nDigits (x i)) 48++Lib.decDigits (x i)=D i) (hdl:∀i,(D i).length≤9*L) (h0:0<(D 0).length) :
 Calls Tryz.prog 255 #[.agg #[.bool false,.slice (some A) L cap]] w λe w'=>e=.returned (.string ⟨([]++D 0).toArray⟩)∧Below w.heap.size w w':=by
 have hln:¬((L:Nat):Int)=0:=by omega
 have w1:wrap64 ((L:Int)-1)=((L-1:Nat):Int):=by unfold wrap64;omega
 have hci:∀(w1:World) (i:Nat),i<L→Below w.heap.size w w1→w1.cell? (A.add i)=some (.int .u32 ((x i:Nat):Int)):=λw1 i hi h=>by rw[h.cell (by rw[block_add];exact hA)];exact hc i hi
 have hbl:∀i,i+1<L→bv ([]++D (i+1))++Lib.strCells ⟨(List.replicate (9-Lib.nDigits (x i)) (48:UInt8)).toArray⟩++Lib.strCells (sV (x i))=bv ([]++D i):=λi hi=>by
  rw[←hs i hi,Yp,show Lib.strCells (sV (x i))=bv (Lib.decDigits (x i))from rfl,←zJ,←zJ,o8,o8,o8]
 have hbd:bv ([]++D (L-1))=bv []++Lib.strCells (sV (x (L-1))):=by rw[hD,zJ];rfl
 have hdl:∀i,(bv ([]++D i)).length≤9*L+1:=λi=>by have:=hdl i;rw[XY,gY];simp only[iH,jf];omega
 have hb0:bv ([]++D 0)=([]++D 0:List UInt8).map λb:UInt8=>Value.int .u8 (b.toNat:Int):=rfl
 have hne:[]++D 0≠[]:=by intro e;have:=congrArg List.length e;rw[gY,jf]at this;omega
 clear hs hD hc;have c1:=hci;have hxt:=hx (L-1);have hdt:=uM (x (L-1));have hgt:=Cj hxt;have ctop:=λw1 h=>hci w1 (L-1) (by omega) h
 generalize hxg:x (L-1)=xt at hxt hdt hgt ctop hbd;clear c1
 go_enter Tryz.func255,Tryz.ntmps255
 have e1:=sO w (.cells #[.bool false,.slice (some A) L cap] 28);obtain⟨r1,r2,hW0,r3⟩:=yY (Below.refl _ ((w.alloc (.cells #[.bool false,.slice (some A) L cap] 28)).alloc (.cells #[.pointer none,.slice none 0 0] 272)));have c1:=ctop _ hW0;have hk0:Wld.ok Tryz.prog ((w.alloc (.cells #[.bool false,.slice (some A) L cap] 28)).alloc (.cells #[.pointer none,.slice none 0 0] 272)):=Wld.keep hW hW0;clear hW0 r1 r2 r3
 go_wp2_with (go_at_call 289;refine(zN (m:=xt) (by omega) _ hk0).mono ?_)
 rintro e w1 ⟨rfl,hb1⟩;obtain⟨q0,q1,hW1,hsz⟩:=yY hb1;have hB:Lib.IsBuilder 272 5 (w.heap.size+1) (w.heap.size+1) [] w1:=.inl ⟨kU _,.slice none 0 0,q1,World.ownsRow_nil _ _ _ _,by simp[Value.ownBlock]⟩;clear hb1 c1 hk0
 go_wp2_with (go_at_call 288;refine(lW _ _ _ (sV xt) _ hB (by simp only[jf];omega) (by omega)).mono ?_)
 rintro e w2 ⟨rfl,hB2,hb2⟩;have q2:w2.heap[w.heap.size]?=some (.cells #[.bool false,.slice (some A) L cap] 28 (0,0)):=by rw[hb2.block _ (by omega)];exact q0
 have hW3:Below w.heap.size w w2:=hW1.trans (hb2.mono (by omega));have hs2:w.heap.size+2≤w2.heap.size:=by have:=hb2.size;omega
 clear hB q0 q1 hW1 hsz hb2 ctop;have w2e:wrap64 ((L:Int)-2)=((L-1:Nat):Int)-1:=by unfold wrap64;omega
 rw[show([]:List Value)++Lib.strCells (sV xt)=bv ([]++D (L-1))from hbd.symm]at hB2;clear hbd hxg hxt hdt hgt
 go_wp2
 go_loopg [5] L (λkk s5 wr=>∃i:Nat,i+1≤L∧i≤kk∧s5=.int .i64 ((i:Int)-1)∧Lib.BuilderAt 272 5 (w.heap.size+1) (w.heap.size+1) (.pointer (some ⟨w.heap.size+1,0,none⟩)) (bv ([]++D i)) wr ∧
  wr.heap[w.heap.size]?=some (.cells #[.bool false,.slice (some A) L cap] 28 (0,0))∧Below w.heap.size w wr∧w.heap.size+2≤wr.heap.size)
 case atStart =>
  refine⟨L-1,by omega,by omega,by congr 1;omega, ?_,q2,hW3,hs2⟩;exact hB2
 case round =>
  obtain⟨i,hi1,hi2,rfl,hBi,qi,hWi,hsi⟩:=hrel;clear hB2 q2 hW3 hs2 w2e w1;have ci:=zC qi;cases i with
  |zero =>
   clear hci hbl hdl hx;rw[hb0]at hBi
   go_wp2_with (go_at_call 290;refine(Any.Builder_String KH P6 _ _ ([]++D 0) _ (.inr hBi) hne).mono ?_)
   rintro e w3 ⟨rfl,hb3⟩
   go_wp2
   go_ret
   exact⟨rfl,hWi.trans (hb3.mono (by omega))⟩
  |succ i =>
   have cy:=hci wr i (by omega) hWi;have hlb:=hx i;have hbl:=hbl i (by omega);have hdl1:=hdl (i+1);have hdl0:=hdl i;have hpos:((i+1:Nat):Int)-1≥0:=by omega
   have hz:((i+1:Nat):Int)-1=(i:Int):=by omega
   have hk1:Wld.ok Tryz.prog wr:=Wld.keep hW hWi;have hsy:=uM (x i);have hdy:=Cj hlb;clear hci hdl hb0 hne h0 hx;generalize x i=y at cy hlb hbl hsy hdy;obtain⟨k,hk⟩:∃k,k+Lib.nDigits y=9:=⟨9-Lib.nDigits y,by omega⟩
   rw[show 9-Lib.nDigits y=k by omega]at hbl;have e9:(9:Int)-(Lib.nDigits y:Int)=(k:Int):=by omega
   have wi:wrap64 ((i:Int)-1)=(i:Int)-1:=by unfold wrap64;omega
   rw[hz]at hpos ⊢;clear hz
   go_wp2_with (go_at_call 289;refine(zN (m:=y) (by omega) _ hk1).mono ?_)
   rintro e wa ⟨rfl,hba⟩;have hBa:=oH hBi hba;have hsa:w.heap.size+2≤wa.heap.size:=by have:=hba.size;omega
   have qa:wa.heap[w.heap.size]?=some (.cells #[.bool false,.slice (some A) L cap] 28 (0,0)):=by rw[hba.block _ (by omega)];exact qi
   have hWa:Below w.heap.size w wa:=hWi.trans (hba.mono (by omega));clear hBi qi ci cy hWi hsi hba hk1
   go_wp2_with (go_at_call 256;refine(agd (k:=k) (by omega) _).mono ?_)
   rintro e wb_ ⟨rfl,hbb⟩;have hBb:=oH hBa hbb;have hsb:w.heap.size+2≤wb_.heap.size:=by have:=hbb.size;omega
   have qb:wb_.heap[w.heap.size]?=some (.cells #[.bool false,.slice (some A) L cap] 28 (0,0)):=by rw[hbb.block _ (by omega)];exact qa
   have hWb:Below w.heap.size w wb_:=hWa.trans (hbb.mono (by omega));clear hBa qa hWa hsa hbb;have hrl:(ByteArray.mk (List.replicate k (48:UInt8)).toArray).size=k:=by show(List.replicate k (48:UInt8)).toArray.size=_;rw[UF,BI]
   generalize ByteArray.mk (List.replicate k (48:UInt8)).toArray=rs at hrl hbl ⊢
   go_wp2_with (go_at_call 288;refine(lW _ _ _ rs _ (.inr hBb) (by omega) (by omega)).mono ?_)
   rintro e wc ⟨rfl,hBc,hbc⟩;have hsc:w.heap.size+2≤wc.heap.size:=by have:=hbc.size;omega
   have qc:wc.heap[w.heap.size]?=some (.cells #[.bool false,.slice (some A) L cap] 28 (0,0)):=by rw[hbc.block _ (by omega)];exact qb
   have hWc:Below w.heap.size w wc:=hWb.trans (hbc.mono (by omega));clear hBb qb hWb hsb hbc
   go_wp2_with (go_at_call 288;refine(lW _ _ _ (sV y) _ (.inr hBc) (by rw[gY,Lib.strCells_length];omega) (by omega)).mono ?_)
   rintro e wd ⟨rfl,hBd,hbd⟩;rw[hbl]at hBd;have hsd:w.heap.size+2≤wd.heap.size:=by have:=hbd.size;omega
   have qd:wd.heap[w.heap.size]?=some (.cells #[.bool false,.slice (some A) L cap] 28 (0,0)):=by rw[hbd.block _ (by omega)];exact qc
   have hWd:Below w.heap.size w wd:=hWc.trans (hbd.mono (by omega));clear hBc qc hWc hsc hbd
   go_wp2
   go_roundg i
   case measure=>omega
   case rel=>exact⟨i,by omega,kU _,rfl,hBd,qd,hWd,hsd⟩
set_option maxHeartbeats 6400000 in
theorem SX(L:Nat)(x:Nat→Nat)(D:Nat→List UInt8)(A:Addr)(cap:Nat)(w:World)(hW:Wld.ok Tryz.prog w)(hA:A.block<w.heap.size)(hc:∀i,i<L→w.cell? (A.add i)=some (.int .u32 ((x i:Nat):Int)))
 (hn:0<L) (hl:L≤100000) (hx:∀i,x i<1000000000) (hD:D (L-1)=Lib.decDigits (x (L-1))) (hs:∀i,i+1<L→D (i+1)++List.replicate (9-Lib.nDigits (x i)) 48++Lib.decDigits (x i)=D i) (hdl:∀i,(D i).length≤9*L) (h0:0<(D 0).length) :
 Calls Tryz.prog 255 #[.agg #[.bool true,.slice (some A) L cap]] w λe w'=>e=.returned (.string ⟨([45]++D 0).toArray⟩)∧Below w.heap.size w w':=by
 have hln:¬((L:Nat):Int)=0:=by omega
 have w1:wrap64 ((L:Int)-1)=((L-1:Nat):Int):=by unfold wrap64;omega
 have hci:∀(w1:World) (i:Nat),i<L→Below w.heap.size w w1→w1.cell? (A.add i)=some (.int .u32 ((x i:Nat):Int)):=λw1 i hi h=>by rw[h.cell (by rw[block_add];exact hA)];exact hc i hi
 have hbl:∀i,i+1<L→bv ([45]++D (i+1))++Lib.strCells ⟨(List.replicate (9-Lib.nDigits (x i)) (48:UInt8)).toArray⟩++Lib.strCells (sV (x i))=bv ([45]++D i):=λi hi=>by
  rw[←hs i hi,Yp,show Lib.strCells (sV (x i))=bv (Lib.decDigits (x i))from rfl,←zJ,←zJ,o8,o8,o8]
 have hbd:bv ([45]++D (L-1))=bv [45]++Lib.strCells (sV (x (L-1))):=by rw[hD,zJ];rfl
 have hdl:∀i,(bv ([45]++D i)).length≤9*L+1:=λi=>by have:=hdl i;rw[XY,gY];simp only[iH,jf];omega
 have hb0:bv ([45]++D 0)=([45]++D 0:List UInt8).map λb:UInt8=>Value.int .u8 (b.toNat:Int):=rfl
 have hne:[45]++D 0≠[]:=by intro e;have:=congrArg List.length e;rw[gY,jf]at this;omega
 clear hs hD hc;have c1:=hci;have hxt:=hx (L-1);have hdt:=uM (x (L-1));have hgt:=Cj hxt;have ctop:=λw1 h=>hci w1 (L-1) (by omega) h
 generalize hxg:x (L-1)=xt at hxt hdt hgt ctop hbd;clear c1
 go_enter Tryz.func255,Tryz.ntmps255
 have e1:=sO w (.cells #[.bool true,.slice (some A) L cap] 28);obtain⟨q0,q1,hW0,hsz0⟩:=yY (Below.refl _ ((w.alloc (.cells #[.bool true,.slice (some A) L cap] 28)).alloc (.cells #[.pointer none,.slice none 0 0] 272)));have hB:Lib.IsBuilder 272 5 (w.heap.size+1) (w.heap.size+1) [] ((w.alloc (.cells #[.bool true,.slice (some A) L cap] 28)).alloc (.cells #[.pointer none,.slice none 0 0] 272)):=.inl ⟨kU _,.slice none 0 0,q1,World.ownsRow_nil _ _ _ _,by simp[Value.ownBlock]⟩
 go_wp2_with (go_at_call 287;refine(wb_ _ _ _ 45 _ hB (by decide) (by omega)).mono ?_)
 rintro e w0 ⟨rfl,hB0,hb0'⟩;have hW1:Below w.heap.size w w0:=hW0.trans (hb0'.mono (by omega));have q5:w0.heap[w.heap.size]?=some (.cells #[.bool true,.slice (some A) L cap] 28 (0,0)):=by rw[hb0'.block _ (by omega)];exact q0
 have c5:=zC q5;have c6:=ctop w0 hW1;clear hB q0 q1 hW0;have hs0:w.heap.size+2≤w0.heap.size:=by have:=hb0'.size;omega
 clear hb0';have hk0:Wld.ok Tryz.prog w0:=Wld.keep hW hW1
 go_wp2_with (go_at_call 289;refine(zN (m:=xt) (by omega) _ hk0).mono ?_)
 rintro e w1 ⟨rfl,hb1⟩;have hW2:Below w.heap.size w w1:=hW1.trans (hb1.mono (by omega));have hB1:=oH hB0 hb1;have q6:w1.heap[w.heap.size]?=some (.cells #[.bool true,.slice (some A) L cap] 28 (0,0)):=by rw[hb1.block _ (by omega)];exact q5
 have hs1:w.heap.size+2≤w1.heap.size:=by have:=hb1.size;omega
 clear hb1 c5 c6 hk0
 go_wp2_with (go_at_call 288;refine(lW _ _ _ (sV xt) _ (.inr hB1) (by simp only[gY,jf,iH];omega) (by omega)).mono ?_)
 rintro e w2 ⟨rfl,hB2,hb2⟩;have q2:w2.heap[w.heap.size]?=some (.cells #[.bool true,.slice (some A) L cap] 28 (0,0)):=by rw[hb2.block _ (by omega)];exact q6
 have hW3:Below w.heap.size w w2:=hW2.trans (hb2.mono (by omega));have hs2:w.heap.size+2≤w2.heap.size:=by have:=hb2.size;omega
 clear hB1 hB0 q5 q6 hW1 hW2 hs0 hs1 hb2 hsz0 ctop;have w2e:wrap64 ((L:Int)-2)=((L-1:Nat):Int)-1:=by unfold wrap64;omega
 rw[show([]:List Value)++[.int .u8 45]++Lib.strCells (sV xt)=bv ([45]++D (L-1))from hbd.symm]at hB2;clear hbd hxg hxt hdt hgt
 go_wp2
 go_loopg [5] L (λkk s5 wr=>∃i:Nat,i+1≤L∧i≤kk∧s5=.int .i64 ((i:Int)-1)∧Lib.BuilderAt 272 5 (w.heap.size+1) (w.heap.size+1) (.pointer (some ⟨w.heap.size+1,0,none⟩)) (bv ([45]++D i)) wr ∧
  wr.heap[w.heap.size]?=some (.cells #[.bool true,.slice (some A) L cap] 28 (0,0))∧Below w.heap.size w wr∧w.heap.size+2≤wr.heap.size)
 case atStart =>
  refine⟨L-1,by omega,by omega,by congr 1;omega, ?_,q2,hW3,hs2⟩;exact hB2
 case round =>
  obtain⟨i,hi1,hi2,rfl,hBi,qi,hWi,hsi⟩:=hrel;clear hB2 q2 hW3 hs2 w2e w1;have ci:=zC qi;cases i with
  |zero =>
   clear hci hbl hdl hx;rw[hb0]at hBi
   go_wp2_with (go_at_call 290;refine(Any.Builder_String KH P6 _ _ ([45]++D 0) _ (.inr hBi) hne).mono ?_)
   rintro e w3 ⟨rfl,hb3⟩
   go_wp2
   go_ret
   exact⟨rfl,hWi.trans (hb3.mono (by omega))⟩
  |succ i =>
   have cy:=hci wr i (by omega) hWi;have hlb:=hx i;have hbl:=hbl i (by omega);have hdl1:=hdl (i+1);have hdl0:=hdl i;have hpos:((i+1:Nat):Int)-1≥0:=by omega
   have hz:((i+1:Nat):Int)-1=(i:Int):=by omega
   have hk1:Wld.ok Tryz.prog wr:=Wld.keep hW hWi;have hsy:=uM (x i);have hdy:=Cj hlb;clear hci hdl hb0 hne h0 hx;generalize x i=y at cy hlb hbl hsy hdy;obtain⟨k,hk⟩:∃k,k+Lib.nDigits y=9:=⟨9-Lib.nDigits y,by omega⟩
   rw[show 9-Lib.nDigits y=k by omega]at hbl;have e9:(9:Int)-(Lib.nDigits y:Int)=(k:Int):=by omega
   have wi:wrap64 ((i:Int)-1)=(i:Int)-1:=by unfold wrap64;omega
   rw[hz]at hpos ⊢;clear hz
   go_wp2_with (go_at_call 289;refine(zN (m:=y) (by omega) _ hk1).mono ?_)
   rintro e wa ⟨rfl,hba⟩;have hBa:=oH hBi hba;have hsa:w.heap.size+2≤wa.heap.size:=by have:=hba.size;omega
   have qa:wa.heap[w.heap.size]?=some (.cells #[.bool true,.slice (some A) L cap] 28 (0,0)):=by rw[hba.block _ (by omega)];exact qi
   have hWa:Below w.heap.size w wa:=hWi.trans (hba.mono (by omega));clear hBi qi ci cy hWi hsi hba hk1
   go_wp2_with (go_at_call 256;refine(agd (k:=k) (by omega) _).mono ?_)
   rintro e wb_ ⟨rfl,hbb⟩;have hBb:=oH hBa hbb;have hsb:w.heap.size+2≤wb_.heap.size:=by have:=hbb.size;omega
   have qb:wb_.heap[w.heap.size]?=some (.cells #[.bool true,.slice (some A) L cap] 28 (0,0)):=by rw[hbb.block _ (by omega)];exact qa
   have hWb:Below w.heap.size w wb_:=hWa.trans (hbb.mono (by omega));clear hBa qa hWa hsa hbb;have hrl:(ByteArray.mk (List.replicate k (48:UInt8)).toArray).size=k:=by show(List.replicate k (48:UInt8)).toArray.size=_;rw[UF,BI]
   generalize ByteArray.mk (List.replicate k (48:UInt8)).toArray=rs at hrl hbl ⊢
   go_wp2_with (go_at_call 288;refine(lW _ _ _ rs _ (.inr hBb) (by omega) (by omega)).mono ?_)
   rintro e wc ⟨rfl,hBc,hbc⟩;have hsc:w.heap.size+2≤wc.heap.size:=by have:=hbc.size;omega
   have qc:wc.heap[w.heap.size]?=some (.cells #[.bool true,.slice (some A) L cap] 28 (0,0)):=by rw[hbc.block _ (by omega)];exact qb
   have hWc:Below w.heap.size w wc:=hWb.trans (hbc.mono (by omega));clear hBb qb hWb hsb hbc
   go_wp2_with (go_at_call 288;refine(lW _ _ _ (sV y) _ (.inr hBc) (by rw[gY,Lib.strCells_length];omega) (by omega)).mono ?_)
   rintro e wd ⟨rfl,hBd,hbd⟩;rw[hbl]at hBd;have hsd:w.heap.size+2≤wd.heap.size:=by have:=hbd.size;omega
   have qd:wd.heap[w.heap.size]?=some (.cells #[.bool true,.slice (some A) L cap] 28 (0,0)):=by rw[hbd.block _ (by omega)];exact qc
   have hWd:Below w.heap.size w wd:=hWc.trans (hbd.mono (by omega));clear hBc qc hWc hsc hbd
   go_wp2
   go_roundg i
   case measure=>omega
   case rel=>exact⟨i,by omega,kU _,rfl,hBd,qd,hWd,hsd⟩
theorem agJ(A:Option Addr)(cap:Nat)(b:Bool)(w:World):Calls Tryz.prog 255 #[.agg #[.bool b,.slice A 0 cap]] w λe w'=>e=.returned (.string ⟨#[48]⟩)∧Below w.heap.size w w':=by
 go_enter Tryz.func255,Tryz.ntmps255
 go_wp2
 go_ret
 refine⟨rfl,⟨rfl,rfl,rfl,by rw[sO];omega,λk hk=>Lib.alloc_old _ _ _ hk⟩⟩
theorem Z9{n:Int}(hp:sz n≤100000){w:World}{X:List Nat}{u:Value}(hW:Wld.ok Tryz.prog w)(hu:IntV w X u n):Calls Tryz.prog 255 #[u] w λe w'=>e=.returned (.string (mQ n))∧Below w.heap.size w w':=by
 obtain⟨_,rfl,A,c,rfl,hu⟩:=hu
 by_cases h0:n=0
 ·subst h0;rw[show(0:Int).natAbs=0 from rfl,fA];have e:mQ 0=⟨#[48]⟩:=by unfold mQ;rw[show(0:Int).natAbs=0 from rfl,nR (by decide)];rfl
  rw[e];exact agJ A c _ w
 ·have hn:0<(lim n.natAbs).length:=by rw[lq (by omega)];simp
  obtain⟨ad,rfl,h1,_,h3⟩:=hu.cl (by intro e;have:=congrArg List.length e;simp[us]at this;rw[this]at hn;exact absurd hn (by decide))
  have hc:∀i,i<(lim n.natAbs).length→w.cell? (ad.add i)=some (.int .u32 ((n.natAbs/1000000000^i%1000000000:Nat):Int)):=λi hi=>h3 i _ (by
   show((lim n.natAbs).map _)[i]?=_
   rw[DK,adA hi];rfl)
  have hD0:Lib.decDigits (n.natAbs/1000000000^0)=Lib.decDigits n.natAbs:=by rw[Nat.pow_zero,Nat.div_one]
  have r0:=Uf (lim n.natAbs).length (λi=>n.natAbs/1000000000^i%1000000000) (λi=>Lib.decDigits (n.natAbs/1000000000^i)) ad c w hW h1 hc hn hp (λi=>sK _ (by decide)) (by rw[JH hn]) (λi hi=>(Lc hi).symm) (λi=>Lu hn) (Qs _);have r1:=SX (lim n.natAbs).length (λi=>n.natAbs/1000000000^i%1000000000) (λi=>Lib.decDigits (n.natAbs/1000000000^i)) ad c w hW h1 hc hn hp (λi=>sK _ (by decide)) (by rw[JH hn]) (λi hi=>(Lc hi).symm) (λi=>Lu hn) (Qs _);rw[hD0]at r0 r1;unfold mQ
  by_cases hz:n<0
  ·rw[if_pos hz,decide_eq_true hz];exact r1
  ·rw[if_neg hz,decide_eq_false hz];exact r0
instance akJ(n:Int):DenI Tryz.prog 255 [Z n] (sz n≤100000) (.c (.v (.string (mQ n)))):=⟨λhp=>by
 refine Den.of ⟨by kernel_rfl,λw X vs hW hX hl hr=>?_⟩ rfl
 match vs,hl with
 |[u],_ =>
 have hu:=hr 0 u _ rfl rfl;refine Calls.mono (Z9 hp hW hu.int_) ?_;rintro e w' ⟨rfl,hb⟩
 exact⟨_,rfl,(RepR.d (.c (.v _ rfl))).f,hb⟩⟩
end Go.Proofs.YtmniihkenijjpaaGreatDoor
namespace Go.Proofs.YtmniihkenijjpaaGreatDoor
open Go Go.RowKit Go.Sw
set_option maxRecDepth 100000
set_option maxHeartbeats 8000000
set_option synthInstance.maxSize 4000
set_option synthInstance.maxHeartbeats 400000
instance aiI(n:Int):DenI Tryz.prog 227 [Z n] (sz n≤100000) (.str (mQ n)):=⟨λhp=>by
 have hsz:(lim n.natAbs).length≤100000:=hp
 all_goals refine den_of (τ:=tabs) QS eF Tryz.func227 rfl (by kernel_rfl) (by kernel_rfl) (by kernel_rfl) ?_
 all_goals(repeat'((try(conv=>whnf));first
  |(with_reducible refine onB_d (λ_=>?_) (λ_=>?_))|refine Ends.mk ?_))
 all_goals(try simp only[Ad,MX,fU,Vp,rE,lZ,Zo,vH,decide_eq_true_eq,decide_eq_false_iff_not,Zy,List.foldl_nil]at *)
 all_goals first
  |((conv=>whnf);refine Sw.Loop.inv (α:=Nat) (λx=>[(1,.ptr 1 0),(3,.str (yX (9*x) n.natAbs)),(4,.int .i64 (x:Nat))]) (λx=>[(1,.var [zs n,zl n])]) (λx=>x≤(lim n.natAbs).length∧True) (λx=>(lim n.natAbs).length-x) 0 ?_ ?_ ?_ (λx hx=>?_))|skip
 all_goals(repeat'((try(conv=>whnf));first
  |(with_reducible refine onB_d (λ_=>?_) (λ_=>?_))|(with_reducible refine elem_u ?_ ?_)))
 all_goals(try refine Pr.mk ?_)
 all_goals(try simp only[Ad,MX,fU,Vp,rE,lZ,Zo,vH,decide_eq_true_eq,decide_eq_false_iff_not,Zy,List.foldl_nil]at *)
 all_goals(try simp only[bK]at *)
 all_goals first
  |(have hg:x<(lim n.natAbs).length:=(by omega);(conv=>whnf);refine Sw.Loop.inv (α:=Nat) (λk=>[(1,.ptr 1 0),(3,.str (yX (9*x+k) n.natAbs)),(4,.int .i64 (x:Nat)),(5,.int .u32 ((n.natAbs/1000000000^x%1000000000/10^k:Nat):Int)),(6,.int .i64 (k:Nat))]) (λk=>[(1,.var [zs n,zl n])]) (λk=>k≤9∧True) (λk=>9-k) 0 ?_ ?_ ?_ (λk hk=>?_))|skip
 all_goals(repeat'((try(conv=>whnf));first
  |(with_reducible refine onB_d (λ_=>?_) (λ_=>?_))|refine obl_i ?_ ?_))
 all_goals(try refine Pr.mk ?_)
 all_goals(try simp only[Ad,MX,fU,Vp,rE,lZ,Zo,vH,decide_eq_true_eq,decide_eq_false_iff_not,Zy,List.foldl_nil]at *)
 all_goals first
  |(have hg:¬x<(lim n.natAbs).length:=(by omega);(conv=>whnf);refine Sw.Loop.inv (α:=Nat) (λj=>[(1,.ptr 1 0),(3,.str (Nr j n.natAbs))]) (λj=>[(1,.var [zs n,zl n])]) (λj=>j≤9*(lim n.natAbs).length∧True) (λj=>j) (9*(lim n.natAbs).length-Lib.nDigits n.natAbs) ?_ ?_ ?_ (λj hj=>?_))|skip
 all_goals(repeat'((try(conv=>whnf));first
  |(with_reducible refine onB_d (λ_=>?_) (λ_=>?_))|refine obl_i ?_ ?_|refine slp_i ?_ ?_|(with_reducible refine uZ ?_ ?_)|refine Ends.mk ?_))
 all_goals(try refine Pr.mk ?_)
 all_goals first|(show SubE _ _;repeat'(first|exact trivial|refine And.intro ?_ ?_))|(show SubB _ _;repeat'(first|exact trivial|refine And.intro ?_ ?_))|skip
 all_goals(try rfl)
 all_goals(try simp only[Ad,MX,fU,Vp,rE,lZ,Zo,vH,decide_eq_true_eq,decide_eq_false_iff_not,Zy,List.foldl_nil]at *)
 all_goals first
  |(obtain rfl:n=0:=(by have:=qL n.natAbs;omega);exact KT adF)|omega|exact aae _ _|(rw[aeT (by omega),UJ];omega)|exact⟨by omega,trivial⟩|((conv=>whnf);exact⟨k+1,⟨⟨rfl,aax (by omega),rfl,congrArg (λz=>some (AV.int .u32 z)) aaL,aW (by omega),trivial⟩,⟨rfl,trivial⟩,⟨by omega,trivial⟩,by show 9-(k+1)<9-k;omega⟩⟩)|((conv=>whnf);exact⟨x+1,⟨⟨rfl,Z4 (by omega) (by assumption),aW (by omega),trivial⟩,⟨rfl,trivial⟩,⟨by omega,trivial⟩,by show(lim n.natAbs).length-(x+1)<(lim n.natAbs).length-x;omega⟩⟩)|exact ZM (by omega) (by omega) (by assumption)|(have h0:=qL n.natAbs;have z:=akc (m:=n.natAbs) (by omega) (by assumption);((conv=>whnf);exact⟨j-1,⟨⟨rfl,congrArg (λz=>some (AV.str z)) (afb z),trivial⟩,⟨rfl,trivial⟩,⟨by omega,trivial⟩,by show j-1<j;omega⟩⟩))|(have z:=JO j n.natAbs;have z2:=Lib.nDigits_pos n.natAbs;(repeat' apply And.intro)<;>first|omega|(intro h;cases h;done)|(intro h;rfl))|(have z:=JO j n.natAbs;have z2:=YG hsz (by decide);have z3:(ByteArray.mk #[45]).size=1:=rfl;omega)|(have h0:=qL n.natAbs;obtain rfl:=acX (m:=n.natAbs) (by omega) (by assumption);exact KT (Vh (by assumption)))|(have h0:=qL n.natAbs;obtain rfl:=acX (m:=n.natAbs) (by omega) (by assumption);exact KT (VL (by assumption)))⟩
end Go.Proofs.YtmniihkenijjpaaGreatDoor
namespace Go.Proofs.YtmniihkenijjpaaGreatDoor
open Go Go.RowKit Go.Sw Go.Shelf
set_option maxRecDepth 100000
set_option maxHeartbeats 8000000
set_option synthInstance.maxSize 4000
set_option synthInstance.maxHeartbeats 400000
instance ahl{f:FuncId}{xs:List AV}{pre c:Prop}{r s:AV}[h : @DenC Tryz.prog WY f xs pre c r s]:@DenC Tryz.prog Dl f xs pre c r s:=⟨λhp=>⟨λhc=>den_lift WY Dl (λ_ _=>trivial) ((h.den hp).1 hc),λhc=>den_lift WY Dl (λ_ _=>trivial) ((h.den hp).2 hc)⟩⟩
end Go.Proofs.YtmniihkenijjpaaGreatDoor
namespace Go.Proofs.YtmniihkenijjpaaGreatDoor
open Go Go.RowKit Go.Sw
set_option maxRecDepth 100000
set_option maxHeartbeats 8000000
set_option synthInstance.maxSize 4000
set_option synthInstance.maxHeartbeats 400000
instance amr(a b c d:Rat):DenI Tryz.prog 93 [Q2 a b,Q2 c d] (rz a≤1000∧rz b≤1000∧rz c≤1000∧rz d≤1000) (.bool (decide (a=c) && decide (b=d))):=⟨λhp=>by
 have i_a:RzB a 1000:=⟨hp.1⟩
 have i_b:RzB b 1000:=⟨hp.2.1⟩
 have i_c:RzB c 1000:=⟨hp.2.2.1⟩
 have i_d:RzB d 1000:=⟨hp.2.2.2⟩
 all_goals refine den_of (τ:=tab) Pj eF Tryz.func93 rfl (by kernel_rfl) (by kernel_rfl) (by kernel_rfl) ?_
 all_goals(repeat'((try(conv=>whnf));first
  |refine call_i ?_ ?_|(with_reducible first|refine onB_t ?_|refine onB_f ?_|refine onB_d (λ_=>?_) (λ_=>?_))|refine Ends.mk ?_))
 all_goals(try refine Pr.mk ?_)
 all_goals(try simp only[am3]at *)
 all_goals first
  |(simp only[Eb,Ea,aj,aH,ZY,Fb,aG, *,true_or,or_true,if_true,if_false,or_self,and_self,and_true,true_and,and_false,false_and,not_true,not_false_iff,AB,decide_true,decide_false,Vf,Vg,NH,G7];rfl)|((repeat' apply And.intro)<;>first|assumption|exact jh (by omega)|exact jl (by omega)|exact iU (amR _) (amR _))⟩
instance al2(a b c d:Rat):DenI Tryz.prog 123 [Q2 a b,Q2 c d] (rz a≤1000∧rz b≤1000∧rz c≤1000∧rz d≤1000) (R (farR (a,b) (c,d))):=⟨λhp=>by
 have i_a:RzB a 1000:=⟨hp.1⟩
 have i_b:RzB b 1000:=⟨hp.2.1⟩
 have i_c:RzB c 1000:=⟨hp.2.2.1⟩
 have i_d:RzB d 1000:=⟨hp.2.2.2⟩
 all_goals refine den_of (τ:=tab) Pj eF Tryz.func123 rfl (by kernel_rfl) (by kernel_rfl) (by kernel_rfl) ?_
 all_goals(repeat'((try(conv=>whnf));first
  |refine call_i ?_ ?_|refine Drw.mk (by kernel_rfl) ?_|refine Ends.mk ?_))
 all_goals(try refine Pr.mk ?_)
 all_goals first
  |rfl|((repeat' apply And.intro)<;>first|assumption|exact jh (by omega)|exact jl (by omega)|exact iU (amR _) (amR _))⟩
def CZ:Tab:=(133,.row 5 [(0,1,false),(1,4,true)] [.v (.map none),.v (.bool false),.sl 1 [],.v (.bool false),.sl 1 []])::tabs
theorem kC:tabOk Tryz.prog CZ=true:=by kernel_rfl
theorem NY{a b c d:Rat}(ha:rz a≤12)(hb:rz b≤12)(hc:rz c≤12)(hd:rz d≤12):rz (farR (a,b) (c,d))≤10000000:=by
 have i1:RzB a 12:=⟨ha⟩
 have i2:RzB b 12:=⟨hb⟩
 have i3:RzB c 12:=⟨hc⟩
 have i4:RzB d 12:=⟨hd⟩
 show rz ((a-c)*(a-c)+(b-d)*(b-d))≤10000000;exact jh (by omega)
set_option maxHeartbeats 16000000 in
theorem agW(sq:Rat)(sp:Spots)(n:Nat)(s:ByteArray)(v:P2)(hs:s.size≤1000)(ha:rz v.1≤12)(hb0:rz v.2≤12)(hq:rz sq≤1000)(hn:n≤1000000)(hsp:∀p∈spotsAt sp s,rz p.1≤12∧rz p.2≤12)(hll:(spotsAt sp s).length≤1000000):
 DenG Tryz.prog 92 (jgho Tryz.prog 9 45 8 (jst sq sp n)) [.c (.v (.string s)),.agg (vecC v)] (jgho Tryz.prog 9 45 8 (jst sq (joinP sq sp s v).1 (n+1))) (.agg (vecC (joinP sq sp s v).2)):=by
 refine⟨by kernel_rfl, ?_⟩;intro w X g T us vs more mo hW hX hg hmore hnd hgc hmap hrep hvl hr;obtain⟨g0,es,ck⟩:=mo;obtain⟨us',rfl,hsq,hF,hes,val,og,hval,hsl,hinj⟩:=hrep;simp only at hmap hF hes hval
 match vs,hvl with
 |[u1,u2],_ =>
 have h1:=hr 0 u1 _ rfl rfl;have h2:=hr 1 u2 _ rfl rfl;obtain rfl:=h1.v
 obtain⟨us2,rfl,hv2⟩:∃us2:List Value,u2=.agg us2.toArray∧RepL w X us2 (vecC v):=by
  cases h2 with
  |agg h=>exact⟨_,rfl,h⟩
 have hl2:us2.length=8:=hv2.len
 haveI:WOk Tryz.prog w:=⟨hW⟩
 obtain⟨X1,hX1⟩:∃X1:List Nat,∀x∈X1,x∈X∧x≠g∧x ∉ bl more:=⟨X.filter λx=>!(decide (x=g)) && !(decide (x∈bl more)),λx hx=>by
  obtain⟨q1,q2⟩:=H9.1 hx;simp only[fC,BR,decide_eq_false_iff_not]at q2
  exact⟨q1,q2.1,q2.2⟩⟩
 have hE1:Ext w X w X1:=Ext.drop λx hx=>(hX1 x hx).1
 have hptr:RepD w X1 (.pointer (some ⟨g,0,none⟩)) (.c (.p (.v (.map (some g0))::ratC sq))):=by
  have hcl:=Cl.of_block (X:=X1) hgc (λhx=>(hX1 g hx).2.1 rfl) (Value.map (some g0)::us').length;rw[Zt,ER]at hcl;exact .c (p_rep hcl (.cons (.v _ rfl) (hsq.ext hE1)))
 generalize hL:spotsAt sp s=L at hsp hll;have hfs:(jst sq sp n).f s=L.map vecC:=by show(spotsAt sp s).map vecC=_;rw[hL]
 have hslot:=hsl s;rw[hfs]at hslot;have hlay:RepD w X1 (val s) (.c (.sl 8 (L.map vecC))):=.c (hslot.data (λq hq=>(hmore q hq).2.2) (λx hx=>⟨(hX1 x hx).1,(hX1 x hx).2.2⟩));have hg0:g0<w.heap.size:=lt_of_heap hmap;have hgl:g<w.heap.size:=lt_of_heap hgc;have i1:RzB v.1 12:=⟨ha⟩
 have i2:RzB v.2 12:=⟨hb0⟩
 have hgd:∀i,rz (L.getD i P0).1≤12∧rz (L.getD i P0).2≤12:=λi=>by
  by_cases hi:i<L.length
  ·have:L.getD i P0=L[i]:=by simp[ou,hi]
   rw[this];exact hsp _ (IK hi)
  ·have:L.getD i P0=P0:=by simp[ou,Nat.le_of_not_lt hi]
   rw[this];decide +kernel
 have i3:RzB sq 1000:=⟨hq⟩
 refine enter (vs:=[_,_,_]) Tryz.func92 rfl rfl rfl λa hFr=>?_
 have hc:=args_conc (N:=68) (w:=w) (X:=X1) (xs:=[.c (.p (.v (.map (some g0))::ratC sq)),.c (.v (.string s)),.agg (vecC v)]) (vs:=[.pointer (some ⟨g,0,none⟩),.string s,.agg us2.toArray]) (a:=a) (λm hm=>hX m (hX1 m hm).1) rfl (λi u y hu hv=>by
  match i,hu,hv with
  |0,hu,hv=>cases hu;cases hv;exact hptr
  |1,hu,hv=>cases hu;cases hv;exact .c (.v _ rfl)
  |2,hu,hv=>cases hu;cases hv;exact h2.ext hE1) hFr
 have hc:=Conc.keep [(0,.pointer (some ⟨g,0,none⟩))] hc (λt u h=>by
  simp only[AL,uh]at h;obtain⟨rfl,rfl⟩:=h
  exact hFr.get 0 _ rfl)
 refine c_seq (c_reg (wp1 rfl (ex_box (hFr.get 2 _ rfl)) ?_));have hc:=hc.boxF (t:=5) (T:=45) (us:=us2) (cs:=vecC v) (hv2.ext hE1) (λg o h=>nomatch h) ⟨by decide,rfl⟩
 letI kp1:Kp:=⟨[(5,.pointer (some ⟨w.heap.size,0,none⟩)),(0,.pointer (some ⟨g,0,none⟩))],[(w.heap.size,.cells us2.toArray 45 (0,0))]⟩
 replace hc : @Conc kp1 68 w X1 _ _ _ _:=hc;refine aops_ok kC (k:=λe b=>SubE [(0,.c (.p (.v (.map (some g0))::ratC sq))),(1,.c (.v (.string s))),(5,.c (.p (vecC v))),(6,.ptr 6 0)] e∧SubB [(6,.var [.v (.bool false),.sl 1 [],.v (.bool false),.sl 1 [],.v (.bool false),.sl 1 [],.v (.bool false),.sl 1 []])] b) ?_ (by kernel_rfl) ?_ hc
 case refine_2 =>
  exact⟨⟨rfl,rfl,rfl,rfl,trivial⟩,⟨rfl,trivial⟩⟩
 rintro e b a w1 ⟨he,hb⟩ hc;replace hc:=hc.sub he hb;refine x_tn ?_;refine c_seq (awp_ok (τ:=CZ) kC eF _ (QA:=λz e b=>z=.normal∧SubE [(0,.c (.p (.v (.map (some g0))::ratC sq))),(1,.c (.v (.string s))),(5,.c (.p (vecC v))),(6,.ptr 6 0),(7,.int .i64 (-1))] e∧SubB [(6,.var [.v (.bool false),.sl 1 [],.v (.bool false),.sl 1 [],.v (.bool false),.sl 1 [],.v (.bool false),.sl 1 []])] b) (by kernel_rfl) ?_ hc ?_)
 case refine_1 =>
  exact⟨rfl,⟨rfl,rfl,rfl,rfl,rfl,trivial⟩,⟨rfl,trivial⟩⟩
 rintro x e b a w1 ⟨rfl,he,hb⟩ hc;replace hc:=hc.sub he hb;refine x_tn ?_;have hF0:Frm 68 a [(0,.pointer (some ⟨g,0,none⟩)),(1,.string s)]:=(hc.frm.cons (hc.get (t:=1) rfl (by simp))).cons (hc.kp (.tail _ (.head _)));have hgw:w1.heap[g]?=some (.cells (Value.map (some g0)::us').toArray T (0,0)):=(hc.sz.2.2.block g hgl).trans hgc;refine c_seq (c_reg ?_);refine wp1 rfl (ex_move (hF0.ev rfl)) ?_;replace hF0:=hF0.put (d:=12) (by decide) (.pointer (some ⟨g,0,none⟩));replace hc:=hc.putA (t:=12) (u:=.pointer (some ⟨g,0,none⟩)) ⟨by decide,rfl⟩;refine wp1 rfl (ex_nilp (hF0.ev rfl)) ?_;replace hF0:=hF0.put (d:=13) (by decide) (.pointer (some ⟨g,0,none⟩));replace hc:=hc.putA (t:=13) (u:=.pointer (some ⟨g,0,none⟩)) ⟨by decide,rfl⟩;refine wp1 rfl (ex_field_addr (off:=0) (by kernel_rfl) (hF0.ev rfl)) ?_;replace hF0:=hF0.put (d:=14) (by decide) (.pointer (some ⟨g,0,none⟩));replace hc:=hc.putA (t:=14) (u:=.pointer (some ⟨g,0,none⟩)) ⟨by decide,rfl⟩;refine wp1 rfl (iQ (v:=.map (some g0)) (by kernel_rfl) (hF0.ev rfl) hgw rfl) ?_;replace hF0:=hF0.put (d:=15) (by decide) (.map (some g0));replace hc:=hc.putA (t:=15) (u:=.map (some g0)) ⟨by decide,rfl⟩;refine wp1 rfl (ex_move (hF0.ev rfl)) ?_;replace hF0:=hF0.put (d:=16) (by decide) (.string s);replace hc:=hc.putA (t:=16) (u:=.string s) ⟨by decide,rfl⟩;refine wp1 rfl (ex_lookup (g0:=g0) (k:=.string s) (v:=val s) (hF0.ev rfl) (hF0.ev rfl) (jlook Tryz.underlying9 Tryz.underlying131 Tryz.zeroValue53 hF ((hc.sz.2.2.block g0 hg0).trans hmap) hval s (by unfold maxLen;omega))) ?_;replace hF0:=hF0.put (d:=17) (by decide) (val s);replace hc:=hc.putD (t:=17) (u:=val s) ⟨by decide,rfl⟩ hlay;refine wp1 rfl (ex_assign (v:=val s) (hF0.ev rfl)) ?_;replace hF0:=hF0.put (d:=8) (by decide) (val s);replace hc:=hc.putD (t:=8) (u:=val s) ⟨by decide,rfl⟩ hlay
 have hc:=Conc.keep [(8,val s),(5,.pointer (some ⟨w.heap.size,0,none⟩)),(0,.pointer (some ⟨g,0,none⟩))] hc (λt u h=>by
  rcases wL.1 h with h|h
  ·cases h;exact hF0.get 8 _ rfl
  ·exact hc.kp h)
 letI kp2:Kp:=⟨[(8,val s),(5,.pointer (some ⟨w.heap.size,0,none⟩)),(0,.pointer (some ⟨g,0,none⟩))],[(w.heap.size,.cells us2.toArray 45 (0,0))]⟩
 replace hc : @Conc kp2 68 w X1 _ _ _ _:=hc;refine(show Exit.then _ _ .normal _ _ from x_tn ?_);refine c_seq (awp_ok (τ:=CZ) kC eF _ (QA:=λz e b=>z=.normal∧SubE [(0,.c (.p (.v (.map (some g0))::ratC sq))),(1,.c (.v (.string s))),(5,.c (.p (vecC v))),(6,.ptr 6 0),(7,.int .i64 (bestI sq v L L.length)),(8,.c (.sl 8 (L.map vecC)))] e∧SubB [(6,.var [.v (.bool false),.sl 1 [],.v (.bool false),.sl 1 [],.v (.bool false),.sl 1 [],.v (.bool false),.sl 1 []])] b) (by kernel_rfl) ?_ hc ?_)
 case refine_1 =>
  all_goals first
   |((conv=>whnf);refine Sw.Loop.inv (α:=Nat) (λx=>[(0,.c (.p (.v (.map (some g0))::ratC sq))),(1,.c (.v (.string s))),(5,.c (.p (vecC v))),(6,.ptr 6 0),(7,.int .i64 (bestI sq v L x)),(8,.c (.sl 8 (L.map vecC))),(18,.c (.sl 8 (L.map vecC))),(19,.int .i64 (L.length:Nat)),(20,.int .i64 x)]) (λx=>[(6,.var [.v (.bool false),.sl 1 [],.v (.bool false),.sl 1 [],.v (.bool false),.sl 1 [],.v (.bool false),.sl 1 []])]) (λx=>x≤L.length) (λx=>L.length-x) 0 ?_ ?_ ?_ (λx hx=>?_))
  all_goals(repeat'((try(conv=>whnf));first
   |refine call_i ?_ ?_|(with_reducible first|refine onB_t ?_|refine onB_f ?_|refine onB_d (λ_=>?_) (λ_=>?_))|refine Drw.mk (by kernel_rfl) ?_|refine elem_map P0 ?_ ?_))
  all_goals(try refine Pr.mk ?_)
  all_goals first|(show SubE _ _;repeat'(first|exact trivial|refine And.intro ?_ ?_))|(show SubB _ _;repeat'(first|exact trivial|refine And.intro ?_ ?_))|skip
  all_goals(try rfl)
  all_goals(try(simp only[bK];rfl))
  all_goals(try(have hbo:=bestI_ok sq v L x (by omega)))
  all_goals(try simp only[bK,fU]at *)
  all_goals(try simp only[am3]at *)
  all_goals first
   |exact oW _|omega|exact⟨dh ha (by decide),dh hb0 (by decide),dh (hgd _).1 (by decide),dh (hgd _).2 (by decide)⟩|exact⟨NY ha hb0 (hgd _).1 (hgd _).2,dh hq (by decide)⟩|exact⟨NY ha hb0 (hgd _).1 (hgd _).2,NY ha hb0 (hgd _).1 (hgd _).2⟩|((conv=>whnf);exact⟨x+1,⟨⟨rfl,rfl,rfl,rfl,(by have hb1:bestI sq v L (x+1)=(x:Int):=(by first|exact if_pos ⟨by assumption,.inl (by omega)⟩|exact if_pos ⟨by assumption,.inr (by assumption)⟩);show some (AV.int IntKind.i64 ((x:Int)))=_;rw[hb1]),rfl,rfl,rfl,aW (by omega),trivial⟩,⟨rfl,trivial⟩,by omega,(by show L.length-(x+1)<L.length-x;omega)⟩⟩)|((conv=>whnf);exact⟨x+1,⟨⟨rfl,rfl,rfl,rfl,(by have hb1:bestI sq v L (x+1)=bestI sq v L x:=(by first|exact if_neg (λh=>absurd h.1 (by assumption))|exact if_neg (λh=>h.2.elim (λh=>by omega) (λh=>absurd h (by assumption))));show some (AV.int IntKind.i64 (bestI sq v L x))=_;rw[hb1]),rfl,rfl,rfl,aW (by omega),trivial⟩,⟨rfl,trivial⟩,by omega,(by show L.length-(x+1)<L.length-x;omega)⟩⟩)|((conv=>whnf);rename_i hh;have hxx:x=L.length:=(by omega);subst hxx;exact⟨by first|trivial|rfl,⟨rfl,rfl,rfl,rfl,rfl,rfl,trivial⟩,⟨rfl,trivial⟩⟩)
 rintro x e b a w1 ⟨rfl,he,hb⟩ hc;replace hc:=hc.sub he hb;refine x_tn ?_;refine c_seq ?_;refine c_seq (awp_ok (τ:=CZ) kC eF _ (QA:=λz e b=>z=.normal∧SubE [(0,.c (.p (.v (.map (some g0))::ratC sq))),(1,.c (.v (.string s))),(5,.c (.p (vecC v))),(6,.ptr 6 0),(7,.int .i64 (bestI sq v L L.length)),(8,.c (.sl 8 (L.map vecC))),(53,.bool (decide (bestI sq v L L.length≥0)))] e∧SubB [(6,.var [.v (.bool false),.sl 1 [],.v (.bool false),.sl 1 [],.v (.bool false),.sl 1 [],.v (.bool false),.sl 1 []])] b) (by kernel_rfl) ?_ hc ?_)
 case refine_1 =>
  exact⟨rfl,⟨rfl,rfl,rfl,rfl,rfl,rfl,rfl,trivial⟩,⟨rfl,trivial⟩⟩
 rintro x e b a w1 ⟨rfl,he,hb⟩ hc;replace hc:=hc.sub he hb;refine x_tn ?_;obtain⟨b1,b2,b3⟩:=bestI_ok sq v L L.length (kU _);have hk8:a.tmps.getD 8 undef=val s:=hc.kp (.head _);obtain⟨g6,T6,cs6,v6,hg6,hh6,hr6⟩:=hc.var (t:=6) (i:=6) rfl rfl;have hB:=hc.sz.2.2;have hl6:cs6.size=8:=by have:=hr6.len;simpa using this
 have hFm:Frm 68 a [(0,.pointer (some ⟨g,0,none⟩)),(1,.string s),(5,.pointer (some ⟨w.heap.size,0,none⟩)),(6,.pointer (some ⟨g6,0,none⟩)),(8,val s),(7,.int .i64 (bestI sq v L L.length))] :=
  (((((hc.frm.cons (hc.get (t:=7) rfl (by simp))).cons hk8).cons v6).cons (hc.kp (.tail _ (.head _)))).cons (hc.get (t:=1) rfl (by simp))).cons (hc.kp (.tail _ (.tail _ (.head _))))
 have hg5:w1.heap[w.heap.size]?=some (.cells us2.toArray 45 (0,0)):=hc.kh (.head _);have hsz45:(Tryz.prog.info? 45).map (·.size)=some 8:=by kernel_rfl
 have hrow:isRow Tryz.prog 45 8=true:=by kernel_rfl
 obtain⟨_,hsl45,z45,hel45,_,hz45⟩:=sliceT (tab_at kC (t:=53) rfl);have hmo:∀q∈more,q.1∈X∧w.heap[q.1]?=some (.cells q.2.2 q.2.1 (0,0)):=λq hq=>⟨(hmore q hq).1,(hmore q hq).2.2⟩
 refine wp_cond_split (hc.get (t:=53) rfl (by simp)) (λhp=>?_) (λhp=>?_)
 case refine_1 =>
  have hbi:0≤bestI sq v L L.length:=of_decide_eq_true hp;obtain⟨j,hj⟩:=Int.eq_ofNat_of_zero_le hbi;have hjl:j<L.length:=by omega
  obtain⟨gl,cap,uss,rest,hv,hogs,hmem,hrs,hcap,hle⟩:=hslot.inv (by simp;omega);have hgl':=(hmore _ hmem).2.2;have hgl4:w1.heap[gl]?=some (.cells (uss.flatten++rest).toArray 45 (0,0)):=(hB.block gl (lt_of_heap hgl')).trans hgl';have hul:uss.length=L.length:=by rw[hrs.len];simp
  have hju:j<uss.length:=by omega
  have hRj:RepL w X uss[j] (vecC (L.getD j P0)):=hrs.get j _ _ (jP hju) (by simp[ou,hjl]);have hl8:(uss[j]).length=8:=hRj.len;have hfl8:(uss.flatten).length=uss.length*8:=flatten_len hrs.sz
  have hcut:(uss.flatten++rest).toArray.extract (j*8) (j*8+8)=uss[j].toArray:=by
   apply Gt;apply Zu;intro i;simp only[Array.toList_extract,List.extract_eq_drop_take,Zt];rw[Fe]
   by_cases hi:i<8
   ·rw[if_pos (by omega),Nq,OI (by omega),flatten_at hrs.sz (jP hju) i hi]
   ·rw[if_neg (by omega),List.getElem?_eq_none (by omega)]
  have hex:j*8+8≤(uss.flatten++rest).toArray.size:=by simp only[UF,gY];omega
  rw[hj,hv,bK]at hFm;have hst:=run_storeAt (P:=Tryz.prog) (w:=w1) (t:=45) (T:=T6) (g:=g6) (off:=0) (v:=.agg uss[j].toArray) (vs:=uss[j].toArray) (cs:=cs6) rfl (by rw[hsz45];simp[hl8]) (all_one hRj.one) hh6 (by simp[hl8,hl6]);rw[splice_all (by simp[hl8,hl6])]at hst;have hgr:=grownBy_setRow w1 g6 uss[j].toArray;have hh6':=setRow_heap w1 g6 cs6 uss[j].toArray _ _ hh6;have hB5:Below w.heap.size w (w1.setRow g6 uss[j].toArray):=⟨hgr.os.trans hB.os,hgr.tape.trans hB.tape,hgr.output.trans hB.output,dh hB.size hgr.size,λk hk=>(hgr.block k (Jz hk hB.size) (λe=>by cases e;omega)).trans (hB.block k hk)⟩
  refine c_seq (c_reg (wp1 rfl (ex_move (hFm.ev rfl)) ?_));replace hFm:=hFm.put (d:=54) (by decide) (.slice (some ⟨gl,0,none⟩) L.length cap);refine wp1 rfl (ex_move (hFm.ev rfl)) ?_;replace hFm:=hFm.put (d:=55) (by decide) (.int .i64 (j:Nat));refine wp1 rfl (ex_idxq hsl45 (hFm.ev rfl) (hFm.ev rfl) hjl) ?_;replace hFm:=hFm.put (d:=56) (by decide) (.pointer (some ⟨gl,j*8,none⟩));refine wp1 rfl (SN hrow (hFm.ev rfl) hgl4 hex) ?_;rw[hcut];replace hFm:=hFm.put (d:=57) (by decide) (.agg uss[j].toArray);refine wp1s rfl (ex_store (hFm.ev rfl) (hFm.ev rfl) hst) ?_;refine(show Exit.then _ _ .normal _ _ from x_tn (c_ret (x_tr ?_)));refine fin_res rfl hFm.defers (JJ hFm rfl hrow hh6' (by simp[hl8])) ⟨_,rfl, ?_⟩;obtain⟨e1,e2⟩:=jfound (sq:=sq) (sp:=sp) (s:=s) (v:=v) (n:=n+1) (by rw[hL];exact hbi);rw[e1,e2,hL,hj];exact jfin (st:=jst sq sp n) hB5 hmo hnd hmap ⟨us',rfl,hsq,hF,hes,val,og,hval,hsl,hinj⟩ (Nat.le_succ n) (.d (.agg hRj))
 case refine_2 =>
  have hbi:bestI sq v L L.length<0:=by have:=of_decide_eq_false hp;omega
  refine c_skip (x_tn ?_);obtain⟨uss,hrs,hown,hob⟩:=hslot.row (λq hq=>(hmore q hq).2.2);rw[bK]at hown
  have hogm:∀i,og s=some i→i<w.heap.size:=λi hi=>by
   have h6:=hslot;rw[hi]at h6;generalize val s=vx at h6;generalize L.map vecC=fx at h6;cases h6 with
   |some hm hr hc hx hn h0=>exact lt_of_heap (hmore _ hm).2.2
  have hF0:Frm 68 a [(0,.pointer (some ⟨g,0,none⟩)),(1,.string s),(5,.pointer (some ⟨w.heap.size,0,none⟩)),(6,.pointer (some ⟨g6,0,none⟩)),(8,val s)] :=
   ((((hc.frm.cons hk8).cons v6).cons (hc.kp (.tail _ (.head _)))).cons (hc.get (t:=1) rfl (by simp))).cons (hc.kp (.tail _ (.tail _ (.head _))))
  have hBd:Below w.heap.size w w1.drew:=hB.drew;have hg0w:w1.drew.heap[g]?=some (.cells (Value.map (some g0)::us').toArray T (0,0)):=(hBd.block g hgl).trans hgc;have hBa:Below w.heap.size w (w1.drew.alloc (.cells us2.toArray 45)):=hBd.alloc hBd.size _;have hkeepA:∀i,i<w1.heap.size→(w1.drew.alloc (.cells us2.toArray 45)).heap[i]?=w1.heap[i]?:=λi hi=>Below.heap_alloc w1.drew _ i hi
  have hnewA:(w1.drew.alloc (.cells us2.toArray 45)).heap[w1.heap.size]?=some (.cells us2.toArray 45 (0,0)):=heap_alloc_new w1.drew _;have hszA:(w1.drew.alloc (.cells us2.toArray 45)).heap.size=w1.heap.size+1:=by simp
  obtain⟨v',w2,r1,r2,r3,r4,r5,r6⟩:=run_app (P:=Tryz.prog) (ty:=53) (w:=w1.drew.alloc (.cells us2.toArray 45)) (base:=0) (by decide) hsl45 hel45 hz45 (ownsRow_keep hown (λi hi=>hBa.block i hi)) (A:=some ⟨w1.heap.size,0,none⟩) (m:=1) (c:=1) (news:=us2) (by rw[hl2]) (λad had i u hu=>by
   cases had;rw[Addr.add_lit,cell_of_row _ _ _ _ _ _ hnewA]
   simpa using hu) (λh=>by cases h) hv2.one (by omega) (oW _)
  have hE6:Ext w X w (g6::X):=(Ext.refl w X).add hg6
  obtain⟨w3,mo',more',j1,j2,j3,j4,j5,j6,j7,j8⟩:=jput (P:=Tryz.prog) (mT:=131) (kT:=9) (sT:=53) (T:=45) (s:=8) (st:=jst sq sp n) (w:=w) (X:=g6::X) (v':=v') (vs:=us2) (vC:=vecC v) (uss:=uss) Tryz.underlying9 Tryz.underlying131 (by decide) rfl (hsq.ext hE6) hF hes (show n<maxLen by unfold maxLen;omega) hval (λk=>(hsl k).ext hE6) hinj
   (λq hq=>⟨Md _ (hmore q hq).1,(hmore q hq).2.2⟩) hnd hmap (k:=s) (by unfold maxLen;omega) (hv2.ext hE6) hl2 (by rw[hfs];exact hrs.ext hE6) hBa (by rw[hfs,bK];exact r2) r3 r4 hob
  have hgb:(val s).ownBlock≠some g:=λe=>by
   rw[hob]at e;have h6:=hslot;rw[e]at h6;generalize val s=vx at h6;generalize L.map vecC=fx at h6;cases h6 with
   |some hm hr hc hx hn h0=>exact(hmore _ hm).2.1 rfl
  have hg2:w2.heap[g]?=some (.cells (Value.map (some g0)::us').toArray T (0,0)):=(r3.block g (Jz hgl hBa.size) (λe=>hgb e.symm)).trans ((hBa.block g hgl).trans hgc)
  refine c_seq (LZ (N:=68) (L0:=[(0,.pointer (some ⟨g,0,none⟩)),(1,.string s),(5,.pointer (some ⟨w.heap.size,0,none⟩)),(6,.pointer (some ⟨g6,0,none⟩)),(8,val s)]) (L1:=[]) [7,8,9] [0,1,2,4,5] [[3,6],[3],[3],[]]
   [(0,.pointer (some ⟨g,0,none⟩)),(1,.pointer (some ⟨g,0,none⟩)),(2,.pointer (some ⟨g,0,none⟩)),(3,.map (some g0)),(4,.string s),(5,val s),(6,.agg us2.toArray)] eF (by kernel_rfl) (by kernel_rfl) (by kernel_rfl) (by kernel_rfl) (by kernel_rfl) hF0 hc.frm ⟨?_, ?_, ?_, ?_, ?_,trivial⟩ ?_)
  ·exact⟨_,_,_,rfl,rfl,rfl,λa w hF hb K hK=>bG rfl rfl rfl (ex_move (hF.get 0 _ rfl)) hK⟩
  ·exact⟨_,_,_,rfl,rfl,rfl,λa w hF hb K hK=>bG rfl rfl rfl (ex_nilp (hb _ rfl 0 _ 58 _ rfl rfl rfl rfl rfl)) hK⟩
  ·exact⟨_,_,_,rfl,rfl,rfl,λa w hF hb K hK=>bG rfl rfl rfl (ex_field_addr (off:=0) (by kernel_rfl) (hb _ rfl 1 _ 59 _ rfl rfl rfl rfl rfl)) hK⟩
  ·exact⟨_,_,_,rfl,rfl,rfl,λa w hF hb K hK=>bG rfl rfl rfl (ex_move (hF.get 1 _ rfl)) hK⟩
  ·exact⟨_,_,_,rfl,rfl,rfl,λa w hF hb K hK=>bG rfl rfl rfl (ex_move (hF.get 8 _ rfl)) hK⟩
  refine⟨⟨?_, ?_,trivial⟩,_,rfl,λa hF hF1 hb=>fl_valw rfl rfl rfl (ex_lit8 hsl45 hel45 hz45 (hb _ rfl 6 _ 64 _ rfl rfl rfl rfl rfl) (by simp[hl2])) ⟨_,_,rfl,λ_ _ h=>h, ?_⟩⟩
  ·exact⟨_,_,_,rfl,rfl,rfl,λa hF hF1 hb K hK=>bG rfl rfl rfl (iQ (v:=.map (some g0)) (by kernel_rfl) (hb _ rfl 2 _ 60 _ rfl rfl rfl rfl rfl) hg0w rfl) hK⟩
  ·exact⟨_,_,_,rfl,rfl,rfl,λa hF hF1 hb K hK=>bG rfl rfl rfl (uI hrow (hF.get 5 _ rfl) hg5 (by simp[hl2])) hK⟩
  refine⟨⟨?_,trivial⟩,_,rfl,λa hF hF1 hb=>fl_valw rfl rfl rfl (ex_append (hb _ rfl 5 _ 63 _ rfl rfl rfl rfl rfl) (hF1.get 65 _ rfl) r1) ⟨_,_,rfl,λ_ _ h=>h, ?_⟩⟩
  ·exact⟨_,_,_,rfl,rfl,rfl,λa hF hF1 hb K hK=>bG rfl rfl rfl (iQ (v:=.map (some g0)) (by kernel_rfl) (hb _ rfl 2 _ 60 _ rfl rfl rfl rfl rfl) ((hBa.block g hgl).trans hgc) rfl) hK⟩
  refine⟨⟨?_,trivial⟩,_,rfl,λa hF hF1 hb=>fl_skipw rfl rfl rfl (ex_mapUpdate (hb _ rfl 3 _ 61 _ rfl rfl rfl rfl rfl) (hb _ rfl 4 _ 62 _ rfl rfl rfl rfl rfl) (hF1.get 66 _ rfl) j1) ⟨undef,_,rfl,λ_ _ h=>h, ?_⟩⟩
  ·exact⟨_,_,_,rfl,rfl,rfl,λa hF hF1 hb K hK=>bG rfl rfl rfl (iQ (v:=.map (some g0)) (by kernel_rfl) (hb _ rfl 2 _ 60 _ rfl rfl rfl rfl rfl) hg2 rfl) hK⟩
  refine⟨trivial,λa hF hF1 hC=>x_tn ?_⟩;clear hC hF1;have hlt5:w.heap.size<w1.heap.size:=lt_of_heap hg5;have hlt6:g6<w1.heap.size:=lt_of_heap hh6;have k5:w3.heap[w.heap.size]?=some (.cells us2.toArray 45 (0,0)):=(j7 _ (by omega) (by omega) (λe=>by have:=hogm _ e;omega)).trans ((hkeepA _ hlt5).trans hg5);have k6:w3.heap[g6]?=some (.cells cs6 T6 (0,0)):=(j7 _ (by omega) (by omega) (λe=>by have:=hogm _ e;omega)).trans ((hkeepA _ hlt6).trans hh6);have hst:=run_storeAt (P:=Tryz.prog) (w:=w3) (t:=45) (T:=T6) (g:=g6) (off:=0) (v:=.agg us2.toArray) (vs:=us2.toArray) (cs:=cs6) rfl (by rw[hsz45];simp[hl2]) (all_one hv2.one) k6 (by simp[hl2,hl6]);rw[splice_all (by simp[hl2,hl6])]at hst;have hgr:=grownBy_setRow w3 g6 us2.toArray;have hh6':=setRow_heap w3 g6 cs6 us2.toArray _ _ k6;refine c_seq (c_reg (wp1 rfl (uI hrow (hF.ev rfl) k5 (by simp[hl2])) ?_));replace hF:=hF.put (d:=67) (by decide) (.agg us2.toArray);refine wp1s rfl (ex_store (hF.ev rfl) (hF.ev rfl) hst) ?_;refine(show Exit.then _ _ .normal _ _ from x_tn (c_ret ?_));refine fin_res rfl hF.defers (JJ hF rfl hrow hh6' (by simp[hl2])) ⟨_,rfl, ?_⟩;obtain⟨e1,e2⟩:=jnew (sq:=sq) (sp:=sp) (s:=s) (v:=v) (n:=n) (by rw[hL];exact hbi);rw[e1,e2];obtain⟨o1,o2,o3,o4,o5⟩:=j6
  have hmX:∀i,i∈bl more→i∈X∧i<w.heap.size:=λi hi=>by
   obtain⟨q,hq,rfl⟩:=iM.1 hi;exact⟨(hmore q hq).1,lt_of_heap (hmore q hq).2.2⟩
  have hq6:∀q∈more',q.1≠g6:=λq hq e=>by
   rcases(j4 q hq).1 with h|h
   ·have:=(hmX _ h).2;omega
   ·omega
  have hs5:w.heap.size≤(w3.setRow g6 us2.toArray).heap.size:=dh o4 hgr.size;have h5k:∀i,i<w.heap.size→i≠g0→i ∉ bl more→(w3.setRow g6 us2.toArray).heap[i]?=w.heap[i]?:=λi hi h1 h2=>(hgr.block i (Jz hi o4) (λe=>by cases e;omega)).trans (o5 i hi h1 h2)
  have hE5:Ext w X (w3.setRow g6 us2.toArray) (bl more'++X):=⟨hs5,λi hi hx hnm=>⟨h5k i hi (λe=>hnm _ _ (e▸hmap)) (λh=>hx (hmX i h).1),λhm=>by
   rcases oG.1 hm with hm|hm
   ·obtain⟨q,hq,rfl⟩:=iM.1 hm;rcases(j4 q hq).1 with h|h
    ·exact hx (hmX _ h).1
    ·omega
   ·exact hx hm⟩⟩
  have hE3:Ext w3 (bl more'++(g6::X)) (w3.setRow g6 us2.toArray) (bl more'++X):=(Ext.write hgr (by simp)).trans (Ext.drop λx hx=>by
   rcases oG.1 hx with hx|hx
   ·exact yB _ hx
   ·exact tH _ (Md _ hx))
  refine⟨more',mo',j2,(hgr.block g0 (lt_of_heap j3) (λe=>by cases e;omega)).trans j3,λq hq=>⟨?_,(hgr.block q.1 (lt_of_heap (j4 q hq).2) (λe=>hq6 q hq (by injection e))).trans (j4 q hq).2⟩,j5,⟨hgr.os.trans o1,hgr.tape.trans o2,hgr.output.trans o3,hs5,h5k⟩,.d (.agg (hv2.ext hE5)),(jgho Tryz.prog 9 45 8 _).ext j8 hE3⟩;rcases(j4 q hq).1 with h|h
  ·exact .inl h
  ·right;omega
end Go.Proofs.YtmniihkenijjpaaGreatDoor
