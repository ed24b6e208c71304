/-
  Rules of the abstract run, plain laws, and what functions answer, for the law RepairDistances.
  Conditions: none.
-/
import Derived.Test.YtmniihkenijjpaaGreatDoorQ14
import Derived.ChangeSame
import Derived.Shelf.LaysM
import Derived.Shelf.Strconv.Itoa1
import Derived.Shelf.Strconv.Itoa2
import Derived.Lib.Walk
import Derived.Lib.ItoaMem
import Derived.Lib.ItoaLen
import Derived.Lib.AppendIntMem
import Derived.WalkKit
import Derived.BigCall
import Derived.BigGuard
import Derived.Shelf.Strings.Repeat
import Derived.Lib.Builder
import Derived.Shelf.Strings.Builder1
import Derived.Lib.Bytealg
import Derived.Lib.Strings
set_option linter.all false
namespace Go.Sw
open Go Go.Lib Go.RowKit
end Go.Sw
namespace Go.Sw
open Go Go.Lib
theorem ND(n:Int):((((oH (lD n)).getD (Int.toNat 0) 0:Nat):Int)=45)↔n<0:=by
 rw [xC]
 by_cases h:n<0
 ·rw [if_pos h];simp [h]
 ·rw [if_neg h];simp only [h,iff_false,List.nil_append];intro e;have e2:(GR n.natAbs).getD 0 0=45:=by have e3:(((GR n.natAbs).getD 0 0:Nat):Int)=45:=e;omega
  refine abz n.natAbs ?_;cases hd:GR n.natAbs with
  |nil=>rw [hd] at e2;simp at e2
  |cons x r=>rw [hd] at e2;simp at e2;subst e2;rfl
theorem UZ{n:Int}(h:n<0):decide ((((oH (lD n)).getD (Int.toNat 0) 0:Nat):Int)=45)=true:=decide_eq_true ((ND n).2 h)
theorem QM{n:Int}(h:¬n<0):decide ((((oH (lD n)).getD (Int.toNat 0) 0:Nat):Int)=45)=false:=decide_eq_false (λe=>h ((ND n).1 e))
theorem MZ(n:Int):1≤(oN n).size:=by
 have h1:=nDigits_pos n.natAbs;have h2:=xR n;unfold oN
 by_cases h:n<0
 ·rw [if_pos h] at h2 ⊢;rw [ByteArray.size_extract];omega
 ·rw [if_neg h] at h2 ⊢;omega
theorem zp0(n:Int):o9 0++oN n=oN n:=by
 rw [ByteArray.ext_iff,ByteArray.data_append];simp [o9]
theorem zpS{n:Int}{j:Nat}:(⟨#[48]⟩:ByteArray)++(o9 j++oN n)=o9 (j+1)++oN n:=by
 rw [← ByteArray.append_assoc,OW]
theorem zpE{n:Int}{j k:Nat}(h:j≤k+1-(oN n).size)(h2:¬((o9 j++oN n).size:Int)≤k):o9 j++oN n=zk n k:=by
 rw [ByteArray.size_append,mD] at h2;have:j=k+1-(oN n).size:=by omega
 subst this;rfl
theorem afZ{n:Int}(h:n<0):(lD n).extract (Int.toNat 1) (lD n).size=o9 0++oN n:=by rw [zp0];exact Zh h
theorem agj{n:Int}(h:¬n<0):lD n=o9 0++oN n:=by rw [zp0];exact Zx h
theorem ac7{n:Int}(h:n<0):(⟨#[45]⟩:ByteArray)=GN n:=by unfold GN;rw [if_pos h]
theorem ad9{n:Int}(h:¬n<0):(⟨#[]⟩:ByteArray)=GN n:=by unfold GN;rw [if_neg h]
theorem aeh(n:Int):zk n 0=oN n:=by
 have:=MZ n;exact ZU (by omega)
theorem aaL(n:Int):(GN n).size≤1:=by unfold GN;split<;>decide
theorem agQ{n:Int}{k:Nat}(h:(k:Int)=0):GN n++zk n k=Qu n k:=by
 have:k=0:=by omega
 subst this;rw [aeh,Y9 rfl]
theorem agN{n:Int}{k a b c:Nat}(h:¬(k:Int)=0)(ha:a=0)(hb:b=(zk n k).size-k)(hc:c=(zk n k).size):GN n++(zk n k).extract a b++⟨#[46]⟩++(zk n k).extract b c=Qu n k:=by
 subst ha hb hc;exact (Sr (by omega)).symm
theorem dm1{a:Rat}{x:Nat}:((((a*((p10 x:Int):Rat)).den:Nat):Int)=1)↔10 ^ x % a.den=0:=by
 have:=den_mul a (10 ^ x);rw [← this];show ((((a*(((10 ^ x:Nat):Int):Rat)).den:Nat):Int)=1)↔_;omega
theorem YH{a:Rat}{x:Nat}(hx:x≤30)(h:∀j<x,¬10 ^ j % a.den=0)(h1:(((a*((p10 x:Int):Rat)).den:Nat):Int)=1):Wh a=some x∧exS a=Qu (a*((p10 x:Int):Rat)).num x:=by
 have e:=UY hx h (dm1.1 h1);refine ⟨e, ?_⟩;unfold exS;rw [e];show Qu (ZF a x).num x=_;rw [Zi]
theorem aad{a:Rat}(h:∀j<31,¬10 ^ j % a.den=0):Wh a=none∧exS a=⟨#[]⟩:=by
 have e:=Za h;refine ⟨e, ?_⟩;unfold exS;rw [e]
theorem RF{a:Rat}{x:Nat}(h:rz a≤20)(hx:x≤30):sz (a*((p10 x:Int):Rat)).num≤50:=by
 rw [← Zi];exact Ku h hx
theorem Yc{e:EntR}(h:e.kind=3)(h1:(iq e.rad && decide (0<qR e.rad))=false):kG e=false:=by
 unfold kG;rw [h1,decide_eq_false (show ¬¬e.kind=3 from λg=>g h)];simp
theorem acs{ls:List LayD}{x:Nat}(h:(!AA (ls.getD x L0))=true):oP ls x=some 1:=by
 unfold oP;rw [if_pos (by simpa using h)]
theorem ab5{ls:List LayD}{x:Nat}(h:(!AA (ls.getD x L0))=false)(h2:oh ls (ls.getD x L0).name<(x:Nat)):oP ls x=some 5:=by
 unfold oP;rw [if_neg (by simpa using h),if_pos h2]
theorem aar{ls:List LayD}{x:Nat}(h:(!AA (ls.getD x L0))=false)(h2:¬oh ls (ls.getD x L0).name<(x:Nat)):oP ls x=none:=by
 unfold oP;rw [if_neg (by simpa using h),if_neg h2]
theorem Z8{ls:List LayD}{es:List EntR}{x:Nat}(h:oh ls (es.getD x rU).layer<0):nY ls es x=some 4:=by
 unfold nY;rw [if_pos h]
theorem aaA{ls:List LayD}{es:List EntR}{x:Nat}(h:¬oh ls (es.getD x rU).layer<0)(h2:(!kG (es.getD x rU))=true):nY ls es x=some 1:=by
 unfold nY;rw [if_neg h,if_pos (by simpa using h2)]
theorem Z9{ls:List LayD}{es:List EntR}{x:Nat}(h:¬oh ls (es.getD x rU).layer<0)(h2:(!kG (es.getD x rU))=false):nY ls es x=none:=by
 unfold nY;rw [if_neg h,if_neg (by simpa using h2)]
end Go.Sw
namespace Go.Sw
open Go
theorem ab4{sq:Rat}{es:List Ent}(h4:∀e∈es,okV e){c:Chn}(h:c∈(aT sq es).cs)(hk:c.kind=1):∃v w,c.src=some v∧c.dst=some w∧v≠w∧iH v w≤sq∧dn v∧dn w:=by
 unfold aT at h;simp only at h;rcases List.mem_append.1 h with h|h
 ·rcases List.mem_append.1 h with h|h
  ·rcases List.mem_append.1 h with h|h
   ·obtain ⟨_,j,e,e',k,v,w,q1,q2,q3,q4,q5,q6,q7,q8,q9,q10⟩:=(sU sq 0 [] es).cs c h;refine ⟨v,w,q7,q8,q9,q10, ?_, ?_⟩
    ·exact (h4 e (List.mem_of_getElem? q2)).2.1 v (fU (List.mem_of_getElem? q5))
    ·exact (TP h4 e' (List.mem_of_getElem? q3)).2.1 w (fU (List.mem_of_getElem? q6))
   ·unfold qP at h;obtain ⟨x,h1,rfl⟩:=List.mem_map.1 h;simp only at hk;unfold jU at hk
    (repeat' split at hk)<;>cases hk
  ·unfold W9 at h;obtain ⟨x,h1,rfl⟩:=List.mem_map.1 h;cases hk
 ·rw [P9 c h] at hk;cases hk
theorem RD{cs:List Chn}{x:Nat}(h:x<cs.length):cs.getD x C0∈cs:=by
 simp [List.getD_eq_getElem?_getD,h]
theorem xE{l:List P2}{x:Nat}(h:x<l.length):l.getD x P0∈l:=by
 simp [List.getD_eq_getElem?_getD,h]
theorem abJ{q:Rat}{es:List Ent}(h4:∀e∈es,okV e):∀x<(aT (q*q) es).cs.length,((aT (q*q) es).cs.getD x C0).kind=1→∃v w,((aT (q*q) es).cs.getD x C0).src=some v∧((aT (q*q) es).cs.getD x C0).dst=some w∧v≠w∧iH v w≤q*q∧dn v∧dn w :=
 λx hx hk=>ab4 h4 (RD hx) hk
theorem aaJ{v w:P2}{q:Rat}(h:iH v w≤q*q)(h0:q=0):v=w:=by
 subst h0;have e:(0:Rat)*0=0:=by grind
 rw [e] at h;exact PS h
end Go.Sw
namespace Go.Sw
open Go
section
variable {cf cg ct cu bf bg bt bu x y:Rat} {cfz ctz cr bfz btz br:Int}
end
end Go.Sw
namespace Go.Sw
open Go
section
variable {a b c d m n e f:Rat}
end
structure Cut7 where
 fx:Int
 fy:Int
 fz:Int
 tx:Int
 ty:Int
 tz:Int
 r:Int
end Go.Sw
namespace Go.Sw
open Go
end Go.Sw
namespace Go.Sw
open Go
section
variable {cf cg ct cu bf bg bt bu x y:Rat} {cfz ctz cr bfz btz br:Int}
end
end Go.Sw
namespace Go.Sw
open Go
section
variable {a b c d e f m n:Rat}
end
end Go.Sw
namespace Go.Sw
open Go
end Go.Sw
namespace Go.Sw
open Go
section
variable {x y:Rat} {L:List Cut7} {o:Rt} {k:Nat}
end
end Go.Sw
namespace Go.Sw
open Go Go.RowKit
theorem all_map{α:Type}{f:α→List Cell}{p:α→Prop}:∀{es:List (List Cell)},(∀x∈es,∃a,p a∧x=f a)→∃L:List α,L.length=es.length∧(∀a∈L,p a)∧es=L.map f
 |[],_=>⟨[],rfl,λa h=>by simp at h,rfl⟩
 |e :: r,h=>by
  obtain ⟨a,ha,rfl⟩:=h e (by simp);obtain ⟨L,l1,l2,l3⟩:=all_map (es:=r) λx hx=>h x (by simp [hx])
  exact ⟨a :: L,by simp [l1],λb hb=>by rcases List.mem_cons.1 hb with rfl|hb;exact ha;exact l2 b hb,by simp [l3]⟩
abbrev aeg:TS:=.cons .bool (.cons (.slice (.int .u32)) .nil)
abbrev Xz:TS:=.cons aeg (.cons aeg .nil)
abbrev aac:TS:=.cons Xz (.cons Xz .nil)
abbrev abP:TS:=.cons (.int .i64) (.cons .str (.cons (.slice aac) (.cons Xz .nil)))
abbrev aeC:TS:=.cons .str (.cons (.int .i64) (.cons (.int .i64) .nil))
theorem Gz{cs:List Cell}(h:Fit Xz cs):∃r:Rq,cs=QH r:=by
 obtain ⟨_,_,⟨_,_,⟨a,rfl⟩,⟨_,_,h1,rfl,rfl⟩,rfl⟩,⟨_,_,⟨_,_,⟨b,rfl⟩,⟨_,_,h2,rfl,rfl⟩,rfl⟩,rfl,rfl⟩,rfl⟩:=h;obtain ⟨l,_,_,rfl⟩:=DR h1;obtain ⟨m,_,_,rfl⟩:=DR h2;exact ⟨⟨a,l,b,m⟩,rfl⟩
theorem WA{cs:List Cell}(h:Fit aac cs):∃p:Rq × Rq,cs=nZ p:=by
 obtain ⟨_,_,h1,⟨_,_,h2,rfl,rfl⟩,rfl⟩:=h;obtain ⟨r,rfl⟩:=Gz h1;obtain ⟨s,rfl⟩:=Gz h2;exact ⟨(r,s),rfl⟩
theorem Rk{cs:List Cell}(h:Fit (.slice aac) cs):∃l:List (Rq × Rq),cs=[.sl 8 (l.map nZ)]:=by
 obtain ⟨es,h1,h2,rfl⟩:=h
 obtain ⟨L,l1,l2,l3⟩:=all_map (f:=nZ) (p:=λ_=>True) (es:=es) λx hx=>by
  obtain ⟨p,rfl⟩:=WA (h2 x hx);exact ⟨p,trivial,rfl⟩
 exact ⟨L,by rw [l3];rfl⟩
theorem YT{cs:List Cell}(h:Fit abP cs):∃e:EntR,cs=dL e∧-9223372036854775808≤e.kind∧e.kind≤9223372036854775807:=by
 obtain ⟨_,_,⟨k,wk,rfl⟩,⟨_,_,⟨s,_,rfl⟩,⟨_,_,h1,⟨_,_,h2,rfl,rfl⟩,rfl⟩,rfl⟩,rfl⟩:=h;obtain ⟨l,rfl⟩:=Rk h1;obtain ⟨r,rfl⟩:=Gz h2;exact ⟨⟨k,s,l,r⟩,rfl,adk wk⟩
theorem TA{cs:List Cell}(h:Fit (.slice aeC) cs):∃l:List LayD,cs=[.sl 3 (l.map dB)]:=by
 obtain ⟨es,h1,h2,rfl⟩:=h
 obtain ⟨L,l1,l2,l3⟩:=all_map (f:=dB) (p:=λ_=>True) (es:=es) λx hx=>by
  obtain ⟨_,_,⟨s,_,rfl⟩,⟨_,_,⟨k,_,rfl⟩,⟨_,_,⟨d,_,rfl⟩,rfl,rfl⟩,rfl⟩,rfl⟩:=h2 x hx;exact ⟨⟨s,k,d⟩,trivial,rfl⟩
 exact ⟨L,by rw [l3];rfl⟩
theorem Td{cs:List Cell}(h:Fit (.slice abP) cs):∃l:List EntR,cs=[.sl 7 (l.map dL)]:=by
 obtain ⟨es,h1,h2,rfl⟩:=h
 obtain ⟨L,l1,l2,l3⟩:=all_map (f:=dL) (p:=λ_=>True) (es:=es) λx hx=>by
  obtain ⟨e,rfl,_⟩:=YT (h2 x hx);exact ⟨e,trivial,rfl⟩
 exact ⟨L,by rw [l3];rfl⟩
theorem X9{cs:List Cell}(h:Fit (.cons (.slice aeC) (.cons (.slice abP) .nil)) cs):∃(ls:List LayD) (es:List EntR),cs=[.sl 3 (ls.map dB),.sl 7 (es.map dL)]:=by
 obtain ⟨_,_,h1,⟨_,_,h2,rfl,rfl⟩,rfl⟩:=h;obtain ⟨ls,rfl⟩:=TA h1;obtain ⟨es,rfl⟩:=Td h2;exact ⟨ls,es,rfl⟩
theorem Dz{α β:Type}{f g:α→β}:∀{xs:List α} {j:Nat} {u:β},(xs.flatMap λp=>[f p,g p])[j]?=some u→∃i p,xs[i]?=some p∧((j=2*i∧u=f p)∨(j=2*i+1∧u=g p))
 |[],j,u,h=>by simp at h
 |x :: r,0,u,h=>by
  simp at h;exact ⟨0,x,rfl,.inl ⟨rfl,h.symm⟩⟩
 |x :: r,1,u,h=>by
  simp at h;exact ⟨0,x,rfl,.inr ⟨rfl,h.symm⟩⟩
 |x :: r,j+2,u,h=>by
  have h':(r.flatMap λp=>[f p,g p])[j]?=some u:=by simpa using h
  obtain ⟨i,p,h1,h2⟩:=Dz h'
  exact ⟨i+1,p,by simpa using h1,by
   rcases h2 with ⟨rfl,rfl⟩|⟨rfl,rfl⟩
   ·exact .inl ⟨by omega,rfl⟩
   ·exact .inr ⟨by omega,rfl⟩⟩
theorem Xd{P:Program}{W:World}{l:List (String × DataW Unit)}{nm:String}{xs:List (ByteArray × Int)}{g:Nat}{t e:TypeId}{f0 f1:Field}(h:laidMet P l W)(hm:(nm,DataW.agg (xs.map λp => .agg [.lit (.string p.1.data.toList),.lit (.int .i64 p.2)]))∈l)
 (hg:P.globalNamed nm=some g) (htg:(P.globals[g]?).map (·.type)=some t) (ht:P.underlying t=some (.array xs.length e)) (he:P.underlying e=some (.struct #[f0,f1])) (hs:P.underlying f0.type=some .string) (hi:P.underlying f1.type=some (.int .i64))
 (o0:f0.offset=0) (o1:f1.offset=1) (c0:P.cellsOf f0.type=1) (c1:P.cellsOf f1.type=1) (ce:P.cellsOf e=2) :
 ∀(j:Nat) u,(xs.flatMap λp=>[Value.string p.1,Value.int .i64 p.2])[j]?=some u→W.cell? ((⟨g,0,none⟩:Addr).add j)=some u:=by
 obtain ⟨ps,hl,_⟩:=h;obtain ⟨g0,t0,cs,fuel,p,hg0,ht0,hv,hd⟩:=BJ hl _ hm;obtain rfl:=Option.some.inj (hg.symm.trans hg0);obtain rfl:=Option.some.inj (htg.symm.trans ht0);obtain ⟨ys,m,_,ex,hlen,hxl,hel⟩:=DataW.trod_array ht hd
 have e1:xs.map (λp=>DataW.agg (H:=Unit) [.lit (.string p.1.data.toList),.lit (.int .i64 p.2)])=ys.map (·.1):=by
  have:=(Prod.mk.inj ex).1;exact DataW.agg.inj this
 intro j u hj;obtain ⟨i,q,hq,hju⟩:=Dz hj;have hi':i<xs.length:=(List.getElem?_eq_some_iff.1 hq).1;have h3:=hel i hi';rw [ce] at h3;have hy:ys[i]?=some ys[i]:=List.getElem?_eq_getElem (by omega);rw [hy] at h3;obtain ⟨y0,y1,n,ey,hcl,k0,k1⟩:=Go.ChangeShapes.trod_struct2 he h3;obtain ⟨s,a0,b0,_⟩:=DataW.trod_string hs k0;obtain ⟨z,a1,b1,_⟩:=DataW.trod_int hi k1;rw [o0,c0] at a0;rw [o1,c1] at a1;have h4:(xs.map (λp=>DataW.agg (H:=Unit) [.lit (.string p.1.data.toList),.lit (.int .i64 p.2)]))[i]?=(ys.map (·.1))[i]?:=by rw [e1]
 rw [List.getElem?_map,List.getElem?_map,hq,hy,ey,b0,b1] at h4;simp at h4;obtain ⟨h5,h6⟩:=h4
 have h7:s=q.1:=by
  obtain ⟨⟨sl⟩⟩:=s;obtain ⟨⟨⟨ql⟩⟩,qn⟩:=q;simp at h5;rw [h5]
 subst h6 h7
 have g0':cs.toList[2*i]?=some (.string q.1):=by
  have h8:((((cs.toList.drop (i*2)).take 2).drop 0).take 1)[0]?=some (.string q.1):=by rw [a0];rfl
  rw [List.drop_zero,List.take_take,List.getElem?_take,if_pos (by decide),List.getElem?_drop,Nat.add_zero,Nat.mul_comm] at h8;exact h8
 have g1':cs.toList[2*i+1]?=some (.int .i64 q.2):=by
  have h8:((((cs.toList.drop (i*2)).take 2).drop 1).take 1)[0]?=some (.int .i64 q.2):=by rw [a1];rfl
  rw [List.getElem?_take,if_pos (by decide),List.getElem?_drop,List.getElem?_take,if_pos (by decide),List.getElem?_drop,Nat.mul_comm] at h8;exact h8
 have hadd:(⟨g,0,none⟩:Addr).add j=⟨g,j,none⟩:=by
  unfold Addr.add;split
  ·rename_i h;rw [h]
  ·simp
 rw [hadd,World.var?_cell hg hv j];rcases hju with ⟨rfl,rfl⟩|⟨rfl,rfl⟩
 ·rw [← g0',Array.getElem?_toList]
 ·rw [← g1',Array.getElem?_toList]
end Go.Sw
namespace Go.Proofs.YtmniihkenijjpaaGreatDoor
open Go Go.RowKit Go.Sw Go.Shelf
set_option maxRecDepth 100000
set_option maxHeartbeats 8000000
def ac4:Go.Shelf.Ren:=⟨λn=>if n=283 then 350 else n,λn => n,λn => n⟩
theorem abL:Go.Proofs.Lays.n283 Tryz.prog ac4 where
 mixed:=fF
 f283:=Eq.trans Tryz.func350 (congrArg some (Eq.refl _))
 t3:=Tryz.underlying3
 a3:=Tryz.isAgg3
 z3:=Tryz.sizeOf3
 v3:=Tryz.zeroValue3
 t4:=Tryz.underlying4
 a4:=Tryz.isAgg4
 z4:=Tryz.sizeOf4
 v4:=Tryz.zeroValue4
 t9:=Tryz.underlying9
 a9:=Tryz.isAgg9
 z9:=Tryz.sizeOf9
 v9:=Tryz.zeroValue9
instance(priority:=2000) BD:Wld Tryz.prog:=⟨λw=>Lib.TabIs Tryz.prog w "internal/strconv.uint64pow10" .u64 Lib.pow10Tab,λh hb=>GZ h hb,[],λ_ _ _ h=>by cases h⟩
instance ag8{f:FuncId}{xs:List AV}{pre:Prop}{r:AV}[h : @DenI Tryz.prog Vh f xs pre r]:@DenI Tryz.prog BD f xs pre r:=⟨λhp=>pJ Vh BD (λ_ _=>trivial) (h.den hp)⟩
def tabs:Tab:=tab
theorem NG : @dR Tryz.prog BD tabs=true:=by kernel_rfl
set_option maxHeartbeats 6400000 in
theorem Rn(u:Nat)(h1:u<100)(w:World):Calls Tryz.prog 325 #[.int .u64 u,.int .i64 10] w λe w'=>e=.returned (.string ⟨(Lib.decDigits u).toArray⟩)∧Below w.heap.size w w':=by
 have hlt:(u:Int)<100:=by omega
 go_enter Tryz.func325,Tryz.ntmps325
 go_wp2_with (go_at_call 350;refine (Any.internal_strconv_small abL u h1 _).mono ?_;rintro e w' ⟨rfl,rfl⟩)
 go_ret
 exact ⟨rfl,Below.refl _ _⟩
theorem aaF(u:Nat)(hu:u<18446744073709551616)(w:World)(hW:Wld.ok Tryz.prog w):Calls Tryz.prog 325 #[.int .u64 u,.int .i64 10] w λe w'=>e=.returned (.string (sN u))∧Below w.heap.size w w':=by
 by_cases h:u<100
 ·exact Rn u h w
 ·exact YB u (by omega) hu w hW
instance aht(z:Int):DenI Tryz.prog 325 [.c (.v (.int .u64 z)),.c (.v (.int .i64 10))] (0≤z∧z<18446744073709551616) (.c (.v (.string (sN z.toNat)))):=⟨λhp=>by
 obtain ⟨n,rfl⟩:=Int.eq_ofNat_of_zero_le hp.1;refine Den.of ⟨by kernel_rfl,λw X vs hW hX hl hr=>?_⟩ rfl
 match vs,hl with
 |[u,v],_ =>
 have hu:u=.int .u64 (n:Nat):=by
  have:=hr 0 u _ rfl rfl;cases this with
  |c h=>cases h;rfl
 have hv:v=.int .i64 10:=by
  have:=hr 1 v _ rfl rfl;cases this with
  |c h=>cases h;rfl
 subst hu hv;refine Calls.mono (aaF n (by omega) w hW) ?_;rintro e w' ⟨rfl,hb⟩
 exact ⟨_,rfl,(RepR.d (.c (.v _ rfl))).f,hb⟩⟩
instance agS(z:Int):DenI Tryz.prog 289 [.int .u64 z,.int .i64 10] (0≤z∧z<18446744073709551616) (.c (.v (.string (sN z.toNat)))):=⟨λhp=>by
 refine qA (τ:=tabs) NG fF Tryz.func289 rfl (by kernel_rfl) (by kernel_rfl) (by kernel_rfl) ?_
 all_goals (repeat' ((try (conv=>whnf));first
  |refine ak ?_ ?_
  |refine Ends.mk ?_))
 all_goals (try refine Pr.mk ?_)
 ·exact hp
 ·rfl⟩
theorem FUa{m:Nat}(hm:m<18446744073709551616)(w:World)(hW:Wld.ok Tryz.prog w):Calls Tryz.prog 289 #[.int .u64 m,.int .i64 10] w λe w'=>e=.returned (.string (sN m))∧Below w.heap.size w w':=by
 have h:=((agS (m:Int)).den ⟨by omega,by omega⟩).old rfl;refine (h.2 w [] [.int .u64 m,.int .i64 10] hW (by simp) rfl (λi u v hu hv=>?_)).mono ?_
 ·match i,hu,hv with
  |0,hu,hv=>simp at hu hv;subst hu hv;exact .c (.v _ rfl)
  |1,hu,hv=>simp at hu hv;subst hu hv;exact .c (.v _ rfl)
 ·rintro e w' ⟨u,rfl,hu,hb⟩;refine ⟨?_,hb⟩;cases hu.r with
  |d h=>cases h with
   |c h=>cases h;rfl
def Zc:Go.Shelf.Ren:=⟨λn=>if n=99 then 292 else if n=105 then 256 else if n=165 then 293 else if n=166 then 288 else if n=169 then 290 else if n=170 then 294 else if n=206 then 328 else if n=212 then 291 else if n=240 then 324 else if n=241 then 329 else if n=263 then 326 else if n=264 then 327 else if n=276 then 349 else if n=277 then 354 else n,λn=>if n=37 then 270 else if n=46 then 228 else if n=51 then 154 else if n=53 then 152 else if n=70 then 269 else if n=72 then 272 else if n=80 then 279 else if n=75 then 274 else if n=76 then 276 else if n=109 then 280 else if n=127 then 315 else if n=146 then 316 else if n=148 then 318 else if n=164 then 337 else n,λn => n⟩
theorem Tn:Go.Proofs.Lays.n105 Tryz.prog Zc where
 mixed:=fF
 f99:=Eq.trans Tryz.func292 (congrArg some (Eq.refl _))
 f105:=Eq.trans Tryz.func256 (congrArg some (Eq.refl _))
 f165:=Eq.trans Tryz.func293 (congrArg some (Eq.refl _))
 f166:=Eq.trans Tryz.func288 (congrArg some (Eq.refl _))
 f169:=Eq.trans Tryz.func290 (congrArg some (Eq.refl _))
 f170:=Eq.trans Tryz.func294 (congrArg some (Eq.refl _))
 f206:=Eq.trans Tryz.func328 (congrArg some (Eq.refl _))
 f212:=Eq.trans Tryz.func291 (congrArg some (Eq.refl _))
 f240:=Eq.trans Tryz.func324 (congrArg some (Eq.refl _))
 f241:=Eq.trans Tryz.func329 (congrArg some (Eq.refl _))
 f263:=Eq.trans Tryz.func326 (congrArg some (Eq.refl _))
 f264:=Eq.trans Tryz.func327 (congrArg some (Eq.refl _))
 f276:=Eq.trans Tryz.func349 (congrArg some (Eq.refl _))
 f277:=Eq.trans Tryz.func354 (congrArg some (Eq.refl _))
 t0:=Tryz.underlying0
 a0:=Tryz.isAgg0
 z0:=Tryz.sizeOf0
 v0:=Tryz.zeroValue0
 t3:=Tryz.underlying3
 a3:=Tryz.isAgg3
 z3:=Tryz.sizeOf3
 v3:=Tryz.zeroValue3
 t4:=Tryz.underlying4
 a4:=Tryz.isAgg4
 z4:=Tryz.sizeOf4
 v4:=Tryz.zeroValue4
 t5:=Tryz.underlying5
 a5:=Tryz.isAgg5
 z5:=Tryz.sizeOf5
 v5:=Tryz.zeroValue5
 t9:=Tryz.underlying9
 a9:=Tryz.isAgg9
 z9:=Tryz.sizeOf9
 v9:=Tryz.zeroValue9
 t20:=Tryz.underlying20
 a20:=Tryz.isAgg20
 z20:=Tryz.sizeOf20
 v20:=Tryz.zeroValue20
 t37:=Tryz.underlying270
 a37:=Tryz.isAgg270
 z37:=Tryz.sizeOf270
 v37:=Tryz.zeroValue270
 t46:=Tryz.underlying228
 a46:=Tryz.isAgg228
 z46:=Tryz.sizeOf228
 v46:=Tryz.zeroValue228
 t51:=Tryz.underlying154
 a51:=Tryz.isAgg154
 z51:=Tryz.sizeOf154
 v51:=Tryz.zeroValue154
 t53:=Tryz.underlying152
 a53:=Tryz.isAgg152
 z53:=Tryz.sizeOf152
 v53:=Tryz.zeroValue152
 t70:=Tryz.underlying269
 a70:=Tryz.isAgg269
 z70:=Tryz.sizeOf269
 v70:=Tryz.zeroValue269
 t72:=Tryz.underlying272
 a72:=Tryz.isAgg272
 z72:=Tryz.sizeOf272
 v72:=Tryz.zeroValue272
 t75:=Tryz.underlying274
 a75:=Tryz.isAgg274
 z75:=Tryz.sizeOf274
 v75:=Tryz.zeroValue274
 t76:=Tryz.underlying276
 a76:=Tryz.isAgg276
 z76:=Tryz.sizeOf276
 v76:=Tryz.zeroValue276
 t109:=Tryz.underlying280
 a109:=Tryz.isAgg280
 z109:=Tryz.sizeOf280
 v109:=Tryz.zeroValue280
 t127:=Tryz.underlying315
 a127:=Tryz.isAgg315
 z127:=Tryz.sizeOf315
 v127:=Tryz.zeroValue315
 t146:=Tryz.underlying316
 a146:=Tryz.isAgg316
 z146:=Tryz.sizeOf316
 v146:=Tryz.zeroValue316
 t148:=Tryz.underlying318
 a148:=Tryz.isAgg318
 z148:=Tryz.sizeOf318
 v148:=Tryz.zeroValue318
 t164:=Tryz.underlying337
 a164:=Tryz.isAgg337
 z164:=Tryz.sizeOf337
 v164:=Tryz.zeroValue337
theorem Zu:Builder.Extra Tryz.prog Zc where
 sizeBuilder:=by kernel_rfl
 liesBuilder:=by kernel_rfl
 t5:=Tryz.underlying5
 a5:=Tryz.isAgg5
 z5:=Tryz.sizeOf5
 v5:=Tryz.zeroValue5
 infoByte:=by kernel_rfl
 cellsByte:=by kernel_rfl
 sizeByte:=by kernel_rfl
 neB5:=by decide
theorem aeJ{k:Nat}(hk:k≤9)(w:World):Calls Tryz.prog 256 #[.string ⟨#[48]⟩,.int .i64 k] w λe w'=>e=.returned (.string ⟨(List.replicate k (48:UInt8)).toArray⟩)∧Below w.heap.size w w':=by
 refine (Any.strings_Repeat Tn Zu ⟨#[48]⟩ k w (by omega) (by show 1*k≤_;omega)).mono ?_;rintro e w' ⟨rfl,hb⟩;refine ⟨?_,hb⟩
 have:Lib.repeatL [(48:UInt8)] k=List.replicate k 48:=by
  have:∀k:Nat,k≤9→Lib.repeatL [(48:UInt8)] k=List.replicate k 48:=by decide +kernel
  exact this k hk
 rw [show (ByteArray.mk #[48]).data.toList=[(48:UInt8)] from rfl,this]
theorem SY:(Tryz.prog.info? 272).map (λi=>i.size)=some 2:=by kernel_rfl
theorem abt:liesAt Tryz.prog Tryz.prog.depth 272 (2 / Tryz.prog.cellsOf 272) 0 272 1=true:=by kernel_rfl
theorem V8(b:Nat)(w:World)(h0:w.cell? ⟨b,0,none⟩=some (.pointer (some ⟨b,0,none⟩))):
 Calls Tryz.prog 324 #[.pointer (some ⟨b,0,none⟩)] w λe w'=>e=.returned (.tuple #[])∧w'=w:=by
 obtain ⟨j,hj,_⟩:=Option.map_eq_some_iff.1 SY
 go_enter Tryz.func324,Tryz.ntmps324
 go_wp2
 rw [Lib.run_neq_ptr_same w _ Tryz.underlying269 hj]
 go_wp2
 go_end0
 exact ⟨rfl,rfl⟩
theorem PY(b:Nat)(w:World)(h0:w.cell? ⟨b,0,none⟩=some (.pointer none))(hsh:w.shape? b=some (272,2))(hfz:w.frozen? ⟨b,0,none⟩=false):
 Calls Tryz.prog 324 #[.pointer (some ⟨b,0,none⟩)] w λe w'=>e=.returned (.tuple #[])∧w'=w.setCell ⟨b,0,none⟩ (.pointer (some ⟨b,0,none⟩)):=by
 obtain ⟨j,hj,hjs⟩:=Option.map_eq_some_iff.1 SY
 go_enter Tryz.func324,Tryz.ntmps324
 go_wp2
 rw [Lib.run_to_unsafe w ⟨b,0,none⟩ Tryz.underlying269 Tryz.underlying337 hj (by rw [hjs];decide) hsh (Nat.zero_lt_succ 1)];simp only [Result.andThen];rw [Oper.upon_value]
 go_wp2
 rw [run_callFunc_extern Tryz.func349 (by kernel_rfl) (by kernel_rfl) (by kernel_rfl) (e:=Extern.AbiNoEscape.same) (by kernel_rfl)];rw [Lib.run_noEscape];simp only [Result.andThen];rw [Oper.upon_value]
 go_wp2
 rw [Lib.run_from_unsafe w ⟨b,0,none⟩ Tryz.underlying337 Tryz.underlying269 hj hsh abt];simp only [Result.andThen];rw [Oper.upon_value]
 go_wp2
 go_end0
 exact ⟨rfl,rfl⟩
theorem cc_(B b:Nat)(bs:List Value)(w:World)(h:Lib.IsBuilder 272 5 B b bs w):
 Calls Tryz.prog 324 #[.pointer (some ⟨b,0,none⟩)] w λe w'=>e=.returned (.tuple #[])∧(Lib.BuilderAt 272 5 B b (.pointer (some ⟨b,0,none⟩)) bs w'∧Below B w w'):=by
 rcases h with h|h
 ·refine (PY b w h.cell0 h.shape h.frozen0).mono ?_;rintro e w' ⟨rfl,rfl⟩;exact ⟨rfl,h.used _,(Below.refl B w).setCell (p:=⟨b,0,none⟩) h.1 _⟩
 ·refine (V8 b w h.cell0).mono ?_;rintro e w' ⟨rfl,rfl⟩;exact ⟨rfl,h,Below.refl _ _⟩
theorem Rl:∃i0,Tryz.prog.info? 5=some i0∧i0.zero=some (.int .u8 0)∧i0.size=1∧i0.bytes=1:=info_parts (by kernel_rfl)
theorem Dw(w:World){b:Nat}{x y:Value}(h:w.heap[b]?=some (.cells #[x,y] 272 (0,0))):b<w.heap.size:=by
 rcases Nat.lt_or_ge b w.heap.size with h'|h'
 ·exact h'
 ·simp [Array.getElem?_eq_none h'] at h
theorem wb_(B b:Nat)(bs:List Value)(c:Int)(w:World)(h:Lib.IsBuilder 272 5 B b bs w)(hlen:bs.length+1≤1000000)(hBw:B≤w.heap.size):
 Calls Tryz.prog 287 #[.pointer (some ⟨b,0,none⟩),.int .u8 c] w λe w'=>e=.returned .nilIface∧(Lib.BuilderAt 272 5 B b (.pointer (some ⟨b,0,none⟩)) (bs++[.int .u8 c]) w'∧Below B w w'):=by
 obtain ⟨i0,hi,hz0,hz1,hz2⟩:=Rl
 go_enter Tryz.func287,Tryz.ntmps287
 go_wp2_with (go_at_call 324;refine (cc_ B b bs _ h).mono ?_)
 rintro e w1 ⟨rfl,h1,hb1⟩;obtain ⟨hB,v,hbk,hown,hne⟩:=h1;have c0:w1.cell? ⟨b,0,none⟩=some (.pointer (some ⟨b,0,none⟩)):=by rw [Lib.cell_of_heap hbk];rfl
 have c1:w1.cell? ⟨b,1,none⟩=some v:=by rw [Lib.cell_of_heap hbk];rfl
 go_wp2_with (at_builtin;refine wpList_append_own _ rfl _ _ 270 rfl B 5 i0 (.int .u8 0) 1 1 Tryz.underlying270 hi hz0 hz1 hz2 rfl (by decide) _ _ _ rfl (hown.alloc _) ⟨w1.heap.size,0,none⟩ 1 1 [.int .u8 c] rfl rfl ?c1 ?c2 ?c3 ?c4 ?c5 ?_)
 case c1 =>
  intro j u hj
  match j,hj with
  |0,hj=>simp at hj;subst hj;simp [Addr.add]
 case c2=>intro u hu;simp at hu;subst hu;rfl
 case c3=>unfold maxLen;omega
 case c4=>omega
 case c5=>have:=hb1.size;simp;omega
 intro v' w2 hown' hgrow _;have hlt:=Dw w1 hbk
 have hb2:w2.heap[b]?=some (.cells #[.pointer (some ⟨b,0,none⟩),v] 272 (0,0)):=by
  rw [hgrow.block b (by simp;omega) (λe=>hne e.symm),Lib.alloc_old w1 _ b hlt];exact hbk
 have d0:w2.cell? ⟨b,0,none⟩=some (.pointer (some ⟨b,0,none⟩)):=by rw [Lib.cell_of_heap hb2];rfl
 have d1:w2.cell? ⟨b,1,none⟩=some v:=by rw [Lib.cell_of_heap hb2];rfl
 have f1:w2.frozen? ⟨b,1,none⟩=false:=Lib.frozen_of_heap hb2 1
 obtain ⟨g,cap,rfl⟩:∃g cap,v'=.slice (some ⟨g,0,none⟩) (bs.length+1) cap:=by
  rcases hown'.2 with ⟨_,h0⟩|⟨g,cap,cur,hv,_⟩
  ·omega
  ·exact ⟨g,cap,hv⟩
 go_wp2
 go_ret
 refine ⟨rfl, ?_, ?_⟩
 ·exact Lib.BuilderAt.put (T:=272) (e:=5) hB hb2 (bs':=bs++[.int .u8 c]) (by simpa using hown') (by decide)
 ·exact ((hb1.alloc (by have:=hb1.size;omega) _).grown hgrow (by have:=hb1.size;simp;omega) (λk hk=>(hown.lt k hk).1)).setCell (p:=⟨b,1,none⟩) hB _
theorem ws_(B b:Nat)(bs:List Value)(s:ByteArray)(w:World)(h:Lib.IsBuilder 272 5 B b bs w)(hlen:bs.length+s.size≤1000000)(hBw:B≤w.heap.size):
 Calls Tryz.prog 288 #[.pointer (some ⟨b,0,none⟩),.string s] w λe w'=>e=.returned (.tuple #[.int .i64 s.size,.nilIface])∧(Lib.BuilderAt 272 5 B b (.pointer (some ⟨b,0,none⟩)) (bs++Lib.strCells s) w'∧Below B w w'):=by
 obtain ⟨i0,hi,hz0,hz1,hz2⟩:=Rl
 go_enter Tryz.func288,Tryz.ntmps288
 go_wp2_with (go_at_call 324;refine (cc_ B b bs _ h).mono ?_)
 rintro e w1 ⟨rfl,h1,hb1⟩;obtain ⟨hB,v,hbk,hown,hne⟩:=h1;have c0:w1.cell? ⟨b,0,none⟩=some (.pointer (some ⟨b,0,none⟩)):=by rw [Lib.cell_of_heap hbk];rfl
 have c1:w1.cell? ⟨b,1,none⟩=some v:=by rw [Lib.cell_of_heap hbk];rfl
 go_wp2_with (at_builtin;refine Lib.wpList_append_own_string _ rfl _ _ 270 9 rfl B 5 i0 Tryz.underlying270 Tryz.underlying9 hi hz0 hz1 hz2 _ _ _ rfl hown s rfl ?c3 ?c4 ?c5 ?_)
 case c3=>unfold maxLen;omega
 case c4=>omega
 case c5=>have:=hb1.size;omega
 intro v' w2 hown' hgrow _;have hlt:=Dw w1 hbk
 have hb2:w2.heap[b]?=some (.cells #[.pointer (some ⟨b,0,none⟩),v] 272 (0,0)):=by
  rw [hgrow.block b hlt (λe=>hne e.symm)];exact hbk
 have d0:w2.cell? ⟨b,0,none⟩=some (.pointer (some ⟨b,0,none⟩)):=by rw [Lib.cell_of_heap hb2];rfl
 have d1:w2.cell? ⟨b,1,none⟩=some v:=by rw [Lib.cell_of_heap hb2];rfl
 have f1:w2.frozen? ⟨b,1,none⟩=false:=Lib.frozen_of_heap hb2 1
 obtain ⟨ao,n',cap,rfl⟩:∃ao n' cap,v'=.slice ao n' cap:=by
  rcases hown'.2 with ⟨hv,_⟩|⟨g,cap,cur,hv,_⟩
  ·exact ⟨_,_,_,hv⟩
  ·exact ⟨_,_,_,hv⟩
 go_wp2
 go_ret2
 refine ⟨rfl, ?_, ?_⟩
 ·exact Lib.BuilderAt.put (T:=272) (e:=5) hB hb2 (bs':=bs++Lib.strCells s) (by simpa [Lib.strCells_length] using hown') (by decide)
 ·exact (hb1.grown hgrow (by have:=hb1.size;omega) (λk hk=>(hown.lt k hk).1)).setCell (p:=⟨b,1,none⟩) hB _
def Gg:Ren where
 f:=λx=>match x with|169=>290|n=>n
 t:=λx=>match x with|70=>269|9=>9|0=>0|72=>272|37=>270|127=>315|3=>3|5=>5|n=>n
 g:=λx=>x
theorem IQ:Lays.n169 Tryz.prog Gg where
 mixed:=by kernel_rfl
 f169:=Eq.trans Tryz.func290 (congrArg some (Eq.refl (Body.n169 Gg)))
 t0:=Tryz.underlying0
 a0:=Tryz.isAgg0
 z0:=Tryz.sizeOf0
 v0:=Tryz.zeroValue0
 t3:=Tryz.underlying3
 a3:=Tryz.isAgg3
 z3:=Tryz.sizeOf3
 v3:=Tryz.zeroValue3
 t9:=Tryz.underlying9
 a9:=Tryz.isAgg9
 z9:=Tryz.sizeOf9
 v9:=Tryz.zeroValue9
 t37:=Tryz.underlying270
 a37:=Tryz.isAgg270
 z37:=Tryz.sizeOf270
 v37:=Tryz.zeroValue270
 t70:=Tryz.underlying269
 a70:=Tryz.isAgg269
 z70:=Tryz.sizeOf269
 v70:=Tryz.zeroValue269
 t72:=Tryz.underlying272
 a72:=Tryz.isAgg272
 z72:=Tryz.sizeOf272
 v72:=Tryz.zeroValue272
 t127:=Tryz.underlying315
 a127:=Tryz.isAgg315
 z127:=Tryz.sizeOf315
 v127:=Tryz.zeroValue315
theorem Ob:Builder.Extra Tryz.prog Gg where
 sizeBuilder:=by kernel_rfl
 liesBuilder:=by kernel_rfl
 t5:=Tryz.underlying5
 a5:=Tryz.isAgg5
 z5:=Tryz.sizeOf5
 v5:=Tryz.zeroValue5
 infoByte:=by kernel_rfl
 cellsByte:=by kernel_rfl
 sizeByte:=by kernel_rfl
 neB5:=by decide
theorem sD(w:World)(o:Obj):(w.alloc o).heap.size=w.heap.size+1:=by simp [World.alloc,-World.alloc_eq]
theorem Ox(w:World)(o:Obj):(w.alloc o).heap[w.heap.size]?=some o:=by simp [World.alloc,-World.alloc_eq]
theorem yu{w w1:World}{x y:Array Value}{s t:TypeId}(hb:Below ((w.alloc (.cells x s)).alloc (.cells y t)).heap.size ((w.alloc (.cells x s)).alloc (.cells y t)) w1):
 w1.heap[w.heap.size]?=some (.cells x s (0,0))∧w1.heap[w.heap.size+1]?=some (.cells y t (0,0))∧Below w.heap.size w w1∧w.heap.size+2≤w1.heap.size:=by
 have e1:=sD w (.cells x s);have e2:=sD (w.alloc (.cells x s)) (.cells y t);refine ⟨?_, ?_,⟨hb.os,hb.tape,hb.output, ?_,λk hk=>?_⟩, ?_⟩
 ·rw [hb.block _ (by omega),Lib.alloc_old _ _ _ (by omega),Ox]
 ·rw [hb.block _ (by omega),← e1,Ox]
 ·have:=hb.size;omega
 ·rw [hb.block k (by omega),Lib.alloc_old _ _ _ (by omega),Lib.alloc_old _ _ _ hk]
 ·have:=hb.size;omega
theorem xZ{w2:World}{g:Nat}{x y:Value}{t:TypeId}(h:w2.heap[g]?=some (.cells #[x,y] t (0,0))):w2.cell? ⟨g,1,none⟩=some y:=by
 rw [Lib.cell_of_heap h];rfl
theorem He{w:World}{b:Nat}{o:Obj}(h:w.heap[b]?=some o):b<w.heap.size:=by
 rcases Nat.lt_or_ge b w.heap.size with h'|h'
 ·exact h'
 ·simp [Array.getElem?_eq_none h'] at h
theorem mY{w w':World}{T e:TypeId}{B b:Nat}{p:Value}{bs:List Value}(h:Lib.BuilderAt T e B b p bs w)(hb:Below w.heap.size w w'):Lib.BuilderAt T e B b p bs w':=by
 obtain ⟨h1,v,h2,h3,h4⟩:=h;refine ⟨h1,v,by rw [hb.block b (He h2)];exact h2,⟨h3.1, ?_⟩,h4⟩;rcases h3.2 with h|⟨g,cap,cur,k1,k2,k3,k4⟩
 ·exact .inl h
 ·exact .inr ⟨g,cap,cur,k1,k2,by rw [hb.block g (He k3)];exact k3,k4⟩
set_option maxHeartbeats 6400000 in
theorem Po(L:Nat)(x:Nat→Nat)(D:Nat→List UInt8)(A:Addr)(cap:Nat)(w:World)(hW:Wld.ok Tryz.prog w)(hA:A.block<w.heap.size)(hc:∀i,i<L→w.cell? (A.add i)=some (.int .u32 ((x i:Nat):Int)))
 (hn:0<L) (hl:L≤100000) (hx:∀i,x i<1000000000) (hD:D (L-1)=Lib.decDigits (x (L-1))) (hs:∀i,i+1<L→D (i+1)++List.replicate (9-Lib.nDigits (x i)) 48++Lib.decDigits (x i)=D i) (hdl:∀i,(D i).length≤9*L) (h0:0<(D 0).length) :
 Calls Tryz.prog 255 #[.agg #[.bool false,.slice (some A) L cap]] w λe w'=>e=.returned (.string ⟨([]++D 0).toArray⟩)∧Below w.heap.size w w':=by
 have hln:¬((L:Nat):Int)=0:=by omega
 have w1:wrap64 ((L:Int)-1)=((L-1:Nat):Int):=by unfold wrap64;omega
 have hci:∀(w1:World) (i:Nat),i<L→Below w.heap.size w w1→w1.cell? (A.add i)=some (.int .u32 ((x i:Nat):Int)):=λw1 i hi h=>by rw [h.cell (by rw [block_add];exact hA)];exact hc i hi
 have hbl:∀i,i+1<L→bv ([]++D (i+1))++Lib.strCells ⟨(List.replicate (9-Lib.nDigits (x i)) (48:UInt8)).toArray⟩++Lib.strCells (sN (x i))=bv ([]++D i):=λi hi=>by
  rw [← hs i hi,Sm,show Lib.strCells (sN (x i))=bv (Lib.decDigits (x i)) from rfl,← yx,← yx,List.append_assoc,List.append_assoc,List.append_assoc]
 have hbd:bv ([]++D (L-1))=bv []++Lib.strCells (sN (x (L-1))):=by rw [hD,yx];rfl
 have hdl:∀i,(bv ([]++D i)).length≤9*L+1:=λi=>by have:=hdl i;rw [VT,List.length_append];simp only [List.length_cons,List.length_nil];omega
 have hb0:bv ([]++D 0)=([]++D 0:List UInt8).map λb:UInt8=>Value.int .u8 (b.toNat:Int):=rfl
 have hne:[]++D 0≠[]:=by intro e;have:=congrArg List.length e;rw [List.length_append,List.length_nil] at this;omega
 clear hs hD hc;have c1:=hci;have hxt:=hx (L-1);have hdt:=tC (x (L-1));have hgt:=zX hxt;have ctop:=λw1 h=>hci w1 (L-1) (by omega) h
 generalize hxg:x (L-1)=xt at hxt hdt hgt ctop hbd;clear c1
 go_enter Tryz.func255,Tryz.ntmps255
 have e1:=sD w (.cells #[.bool false,.slice (some A) L cap] 28);obtain ⟨r1,r2,hW0,r3⟩:=yu (Below.refl _ ((w.alloc (.cells #[.bool false,.slice (some A) L cap] 28)).alloc (.cells #[.pointer none,.slice none 0 0] 272)));have c1:=ctop _ hW0;have hk0:Wld.ok Tryz.prog ((w.alloc (.cells #[.bool false,.slice (some A) L cap] 28)).alloc (.cells #[.pointer none,.slice none 0 0] 272)):=Wld.keep hW hW0;clear hW0 r1 r2 r3
 go_wp2_with (go_at_call 289;refine (FUa (m:=xt) (by omega) _ hk0).mono ?_)
 rintro e w1 ⟨rfl,hb1⟩;obtain ⟨q0,q1,hW1,hsz⟩:=yu hb1;have hB:Lib.IsBuilder 272 5 (w.heap.size+1) (w.heap.size+1) [] w1:=.inl ⟨Nat.le_refl _,.slice none 0 0,q1,World.ownsRow_nil _ _ _ _,by simp [Value.ownBlock]⟩;clear hb1 c1 hk0
 go_wp2_with (go_at_call 288;refine (ws_ _ _ _ (sN xt) _ hB (by simp only [List.length_nil];omega) (by omega)).mono ?_)
 rintro e w2 ⟨rfl,hB2,hb2⟩;have q2:w2.heap[w.heap.size]?=some (.cells #[.bool false,.slice (some A) L cap] 28 (0,0)):=by rw [hb2.block _ (by omega)];exact q0
 have hW3:Below w.heap.size w w2:=hW1.trans (hb2.mono (by omega));have hs2:w.heap.size+2≤w2.heap.size:=by have:=hb2.size;omega
 clear hB q0 q1 hW1 hsz hb2 ctop;have w2e:wrap64 ((L:Int)-2)=((L-1:Nat):Int)-1:=by unfold wrap64;omega
 rw [show ([]:List Value)++Lib.strCells (sN xt)=bv ([]++D (L-1)) from hbd.symm] at hB2;clear hbd hxg hxt hdt hgt
 go_wp2
 go_loopg [5] L (λkk s5 wr=>∃i:Nat,i+1≤L∧i≤kk∧s5=.int .i64 ((i:Int)-1)∧Lib.BuilderAt 272 5 (w.heap.size+1) (w.heap.size+1) (.pointer (some ⟨w.heap.size+1,0,none⟩)) (bv ([]++D i)) wr ∧
  wr.heap[w.heap.size]?=some (.cells #[.bool false,.slice (some A) L cap] 28 (0,0))∧Below w.heap.size w wr∧w.heap.size+2≤wr.heap.size)
 case atStart =>
  refine ⟨L-1,by omega,by omega,by congr 1;omega, ?_,q2,hW3,hs2⟩;exact hB2
 case round =>
  obtain ⟨i,hi1,hi2,rfl,hBi,qi,hWi,hsi⟩:=hrel;clear hB2 q2 hW3 hs2 w2e w1;have ci:=xZ qi;cases i with
  |zero =>
   clear hci hbl hdl hx;rw [hb0] at hBi
   go_wp2_with (go_at_call 290;refine (Any.Builder_String IQ Ob _ _ ([]++D 0) _ (.inr hBi) hne).mono ?_)
   rintro e w3 ⟨rfl,hb3⟩
   go_wp2
   go_ret
   exact ⟨rfl,hWi.trans (hb3.mono (by omega))⟩
  |succ i =>
   have cy:=hci wr i (by omega) hWi;have hlb:=hx i;have hbl:=hbl i (by omega);have hdl1:=hdl (i+1);have hdl0:=hdl i;have hpos:((i+1:Nat):Int)-1≥0:=by omega
   have hz:((i+1:Nat):Int)-1=(i:Int):=by omega
   have hk1:Wld.ok Tryz.prog wr:=Wld.keep hW hWi;have hsy:=tC (x i);have hdy:=zX hlb;clear hci hdl hb0 hne h0 hx;generalize x i=y at cy hlb hbl hsy hdy;obtain ⟨k,hk⟩:∃k,k+Lib.nDigits y=9:=⟨9-Lib.nDigits y,by omega⟩
   rw [show 9-Lib.nDigits y=k by omega] at hbl;have e9:(9:Int)-(Lib.nDigits y:Int)=(k:Int):=by omega
   have wi:wrap64 ((i:Int)-1)=(i:Int)-1:=by unfold wrap64;omega
   rw [hz] at hpos ⊢;clear hz
   go_wp2_with (go_at_call 289;refine (FUa (m:=y) (by omega) _ hk1).mono ?_)
   rintro e wa ⟨rfl,hba⟩;have hBa:=mY hBi hba;have hsa:w.heap.size+2≤wa.heap.size:=by have:=hba.size;omega
   have qa:wa.heap[w.heap.size]?=some (.cells #[.bool false,.slice (some A) L cap] 28 (0,0)):=by rw [hba.block _ (by omega)];exact qi
   have hWa:Below w.heap.size w wa:=hWi.trans (hba.mono (by omega));clear hBi qi ci cy hWi hsi hba hk1
   go_wp2_with (go_at_call 256;refine (aeJ (k:=k) (by omega) _).mono ?_)
   rintro e wb_ ⟨rfl,hbb⟩;have hBb:=mY hBa hbb;have hsb:w.heap.size+2≤wb_.heap.size:=by have:=hbb.size;omega
   have qb:wb_.heap[w.heap.size]?=some (.cells #[.bool false,.slice (some A) L cap] 28 (0,0)):=by rw [hbb.block _ (by omega)];exact qa
   have hWb:Below w.heap.size w wb_:=hWa.trans (hbb.mono (by omega));clear hBa qa hWa hsa hbb;have hrl:(ByteArray.mk (List.replicate k (48:UInt8)).toArray).size=k:=by show (List.replicate k (48:UInt8)).toArray.size=_;rw [List.size_toArray,List.length_replicate]
   generalize ByteArray.mk (List.replicate k (48:UInt8)).toArray=rs at hrl hbl ⊢
   go_wp2_with (go_at_call 288;refine (ws_ _ _ _ rs _ (.inr hBb) (by omega) (by omega)).mono ?_)
   rintro e wc ⟨rfl,hBc,hbc⟩;have hsc:w.heap.size+2≤wc.heap.size:=by have:=hbc.size;omega
   have qc:wc.heap[w.heap.size]?=some (.cells #[.bool false,.slice (some A) L cap] 28 (0,0)):=by rw [hbc.block _ (by omega)];exact qb
   have hWc:Below w.heap.size w wc:=hWb.trans (hbc.mono (by omega));clear hBb qb hWb hsb hbc
   go_wp2_with (go_at_call 288;refine (ws_ _ _ _ (sN y) _ (.inr hBc) (by rw [List.length_append,Lib.strCells_length];omega) (by omega)).mono ?_)
   rintro e wd ⟨rfl,hBd,hbd⟩;rw [hbl] at hBd;have hsd:w.heap.size+2≤wd.heap.size:=by have:=hbd.size;omega
   have qd:wd.heap[w.heap.size]?=some (.cells #[.bool false,.slice (some A) L cap] 28 (0,0)):=by rw [hbd.block _ (by omega)];exact qc
   have hWd:Below w.heap.size w wd:=hWc.trans (hbd.mono (by omega));clear hBc qc hWc hsc hbd
   go_wp2
   go_roundg i
   case measure=>omega
   case rel=>exact ⟨i,by omega,Nat.le_refl _,rfl,hBd,qd,hWd,hsd⟩
set_option maxHeartbeats 6400000 in
theorem Qz(L:Nat)(x:Nat→Nat)(D:Nat→List UInt8)(A:Addr)(cap:Nat)(w:World)(hW:Wld.ok Tryz.prog w)(hA:A.block<w.heap.size)(hc:∀i,i<L→w.cell? (A.add i)=some (.int .u32 ((x i:Nat):Int)))
 (hn:0<L) (hl:L≤100000) (hx:∀i,x i<1000000000) (hD:D (L-1)=Lib.decDigits (x (L-1))) (hs:∀i,i+1<L→D (i+1)++List.replicate (9-Lib.nDigits (x i)) 48++Lib.decDigits (x i)=D i) (hdl:∀i,(D i).length≤9*L) (h0:0<(D 0).length) :
 Calls Tryz.prog 255 #[.agg #[.bool true,.slice (some A) L cap]] w λe w'=>e=.returned (.string ⟨([45]++D 0).toArray⟩)∧Below w.heap.size w w':=by
 have hln:¬((L:Nat):Int)=0:=by omega
 have w1:wrap64 ((L:Int)-1)=((L-1:Nat):Int):=by unfold wrap64;omega
 have hci:∀(w1:World) (i:Nat),i<L→Below w.heap.size w w1→w1.cell? (A.add i)=some (.int .u32 ((x i:Nat):Int)):=λw1 i hi h=>by rw [h.cell (by rw [block_add];exact hA)];exact hc i hi
 have hbl:∀i,i+1<L→bv ([45]++D (i+1))++Lib.strCells ⟨(List.replicate (9-Lib.nDigits (x i)) (48:UInt8)).toArray⟩++Lib.strCells (sN (x i))=bv ([45]++D i):=λi hi=>by
  rw [← hs i hi,Sm,show Lib.strCells (sN (x i))=bv (Lib.decDigits (x i)) from rfl,← yx,← yx,List.append_assoc,List.append_assoc,List.append_assoc]
 have hbd:bv ([45]++D (L-1))=bv [45]++Lib.strCells (sN (x (L-1))):=by rw [hD,yx];rfl
 have hdl:∀i,(bv ([45]++D i)).length≤9*L+1:=λi=>by have:=hdl i;rw [VT,List.length_append];simp only [List.length_cons,List.length_nil];omega
 have hb0:bv ([45]++D 0)=([45]++D 0:List UInt8).map λb:UInt8=>Value.int .u8 (b.toNat:Int):=rfl
 have hne:[45]++D 0≠[]:=by intro e;have:=congrArg List.length e;rw [List.length_append,List.length_nil] at this;omega
 clear hs hD hc;have c1:=hci;have hxt:=hx (L-1);have hdt:=tC (x (L-1));have hgt:=zX hxt;have ctop:=λw1 h=>hci w1 (L-1) (by omega) h
 generalize hxg:x (L-1)=xt at hxt hdt hgt ctop hbd;clear c1
 go_enter Tryz.func255,Tryz.ntmps255
 have e1:=sD w (.cells #[.bool true,.slice (some A) L cap] 28);obtain ⟨q0,q1,hW0,hsz0⟩:=yu (Below.refl _ ((w.alloc (.cells #[.bool true,.slice (some A) L cap] 28)).alloc (.cells #[.pointer none,.slice none 0 0] 272)));have hB:Lib.IsBuilder 272 5 (w.heap.size+1) (w.heap.size+1) [] ((w.alloc (.cells #[.bool true,.slice (some A) L cap] 28)).alloc (.cells #[.pointer none,.slice none 0 0] 272)):=.inl ⟨Nat.le_refl _,.slice none 0 0,q1,World.ownsRow_nil _ _ _ _,by simp [Value.ownBlock]⟩
 go_wp2_with (go_at_call 287;refine (wb_ _ _ _ 45 _ hB (by decide) (by omega)).mono ?_)
 rintro e w0 ⟨rfl,hB0,hb0'⟩;have hW1:Below w.heap.size w w0:=hW0.trans (hb0'.mono (by omega));have q5:w0.heap[w.heap.size]?=some (.cells #[.bool true,.slice (some A) L cap] 28 (0,0)):=by rw [hb0'.block _ (by omega)];exact q0
 have c5:=xZ q5;have c6:=ctop w0 hW1;clear hB q0 q1 hW0;have hs0:w.heap.size+2≤w0.heap.size:=by have:=hb0'.size;omega
 clear hb0';have hk0:Wld.ok Tryz.prog w0:=Wld.keep hW hW1
 go_wp2_with (go_at_call 289;refine (FUa (m:=xt) (by omega) _ hk0).mono ?_)
 rintro e w1 ⟨rfl,hb1⟩;have hW2:Below w.heap.size w w1:=hW1.trans (hb1.mono (by omega));have hB1:=mY hB0 hb1;have q6:w1.heap[w.heap.size]?=some (.cells #[.bool true,.slice (some A) L cap] 28 (0,0)):=by rw [hb1.block _ (by omega)];exact q5
 have hs1:w.heap.size+2≤w1.heap.size:=by have:=hb1.size;omega
 clear hb1 c5 c6 hk0
 go_wp2_with (go_at_call 288;refine (ws_ _ _ _ (sN xt) _ (.inr hB1) (by simp only [List.length_append,List.length_nil,List.length_cons];omega) (by omega)).mono ?_)
 rintro e w2 ⟨rfl,hB2,hb2⟩;have q2:w2.heap[w.heap.size]?=some (.cells #[.bool true,.slice (some A) L cap] 28 (0,0)):=by rw [hb2.block _ (by omega)];exact q6
 have hW3:Below w.heap.size w w2:=hW2.trans (hb2.mono (by omega));have hs2:w.heap.size+2≤w2.heap.size:=by have:=hb2.size;omega
 clear hB1 hB0 q5 q6 hW1 hW2 hs0 hs1 hb2 hsz0 ctop;have w2e:wrap64 ((L:Int)-2)=((L-1:Nat):Int)-1:=by unfold wrap64;omega
 rw [show ([]:List Value)++[.int .u8 45]++Lib.strCells (sN xt)=bv ([45]++D (L-1)) from hbd.symm] at hB2;clear hbd hxg hxt hdt hgt
 go_wp2
 go_loopg [5] L (λkk s5 wr=>∃i:Nat,i+1≤L∧i≤kk∧s5=.int .i64 ((i:Int)-1)∧Lib.BuilderAt 272 5 (w.heap.size+1) (w.heap.size+1) (.pointer (some ⟨w.heap.size+1,0,none⟩)) (bv ([45]++D i)) wr ∧
  wr.heap[w.heap.size]?=some (.cells #[.bool true,.slice (some A) L cap] 28 (0,0))∧Below w.heap.size w wr∧w.heap.size+2≤wr.heap.size)
 case atStart =>
  refine ⟨L-1,by omega,by omega,by congr 1;omega, ?_,q2,hW3,hs2⟩;exact hB2
 case round =>
  obtain ⟨i,hi1,hi2,rfl,hBi,qi,hWi,hsi⟩:=hrel;clear hB2 q2 hW3 hs2 w2e w1;have ci:=xZ qi;cases i with
  |zero =>
   clear hci hbl hdl hx;rw [hb0] at hBi
   go_wp2_with (go_at_call 290;refine (Any.Builder_String IQ Ob _ _ ([45]++D 0) _ (.inr hBi) hne).mono ?_)
   rintro e w3 ⟨rfl,hb3⟩
   go_wp2
   go_ret
   exact ⟨rfl,hWi.trans (hb3.mono (by omega))⟩
  |succ i =>
   have cy:=hci wr i (by omega) hWi;have hlb:=hx i;have hbl:=hbl i (by omega);have hdl1:=hdl (i+1);have hdl0:=hdl i;have hpos:((i+1:Nat):Int)-1≥0:=by omega
   have hz:((i+1:Nat):Int)-1=(i:Int):=by omega
   have hk1:Wld.ok Tryz.prog wr:=Wld.keep hW hWi;have hsy:=tC (x i);have hdy:=zX hlb;clear hci hdl hb0 hne h0 hx;generalize x i=y at cy hlb hbl hsy hdy;obtain ⟨k,hk⟩:∃k,k+Lib.nDigits y=9:=⟨9-Lib.nDigits y,by omega⟩
   rw [show 9-Lib.nDigits y=k by omega] at hbl;have e9:(9:Int)-(Lib.nDigits y:Int)=(k:Int):=by omega
   have wi:wrap64 ((i:Int)-1)=(i:Int)-1:=by unfold wrap64;omega
   rw [hz] at hpos ⊢;clear hz
   go_wp2_with (go_at_call 289;refine (FUa (m:=y) (by omega) _ hk1).mono ?_)
   rintro e wa ⟨rfl,hba⟩;have hBa:=mY hBi hba;have hsa:w.heap.size+2≤wa.heap.size:=by have:=hba.size;omega
   have qa:wa.heap[w.heap.size]?=some (.cells #[.bool true,.slice (some A) L cap] 28 (0,0)):=by rw [hba.block _ (by omega)];exact qi
   have hWa:Below w.heap.size w wa:=hWi.trans (hba.mono (by omega));clear hBi qi ci cy hWi hsi hba hk1
   go_wp2_with (go_at_call 256;refine (aeJ (k:=k) (by omega) _).mono ?_)
   rintro e wb_ ⟨rfl,hbb⟩;have hBb:=mY hBa hbb;have hsb:w.heap.size+2≤wb_.heap.size:=by have:=hbb.size;omega
   have qb:wb_.heap[w.heap.size]?=some (.cells #[.bool true,.slice (some A) L cap] 28 (0,0)):=by rw [hbb.block _ (by omega)];exact qa
   have hWb:Below w.heap.size w wb_:=hWa.trans (hbb.mono (by omega));clear hBa qa hWa hsa hbb;have hrl:(ByteArray.mk (List.replicate k (48:UInt8)).toArray).size=k:=by show (List.replicate k (48:UInt8)).toArray.size=_;rw [List.size_toArray,List.length_replicate]
   generalize ByteArray.mk (List.replicate k (48:UInt8)).toArray=rs at hrl hbl ⊢
   go_wp2_with (go_at_call 288;refine (ws_ _ _ _ rs _ (.inr hBb) (by omega) (by omega)).mono ?_)
   rintro e wc ⟨rfl,hBc,hbc⟩;have hsc:w.heap.size+2≤wc.heap.size:=by have:=hbc.size;omega
   have qc:wc.heap[w.heap.size]?=some (.cells #[.bool true,.slice (some A) L cap] 28 (0,0)):=by rw [hbc.block _ (by omega)];exact qb
   have hWc:Below w.heap.size w wc:=hWb.trans (hbc.mono (by omega));clear hBb qb hWb hsb hbc
   go_wp2_with (go_at_call 288;refine (ws_ _ _ _ (sN y) _ (.inr hBc) (by rw [List.length_append,Lib.strCells_length];omega) (by omega)).mono ?_)
   rintro e wd ⟨rfl,hBd,hbd⟩;rw [hbl] at hBd;have hsd:w.heap.size+2≤wd.heap.size:=by have:=hbd.size;omega
   have qd:wd.heap[w.heap.size]?=some (.cells #[.bool true,.slice (some A) L cap] 28 (0,0)):=by rw [hbd.block _ (by omega)];exact qc
   have hWd:Below w.heap.size w wd:=hWc.trans (hbd.mono (by omega));clear hBc qc hWc hsc hbd
   go_wp2
   go_roundg i
   case measure=>omega
   case rel=>exact ⟨i,by omega,Nat.le_refl _,rfl,hBd,qd,hWd,hsd⟩
theorem adS(A:Option Addr)(cap:Nat)(b:Bool)(w:World):Calls Tryz.prog 255 #[.agg #[.bool b,.slice A 0 cap]] w λe w'=>e=.returned (.string ⟨#[48]⟩)∧Below w.heap.size w w':=by
 go_enter Tryz.func255,Tryz.ntmps255
 go_wp2
 go_ret
 refine ⟨rfl,⟨rfl,rfl,rfl,by rw [sD];omega,λk hk=>Lib.alloc_old _ _ _ hk⟩⟩
theorem WJ{n:Int}(hp:sz n≤100000){w:World}{X:List Nat}{u:Value}(hW:Wld.ok Tryz.prog w)(hu:IntV w X u n):Calls Tryz.prog 255 #[u] w λe w'=>e=.returned (.string (lD n))∧Below w.heap.size w w':=by
 obtain ⟨_,rfl,A,c,rfl,hu⟩:=hu
 by_cases h0:n=0
 ·subst h0;rw [show (0:Int).natAbs=0 from rfl,eH];have e:lD 0=⟨#[48]⟩:=by unfold lD;rw [show (0:Int).natAbs=0 from rfl,mg (by decide)];rfl
  rw [e];exact adS A c _ w
 ·have hn:0<(lim n.natAbs).length:=by rw [kJ (by omega)];simp
  obtain ⟨ad,rfl,h1,_,h3⟩:=hu.cl (by intro e;have:=congrArg List.length e;simp [us] at this;rw [this] at hn;exact absurd hn (by decide))
  have hc:∀i,i<(lim n.natAbs).length→w.cell? (ad.add i)=some (.int .u32 ((n.natAbs / 1000000000 ^ i % 1000000000:Nat):Int)):=λi hi=>h3 i _ (by
   show ((lim n.natAbs).map _)[i]?=_
   rw [List.getElem?_map,abd hi];rfl)
  have hD0:Lib.decDigits (n.natAbs / 1000000000 ^ 0)=Lib.decDigits n.natAbs:=by rw [Nat.pow_zero,Nat.div_one]
  have r0:=Po (lim n.natAbs).length (λi=>n.natAbs / 1000000000 ^ i % 1000000000) (λi=>Lib.decDigits (n.natAbs / 1000000000 ^ i)) ad c w hW h1 hc hn hp (λi=>Nat.mod_lt _ (by decide)) (by rw [IW hn]) (λi hi=>(JD hi).symm) (λi=>Jb hn) (Nb _);have r1:=Qz (lim n.natAbs).length (λi=>n.natAbs / 1000000000 ^ i % 1000000000) (λi=>Lib.decDigits (n.natAbs / 1000000000 ^ i)) ad c w hW h1 hc hn hp (λi=>Nat.mod_lt _ (by decide)) (by rw [IW hn]) (λi hi=>(JD hi).symm) (λi=>Jb hn) (Nb _);rw [hD0] at r0 r1;unfold lD
  by_cases hz:n<0
  ·rw [if_pos hz,decide_eq_true hz];exact r1
  ·rw [if_neg hz,decide_eq_false hz];exact r0
instance aib(n:Int):DenI Tryz.prog 255 [Z n] (sz n≤100000) (.c (.v (.string (lD n)))):=⟨λhp=>by
 refine Den.of ⟨by kernel_rfl,λw X vs hW hX hl hr=>?_⟩ rfl
 match vs,hl with
 |[u],_ =>
 have hu:=hr 0 u _ rfl rfl;refine Calls.mono (WJ hp hW hu.int_) ?_;rintro e w' ⟨rfl,hb⟩
 exact ⟨_,rfl,(RepR.d (.c (.v _ rfl))).f,hb⟩⟩
end Go.Proofs.YtmniihkenijjpaaGreatDoor
namespace Go.Proofs.YtmniihkenijjpaaGreatDoor
open Go Go.RowKit Go.Sw
set_option maxRecDepth 100000
set_option maxHeartbeats 8000000
set_option synthInstance.maxSize 4000
set_option synthInstance.maxHeartbeats 400000
instance ag4(n:Int):DenI Tryz.prog 227 [Z n] (sz n≤100000) (.str (lD n)):=⟨λhp=>by
 have hsz:(lim n.natAbs).length≤100000:=hp
 all_goals refine qA (τ:=tabs) NG fF Tryz.func227 rfl (by kernel_rfl) (by kernel_rfl) (by kernel_rfl) ?_
 all_goals (repeat' ((try (conv=>whnf));first
  |(with_reducible refine au (λ_=>?_) (λ_=>?_))
  |refine Ends.mk ?_))
 all_goals (try simp only [Option.getD_some,Option.getD_none,Int.toNat_natCast,Int.toNat_zero,qF,kZ,ByteArray.size_extract,uF,decide_eq_true_eq,decide_eq_false_iff_not,List.foldl_cons,List.foldl_nil] at *)
 all_goals first
  |((conv=>whnf);refine Sw.Loop.inv (α:=Nat) (λx=>[(1,.ptr 1 0),(3,.str (xO (9*x) n.natAbs)),(4,.int .i64 (x:Nat))]) (λx=>[(1,.var [zs n,zl n])]) (λx=>x≤(lim n.natAbs).length∧True) (λx=>(lim n.natAbs).length-x) 0 ?_ ?_ ?_ (λx hx=>?_))
  |skip
 all_goals (repeat' ((try (conv=>whnf));first
  |(with_reducible refine au (λ_=>?_) (λ_=>?_))
  |(with_reducible refine bH ?_ ?_)))
 all_goals (try refine Pr.mk ?_)
 all_goals (try simp only [Option.getD_some,Option.getD_none,Int.toNat_natCast,Int.toNat_zero,qF,kZ,ByteArray.size_extract,uF,decide_eq_true_eq,decide_eq_false_iff_not,List.foldl_cons,List.foldl_nil] at *)
 all_goals (try simp only [List.length_map] at *)
 all_goals first
  |(have hg:x<(lim n.natAbs).length:=(by omega);(conv=>whnf);refine Sw.Loop.inv (α:=Nat) (λk=>[(1,.ptr 1 0),(3,.str (xO (9*x+k) n.natAbs)),(4,.int .i64 (x:Nat)),(5,.int .u32 ((n.natAbs / 1000000000 ^ x % 1000000000 / 10 ^ k:Nat):Int)),(6,.int .i64 (k:Nat))]) (λk=>[(1,.var [zs n,zl n])]) (λk=>k≤9∧True) (λk=>9-k) 0 ?_ ?_ ?_ (λk hk=>?_))
  |skip
 all_goals (repeat' ((try (conv=>whnf));first
  |(with_reducible refine au (λ_=>?_) (λ_=>?_))
  |refine aU ?_ ?_))
 all_goals (try refine Pr.mk ?_)
 all_goals (try simp only [Option.getD_some,Option.getD_none,Int.toNat_natCast,Int.toNat_zero,qF,kZ,ByteArray.size_extract,uF,decide_eq_true_eq,decide_eq_false_iff_not,List.foldl_cons,List.foldl_nil] at *)
 all_goals first
  |(have hg:¬x<(lim n.natAbs).length:=(by omega);(conv=>whnf);refine Sw.Loop.inv (α:=Nat) (λj=>[(1,.ptr 1 0),(3,.str (JI j n.natAbs))]) (λj=>[(1,.var [zs n,zl n])]) (λj=>j≤9*(lim n.natAbs).length∧True) (λj=>j) (9*(lim n.natAbs).length-Lib.nDigits n.natAbs) ?_ ?_ ?_ (λj hj=>?_))
  |skip
 all_goals (repeat' ((try (conv=>whnf));first
  |(with_reducible refine au (λ_=>?_) (λ_=>?_))
  |refine aU ?_ ?_
  |refine dF ?_ ?_
  |(with_reducible refine tN ?_ ?_)
  |refine Ends.mk ?_))
 all_goals (try refine Pr.mk ?_)
 all_goals first|(show SubE _ _;repeat' (first|exact trivial|refine And.intro ?_ ?_))|(show SubB _ _;repeat' (first|exact trivial|refine And.intro ?_ ?_))|skip
 all_goals (try rfl)
 all_goals (try simp only [Option.getD_some,Option.getD_none,Int.toNat_natCast,Int.toNat_zero,qF,kZ,ByteArray.size_extract,uF,decide_eq_true_eq,decide_eq_false_iff_not,List.foldl_cons,List.foldl_nil] at *)
 all_goals first
  |(obtain rfl:n=0:=(by have:=oU n.natAbs;omega);exact Jv Z7)
  |omega
  |exact XQ _ _
  |(rw [aco (by omega),Qm];omega)
  |exact ⟨by omega,trivial⟩
  |((conv=>whnf);exact ⟨k+1,⟨⟨rfl,Yq (by omega),rfl,congrArg (λz=>some (AV.int .u32 z)) X3,aX (by omega),trivial⟩,⟨rfl,trivial⟩,⟨by omega,trivial⟩,by show 9-(k+1)<9-k;omega⟩⟩)
  |((conv=>whnf);exact ⟨x+1,⟨⟨rfl,YE (by omega) (by assumption),aX (by omega),trivial⟩,⟨rfl,trivial⟩,⟨by omega,trivial⟩,by show (lim n.natAbs).length-(x+1)<(lim n.natAbs).length-x;omega⟩⟩)
  |exact YS (by omega) (by omega) (by assumption)
  |(have h0:=oU n.natAbs;have z:=afW (m:=n.natAbs) (by omega) (by assumption);((conv=>whnf);exact ⟨j-1,⟨⟨rfl,congrArg (λz=>some (AV.str z)) (abr z),trivial⟩,⟨rfl,trivial⟩,⟨by omega,trivial⟩,by show j-1<j;omega⟩⟩))
  |(have z:=Jy j n.natAbs;have z2:=Lib.nDigits_pos n.natAbs;(repeat' apply And.intro)<;>first|omega|(intro h;cases h;done)|(intro h;rfl))
  |(have z:=Jy j n.natAbs;have z2:=TT hsz (by decide);have z3:(ByteArray.mk #[45]).size=1:=rfl;omega)
  |(have h0:=oU n.natAbs;obtain rfl:=Zv (m:=n.natAbs) (by omega) (by assumption);exact Jv (SE (by assumption)))
  |(have h0:=oU n.natAbs;obtain rfl:=Zv (m:=n.natAbs) (by omega) (by assumption);exact Jv (SI (by assumption)))⟩
end Go.Proofs.YtmniihkenijjpaaGreatDoor
namespace Go.Proofs.YtmniihkenijjpaaGreatDoor
open Go Go.RowKit Go.Sw Go.Shelf
set_option maxRecDepth 100000
set_option maxHeartbeats 8000000
set_option synthInstance.maxSize 4000
set_option synthInstance.maxHeartbeats 400000
instance aeK{f:FuncId}{xs:List AV}{pre c:Prop}{r s:AV}[h : @DenC Tryz.prog Vh f xs pre c r s]:@DenC Tryz.prog BD f xs pre c r s:=⟨λhp=>⟨λhc=>pJ Vh BD (λ_ _=>trivial) ((h.den hp).1 hc),λhc=>pJ Vh BD (λ_ _=>trivial) ((h.den hp).2 hc)⟩⟩
end Go.Proofs.YtmniihkenijjpaaGreatDoor
namespace Go.Proofs.YtmniihkenijjpaaGreatDoor
open Go Go.RowKit Go.Sw
set_option maxRecDepth 100000
set_option maxHeartbeats 8000000
set_option synthInstance.maxSize 4000
set_option synthInstance.maxHeartbeats 400000
instance aiA(a b c d:Rat):DenI Tryz.prog 93 [Q2 a b,Q2 c d] (rz a≤1000∧rz b≤1000∧rz c≤1000∧rz d≤1000) (.bool (decide (a=c) && decide (b=d))):=⟨λhp=>by
 have i_a:RzB a 1000:=⟨hp.1⟩
 have i_b:RzB b 1000:=⟨hp.2.1⟩
 have i_c:RzB c 1000:=⟨hp.2.2.1⟩
 have i_d:RzB d 1000:=⟨hp.2.2.2⟩
 all_goals refine qA (τ:=tab) aa8 fF Tryz.func93 rfl (by kernel_rfl) (by kernel_rfl) (by kernel_rfl) ?_
 all_goals (repeat' ((try (conv=>whnf));first
  |refine ak ?_ ?_
  |(with_reducible refine aJ ?_)
  |(with_reducible refine aK ?_)
  |(with_reducible refine au (λ_=>?_) (λ_=>?_))
  |refine Ends.mk ?_))
 all_goals (try refine Pr.mk ?_)
 all_goals (try simp only [dU] at *)
 all_goals first
  |(simp only [aaP,aby,mkA,mkB,mkC,ade,ptC, *,true_or,or_true,if_true,if_false,or_self,and_self,and_true,true_and,and_false,false_and,not_true,not_false_iff,Bool.false_eq_true,decide_true,decide_false,Bool.or_true,Bool.true_or,Bool.or_false,Bool.false_or];rfl)
  |((repeat' apply And.intro)<;>first|assumption|exact uN (by omega)|exact vO (by omega)|exact Int.mul_ne_zero (aH _) (aH _))⟩
instance ah8(a b c d:Rat):DenI Tryz.prog 123 [Q2 a b,Q2 c d] (rz a≤1000∧rz b≤1000∧rz c≤1000∧rz d≤1000) (R (iH (a,b) (c,d))):=⟨λhp=>by
 have i_a:RzB a 1000:=⟨hp.1⟩
 have i_b:RzB b 1000:=⟨hp.2.1⟩
 have i_c:RzB c 1000:=⟨hp.2.2.1⟩
 have i_d:RzB d 1000:=⟨hp.2.2.2⟩
 all_goals refine qA (τ:=tab) aa8 fF Tryz.func123 rfl (by kernel_rfl) (by kernel_rfl) (by kernel_rfl) ?_
 all_goals (repeat' ((try (conv=>whnf));first
  |refine ak ?_ ?_
  |refine Drw.mk (by kernel_rfl) ?_
  |refine Ends.mk ?_))
 all_goals (try refine Pr.mk ?_)
 all_goals first
  |rfl
  |((repeat' apply And.intro)<;>first|assumption|exact uN (by omega)|exact vO (by omega)|exact Int.mul_ne_zero (aH _) (aH _))⟩
end Go.Proofs.YtmniihkenijjpaaGreatDoor
